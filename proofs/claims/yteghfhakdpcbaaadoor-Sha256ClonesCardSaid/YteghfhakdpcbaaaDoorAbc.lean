/- The digest of 'abc', by the kernel. -/
import Derived.Test.YteghfhakdpcbaaaDoorShaSpec2
set_option linter.unusedVariables false
namespace Go.Sha
open Go.V
theorem abc_sum : sum [97, 98, 99] = dig (comp init (bt (pad [97, 98, 99]))) := by
  rw [sum, absorb_big _ (by decide +kernel), absorb_small _ (by decide +kernel)]
  congr 2
theorem abc_first : (sum [97, 98, 99]).getD 0 0 = 186 := by rw [abc_sum]; decide +kernel
theorem abc_last : (sum [97, 98, 99]).getD 31 0 = 173 := by rw [abc_sum]; decide +kernel
theorem sum_len (m : List UInt8) : (sum m).length = 32 := rfl
end Go.Sha
