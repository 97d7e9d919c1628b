/- The second law, walked -/
import Derived.Test.YthcijbldajbjiaaDoorProg
import Derived.Test.YthcijbldajbjiaaDoorEng2
import Derived.Test.YthcijbldajbjiaaDoorShaSpec2
import Derived.Test.YthcijbldajbjiaaDoorAbc
import Derived.Test.YthcijbldajbjiaaDoorSha1
import Derived.Test.YthcijbldajbjiaaDoorSha2
import Derived.Test.YthcijbldajbjiaaDoorSha3
import Derived.Test.YthcijbldajbjiaaDoorSha4
import Derived.Test.YthcijbldajbjiaaDoorSha5
set_option linter.unusedVariables false
set_option maxRecDepth 4000
namespace Go.Proofs.YthcijbldajbjiaaDoor
open Go.V Go.Sha
theorem lengths_law_any {tK : TypeId} (n : Nat) (hn : n ≤ 255) (c : UInt8) (w : World) (hK : Blk w 0 tK (iv .u32 K)) : Calls Tryd.prog 4 #[.int .u8 (n : Int), .int .u8 ((c.toNat : Nat) : Int)] w (RetC (.bool true) w) := by
  refine calls_of_TE (vs := [.int .u8 (n : Int), .int .u8 ((c.toNat : Nat) : Int)]) Tryd.func4 Tryd.ntmps4 rfl (by simp) ?_
  have hC : Chg [] w w := Chg.refl _ _
  have h0w : 0 < w.heap.size := hK.lt
  refine TE.seq ?_
  refine TE.region ?_
  refine OL.pure (Pure.assign rfl) rfl ?_
  refine OL.nil ?_
  refine TE.seq ?_
  refine TE.region ?_
  refine OL.pure (Pure.assign rfl) rfl ?_
  refine OL.nil ?_
  refine TE.seq ?_
  refine TE.seq ?_
  refine TE.region ?_
  refine OL.pure (Pure.assign rfl) rfl ?_
  refine OL.nil ?_
  refine TE.block ?_
  refine TE.loopInv (σ := Nat × Value) [0, 1, 5, 6] (fun s_ w_ => match s_ with | (j, v) => j ≤ n ∧ Row w_ 5 1 v j (bv (List.replicate j c)) ∧ Mine w.heap.size v ∧ Chg [] w w_ ∧ Blk w_ 0 tK (iv .u32 K)) (fun s_ => [(0, .int .u8 (↑n)), (1, .int .u8 ((c.toNat : Nat) : Int)), (5, s_.2), (6, .int .i64 (↑s_.1))]) (fun s_ => n - s_.1) (0, .slice none 0 0) ⟨by omega, Row.nil _ _ _, Mine.nil _, hC, hK⟩ rfl ?_
  rintro ⟨j, v⟩ w1 ⟨hj, hv, hm_v, hC, hK⟩ ih1
  try dsimp only
  refine TE.seq ?_
  refine TE.seq ?_
  refine TE.region ?_
  refine OL.pure (Pure.move rfl) rfl ?_
  refine OL.pure (Pure.move rfl) rfl ?_
  refine OL.pure (Pure.conv Tryd.runUnderlying5 Tryd.runUnderlying3 rfl (i64in (by omega) (by omega))) rfl ?_
  refine OL.pure (Pure.lss rfl rfl) rfl ?_
  refine OL.nil ?_
  refine TE.ite rfl (fun hlt => ?_) (fun hlt => ?_)
  ·
    refine TE.skip ?_
    refine TE.seq ?_
    refine TE.block ?_
    refine TE.region ?_
    refine OL.pure (Pure.move rfl) rfl ?_
    refine OL.pure (Pure.move rfl) rfl ?_
    refine OL.buildSlice (cs := [.int .u8 ((c.toNat : Nat) : Int)]) rfl Tryd.runUnderlying29 Tryd.sizeOf5 Tryd.zeroValue5 (by decide) (by decide) (by kernel_rfl) rfl ?_
    intro q w2 hq hc2 hg_q
    have lt_0_q : 0 < q := by have := hK.lt; omega
    have ge_q : w.heap.size ≤ q := by have := hC.size; omega
    replace hK := hK.chg0 hc2
    replace hv := hv.chg0 hc2
    replace hC := hC.then_ hc2
    refine OL.append (size := 1) (news := [.int .u8 ((c.toNat : Nat) : Int)]) (v := v) rfl rfl Tryd.underlying29 (.inl Tryd.underlying29) info5 rfl rfl rfl (by decide) rfl hv ((Src.of_blk hq rfl rfl)) (by simp [Value.oneCell']) (by show _ * 1 ≤ _; omega) ?_
    intro v2 w3 hv2 hc3 ho_v2
    have hm_v2 : Mine w.heap.size v2 := Mine.step hm_v (by have := hC.size; omega) ho_v2
    replace hK := hK.chg hc3 (fun h_ => absurd (hm_v _ h_) (by omega))
    replace hC := hC.own hc3 hm_v
    replace hv2 : Row w3 5 1 v2 (j + 1) (bv (List.replicate (j + 1) c)) := by rw [rep_snoc, ← bv_one]; exact hv2
    refine OL.pure (Pure.assign rfl) rfl ?_
    refine OL.nil ?_
    refine TE.inBlock ?_
    refine TE.region ?_
    refine OL.pure (Pure.move rfl) rfl ?_
    refine OL.pure (Pure.add rfl rfl (i64 (by omega) (by omega))) rfl ?_
    refine OL.pure (Pure.assign rfl) rfl ?_
    refine OL.nil ?_
    exact TE.sub [0, 1, 5, 6] rfl (ih1 (j + 1, v2) _ ⟨by omega, hv2, hm_v2, hC, hK⟩ (by simp only []; omega))
  ·
    obtain rfl : j = n := by omega
    refine TE.exit rfl ?_
    refine TE.seq ?_
    refine TE.region ?_
    refine OL.pure (Pure.move rfl) rfl ?_
    refine OL.val (Run.rowStr Tryd.underlying29 Tryd.underlying5 Tryd.underlying9 rfl hv) rfl ?_
    obtain ⟨m, hm⟩ : ∃ m, m = List.replicate j c := ⟨_, rfl⟩
    have hml : m.length ≤ 255 := by rw [hm]; simp; omega
    refine OL.pure (Pure.assign rfl) rfl ?_
    refine OL.cast (.string (str m)) 7 rfl (by rw [hm]) ?_
    refine OL.nil ?_
    refine TE.seq ?_
    refine TE.planAll [(0, true), (3, true), (4, true), (1, false), (2, true), (5, false), (6, true), (7, true), (8, true)] (fun w_ => Chg [] w1 w_) rfl (by kernel_rfl) ?_
    have hS4 : Chg [] w1 w1.drew := Chg.drew _ _
    replace hK := hK.chg0 hS4
    replace hC := hC.then_ hS4
    refine PL.takeP rfl (Pure.move rfl) rfl hS4 ?_
    refine PL.takeP rfl (Pure.move rfl) rfl hS4 ?_
    refine PL.takeP rfl (Pure.strAdd (l := m) (m := [0]) rfl rfl (by first | omega | (simp; omega))) rfl hS4 ?_
    refine PL.call rfl rfl Tryd.call18 rfl (rPad_any m (by omega) _) ?_
    rintro _ w5 ⟨pv, rfl, hpv, hc5, hm_pv⟩
    have hc5s := hS4.then_ hc5
    replace hm_pv : Mine w.heap.size pv := fun k hk => Nat.le_trans hC.size (hm_pv k hk)
    replace hK := hK.chg0 hc5
    replace hC := hC.then_ hc5
    refine ⟨_, rfl, hc5s, ?_⟩
    refine PL.takeS (fun w_ => Chg [] w5 w_) (fun _ h_ => hc5s.then_ h_) rfl (fun w_ h_ => Run.rowStr Tryd.underlying29 Tryd.underlying5 Tryd.underlying9 rfl (hpv.chg0 h_)) rfl (Chg.refl _ _) ?_
    have hP6 : Chg [] w5 w5 := Chg.refl _ _
    refine PL.call rfl rfl Tryd.call18 rfl (rPad_any (m ++ [0]) (by simp; omega) _) ?_
    rintro _ w7 ⟨pv2, rfl, hpv2, hc7, hm_pv2⟩
    have hc7s := hP6.then_ hc7
    replace hm_pv2 : Mine w.heap.size pv2 := fun k hk => Nat.le_trans hC.size (hm_pv2 k hk)
    replace hK := hK.chg0 hc7
    replace hpv := hpv.chg0 hc7
    replace hC := hC.then_ hc7
    refine ⟨_, rfl, hc7s, ?_⟩
    refine PL.takeS (fun w_ => Chg [] w7 w_) (fun _ h_ => hc7s.then_ h_) rfl (fun w_ h_ => Run.rowStr Tryd.underlying29 Tryd.underlying5 Tryd.underlying9 rfl (hpv2.chg0 h_)) rfl (Chg.refl _ _) ?_
    have hP8 : Chg [] w7 w7 := Chg.refl _ _
    refine PL.takeP rfl (Pure.assign rfl) rfl hP8 ?_
    refine PL.takeP rfl (Pure.assign rfl) rfl hP8 ?_
    refine PL.nil ?_
    refine TE.seq ?_
    refine TE.region ?_
    refine OL.call rfl Tryd.call15 rfl (known_any _ hK) ?_
    rintro _ w9 ⟨rfl, hc9⟩
    replace hK := hK.chg0 hc9
    replace hC := hC.then_ hc9
    refine ⟨_, rfl, ?_⟩
    refine OL.pure (Pure.move rfl) rfl ?_
    refine OL.want rfl rfl rfl (Pure.move rfl _) rfl ?_
    refine OL.callG rfl rfl rfl rfl Tryd.call16 rfl (sum_any m (by omega) _ hK) ?_
    rintro _ w10 ⟨rfl, hc10⟩
    replace hK := hK.chg0 hc10
    replace hC := hC.then_ hc10
    refine ⟨_, rfl, ?_⟩
    refine OL.want rfl rfl rfl (Pure.move rfl _) rfl ?_
    refine OL.callG rfl rfl rfl rfl Tryd.call17 rfl (rsum_any m (by omega) _) ?_
    rintro _ w11 ⟨rfl, hc11⟩
    replace hK := hK.chg0 hc11
    replace hC := hC.then_ hc11
    refine ⟨_, rfl, ?_⟩
    refine OL.want rfl rfl rfl (Pure.eqlArr (xs := sum m) (ys := sum m) Tryd.underlying24 Tryd.underlying5 info5 (by kernel_rfl) Tryd.eqGuardType24 rfl rfl (rfl) (rfl) _) rfl ?_
    refine OL.cast (.bool true) 35 rfl (congrArg Value.bool (decide_eq_true rfl)) ?_
    refine OL.pure (Pure.pickT rfl rfl) rfl ?_
    refine OL.pure (Pure.move rfl) rfl ?_
    refine OL.want rfl rfl rfl (Pure.move rfl _) rfl ?_
    refine OL.want rfl rfl rfl (Pure.strAdd (l := m) (m := [0]) rfl rfl (by first | omega | (simp; omega)) _) rfl ?_
    refine OL.callG rfl rfl rfl rfl Tryd.call16 rfl (sum_any (m ++ [0]) (by simp; omega) _ hK) ?_
    rintro _ w12 ⟨rfl, hc12⟩
    replace hK := hK.chg0 hc12
    replace hC := hC.then_ hc12
    refine ⟨_, rfl, ?_⟩
    refine OL.want rfl rfl rfl (Pure.move rfl _) rfl ?_
    refine OL.want rfl rfl rfl (Pure.strAdd (l := m) (m := [0]) rfl rfl (by first | omega | (simp; omega)) _) rfl ?_
    refine OL.callG rfl rfl rfl rfl Tryd.call17 rfl (rsum_any (m ++ [0]) (by simp; omega) _) ?_
    rintro _ w13 ⟨rfl, hc13⟩
    replace hK := hK.chg0 hc13
    replace hC := hC.then_ hc13
    refine ⟨_, rfl, ?_⟩
    refine OL.want rfl rfl rfl (Pure.eqlArr (xs := sum (m ++ [0])) (ys := sum (m ++ [0])) Tryd.underlying24 Tryd.underlying5 info5 (by kernel_rfl) Tryd.eqGuardType24 rfl rfl (rfl) (rfl) _) rfl ?_
    refine OL.cast (.bool true) 44 rfl (congrArg Value.bool (decide_eq_true rfl)) ?_
    refine OL.pure (Pure.pickT rfl rfl) rfl ?_
    refine OL.pure (Pure.move rfl) rfl ?_
    refine OL.want rfl rfl rfl (Pure.move rfl _) rfl ?_
    refine OL.want rfl rfl rfl (Pure.move rfl _) rfl ?_
    refine OL.want rfl rfl rfl (Pure.strNeq (l := (pad m)) (m := (pad (m ++ [0]))) rfl rfl _) rfl ?_
    refine OL.cast (.bool true) 49 rfl (congrArg Value.bool (decide_eq_true (pad_snoc m 0))) ?_
    refine OL.pure (Pure.pickT rfl rfl) rfl ?_
    refine OL.pure (Pure.move rfl) rfl ?_
    refine OL.want rfl rfl rfl (Pure.move rfl _) rfl ?_
    refine OL.want rfl rfl rfl (Pure.lenStr Tryd.runUnderlying9 rfl _) rfl ?_
    refine OL.want rfl rfl rfl (Pure.rem rfl rfl (by omega) (by omega) _) rfl ?_
    refine OL.want rfl rfl rfl (Pure.eql rfl rfl _) rfl ?_
    refine OL.cast (.bool true) 55 rfl (congrArg Value.bool (decide_eq_true (by have := pad_len m; omega))) ?_
    refine OL.pure (Pure.pickT rfl rfl) rfl ?_
    refine OL.pure (Pure.assign rfl) rfl ?_
    refine OL.nil ?_
    exact TE.ret (vs := [.bool true]) Tryd.results4 (⟨rfl, trivial⟩) ⟨rfl, hC⟩

end Go.Proofs.YthcijbldajbjiaaDoor
