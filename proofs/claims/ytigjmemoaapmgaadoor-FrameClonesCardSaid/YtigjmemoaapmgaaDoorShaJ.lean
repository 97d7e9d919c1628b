/- Join and its reference, walked -/
import Derived.Test.YtigjmemoaapmgaaDoorProg
import Derived.Test.YtigjmemoaapmgaaDoorEng4
import Derived.Test.YtigjmemoaapmgaaDoorShaSpec4
import Derived.Test.YtigjmemoaapmgaaDoorSha4
set_option linter.unusedVariables false
set_option maxRecDepth 4000
namespace Go.Proofs.YtigjmemoaapmgaaDoor
open Go.V Go.Sha
theorem join_big (t : UInt8) (A : Option Addr) (cap : Nat) (L : List (List UInt8)) (hl : 255 < L.length) (w : World) : Calls Tryd.prog 50 #[.int .u8 ((t.toNat : Nat) : Int), .slice A L.length cap] w (RetC (.tuple #[.string (str []), .int .i64 9]) w) := by
  refine calls_of_TE (vs := [.int .u8 ((t.toNat : Nat) : Int), .slice A L.length cap]) Tryd.func50 Tryd.ntmps50 rfl (by simp) ?_
  have hC : Chg [] w w := Chg.refl _ _
  refine TE.seq ?_
  refine TE.region ?_
  refine OL.pure (Pure.assign rfl) rfl ?_
  refine OL.pure (Pure.assign rfl) rfl ?_
  refine OL.nil ?_
  refine TE.seq ?_
  refine TE.seq ?_
  refine TE.region ?_
  refine OL.pure (Pure.move rfl) rfl ?_
  refine OL.pure (Pure.lenSlice Tryd.runUnderlying22 rfl) rfl ?_
  refine OL.pure (Pure.gtr rfl rfl) rfl ?_
  refine OL.nil ?_
  refine TE.condT rfl (decide_eq_true (by omega)) ?_
  refine TE.seq ?_
  refine TE.region ?_
  refine OL.pure (Pure.assign rfl) rfl ?_
  refine OL.pure (Pure.assign rfl) rfl ?_
  refine OL.nil ?_
  exact TE.ret (vs := [.string (str []), .int .i64 9]) Tryd.results50 (⟨rfl, rfl, trivial⟩) ⟨rfl, hC⟩

set_option maxHeartbeats 1000000 in
theorem join_any (t : UInt8) (A : Option Addr) (cap : Nat) (L : List (List UInt8)) (hl : L.length ≤ 255) (hb : (jparts L).length ≤ 4294967296) (w : World) (hA : Cells w A L) : Calls Tryd.prog 50 #[.int .u8 ((t.toNat : Nat) : Int), .slice A L.length cap] w (RetC (.tuple #[.string (str (join t L)), .int .i64 0]) w) := by
  refine calls_of_TE (vs := [.int .u8 ((t.toNat : Nat) : Int), .slice A L.length cap]) Tryd.func50 Tryd.ntmps50 rfl (by simp) ?_
  have hC : Chg [] w w := Chg.refl _ _
  refine TE.seq ?_
  refine TE.region ?_
  refine OL.pure (Pure.assign rfl) rfl ?_
  refine OL.pure (Pure.assign rfl) rfl ?_
  refine OL.nil ?_
  refine TE.seq ?_
  refine TE.seq ?_
  refine TE.region ?_
  refine OL.pure (Pure.move rfl) rfl ?_
  refine OL.pure (Pure.lenSlice Tryd.runUnderlying22 rfl) rfl ?_
  refine OL.pure (Pure.gtr rfl rfl) rfl ?_
  refine OL.nil ?_
  refine TE.condF rfl (decide_eq_false (by omega)) ?_
  refine TE.skip ?_
  refine TE.seq ?_
  refine TE.region ?_
  refine OL.pure (Pure.move rfl) rfl ?_
  refine OL.pure (Pure.move rfl) rfl ?_
  refine OL.pure (Pure.lenSlice Tryd.runUnderlying22 rfl) rfl ?_
  refine OL.pure (Pure.conv Tryd.runUnderlying3 Tryd.runUnderlying5 rfl (u8w _)) rfl ?_
  refine OL.cast (.int .u8 (((UInt8.ofNat L.length).toNat : Nat) : Int)) 16 rfl (congrArg _ (u8nat _)) ?_
  refine OL.buildSlice (cs := [.int .u8 ((t.toNat : Nat) : Int), .int .u8 (((UInt8.ofNat L.length).toNat : Nat) : Int)]) rfl Tryd.runUnderlying24 Tryd.sizeOf5 Tryd.zeroValue5 (by decide) (by decide) (by kernel_rfl) rfl ?_
  intro q w1 hq hc1 hg_q
  have ge_q : w.heap.size ≤ q := by have := hC.size; omega
  replace hC := hC.then_ hc1
  have hm_v0 := Mine.slice ge_q 0 2 2
  have hv0 : Row w1 5 1 (.slice (some ⟨q, 0, none⟩) 2 2) (2 + (jparts (L.take 0)).length) (bv ([t, UInt8.ofNat L.length] ++ jparts (L.take 0))) := Row.lit hq rfl
  refine OL.pure (Pure.assign rfl) rfl ?_
  refine OL.nil ?_
  refine TE.seq ?_
  refine TE.seq ?_
  refine TE.region ?_
  refine OL.pure (Pure.move rfl) rfl ?_
  refine OL.pure (Pure.lenSlice Tryd.runUnderlying22 rfl) rfl ?_
  refine OL.pure (Pure.move rfl) rfl ?_
  refine OL.nil ?_
  refine TE.block ?_
  refine TE.loopInv (σ := Nat × Value) [6, 18, 19, 20] (fun s_ w_ => match s_ with | (j, v) => j ≤ L.length ∧ Row w_ 5 1 v (2 + (jparts (L.take j)).length) (bv ([t, UInt8.ofNat L.length] ++ jparts (L.take j))) ∧ Mine w.heap.size v ∧ Chg [] w w_) (fun s_ => [(6, s_.2), (18, .slice A L.length cap), (19, .int .i64 (↑L.length)), (20, .int .i64 (↑s_.1))]) (fun s_ => L.length - s_.1) (0, .slice (some ⟨q, 0, none⟩) 2 2) ⟨by omega, hv0, hm_v0, hC⟩ rfl ?_
  rintro ⟨j, v⟩ w2 ⟨hj, hv, hm_v, hC⟩ ih2
  try dsimp only
  refine TE.seq ?_
  refine TE.region ?_
  refine OL.pure (Pure.lss rfl rfl) rfl ?_
  refine OL.nil ?_
  refine TE.seq ?_
  refine TE.ite rfl (fun hlt => ?_) (fun hlt => ?_)
  ·
    obtain ⟨g, o, rfl, hcell⟩ := hA j (by omega)
    have hcell0 := cell_chg hcell hC (by simp)
    obtain ⟨X, hX⟩ : ∃ X, X = L.getD j [] := ⟨_, rfl⟩
    rw [← hX] at hcell0 hcell
    have hsx := jparts_succ (show j < L.length by omega)
    rw [← hX] at hsx
    have hlx : (jparts (L.take (j + 1))).length = (jparts (L.take j)).length + (4 + X.length) := by rw [hsx, List.length_append, jpart_len]
    have hle := jparts_take_le L (j + 1)
    refine TE.skip ?_
    refine TE.seq ?_
    refine TE.block ?_
    refine TE.seq ?_
    refine TE.region ?_
    refine OL.pure (Pure.indexAddrS (r := o + j) Tryd.runUnderlying22 Tryd.sizeOf9 rfl rfl (by omega) (by omega) (by omega)) rfl ?_
    refine OL.val (Run.loadCell rfl Tryd.isAgg9 hcell0) rfl ?_
    refine OL.pure (Pure.assign rfl) rfl ?_
    refine OL.nil ?_
    refine TE.seq ?_
    refine TE.region ?_
    refine OL.pure (Pure.move rfl) rfl ?_
    refine OL.pure (Pure.lenStr Tryd.runUnderlying9 rfl) rfl ?_
    refine OL.pure (Pure.conv Tryd.runUnderlying3 Tryd.runUnderlying105 rfl (u32in (by omega) (by omega))) rfl ?_
    refine OL.pure (Pure.assign rfl) rfl ?_
    refine OL.nil ?_
    refine TE.seq ?_
    refine TE.region ?_
    refine OL.pure (Pure.move rfl) rfl ?_
    refine OL.pure (Pure.move rfl) rfl ?_
    refine OL.pure (Pure.shr (p := 16777216) rfl rfl (by decide) (by decide)) rfl ?_
    refine OL.pure (Pure.conv Tryd.runUnderlying105 Tryd.runUnderlying5 rfl (u8w _)) rfl ?_
    refine OL.pure (Pure.move rfl) rfl ?_
    refine OL.pure (Pure.shr (p := 65536) rfl rfl (by decide) (by decide)) rfl ?_
    refine OL.pure (Pure.conv Tryd.runUnderlying105 Tryd.runUnderlying5 rfl (u8w _)) rfl ?_
    refine OL.pure (Pure.move rfl) rfl ?_
    refine OL.pure (Pure.shr (p := 256) rfl rfl (by decide) (by decide)) rfl ?_
    refine OL.pure (Pure.conv Tryd.runUnderlying105 Tryd.runUnderlying5 rfl (u8w _)) rfl ?_
    refine OL.pure (Pure.move rfl) rfl ?_
    refine OL.pure (Pure.conv Tryd.runUnderlying105 Tryd.runUnderlying5 rfl (u8w _)) rfl ?_
    refine OL.cast (.int .u8 (((UInt8.ofNat (X.length / 16777216)).toNat : Nat) : Int)) 30 rfl (congrArg (Value.int .u8) (u8sh X.length 16777216)) ?_
    refine OL.cast (.int .u8 (((UInt8.ofNat (X.length / 65536)).toNat : Nat) : Int)) 33 rfl (congrArg (Value.int .u8) (u8sh X.length 65536)) ?_
    refine OL.cast (.int .u8 (((UInt8.ofNat (X.length / 256)).toNat : Nat) : Int)) 36 rfl (congrArg (Value.int .u8) (u8sh X.length 256)) ?_
    refine OL.cast (.int .u8 (((UInt8.ofNat X.length).toNat : Nat) : Int)) 38 rfl (congrArg _ (u8nat _)) ?_
    refine OL.buildSlice (cs := [.int .u8 (((UInt8.ofNat (X.length / 16777216)).toNat : Nat) : Int), .int .u8 (((UInt8.ofNat (X.length / 65536)).toNat : Nat) : Int), .int .u8 (((UInt8.ofNat (X.length / 256)).toNat : Nat) : Int), .int .u8 (((UInt8.ofNat X.length).toNat : Nat) : Int)]) rfl Tryd.runUnderlying24 Tryd.sizeOf5 Tryd.zeroValue5 (by decide) (by decide) (by kernel_rfl) rfl ?_
    intro q w3 hq hc3 hg_q
    have ge_q : w.heap.size ≤ q := by have := hC.size; omega
    replace hv := hv.chg0 hc3
    replace hC := hC.then_ hc3
    refine OL.append (size := 1) (news := [.int .u8 (((UInt8.ofNat (X.length / 16777216)).toNat : Nat) : Int), .int .u8 (((UInt8.ofNat (X.length / 65536)).toNat : Nat) : Int), .int .u8 (((UInt8.ofNat (X.length / 256)).toNat : Nat) : Int), .int .u8 (((UInt8.ofNat X.length).toNat : Nat) : Int)]) (v := v) rfl rfl Tryd.underlying24 (.inl Tryd.underlying24) info5 rfl rfl rfl (by decide) rfl hv ((Src.of_blk hq rfl rfl)) (by simp [Value.oneCell']) (by show _ * 1 ≤ _; omega) ?_
    intro v2 w4 hv2 hc4 ho_v2
    have hm_v2 : Mine w.heap.size v2 := Mine.step hm_v (by have := hC.size; omega) ho_v2
    replace hC := hC.own hc4 hm_v
    replace hv2 : Row w4 5 1 v2 (2 + (jparts (L.take j)).length + 4) (bv ([t, UInt8.ofNat L.length] ++ jparts (L.take j) ++ be4 X.length)) := by rw [← bv_append _ (be4 X.length)]; exact hv2
    refine OL.pure (Pure.assign rfl) rfl ?_
    refine OL.nil ?_
    refine TE.region ?_
    refine OL.pure (Pure.move rfl) rfl ?_
    refine OL.pure (Pure.move rfl) rfl ?_
    refine OL.append (size := 1) (news := (bv X)) (v := v2) rfl rfl Tryd.underlying24 (.inr Tryd.underlying9) info5 rfl rfl rfl (by decide) rfl hv2 ((Src.str _ X _)) (by intro u hu; simp only [bv, List.mem_map] at hu; obtain ⟨b, _, rfl⟩ := hu; rfl) (by show _ * 1 ≤ _; omega) ?_
    intro v3 w5 hv3 hc5 ho_v3
    have hm_v3 : Mine w.heap.size v3 := Mine.step hm_v2 (by have := hC.size; omega) ho_v3
    replace hC := hC.own hc5 hm_v2
    replace hv3 : Row w5 5 1 v3 (2 + (jparts (L.take (j + 1))).length) (bv ([t, UInt8.ofNat L.length] ++ jparts (L.take (j + 1)))) := by
      rw [hlx, hsx, jpart, ← List.append_assoc, ← List.append_assoc, ← bv_append _ X, show 2 + ((jparts (L.take j)).length + (4 + X.length)) = 2 + (jparts (L.take j)).length + 4 + X.length by omega]; exact hv3
    refine OL.pure (Pure.assign rfl) rfl ?_
    refine OL.nil ?_
    refine TE.inBlock ?_
    refine TE.region ?_
    refine OL.pure (Pure.add rfl rfl (i64 (by omega) (by omega))) rfl ?_
    refine OL.pure (Pure.move rfl) rfl ?_
    refine OL.nil ?_
    exact TE.sub [6, 18, 19, 20] rfl (ih2 (j + 1, v3) _ ⟨by omega, hv3, hm_v3, hC⟩ (by simp only []; omega))
  ·
    obtain rfl : j = L.length := by omega
    rw [List.take_length] at hv
    replace hv : Row _ 5 1 v (2 + (jparts L).length) (bv (join t L)) := hv
    refine TE.exit rfl ?_
    refine TE.seq ?_
    refine TE.region ?_
    refine OL.pure (Pure.move rfl) rfl ?_
    refine OL.val (Run.rowStr Tryd.underlying24 Tryd.underlying5 Tryd.underlying9 rfl hv) rfl ?_
    refine OL.pure (Pure.assign rfl) rfl ?_
    refine OL.pure (Pure.assign rfl) rfl ?_
    refine OL.nil ?_
    exact TE.ret (vs := [.string (str (join t L)), .int .i64 0]) Tryd.results50 (⟨rfl, rfl, trivial⟩) ⟨rfl, hC⟩

theorem rjoin_big (t : UInt8) (A : Option Addr) (cap : Nat) (L : List (List UInt8)) (hl : 255 < L.length) (w : World) : Calls Tryd.prog 21 #[.int .u8 ((t.toNat : Nat) : Int), .slice A L.length cap] w (RetC (.tuple #[.string (str []), .int .i64 9]) w) := by
  refine calls_of_TE (vs := [.int .u8 ((t.toNat : Nat) : Int), .slice A L.length cap]) Tryd.func21 Tryd.ntmps21 rfl (by simp) ?_
  have hC : Chg [] w w := Chg.refl _ _
  refine TE.seq ?_
  refine TE.region ?_
  refine OL.pure (Pure.assign rfl) rfl ?_
  refine OL.pure (Pure.assign rfl) rfl ?_
  refine OL.nil ?_
  refine TE.seq ?_
  refine TE.seq ?_
  refine TE.region ?_
  refine OL.pure (Pure.move rfl) rfl ?_
  refine OL.pure (Pure.lenSlice Tryd.runUnderlying22 rfl) rfl ?_
  refine OL.pure (Pure.gtr rfl rfl) rfl ?_
  refine OL.nil ?_
  refine TE.condT rfl (decide_eq_true (by omega)) ?_
  refine TE.seq ?_
  refine TE.region ?_
  refine OL.pure (Pure.assign rfl) rfl ?_
  refine OL.pure (Pure.assign rfl) rfl ?_
  refine OL.nil ?_
  exact TE.ret (vs := [.string (str []), .int .i64 9]) Tryd.results21 (⟨rfl, rfl, trivial⟩) ⟨rfl, hC⟩

set_option maxHeartbeats 1000000 in
theorem rjoin_any (t : UInt8) (A : Option Addr) (cap : Nat) (L : List (List UInt8)) (hl : L.length ≤ 255) (hb : (jparts L).length ≤ 4294967296) (w : World) (hA : Cells w A L) : Calls Tryd.prog 21 #[.int .u8 ((t.toNat : Nat) : Int), .slice A L.length cap] w (RetC (.tuple #[.string (str (join t L)), .int .i64 0]) w) := by
  refine calls_of_TE (vs := [.int .u8 ((t.toNat : Nat) : Int), .slice A L.length cap]) Tryd.func21 Tryd.ntmps21 rfl (by simp) ?_
  have hC : Chg [] w w := Chg.refl _ _
  refine TE.seq ?_
  refine TE.region ?_
  refine OL.pure (Pure.assign rfl) rfl ?_
  refine OL.pure (Pure.assign rfl) rfl ?_
  refine OL.nil ?_
  refine TE.seq ?_
  refine TE.seq ?_
  refine TE.region ?_
  refine OL.pure (Pure.move rfl) rfl ?_
  refine OL.pure (Pure.lenSlice Tryd.runUnderlying22 rfl) rfl ?_
  refine OL.pure (Pure.gtr rfl rfl) rfl ?_
  refine OL.nil ?_
  refine TE.condF rfl (decide_eq_false (by omega)) ?_
  refine TE.skip ?_
  refine TE.seq ?_
  refine TE.region ?_
  refine OL.pure (Pure.move rfl) rfl ?_
  refine OL.pure (Pure.move rfl) rfl ?_
  refine OL.pure (Pure.lenSlice Tryd.runUnderlying22 rfl) rfl ?_
  refine OL.pure (Pure.conv Tryd.runUnderlying3 Tryd.runUnderlying5 rfl (u8w _)) rfl ?_
  refine OL.cast (.int .u8 (((UInt8.ofNat L.length).toNat : Nat) : Int)) 15 rfl (congrArg _ (u8nat _)) ?_
  refine OL.buildSlice (cs := [.int .u8 ((t.toNat : Nat) : Int), .int .u8 (((UInt8.ofNat L.length).toNat : Nat) : Int)]) rfl Tryd.runUnderlying24 Tryd.sizeOf5 Tryd.zeroValue5 (by decide) (by decide) (by kernel_rfl) rfl ?_
  intro q w1 hq hc1 hg_q
  have ge_q : w.heap.size ≤ q := by have := hC.size; omega
  replace hC := hC.then_ hc1
  have hm_v0 := Mine.slice ge_q 0 2 2
  have hv0 : Row w1 5 1 (.slice (some ⟨q, 0, none⟩) 2 2) (2 + (jparts (L.take 0)).length) (bv ([t, UInt8.ofNat L.length] ++ jparts (L.take 0))) := Row.lit hq rfl
  refine OL.pure (Pure.assign rfl) rfl ?_
  refine OL.nil ?_
  refine TE.seq ?_
  refine TE.seq ?_
  refine TE.region ?_
  refine OL.pure (Pure.assign rfl) rfl ?_
  refine OL.nil ?_
  refine TE.block ?_
  refine TE.loopInv (σ := Nat × Value) [1, 6, 7] (fun s_ w_ => match s_ with | (j, v) => j ≤ L.length ∧ Row w_ 5 1 v (2 + (jparts (L.take j)).length) (bv ([t, UInt8.ofNat L.length] ++ jparts (L.take j))) ∧ Mine w.heap.size v ∧ Chg [] w w_) (fun s_ => [(1, .slice A L.length cap), (6, s_.2), (7, .int .i64 (↑s_.1))]) (fun s_ => L.length - s_.1) (0, .slice (some ⟨q, 0, none⟩) 2 2) ⟨by omega, hv0, hm_v0, hC⟩ rfl ?_
  rintro ⟨j, v⟩ w2 ⟨hj, hv, hm_v, hC⟩ ih2
  try dsimp only
  refine TE.seq ?_
  refine TE.seq ?_
  refine TE.region ?_
  refine OL.pure (Pure.move rfl) rfl ?_
  refine OL.pure (Pure.move rfl) rfl ?_
  refine OL.pure (Pure.lenSlice Tryd.runUnderlying22 rfl) rfl ?_
  refine OL.pure (Pure.lss rfl rfl) rfl ?_
  refine OL.nil ?_
  refine TE.ite rfl (fun hlt => ?_) (fun hlt => ?_)
  ·
    obtain ⟨g, o, rfl, hcell⟩ := hA j (by omega)
    have hcell0 := cell_chg hcell hC (by simp)
    obtain ⟨X, hX⟩ : ∃ X, X = L.getD j [] := ⟨_, rfl⟩
    rw [← hX] at hcell0 hcell
    have hsx := jparts_succ (show j < L.length by omega)
    rw [← hX] at hsx
    have hlx : (jparts (L.take (j + 1))).length = (jparts (L.take j)).length + (4 + X.length) := by rw [hsx, List.length_append, jpart_len]
    have hle := jparts_take_le L (j + 1)
    refine TE.skip ?_
    refine TE.seq ?_
    refine TE.block ?_
    refine TE.seq ?_
    refine TE.region ?_
    refine OL.pure (Pure.move rfl) rfl ?_
    refine OL.pure (Pure.move rfl) rfl ?_
    refine OL.pure (Pure.indexAddrS (r := o + j) Tryd.runUnderlying22 Tryd.sizeOf9 rfl rfl (by omega) (by omega) (by omega)) rfl ?_
    refine OL.val (Run.loadCell rfl Tryd.isAgg9 hcell0) rfl ?_
    refine OL.pure (Pure.lenStr Tryd.runUnderlying9 rfl) rfl ?_
    refine OL.pure (Pure.assign rfl) rfl ?_
    refine OL.nil ?_
    refine TE.seq ?_
    refine TE.region ?_
    refine OL.pure (Pure.move rfl) rfl ?_
    refine OL.pure (Pure.move rfl) rfl ?_
    refine OL.pure (Pure.shr (p := 16777216) rfl rfl (by decide) (by decide)) rfl ?_
    refine OL.pure (Pure.conv Tryd.runUnderlying3 Tryd.runUnderlying5 rfl (u8w _)) rfl ?_
    refine OL.pure (Pure.move rfl) rfl ?_
    refine OL.pure (Pure.shr (p := 65536) rfl rfl (by decide) (by decide)) rfl ?_
    refine OL.pure (Pure.conv Tryd.runUnderlying3 Tryd.runUnderlying5 rfl (u8w _)) rfl ?_
    refine OL.pure (Pure.move rfl) rfl ?_
    refine OL.pure (Pure.shr (p := 256) rfl rfl (by decide) (by decide)) rfl ?_
    refine OL.pure (Pure.conv Tryd.runUnderlying3 Tryd.runUnderlying5 rfl (u8w _)) rfl ?_
    refine OL.pure (Pure.move rfl) rfl ?_
    refine OL.pure (Pure.conv Tryd.runUnderlying3 Tryd.runUnderlying5 rfl (u8w _)) rfl ?_
    refine OL.cast (.int .u8 (((UInt8.ofNat (X.length / 16777216)).toNat : Nat) : Int)) 31 rfl (congrArg (Value.int .u8) (u8sh X.length 16777216)) ?_
    refine OL.cast (.int .u8 (((UInt8.ofNat (X.length / 65536)).toNat : Nat) : Int)) 34 rfl (congrArg (Value.int .u8) (u8sh X.length 65536)) ?_
    refine OL.cast (.int .u8 (((UInt8.ofNat (X.length / 256)).toNat : Nat) : Int)) 37 rfl (congrArg (Value.int .u8) (u8sh X.length 256)) ?_
    refine OL.cast (.int .u8 (((UInt8.ofNat X.length).toNat : Nat) : Int)) 39 rfl (congrArg _ (u8nat _)) ?_
    refine OL.buildSlice (cs := [.int .u8 (((UInt8.ofNat (X.length / 16777216)).toNat : Nat) : Int), .int .u8 (((UInt8.ofNat (X.length / 65536)).toNat : Nat) : Int), .int .u8 (((UInt8.ofNat (X.length / 256)).toNat : Nat) : Int), .int .u8 (((UInt8.ofNat X.length).toNat : Nat) : Int)]) rfl Tryd.runUnderlying24 Tryd.sizeOf5 Tryd.zeroValue5 (by decide) (by decide) (by kernel_rfl) rfl ?_
    intro q w3 hq hc3 hg_q
    have ge_q : w.heap.size ≤ q := by have := hC.size; omega
    replace hv := hv.chg0 hc3
    replace hC := hC.then_ hc3
    refine OL.append (size := 1) (news := [.int .u8 (((UInt8.ofNat (X.length / 16777216)).toNat : Nat) : Int), .int .u8 (((UInt8.ofNat (X.length / 65536)).toNat : Nat) : Int), .int .u8 (((UInt8.ofNat (X.length / 256)).toNat : Nat) : Int), .int .u8 (((UInt8.ofNat X.length).toNat : Nat) : Int)]) (v := v) rfl rfl Tryd.underlying24 (.inl Tryd.underlying24) info5 rfl rfl rfl (by decide) rfl hv ((Src.of_blk hq rfl rfl)) (by simp [Value.oneCell']) (by show _ * 1 ≤ _; omega) ?_
    intro v2 w4 hv2 hc4 ho_v2
    have hm_v2 : Mine w.heap.size v2 := Mine.step hm_v (by have := hC.size; omega) ho_v2
    replace hC := hC.own hc4 hm_v
    replace hv2 : Row w4 5 1 v2 (2 + (jparts (L.take j)).length + 4) (bv ([t, UInt8.ofNat L.length] ++ jparts (L.take j) ++ be4 X.length)) := by rw [← bv_append _ (be4 X.length)]; exact hv2
    refine OL.pure (Pure.assign rfl) rfl ?_
    refine OL.nil ?_
    refine TE.region ?_
    refine OL.pure (Pure.move rfl) rfl ?_
    refine OL.pure (Pure.move rfl) rfl ?_
    refine OL.pure (Pure.move rfl) rfl ?_
    refine OL.pure (Pure.indexAddrS (r := o + j) Tryd.runUnderlying22 Tryd.sizeOf9 rfl rfl (by omega) (by omega) (by omega)) rfl ?_
    refine OL.val (Run.loadCell rfl Tryd.isAgg9 (cell_chg hcell hC (by simp))) rfl ?_
    refine OL.append (size := 1) (news := (bv X)) (v := v2) rfl rfl Tryd.underlying24 (.inr Tryd.underlying9) info5 rfl rfl rfl (by decide) rfl hv2 ((Src.str _ X _)) (by intro u hu; simp only [bv, List.mem_map] at hu; obtain ⟨b, _, rfl⟩ := hu; rfl) (by show _ * 1 ≤ _; omega) ?_
    intro v3 w5 hv3 hc5 ho_v3
    have hm_v3 : Mine w.heap.size v3 := Mine.step hm_v2 (by have := hC.size; omega) ho_v3
    replace hC := hC.own hc5 hm_v2
    replace hv3 : Row w5 5 1 v3 (2 + (jparts (L.take (j + 1))).length) (bv ([t, UInt8.ofNat L.length] ++ jparts (L.take (j + 1)))) := by
      rw [hlx, hsx, jpart, ← List.append_assoc, ← List.append_assoc, ← bv_append _ X, show 2 + ((jparts (L.take j)).length + (4 + X.length)) = 2 + (jparts (L.take j)).length + 4 + X.length by omega]; exact hv3
    refine OL.pure (Pure.assign rfl) rfl ?_
    refine OL.nil ?_
    refine TE.inBlock ?_
    refine TE.region ?_
    refine OL.pure (Pure.move rfl) rfl ?_
    refine OL.pure (Pure.add rfl rfl (i64 (by omega) (by omega))) rfl ?_
    refine OL.pure (Pure.assign rfl) rfl ?_
    refine OL.nil ?_
    exact TE.sub [1, 6, 7] rfl (ih2 (j + 1, v3) _ ⟨by omega, hv3, hm_v3, hC⟩ (by simp only []; omega))
  ·
    obtain rfl : j = L.length := by omega
    rw [List.take_length] at hv
    replace hv : Row _ 5 1 v (2 + (jparts L).length) (bv (join t L)) := hv
    refine TE.exit rfl ?_
    refine TE.seq ?_
    refine TE.region ?_
    refine OL.pure (Pure.move rfl) rfl ?_
    refine OL.val (Run.rowStr Tryd.underlying24 Tryd.underlying5 Tryd.underlying9 rfl hv) rfl ?_
    refine OL.pure (Pure.assign rfl) rfl ?_
    refine OL.pure (Pure.assign rfl) rfl ?_
    refine OL.nil ?_
    exact TE.ret (vs := [.string (str (join t L)), .int .i64 0]) Tryd.results21 (⟨rfl, rfl, trivial⟩) ⟨rfl, hC⟩

end Go.Proofs.YtigjmemoaapmgaaDoor
