/- Pad, Write, Sum, walked -/
import Derived.Test.YtigjmemoaapmgaaDoorProg
import Derived.Test.YtigjmemoaapmgaaDoorEng2
import Derived.Test.YtigjmemoaapmgaaDoorShaSpec2
import Derived.Test.YtigjmemoaapmgaaDoorSha1
import Derived.Test.YtigjmemoaapmgaaDoorSha2
set_option linter.unusedVariables false
set_option maxRecDepth 4000
namespace Go.Proofs.YtigjmemoaapmgaaDoor
open Go.V Go.Sha
theorem info5 : Tryd.prog.info? 5 = some Tryd.t5 := by kernel_rfl
theorem rPad_any (m : List UInt8) (hm : m.length ≤ 4294967296) (w : World) : Calls Tryd.prog 52 #[.string (str m)] w (RetB 5 (pad m) w) := by
  refine calls_of_TE (vs := [.string (str m)]) Tryd.func52 Tryd.ntmps52 rfl (by simp) ?_
  have hC : Chg [] w w := Chg.refl _ _
  refine TE.seq ?_
  refine TE.region ?_
  refine OL.pure (Pure.assign rfl) rfl ?_
  refine OL.nil ?_
  refine TE.seq ?_
  refine TE.region ?_
  refine OL.pure (Pure.move rfl) rfl ?_
  refine OL.toBytes Tryd.underlying9 Tryd.underlying24 Tryd.underlying5 rfl rfl ?_
  intro v0 w1 hv0 hc1 ho_v0
  have hm_v0 : Mine w.heap.size v0 := Mine.new ho_v0 (by have := hC.size; omega)
  replace hC := hC.then_ hc1
  refine OL.buildSlice (cs := [.int .u8 128]) rfl Tryd.runUnderlying24 Tryd.sizeOf5 Tryd.zeroValue5 (by decide) (by decide) (by kernel_rfl) rfl ?_
  intro q w2 hq hc2 hg_q
  have ge_q : w.heap.size ≤ q := by have := hC.size; omega
  replace hv0 := hv0.chg0 hc2
  replace hC := hC.then_ hc2
  refine OL.append (size := 1) (news := [.int .u8 128]) (v := v0) rfl rfl Tryd.underlying24 (.inl Tryd.underlying24) info5 rfl rfl rfl (by decide) rfl hv0 ((Src.of_blk hq rfl rfl)) (by simp [Value.oneCell']) (by show _ * 1 ≤ _; omega) ?_
  intro v1 w3 hv1 hc3 ho_v1
  have hm_v1 : Mine w.heap.size v1 := Mine.step hm_v0 (by have := hC.size; omega) ho_v1
  replace hC := hC.own hc3 hm_v0
  have hv : Row w3 5 1 v1 (m.length + 1 + 0) (bv (m ++ [128] ++ List.replicate 0 0)) := by simpa [bv] using hv1
  refine OL.pure (Pure.assign rfl) rfl ?_
  refine OL.nil ?_
  refine TE.seq ?_
  refine TE.block ?_
  refine TE.loopInv (σ := Nat × Value) [0, 3] (fun s_ w_ => match s_ with | (j, v) => j ≤ zeros m.length ∧ Row w_ 5 1 v (m.length + 1 + j) (bv (m ++ [128] ++ List.replicate j 0)) ∧ Chg [] w w_ ∧ Mine w.heap.size v) (fun s_ => [(0, .string (str m)), (3, s_.2)]) (fun s_ => zeros m.length - s_.1) (0, v1) ⟨by omega, hv, hC, hm_v1⟩ rfl ?_
  rintro ⟨j, v⟩ w4 ⟨hj, hv, hC, hm_v⟩ ih4
  try dsimp only
  refine TE.seq ?_
  refine TE.seq ?_
  refine TE.region ?_
  refine OL.pure (Pure.move rfl) rfl ?_
  refine OL.pure (Pure.lenRow Tryd.runUnderlying24 rfl hv) rfl ?_
  refine OL.pure (Pure.rem rfl rfl (by omega) (by omega)) rfl ?_
  refine OL.pure (Pure.neq rfl rfl) rfl ?_
  refine OL.nil ?_
  refine TE.ite rfl (fun hne => ?_) (fun hne => ?_)
  ·
    have hz := zeros_bd m.length
    have hj1 : j < zeros m.length := by unfold zeros at hj ⊢; omega
    refine TE.skip ?_
    refine TE.block ?_
    refine TE.region ?_
    refine OL.pure (Pure.move rfl) rfl ?_
    refine OL.buildSlice (cs := [.int .u8 0]) rfl Tryd.runUnderlying24 Tryd.sizeOf5 Tryd.zeroValue5 (by decide) (by decide) (by kernel_rfl) rfl ?_
    intro q w5 hq hc5 hg_q
    have ge_q : w.heap.size ≤ q := by have := hC.size; omega
    replace hv := hv.chg0 hc5
    replace hC := hC.then_ hc5
    refine OL.append (size := 1) (news := [.int .u8 0]) (v := v) rfl rfl Tryd.underlying24 (.inl Tryd.underlying24) info5 rfl rfl rfl (by decide) rfl hv ((Src.of_blk hq rfl rfl)) (by simp [Value.oneCell']) (by show _ * 1 ≤ _; omega) ?_
    intro v2 w6 hv2 hc6 ho_v2
    have hm_v2 : Mine w.heap.size v2 := Mine.step hm_v (by have := hC.size; omega) ho_v2
    replace hC := hC.own hc6 hm_v
    replace hv2 : Row w6 5 1 v2 (m.length + 1 + (j + 1)) (bv (m ++ [128] ++ List.replicate (j + 1) 0)) := by rw [rep_snoc, ← List.append_assoc, ← bv_one]; exact hv2
    refine OL.pure (Pure.assign rfl) rfl ?_
    refine OL.nil ?_
    refine TE.inBlock ?_
    exact TE.sub [0, 3] rfl (ih4 (j + 1, v2) _ ⟨by omega, hv2, hC, hm_v2⟩ (by simp only []; omega))
  ·
    obtain rfl : j = zeros m.length := by
      have h1 : ¬ j < zeros m.length := fun h => by have := zeros_lt h; omega
      omega
    refine TE.exit rfl ?_
    refine TE.seq ?_
    refine TE.region ?_
    refine OL.pure (Pure.move rfl) rfl ?_
    refine OL.pure (Pure.lenStr Tryd.runUnderlying9 rfl) rfl ?_
    refine OL.pure (Pure.mul rfl rfl (i64 (by omega) (by omega))) rfl ?_
    refine OL.pure (Pure.assign rfl) rfl ?_
    refine OL.nil ?_
    refine TE.seq ?_
    refine TE.seq ?_
    refine TE.region ?_
    refine OL.pure (Pure.assign rfl) rfl ?_
    refine OL.nil ?_
    refine TE.block ?_
    have hv : Row w4 5 1 v (m.length + 1 + zeros m.length + 0) (bv (m ++ [128] ++ List.replicate (zeros m.length) 0 ++ (len8 (8 * m.length)).take 0)) := by simpa using hv
    refine TE.loopInv (σ := Nat × Value) [0, 3, 4, 5] (fun s_ w_ => match s_ with | (k, v) => k ≤ 8 ∧ Row w_ 5 1 v (m.length + 1 + zeros m.length + k) (bv (m ++ [128] ++ List.replicate (zeros m.length) 0 ++ (len8 (8 * m.length)).take k)) ∧ Chg [] w w_ ∧ Mine w.heap.size v) (fun s_ => [(0, .string (str m)), (3, s_.2), (4, .int .i64 (8 * ↑m.length)), (5, .int .i64 (7 - (s_.1 : Int)))]) (fun s_ => 8 - s_.1) (0, v) ⟨by omega, hv, hC, hm_v⟩ rfl ?_
    rintro ⟨k, v⟩ w7 ⟨hk, hv, hC, hm_v⟩ ih7
    try dsimp only
    have hz := zeros_bd m.length
    refine TE.seq ?_
    refine TE.seq ?_
    refine TE.region ?_
    refine OL.pure (Pure.move rfl) rfl ?_
    refine OL.pure (Pure.geq rfl rfl) rfl ?_
    refine OL.nil ?_
    refine TE.ite rfl (fun hge => ?_) (fun hge => ?_)
    ·
      refine TE.skip ?_
      refine TE.seq ?_
      refine TE.block ?_
      refine TE.region ?_
      refine OL.pure (Pure.move rfl) rfl ?_
      refine OL.pure (Pure.move rfl) rfl ?_
      refine OL.pure (Pure.move rfl) rfl ?_
      refine OL.pure (Pure.mul rfl rfl (i64 (by omega) (by omega))) rfl ?_
      refine OL.pure (Pure.shr (p := 2 ^ (8 * (7 - k))) rfl rfl (by omega) (by congr 1; simp [IntKind.bits]; omega)) rfl ?_
      refine OL.pure (Pure.conv Tryd.runUnderlying3 Tryd.runUnderlying5 rfl (u8w _)) rfl ?_
      refine OL.cast (.int .u8 (((UInt8.ofNat (8 * m.length / 2 ^ (8 * (7 - k)))).toNat : Nat) : Int)) 29 rfl (by rw [← u8nat]; push_cast; rfl) ?_
      refine OL.buildSlice (cs := [.int .u8 (((UInt8.ofNat (8 * m.length / 2 ^ (8 * (7 - k)))).toNat : Nat) : Int)]) rfl Tryd.runUnderlying24 Tryd.sizeOf5 Tryd.zeroValue5 (by decide) (by decide) (by kernel_rfl) rfl ?_
      intro q w8 hq hc8 hg_q
      have ge_q : w.heap.size ≤ q := by have := hC.size; omega
      replace hv := hv.chg0 hc8
      replace hC := hC.then_ hc8
      refine OL.append (size := 1) (news := [.int .u8 (((UInt8.ofNat (8 * m.length / 2 ^ (8 * (7 - k)))).toNat : Nat) : Int)]) (v := v) rfl rfl Tryd.underlying24 (.inl Tryd.underlying24) info5 rfl rfl rfl (by decide) rfl hv ((Src.of_blk hq rfl rfl)) (by simp [Value.oneCell']) (by show _ * 1 ≤ _; omega) ?_
      intro v2 w9 hv2 hc9 ho_v2
      have hm_v2 : Mine w.heap.size v2 := Mine.step hm_v (by have := hC.size; omega) ho_v2
      replace hC := hC.own hc9 hm_v
      replace hv2 : Row w9 5 1 v2 (m.length + 1 + zeros m.length + (k + 1)) (bv (m ++ [128] ++ List.replicate (zeros m.length) 0 ++ (len8 (8 * m.length)).take (k + 1))) := by rw [len8_take _ _ (by omega), ← List.append_assoc, ← bv_one]; exact hv2
      refine OL.pure (Pure.assign rfl) rfl ?_
      refine OL.nil ?_
      refine TE.inBlock ?_
      refine TE.region ?_
      refine OL.pure (Pure.move rfl) rfl ?_
      refine OL.pure (Pure.sub rfl rfl (i64 (by omega) (by omega))) rfl ?_
      refine OL.pure (Pure.assign rfl) rfl ?_
      refine OL.nil ?_
      refine TE.cast (.int .i64 (7 - ((k + 1 : Nat) : Int))) 5 rfl (congrArg (Value.int .i64) (by omega)) ?_
      exact TE.sub [0, 3, 4, 5] rfl (ih7 (k + 1, v2) _ ⟨by omega, hv2, hC, hm_v2⟩ (by simp only []; omega))
    ·
      obtain rfl : k = 8 := by omega
      replace hv : Row w7 5 1 v (pad m).length (bv (pad m)) := by
        rw [show (pad m).length = m.length + 1 + zeros m.length + 8 by simp [pad, len8]; omega]; exact hv
      refine TE.exit rfl ?_
      refine TE.seq ?_
      refine TE.region ?_
      refine OL.pure (Pure.move rfl) rfl ?_
      refine OL.pure (Pure.assign rfl) rfl ?_
      refine OL.nil ?_
      exact TE.ret (vs := [v]) Tryd.results52 (⟨rfl, trivial⟩) ⟨v, rfl, hv, hC, hm_v⟩

theorem write_any {tK : TypeId} (m l : List UInt8) (hn : m.length + l.length ≤ 4294967296) (g : Nat) (h0 : 1 < g) (w : World) (hK : Blk w 1 tK (iv .u32 K)) (hb : Blk w g 110 (hashCells m)) : Calls Tryd.prog 54 #[.pointer (some ⟨g, 0, none⟩), .string (str l)] w (RetW (.int .i64 0) g 110 (hashCells (m ++ l)) w) := by
  refine calls_of_TE (vs := [.pointer (some ⟨g, 0, none⟩), .string (str l)]) Tryd.func54 Tryd.ntmps54 rfl (by simp) ?_
  have hC : Chg [g] w w := Chg.refl _ _
  refine TE.seq ?_
  refine TE.region ?_
  refine OL.pure (Pure.assign rfl) rfl ?_
  refine OL.nil ?_
  refine TE.seq ?_
  refine TE.seq ?_
  refine TE.region ?_
  refine OL.pure (Pure.move rfl) rfl ?_
  refine OL.pure (Pure.eqlNil Tryd.underlying117 rfl rfl) rfl ?_
  refine OL.nil ?_
  refine TE.condF rfl rfl ?_
  refine TE.skip ?_
  refine TE.seq ?_
  refine TE.seq ?_
  refine TE.region ?_
  refine OL.pure (Pure.move rfl) rfl ?_
  refine OL.pure (Pure.nilCheck rfl) rfl ?_
  refine OL.pure (Pure.fieldAddr (r := 9) Tryd.runUnderlying110 rfl Tryd.sizeOf3 rfl rfl) rfl ?_
  refine OL.val (Run.load (i := 9) rfl Tryd.isAgg3 hb (by omega) rfl) rfl ?_
  refine OL.pure (Pure.lss rfl rfl) rfl ?_
  refine OL.nil ?_
  refine TE.join (σ := Unit) [0, 1] (fun s_ w_ => Chg [g] w w_ ∧ Blk w_ 1 tK (iv .u32 K) ∧ Blk w_ g 110 (hcells (absorb init (m.take (cut m))) (m.drop (cut m)) m.length)) (fun s_ => [(0, .pointer (some ⟨g, 0, none⟩)), (1, .string (str l))]) rfl (fun hlt hj1 => ?_) (fun hlt hj1 => ?_) (fun s_ w_ h_ => ?_)
  ·
    refine TE.region ?_
    refine OL.pure (Pure.move rfl) rfl ?_
    refine OL.call rfl Tryd.call59 rfl (begin_any _) ?_
    rintro _ w2 ⟨rfl, hc2⟩
    replace hK := hK.chg0 hc2
    replace hb := hb.chg0 hc2
    replace hC := hC.then_ hc2
    refine ⟨_, rfl, ?_⟩
    refine OL.pure (Pure.nilCheck rfl) rfl ?_
    refine OL.pure (Pure.fieldAddr (r := 0) Tryd.runUnderlying110 rfl Tryd.sizeOf106 rfl rfl) rfl ?_
    refine OL.storeRow (vs := sv init) rfl rfl (rfl) (by simp [sv, iv, S8.l, Value.oneCell']) hb (by show 0 + 8 ≤ 10; decide) ?_
    intro w3 hb3 hc3
    replace hK := hK.chg hc3 (by simp; omega)
    replace hC := hC.trans1 hc3 (by first | exact .inr (by omega) | exact .inl (by simp))
    replace hb := hb3
    rw [hash_first (by omega)] at hb
    exact TE.sub [0, 1] rfl (hj1 () _ ⟨hC, hK, hb⟩)
  ·
    rw [hash_big (by omega)] at hb
    refine TE.skip ?_
    exact TE.sub [0, 1] rfl (hj1 () _ ⟨hC, hK, hb⟩)
  ·
    revert s_ w_ h_
    rintro ⟨⟩ w1 ⟨hC, hK, hb⟩
    try dsimp only
    refine TE.seq ?_
    refine TE.region ?_
    refine OL.pure (Pure.move rfl) rfl ?_
    refine OL.pure (Pure.nilCheck rfl) rfl ?_
    refine OL.pure (Pure.fieldAddr (r := 9) Tryd.runUnderlying110 rfl Tryd.sizeOf3 rfl rfl) rfl ?_
    refine OL.val (Run.load (i := 9) rfl Tryd.isAgg3 hb (by omega) rfl) rfl ?_
    refine OL.pure (Pure.move rfl) rfl ?_
    refine OL.pure (Pure.lenStr Tryd.runUnderlying9 rfl) rfl ?_
    refine OL.pure (Pure.add rfl rfl (i64 (by omega) (by omega))) rfl ?_
    refine OL.pure (Pure.nilCheck rfl) rfl ?_
    refine OL.pure (Pure.fieldAddr (r := 9) Tryd.runUnderlying110 rfl Tryd.sizeOf3 rfl rfl) rfl ?_
    refine OL.store (j := 9) rfl rfl Tryd.sizeOf3 rfl hb (by omega) (rfl) ?_
    intro w4 hb4 hc4
    replace hK := hK.chg hc4 (by simp; omega)
    replace hC := hC.trans1 hc4 (by first | exact .inr (by omega) | exact .inl (by simp))
    replace hb := hb4
    replace hb : Blk w4 g 110 (hcells (absorb init (m.take (cut m))) (m.drop (cut m)) (m.length + l.length)) := hb
    refine OL.nil ?_
    refine TE.seq ?_
    refine TE.region ?_
    refine OL.pure (Pure.move rfl) rfl ?_
    refine OL.pure (Pure.nilCheck rfl) rfl ?_
    refine OL.pure (Pure.fieldAddr (r := 8) Tryd.runUnderlying110 rfl Tryd.sizeOf9 rfl rfl) rfl ?_
    refine OL.val (Run.load (i := 8) rfl Tryd.isAgg9 hb (by omega) rfl) rfl ?_
    refine OL.pure (Pure.move rfl) rfl ?_
    refine OL.pure (Pure.strAdd (l := (m.drop (cut m))) (m := l) rfl rfl (by simp; omega)) rfl ?_
    refine OL.pure (Pure.assign rfl) rfl ?_
    refine OL.nil ?_
    refine TE.seq ?_
    refine TE.block ?_
    obtain ⟨A, hA⟩ : ∃ A, A = m.drop (cut m) ++ l := ⟨_, rfl⟩
    have hAl : A.length ≤ m.length + l.length := by rw [hA, List.length_append, List.length_drop]; omega
    refine TE.cast (.string (str A)) 1 rfl (by rw [hA]) ?_
    replace hb : Blk w4 g 110 (hcells (absorb (absorb init (m.take (cut m))) (A.take 0)) (m.drop (cut m)) (m.length + l.length)) := by rw [absorb_zero]; exact hb
    refine TE.loopInv (σ := Nat) [0, 1] (fun s_ w_ => s_ % 64 = 0 ∧ s_ ≤ A.length ∧ Chg [g] w w_ ∧ Blk w_ 1 tK (iv .u32 K) ∧  Blk w_ g 110 (hcells (absorb (absorb init (m.take (cut m))) (A.take s_)) (m.drop (cut m)) (m.length + l.length))) (fun s_ => [(0, .pointer (some ⟨g, 0, none⟩)), (1, .string (str (A.drop s_)))]) (fun s_ => A.length - s_) 0 ⟨rfl, by omega, hC, hK, hb⟩ rfl ?_
    rintro j w5 ⟨hj, hjl, hC, hK, hb⟩ ih5
    refine TE.seq ?_
    refine TE.seq ?_
    refine TE.region ?_
    refine OL.pure (Pure.move rfl) rfl ?_
    refine OL.pure (Pure.lenStr Tryd.runUnderlying9 rfl) rfl ?_
    refine OL.pure (Pure.geq rfl rfl) rfl ?_
    refine OL.nil ?_
    refine TE.ite rfl (fun hge => ?_) (fun hge => ?_)
    ·
      have hjl2 : j + 64 ≤ A.length := by simp at hge; omega
      refine TE.skip ?_
      refine TE.block ?_
      refine TE.seq ?_
      refine TE.plan 10 (.cons (0, true) (.cons (1, true) (.cons (2, true) (.cons (3, true) (.cons (4, true) (.cons (5, true) (.cons (6, true) (.cons (7, false) (.cons (8, true) (.cons (9, true) .nil)))))))))) (fun w_ => Chg [] w5 w_) rfl (by kernel_rfl) rfl ?_
      have hS6 : Chg [] w5 w5.drew := Chg.drew _ _
      refine PL.takeP rfl (Pure.move rfl) rfl hS6 ?_
      refine PL.takeP rfl (Pure.move rfl) rfl hS6 ?_
      refine PL.takeP rfl (Pure.nilCheck rfl) rfl hS6 ?_
      refine PL.takeP rfl (Pure.fieldAddr (r := 0) Tryd.runUnderlying110 rfl Tryd.sizeOf106 rfl rfl) rfl hS6 ?_
      refine PL.take rfl (fun w_ h_ => Run.loadRow (i := 0) (vs := sv (absorb (absorb init (m.take (cut m))) (A.take j))) rfl Tryd.underlying106 rfl rfl (hb.chg0 h_) (by omega) rfl) rfl hS6 ?_
      refine PL.takeP rfl (Pure.move rfl) rfl hS6 ?_
      refine PL.takeP rfl (Pure.sliceTo (l := (A.drop j)) (q := 64) Tryd.underlying9 rfl rfl (by omega) (by simp; omega)) rfl hS6 ?_
      refine PL.call rfl rfl Tryd.call60 rfl (block_any (absorb (absorb init (m.take (cut m))) (A.take j)) ((A.drop j).take 64) (by simp; omega) _ (hK.chg0 hS6)) ?_
      rintro _ w7 ⟨rfl, hc7⟩
      have hS8 := hS6.then_ hc7
      refine ⟨_, rfl, hS8, ?_⟩
      refine PL.takeP rfl (Pure.nilCheck rfl) rfl hS8 ?_
      refine PL.takeP rfl (Pure.fieldAddr (r := 0) Tryd.runUnderlying110 rfl Tryd.sizeOf106 rfl rfl) rfl hS8 ?_
      refine PL.nilTail ?_
      replace hK := hK.chg0 hS8
      replace hb := hb.chg0 hS8
      replace hC := hC.then_ hS8
      refine OL.storeRow (vs := sv (comp (absorb (absorb init (m.take (cut m))) (A.take j)) (bt ((A.drop j).take 64)))) rfl rfl (rfl) (by simp [sv, iv, S8.l, Value.oneCell']) hb (by show 0 + 8 ≤ 10; decide) ?_
      intro w9 hb9 hc9
      replace hK := hK.chg hc9 (by simp; omega)
      replace hC := hC.trans1 hc9 (by first | exact .inr (by omega) | exact .inl (by simp))
      replace hb := hb9
      replace hb : Blk w9 g 110 (hcells (absorb (absorb init (m.take (cut m))) (A.take (j + 64))) (m.drop (cut m)) (m.length + l.length)) := by rw [absorb_next _ A j (j / 64) (by omega) (by omega)]; exact hb
      refine OL.nil ?_
      refine TE.region ?_
      refine OL.pure (Pure.move rfl) rfl ?_
      refine OL.pure (Pure.sliceFrom (l := (A.drop j)) (p := 64) Tryd.underlying9 rfl rfl (by omega) (by simp; omega)) rfl ?_
      refine OL.pure (Pure.assign rfl) rfl ?_
      refine OL.nil ?_
      refine TE.inBlock ?_
      refine TE.cast (.string (str (A.drop (j + 64)))) 1 rfl (by rw [← List.drop_drop]) ?_
      exact TE.sub [0, 1] rfl (ih5 (j + 64) _ ⟨by omega, by omega, hC, hK, hb⟩ (by omega))
    ·
      obtain ⟨d1, d2, d3⟩ := write_at m l A hA j hj hjl (by simp at hge; omega)
      rw [d3] at hb
      refine TE.exit rfl ?_
      refine TE.seq ?_
      refine TE.region ?_
      refine OL.pure (Pure.move rfl) rfl ?_
      refine OL.pure (Pure.move rfl) rfl ?_
      refine OL.toBytes Tryd.underlying9 Tryd.underlying24 Tryd.underlying5 rfl rfl ?_
      intro v0 w10 hv0 hc10 ho_v0
      have hm_v0 : Mine w.heap.size v0 := Mine.new ho_v0 (by have := hC.size; omega)
      replace hK := hK.chg0 hc10
      replace hb := hb.chg0 hc10
      replace hC := hC.then_ hc10
      refine OL.val (Run.rowStr Tryd.underlying24 Tryd.underlying5 Tryd.underlying9 rfl hv0) rfl ?_
      refine OL.pure (Pure.nilCheck rfl) rfl ?_
      refine OL.pure (Pure.fieldAddr (r := 8) Tryd.runUnderlying110 rfl Tryd.sizeOf9 rfl rfl) rfl ?_
      refine OL.store (j := 8) rfl rfl Tryd.sizeOf9 rfl hb (by omega) (rfl) ?_
      intro w11 hb11 hc11
      replace hK := hK.chg hc11 (by simp; omega)
      replace hv0 := hv0.chg hc11 (hv0.apart hb (by decide))
      replace hC := hC.trans1 hc11 (by first | exact .inr (by omega) | exact .inl (by simp))
      replace hb := hb11
      replace hb : Blk w11 g 110 (hcells (absorb init ((m ++ l).take (cut (m ++ l)))) ((m ++ l).drop (cut (m ++ l))) (m ++ l).length) := by rw [← d2, List.length_append]; exact hb
      refine OL.nil ?_
      refine TE.seq ?_
      refine TE.seq ?_
      refine TE.region ?_
      refine OL.pure (Pure.move rfl) rfl ?_
      refine OL.pure (Pure.nilCheck rfl) rfl ?_
      refine OL.pure (Pure.fieldAddr (r := 9) Tryd.runUnderlying110 rfl Tryd.sizeOf3 rfl rfl) rfl ?_
      refine OL.val (Run.load (i := 9) rfl Tryd.isAgg3 hb (by omega) rfl) rfl ?_
      refine OL.pure (Pure.lss rfl rfl) rfl ?_
      refine OL.nil ?_
      refine TE.ite rfl (fun hs => ?_) (fun hs => ?_)
      ·
        have hs2 : (m ++ l).length < 64 := by simp at hs ⊢; omega
        refine TE.region ?_
        refine OL.pure (Pure.move rfl) rfl ?_
        refine OL.pure (Pure.build (cs := sv zero8) rfl (by kernel_rfl)) rfl ?_
        refine OL.pure (Pure.nilCheck rfl) rfl ?_
        refine OL.pure (Pure.fieldAddr (r := 0) Tryd.runUnderlying110 rfl Tryd.sizeOf106 rfl rfl) rfl ?_
        refine OL.storeRow (vs := sv zero8) rfl rfl (rfl) (by simp [sv, iv, S8.l, Value.oneCell']) hb (by show 0 + 8 ≤ 10; decide) ?_
        intro w12 hb12 hc12
        replace hK := hK.chg hc12 (by simp; omega)
        replace hv0 := hv0.chg hc12 (hv0.apart hb (by decide))
        replace hC := hC.trans1 hc12 (by first | exact .inr (by omega) | exact .inl (by simp))
        replace hb := hb12
        refine OL.nil ?_
        refine TE.seq ?_
        refine TE.region ?_
        refine OL.pure (Pure.assign rfl) rfl ?_
        refine OL.nil ?_
        exact TE.ret (vs := [.int .i64 0]) Tryd.results54 (⟨rfl, trivial⟩) ⟨rfl, hC, by rw [hash_small hs2]; exact hb⟩
      ·
        refine TE.skip ?_
        refine TE.seq ?_
        refine TE.region ?_
        refine OL.pure (Pure.assign rfl) rfl ?_
        refine OL.nil ?_
        have hs2 : ¬ (m ++ l).length < 64 := by simp at hs ⊢; omega
        exact TE.ret (vs := [.int .i64 0]) Tryd.results54 (⟨rfl, trivial⟩) ⟨rfl, hC, by rw [hash_big hs2]; exact hb⟩

set_option maxHeartbeats 1000000 in
theorem hsum_any {tK : TypeId} (m : List UInt8) (hm : m.length ≤ 4294967296) (g : Nat) (w : World) (hK : Blk w 1 tK (iv .u32 K)) (hb : Blk w g 110 (hashCells m)) : Calls Tryd.prog 55 #[.pointer (some ⟨g, 0, none⟩)] w (RetC (.agg (iv .u8 (sum m)).toArray) w) := by
  refine calls_of_TE (vs := [.pointer (some ⟨g, 0, none⟩)]) Tryd.func55 Tryd.ntmps55 rfl (by simp) ?_
  have h0w : 1 < w.heap.size := hK.lt
  have hC : Chg [] w w := Chg.refl _ _
  refine TE.seq ?_
  refine TE.region ?_
  refine OL.alloc Tryd.zeroValue98 rfl ?_
  intro gr w1 hr hc1 hg_gr
  have lt_1_gr : 1 < gr := by have := hK.lt; omega
  have lt_g_gr : g < gr := by have := hb.lt; omega
  have ge_gr : w.heap.size ≤ gr := by have := hC.size; omega
  replace hK := hK.chg0 hc1
  replace hb := hb.chg0 hc1
  replace hC := hC.then_ hc1
  have hr : Blk w1 gr 98 (iv .u8 (List.replicate 32 0)) := hr
  refine OL.nil ?_
  refine TE.seq ?_
  refine TE.seq ?_
  refine TE.region ?_
  refine OL.pure (Pure.move rfl) rfl ?_
  refine OL.pure (Pure.eqlNil Tryd.underlying117 rfl rfl) rfl ?_
  refine OL.nil ?_
  refine TE.condF rfl rfl ?_
  refine TE.skip ?_
  refine TE.seq ?_
  refine TE.region ?_
  refine OL.pure (Pure.move rfl) rfl ?_
  refine OL.pure (Pure.nilCheck rfl) rfl ?_
  refine OL.pure (Pure.fieldAddr (r := 0) Tryd.runUnderlying110 rfl Tryd.sizeOf106 rfl rfl) rfl ?_
  refine OL.val (Run.loadRow (i := 0) (vs := sv (stOf m)) rfl Tryd.underlying106 rfl rfl hb (by omega) rfl) rfl ?_
  refine OL.alloc Tryd.zeroValue106 rfl ?_
  intro gs w2 hs hc2 hg_gs
  have lt_1_gs : 1 < gs := by have := hK.lt; omega
  have lt_g_gs : g < gs := by have := hb.lt; omega
  have lt_gr_gs : gr < gs := by have := hr.lt; omega
  have ge_gs : w.heap.size ≤ gs := by have := hC.size; omega
  replace hK := hK.chg0 hc2
  replace hb := hb.chg0 hc2
  replace hr := hr.chg0 hc2
  replace hC := hC.then_ hc2
  refine OL.storeRow (vs := sv (stOf m)) rfl rfl (rfl) (by simp [sv, iv, S8.l, Value.oneCell']) hs (Nat.le_refl 8) ?_
  intro w3 hb3 hc3
  replace hK := hK.chg hc3 (by simp; omega)
  replace hb := hb.chg hc3 (by simpa using hb.ne hs (by decide))
  replace hr := hr.chg hc3 (by simpa using hr.ne hs (by decide))
  replace hC := hC.trans1 hc3 (by first | exact .inr (by omega) | exact .inl (by simp))
  replace hs := hb3
  replace hs := hs.all rfl
  refine OL.nil ?_
  refine TE.seq ?_
  refine TE.seq ?_
  refine TE.region ?_
  refine OL.pure (Pure.move rfl) rfl ?_
  refine OL.pure (Pure.nilCheck rfl) rfl ?_
  refine OL.pure (Pure.fieldAddr (r := 9) Tryd.runUnderlying110 rfl Tryd.sizeOf3 rfl rfl) rfl ?_
  refine OL.val (Run.load (i := 9) rfl Tryd.isAgg3 hb (by omega) rfl) rfl ?_
  refine OL.pure (Pure.lss rfl rfl) rfl ?_
  refine OL.nil ?_
  refine TE.join (σ := Unit) [0, 2, 3] (fun s_ w_ => Chg [] w w_ ∧ Blk w_ 1 tK (iv .u32 K) ∧ Blk w_ g 110 (hashCells m) ∧ Blk w_ gr 98 (iv .u8 (List.replicate 32 0)) ∧ Blk w_ gs 106 (sv (absorb init (m.take (cut m))))) (fun s_ => [(0, .pointer (some ⟨g, 0, none⟩)), (2, .pointer (some ⟨gr, 0, none⟩)), (3, .pointer (some ⟨gs, 0, none⟩))]) rfl (fun hlt hj4 => ?_) (fun hlt hj4 => ?_) (fun s_ w_ h_ => ?_)
  ·
    refine TE.region ?_
    refine OL.call rfl Tryd.call59 rfl (begin_any _) ?_
    rintro _ w5 ⟨rfl, hc5⟩
    replace hK := hK.chg0 hc5
    replace hb := hb.chg0 hc5
    replace hr := hr.chg0 hc5
    replace hs := hs.chg0 hc5
    replace hC := hC.then_ hc5
    refine ⟨_, rfl, ?_⟩
    refine OL.storeRow (vs := sv init) rfl rfl (rfl) (by simp [sv, iv, S8.l, Value.oneCell']) hs (Nat.le_refl 8) ?_
    intro w6 hb6 hc6
    replace hK := hK.chg hc6 (by simp; omega)
    replace hb := hb.chg hc6 (by simpa using hb.ne hs (by decide))
    replace hr := hr.chg hc6 (by simpa using hr.ne hs (by decide))
    replace hC := hC.trans1 hc6 (by first | exact .inr (by omega) | exact .inl (by simp))
    replace hs := hb6
    replace hs := hs.all rfl
    exact TE.sub [0, 2, 3] rfl (hj4 () _ ⟨hC, hK, hb, hr, by rw [st_small (by omega)]; exact hs⟩)
  ·
    refine TE.skip ?_
    exact TE.sub [0, 2, 3] rfl (hj4 () _ ⟨hC, hK, hb, hr, by rw [← st_big (by omega)]; exact hs⟩)
  ·
    revert s_ w_ h_
    rintro ⟨⟩ w4 ⟨hC, hK, hb, hr, hs⟩
    try dsimp only
    obtain ⟨S0, hS0⟩ : ∃ S0, S0 = (absorb init (m.take (cut m))) := ⟨_, rfl⟩
    rw [← hS0] at hs
    have hD := rest_len m
    refine TE.seq ?_
    refine TE.region ?_
    refine OL.pure (Pure.move rfl) rfl ?_
    refine OL.pure (Pure.nilCheck rfl) rfl ?_
    refine OL.pure (Pure.fieldAddr (r := 8) Tryd.runUnderlying110 rfl Tryd.sizeOf9 rfl rfl) rfl ?_
    refine OL.val (Run.load (i := 8) rfl Tryd.isAgg9 hb (by omega) rfl) rfl ?_
    refine OL.toBytes Tryd.underlying9 Tryd.underlying24 Tryd.underlying5 rfl rfl ?_
    intro v0 w7 hv0 hc7 ho_v0
    have hm_v0 : Mine w.heap.size v0 := Mine.new ho_v0 (by have := hC.size; omega)
    replace hK := hK.chg0 hc7
    replace hb := hb.chg0 hc7
    replace hr := hr.chg0 hc7
    replace hs := hs.chg0 hc7
    replace hC := hC.then_ hc7
    refine OL.pure (Pure.assign rfl) rfl ?_
    refine OL.nil ?_
    refine TE.seq ?_
    refine TE.region ?_
    refine OL.pure (Pure.move rfl) rfl ?_
    refine OL.buildSlice (cs := [.int .u8 128]) rfl Tryd.runUnderlying24 Tryd.sizeOf5 Tryd.zeroValue5 (by decide) (by decide) (by kernel_rfl) rfl ?_
    intro q w8 hq hc8 hg_q
    have lt_1_q : 1 < q := by have := hK.lt; omega
    have lt_g_q : g < q := by have := hb.lt; omega
    have lt_gr_q : gr < q := by have := hr.lt; omega
    have lt_gs_q : gs < q := by have := hs.lt; omega
    have ge_q : w.heap.size ≤ q := by have := hC.size; omega
    replace hK := hK.chg0 hc8
    replace hb := hb.chg0 hc8
    replace hr := hr.chg0 hc8
    replace hs := hs.chg0 hc8
    replace hv0 := hv0.chg0 hc8
    replace hC := hC.then_ hc8
    refine OL.append (size := 1) (news := [.int .u8 128]) (v := v0) rfl rfl Tryd.underlying24 (.inl Tryd.underlying24) info5 rfl rfl rfl (by decide) rfl hv0 ((Src.of_blk hq rfl rfl)) (by simp [Value.oneCell']) (by show _ * 1 ≤ _; omega) ?_
    intro v1 w9 hv1 hc9 ho_v1
    have hm_v1 : Mine w.heap.size v1 := Mine.step hm_v0 (by have := hC.size; omega) ho_v1
    replace hK := hK.chg hc9 (fun h_ => absurd (hm_v0 _ h_) (by omega))
    replace hb := hb.chg hc9 (hv0.notin hb (by decide))
    replace hr := hr.chg hc9 (hv0.notin hr (by decide))
    replace hs := hs.chg hc9 (hv0.notin hs (by decide))
    replace hC := hC.own hc9 hm_v0
    have hv : Row w9 5 1 v1 ((m.drop (cut m)).length + 1 + 0) (bv ((m.drop (cut m)) ++ [128] ++ List.replicate 0 0)) := by simpa [bv] using hv1
    refine OL.pure (Pure.assign rfl) rfl ?_
    refine OL.nil ?_
    refine TE.seq ?_
    refine TE.block ?_
    refine TE.loopInv (σ := Nat × Value) [0, 2, 3, 4] (fun s_ w_ => match s_ with | (j, v) => j ≤ zeros m.length ∧ Row w_ 5 1 v ((m.drop (cut m)).length + 1 + j) (bv ((m.drop (cut m)) ++ [128] ++ List.replicate j 0)) ∧ Mine w.heap.size v ∧ Chg [] w w_ ∧ Blk w_ 1 tK (iv .u32 K) ∧ Blk w_ g 110 (hashCells m) ∧ Blk w_ gr 98 (iv .u8 (List.replicate 32 0)) ∧  Blk w_ gs 106 (sv S0)) (fun s_ => [(0, .pointer (some ⟨g, 0, none⟩)), (2, .pointer (some ⟨gr, 0, none⟩)), (3, .pointer (some ⟨gs, 0, none⟩)), (4, s_.2)]) (fun s_ => zeros m.length - s_.1) (0, v1) ⟨by omega, hv, hm_v1, hC, hK, hb, hr, hs⟩ rfl ?_
    rintro ⟨j, v⟩ w10 ⟨hj, hv, hm_v, hC, hK, hb, hr, hs⟩ ih10
    try dsimp only
    have hz := zeros_bd m.length
    refine TE.seq ?_
    refine TE.seq ?_
    refine TE.region ?_
    refine OL.pure (Pure.move rfl) rfl ?_
    refine OL.pure (Pure.lenRow Tryd.runUnderlying24 rfl hv) rfl ?_
    refine OL.pure (Pure.rem rfl rfl (by omega) (by omega)) rfl ?_
    refine OL.pure (Pure.neq rfl rfl) rfl ?_
    refine OL.nil ?_
    refine TE.ite rfl (fun hne => ?_) (fun hne => ?_)
    ·
      have hj1 : j < zeros m.length := by unfold zeros at hj ⊢; omega
      refine TE.skip ?_
      refine TE.block ?_
      refine TE.region ?_
      refine OL.pure (Pure.move rfl) rfl ?_
      refine OL.buildSlice (cs := [.int .u8 0]) rfl Tryd.runUnderlying24 Tryd.sizeOf5 Tryd.zeroValue5 (by decide) (by decide) (by kernel_rfl) rfl ?_
      intro q w11 hq hc11 hg_q
      have lt_1_q : 1 < q := by have := hK.lt; omega
      have lt_g_q : g < q := by have := hb.lt; omega
      have lt_gr_q : gr < q := by have := hr.lt; omega
      have lt_gs_q : gs < q := by have := hs.lt; omega
      have ge_q : w.heap.size ≤ q := by have := hC.size; omega
      replace hK := hK.chg0 hc11
      replace hb := hb.chg0 hc11
      replace hr := hr.chg0 hc11
      replace hs := hs.chg0 hc11
      replace hv := hv.chg0 hc11
      replace hC := hC.then_ hc11
      refine OL.append (size := 1) (news := [.int .u8 0]) (v := v) rfl rfl Tryd.underlying24 (.inl Tryd.underlying24) info5 rfl rfl rfl (by decide) rfl hv ((Src.of_blk hq rfl rfl)) (by simp [Value.oneCell']) (by show _ * 1 ≤ _; omega) ?_
      intro v2 w12 hv2 hc12 ho_v2
      have hm_v2 : Mine w.heap.size v2 := Mine.step hm_v (by have := hC.size; omega) ho_v2
      replace hK := hK.chg hc12 (fun h_ => absurd (hm_v _ h_) (by omega))
      replace hb := hb.chg hc12 (hv.notin hb (by decide))
      replace hr := hr.chg hc12 (hv.notin hr (by decide))
      replace hs := hs.chg hc12 (hv.notin hs (by decide))
      replace hC := hC.own hc12 hm_v
      replace hv2 : Row w12 5 1 v2 ((m.drop (cut m)).length + 1 + (j + 1)) (bv ((m.drop (cut m)) ++ [128] ++ List.replicate (j + 1) 0)) := by rw [rep_snoc, ← List.append_assoc, ← bv_one]; exact hv2
      refine OL.pure (Pure.assign rfl) rfl ?_
      refine OL.nil ?_
      refine TE.inBlock ?_
      exact TE.sub [0, 2, 3, 4] rfl (ih10 (j + 1, v2) _ ⟨by omega, hv2, hm_v2, hC, hK, hb, hr, hs⟩ (by simp only []; omega))
    ·
      obtain rfl : j = zeros m.length := by unfold zeros at hj ⊢; omega
      refine TE.exit rfl ?_
      refine TE.seq ?_
      refine TE.seq ?_
      refine TE.region ?_
      refine OL.pure (Pure.assign rfl) rfl ?_
      refine OL.nil ?_
      refine TE.block ?_
      have hv : Row w10 5 1 v ((m.drop (cut m)).length + 1 + zeros m.length + 0) (bv ((m.drop (cut m)) ++ [128] ++ List.replicate (zeros m.length) 0 ++ (len8 (8 * m.length)).take 0)) := by simpa using hv
      refine TE.loopInv (σ := Nat × Value) [0, 2, 3, 4, 5] (fun s_ w_ => match s_ with | (k, v) => k ≤ 8 ∧ Row w_ 5 1 v ((m.drop (cut m)).length + 1 + zeros m.length + k) (bv ((m.drop (cut m)) ++ [128] ++ List.replicate (zeros m.length) 0 ++ (len8 (8 * m.length)).take k)) ∧ Mine w.heap.size v ∧ Chg [] w w_ ∧ Blk w_ 1 tK (iv .u32 K) ∧ Blk w_ g 110 (hashCells m) ∧ Blk w_ gr 98 (iv .u8 (List.replicate 32 0)) ∧  Blk w_ gs 106 (sv S0)) (fun s_ => [(0, .pointer (some ⟨g, 0, none⟩)), (2, .pointer (some ⟨gr, 0, none⟩)), (3, .pointer (some ⟨gs, 0, none⟩)), (4, s_.2), (5, .int .i64 (7 - (s_.1 : Int)))]) (fun s_ => 8 - s_.1) (0, v) ⟨by omega, hv, hm_v, hC, hK, hb, hr, hs⟩ rfl ?_
      rintro ⟨k, v⟩ w13 ⟨hk, hv, hm_v, hC, hK, hb, hr, hs⟩ ih13
      try dsimp only
      refine TE.seq ?_
      refine TE.seq ?_
      refine TE.region ?_
      refine OL.pure (Pure.move rfl) rfl ?_
      refine OL.pure (Pure.geq rfl rfl) rfl ?_
      refine OL.nil ?_
      refine TE.ite rfl (fun hge => ?_) (fun hge => ?_)
      ·
        refine TE.skip ?_
        refine TE.seq ?_
        refine TE.block ?_
        refine TE.region ?_
        refine OL.pure (Pure.move rfl) rfl ?_
        refine OL.pure (Pure.move rfl) rfl ?_
        refine OL.pure (Pure.nilCheck rfl) rfl ?_
        refine OL.pure (Pure.fieldAddr (r := 9) Tryd.runUnderlying110 rfl Tryd.sizeOf3 rfl rfl) rfl ?_
        refine OL.val (Run.load (i := 9) rfl Tryd.isAgg3 hb (by omega) rfl) rfl ?_
        refine OL.pure (Pure.conv Tryd.runUnderlying3 Tryd.runUnderlying85 rfl (u64in (by omega) (by omega))) rfl ?_
        refine OL.pure (Pure.mul rfl rfl (u64in (by omega) (by omega))) rfl ?_
        refine OL.pure (Pure.move rfl) rfl ?_
        refine OL.pure (Pure.mul rfl rfl (i64 (by omega) (by omega))) rfl ?_
        refine OL.pure (Pure.shr (p := 2 ^ (8 * (7 - k))) rfl rfl (by omega) (by congr 1; simp [IntKind.bits]; omega)) rfl ?_
        refine OL.pure (Pure.conv Tryd.runUnderlying85 Tryd.runUnderlying5 rfl (u8w _)) rfl ?_
        refine OL.cast (.int .u8 (((UInt8.ofNat (8 * m.length / 2 ^ (8 * (7 - k)))).toNat : Nat) : Int)) 52 rfl (by rw [← u8nat, Int.mul_comm (m.length : Int) 8]; push_cast; rfl) ?_
        refine OL.buildSlice (cs := [.int .u8 (((UInt8.ofNat (8 * m.length / 2 ^ (8 * (7 - k)))).toNat : Nat) : Int)]) rfl Tryd.runUnderlying24 Tryd.sizeOf5 Tryd.zeroValue5 (by decide) (by decide) (by kernel_rfl) rfl ?_
        intro q w14 hq hc14 hg_q
        have lt_1_q : 1 < q := by have := hK.lt; omega
        have lt_g_q : g < q := by have := hb.lt; omega
        have lt_gr_q : gr < q := by have := hr.lt; omega
        have lt_gs_q : gs < q := by have := hs.lt; omega
        have ge_q : w.heap.size ≤ q := by have := hC.size; omega
        replace hK := hK.chg0 hc14
        replace hb := hb.chg0 hc14
        replace hr := hr.chg0 hc14
        replace hs := hs.chg0 hc14
        replace hv := hv.chg0 hc14
        replace hC := hC.then_ hc14
        refine OL.append (size := 1) (news := [.int .u8 (((UInt8.ofNat (8 * m.length / 2 ^ (8 * (7 - k)))).toNat : Nat) : Int)]) (v := v) rfl rfl Tryd.underlying24 (.inl Tryd.underlying24) info5 rfl rfl rfl (by decide) rfl hv ((Src.of_blk hq rfl rfl)) (by simp [Value.oneCell']) (by show _ * 1 ≤ _; omega) ?_
        intro v2 w15 hv2 hc15 ho_v2
        have hm_v2 : Mine w.heap.size v2 := Mine.step hm_v (by have := hC.size; omega) ho_v2
        replace hK := hK.chg hc15 (fun h_ => absurd (hm_v _ h_) (by omega))
        replace hb := hb.chg hc15 (hv.notin hb (by decide))
        replace hr := hr.chg hc15 (hv.notin hr (by decide))
        replace hs := hs.chg hc15 (hv.notin hs (by decide))
        replace hC := hC.own hc15 hm_v
        replace hv2 : Row w15 5 1 v2 ((m.drop (cut m)).length + 1 + zeros m.length + (k + 1)) (bv ((m.drop (cut m)) ++ [128] ++ List.replicate (zeros m.length) 0 ++ (len8 (8 * m.length)).take (k + 1))) := by rw [len8_take _ _ (by omega), ← List.append_assoc, ← bv_one]; exact hv2
        refine OL.pure (Pure.assign rfl) rfl ?_
        refine OL.nil ?_
        refine TE.inBlock ?_
        refine TE.region ?_
        refine OL.pure (Pure.move rfl) rfl ?_
        refine OL.pure (Pure.sub rfl rfl (i64 (by omega) (by omega))) rfl ?_
        refine OL.pure (Pure.assign rfl) rfl ?_
        refine OL.nil ?_
        refine TE.cast (.int .i64 (7 - ((k + 1 : Nat) : Int))) 5 rfl (congrArg (Value.int .i64) (by omega)) ?_
        exact TE.sub [0, 2, 3, 4, 5] rfl (ih13 (k + 1, v2) _ ⟨by omega, hv2, hm_v2, hC, hK, hb, hr, hs⟩ (by simp only []; omega))
      ·
        obtain rfl : k = 8 := by omega
        obtain ⟨R, hR⟩ : ∃ R, R = (pad m).drop (cut m) := ⟨_, rfl⟩
        have hRl : R.length = (m.drop (cut m)).length + 1 + zeros m.length + 8 := by rw [hR, padR_len, hD]
        have hRm : R.length % 64 = 0 := by rw [hR, padR_mod]
        replace hv : Row w13 5 1 v R.length (bv R) := by rw [hRl, hR, pad_drop]; exact hv
        obtain ⟨gv, cap, cs, rfl, hvb, hvc, hvl, hvt⟩ := hv.form (by omega)
        refine TE.exit rfl ?_
        refine TE.seq ?_
        refine TE.seq ?_
        refine TE.region ?_
        refine OL.pure (Pure.assign rfl) rfl ?_
        refine OL.nil ?_
        refine TE.block ?_
        replace hs : Blk w13 gs 106 (sv (absorb S0 (R.take 0))) := by rw [absorb_zero]; exact hs
        refine TE.loopInv (σ := Nat) [0, 2, 3, 4, 6] (fun s_ w_ => s_ % 64 = 0 ∧ s_ ≤ R.length ∧ Chg [] w w_ ∧ Blk w_ 1 tK (iv .u32 K) ∧ Blk w_ g 110 (hashCells m) ∧ Blk w_ gr 98 (iv .u8 (List.replicate 32 0)) ∧  Blk w_ gv 5 cs ∧ Blk w_ gs 106 (sv (absorb S0 (R.take s_)))) (fun s_ => [(0, .pointer (some ⟨g, 0, none⟩)), (2, .pointer (some ⟨gr, 0, none⟩)), (3, .pointer (some ⟨gs, 0, none⟩)), (4, .slice (some ⟨gv, 0, none⟩) R.length cap), (6, .int .i64 (↑s_))]) (fun s_ => R.length - s_) 0 ⟨rfl, by omega, hC, hK, hb, hr, hvb, hs⟩ rfl ?_
        rintro j w16 ⟨hj, hjl, hC, hK, hb, hr, hvb, hs⟩ ih16
        refine TE.seq ?_
        refine TE.seq ?_
        refine TE.region ?_
        refine OL.pure (Pure.move rfl) rfl ?_
        refine OL.pure (Pure.move rfl) rfl ?_
        refine OL.pure (Pure.lenSlice Tryd.runUnderlying24 rfl) rfl ?_
        refine OL.pure (Pure.lss rfl rfl) rfl ?_
        refine OL.nil ?_
        refine TE.ite rfl (fun hlt => ?_) (fun hlt => ?_)
        ·
          have hjl2 : j + 64 ≤ R.length := by omega
          refine TE.skip ?_
          refine TE.seq ?_
          refine TE.block ?_
          refine TE.plan 8 (.cons (0, true) (.cons (1, true) (.cons (2, true) (.cons (3, true) (.cons (4, true) (.cons (5, true) (.cons (6, false) (.cons (7, false) .nil)))))))) (fun w_ => Chg [] w16 w_) rfl (by kernel_rfl) rfl ?_
          have hS17 : Chg [] w16 w16.drew := Chg.drew _ _
          refine PL.take rfl (fun w_ h_ => Run.loadRow (i := 0) (vs := sv (absorb S0 (R.take j))) rfl Tryd.underlying106 rfl rfl (hs.chg0 h_) (by omega) rfl) rfl hS17 ?_
          refine PL.takeP rfl (Pure.move rfl) rfl hS17 ?_
          refine PL.takeP rfl (Pure.move rfl) rfl hS17 ?_
          refine PL.takeP rfl (Pure.move rfl) rfl hS17 ?_
          refine PL.takeP rfl (Pure.add rfl rfl (i64 (by omega) (by omega))) rfl hS17 ?_
          refine PL.takeP rfl (Pure.sliceSl (p := j) (q := j + 64) (r := j) Tryd.runUnderlying24 Tryd.sizeOf5 rfl rfl rfl rfl (by omega) (by omega) (by omega) (by omega) (by omega)) rfl hS17 ?_
          refine PL.val rfl (Run.toStr (bs := (R.drop j).take 64) Tryd.underlying24 Tryd.underlying5 Tryd.underlying9 rfl (hvb.chg0 hS17) (by simp; omega) (absorb_sub hvt (by omega))) rfl hS17 ?_
          refine PL.call rfl rfl Tryd.call60 rfl (block_any (absorb S0 (R.take j)) ((R.drop j).take 64) (by simp; omega) _ (hK.chg0 hS17)) ?_
          rintro _ w18 ⟨rfl, hc18⟩
          have hS19 := hS17.then_ hc18
          refine ⟨_, rfl, hS19, ?_⟩
          refine PL.nilTail ?_
          replace hK := hK.chg0 hS19
          replace hb := hb.chg0 hS19
          replace hr := hr.chg0 hS19
          replace hs := hs.chg0 hS19
          replace hvb := hvb.chg0 hS19
          replace hC := hC.then_ hS19
          refine OL.storeRow (vs := sv (comp (absorb S0 (R.take j)) (bt ((R.drop j).take 64)))) rfl rfl (rfl) (by simp [sv, iv, S8.l, Value.oneCell']) hs (Nat.le_refl 8) ?_
          intro w20 hb20 hc20
          replace hK := hK.chg hc20 (by simp; omega)
          replace hb := hb.chg hc20 (by simpa using hb.ne hs (by decide))
          replace hr := hr.chg hc20 (by simpa using hr.ne hs (by decide))
          replace hvb := hvb.chg hc20 (by simpa using hvb.ne hs (by decide))
          replace hC := hC.trans1 hc20 (by first | exact .inr (by omega) | exact .inl (by simp))
          replace hs := hb20
          replace hs := hs.all rfl
          rw [← absorb_next _ R j (j / 64) (by omega) (by omega)] at hs
          refine OL.nil ?_
          refine TE.inBlock ?_
          refine TE.region ?_
          refine OL.pure (Pure.move rfl) rfl ?_
          refine OL.pure (Pure.add rfl rfl (i64 (by omega) (by omega))) rfl ?_
          refine OL.pure (Pure.assign rfl) rfl ?_
          refine OL.nil ?_
          exact TE.sub [0, 2, 3, 4, 6] rfl (ih16 (j + 64) _ ⟨by omega, by omega, hC, hK, hb, hr, hvb, hs⟩ (by omega))
        ·
          obtain rfl : j = R.length := by omega
          obtain ⟨S, hS⟩ : ∃ S, S = absorb S0 (R.take R.length) := ⟨_, rfl⟩
          rw [← hS] at hs
          refine TE.exit rfl ?_
          refine TE.seq ?_
          refine TE.region ?_
          refine OL.alloc Tryd.zeroValue98 rfl ?_
          intro gd w21 hd hc21 hg_gd
          have lt_1_gd : 1 < gd := by have := hK.lt; omega
          have lt_g_gd : g < gd := by have := hb.lt; omega
          have lt_gr_gd : gr < gd := by have := hr.lt; omega
          have lt_gs_gd : gs < gd := by have := hs.lt; omega
          have ge_gd : w.heap.size ≤ gd := by have := hC.size; omega
          replace hK := hK.chg0 hc21
          replace hb := hb.chg0 hc21
          replace hr := hr.chg0 hc21
          replace hs := hs.chg0 hc21
          replace hC := hC.then_ hc21
          have hd : Blk w21 gd 98 (iv .u8 (digTo S 0)) := hd
          refine OL.nil ?_
          refine TE.seq ?_
          refine TE.seq ?_
          refine TE.region ?_
          refine OL.val (Run.loadAll rfl Tryd.underlying106 rfl hs (rfl)) rfl ?_
          refine OL.pure (Pure.move rfl) rfl ?_
          refine OL.nil ?_
          refine TE.block ?_
          refine TE.loopInv (σ := Nat) [2, 7, 69, 70] (fun s_ w_ => s_ ≤ 8 ∧ Chg [] w w_ ∧ Blk w_ gr 98 (iv .u8 (List.replicate 32 0)) ∧ Blk w_ gd 98 (iv .u8 (digTo S s_))) (fun s_ => [(2, .pointer (some ⟨gr, 0, none⟩)), (7, .pointer (some ⟨gd, 0, none⟩)), (69, .agg (sv S).toArray), (70, .int .i64 (↑s_))]) (fun s_ => 8 - s_) 0 ⟨by omega, hC, hr, hd⟩ rfl ?_
          rintro t w22 ⟨ht, hC, hr, hd⟩ ih22
          refine TE.seq ?_
          refine TE.region ?_
          refine OL.pure (Pure.lss rfl rfl) rfl ?_
          refine OL.nil ?_
          refine TE.seq ?_
          refine TE.ite rfl (fun hlt => ?_) (fun hlt => ?_)
          ·
            refine TE.skip ?_
            refine TE.seq ?_
            refine TE.block ?_
            refine TE.seq ?_
            refine TE.region ?_
            refine OL.pure (Pure.move rfl) rfl ?_
            refine OL.pure (Pure.indexAgg (cs := sv S) (j := t) (v := .int .u32 (S.l.getD t 0)) Tryd.runUnderlying106 Tryd.sizeOf105 Tryd.isAgg105 rfl rfl rfl (by omega) (iv_get (show t < 8 by omega))) rfl ?_
            refine OL.pure (Pure.assign rfl) rfl ?_
            refine OL.pure (Pure.assign rfl) rfl ?_
            refine OL.nil ?_
            refine TE.region ?_
            refine OL.pure (Pure.move rfl) rfl ?_
            refine OL.pure (Pure.mul rfl rfl (i64 (by omega) (by omega))) rfl ?_
            refine OL.pure (Pure.move rfl) rfl ?_
            refine OL.pure (Pure.mul rfl rfl (i64 (by omega) (by omega))) rfl ?_
            refine OL.pure (Pure.add rfl rfl (i64 (by omega) (by omega))) rfl ?_
            refine OL.pure (Pure.move rfl) rfl ?_
            refine OL.pure (Pure.mul rfl rfl (i64 (by omega) (by omega))) rfl ?_
            refine OL.pure (Pure.add rfl rfl (i64 (by omega) (by omega))) rfl ?_
            refine OL.pure (Pure.move rfl) rfl ?_
            refine OL.pure (Pure.mul rfl rfl (i64 (by omega) (by omega))) rfl ?_
            refine OL.pure (Pure.add rfl rfl (i64 (by omega) (by omega))) rfl ?_
            refine OL.pure (Pure.move rfl) rfl ?_
            refine OL.pure (Pure.shr (p := 16777216) rfl rfl (by decide) (by decide)) rfl ?_
            refine OL.pure (Pure.conv Tryd.runUnderlying105 Tryd.runUnderlying5 rfl (u8w _)) rfl ?_
            refine OL.pure (Pure.move rfl) rfl ?_
            refine OL.pure (Pure.shr (p := 65536) rfl rfl (by decide) (by decide)) rfl ?_
            refine OL.pure (Pure.conv Tryd.runUnderlying105 Tryd.runUnderlying5 rfl (u8w _)) rfl ?_
            refine OL.pure (Pure.move rfl) rfl ?_
            refine OL.pure (Pure.shr (p := 256) rfl rfl (by decide) (by decide)) rfl ?_
            refine OL.pure (Pure.conv Tryd.runUnderlying105 Tryd.runUnderlying5 rfl (u8w _)) rfl ?_
            refine OL.pure (Pure.move rfl) rfl ?_
            refine OL.pure (Pure.conv Tryd.runUnderlying105 Tryd.runUnderlying5 rfl (u8w _)) rfl ?_
            refine OL.pure (Pure.indexAddrA (r := 4 * t) Tryd.runUnderlying98 Tryd.sizeOf5 rfl rfl (by omega) (by omega) (by omega)) rfl ?_
            refine OL.store (j := 4 * t) rfl rfl Tryd.sizeOf5 rfl hd (by omega) (iv_get (by simp [digTo_len]; omega)) ?_
            intro w23 hb23 hc23
            replace hr := hr.chg hc23 (by simp; omega)
            replace hC := hC.trans1 hc23 (by first | exact .inr (by omega) | exact .inl (by simp))
            replace hd := hb23
            rw [iv_set] at hd
            refine OL.pure (Pure.indexAddrA (r := 4 * t + 1) Tryd.runUnderlying98 Tryd.sizeOf5 rfl rfl (by omega) (by omega) (by omega)) rfl ?_
            refine OL.store (j := 4 * t + 1) rfl rfl Tryd.sizeOf5 rfl hd (by omega) (iv_get (by simp [digTo_len]; omega)) ?_
            intro w24 hb24 hc24
            replace hr := hr.chg hc24 (by simp; omega)
            replace hC := hC.trans1 hc24 (by first | exact .inr (by omega) | exact .inl (by simp))
            replace hd := hb24
            rw [iv_set] at hd
            refine OL.pure (Pure.indexAddrA (r := 4 * t + 2) Tryd.runUnderlying98 Tryd.sizeOf5 rfl rfl (by omega) (by omega) (by omega)) rfl ?_
            refine OL.store (j := 4 * t + 2) rfl rfl Tryd.sizeOf5 rfl hd (by omega) (iv_get (by simp [digTo_len]; omega)) ?_
            intro w25 hb25 hc25
            replace hr := hr.chg hc25 (by simp; omega)
            replace hC := hC.trans1 hc25 (by first | exact .inr (by omega) | exact .inl (by simp))
            replace hd := hb25
            rw [iv_set] at hd
            refine OL.pure (Pure.indexAddrA (r := 4 * t + 3) Tryd.runUnderlying98 Tryd.sizeOf5 rfl rfl (by omega) (by omega) (by omega)) rfl ?_
            refine OL.store (j := 4 * t + 3) rfl rfl Tryd.sizeOf5 rfl hd (by omega) (iv_get (by simp [digTo_len]; omega)) ?_
            intro w26 hb26 hc26
            replace hr := hr.chg hc26 (by simp; omega)
            replace hC := hC.trans1 hc26 (by first | exact .inr (by omega) | exact .inl (by simp))
            replace hd := hb26
            rw [iv_set] at hd
            refine OL.nil ?_
            refine TE.inBlock ?_
            refine TE.region ?_
            refine OL.pure (Pure.add rfl rfl (i64 (by omega) (by omega))) rfl ?_
            refine OL.pure (Pure.move rfl) rfl ?_
            refine OL.nil ?_
            exact TE.sub [2, 7, 69, 70] rfl (ih22 (t + 1) _ ⟨by omega, hC, hr, hd⟩ (by omega))
          ·
            obtain rfl : t = 8 := by omega
            rw [digTo_all] at hd
            refine TE.exit rfl ?_
            refine TE.seq ?_
            refine TE.region ?_
            refine OL.val (Run.loadRow (i := 0) (vs := iv .u8 (dig S)) rfl Tryd.underlying98 rfl rfl hd (by omega) rfl) rfl ?_
            refine OL.storeRow (vs := iv .u8 (dig S)) rfl rfl (rfl) (by simp only [iv, List.mem_map]; rintro _ ⟨x, _, rfl⟩; rfl) hr (Nat.le_refl 32) ?_
            intro w27 hb27 hc27
            replace hd := hd.chg hc27 (by simp; omega)
            replace hC := hC.trans1 hc27 (by first | exact .inr (by omega) | exact .inl (by simp))
            replace hr := hb27
            replace hr := hr.all rfl
            have hfin : dig S = sum m := by rw [hS, List.take_length, hS0, hR, sum_of_parts]; rfl
            refine OL.nil ?_
            exact TE.ret (vs := [.agg (iv .u8 (sum m)).toArray]) Tryd.results55 (⟨⟨_, rfl, hfin ▸ loadRow_at Tryd.underlying98 rfl rfl hr rfl⟩, trivial⟩) ⟨rfl, hC⟩

end Go.Proofs.YtigjmemoaapmgaaDoor
