/- Scan of both, walked -/
import Derived.Test.YtigjmemoaapmgaaDoorProg
import Derived.Test.YtigjmemoaapmgaaDoorEng6
import Derived.Test.YtigjmemoaapmgaaDoorFrameSpec2
import Derived.Test.YtigjmemoaapmgaaDoorFrm1
import Derived.Test.YtigjmemoaapmgaaDoorFrm2
import Derived.Test.YtigjmemoaapmgaaDoorFrm3
import Derived.Test.YtigjmemoaapmgaaDoorFrm4
import Derived.Test.YtigjmemoaapmgaaDoorFrm5
import Derived.Test.YtigjmemoaapmgaaDoorFrm6
import Derived.Test.YtigjmemoaapmgaaDoorFrameSpec4
set_option linter.unusedVariables false
set_option maxRecDepth 4000
namespace Go.Proofs.YtigjmemoaapmgaaDoor
open Go.V Go.Sha Go.Frm
theorem info30 : Tryd.prog.info? 30 = some Tryd.t30 := by kernel_rfl
theorem info34 : Tryd.prog.info? 34 = some Tryd.t34 := by kernel_rfl
set_option maxHeartbeats 1000000 in
theorem scan_any {tK tF : TypeId} (s : List UInt8) (hl : s.length ≤ 1073741824) (st nb : Int) (hnb : -4611686018427387904 ≤ nb ∧ nb ≤ 4611686018427387904) (w : World) (hK : Blk w 1 tK (iv .u32 K)) (hF : Blk w 0 tF (iv .i64 fldL)) : Calls Tryd.prog 46 #[.string (str s), .int .i64 st, .int .i64 nb] w (RetScan 30 (scan' st s nb) w) := by
  refine calls_of_TE (vs := [.string (str s), .int .i64 st, .int .i64 nb]) Tryd.func46 Tryd.ntmps46 rfl (by simp) ?_
  have hC : Chg [] w w := Chg.refl _ _
  have h0w : 1 < w.heap.size := hK.lt
  have h1w : 0 < w.heap.size := hF.lt
  obtain ⟨l, z, y, hp⟩ : ∃ l z y, scan' st s nb = (l, z, y) := ⟨_, _, _, rfl⟩
  rw [hp]
  refine TE.seq ?_
  refine TE.region ?_
  refine OL.pure (Pure.assign rfl) rfl ?_
  refine OL.pure (Pure.assign rfl) rfl ?_
  refine OL.pure (Pure.assign rfl) rfl ?_
  refine OL.nil ?_
  refine TE.seq ?_
  refine TE.block ?_
  refine TE.cast (.int .i64 (nb + (([] : List Fr).length : Int))) 2 rfl (congrArg (Value.int .i64) (by simp)) ?_
  refine TE.loopInv (σ := List Fr × Nat × Value) [0, 1, 2, 6, 7] (fun s_ w_ => match s_ with | (acc, a, v) => ScanInv st nb s acc a ∧ Row w_ 30 4 v acc.length (fvs acc) ∧ Mine w.heap.size v ∧ Chg [] w w_ ∧ Blk w_ 1 tK (iv .u32 K) ∧ Blk w_ 0 tF (iv .i64 fldL)) (fun s_ => [(0, .string (str s)), (1, .int .i64 st), (2, .int .i64 (nb + (s_.1.length : Int))), (6, s_.2.2), (7, .int .i64 (↑s_.2.1))]) (fun s_ => s.length - s_.2.1) ([], 0, .slice none 0 0) ⟨ScanInv.start _ _ _, Row.nil _ _ _, Mine.nil _, hC, hK, hF⟩ rfl ?_
  rintro ⟨acc, a, v⟩ w1 ⟨hI, hv, hm_v, hC, hK, hF⟩ ih1
  try dsimp only
  have hI1 := hI.1
  have hI2 := hI.2.1
  refine TE.seq ?_
  refine TE.seq ?_
  refine TE.region ?_
  refine OL.pure (Pure.move rfl) rfl ?_
  refine OL.pure (Pure.move rfl) rfl ?_
  refine OL.pure (Pure.lenStr Tryd.runUnderlying9 rfl) rfl ?_
  refine OL.pure (Pure.lss rfl rfl) rfl ?_
  refine OL.nil ?_
  refine TE.ite rfl (fun hlt => ?_) (fun hlt => ?_)
  ·
    have hal : a < s.length := by omega
    obtain ⟨d, m, e, hd⟩ : ∃ d m e, Frm.decode (s.drop a) = (d, m, e) := ⟨_, _, _, rfl⟩
    refine TE.skip ?_
    refine TE.block ?_
    refine TE.seq ?_
    refine TE.region ?_
    refine OL.pure (Pure.move rfl) rfl ?_
    refine OL.pure (Pure.move rfl) rfl ?_
    refine OL.pure (Pure.sliceFrom (l := s) (p := a) Tryd.underlying9 rfl rfl (by omega) (by omega)) rfl ?_
    refine OL.call rfl Tryd.call13 rfl (decode_any (s.drop a) (by simp; omega) d m e hd _ hK hF) ?_
    rintro _ w2 ⟨rfl, hc2⟩
    replace hK := hK.chg0 hc2
    replace hF := hF.chg0 hc2
    replace hv := hv.chg0 hc2
    replace hC := hC.then_ hc2
    refine ⟨_, rfl, ?_⟩
    refine OL.pure (Pure.move rfl) rfl ?_
    refine OL.pure (Pure.extract (vs := [.agg (d).cells.toArray, .int .i64 ((m : Nat) : Int), .int .i64 e]) (i := 0) rfl rfl) rfl ?_
    refine OL.pure (Pure.extract (vs := [.agg (d).cells.toArray, .int .i64 ((m : Nat) : Int), .int .i64 e]) (i := 1) rfl rfl) rfl ?_
    refine OL.pure (Pure.extract (vs := [.agg (d).cells.toArray, .int .i64 ((m : Nat) : Int), .int .i64 e]) (i := 2) rfl rfl) rfl ?_
    have hvlt := hv.lt
    refine OL.alloc Tryd.zeroValue30 rfl ?_
    intro gd w3 hg hc3 hg_gd
    have lt_1_gd : 1 < gd := by have := hK.lt; omega
    have lt_0_gd : 0 < gd := by have := hF.lt; omega
    have ge_gd : w.heap.size ≤ gd := by have := hC.size; omega
    replace hK := hK.chg0 hc3
    replace hF := hF.chg0 hc3
    replace hv := hv.chg0 hc3
    replace hC := hC.then_ hc3
    have hg : Blk w3 gd 30 (Fr.zero.cells) := hg
    refine OL.storeRow (vs := (d).cells) rfl rfl (rfl) (by simp [Fr.cells, Value.oneCell']) hg (Nat.le_refl 4) ?_
    intro w4 hb4 hc4
    replace hK := hK.chg hc4 (by simp; omega)
    replace hF := hF.chg hc4 (by simp; omega)
    replace hv := hv.chg hc4 (fun k hk => by have := hvlt k hk; simp; omega)
    replace hC := hC.trans1 hc4 (by first | exact .inr (by omega) | exact .inl (by simp))
    replace hg := hb4
    replace hg := hg.all rfl
    by_cases he : e = 0
    ·
      by_cases hs1 : d.stream = st
      ·
        by_cases hs2 : d.number = nb + acc.length
        ·
          obtain ⟨hN, hm1, hm2⟩ := hI.next hal hd he hs1 hs2
          have hN2 := hN.2.1
          rw [List.length_append] at hN2
          refine OL.pure (Pure.assign rfl) rfl ?_
          refine OL.pure (Pure.assign rfl) rfl ?_
          refine OL.nil ?_
          refine TE.seq ?_
          refine TE.seq ?_
          refine TE.region ?_
          refine OL.pure (Pure.move rfl) rfl ?_
          refine OL.pure (Pure.neq rfl rfl) rfl ?_
          refine OL.cast (.bool false) 25 rfl (congrArg Value.bool (decide_eq_false (fun h => h he))) ?_
          refine OL.nil ?_
          refine TE.condF rfl rfl ?_
          refine TE.skip ?_
          refine TE.seq ?_
          refine TE.seq ?_
          refine TE.region ?_
          refine OL.pure (Pure.fieldAddr (r := 1) Tryd.runUnderlying30 rfl Tryd.sizeOf3 rfl rfl) rfl ?_
          refine OL.val (Run.load (i := 1) rfl Tryd.isAgg3 hg (by omega) rfl) rfl ?_
          refine OL.pure (Pure.move rfl) rfl ?_
          refine OL.pure (Pure.neq rfl rfl) rfl ?_
          refine OL.cast (.bool false) 32 rfl (congrArg Value.bool (decide_eq_false (fun h => h hs1))) ?_
          refine OL.pure (Pure.move rfl) rfl ?_
          refine OL.want rfl rfl rfl (Pure.fieldAddr (r := 2) Tryd.runUnderlying30 rfl Tryd.sizeOf3 rfl rfl _) rfl ?_
          refine OL.want rfl rfl rfl (Run.load (i := 2) rfl Tryd.isAgg3 hg (by omega) rfl) rfl ?_
          refine OL.want rfl rfl rfl (Pure.move rfl _) rfl ?_
          refine OL.want rfl rfl rfl (Pure.neq rfl rfl _) rfl ?_
          refine OL.cast (.bool false) 37 rfl (congrArg Value.bool (decide_eq_false (fun h => h hs2))) ?_
          refine OL.pure (Pure.pickF rfl rfl) rfl ?_
          refine OL.nil ?_
          refine TE.condF rfl rfl ?_
          refine TE.skip ?_
          refine TE.seq ?_
          refine TE.region ?_
          refine OL.pure (Pure.move rfl) rfl ?_
          refine OL.val (Run.loadAll rfl Tryd.underlying30 rfl hg (rfl)) rfl ?_
          refine OL.buildSlice (cs := d.cells) rfl Tryd.runUnderlying68 Tryd.sizeOf30 Tryd.zeroValue30 (by decide) (by decide) (by kernel_rfl) rfl ?_
          intro q w5 hq hc5 hg_q
          have lt_1_q : 1 < q := by have := hK.lt; omega
          have lt_0_q : 0 < q := by have := hF.lt; omega
          have lt_gd_q : gd < q := by have := hg.lt; omega
          have ge_q : w.heap.size ≤ q := by have := hC.size; omega
          replace hK := hK.chg0 hc5
          replace hF := hF.chg0 hc5
          replace hv := hv.chg0 hc5
          replace hg := hg.chg0 hc5
          replace hC := hC.then_ hc5
          refine OL.append (size := 4) (news := d.cells) (v := v) rfl rfl Tryd.underlying68 (.inl Tryd.underlying68) info30 rfl rfl rfl (by decide) rfl hv ((Src.of_blk hq rfl rfl)) (by simp [Fr.cells, Value.oneCell']) (by show _ * 40 ≤ _; omega) ?_
          intro v2 w6 hv2 hc6 ho_v2
          have hm_v2 : Mine w.heap.size v2 := Mine.step hm_v (by have := hC.size; omega) ho_v2
          replace hK := hK.chg hc6 (fun h_ => absurd (hm_v _ h_) (by omega))
          replace hF := hF.chg hc6 (fun h_ => absurd (hm_v _ h_) (by omega))
          replace hC := hC.own hc6 hm_v
          replace hv2 : Row w6 30 4 v2 (acc ++ [d]).length (fvs (acc ++ [d])) := by rw [fvs_snoc, List.length_append]; exact hv2
          refine OL.pure (Pure.assign rfl) rfl ?_
          refine OL.nil ?_
          refine TE.seq ?_
          refine TE.region ?_
          refine OL.pure (Pure.move rfl) rfl ?_
          refine OL.pure (Pure.move rfl) rfl ?_
          refine OL.pure (Pure.add rfl rfl (i64 (by omega) (by omega))) rfl ?_
          refine OL.pure (Pure.assign rfl) rfl ?_
          refine OL.nil ?_
          refine TE.region ?_
          refine OL.pure (Pure.move rfl) rfl ?_
          refine OL.pure (Pure.add rfl rfl (i64 (by omega) (by omega))) rfl ?_
          refine OL.pure (Pure.assign rfl) rfl ?_
          refine OL.cast (.int .i64 (nb + ((acc ++ [d]).length : Int))) 2 rfl (congrArg (Value.int .i64) (by rw [List.length_append]; simp; omega)) ?_
          refine OL.nil ?_
          refine TE.inBlock ?_
          refine TE.cast (.int .i64 (((a + m : Nat) : Nat) : Int)) 7 rfl (congrArg (Value.int .i64) (by omega)) ?_
          exact TE.sub [0, 1, 2, 6, 7] rfl (ih1 (acc ++ [d], a + m, v2) _ ⟨hN, hv2, hm_v2, hC, hK, hF⟩ (by simp only []; omega))
        ·
          obtain ⟨e1, e2, e3⟩ := hI.seq hp hal hd he (.inr hs2)
          refine OL.pure (Pure.assign rfl) rfl ?_
          refine OL.pure (Pure.assign rfl) rfl ?_
          refine OL.nil ?_
          refine TE.seq ?_
          refine TE.seq ?_
          refine TE.region ?_
          refine OL.pure (Pure.move rfl) rfl ?_
          refine OL.pure (Pure.neq rfl rfl) rfl ?_
          refine OL.cast (.bool false) 25 rfl (congrArg Value.bool (decide_eq_false (fun h => h he))) ?_
          refine OL.nil ?_
          refine TE.condF rfl rfl ?_
          refine TE.skip ?_
          refine TE.seq ?_
          refine TE.seq ?_
          refine TE.region ?_
          refine OL.pure (Pure.fieldAddr (r := 1) Tryd.runUnderlying30 rfl Tryd.sizeOf3 rfl rfl) rfl ?_
          refine OL.val (Run.load (i := 1) rfl Tryd.isAgg3 hg (by omega) rfl) rfl ?_
          refine OL.pure (Pure.move rfl) rfl ?_
          refine OL.pure (Pure.neq rfl rfl) rfl ?_
          refine OL.cast (.bool false) 32 rfl (congrArg Value.bool (decide_eq_false (fun h => h hs1))) ?_
          refine OL.pure (Pure.move rfl) rfl ?_
          refine OL.want rfl rfl rfl (Pure.fieldAddr (r := 2) Tryd.runUnderlying30 rfl Tryd.sizeOf3 rfl rfl _) rfl ?_
          refine OL.want rfl rfl rfl (Run.load (i := 2) rfl Tryd.isAgg3 hg (by omega) rfl) rfl ?_
          refine OL.want rfl rfl rfl (Pure.move rfl _) rfl ?_
          refine OL.want rfl rfl rfl (Pure.neq rfl rfl _) rfl ?_
          refine OL.cast (.bool true) 37 rfl (congrArg Value.bool (decide_eq_true (hs2))) ?_
          refine OL.pure (Pure.pickF rfl rfl) rfl ?_
          refine OL.nil ?_
          refine TE.condT rfl rfl ?_
          refine TE.seq ?_
          refine TE.region ?_
          refine OL.pure (Pure.move rfl) rfl ?_
          refine OL.pure (Pure.move rfl) rfl ?_
          refine OL.pure (Pure.assign rfl) rfl ?_
          refine OL.pure (Pure.assign rfl) rfl ?_
          refine OL.pure (Pure.assign rfl) rfl ?_
          refine OL.nil ?_
          subst e1
          subst e2
          subst e3
          exact TE.ret (vs := [v, .int .i64 (a : Int), .int .i64 32]) Tryd.results46 (⟨rfl, rfl, rfl, trivial⟩) ⟨v, rfl, hv, hC, hm_v⟩
      ·
        obtain ⟨e1, e2, e3⟩ := hI.seq hp hal hd he (.inl hs1)
        refine OL.pure (Pure.assign rfl) rfl ?_
        refine OL.pure (Pure.assign rfl) rfl ?_
        refine OL.nil ?_
        refine TE.seq ?_
        refine TE.seq ?_
        refine TE.region ?_
        refine OL.pure (Pure.move rfl) rfl ?_
        refine OL.pure (Pure.neq rfl rfl) rfl ?_
        refine OL.cast (.bool false) 25 rfl (congrArg Value.bool (decide_eq_false (fun h => h he))) ?_
        refine OL.nil ?_
        refine TE.condF rfl rfl ?_
        refine TE.skip ?_
        refine TE.seq ?_
        refine TE.seq ?_
        refine TE.region ?_
        refine OL.pure (Pure.fieldAddr (r := 1) Tryd.runUnderlying30 rfl Tryd.sizeOf3 rfl rfl) rfl ?_
        refine OL.val (Run.load (i := 1) rfl Tryd.isAgg3 hg (by omega) rfl) rfl ?_
        refine OL.pure (Pure.move rfl) rfl ?_
        refine OL.pure (Pure.neq rfl rfl) rfl ?_
        refine OL.cast (.bool true) 32 rfl (congrArg Value.bool (decide_eq_true (hs1))) ?_
        refine OL.pure (Pure.move rfl) rfl ?_
        refine OL.pass rfl rfl rfl rfl rfl ?_
        refine OL.pass rfl rfl rfl rfl rfl ?_
        refine OL.pass rfl rfl rfl rfl rfl ?_
        refine OL.pass rfl rfl rfl rfl rfl ?_
        refine OL.pure (Pure.pickT rfl rfl) rfl ?_
        refine OL.nil ?_
        refine TE.condT rfl rfl ?_
        refine TE.seq ?_
        refine TE.region ?_
        refine OL.pure (Pure.move rfl) rfl ?_
        refine OL.pure (Pure.move rfl) rfl ?_
        refine OL.pure (Pure.assign rfl) rfl ?_
        refine OL.pure (Pure.assign rfl) rfl ?_
        refine OL.pure (Pure.assign rfl) rfl ?_
        refine OL.nil ?_
        subst e1
        subst e2
        subst e3
        exact TE.ret (vs := [v, .int .i64 (a : Int), .int .i64 32]) Tryd.results46 (⟨rfl, rfl, rfl, trivial⟩) ⟨v, rfl, hv, hC, hm_v⟩
    ·
      obtain ⟨e1, e2, e3⟩ := hI.err hp hal hd he
      refine OL.pure (Pure.assign rfl) rfl ?_
      refine OL.pure (Pure.assign rfl) rfl ?_
      refine OL.nil ?_
      refine TE.seq ?_
      refine TE.seq ?_
      refine TE.region ?_
      refine OL.pure (Pure.move rfl) rfl ?_
      refine OL.pure (Pure.neq rfl rfl) rfl ?_
      refine OL.cast (.bool true) 25 rfl (congrArg Value.bool (decide_eq_true (he))) ?_
      refine OL.nil ?_
      refine TE.condT rfl rfl ?_
      refine TE.seq ?_
      refine TE.region ?_
      refine OL.pure (Pure.move rfl) rfl ?_
      refine OL.pure (Pure.move rfl) rfl ?_
      refine OL.pure (Pure.move rfl) rfl ?_
      refine OL.pure (Pure.assign rfl) rfl ?_
      refine OL.pure (Pure.assign rfl) rfl ?_
      refine OL.pure (Pure.assign rfl) rfl ?_
      refine OL.nil ?_
      subst e1
      subst e2
      subst e3
      exact TE.ret (vs := [v, .int .i64 (a : Int), .int .i64 e]) Tryd.results46 (⟨rfl, rfl, rfl, trivial⟩) ⟨v, rfl, hv, hC, hm_v⟩
  ·
    obtain ⟨e1, e2, e3⟩ := hI.fin hp (by omega)
    refine TE.exit rfl ?_
    refine TE.seq ?_
    refine TE.region ?_
    refine OL.pure (Pure.move rfl) rfl ?_
    refine OL.pure (Pure.move rfl) rfl ?_
    refine OL.pure (Pure.assign rfl) rfl ?_
    refine OL.pure (Pure.assign rfl) rfl ?_
    refine OL.pure (Pure.assign rfl) rfl ?_
    refine OL.nil ?_
    subst e1
    subst e2
    subst e3
    exact TE.ret (vs := [v, .int .i64 (a : Int), .int .i64 0]) Tryd.results46 (⟨rfl, rfl, rfl, trivial⟩) ⟨v, rfl, hv, hC, hm_v⟩

set_option maxHeartbeats 1000000 in
theorem rscan_any (s : List UInt8) (hl : s.length ≤ 1073741824) (st nb : Int) (hnb : -4611686018427387904 ≤ nb ∧ nb ≤ 4611686018427387904) (w : World) : Calls Tryd.prog 30 #[.string (str s), .int .i64 st, .int .i64 nb] w (RetScan 34 (scanL st nb s) w) := by
  refine calls_of_TE (vs := [.string (str s), .int .i64 st, .int .i64 nb]) Tryd.func30 Tryd.ntmps30 rfl (by simp) ?_
  have hC : Chg [] w w := Chg.refl _ _
  by_cases hb15 : st < 0
  ·
    have hsl : scanL st nb s = ([], 0, 2) := by rw [scanL, if_neg (by unfold inside; omega)]
    rw [hsl]
    refine TE.seq ?_
    refine TE.region ?_
    refine OL.pure (Pure.assign rfl) rfl ?_
    refine OL.pure (Pure.assign rfl) rfl ?_
    refine OL.pure (Pure.assign rfl) rfl ?_
    refine OL.nil ?_
    refine TE.seq ?_
    refine TE.seq ?_
    refine TE.region ?_
    refine OL.pure (Pure.move rfl) rfl ?_
    refine OL.pure (Pure.lss rfl rfl) rfl ?_
    refine OL.cast (.bool true) 15 rfl (congrArg Value.bool (decide_eq_true (by omega))) ?_
    refine OL.pure (Pure.move rfl) rfl ?_
    refine OL.pass rfl rfl rfl rfl rfl ?_
    refine OL.pass rfl rfl rfl rfl rfl ?_
    refine OL.pure (Pure.pickT rfl rfl) rfl ?_
    refine OL.pure (Pure.move rfl) rfl ?_
    refine OL.pass rfl rfl rfl rfl rfl ?_
    refine OL.pass rfl rfl rfl rfl rfl ?_
    refine OL.pure (Pure.pickT rfl rfl) rfl ?_
    refine OL.pure (Pure.move rfl) rfl ?_
    refine OL.pass rfl rfl rfl rfl rfl ?_
    refine OL.pass rfl rfl rfl rfl rfl ?_
    refine OL.pure (Pure.pickT rfl rfl) rfl ?_
    refine OL.nil ?_
    refine TE.condT rfl rfl ?_
    refine TE.seq ?_
    refine TE.region ?_
    refine OL.pure (Pure.assign rfl) rfl ?_
    refine OL.pure (Pure.assign rfl) rfl ?_
    refine OL.pure (Pure.assign rfl) rfl ?_
    refine OL.nil ?_
    exact TE.ret (vs := [.slice none 0 0, .int .i64 ((0 : Nat) : Int), .int .i64 2]) Tryd.results30 (⟨rfl, rfl, rfl, trivial⟩) ⟨_, rfl, Row.nil _ _ _, hC, Mine.nil _⟩
  ·
    by_cases hb18 : 2147483647 < st
    ·
      have hsl : scanL st nb s = ([], 0, 2) := by rw [scanL, if_neg (by unfold inside; omega)]
      rw [hsl]
      refine TE.seq ?_
      refine TE.region ?_
      refine OL.pure (Pure.assign rfl) rfl ?_
      refine OL.pure (Pure.assign rfl) rfl ?_
      refine OL.pure (Pure.assign rfl) rfl ?_
      refine OL.nil ?_
      refine TE.seq ?_
      refine TE.seq ?_
      refine TE.region ?_
      refine OL.pure (Pure.move rfl) rfl ?_
      refine OL.pure (Pure.lss rfl rfl) rfl ?_
      refine OL.cast (.bool false) 15 rfl (congrArg Value.bool (decide_eq_false (by omega))) ?_
      refine OL.pure (Pure.move rfl) rfl ?_
      refine OL.want rfl rfl rfl (Pure.move rfl _) rfl ?_
      refine OL.want rfl rfl rfl (Pure.gtr rfl rfl _) rfl ?_
      refine OL.cast (.bool true) 18 rfl (congrArg Value.bool (decide_eq_true (by omega))) ?_
      refine OL.pure (Pure.pickF rfl rfl) rfl ?_
      refine OL.pure (Pure.move rfl) rfl ?_
      refine OL.pass rfl rfl rfl rfl rfl ?_
      refine OL.pass rfl rfl rfl rfl rfl ?_
      refine OL.pure (Pure.pickT rfl rfl) rfl ?_
      refine OL.pure (Pure.move rfl) rfl ?_
      refine OL.pass rfl rfl rfl rfl rfl ?_
      refine OL.pass rfl rfl rfl rfl rfl ?_
      refine OL.pure (Pure.pickT rfl rfl) rfl ?_
      refine OL.nil ?_
      refine TE.condT rfl rfl ?_
      refine TE.seq ?_
      refine TE.region ?_
      refine OL.pure (Pure.assign rfl) rfl ?_
      refine OL.pure (Pure.assign rfl) rfl ?_
      refine OL.pure (Pure.assign rfl) rfl ?_
      refine OL.nil ?_
      exact TE.ret (vs := [.slice none 0 0, .int .i64 ((0 : Nat) : Int), .int .i64 2]) Tryd.results30 (⟨rfl, rfl, rfl, trivial⟩) ⟨_, rfl, Row.nil _ _ _, hC, Mine.nil _⟩
    ·
      by_cases hb22 : nb < 0
      ·
        have hsl : scanL st nb s = ([], 0, 2) := by rw [scanL, if_neg (by unfold inside; omega)]
        rw [hsl]
        refine TE.seq ?_
        refine TE.region ?_
        refine OL.pure (Pure.assign rfl) rfl ?_
        refine OL.pure (Pure.assign rfl) rfl ?_
        refine OL.pure (Pure.assign rfl) rfl ?_
        refine OL.nil ?_
        refine TE.seq ?_
        refine TE.seq ?_
        refine TE.region ?_
        refine OL.pure (Pure.move rfl) rfl ?_
        refine OL.pure (Pure.lss rfl rfl) rfl ?_
        refine OL.cast (.bool false) 15 rfl (congrArg Value.bool (decide_eq_false (by omega))) ?_
        refine OL.pure (Pure.move rfl) rfl ?_
        refine OL.want rfl rfl rfl (Pure.move rfl _) rfl ?_
        refine OL.want rfl rfl rfl (Pure.gtr rfl rfl _) rfl ?_
        refine OL.cast (.bool false) 18 rfl (congrArg Value.bool (decide_eq_false (by omega))) ?_
        refine OL.pure (Pure.pickF rfl rfl) rfl ?_
        refine OL.pure (Pure.move rfl) rfl ?_
        refine OL.want rfl rfl rfl (Pure.move rfl _) rfl ?_
        refine OL.want rfl rfl rfl (Pure.lss rfl rfl _) rfl ?_
        refine OL.cast (.bool true) 22 rfl (congrArg Value.bool (decide_eq_true (by omega))) ?_
        refine OL.pure (Pure.pickF rfl rfl) rfl ?_
        refine OL.pure (Pure.move rfl) rfl ?_
        refine OL.pass rfl rfl rfl rfl rfl ?_
        refine OL.pass rfl rfl rfl rfl rfl ?_
        refine OL.pure (Pure.pickT rfl rfl) rfl ?_
        refine OL.nil ?_
        refine TE.condT rfl rfl ?_
        refine TE.seq ?_
        refine TE.region ?_
        refine OL.pure (Pure.assign rfl) rfl ?_
        refine OL.pure (Pure.assign rfl) rfl ?_
        refine OL.pure (Pure.assign rfl) rfl ?_
        refine OL.nil ?_
        exact TE.ret (vs := [.slice none 0 0, .int .i64 ((0 : Nat) : Int), .int .i64 2]) Tryd.results30 (⟨rfl, rfl, rfl, trivial⟩) ⟨_, rfl, Row.nil _ _ _, hC, Mine.nil _⟩
      ·
        by_cases hb26 : 1099511627775 < nb
        ·
          have hsl : scanL st nb s = ([], 0, 2) := by rw [scanL, if_neg (by unfold inside; omega)]
          rw [hsl]
          refine TE.seq ?_
          refine TE.region ?_
          refine OL.pure (Pure.assign rfl) rfl ?_
          refine OL.pure (Pure.assign rfl) rfl ?_
          refine OL.pure (Pure.assign rfl) rfl ?_
          refine OL.nil ?_
          refine TE.seq ?_
          refine TE.seq ?_
          refine TE.region ?_
          refine OL.pure (Pure.move rfl) rfl ?_
          refine OL.pure (Pure.lss rfl rfl) rfl ?_
          refine OL.cast (.bool false) 15 rfl (congrArg Value.bool (decide_eq_false (by omega))) ?_
          refine OL.pure (Pure.move rfl) rfl ?_
          refine OL.want rfl rfl rfl (Pure.move rfl _) rfl ?_
          refine OL.want rfl rfl rfl (Pure.gtr rfl rfl _) rfl ?_
          refine OL.cast (.bool false) 18 rfl (congrArg Value.bool (decide_eq_false (by omega))) ?_
          refine OL.pure (Pure.pickF rfl rfl) rfl ?_
          refine OL.pure (Pure.move rfl) rfl ?_
          refine OL.want rfl rfl rfl (Pure.move rfl _) rfl ?_
          refine OL.want rfl rfl rfl (Pure.lss rfl rfl _) rfl ?_
          refine OL.cast (.bool false) 22 rfl (congrArg Value.bool (decide_eq_false (by omega))) ?_
          refine OL.pure (Pure.pickF rfl rfl) rfl ?_
          refine OL.pure (Pure.move rfl) rfl ?_
          refine OL.want rfl rfl rfl (Pure.move rfl _) rfl ?_
          refine OL.want rfl rfl rfl (Pure.gtr rfl rfl _) rfl ?_
          refine OL.cast (.bool true) 26 rfl (congrArg Value.bool (decide_eq_true (by omega))) ?_
          refine OL.pure (Pure.pickF rfl rfl) rfl ?_
          refine OL.nil ?_
          refine TE.condT rfl rfl ?_
          refine TE.seq ?_
          refine TE.region ?_
          refine OL.pure (Pure.assign rfl) rfl ?_
          refine OL.pure (Pure.assign rfl) rfl ?_
          refine OL.pure (Pure.assign rfl) rfl ?_
          refine OL.nil ?_
          exact TE.ret (vs := [.slice none 0 0, .int .i64 ((0 : Nat) : Int), .int .i64 2]) Tryd.results30 (⟨rfl, rfl, rfl, trivial⟩) ⟨_, rfl, Row.nil _ _ _, hC, Mine.nil _⟩
        ·
          have hins : inside st nb := by unfold inside; omega
          obtain ⟨l, z, y, hp⟩ : ∃ l z y, scan' st s nb = (l, z, y) := ⟨_, _, _, rfl⟩
          have hsl : scanL st nb s = (l, z, y) := by rw [scanL, if_pos hins, hp]
          rw [hsl]
          refine TE.seq ?_
          refine TE.region ?_
          refine OL.pure (Pure.assign rfl) rfl ?_
          refine OL.pure (Pure.assign rfl) rfl ?_
          refine OL.pure (Pure.assign rfl) rfl ?_
          refine OL.nil ?_
          refine TE.seq ?_
          refine TE.seq ?_
          refine TE.region ?_
          refine OL.pure (Pure.move rfl) rfl ?_
          refine OL.pure (Pure.lss rfl rfl) rfl ?_
          refine OL.cast (.bool false) 15 rfl (congrArg Value.bool (decide_eq_false (by omega))) ?_
          refine OL.pure (Pure.move rfl) rfl ?_
          refine OL.want rfl rfl rfl (Pure.move rfl _) rfl ?_
          refine OL.want rfl rfl rfl (Pure.gtr rfl rfl _) rfl ?_
          refine OL.cast (.bool false) 18 rfl (congrArg Value.bool (decide_eq_false (by omega))) ?_
          refine OL.pure (Pure.pickF rfl rfl) rfl ?_
          refine OL.pure (Pure.move rfl) rfl ?_
          refine OL.want rfl rfl rfl (Pure.move rfl _) rfl ?_
          refine OL.want rfl rfl rfl (Pure.lss rfl rfl _) rfl ?_
          refine OL.cast (.bool false) 22 rfl (congrArg Value.bool (decide_eq_false (by omega))) ?_
          refine OL.pure (Pure.pickF rfl rfl) rfl ?_
          refine OL.pure (Pure.move rfl) rfl ?_
          refine OL.want rfl rfl rfl (Pure.move rfl _) rfl ?_
          refine OL.want rfl rfl rfl (Pure.gtr rfl rfl _) rfl ?_
          refine OL.cast (.bool false) 26 rfl (congrArg Value.bool (decide_eq_false (by omega))) ?_
          refine OL.pure (Pure.pickF rfl rfl) rfl ?_
          refine OL.nil ?_
          refine TE.condF rfl rfl ?_
          refine TE.skip ?_
          refine TE.seq ?_
          refine TE.region ?_
          refine OL.pure (Pure.assign rfl) rfl ?_
          refine OL.nil ?_
          refine TE.seq ?_
          refine TE.region ?_
          refine OL.pure (Pure.assign rfl) rfl ?_
          refine OL.nil ?_
          refine TE.seq ?_
          refine TE.block ?_
          refine TE.loopInv (σ := List Fr × Nat × Value) [0, 1, 2, 9, 10] (fun s_ w_ => match s_ with | (acc, a, v) => ScanInv st nb s acc a ∧ Row w_ 34 4 v acc.length (fvs acc) ∧ Mine w.heap.size v ∧ Chg [] w w_) (fun s_ => [(0, .string (str s)), (1, .int .i64 st), (2, .int .i64 nb), (9, s_.2.2), (10, .int .i64 (↑s_.2.1))]) (fun s_ => s.length - s_.2.1) ([], 0, .slice none 0 0) ⟨ScanInv.start _ _ _, Row.nil _ _ _, Mine.nil _, hC⟩ rfl ?_
          rintro ⟨acc, a, v⟩ w1 ⟨hI, hv, hm_v, hC⟩ ih1
          try dsimp only
          have hI1 := hI.1
          have hI2 := hI.2.1
          refine TE.seq ?_
          refine TE.seq ?_
          refine TE.region ?_
          refine OL.pure (Pure.move rfl) rfl ?_
          refine OL.pure (Pure.move rfl) rfl ?_
          refine OL.pure (Pure.lenStr Tryd.runUnderlying9 rfl) rfl ?_
          refine OL.pure (Pure.lss rfl rfl) rfl ?_
          refine OL.nil ?_
          refine TE.ite rfl (fun hlt => ?_) (fun hlt => ?_)
          ·
            have hal : a < s.length := by omega
            obtain ⟨d, m, e, hd⟩ : ∃ d m e, Frm.decode (s.drop a) = (d, m, e) := ⟨_, _, _, rfl⟩
            refine TE.skip ?_
            refine TE.block ?_
            refine TE.seq ?_
            refine TE.region ?_
            refine OL.pure (Pure.move rfl) rfl ?_
            refine OL.pure (Pure.move rfl) rfl ?_
            refine OL.pure (Pure.sliceFrom (l := s) (p := a) Tryd.underlying9 rfl rfl (by omega) (by omega)) rfl ?_
            refine OL.call rfl Tryd.call14 rfl (rdecode_any (s.drop a) (by simp; omega) d m e hd _) ?_
            rintro _ w2 ⟨rfl, hc2⟩
            replace hv := hv.chg0 hc2
            replace hC := hC.then_ hc2
            refine ⟨_, rfl, ?_⟩
            refine OL.pure (Pure.move rfl) rfl ?_
            refine OL.pure (Pure.extract (vs := [.agg (d).cells.toArray, .int .i64 ((m : Nat) : Int), .int .i64 e]) (i := 0) rfl rfl) rfl ?_
            refine OL.pure (Pure.extract (vs := [.agg (d).cells.toArray, .int .i64 ((m : Nat) : Int), .int .i64 e]) (i := 1) rfl rfl) rfl ?_
            refine OL.pure (Pure.extract (vs := [.agg (d).cells.toArray, .int .i64 ((m : Nat) : Int), .int .i64 e]) (i := 2) rfl rfl) rfl ?_
            have hvlt := hv.lt
            refine OL.alloc Tryd.zeroValue34 rfl ?_
            intro gd w3 hg hc3 hg_gd
            have ge_gd : w.heap.size ≤ gd := by have := hC.size; omega
            replace hv := hv.chg0 hc3
            replace hC := hC.then_ hc3
            have hg : Blk w3 gd 34 (Fr.zero.cells) := hg
            refine OL.storeRow (vs := (d).cells) rfl rfl (rfl) (by simp [Fr.cells, Value.oneCell']) hg (Nat.le_refl 4) ?_
            intro w4 hb4 hc4
            replace hv := hv.chg hc4 (fun k hk => by have := hvlt k hk; simp; omega)
            replace hC := hC.trans1 hc4 (by first | exact .inr (by omega) | exact .inl (by simp))
            replace hg := hb4
            replace hg := hg.all rfl
            by_cases he : e = 0
            ·
              by_cases hs1 : d.stream = st
              ·
                by_cases hs2 : d.number = nb + acc.length
                ·
                  obtain ⟨hN, hm1, hm2⟩ := hI.next hal hd he hs1 hs2
                  have hN2 := hN.2.1
                  rw [List.length_append] at hN2
                  refine OL.pure (Pure.assign rfl) rfl ?_
                  refine OL.pure (Pure.assign rfl) rfl ?_
                  refine OL.nil ?_
                  refine TE.seq ?_
                  refine TE.seq ?_
                  refine TE.region ?_
                  refine OL.pure (Pure.move rfl) rfl ?_
                  refine OL.pure (Pure.neq rfl rfl) rfl ?_
                  refine OL.cast (.bool false) 41 rfl (congrArg Value.bool (decide_eq_false (fun h => h he))) ?_
                  refine OL.nil ?_
                  refine TE.condF rfl rfl ?_
                  refine TE.skip ?_
                  refine TE.seq ?_
                  refine TE.seq ?_
                  refine TE.region ?_
                  refine OL.pure (Pure.fieldAddr (r := 1) Tryd.runUnderlying34 rfl Tryd.sizeOf3 rfl rfl) rfl ?_
                  refine OL.val (Run.load (i := 1) rfl Tryd.isAgg3 hg (by omega) rfl) rfl ?_
                  refine OL.pure (Pure.move rfl) rfl ?_
                  refine OL.pure (Pure.neq rfl rfl) rfl ?_
                  refine OL.cast (.bool false) 48 rfl (congrArg Value.bool (decide_eq_false (fun h => h hs1))) ?_
                  refine OL.pure (Pure.move rfl) rfl ?_
                  refine OL.want rfl rfl rfl (Pure.fieldAddr (r := 2) Tryd.runUnderlying34 rfl Tryd.sizeOf3 rfl rfl _) rfl ?_
                  refine OL.want rfl rfl rfl (Run.load (i := 2) rfl Tryd.isAgg3 hg (by omega) rfl) rfl ?_
                  refine OL.want rfl rfl rfl (Pure.move rfl _) rfl ?_
                  refine OL.want rfl rfl rfl (Pure.move rfl _) rfl ?_
                  refine OL.want rfl rfl rfl (Pure.lenRow Tryd.runUnderlying71 rfl hv _) rfl ?_
                  refine OL.want rfl rfl rfl (Pure.add rfl rfl (i64 (by omega) (by omega)) _) rfl ?_
                  refine OL.want rfl rfl rfl (Pure.neq rfl rfl _) rfl ?_
                  refine OL.cast (.bool false) 56 rfl (congrArg Value.bool (decide_eq_false (fun h => h hs2))) ?_
                  refine OL.pure (Pure.pickF rfl rfl) rfl ?_
                  refine OL.nil ?_
                  refine TE.condF rfl rfl ?_
                  refine TE.skip ?_
                  refine TE.seq ?_
                  refine TE.region ?_
                  refine OL.pure (Pure.move rfl) rfl ?_
                  refine OL.val (Run.loadAll rfl Tryd.underlying34 rfl hg (rfl)) rfl ?_
                  refine OL.buildSlice (cs := d.cells) rfl Tryd.runUnderlying71 Tryd.sizeOf34 Tryd.zeroValue34 (by decide) (by decide) (by kernel_rfl) rfl ?_
                  intro q w5 hq hc5 hg_q
                  have lt_gd_q : gd < q := by have := hg.lt; omega
                  have ge_q : w.heap.size ≤ q := by have := hC.size; omega
                  replace hv := hv.chg0 hc5
                  replace hg := hg.chg0 hc5
                  replace hC := hC.then_ hc5
                  refine OL.append (size := 4) (news := d.cells) (v := v) rfl rfl Tryd.underlying71 (.inl Tryd.underlying71) info34 rfl rfl rfl (by decide) rfl hv ((Src.of_blk hq rfl rfl)) (by simp [Fr.cells, Value.oneCell']) (by show _ * 40 ≤ _; omega) ?_
                  intro v2 w6 hv2 hc6 ho_v2
                  have hm_v2 : Mine w.heap.size v2 := Mine.step hm_v (by have := hC.size; omega) ho_v2
                  replace hC := hC.own hc6 hm_v
                  replace hv2 : Row w6 34 4 v2 (acc ++ [d]).length (fvs (acc ++ [d])) := by rw [fvs_snoc, List.length_append]; exact hv2
                  refine OL.pure (Pure.assign rfl) rfl ?_
                  refine OL.nil ?_
                  refine TE.region ?_
                  refine OL.pure (Pure.move rfl) rfl ?_
                  refine OL.pure (Pure.move rfl) rfl ?_
                  refine OL.pure (Pure.add rfl rfl (i64 (by omega) (by omega))) rfl ?_
                  refine OL.pure (Pure.assign rfl) rfl ?_
                  refine OL.nil ?_
                  refine TE.inBlock ?_
                  refine TE.cast (.int .i64 (((a + m : Nat) : Nat) : Int)) 10 rfl (congrArg (Value.int .i64) (by omega)) ?_
                  exact TE.sub [0, 1, 2, 9, 10] rfl (ih1 (acc ++ [d], a + m, v2) _ ⟨hN, hv2, hm_v2, hC⟩ (by simp only []; omega))
                ·
                  obtain ⟨e1, e2, e3⟩ := hI.seq hp hal hd he (.inr hs2)
                  refine OL.pure (Pure.assign rfl) rfl ?_
                  refine OL.pure (Pure.assign rfl) rfl ?_
                  refine OL.nil ?_
                  refine TE.seq ?_
                  refine TE.seq ?_
                  refine TE.region ?_
                  refine OL.pure (Pure.move rfl) rfl ?_
                  refine OL.pure (Pure.neq rfl rfl) rfl ?_
                  refine OL.cast (.bool false) 41 rfl (congrArg Value.bool (decide_eq_false (fun h => h he))) ?_
                  refine OL.nil ?_
                  refine TE.condF rfl rfl ?_
                  refine TE.skip ?_
                  refine TE.seq ?_
                  refine TE.seq ?_
                  refine TE.region ?_
                  refine OL.pure (Pure.fieldAddr (r := 1) Tryd.runUnderlying34 rfl Tryd.sizeOf3 rfl rfl) rfl ?_
                  refine OL.val (Run.load (i := 1) rfl Tryd.isAgg3 hg (by omega) rfl) rfl ?_
                  refine OL.pure (Pure.move rfl) rfl ?_
                  refine OL.pure (Pure.neq rfl rfl) rfl ?_
                  refine OL.cast (.bool false) 48 rfl (congrArg Value.bool (decide_eq_false (fun h => h hs1))) ?_
                  refine OL.pure (Pure.move rfl) rfl ?_
                  refine OL.want rfl rfl rfl (Pure.fieldAddr (r := 2) Tryd.runUnderlying34 rfl Tryd.sizeOf3 rfl rfl _) rfl ?_
                  refine OL.want rfl rfl rfl (Run.load (i := 2) rfl Tryd.isAgg3 hg (by omega) rfl) rfl ?_
                  refine OL.want rfl rfl rfl (Pure.move rfl _) rfl ?_
                  refine OL.want rfl rfl rfl (Pure.move rfl _) rfl ?_
                  refine OL.want rfl rfl rfl (Pure.lenRow Tryd.runUnderlying71 rfl hv _) rfl ?_
                  refine OL.want rfl rfl rfl (Pure.add rfl rfl (i64 (by omega) (by omega)) _) rfl ?_
                  refine OL.want rfl rfl rfl (Pure.neq rfl rfl _) rfl ?_
                  refine OL.cast (.bool true) 56 rfl (congrArg Value.bool (decide_eq_true (hs2))) ?_
                  refine OL.pure (Pure.pickF rfl rfl) rfl ?_
                  refine OL.nil ?_
                  refine TE.condT rfl rfl ?_
                  refine TE.seq ?_
                  refine TE.region ?_
                  refine OL.pure (Pure.move rfl) rfl ?_
                  refine OL.pure (Pure.move rfl) rfl ?_
                  refine OL.pure (Pure.assign rfl) rfl ?_
                  refine OL.pure (Pure.assign rfl) rfl ?_
                  refine OL.pure (Pure.assign rfl) rfl ?_
                  refine OL.nil ?_
                  subst e1
                  subst e2
                  subst e3
                  exact TE.ret (vs := [v, .int .i64 (a : Int), .int .i64 32]) Tryd.results30 (⟨rfl, rfl, rfl, trivial⟩) ⟨v, rfl, hv, hC, hm_v⟩
              ·
                obtain ⟨e1, e2, e3⟩ := hI.seq hp hal hd he (.inl hs1)
                refine OL.pure (Pure.assign rfl) rfl ?_
                refine OL.pure (Pure.assign rfl) rfl ?_
                refine OL.nil ?_
                refine TE.seq ?_
                refine TE.seq ?_
                refine TE.region ?_
                refine OL.pure (Pure.move rfl) rfl ?_
                refine OL.pure (Pure.neq rfl rfl) rfl ?_
                refine OL.cast (.bool false) 41 rfl (congrArg Value.bool (decide_eq_false (fun h => h he))) ?_
                refine OL.nil ?_
                refine TE.condF rfl rfl ?_
                refine TE.skip ?_
                refine TE.seq ?_
                refine TE.seq ?_
                refine TE.region ?_
                refine OL.pure (Pure.fieldAddr (r := 1) Tryd.runUnderlying34 rfl Tryd.sizeOf3 rfl rfl) rfl ?_
                refine OL.val (Run.load (i := 1) rfl Tryd.isAgg3 hg (by omega) rfl) rfl ?_
                refine OL.pure (Pure.move rfl) rfl ?_
                refine OL.pure (Pure.neq rfl rfl) rfl ?_
                refine OL.cast (.bool true) 48 rfl (congrArg Value.bool (decide_eq_true (hs1))) ?_
                refine OL.pure (Pure.move rfl) rfl ?_
                refine OL.pass rfl rfl rfl rfl rfl ?_
                refine OL.pass rfl rfl rfl rfl rfl ?_
                refine OL.pass rfl rfl rfl rfl rfl ?_
                refine OL.pass rfl rfl rfl rfl rfl ?_
                refine OL.pass rfl rfl rfl rfl rfl ?_
                refine OL.pass rfl rfl rfl rfl rfl ?_
                refine OL.pass rfl rfl rfl rfl rfl ?_
                refine OL.pure (Pure.pickT rfl rfl) rfl ?_
                refine OL.nil ?_
                refine TE.condT rfl rfl ?_
                refine TE.seq ?_
                refine TE.region ?_
                refine OL.pure (Pure.move rfl) rfl ?_
                refine OL.pure (Pure.move rfl) rfl ?_
                refine OL.pure (Pure.assign rfl) rfl ?_
                refine OL.pure (Pure.assign rfl) rfl ?_
                refine OL.pure (Pure.assign rfl) rfl ?_
                refine OL.nil ?_
                subst e1
                subst e2
                subst e3
                exact TE.ret (vs := [v, .int .i64 (a : Int), .int .i64 32]) Tryd.results30 (⟨rfl, rfl, rfl, trivial⟩) ⟨v, rfl, hv, hC, hm_v⟩
            ·
              obtain ⟨e1, e2, e3⟩ := hI.err hp hal hd he
              refine OL.pure (Pure.assign rfl) rfl ?_
              refine OL.pure (Pure.assign rfl) rfl ?_
              refine OL.nil ?_
              refine TE.seq ?_
              refine TE.seq ?_
              refine TE.region ?_
              refine OL.pure (Pure.move rfl) rfl ?_
              refine OL.pure (Pure.neq rfl rfl) rfl ?_
              refine OL.cast (.bool true) 41 rfl (congrArg Value.bool (decide_eq_true (he))) ?_
              refine OL.nil ?_
              refine TE.condT rfl rfl ?_
              refine TE.seq ?_
              refine TE.region ?_
              refine OL.pure (Pure.move rfl) rfl ?_
              refine OL.pure (Pure.move rfl) rfl ?_
              refine OL.pure (Pure.move rfl) rfl ?_
              refine OL.pure (Pure.assign rfl) rfl ?_
              refine OL.pure (Pure.assign rfl) rfl ?_
              refine OL.pure (Pure.assign rfl) rfl ?_
              refine OL.nil ?_
              subst e1
              subst e2
              subst e3
              exact TE.ret (vs := [v, .int .i64 (a : Int), .int .i64 e]) Tryd.results30 (⟨rfl, rfl, rfl, trivial⟩) ⟨v, rfl, hv, hC, hm_v⟩
          ·
            obtain ⟨e1, e2, e3⟩ := hI.fin hp (by omega)
            refine TE.exit rfl ?_
            refine TE.seq ?_
            refine TE.region ?_
            refine OL.pure (Pure.move rfl) rfl ?_
            refine OL.pure (Pure.move rfl) rfl ?_
            refine OL.pure (Pure.assign rfl) rfl ?_
            refine OL.pure (Pure.assign rfl) rfl ?_
            refine OL.pure (Pure.assign rfl) rfl ?_
            refine OL.nil ?_
            subst e1
            subst e2
            subst e3
            exact TE.ret (vs := [v, .int .i64 (a : Int), .int .i64 0]) Tryd.results30 (⟨rfl, rfl, rfl, trivial⟩) ⟨v, rfl, hv, hC, hm_v⟩

theorem rscan_far (s : List UInt8) (st nb : Int) (hnb : ¬ (-4611686018427387904 ≤ nb ∧ nb ≤ 4611686018427387904)) (w : World) : Calls Tryd.prog 30 #[.string (str s), .int .i64 st, .int .i64 nb] w (RetScan 34 (scanL st nb s) w) := by
  refine calls_of_TE (vs := [.string (str s), .int .i64 st, .int .i64 nb]) Tryd.func30 Tryd.ntmps30 rfl (by simp) ?_
  have hC : Chg [] w w := Chg.refl _ _
  have hsl : scanL st nb s = ([], 0, 2) := by rw [scanL, if_neg (by unfold inside; omega)]
  rw [hsl]
  by_cases hb15 : st < 0
  ·
    refine TE.seq ?_
    refine TE.region ?_
    refine OL.pure (Pure.assign rfl) rfl ?_
    refine OL.pure (Pure.assign rfl) rfl ?_
    refine OL.pure (Pure.assign rfl) rfl ?_
    refine OL.nil ?_
    refine TE.seq ?_
    refine TE.seq ?_
    refine TE.region ?_
    refine OL.pure (Pure.move rfl) rfl ?_
    refine OL.pure (Pure.lss rfl rfl) rfl ?_
    refine OL.cast (.bool true) 15 rfl (congrArg Value.bool (decide_eq_true (by omega))) ?_
    refine OL.pure (Pure.move rfl) rfl ?_
    refine OL.pass rfl rfl rfl rfl rfl ?_
    refine OL.pass rfl rfl rfl rfl rfl ?_
    refine OL.pure (Pure.pickT rfl rfl) rfl ?_
    refine OL.pure (Pure.move rfl) rfl ?_
    refine OL.pass rfl rfl rfl rfl rfl ?_
    refine OL.pass rfl rfl rfl rfl rfl ?_
    refine OL.pure (Pure.pickT rfl rfl) rfl ?_
    refine OL.pure (Pure.move rfl) rfl ?_
    refine OL.pass rfl rfl rfl rfl rfl ?_
    refine OL.pass rfl rfl rfl rfl rfl ?_
    refine OL.pure (Pure.pickT rfl rfl) rfl ?_
    refine OL.nil ?_
    refine TE.condT rfl rfl ?_
    refine TE.seq ?_
    refine TE.region ?_
    refine OL.pure (Pure.assign rfl) rfl ?_
    refine OL.pure (Pure.assign rfl) rfl ?_
    refine OL.pure (Pure.assign rfl) rfl ?_
    refine OL.nil ?_
    exact TE.ret (vs := [.slice none 0 0, .int .i64 ((0 : Nat) : Int), .int .i64 2]) Tryd.results30 (⟨rfl, rfl, rfl, trivial⟩) ⟨_, rfl, Row.nil _ _ _, hC, Mine.nil _⟩
  ·
    by_cases hb18 : 2147483647 < st
    ·
      refine TE.seq ?_
      refine TE.region ?_
      refine OL.pure (Pure.assign rfl) rfl ?_
      refine OL.pure (Pure.assign rfl) rfl ?_
      refine OL.pure (Pure.assign rfl) rfl ?_
      refine OL.nil ?_
      refine TE.seq ?_
      refine TE.seq ?_
      refine TE.region ?_
      refine OL.pure (Pure.move rfl) rfl ?_
      refine OL.pure (Pure.lss rfl rfl) rfl ?_
      refine OL.cast (.bool false) 15 rfl (congrArg Value.bool (decide_eq_false (by omega))) ?_
      refine OL.pure (Pure.move rfl) rfl ?_
      refine OL.want rfl rfl rfl (Pure.move rfl _) rfl ?_
      refine OL.want rfl rfl rfl (Pure.gtr rfl rfl _) rfl ?_
      refine OL.cast (.bool true) 18 rfl (congrArg Value.bool (decide_eq_true (by omega))) ?_
      refine OL.pure (Pure.pickF rfl rfl) rfl ?_
      refine OL.pure (Pure.move rfl) rfl ?_
      refine OL.pass rfl rfl rfl rfl rfl ?_
      refine OL.pass rfl rfl rfl rfl rfl ?_
      refine OL.pure (Pure.pickT rfl rfl) rfl ?_
      refine OL.pure (Pure.move rfl) rfl ?_
      refine OL.pass rfl rfl rfl rfl rfl ?_
      refine OL.pass rfl rfl rfl rfl rfl ?_
      refine OL.pure (Pure.pickT rfl rfl) rfl ?_
      refine OL.nil ?_
      refine TE.condT rfl rfl ?_
      refine TE.seq ?_
      refine TE.region ?_
      refine OL.pure (Pure.assign rfl) rfl ?_
      refine OL.pure (Pure.assign rfl) rfl ?_
      refine OL.pure (Pure.assign rfl) rfl ?_
      refine OL.nil ?_
      exact TE.ret (vs := [.slice none 0 0, .int .i64 ((0 : Nat) : Int), .int .i64 2]) Tryd.results30 (⟨rfl, rfl, rfl, trivial⟩) ⟨_, rfl, Row.nil _ _ _, hC, Mine.nil _⟩
    ·
      by_cases hb22 : nb < 0
      ·
        refine TE.seq ?_
        refine TE.region ?_
        refine OL.pure (Pure.assign rfl) rfl ?_
        refine OL.pure (Pure.assign rfl) rfl ?_
        refine OL.pure (Pure.assign rfl) rfl ?_
        refine OL.nil ?_
        refine TE.seq ?_
        refine TE.seq ?_
        refine TE.region ?_
        refine OL.pure (Pure.move rfl) rfl ?_
        refine OL.pure (Pure.lss rfl rfl) rfl ?_
        refine OL.cast (.bool false) 15 rfl (congrArg Value.bool (decide_eq_false (by omega))) ?_
        refine OL.pure (Pure.move rfl) rfl ?_
        refine OL.want rfl rfl rfl (Pure.move rfl _) rfl ?_
        refine OL.want rfl rfl rfl (Pure.gtr rfl rfl _) rfl ?_
        refine OL.cast (.bool false) 18 rfl (congrArg Value.bool (decide_eq_false (by omega))) ?_
        refine OL.pure (Pure.pickF rfl rfl) rfl ?_
        refine OL.pure (Pure.move rfl) rfl ?_
        refine OL.want rfl rfl rfl (Pure.move rfl _) rfl ?_
        refine OL.want rfl rfl rfl (Pure.lss rfl rfl _) rfl ?_
        refine OL.cast (.bool true) 22 rfl (congrArg Value.bool (decide_eq_true (by omega))) ?_
        refine OL.pure (Pure.pickF rfl rfl) rfl ?_
        refine OL.pure (Pure.move rfl) rfl ?_
        refine OL.pass rfl rfl rfl rfl rfl ?_
        refine OL.pass rfl rfl rfl rfl rfl ?_
        refine OL.pure (Pure.pickT rfl rfl) rfl ?_
        refine OL.nil ?_
        refine TE.condT rfl rfl ?_
        refine TE.seq ?_
        refine TE.region ?_
        refine OL.pure (Pure.assign rfl) rfl ?_
        refine OL.pure (Pure.assign rfl) rfl ?_
        refine OL.pure (Pure.assign rfl) rfl ?_
        refine OL.nil ?_
        exact TE.ret (vs := [.slice none 0 0, .int .i64 ((0 : Nat) : Int), .int .i64 2]) Tryd.results30 (⟨rfl, rfl, rfl, trivial⟩) ⟨_, rfl, Row.nil _ _ _, hC, Mine.nil _⟩
      ·
        by_cases hb26 : 1099511627775 < nb
        ·
          refine TE.seq ?_
          refine TE.region ?_
          refine OL.pure (Pure.assign rfl) rfl ?_
          refine OL.pure (Pure.assign rfl) rfl ?_
          refine OL.pure (Pure.assign rfl) rfl ?_
          refine OL.nil ?_
          refine TE.seq ?_
          refine TE.seq ?_
          refine TE.region ?_
          refine OL.pure (Pure.move rfl) rfl ?_
          refine OL.pure (Pure.lss rfl rfl) rfl ?_
          refine OL.cast (.bool false) 15 rfl (congrArg Value.bool (decide_eq_false (by omega))) ?_
          refine OL.pure (Pure.move rfl) rfl ?_
          refine OL.want rfl rfl rfl (Pure.move rfl _) rfl ?_
          refine OL.want rfl rfl rfl (Pure.gtr rfl rfl _) rfl ?_
          refine OL.cast (.bool false) 18 rfl (congrArg Value.bool (decide_eq_false (by omega))) ?_
          refine OL.pure (Pure.pickF rfl rfl) rfl ?_
          refine OL.pure (Pure.move rfl) rfl ?_
          refine OL.want rfl rfl rfl (Pure.move rfl _) rfl ?_
          refine OL.want rfl rfl rfl (Pure.lss rfl rfl _) rfl ?_
          refine OL.cast (.bool false) 22 rfl (congrArg Value.bool (decide_eq_false (by omega))) ?_
          refine OL.pure (Pure.pickF rfl rfl) rfl ?_
          refine OL.pure (Pure.move rfl) rfl ?_
          refine OL.want rfl rfl rfl (Pure.move rfl _) rfl ?_
          refine OL.want rfl rfl rfl (Pure.gtr rfl rfl _) rfl ?_
          refine OL.cast (.bool true) 26 rfl (congrArg Value.bool (decide_eq_true (by omega))) ?_
          refine OL.pure (Pure.pickF rfl rfl) rfl ?_
          refine OL.nil ?_
          refine TE.condT rfl rfl ?_
          refine TE.seq ?_
          refine TE.region ?_
          refine OL.pure (Pure.assign rfl) rfl ?_
          refine OL.pure (Pure.assign rfl) rfl ?_
          refine OL.pure (Pure.assign rfl) rfl ?_
          refine OL.nil ?_
          exact TE.ret (vs := [.slice none 0 0, .int .i64 ((0 : Nat) : Int), .int .i64 2]) Tryd.results30 (⟨rfl, rfl, rfl, trivial⟩) ⟨_, rfl, Row.nil _ _ _, hC, Mine.nil _⟩
        ·
          omega

theorem scanL_any {tK tF : TypeId} (s : List UInt8) (hl : s.length ≤ 1073741824) (st nb : Int) (w : World) (hK : Blk w 1 tK (iv .u32 K)) (hF : Blk w 0 tF (iv .i64 fldL)) : Calls Tryd.prog 29 #[.string (str s), .int .i64 st, .int .i64 nb] w (RetScan 30 (scanL st nb s) w) := by
  refine calls_of_TE (vs := [.string (str s), .int .i64 st, .int .i64 nb]) Tryd.func29 Tryd.ntmps29 rfl (by simp) ?_
  have hC : Chg [] w w := Chg.refl _ _
  have h0w : 1 < w.heap.size := hK.lt
  have h1w : 0 < w.heap.size := hF.lt
  refine TE.seq ?_
  refine TE.region ?_
  refine OL.pure (Pure.assign rfl) rfl ?_
  refine OL.pure (Pure.assign rfl) rfl ?_
  refine OL.pure (Pure.assign rfl) rfl ?_
  refine OL.nil ?_
  refine TE.seq ?_
  refine TE.seq ?_
  refine TE.region ?_
  refine OL.pure (Pure.move rfl) rfl ?_
  refine OL.pure (Pure.move rfl) rfl ?_
  refine OL.call rfl Tryd.call45 rfl (inside_any st nb _) ?_
  rintro _ _ ⟨rfl, rfl⟩
  refine ⟨_, rfl, ?_⟩
  by_cases hins : inside st nb
  ·
    refine OL.cast (.bool true) 11 rfl (congrArg Value.bool (decide_eq_true hins)) ?_
    have hin2 := hins
    unfold inside at hin2
    refine OL.pure (Pure.not rfl) rfl ?_
    refine OL.nil ?_
    refine TE.condF rfl rfl ?_
    refine TE.skip ?_
    refine TE.seq ?_
    refine TE.region ?_
    refine OL.pure (Pure.move rfl) rfl ?_
    refine OL.pure (Pure.move rfl) rfl ?_
    refine OL.pure (Pure.move rfl) rfl ?_
    refine OL.call rfl Tryd.call46 rfl (scan_any s hl st nb (by omega) _ hK hF) ?_
    rintro _ w1 ⟨v, rfl, hv, hc1, hm_v⟩
    replace hm_v : Mine w.heap.size v := fun k hk => Nat.le_trans hC.size (hm_v k hk)
    replace hK := hK.chg0 hc1
    replace hF := hF.chg0 hc1
    replace hC := hC.then_ hc1
    refine ⟨_, rfl, ?_⟩
    have hsl : scanL st nb s = scan' st s nb := by rw [scanL, if_pos hins]
    rw [hsl]
    refine OL.pure (Pure.extract (vs := [v, .int .i64 ((scan' st s nb).2.1 : Int), .int .i64 (scan' st s nb).2.2]) (i := 0) rfl rfl) rfl ?_
    refine OL.pure (Pure.extract (vs := [v, .int .i64 ((scan' st s nb).2.1 : Int), .int .i64 (scan' st s nb).2.2]) (i := 1) rfl rfl) rfl ?_
    refine OL.pure (Pure.extract (vs := [v, .int .i64 ((scan' st s nb).2.1 : Int), .int .i64 (scan' st s nb).2.2]) (i := 2) rfl rfl) rfl ?_
    refine OL.pure (Pure.assign rfl) rfl ?_
    refine OL.pure (Pure.assign rfl) rfl ?_
    refine OL.pure (Pure.assign rfl) rfl ?_
    refine OL.nil ?_
    exact TE.ret (vs := [v, .int .i64 ((scan' st s nb).2.1 : Int), .int .i64 (scan' st s nb).2.2]) Tryd.results29 (⟨rfl, rfl, rfl, trivial⟩) ⟨v, rfl, hv, hC, hm_v⟩
  ·
    refine OL.cast (.bool false) 11 rfl (congrArg Value.bool (decide_eq_false hins)) ?_
    have hsl : scanL st nb s = ([], 0, 2) := by rw [scanL, if_neg hins]
    rw [hsl]
    refine OL.pure (Pure.not rfl) rfl ?_
    refine OL.nil ?_
    refine TE.condT rfl rfl ?_
    refine TE.seq ?_
    refine TE.region ?_
    refine OL.pure (Pure.assign rfl) rfl ?_
    refine OL.pure (Pure.assign rfl) rfl ?_
    refine OL.pure (Pure.assign rfl) rfl ?_
    refine OL.nil ?_
    exact TE.ret (vs := [.slice none 0 0, .int .i64 ((0 : Nat) : Int), .int .i64 2]) Tryd.results29 (⟨rfl, rfl, rfl, trivial⟩) ⟨_, rfl, Row.nil _ _ _, hC, Mine.nil _⟩

theorem same_any (l : List Fr) (hl : l.length ≤ 1073741824) (v1 v2 : Value) (w : World) (h1 : Row w 30 4 v1 l.length (fvs l)) (h2 : Row w 34 4 v2 l.length (fvs l)) : Calls Tryd.prog 31 #[v1, v2] w (RetC (.bool true) w) := by
  refine calls_of_TE (vs := [v1, v2]) Tryd.func31 Tryd.ntmps31 rfl (by simp) ?_
  have hC : Chg [] w w := Chg.refl _ _
  refine TE.seq ?_
  refine TE.region ?_
  refine OL.pure (Pure.assign rfl) rfl ?_
  refine OL.nil ?_
  refine TE.seq ?_
  refine TE.seq ?_
  refine TE.region ?_
  refine OL.pure (Pure.move rfl) rfl ?_
  refine OL.pure (Pure.lenRow Tryd.runUnderlying68 rfl h1) rfl ?_
  refine OL.pure (Pure.move rfl) rfl ?_
  refine OL.pure (Pure.lenRow Tryd.runUnderlying71 rfl h2) rfl ?_
  refine OL.pure (Pure.neq rfl rfl) rfl ?_
  refine OL.cast (.bool false) 10 rfl (congrArg Value.bool (decide_eq_false (fun h => h rfl))) ?_
  refine OL.nil ?_
  refine TE.condF rfl rfl ?_
  refine TE.skip ?_
  refine TE.seq ?_
  refine TE.seq ?_
  refine TE.region ?_
  refine OL.pure (Pure.assign rfl) rfl ?_
  refine OL.nil ?_
  refine TE.block ?_
  refine TE.loopInv (σ := Nat) [0, 1, 5] (fun s_ w_ => s_ ≤ l.length ∧ Chg [] w w_ ∧ Row w_ 30 4 v1 l.length (fvs l) ∧ Row w_ 34 4 v2 l.length (fvs l)) (fun s_ => [(0, v1), (1, v2), (5, .int .i64 (↑s_))]) (fun s_ => l.length - s_) 0 ⟨by omega, hC, h1, h2⟩ rfl ?_
  rintro j w1 ⟨hj, hC, h1, h2⟩ ih1
  refine TE.seq ?_
  refine TE.seq ?_
  refine TE.region ?_
  refine OL.pure (Pure.move rfl) rfl ?_
  refine OL.pure (Pure.move rfl) rfl ?_
  refine OL.pure (Pure.lenRow Tryd.runUnderlying68 rfl h1) rfl ?_
  refine OL.pure (Pure.lss rfl rfl) rfl ?_
  refine OL.nil ?_
  refine TE.ite rfl (fun hlt => ?_) (fun hlt => ?_)
  ·
    have hjl : j < l.length := by omega
    obtain ⟨g1, cap1, cs1, rfl, hb1, hc1, hn1, ht1⟩ := h1.form (by omega)
    obtain ⟨g2, cap2, cs2, rfl, hb2, hc2, hn2, ht2⟩ := h2.form (by omega)
    obtain ⟨d, hd⟩ : ∃ d, d = l.getD j Fr.zero := ⟨_, rfl⟩
    refine TE.skip ?_
    refine TE.seq ?_
    refine TE.block ?_
    refine TE.seq ?_
    refine TE.planAll (.cons (0, true) (.cons (1, true) (.cons (2, true) (.cons (3, true) (.cons (5, true) (.cons (6, true) (.cons (7, true) (.cons (8, true) (.cons (4, false) (.cons (9, true) .nil)))))))))) (fun w_ => Chg [] w1 w_) rfl (by kernel_rfl) ?_
    have hS2 : Chg [] w1 w1.drew := Chg.drew _ _
    replace hb1 := hb1.chg0 hS2
    replace hb2 := hb2.chg0 hS2
    replace hC := hC.then_ hS2
    refine PL.takeP rfl (Pure.move rfl) rfl hS2 ?_
    refine PL.takeP rfl (Pure.move rfl) rfl hS2 ?_
    refine PL.takeP rfl (Pure.indexAddrS (r := j * 4) Tryd.runUnderlying68 Tryd.sizeOf30 rfl rfl (by omega) (by omega) (by omega)) rfl hS2 ?_
    refine PL.takeS (fun w_ => Chg [] w1.drew w_) (fun _ h_ => hS2.then_ h_) rfl (fun w_ h_ => Run.loadRow (i := j * 4) (vs := d.cells) rfl Tryd.underlying30 rfl rfl (hb1.chg0 h_) (by omega) (by rw [hd]; exact rows_at ht1 rfl hjl)) rfl (Chg.refl _ _) ?_
    have hP3 : Chg [] w1.drew w1.drew := Chg.refl _ _
    refine PL.takeP rfl (Pure.move rfl) rfl hP3 ?_
    refine PL.takeP rfl (Pure.move rfl) rfl hP3 ?_
    refine PL.takeP rfl (Pure.indexAddrS (r := j * 4) Tryd.runUnderlying71 Tryd.sizeOf34 rfl rfl (by omega) (by omega) (by omega)) rfl hP3 ?_
    refine PL.takeS (fun w_ => Chg [] w1.drew w_) (fun _ h_ => hP3.then_ h_) rfl (fun w_ h_ => Run.loadRow (i := j * 4) (vs := d.cells) rfl Tryd.underlying34 rfl rfl (hb2.chg0 h_) (by omega) (by rw [hd]; exact rows_at ht2 rfl hjl)) rfl (Chg.refl _ _) ?_
    have hP4 : Chg [] w1.drew w1.drew := Chg.refl _ _
    refine PL.call rfl rfl Tryd.call16 rfl (back_any d _) ?_
    rintro _ w5 ⟨rfl, hc5⟩
    have hc5s := hP4.then_ hc5
    replace hb1 := hb1.chg0 hc5
    replace hb2 := hb2.chg0 hc5
    replace hC := hC.then_ hc5
    refine ⟨_, rfl, hc5s, ?_⟩
    refine PL.takeP rfl (Pure.neqStruct (t := 34) (by kernel_rfl) (by kernel_rfl) (by kernel_rfl) rfl rfl (ref_eq d d)) rfl hc5s ?_
    refine PL.cast (.bool false) 26 rfl (by rw [frSame_self]; rfl) ?_
    refine PL.nil ?_
    refine TE.condF rfl rfl ?_
    refine TE.skip ?_
    refine TE.inBlock ?_
    refine TE.region ?_
    refine OL.pure (Pure.move rfl) rfl ?_
    refine OL.pure (Pure.add rfl rfl (i64 (by omega) (by omega))) rfl ?_
    refine OL.pure (Pure.assign rfl) rfl ?_
    refine OL.nil ?_
    have hr1 : Row w5 30 4 (.slice (some ⟨g1, 0, none⟩) l.length cap1) l.length (fvs l) := ⟨by rw [fvs_len], .inr ⟨g1, cap1, cs1, rfl, hb1, hc1, hn1, ht1⟩⟩
    have hr2 : Row w5 34 4 (.slice (some ⟨g2, 0, none⟩) l.length cap2) l.length (fvs l) := ⟨by rw [fvs_len], .inr ⟨g2, cap2, cs2, rfl, hb2, hc2, hn2, ht2⟩⟩
    exact TE.sub [0, 1, 5] rfl (ih1 (j + 1) _ ⟨by omega, hC, hr1, hr2⟩ (by omega))
  ·
    refine TE.exit rfl ?_
    refine TE.seq ?_
    refine TE.region ?_
    refine OL.pure (Pure.assign rfl) rfl ?_
    refine OL.nil ?_
    exact TE.ret (vs := [.bool true]) Tryd.results31 (⟨rfl, trivial⟩) ⟨rfl, hC⟩

end Go.Proofs.YtigjmemoaapmgaaDoor
