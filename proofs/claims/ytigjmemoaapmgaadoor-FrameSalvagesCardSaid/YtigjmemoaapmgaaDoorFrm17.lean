/- The law of Salvage, walked -/
import Derived.Test.YtigjmemoaapmgaaDoorProg
import Derived.Test.YtigjmemoaapmgaaDoorEng6
import Derived.Test.YtigjmemoaapmgaaDoorFrameSpec2
import Derived.Test.YtigjmemoaapmgaaDoorFrm1
import Derived.Test.YtigjmemoaapmgaaDoorFrm2
import Derived.Test.YtigjmemoaapmgaaDoorFrm3
import Derived.Test.YtigjmemoaapmgaaDoorFrm4
import Derived.Test.YtigjmemoaapmgaaDoorFrm5
import Derived.Test.YtigjmemoaapmgaaDoorFrm6
import Derived.Test.YtigjmemoaapmgaaDoorFrm11
import Derived.Test.YtigjmemoaapmgaaDoorFrm13
import Derived.Test.YtigjmemoaapmgaaDoorFrm16
set_option linter.unusedVariables false
set_option maxRecDepth 4000
namespace Go.Proofs.YtigjmemoaapmgaaDoor
open Go.V Go.Sha Go.Frm
set_option maxHeartbeats 1000000 in
theorem salvages_law_any {tK tF : TypeId} (st nb : Int) (A T B : Option Addr) (ca ct cb cut : Nat) (L : List (List UInt8)) (b a : List UInt8) (ts : List Int) (cs : List UInt8) (hts : ∀ z, z ∈ ts → 0 ≤ z ∧ z ≤ 65535) (hcut : cut ≤ 65535) (w : World) (hK : Blk w 1 tK (iv .u32 K)) (hF : Blk w 0 tF (iv .i64 fldL)) (hA : Cells w A L) (hT : CellsI w .u16 T ts) (hB : CellsB w B cs) : Calls Tryd.prog 9 #[.agg (runCells st nb (.slice A L.length ca) b a (.slice T ts.length ct) (.slice B cs.length cb) cut).toArray] w (RetC (.bool true) w) := by
  refine calls_of_TE (vs := [.agg (runCells st nb (.slice A L.length ca) b a (.slice T ts.length ct) (.slice B cs.length cb) cut).toArray]) Tryd.func9 Tryd.ntmps9 rfl (by simp) ?_
  have hC : Chg [] w w := Chg.refl _ _
  have h0w : 1 < w.heap.size := hK.lt
  have h1w : 0 < w.heap.size := hF.lt
  refine TE.seq ?_
  refine TE.region ?_
  refine OL.box rfl rfl ?_
  intro g1 w1 h1 hc1 hg_g1
  have lt_1_g1 : 1 < g1 := by have := hK.lt; omega
  have lt_0_g1 : 0 < g1 := by have := hF.lt; omega
  have ge_g1 : w.heap.size ≤ g1 := by have := hC.size; omega
  replace hK := hK.chg0 hc1
  replace hF := hF.chg0 hc1
  replace hC := hC.then_ hc1
  have h1 : Blk w1 g1 27 (runCells st nb (.slice A L.length ca) b a (.slice T ts.length ct) (.slice B cs.length cb) cut) := h1
  replace hA := hA.chg0 hC
  replace hT := CellsI.chg0 hT hC
  replace hB := CellsB.chg0 hB hC
  refine OL.pure (Pure.assign rfl) rfl ?_
  refine OL.nil ?_
  refine TE.seq ?_
  refine TE.region ?_
  refine OL.val (Run.loadAll rfl Tryd.underlying27 rfl h1 (rfl)) rfl ?_
  refine OL.call rfl Tryd.call12 rfl (bytes_any st nb A T B ca ct cb cut L b a ts cs hts hcut _ hA hT hB) ?_
  rintro _ w2 ⟨s, rfl, hsl, hplain, hc2⟩
  replace hK := hK.chg0 hc2
  replace hF := hF.chg0 hc2
  replace h1 := h1.chg0 hc2
  replace hC := hC.then_ hc2
  refine ⟨_, rfl, ?_⟩
  have hsl2 := salv_len s.length s 0
  have hq1 := fun w => salvage_any (tK := tK) (tF := tF) s (by omega) w
  have hq2 := fun w => rsalvage_any s (by omega) w
  obtain ⟨l, hl⟩ : ∃ l, l = salv' s 0 := ⟨_, rfl⟩
  have hll : l.length ≤ 1000 := by rw [hl]; exact Nat.le_trans hsl2 hsl
  rw [← hl] at hq1 hq2
  refine OL.pure (Pure.assign rfl) rfl ?_
  refine OL.nil ?_
  refine TE.seq ?_
  refine TE.region ?_
  refine OL.pure (Pure.move rfl) rfl ?_
  refine OL.call rfl Tryd.call27 rfl (hq1 _ hK hF) ?_
  rintro _ w3 ⟨v1, rfl, hv1, hc3, hm_v1⟩
  replace hm_v1 : Mine w.heap.size v1 := fun k hk => Nat.le_trans hC.size (hm_v1 k hk)
  replace hK := hK.chg0 hc3
  replace hF := hF.chg0 hc3
  replace h1 := h1.chg0 hc3
  replace hC := hC.then_ hc3
  refine ⟨_, rfl, ?_⟩
  refine OL.pure (Pure.assign rfl) rfl ?_
  refine OL.nil ?_
  refine TE.seq ?_
  refine TE.region ?_
  refine OL.pure (Pure.move rfl) rfl ?_
  refine OL.call rfl Tryd.call28 rfl (hq2 _) ?_
  rintro _ w4 ⟨v2, rfl, hv2, hc4, hm_v2⟩
  replace hm_v2 : Mine w.heap.size v2 := fun k hk => Nat.le_trans hC.size (hm_v2 k hk)
  replace hK := hK.chg0 hc4
  replace hF := hF.chg0 hc4
  replace h1 := h1.chg0 hc4
  replace hv1 := hv1.chg0 hc4
  replace hC := hC.then_ hc4
  refine ⟨_, rfl, ?_⟩
  refine OL.pure (Pure.assign rfl) rfl ?_
  refine OL.nil ?_
  refine TE.seq ?_
  refine TE.seq ?_
  refine TE.region ?_
  refine OL.call rfl Tryd.call15 rfl (known_any _ hK hF) ?_
  rintro _ w5 ⟨rfl, hc5⟩
  replace hK := hK.chg0 hc5
  replace hF := hF.chg0 hc5
  replace h1 := h1.chg0 hc5
  replace hv1 := hv1.chg0 hc5
  replace hv2 := hv2.chg0 hc5
  replace hC := hC.then_ hc5
  refine ⟨_, rfl, ?_⟩
  refine OL.pure (Pure.not rfl) rfl ?_
  refine OL.pure (Pure.move rfl) rfl ?_
  refine OL.want rfl rfl rfl (Pure.move rfl _) rfl ?_
  refine OL.want rfl rfl rfl (Pure.lenRow Tryd.runUnderlying59 rfl hv1 _) rfl ?_
  refine OL.want rfl rfl rfl (Pure.move rfl _) rfl ?_
  refine OL.want rfl rfl rfl (Pure.lenRow Tryd.runUnderlying61 rfl hv2 _) rfl ?_
  refine OL.want rfl rfl rfl (Pure.neq rfl rfl _) rfl ?_
  refine OL.cast (.bool false) 23 rfl (congrArg Value.bool (decide_eq_false (fun h => h rfl))) ?_
  refine OL.pure (Pure.pickF rfl rfl) rfl ?_
  refine OL.nil ?_
  refine TE.condF rfl rfl ?_
  refine TE.skip ?_
  refine TE.seq ?_
  refine TE.seq ?_
  refine TE.region ?_
  refine OL.pure (Pure.assign rfl) rfl ?_
  refine OL.nil ?_
  refine TE.block ?_
  refine TE.loopInv (σ := Nat) [1, 4, 5, 6] (fun s_ w_ => s_ ≤ l.length ∧ Chg [] w w_ ∧ Blk w_ g1 27 (runCells st nb (.slice A L.length ca) b a (.slice T ts.length ct) (.slice B cs.length cb) cut) ∧ Row w_ 64 5 v1 l.length (pvs l) ∧ Row w_ 66 5 v2 l.length (pvs l)) (fun s_ => [(1, .pointer (some ⟨g1, 0, none⟩)), (4, v1), (5, v2), (6, .int .i64 (↑s_))]) (fun s_ => l.length - s_) 0 ⟨by omega, hC, h1, hv1, hv2⟩ rfl ?_
  rintro j w6 ⟨hj, hC, h1, hv1, hv2⟩ ih6
  refine TE.seq ?_
  refine TE.seq ?_
  refine TE.region ?_
  refine OL.pure (Pure.move rfl) rfl ?_
  refine OL.pure (Pure.move rfl) rfl ?_
  refine OL.pure (Pure.lenRow Tryd.runUnderlying59 rfl hv1) rfl ?_
  refine OL.pure (Pure.lss rfl rfl) rfl ?_
  refine OL.nil ?_
  refine TE.ite rfl (fun hlt => ?_) (fun hlt => ?_)
  ·
    have hjl : j < l.length := by omega
    obtain ⟨ga1, cap1, cs1, rfl, hb1, hc1, hn1, ht1⟩ := hv1.form (by omega)
    have hp1 := prow_at ht1 rfl hjl
    obtain ⟨ga2, cap2, cs2, rfl, hb2, hc2, hn2, ht2⟩ := hv2.form (by omega)
    have hp2 := prow_at ht2 rfl hjl
    obtain ⟨x, hx⟩ : ∃ x, x = l.getD j (0, Fr.zero) := ⟨_, rfl⟩
    rw [← hx, Nat.mul_comm j 5] at hp1 hp2
    refine TE.skip ?_
    refine TE.seq ?_
    refine TE.block ?_
    refine TE.seq ?_
    refine TE.planAll (.cons (0, true) (.cons (1, true) (.cons (2, true) (.cons (3, true) (.cons (4, true) (.cons (5, true) (.cons (6, true) (.cons (7, true) (.cons (8, true) (.cons (9, true) (.cons (10, true) (.cons (11, true) (.cons (12, true) (.cons (13, true) (.cons (14, true) (.cons (15, true) (.cons (16, true) (.cons (18, true) (.cons (19, true) (.cons (20, true) (.cons (21, true) (.cons (22, true) (.cons (17, false) (.cons (23, true) (.cons (24, true) .nil))))))))))))))))))))))))) (fun w_ => Chg [] w6 w_) rfl (by kernel_rfl) ?_
    have hS7 : Chg [] w6 w6.drew := Chg.drew _ _
    replace h1 := h1.chg0 hS7
    replace hb1 := hb1.chg0 hS7
    replace hb2 := hb2.chg0 hS7
    replace hC := hC.then_ hS7
    refine PL.takeP rfl (Pure.move rfl) rfl hS7 ?_
    refine PL.takeP rfl (Pure.move rfl) rfl hS7 ?_
    refine PL.takeP rfl (Pure.indexAddrS (r := 5 * j) Tryd.runUnderlying59 Tryd.sizeOf64 rfl rfl (by omega) (by omega) (by omega)) rfl hS7 ?_
    refine PL.takeP rfl (Pure.fieldAddr (r := 5 * j) Tryd.runUnderlying64 rfl Tryd.sizeOf3 rfl rfl) rfl hS7 ?_
    refine PL.takeS (fun w_ => Chg [] w6.drew w_) (fun _ h_ => hS7.then_ h_) rfl (fun w_ h_ => Run.load (i := 5 * j) rfl Tryd.isAgg3 (hb1.chg0 h_) (by omega) (prow_0 hp1)) rfl (Chg.refl _ _) ?_
    have hP8 : Chg [] w6.drew w6.drew := Chg.refl _ _
    refine PL.takeP rfl (Pure.move rfl) rfl hP8 ?_
    refine PL.takeP rfl (Pure.move rfl) rfl hP8 ?_
    refine PL.takeP rfl (Pure.indexAddrS (r := 5 * j) Tryd.runUnderlying61 Tryd.sizeOf66 rfl rfl (by omega) (by omega) (by omega)) rfl hP8 ?_
    refine PL.takeP rfl (Pure.fieldAddr (r := 5 * j) Tryd.runUnderlying66 rfl Tryd.sizeOf3 rfl rfl) rfl hP8 ?_
    refine PL.takeS (fun w_ => Chg [] w6.drew w_) (fun _ h_ => hP8.then_ h_) rfl (fun w_ h_ => Run.load (i := 5 * j) rfl Tryd.isAgg3 (hb2.chg0 h_) (by omega) (prow_0 hp2)) rfl (Chg.refl _ _) ?_
    have hP9 : Chg [] w6.drew w6.drew := Chg.refl _ _
    refine PL.takeP rfl (Pure.neq rfl rfl) rfl hP9 ?_
    refine PL.cast (.bool false) 41 rfl (congrArg Value.bool (decide_eq_false (fun h => h rfl))) ?_
    refine PL.takeP rfl (Pure.move rfl) rfl hP9 ?_
    refine PL.takeG (fun w_ => Chg [] w6.drew w_) (fun _ h_ => hP9.then_ h_) rfl rfl rfl rfl (fun w_ h_ => Pure.move rfl _) rfl (Chg.refl _ _) ?_
    have hP10 : Chg [] w6.drew w6.drew := Chg.refl _ _
    refine PL.takeG (fun w_ => Chg [] w6.drew w_) (fun _ h_ => hP10.then_ h_) rfl rfl rfl rfl (fun w_ h_ => Pure.move rfl _) rfl (Chg.refl _ _) ?_
    have hP11 : Chg [] w6.drew w6.drew := Chg.refl _ _
    refine PL.takeG (fun w_ => Chg [] w6.drew w_) (fun _ h_ => hP11.then_ h_) rfl rfl rfl rfl (fun w_ h_ => Pure.indexAddrS (r := 5 * j) Tryd.runUnderlying59 Tryd.sizeOf64 rfl rfl (by omega) (by omega) (by omega) _) rfl (Chg.refl _ _) ?_
    have hP12 : Chg [] w6.drew w6.drew := Chg.refl _ _
    refine PL.takeG (fun w_ => Chg [] w6.drew w_) (fun _ h_ => hP12.then_ h_) rfl rfl rfl rfl (fun w_ h_ => Pure.fieldAddr (r := 5 * j + 1) Tryd.runUnderlying64 rfl Tryd.sizeOf30 rfl rfl _) rfl (Chg.refl _ _) ?_
    have hP13 : Chg [] w6.drew w6.drew := Chg.refl _ _
    refine PL.takeG (fun w_ => Chg [] w6.drew w_) (fun _ h_ => hP13.then_ h_) rfl rfl rfl rfl (fun w_ h_ => Run.loadRow (i := 5 * j + 1) (vs := x.2.cells) rfl Tryd.underlying30 rfl rfl (hb1.chg0 h_) (by omega) (prow_1 hp1)) rfl (Chg.refl _ _) ?_
    have hP14 : Chg [] w6.drew w6.drew := Chg.refl _ _
    refine PL.takeG (fun w_ => Chg [] w6.drew w_) (fun _ h_ => hP14.then_ h_) rfl rfl rfl rfl (fun w_ h_ => Pure.move rfl _) rfl (Chg.refl _ _) ?_
    have hP15 : Chg [] w6.drew w6.drew := Chg.refl _ _
    refine PL.takeG (fun w_ => Chg [] w6.drew w_) (fun _ h_ => hP15.then_ h_) rfl rfl rfl rfl (fun w_ h_ => Pure.move rfl _) rfl (Chg.refl _ _) ?_
    have hP16 : Chg [] w6.drew w6.drew := Chg.refl _ _
    refine PL.takeG (fun w_ => Chg [] w6.drew w_) (fun _ h_ => hP16.then_ h_) rfl rfl rfl rfl (fun w_ h_ => Pure.indexAddrS (r := 5 * j) Tryd.runUnderlying61 Tryd.sizeOf66 rfl rfl (by omega) (by omega) (by omega) _) rfl (Chg.refl _ _) ?_
    have hP17 : Chg [] w6.drew w6.drew := Chg.refl _ _
    refine PL.takeG (fun w_ => Chg [] w6.drew w_) (fun _ h_ => hP17.then_ h_) rfl rfl rfl rfl (fun w_ h_ => Pure.fieldAddr (r := 5 * j + 1) Tryd.runUnderlying66 rfl Tryd.sizeOf34 rfl rfl _) rfl (Chg.refl _ _) ?_
    have hP18 : Chg [] w6.drew w6.drew := Chg.refl _ _
    refine PL.takeG (fun w_ => Chg [] w6.drew w_) (fun _ h_ => hP18.then_ h_) rfl rfl rfl rfl (fun w_ h_ => Run.loadRow (i := 5 * j + 1) (vs := x.2.cells) rfl Tryd.underlying34 rfl rfl (hb2.chg0 h_) (by omega) (prow_1 hp2)) rfl (Chg.refl _ _) ?_
    have hP19 : Chg [] w6.drew w6.drew := Chg.refl _ _
    refine PL.callG rfl rfl rfl rfl rfl Tryd.call16 rfl (back_any x.2 _) ?_
    rintro _ w20 ⟨rfl, hc20⟩
    have hc20s := hP19.then_ hc20
    replace h1 := h1.chg0 hc20
    replace hb1 := hb1.chg0 hc20
    replace hb2 := hb2.chg0 hc20
    replace hC := hC.then_ hc20
    refine ⟨_, rfl, hc20s, ?_⟩
    refine PL.takeG (fun w_ => Chg [] w20 w_) (fun _ h_ => hc20s.then_ h_) rfl rfl rfl rfl (fun w_ h_ => Pure.neqStruct (t := 34) (by kernel_rfl) (by kernel_rfl) (by kernel_rfl) rfl rfl (ref_eq x.2 x.2) _) rfl (Chg.refl _ _) ?_
    have hP21 : Chg [] w20 w20 := Chg.refl _ _
    refine PL.cast (.bool false) 54 rfl (by rw [frSame_self]; rfl) ?_
    refine PL.takeP rfl (Pure.pickF rfl rfl) rfl hP21 ?_
    refine PL.nil ?_
    refine TE.condF rfl rfl ?_
    refine TE.skip ?_
    refine TE.inBlock ?_
    refine TE.region ?_
    refine OL.pure (Pure.move rfl) rfl ?_
    refine OL.pure (Pure.add rfl rfl (i64 (by omega) (by omega))) rfl ?_
    refine OL.pure (Pure.assign rfl) rfl ?_
    refine OL.nil ?_
    have hr1 : Row w20 64 5 (.slice (some ⟨ga1, 0, none⟩) l.length cap1) l.length (pvs l) := ⟨by rw [pvs_len], .inr ⟨ga1, cap1, cs1, rfl, hb1, hc1, hn1, ht1⟩⟩
    have hr2 : Row w20 66 5 (.slice (some ⟨ga2, 0, none⟩) l.length cap2) l.length (pvs l) := ⟨by rw [pvs_len], .inr ⟨ga2, cap2, cs2, rfl, hb2, hc2, hn2, ht2⟩⟩
    exact TE.sub [1, 4, 5, 6] rfl (ih6 (j + 1) _ ⟨by omega, hC, h1, hr1, hr2⟩ (by omega))
  ·
    obtain ⟨A1, c1, rfl, hle1⟩ := hv1.shape
    refine TE.exit rfl ?_
    refine TE.seq ?_
    refine TE.seq ?_
    refine TE.region ?_
    refine OL.pure (Pure.assign rfl) rfl ?_
    refine OL.nil ?_
    refine TE.block ?_
    refine TE.loopInv (σ := Nat) [1, 4, 7] (fun s_ w_ => s_ ≤ b.length ∧ s_ ≤ 50 ∧ (∀ k, k < s_ → b.getD k 0 ≠ 245) ∧ Chg [] w w_ ∧ Blk w_ g1 27 (runCells st nb (.slice A L.length ca) b a (.slice T ts.length ct) (.slice B cs.length cb) cut)) (fun s_ => [(1, .pointer (some ⟨g1, 0, none⟩)), (4, .slice A1 l.length c1), (7, .int .i64 (↑s_))]) (fun s_ => b.length - s_) 0 ⟨by omega, by omega, fun k h => by omega, hC, h1⟩ rfl ?_
    rintro i w22 ⟨hib, hi50, hno, hC, h1⟩ ih22
    by_cases hlt : i < b.length
    ·
      refine TE.seq ?_
      refine TE.seq ?_
      refine TE.region ?_
      refine OL.pure (Pure.move rfl) rfl ?_
      refine OL.pure (Pure.fieldAddr (r := 3) Tryd.runUnderlying27 rfl Tryd.sizeOf9 rfl rfl) rfl ?_
      refine OL.val (Run.load (i := 3) rfl Tryd.isAgg9 h1 (by omega) rfl) rfl ?_
      refine OL.pure (Pure.lenStr Tryd.runUnderlying9 rfl) rfl ?_
      refine OL.pure (Pure.lss rfl rfl) rfl ?_
      refine OL.cast (.bool true) 60 rfl (congrArg Value.bool (decide_eq_true (by omega))) ?_
      refine OL.pure (Pure.move rfl) rfl ?_
      refine OL.want rfl rfl rfl (Pure.move rfl _) rfl ?_
      refine OL.want rfl rfl rfl (Pure.lss rfl rfl _) rfl ?_
      refine OL.pure (Pure.pickT rfl rfl) rfl ?_
      refine OL.nil ?_
      refine TE.ite rfl (fun h50 => ?_) (fun h50 => ?_)
      ·
        refine TE.skip ?_
        refine TE.seq ?_
        refine TE.block ?_
        refine TE.seq ?_
        refine TE.region ?_
        refine OL.pure (Pure.fieldAddr (r := 3) Tryd.runUnderlying27 rfl Tryd.sizeOf9 rfl rfl) rfl ?_
        refine OL.val (Run.load (i := 3) rfl Tryd.isAgg9 h1 (by omega) rfl) rfl ?_
        refine OL.pure (Pure.move rfl) rfl ?_
        refine OL.pure (Pure.indexStr (j := i) Tryd.runUnderlying9 rfl rfl (by omega) (by omega)) rfl ?_
        refine OL.pure (Pure.eql rfl rfl) rfl ?_
        refine OL.nil ?_
        refine TE.ite rfl (fun hmk => ?_) (fun hmk => ?_)
        ·
          refine TE.seq ?_
          refine TE.region ?_
          refine OL.pure (Pure.assign rfl) rfl ?_
          refine OL.nil ?_
          exact TE.ret (vs := [.bool true]) Tryd.results9 (⟨rfl, trivial⟩) ⟨rfl, hC⟩
        ·
          have hno2 : ∀ k, k < i + 1 → b.getD k 0 ≠ 245 := by
            intro k hk h2
            by_cases e : k = i
            · subst e; exact hmk ((bt_at b k 245).2 h2)
            · exact hno k (by omega) h2
          refine TE.skip ?_
          refine TE.inBlock ?_
          refine TE.region ?_
          refine OL.pure (Pure.move rfl) rfl ?_
          refine OL.pure (Pure.add rfl rfl (i64 (by omega) (by omega))) rfl ?_
          refine OL.pure (Pure.assign rfl) rfl ?_
          refine OL.nil ?_
          exact TE.sub [1, 4, 7] rfl (ih22 (i + 1) _ ⟨by omega, by omega, hno2, hC, h1⟩ (by omega))
      ·
        have hbn := no_mark hno (show b.length ≤ i ∨ 50 ≤ i by omega)
        by_cases ht0 : 0 < ts.length
        ·
          by_cases hc0 : 0 < cs.length
          ·
            refine TE.exit rfl ?_
            refine TE.seq ?_
            refine TE.seq ?_
            refine TE.region ?_
            refine OL.pure (Pure.fieldAddr (r := 5) Tryd.runUnderlying27 rfl Tryd.sizeOf23 rfl rfl) rfl ?_
            refine OL.val (Run.load (i := 5) rfl Tryd.isAgg23 h1 (by omega) rfl) rfl ?_
            refine OL.pure (Pure.lenSlice Tryd.runUnderlying23 rfl) rfl ?_
            refine OL.pure (Pure.gtr rfl rfl) rfl ?_
            refine OL.cast (.bool true) 75 rfl (congrArg Value.bool (decide_eq_true (by omega))) ?_
            refine OL.pure (Pure.move rfl) rfl ?_
            refine OL.want rfl rfl rfl (Pure.fieldAddr (r := 6) Tryd.runUnderlying27 rfl Tryd.sizeOf24 rfl rfl _) rfl ?_
            refine OL.want rfl rfl rfl (Run.load (i := 6) rfl Tryd.isAgg24 h1 (by omega) rfl) rfl ?_
            refine OL.want rfl rfl rfl (Pure.lenSlice Tryd.runUnderlying24 rfl _) rfl ?_
            refine OL.want rfl rfl rfl (Pure.gtr rfl rfl _) rfl ?_
            refine OL.cast (.bool true) 80 rfl (congrArg Value.bool (decide_eq_true (by omega))) ?_
            refine OL.pure (Pure.pickT rfl rfl) rfl ?_
            refine OL.pure (Pure.move rfl) rfl ?_
            refine OL.pass rfl rfl rfl rfl rfl ?_
            refine OL.pass rfl rfl rfl rfl rfl ?_
            refine OL.pass rfl rfl rfl rfl rfl ?_
            refine OL.pure (Pure.pickT rfl rfl) rfl ?_
            refine OL.nil ?_
            refine TE.condT rfl rfl ?_
            refine TE.seq ?_
            refine TE.region ?_
            refine OL.pure (Pure.assign rfl) rfl ?_
            refine OL.nil ?_
            exact TE.ret (vs := [.bool true]) Tryd.results9 (⟨rfl, trivial⟩) ⟨rfl, hC⟩
          ·
            by_cases hct0 : 0 < cut
            ·
              refine TE.exit rfl ?_
              refine TE.seq ?_
              refine TE.seq ?_
              refine TE.region ?_
              refine OL.pure (Pure.fieldAddr (r := 5) Tryd.runUnderlying27 rfl Tryd.sizeOf23 rfl rfl) rfl ?_
              refine OL.val (Run.load (i := 5) rfl Tryd.isAgg23 h1 (by omega) rfl) rfl ?_
              refine OL.pure (Pure.lenSlice Tryd.runUnderlying23 rfl) rfl ?_
              refine OL.pure (Pure.gtr rfl rfl) rfl ?_
              refine OL.cast (.bool true) 75 rfl (congrArg Value.bool (decide_eq_true (by omega))) ?_
              refine OL.pure (Pure.move rfl) rfl ?_
              refine OL.want rfl rfl rfl (Pure.fieldAddr (r := 6) Tryd.runUnderlying27 rfl Tryd.sizeOf24 rfl rfl _) rfl ?_
              refine OL.want rfl rfl rfl (Run.load (i := 6) rfl Tryd.isAgg24 h1 (by omega) rfl) rfl ?_
              refine OL.want rfl rfl rfl (Pure.lenSlice Tryd.runUnderlying24 rfl _) rfl ?_
              refine OL.want rfl rfl rfl (Pure.gtr rfl rfl _) rfl ?_
              refine OL.cast (.bool false) 80 rfl (congrArg Value.bool (decide_eq_false (by omega))) ?_
              refine OL.pure (Pure.pickT rfl rfl) rfl ?_
              refine OL.pure (Pure.move rfl) rfl ?_
              refine OL.want rfl rfl rfl (Pure.fieldAddr (r := 7) Tryd.runUnderlying27 rfl Tryd.sizeOf25 rfl rfl _) rfl ?_
              refine OL.want rfl rfl rfl (Run.load (i := 7) rfl Tryd.isAgg25 h1 (by omega) rfl) rfl ?_
              refine OL.want rfl rfl rfl (Pure.gtr rfl rfl _) rfl ?_
              refine OL.cast (.bool true) 85 rfl (congrArg Value.bool (decide_eq_true (by omega))) ?_
              refine OL.pure (Pure.pickF rfl rfl) rfl ?_
              refine OL.nil ?_
              refine TE.condT rfl rfl ?_
              refine TE.seq ?_
              refine TE.region ?_
              refine OL.pure (Pure.assign rfl) rfl ?_
              refine OL.nil ?_
              exact TE.ret (vs := [.bool true]) Tryd.results9 (⟨rfl, trivial⟩) ⟨rfl, hC⟩
            ·
              have hpl := hplain (.inr (by omega)) (by omega)
              refine TE.exit rfl ?_
              refine TE.seq ?_
              refine TE.seq ?_
              refine TE.region ?_
              refine OL.pure (Pure.fieldAddr (r := 5) Tryd.runUnderlying27 rfl Tryd.sizeOf23 rfl rfl) rfl ?_
              refine OL.val (Run.load (i := 5) rfl Tryd.isAgg23 h1 (by omega) rfl) rfl ?_
              refine OL.pure (Pure.lenSlice Tryd.runUnderlying23 rfl) rfl ?_
              refine OL.pure (Pure.gtr rfl rfl) rfl ?_
              refine OL.cast (.bool true) 75 rfl (congrArg Value.bool (decide_eq_true (by omega))) ?_
              refine OL.pure (Pure.move rfl) rfl ?_
              refine OL.want rfl rfl rfl (Pure.fieldAddr (r := 6) Tryd.runUnderlying27 rfl Tryd.sizeOf24 rfl rfl _) rfl ?_
              refine OL.want rfl rfl rfl (Run.load (i := 6) rfl Tryd.isAgg24 h1 (by omega) rfl) rfl ?_
              refine OL.want rfl rfl rfl (Pure.lenSlice Tryd.runUnderlying24 rfl _) rfl ?_
              refine OL.want rfl rfl rfl (Pure.gtr rfl rfl _) rfl ?_
              refine OL.cast (.bool false) 80 rfl (congrArg Value.bool (decide_eq_false (by omega))) ?_
              refine OL.pure (Pure.pickT rfl rfl) rfl ?_
              refine OL.pure (Pure.move rfl) rfl ?_
              refine OL.want rfl rfl rfl (Pure.fieldAddr (r := 7) Tryd.runUnderlying27 rfl Tryd.sizeOf25 rfl rfl _) rfl ?_
              refine OL.want rfl rfl rfl (Run.load (i := 7) rfl Tryd.isAgg25 h1 (by omega) rfl) rfl ?_
              refine OL.want rfl rfl rfl (Pure.gtr rfl rfl _) rfl ?_
              refine OL.cast (.bool false) 85 rfl (congrArg Value.bool (decide_eq_false (by omega))) ?_
              refine OL.pure (Pure.pickF rfl rfl) rfl ?_
              refine OL.nil ?_
              refine TE.condF rfl rfl ?_
              refine TE.skip ?_
              refine TE.seq ?_
              refine TE.region ?_
              refine OL.pure (Pure.assign rfl) rfl ?_
              refine OL.nil ?_
              refine TE.seq ?_
              refine TE.seq ?_
              refine TE.region ?_
              refine OL.pure (Pure.assign rfl) rfl ?_
              refine OL.nil ?_
              refine TE.block ?_
              refine TE.cast (.int .i64 ((runFrs st nb L 0).length : Int)) 8 rfl (rfl) ?_
              refine TE.loopInv (σ := Nat) [1, 4, 8, 9] (fun s_ w_ => s_ ≤ L.length ∧ s_ ≤ 6 ∧ Chg [] w w_ ∧ Blk w_ g1 27 (runCells st nb (.slice A L.length ca) b a (.slice T ts.length ct) (.slice B cs.length cb) cut)) (fun s_ => [(1, .pointer (some ⟨g1, 0, none⟩)), (4, .slice A1 l.length c1), (8, .int .i64 ((runFrs st nb L s_).length : Int)), (9, .int .i64 (↑s_))]) (fun s_ => L.length - s_) 0 ⟨by omega, by omega, hC, h1⟩ rfl ?_
              rintro n w23 ⟨hnL, hn6, hC, h1⟩ ih23
              have hrl := runFrs_len st nb L n
              by_cases hnl : n < L.length
              ·
                refine TE.seq ?_
                refine TE.seq ?_
                refine TE.region ?_
                refine OL.pure (Pure.move rfl) rfl ?_
                refine OL.pure (Pure.fieldAddr (r := 2) Tryd.runUnderlying27 rfl Tryd.sizeOf22 rfl rfl) rfl ?_
                refine OL.val (Run.load (i := 2) rfl Tryd.isAgg22 h1 (by omega) rfl) rfl ?_
                refine OL.pure (Pure.lenSlice Tryd.runUnderlying22 rfl) rfl ?_
                refine OL.pure (Pure.lss rfl rfl) rfl ?_
                refine OL.cast (.bool true) 91 rfl (congrArg Value.bool (decide_eq_true (by omega))) ?_
                refine OL.pure (Pure.move rfl) rfl ?_
                refine OL.want rfl rfl rfl (Pure.move rfl _) rfl ?_
                refine OL.want rfl rfl rfl (Pure.lss rfl rfl _) rfl ?_
                refine OL.pure (Pure.pickT rfl rfl) rfl ?_
                refine OL.nil ?_
                refine TE.ite rfl (fun h6 => ?_) (fun h6 => ?_)
                ·
                  refine TE.skip ?_
                  refine TE.seq ?_
                  refine TE.block ?_
                  refine TE.seq ?_
                  refine TE.region ?_
                  refine OL.pure (Pure.move rfl) rfl ?_
                  refine OL.pure (Pure.fieldAddr (r := 0) Tryd.runUnderlying27 rfl Tryd.sizeOf3 rfl rfl) rfl ?_
                  refine OL.val (Run.load (i := 0) rfl Tryd.isAgg3 h1 (by omega) rfl) rfl ?_
                  refine OL.pure (Pure.fieldAddr (r := 1) Tryd.runUnderlying27 rfl Tryd.sizeOf3 rfl rfl) rfl ?_
                  refine OL.val (Run.load (i := 1) rfl Tryd.isAgg3 h1 (by omega) rfl) rfl ?_
                  refine OL.pure (Pure.move rfl) rfl ?_
                  refine OL.pure (Pure.add rfl rfl rfl) rfl ?_
                  refine OL.pure (Pure.build (cs := Fr.cells ⟨(n : Int), st, IntKind.i64.wrap (nb + n), []⟩) rfl (by kernel_rfl)) rfl ?_
                  refine OL.call rfl Tryd.call19 rfl (rcheck_any ⟨(n : Int), st, IntKind.i64.wrap (nb + n), []⟩ (by simp) _) ?_
                  rintro _ w24 ⟨rfl, hc24⟩
                  replace h1 := h1.chg0 hc24
                  replace hC := hC.then_ hc24
                  refine ⟨_, rfl, ?_⟩
                  by_cases hck : check ⟨(n : Int), st, IntKind.i64.wrap (nb + n), []⟩ = 0
                  ·
                    refine OL.pure (Pure.eql rfl rfl) rfl ?_
                    refine OL.cast (.bool true) 107 rfl (congrArg Value.bool (decide_eq_true (hck))) ?_
                    refine OL.nil ?_
                    refine TE.condT rfl rfl ?_
                    refine TE.region ?_
                    refine OL.pure (Pure.move rfl) rfl ?_
                    refine OL.pure (Pure.add rfl rfl (i64 (by omega) (by omega))) rfl ?_
                    refine OL.pure (Pure.assign rfl) rfl ?_
                    refine OL.cast (.int .i64 ((runFrs st nb L (n + 1)).length : Int)) 8 rfl (congrArg (Value.int .i64) (by rw [runFrs_yes hck]; rfl)) ?_
                    refine OL.nil ?_
                    refine TE.inBlock ?_
                    refine TE.region ?_
                    refine OL.pure (Pure.move rfl) rfl ?_
                    refine OL.pure (Pure.add rfl rfl (i64 (by omega) (by omega))) rfl ?_
                    refine OL.pure (Pure.assign rfl) rfl ?_
                    refine OL.nil ?_
                    exact TE.sub [1, 4, 8, 9] rfl (ih23 (n + 1) _ ⟨by omega, by omega, hC, h1⟩ (by omega))
                  ·
                    refine OL.pure (Pure.eql rfl rfl) rfl ?_
                    refine OL.cast (.bool false) 107 rfl (congrArg Value.bool (decide_eq_false (hck))) ?_
                    refine OL.nil ?_
                    refine TE.condF rfl rfl ?_
                    refine TE.skip ?_
                    refine TE.inBlock ?_
                    refine TE.region ?_
                    refine OL.pure (Pure.move rfl) rfl ?_
                    refine OL.pure (Pure.add rfl rfl (i64 (by omega) (by omega))) rfl ?_
                    refine OL.pure (Pure.assign rfl) rfl ?_
                    refine OL.nil ?_
                    refine TE.cast (.int .i64 ((runFrs st nb L (n + 1)).length : Int)) 8 rfl (congrArg (Value.int .i64) (by rw [runFrs_no hck])) ?_
                    exact TE.sub [1, 4, 8, 9] rfl (ih23 (n + 1) _ ⟨by omega, by omega, hC, h1⟩ (by omega))
                ·
                  have hnm : min 6 L.length = n := by omega
                  rw [hnm] at hpl
                  have hge := salv_plain hpl hbn
                  rw [← hl] at hge
                  refine TE.exit rfl ?_
                  refine TE.seq ?_
                  refine TE.region ?_
                  refine OL.pure (Pure.move rfl) rfl ?_
                  refine OL.pure (Pure.lenSlice Tryd.runUnderlying59 rfl) rfl ?_
                  refine OL.pure (Pure.move rfl) rfl ?_
                  refine OL.pure (Pure.geq rfl rfl) rfl ?_
                  refine OL.cast (.bool true) 113 rfl (congrArg Value.bool (decide_eq_true (by omega))) ?_
                  refine OL.pure (Pure.assign rfl) rfl ?_
                  refine OL.nil ?_
                  exact TE.ret (vs := [.bool true]) Tryd.results9 (⟨rfl, trivial⟩) ⟨rfl, hC⟩
              ·
                have hnm : min 6 L.length = n := by omega
                rw [hnm] at hpl
                have hge := salv_plain hpl hbn
                rw [← hl] at hge
                refine TE.seq ?_
                refine TE.seq ?_
                refine TE.region ?_
                refine OL.pure (Pure.move rfl) rfl ?_
                refine OL.pure (Pure.fieldAddr (r := 2) Tryd.runUnderlying27 rfl Tryd.sizeOf22 rfl rfl) rfl ?_
                refine OL.val (Run.load (i := 2) rfl Tryd.isAgg22 h1 (by omega) rfl) rfl ?_
                refine OL.pure (Pure.lenSlice Tryd.runUnderlying22 rfl) rfl ?_
                refine OL.pure (Pure.lss rfl rfl) rfl ?_
                refine OL.cast (.bool false) 91 rfl (congrArg Value.bool (decide_eq_false (by omega))) ?_
                refine OL.pure (Pure.move rfl) rfl ?_
                refine OL.pass rfl rfl rfl rfl rfl ?_
                refine OL.pass rfl rfl rfl rfl rfl ?_
                refine OL.pure (Pure.pickF rfl rfl) rfl ?_
                refine OL.nil ?_
                refine TE.condF rfl rfl ?_
                refine TE.exit rfl ?_
                refine TE.seq ?_
                refine TE.region ?_
                refine OL.pure (Pure.move rfl) rfl ?_
                refine OL.pure (Pure.lenSlice Tryd.runUnderlying59 rfl) rfl ?_
                refine OL.pure (Pure.move rfl) rfl ?_
                refine OL.pure (Pure.geq rfl rfl) rfl ?_
                refine OL.cast (.bool true) 113 rfl (congrArg Value.bool (decide_eq_true (by omega))) ?_
                refine OL.pure (Pure.assign rfl) rfl ?_
                refine OL.nil ?_
                exact TE.ret (vs := [.bool true]) Tryd.results9 (⟨rfl, trivial⟩) ⟨rfl, hC⟩
        ·
          by_cases hct0 : 0 < cut
          ·
            refine TE.exit rfl ?_
            refine TE.seq ?_
            refine TE.seq ?_
            refine TE.region ?_
            refine OL.pure (Pure.fieldAddr (r := 5) Tryd.runUnderlying27 rfl Tryd.sizeOf23 rfl rfl) rfl ?_
            refine OL.val (Run.load (i := 5) rfl Tryd.isAgg23 h1 (by omega) rfl) rfl ?_
            refine OL.pure (Pure.lenSlice Tryd.runUnderlying23 rfl) rfl ?_
            refine OL.pure (Pure.gtr rfl rfl) rfl ?_
            refine OL.cast (.bool false) 75 rfl (congrArg Value.bool (decide_eq_false (by omega))) ?_
            refine OL.pure (Pure.move rfl) rfl ?_
            refine OL.pass rfl rfl rfl rfl rfl ?_
            refine OL.pass rfl rfl rfl rfl rfl ?_
            refine OL.pass rfl rfl rfl rfl rfl ?_
            refine OL.pass rfl rfl rfl rfl rfl ?_
            refine OL.pure (Pure.pickF rfl rfl) rfl ?_
            refine OL.pure (Pure.move rfl) rfl ?_
            refine OL.want rfl rfl rfl (Pure.fieldAddr (r := 7) Tryd.runUnderlying27 rfl Tryd.sizeOf25 rfl rfl _) rfl ?_
            refine OL.want rfl rfl rfl (Run.load (i := 7) rfl Tryd.isAgg25 h1 (by omega) rfl) rfl ?_
            refine OL.want rfl rfl rfl (Pure.gtr rfl rfl _) rfl ?_
            refine OL.cast (.bool true) 85 rfl (congrArg Value.bool (decide_eq_true (by omega))) ?_
            refine OL.pure (Pure.pickF rfl rfl) rfl ?_
            refine OL.nil ?_
            refine TE.condT rfl rfl ?_
            refine TE.seq ?_
            refine TE.region ?_
            refine OL.pure (Pure.assign rfl) rfl ?_
            refine OL.nil ?_
            exact TE.ret (vs := [.bool true]) Tryd.results9 (⟨rfl, trivial⟩) ⟨rfl, hC⟩
          ·
            have hpl := hplain (.inl (by omega)) (by omega)
            refine TE.exit rfl ?_
            refine TE.seq ?_
            refine TE.seq ?_
            refine TE.region ?_
            refine OL.pure (Pure.fieldAddr (r := 5) Tryd.runUnderlying27 rfl Tryd.sizeOf23 rfl rfl) rfl ?_
            refine OL.val (Run.load (i := 5) rfl Tryd.isAgg23 h1 (by omega) rfl) rfl ?_
            refine OL.pure (Pure.lenSlice Tryd.runUnderlying23 rfl) rfl ?_
            refine OL.pure (Pure.gtr rfl rfl) rfl ?_
            refine OL.cast (.bool false) 75 rfl (congrArg Value.bool (decide_eq_false (by omega))) ?_
            refine OL.pure (Pure.move rfl) rfl ?_
            refine OL.pass rfl rfl rfl rfl rfl ?_
            refine OL.pass rfl rfl rfl rfl rfl ?_
            refine OL.pass rfl rfl rfl rfl rfl ?_
            refine OL.pass rfl rfl rfl rfl rfl ?_
            refine OL.pure (Pure.pickF rfl rfl) rfl ?_
            refine OL.pure (Pure.move rfl) rfl ?_
            refine OL.want rfl rfl rfl (Pure.fieldAddr (r := 7) Tryd.runUnderlying27 rfl Tryd.sizeOf25 rfl rfl _) rfl ?_
            refine OL.want rfl rfl rfl (Run.load (i := 7) rfl Tryd.isAgg25 h1 (by omega) rfl) rfl ?_
            refine OL.want rfl rfl rfl (Pure.gtr rfl rfl _) rfl ?_
            refine OL.cast (.bool false) 85 rfl (congrArg Value.bool (decide_eq_false (by omega))) ?_
            refine OL.pure (Pure.pickF rfl rfl) rfl ?_
            refine OL.nil ?_
            refine TE.condF rfl rfl ?_
            refine TE.skip ?_
            refine TE.seq ?_
            refine TE.region ?_
            refine OL.pure (Pure.assign rfl) rfl ?_
            refine OL.nil ?_
            refine TE.seq ?_
            refine TE.seq ?_
            refine TE.region ?_
            refine OL.pure (Pure.assign rfl) rfl ?_
            refine OL.nil ?_
            refine TE.block ?_
            refine TE.cast (.int .i64 ((runFrs st nb L 0).length : Int)) 8 rfl (rfl) ?_
            refine TE.loopInv (σ := Nat) [1, 4, 8, 9] (fun s_ w_ => s_ ≤ L.length ∧ s_ ≤ 6 ∧ Chg [] w w_ ∧ Blk w_ g1 27 (runCells st nb (.slice A L.length ca) b a (.slice T ts.length ct) (.slice B cs.length cb) cut)) (fun s_ => [(1, .pointer (some ⟨g1, 0, none⟩)), (4, .slice A1 l.length c1), (8, .int .i64 ((runFrs st nb L s_).length : Int)), (9, .int .i64 (↑s_))]) (fun s_ => L.length - s_) 0 ⟨by omega, by omega, hC, h1⟩ rfl ?_
            rintro n w25 ⟨hnL, hn6, hC, h1⟩ ih25
            have hrl := runFrs_len st nb L n
            by_cases hnl : n < L.length
            ·
              refine TE.seq ?_
              refine TE.seq ?_
              refine TE.region ?_
              refine OL.pure (Pure.move rfl) rfl ?_
              refine OL.pure (Pure.fieldAddr (r := 2) Tryd.runUnderlying27 rfl Tryd.sizeOf22 rfl rfl) rfl ?_
              refine OL.val (Run.load (i := 2) rfl Tryd.isAgg22 h1 (by omega) rfl) rfl ?_
              refine OL.pure (Pure.lenSlice Tryd.runUnderlying22 rfl) rfl ?_
              refine OL.pure (Pure.lss rfl rfl) rfl ?_
              refine OL.cast (.bool true) 91 rfl (congrArg Value.bool (decide_eq_true (by omega))) ?_
              refine OL.pure (Pure.move rfl) rfl ?_
              refine OL.want rfl rfl rfl (Pure.move rfl _) rfl ?_
              refine OL.want rfl rfl rfl (Pure.lss rfl rfl _) rfl ?_
              refine OL.pure (Pure.pickT rfl rfl) rfl ?_
              refine OL.nil ?_
              refine TE.ite rfl (fun h6 => ?_) (fun h6 => ?_)
              ·
                refine TE.skip ?_
                refine TE.seq ?_
                refine TE.block ?_
                refine TE.seq ?_
                refine TE.region ?_
                refine OL.pure (Pure.move rfl) rfl ?_
                refine OL.pure (Pure.fieldAddr (r := 0) Tryd.runUnderlying27 rfl Tryd.sizeOf3 rfl rfl) rfl ?_
                refine OL.val (Run.load (i := 0) rfl Tryd.isAgg3 h1 (by omega) rfl) rfl ?_
                refine OL.pure (Pure.fieldAddr (r := 1) Tryd.runUnderlying27 rfl Tryd.sizeOf3 rfl rfl) rfl ?_
                refine OL.val (Run.load (i := 1) rfl Tryd.isAgg3 h1 (by omega) rfl) rfl ?_
                refine OL.pure (Pure.move rfl) rfl ?_
                refine OL.pure (Pure.add rfl rfl rfl) rfl ?_
                refine OL.pure (Pure.build (cs := Fr.cells ⟨(n : Int), st, IntKind.i64.wrap (nb + n), []⟩) rfl (by kernel_rfl)) rfl ?_
                refine OL.call rfl Tryd.call19 rfl (rcheck_any ⟨(n : Int), st, IntKind.i64.wrap (nb + n), []⟩ (by simp) _) ?_
                rintro _ w26 ⟨rfl, hc26⟩
                replace h1 := h1.chg0 hc26
                replace hC := hC.then_ hc26
                refine ⟨_, rfl, ?_⟩
                by_cases hck : check ⟨(n : Int), st, IntKind.i64.wrap (nb + n), []⟩ = 0
                ·
                  refine OL.pure (Pure.eql rfl rfl) rfl ?_
                  refine OL.cast (.bool true) 107 rfl (congrArg Value.bool (decide_eq_true (hck))) ?_
                  refine OL.nil ?_
                  refine TE.condT rfl rfl ?_
                  refine TE.region ?_
                  refine OL.pure (Pure.move rfl) rfl ?_
                  refine OL.pure (Pure.add rfl rfl (i64 (by omega) (by omega))) rfl ?_
                  refine OL.pure (Pure.assign rfl) rfl ?_
                  refine OL.cast (.int .i64 ((runFrs st nb L (n + 1)).length : Int)) 8 rfl (congrArg (Value.int .i64) (by rw [runFrs_yes hck]; rfl)) ?_
                  refine OL.nil ?_
                  refine TE.inBlock ?_
                  refine TE.region ?_
                  refine OL.pure (Pure.move rfl) rfl ?_
                  refine OL.pure (Pure.add rfl rfl (i64 (by omega) (by omega))) rfl ?_
                  refine OL.pure (Pure.assign rfl) rfl ?_
                  refine OL.nil ?_
                  exact TE.sub [1, 4, 8, 9] rfl (ih25 (n + 1) _ ⟨by omega, by omega, hC, h1⟩ (by omega))
                ·
                  refine OL.pure (Pure.eql rfl rfl) rfl ?_
                  refine OL.cast (.bool false) 107 rfl (congrArg Value.bool (decide_eq_false (hck))) ?_
                  refine OL.nil ?_
                  refine TE.condF rfl rfl ?_
                  refine TE.skip ?_
                  refine TE.inBlock ?_
                  refine TE.region ?_
                  refine OL.pure (Pure.move rfl) rfl ?_
                  refine OL.pure (Pure.add rfl rfl (i64 (by omega) (by omega))) rfl ?_
                  refine OL.pure (Pure.assign rfl) rfl ?_
                  refine OL.nil ?_
                  refine TE.cast (.int .i64 ((runFrs st nb L (n + 1)).length : Int)) 8 rfl (congrArg (Value.int .i64) (by rw [runFrs_no hck])) ?_
                  exact TE.sub [1, 4, 8, 9] rfl (ih25 (n + 1) _ ⟨by omega, by omega, hC, h1⟩ (by omega))
              ·
                have hnm : min 6 L.length = n := by omega
                rw [hnm] at hpl
                have hge := salv_plain hpl hbn
                rw [← hl] at hge
                refine TE.exit rfl ?_
                refine TE.seq ?_
                refine TE.region ?_
                refine OL.pure (Pure.move rfl) rfl ?_
                refine OL.pure (Pure.lenSlice Tryd.runUnderlying59 rfl) rfl ?_
                refine OL.pure (Pure.move rfl) rfl ?_
                refine OL.pure (Pure.geq rfl rfl) rfl ?_
                refine OL.cast (.bool true) 113 rfl (congrArg Value.bool (decide_eq_true (by omega))) ?_
                refine OL.pure (Pure.assign rfl) rfl ?_
                refine OL.nil ?_
                exact TE.ret (vs := [.bool true]) Tryd.results9 (⟨rfl, trivial⟩) ⟨rfl, hC⟩
            ·
              have hnm : min 6 L.length = n := by omega
              rw [hnm] at hpl
              have hge := salv_plain hpl hbn
              rw [← hl] at hge
              refine TE.seq ?_
              refine TE.seq ?_
              refine TE.region ?_
              refine OL.pure (Pure.move rfl) rfl ?_
              refine OL.pure (Pure.fieldAddr (r := 2) Tryd.runUnderlying27 rfl Tryd.sizeOf22 rfl rfl) rfl ?_
              refine OL.val (Run.load (i := 2) rfl Tryd.isAgg22 h1 (by omega) rfl) rfl ?_
              refine OL.pure (Pure.lenSlice Tryd.runUnderlying22 rfl) rfl ?_
              refine OL.pure (Pure.lss rfl rfl) rfl ?_
              refine OL.cast (.bool false) 91 rfl (congrArg Value.bool (decide_eq_false (by omega))) ?_
              refine OL.pure (Pure.move rfl) rfl ?_
              refine OL.pass rfl rfl rfl rfl rfl ?_
              refine OL.pass rfl rfl rfl rfl rfl ?_
              refine OL.pure (Pure.pickF rfl rfl) rfl ?_
              refine OL.nil ?_
              refine TE.condF rfl rfl ?_
              refine TE.exit rfl ?_
              refine TE.seq ?_
              refine TE.region ?_
              refine OL.pure (Pure.move rfl) rfl ?_
              refine OL.pure (Pure.lenSlice Tryd.runUnderlying59 rfl) rfl ?_
              refine OL.pure (Pure.move rfl) rfl ?_
              refine OL.pure (Pure.geq rfl rfl) rfl ?_
              refine OL.cast (.bool true) 113 rfl (congrArg Value.bool (decide_eq_true (by omega))) ?_
              refine OL.pure (Pure.assign rfl) rfl ?_
              refine OL.nil ?_
              exact TE.ret (vs := [.bool true]) Tryd.results9 (⟨rfl, trivial⟩) ⟨rfl, hC⟩
    ·
      have hbn := no_mark hno (show b.length ≤ i ∨ 50 ≤ i by omega)
      by_cases ht0 : 0 < ts.length
      ·
        by_cases hc0 : 0 < cs.length
        ·
          refine TE.seq ?_
          refine TE.seq ?_
          refine TE.region ?_
          refine OL.pure (Pure.move rfl) rfl ?_
          refine OL.pure (Pure.fieldAddr (r := 3) Tryd.runUnderlying27 rfl Tryd.sizeOf9 rfl rfl) rfl ?_
          refine OL.val (Run.load (i := 3) rfl Tryd.isAgg9 h1 (by omega) rfl) rfl ?_
          refine OL.pure (Pure.lenStr Tryd.runUnderlying9 rfl) rfl ?_
          refine OL.pure (Pure.lss rfl rfl) rfl ?_
          refine OL.cast (.bool false) 60 rfl (congrArg Value.bool (decide_eq_false (by omega))) ?_
          refine OL.pure (Pure.move rfl) rfl ?_
          refine OL.pass rfl rfl rfl rfl rfl ?_
          refine OL.pass rfl rfl rfl rfl rfl ?_
          refine OL.pure (Pure.pickF rfl rfl) rfl ?_
          refine OL.nil ?_
          refine TE.condF rfl rfl ?_
          refine TE.exit rfl ?_
          refine TE.seq ?_
          refine TE.seq ?_
          refine TE.region ?_
          refine OL.pure (Pure.fieldAddr (r := 5) Tryd.runUnderlying27 rfl Tryd.sizeOf23 rfl rfl) rfl ?_
          refine OL.val (Run.load (i := 5) rfl Tryd.isAgg23 h1 (by omega) rfl) rfl ?_
          refine OL.pure (Pure.lenSlice Tryd.runUnderlying23 rfl) rfl ?_
          refine OL.pure (Pure.gtr rfl rfl) rfl ?_
          refine OL.cast (.bool true) 75 rfl (congrArg Value.bool (decide_eq_true (by omega))) ?_
          refine OL.pure (Pure.move rfl) rfl ?_
          refine OL.want rfl rfl rfl (Pure.fieldAddr (r := 6) Tryd.runUnderlying27 rfl Tryd.sizeOf24 rfl rfl _) rfl ?_
          refine OL.want rfl rfl rfl (Run.load (i := 6) rfl Tryd.isAgg24 h1 (by omega) rfl) rfl ?_
          refine OL.want rfl rfl rfl (Pure.lenSlice Tryd.runUnderlying24 rfl _) rfl ?_
          refine OL.want rfl rfl rfl (Pure.gtr rfl rfl _) rfl ?_
          refine OL.cast (.bool true) 80 rfl (congrArg Value.bool (decide_eq_true (by omega))) ?_
          refine OL.pure (Pure.pickT rfl rfl) rfl ?_
          refine OL.pure (Pure.move rfl) rfl ?_
          refine OL.pass rfl rfl rfl rfl rfl ?_
          refine OL.pass rfl rfl rfl rfl rfl ?_
          refine OL.pass rfl rfl rfl rfl rfl ?_
          refine OL.pure (Pure.pickT rfl rfl) rfl ?_
          refine OL.nil ?_
          refine TE.condT rfl rfl ?_
          refine TE.seq ?_
          refine TE.region ?_
          refine OL.pure (Pure.assign rfl) rfl ?_
          refine OL.nil ?_
          exact TE.ret (vs := [.bool true]) Tryd.results9 (⟨rfl, trivial⟩) ⟨rfl, hC⟩
        ·
          by_cases hct0 : 0 < cut
          ·
            refine TE.seq ?_
            refine TE.seq ?_
            refine TE.region ?_
            refine OL.pure (Pure.move rfl) rfl ?_
            refine OL.pure (Pure.fieldAddr (r := 3) Tryd.runUnderlying27 rfl Tryd.sizeOf9 rfl rfl) rfl ?_
            refine OL.val (Run.load (i := 3) rfl Tryd.isAgg9 h1 (by omega) rfl) rfl ?_
            refine OL.pure (Pure.lenStr Tryd.runUnderlying9 rfl) rfl ?_
            refine OL.pure (Pure.lss rfl rfl) rfl ?_
            refine OL.cast (.bool false) 60 rfl (congrArg Value.bool (decide_eq_false (by omega))) ?_
            refine OL.pure (Pure.move rfl) rfl ?_
            refine OL.pass rfl rfl rfl rfl rfl ?_
            refine OL.pass rfl rfl rfl rfl rfl ?_
            refine OL.pure (Pure.pickF rfl rfl) rfl ?_
            refine OL.nil ?_
            refine TE.condF rfl rfl ?_
            refine TE.exit rfl ?_
            refine TE.seq ?_
            refine TE.seq ?_
            refine TE.region ?_
            refine OL.pure (Pure.fieldAddr (r := 5) Tryd.runUnderlying27 rfl Tryd.sizeOf23 rfl rfl) rfl ?_
            refine OL.val (Run.load (i := 5) rfl Tryd.isAgg23 h1 (by omega) rfl) rfl ?_
            refine OL.pure (Pure.lenSlice Tryd.runUnderlying23 rfl) rfl ?_
            refine OL.pure (Pure.gtr rfl rfl) rfl ?_
            refine OL.cast (.bool true) 75 rfl (congrArg Value.bool (decide_eq_true (by omega))) ?_
            refine OL.pure (Pure.move rfl) rfl ?_
            refine OL.want rfl rfl rfl (Pure.fieldAddr (r := 6) Tryd.runUnderlying27 rfl Tryd.sizeOf24 rfl rfl _) rfl ?_
            refine OL.want rfl rfl rfl (Run.load (i := 6) rfl Tryd.isAgg24 h1 (by omega) rfl) rfl ?_
            refine OL.want rfl rfl rfl (Pure.lenSlice Tryd.runUnderlying24 rfl _) rfl ?_
            refine OL.want rfl rfl rfl (Pure.gtr rfl rfl _) rfl ?_
            refine OL.cast (.bool false) 80 rfl (congrArg Value.bool (decide_eq_false (by omega))) ?_
            refine OL.pure (Pure.pickT rfl rfl) rfl ?_
            refine OL.pure (Pure.move rfl) rfl ?_
            refine OL.want rfl rfl rfl (Pure.fieldAddr (r := 7) Tryd.runUnderlying27 rfl Tryd.sizeOf25 rfl rfl _) rfl ?_
            refine OL.want rfl rfl rfl (Run.load (i := 7) rfl Tryd.isAgg25 h1 (by omega) rfl) rfl ?_
            refine OL.want rfl rfl rfl (Pure.gtr rfl rfl _) rfl ?_
            refine OL.cast (.bool true) 85 rfl (congrArg Value.bool (decide_eq_true (by omega))) ?_
            refine OL.pure (Pure.pickF rfl rfl) rfl ?_
            refine OL.nil ?_
            refine TE.condT rfl rfl ?_
            refine TE.seq ?_
            refine TE.region ?_
            refine OL.pure (Pure.assign rfl) rfl ?_
            refine OL.nil ?_
            exact TE.ret (vs := [.bool true]) Tryd.results9 (⟨rfl, trivial⟩) ⟨rfl, hC⟩
          ·
            have hpl := hplain (.inr (by omega)) (by omega)
            refine TE.seq ?_
            refine TE.seq ?_
            refine TE.region ?_
            refine OL.pure (Pure.move rfl) rfl ?_
            refine OL.pure (Pure.fieldAddr (r := 3) Tryd.runUnderlying27 rfl Tryd.sizeOf9 rfl rfl) rfl ?_
            refine OL.val (Run.load (i := 3) rfl Tryd.isAgg9 h1 (by omega) rfl) rfl ?_
            refine OL.pure (Pure.lenStr Tryd.runUnderlying9 rfl) rfl ?_
            refine OL.pure (Pure.lss rfl rfl) rfl ?_
            refine OL.cast (.bool false) 60 rfl (congrArg Value.bool (decide_eq_false (by omega))) ?_
            refine OL.pure (Pure.move rfl) rfl ?_
            refine OL.pass rfl rfl rfl rfl rfl ?_
            refine OL.pass rfl rfl rfl rfl rfl ?_
            refine OL.pure (Pure.pickF rfl rfl) rfl ?_
            refine OL.nil ?_
            refine TE.condF rfl rfl ?_
            refine TE.exit rfl ?_
            refine TE.seq ?_
            refine TE.seq ?_
            refine TE.region ?_
            refine OL.pure (Pure.fieldAddr (r := 5) Tryd.runUnderlying27 rfl Tryd.sizeOf23 rfl rfl) rfl ?_
            refine OL.val (Run.load (i := 5) rfl Tryd.isAgg23 h1 (by omega) rfl) rfl ?_
            refine OL.pure (Pure.lenSlice Tryd.runUnderlying23 rfl) rfl ?_
            refine OL.pure (Pure.gtr rfl rfl) rfl ?_
            refine OL.cast (.bool true) 75 rfl (congrArg Value.bool (decide_eq_true (by omega))) ?_
            refine OL.pure (Pure.move rfl) rfl ?_
            refine OL.want rfl rfl rfl (Pure.fieldAddr (r := 6) Tryd.runUnderlying27 rfl Tryd.sizeOf24 rfl rfl _) rfl ?_
            refine OL.want rfl rfl rfl (Run.load (i := 6) rfl Tryd.isAgg24 h1 (by omega) rfl) rfl ?_
            refine OL.want rfl rfl rfl (Pure.lenSlice Tryd.runUnderlying24 rfl _) rfl ?_
            refine OL.want rfl rfl rfl (Pure.gtr rfl rfl _) rfl ?_
            refine OL.cast (.bool false) 80 rfl (congrArg Value.bool (decide_eq_false (by omega))) ?_
            refine OL.pure (Pure.pickT rfl rfl) rfl ?_
            refine OL.pure (Pure.move rfl) rfl ?_
            refine OL.want rfl rfl rfl (Pure.fieldAddr (r := 7) Tryd.runUnderlying27 rfl Tryd.sizeOf25 rfl rfl _) rfl ?_
            refine OL.want rfl rfl rfl (Run.load (i := 7) rfl Tryd.isAgg25 h1 (by omega) rfl) rfl ?_
            refine OL.want rfl rfl rfl (Pure.gtr rfl rfl _) rfl ?_
            refine OL.cast (.bool false) 85 rfl (congrArg Value.bool (decide_eq_false (by omega))) ?_
            refine OL.pure (Pure.pickF rfl rfl) rfl ?_
            refine OL.nil ?_
            refine TE.condF rfl rfl ?_
            refine TE.skip ?_
            refine TE.seq ?_
            refine TE.region ?_
            refine OL.pure (Pure.assign rfl) rfl ?_
            refine OL.nil ?_
            refine TE.seq ?_
            refine TE.seq ?_
            refine TE.region ?_
            refine OL.pure (Pure.assign rfl) rfl ?_
            refine OL.nil ?_
            refine TE.block ?_
            refine TE.cast (.int .i64 ((runFrs st nb L 0).length : Int)) 8 rfl (rfl) ?_
            refine TE.loopInv (σ := Nat) [1, 4, 8, 9] (fun s_ w_ => s_ ≤ L.length ∧ s_ ≤ 6 ∧ Chg [] w w_ ∧ Blk w_ g1 27 (runCells st nb (.slice A L.length ca) b a (.slice T ts.length ct) (.slice B cs.length cb) cut)) (fun s_ => [(1, .pointer (some ⟨g1, 0, none⟩)), (4, .slice A1 l.length c1), (8, .int .i64 ((runFrs st nb L s_).length : Int)), (9, .int .i64 (↑s_))]) (fun s_ => L.length - s_) 0 ⟨by omega, by omega, hC, h1⟩ rfl ?_
            rintro n w27 ⟨hnL, hn6, hC, h1⟩ ih27
            have hrl := runFrs_len st nb L n
            by_cases hnl : n < L.length
            ·
              refine TE.seq ?_
              refine TE.seq ?_
              refine TE.region ?_
              refine OL.pure (Pure.move rfl) rfl ?_
              refine OL.pure (Pure.fieldAddr (r := 2) Tryd.runUnderlying27 rfl Tryd.sizeOf22 rfl rfl) rfl ?_
              refine OL.val (Run.load (i := 2) rfl Tryd.isAgg22 h1 (by omega) rfl) rfl ?_
              refine OL.pure (Pure.lenSlice Tryd.runUnderlying22 rfl) rfl ?_
              refine OL.pure (Pure.lss rfl rfl) rfl ?_
              refine OL.cast (.bool true) 91 rfl (congrArg Value.bool (decide_eq_true (by omega))) ?_
              refine OL.pure (Pure.move rfl) rfl ?_
              refine OL.want rfl rfl rfl (Pure.move rfl _) rfl ?_
              refine OL.want rfl rfl rfl (Pure.lss rfl rfl _) rfl ?_
              refine OL.pure (Pure.pickT rfl rfl) rfl ?_
              refine OL.nil ?_
              refine TE.ite rfl (fun h6 => ?_) (fun h6 => ?_)
              ·
                refine TE.skip ?_
                refine TE.seq ?_
                refine TE.block ?_
                refine TE.seq ?_
                refine TE.region ?_
                refine OL.pure (Pure.move rfl) rfl ?_
                refine OL.pure (Pure.fieldAddr (r := 0) Tryd.runUnderlying27 rfl Tryd.sizeOf3 rfl rfl) rfl ?_
                refine OL.val (Run.load (i := 0) rfl Tryd.isAgg3 h1 (by omega) rfl) rfl ?_
                refine OL.pure (Pure.fieldAddr (r := 1) Tryd.runUnderlying27 rfl Tryd.sizeOf3 rfl rfl) rfl ?_
                refine OL.val (Run.load (i := 1) rfl Tryd.isAgg3 h1 (by omega) rfl) rfl ?_
                refine OL.pure (Pure.move rfl) rfl ?_
                refine OL.pure (Pure.add rfl rfl rfl) rfl ?_
                refine OL.pure (Pure.build (cs := Fr.cells ⟨(n : Int), st, IntKind.i64.wrap (nb + n), []⟩) rfl (by kernel_rfl)) rfl ?_
                refine OL.call rfl Tryd.call19 rfl (rcheck_any ⟨(n : Int), st, IntKind.i64.wrap (nb + n), []⟩ (by simp) _) ?_
                rintro _ w28 ⟨rfl, hc28⟩
                replace h1 := h1.chg0 hc28
                replace hC := hC.then_ hc28
                refine ⟨_, rfl, ?_⟩
                by_cases hck : check ⟨(n : Int), st, IntKind.i64.wrap (nb + n), []⟩ = 0
                ·
                  refine OL.pure (Pure.eql rfl rfl) rfl ?_
                  refine OL.cast (.bool true) 107 rfl (congrArg Value.bool (decide_eq_true (hck))) ?_
                  refine OL.nil ?_
                  refine TE.condT rfl rfl ?_
                  refine TE.region ?_
                  refine OL.pure (Pure.move rfl) rfl ?_
                  refine OL.pure (Pure.add rfl rfl (i64 (by omega) (by omega))) rfl ?_
                  refine OL.pure (Pure.assign rfl) rfl ?_
                  refine OL.cast (.int .i64 ((runFrs st nb L (n + 1)).length : Int)) 8 rfl (congrArg (Value.int .i64) (by rw [runFrs_yes hck]; rfl)) ?_
                  refine OL.nil ?_
                  refine TE.inBlock ?_
                  refine TE.region ?_
                  refine OL.pure (Pure.move rfl) rfl ?_
                  refine OL.pure (Pure.add rfl rfl (i64 (by omega) (by omega))) rfl ?_
                  refine OL.pure (Pure.assign rfl) rfl ?_
                  refine OL.nil ?_
                  exact TE.sub [1, 4, 8, 9] rfl (ih27 (n + 1) _ ⟨by omega, by omega, hC, h1⟩ (by omega))
                ·
                  refine OL.pure (Pure.eql rfl rfl) rfl ?_
                  refine OL.cast (.bool false) 107 rfl (congrArg Value.bool (decide_eq_false (hck))) ?_
                  refine OL.nil ?_
                  refine TE.condF rfl rfl ?_
                  refine TE.skip ?_
                  refine TE.inBlock ?_
                  refine TE.region ?_
                  refine OL.pure (Pure.move rfl) rfl ?_
                  refine OL.pure (Pure.add rfl rfl (i64 (by omega) (by omega))) rfl ?_
                  refine OL.pure (Pure.assign rfl) rfl ?_
                  refine OL.nil ?_
                  refine TE.cast (.int .i64 ((runFrs st nb L (n + 1)).length : Int)) 8 rfl (congrArg (Value.int .i64) (by rw [runFrs_no hck])) ?_
                  exact TE.sub [1, 4, 8, 9] rfl (ih27 (n + 1) _ ⟨by omega, by omega, hC, h1⟩ (by omega))
              ·
                have hnm : min 6 L.length = n := by omega
                rw [hnm] at hpl
                have hge := salv_plain hpl hbn
                rw [← hl] at hge
                refine TE.exit rfl ?_
                refine TE.seq ?_
                refine TE.region ?_
                refine OL.pure (Pure.move rfl) rfl ?_
                refine OL.pure (Pure.lenSlice Tryd.runUnderlying59 rfl) rfl ?_
                refine OL.pure (Pure.move rfl) rfl ?_
                refine OL.pure (Pure.geq rfl rfl) rfl ?_
                refine OL.cast (.bool true) 113 rfl (congrArg Value.bool (decide_eq_true (by omega))) ?_
                refine OL.pure (Pure.assign rfl) rfl ?_
                refine OL.nil ?_
                exact TE.ret (vs := [.bool true]) Tryd.results9 (⟨rfl, trivial⟩) ⟨rfl, hC⟩
            ·
              have hnm : min 6 L.length = n := by omega
              rw [hnm] at hpl
              have hge := salv_plain hpl hbn
              rw [← hl] at hge
              refine TE.seq ?_
              refine TE.seq ?_
              refine TE.region ?_
              refine OL.pure (Pure.move rfl) rfl ?_
              refine OL.pure (Pure.fieldAddr (r := 2) Tryd.runUnderlying27 rfl Tryd.sizeOf22 rfl rfl) rfl ?_
              refine OL.val (Run.load (i := 2) rfl Tryd.isAgg22 h1 (by omega) rfl) rfl ?_
              refine OL.pure (Pure.lenSlice Tryd.runUnderlying22 rfl) rfl ?_
              refine OL.pure (Pure.lss rfl rfl) rfl ?_
              refine OL.cast (.bool false) 91 rfl (congrArg Value.bool (decide_eq_false (by omega))) ?_
              refine OL.pure (Pure.move rfl) rfl ?_
              refine OL.pass rfl rfl rfl rfl rfl ?_
              refine OL.pass rfl rfl rfl rfl rfl ?_
              refine OL.pure (Pure.pickF rfl rfl) rfl ?_
              refine OL.nil ?_
              refine TE.condF rfl rfl ?_
              refine TE.exit rfl ?_
              refine TE.seq ?_
              refine TE.region ?_
              refine OL.pure (Pure.move rfl) rfl ?_
              refine OL.pure (Pure.lenSlice Tryd.runUnderlying59 rfl) rfl ?_
              refine OL.pure (Pure.move rfl) rfl ?_
              refine OL.pure (Pure.geq rfl rfl) rfl ?_
              refine OL.cast (.bool true) 113 rfl (congrArg Value.bool (decide_eq_true (by omega))) ?_
              refine OL.pure (Pure.assign rfl) rfl ?_
              refine OL.nil ?_
              exact TE.ret (vs := [.bool true]) Tryd.results9 (⟨rfl, trivial⟩) ⟨rfl, hC⟩
      ·
        by_cases hct0 : 0 < cut
        ·
          refine TE.seq ?_
          refine TE.seq ?_
          refine TE.region ?_
          refine OL.pure (Pure.move rfl) rfl ?_
          refine OL.pure (Pure.fieldAddr (r := 3) Tryd.runUnderlying27 rfl Tryd.sizeOf9 rfl rfl) rfl ?_
          refine OL.val (Run.load (i := 3) rfl Tryd.isAgg9 h1 (by omega) rfl) rfl ?_
          refine OL.pure (Pure.lenStr Tryd.runUnderlying9 rfl) rfl ?_
          refine OL.pure (Pure.lss rfl rfl) rfl ?_
          refine OL.cast (.bool false) 60 rfl (congrArg Value.bool (decide_eq_false (by omega))) ?_
          refine OL.pure (Pure.move rfl) rfl ?_
          refine OL.pass rfl rfl rfl rfl rfl ?_
          refine OL.pass rfl rfl rfl rfl rfl ?_
          refine OL.pure (Pure.pickF rfl rfl) rfl ?_
          refine OL.nil ?_
          refine TE.condF rfl rfl ?_
          refine TE.exit rfl ?_
          refine TE.seq ?_
          refine TE.seq ?_
          refine TE.region ?_
          refine OL.pure (Pure.fieldAddr (r := 5) Tryd.runUnderlying27 rfl Tryd.sizeOf23 rfl rfl) rfl ?_
          refine OL.val (Run.load (i := 5) rfl Tryd.isAgg23 h1 (by omega) rfl) rfl ?_
          refine OL.pure (Pure.lenSlice Tryd.runUnderlying23 rfl) rfl ?_
          refine OL.pure (Pure.gtr rfl rfl) rfl ?_
          refine OL.cast (.bool false) 75 rfl (congrArg Value.bool (decide_eq_false (by omega))) ?_
          refine OL.pure (Pure.move rfl) rfl ?_
          refine OL.pass rfl rfl rfl rfl rfl ?_
          refine OL.pass rfl rfl rfl rfl rfl ?_
          refine OL.pass rfl rfl rfl rfl rfl ?_
          refine OL.pass rfl rfl rfl rfl rfl ?_
          refine OL.pure (Pure.pickF rfl rfl) rfl ?_
          refine OL.pure (Pure.move rfl) rfl ?_
          refine OL.want rfl rfl rfl (Pure.fieldAddr (r := 7) Tryd.runUnderlying27 rfl Tryd.sizeOf25 rfl rfl _) rfl ?_
          refine OL.want rfl rfl rfl (Run.load (i := 7) rfl Tryd.isAgg25 h1 (by omega) rfl) rfl ?_
          refine OL.want rfl rfl rfl (Pure.gtr rfl rfl _) rfl ?_
          refine OL.cast (.bool true) 85 rfl (congrArg Value.bool (decide_eq_true (by omega))) ?_
          refine OL.pure (Pure.pickF rfl rfl) rfl ?_
          refine OL.nil ?_
          refine TE.condT rfl rfl ?_
          refine TE.seq ?_
          refine TE.region ?_
          refine OL.pure (Pure.assign rfl) rfl ?_
          refine OL.nil ?_
          exact TE.ret (vs := [.bool true]) Tryd.results9 (⟨rfl, trivial⟩) ⟨rfl, hC⟩
        ·
          have hpl := hplain (.inl (by omega)) (by omega)
          refine TE.seq ?_
          refine TE.seq ?_
          refine TE.region ?_
          refine OL.pure (Pure.move rfl) rfl ?_
          refine OL.pure (Pure.fieldAddr (r := 3) Tryd.runUnderlying27 rfl Tryd.sizeOf9 rfl rfl) rfl ?_
          refine OL.val (Run.load (i := 3) rfl Tryd.isAgg9 h1 (by omega) rfl) rfl ?_
          refine OL.pure (Pure.lenStr Tryd.runUnderlying9 rfl) rfl ?_
          refine OL.pure (Pure.lss rfl rfl) rfl ?_
          refine OL.cast (.bool false) 60 rfl (congrArg Value.bool (decide_eq_false (by omega))) ?_
          refine OL.pure (Pure.move rfl) rfl ?_
          refine OL.pass rfl rfl rfl rfl rfl ?_
          refine OL.pass rfl rfl rfl rfl rfl ?_
          refine OL.pure (Pure.pickF rfl rfl) rfl ?_
          refine OL.nil ?_
          refine TE.condF rfl rfl ?_
          refine TE.exit rfl ?_
          refine TE.seq ?_
          refine TE.seq ?_
          refine TE.region ?_
          refine OL.pure (Pure.fieldAddr (r := 5) Tryd.runUnderlying27 rfl Tryd.sizeOf23 rfl rfl) rfl ?_
          refine OL.val (Run.load (i := 5) rfl Tryd.isAgg23 h1 (by omega) rfl) rfl ?_
          refine OL.pure (Pure.lenSlice Tryd.runUnderlying23 rfl) rfl ?_
          refine OL.pure (Pure.gtr rfl rfl) rfl ?_
          refine OL.cast (.bool false) 75 rfl (congrArg Value.bool (decide_eq_false (by omega))) ?_
          refine OL.pure (Pure.move rfl) rfl ?_
          refine OL.pass rfl rfl rfl rfl rfl ?_
          refine OL.pass rfl rfl rfl rfl rfl ?_
          refine OL.pass rfl rfl rfl rfl rfl ?_
          refine OL.pass rfl rfl rfl rfl rfl ?_
          refine OL.pure (Pure.pickF rfl rfl) rfl ?_
          refine OL.pure (Pure.move rfl) rfl ?_
          refine OL.want rfl rfl rfl (Pure.fieldAddr (r := 7) Tryd.runUnderlying27 rfl Tryd.sizeOf25 rfl rfl _) rfl ?_
          refine OL.want rfl rfl rfl (Run.load (i := 7) rfl Tryd.isAgg25 h1 (by omega) rfl) rfl ?_
          refine OL.want rfl rfl rfl (Pure.gtr rfl rfl _) rfl ?_
          refine OL.cast (.bool false) 85 rfl (congrArg Value.bool (decide_eq_false (by omega))) ?_
          refine OL.pure (Pure.pickF rfl rfl) rfl ?_
          refine OL.nil ?_
          refine TE.condF rfl rfl ?_
          refine TE.skip ?_
          refine TE.seq ?_
          refine TE.region ?_
          refine OL.pure (Pure.assign rfl) rfl ?_
          refine OL.nil ?_
          refine TE.seq ?_
          refine TE.seq ?_
          refine TE.region ?_
          refine OL.pure (Pure.assign rfl) rfl ?_
          refine OL.nil ?_
          refine TE.block ?_
          refine TE.cast (.int .i64 ((runFrs st nb L 0).length : Int)) 8 rfl (rfl) ?_
          refine TE.loopInv (σ := Nat) [1, 4, 8, 9] (fun s_ w_ => s_ ≤ L.length ∧ s_ ≤ 6 ∧ Chg [] w w_ ∧ Blk w_ g1 27 (runCells st nb (.slice A L.length ca) b a (.slice T ts.length ct) (.slice B cs.length cb) cut)) (fun s_ => [(1, .pointer (some ⟨g1, 0, none⟩)), (4, .slice A1 l.length c1), (8, .int .i64 ((runFrs st nb L s_).length : Int)), (9, .int .i64 (↑s_))]) (fun s_ => L.length - s_) 0 ⟨by omega, by omega, hC, h1⟩ rfl ?_
          rintro n w29 ⟨hnL, hn6, hC, h1⟩ ih29
          have hrl := runFrs_len st nb L n
          by_cases hnl : n < L.length
          ·
            refine TE.seq ?_
            refine TE.seq ?_
            refine TE.region ?_
            refine OL.pure (Pure.move rfl) rfl ?_
            refine OL.pure (Pure.fieldAddr (r := 2) Tryd.runUnderlying27 rfl Tryd.sizeOf22 rfl rfl) rfl ?_
            refine OL.val (Run.load (i := 2) rfl Tryd.isAgg22 h1 (by omega) rfl) rfl ?_
            refine OL.pure (Pure.lenSlice Tryd.runUnderlying22 rfl) rfl ?_
            refine OL.pure (Pure.lss rfl rfl) rfl ?_
            refine OL.cast (.bool true) 91 rfl (congrArg Value.bool (decide_eq_true (by omega))) ?_
            refine OL.pure (Pure.move rfl) rfl ?_
            refine OL.want rfl rfl rfl (Pure.move rfl _) rfl ?_
            refine OL.want rfl rfl rfl (Pure.lss rfl rfl _) rfl ?_
            refine OL.pure (Pure.pickT rfl rfl) rfl ?_
            refine OL.nil ?_
            refine TE.ite rfl (fun h6 => ?_) (fun h6 => ?_)
            ·
              refine TE.skip ?_
              refine TE.seq ?_
              refine TE.block ?_
              refine TE.seq ?_
              refine TE.region ?_
              refine OL.pure (Pure.move rfl) rfl ?_
              refine OL.pure (Pure.fieldAddr (r := 0) Tryd.runUnderlying27 rfl Tryd.sizeOf3 rfl rfl) rfl ?_
              refine OL.val (Run.load (i := 0) rfl Tryd.isAgg3 h1 (by omega) rfl) rfl ?_
              refine OL.pure (Pure.fieldAddr (r := 1) Tryd.runUnderlying27 rfl Tryd.sizeOf3 rfl rfl) rfl ?_
              refine OL.val (Run.load (i := 1) rfl Tryd.isAgg3 h1 (by omega) rfl) rfl ?_
              refine OL.pure (Pure.move rfl) rfl ?_
              refine OL.pure (Pure.add rfl rfl rfl) rfl ?_
              refine OL.pure (Pure.build (cs := Fr.cells ⟨(n : Int), st, IntKind.i64.wrap (nb + n), []⟩) rfl (by kernel_rfl)) rfl ?_
              refine OL.call rfl Tryd.call19 rfl (rcheck_any ⟨(n : Int), st, IntKind.i64.wrap (nb + n), []⟩ (by simp) _) ?_
              rintro _ w30 ⟨rfl, hc30⟩
              replace h1 := h1.chg0 hc30
              replace hC := hC.then_ hc30
              refine ⟨_, rfl, ?_⟩
              by_cases hck : check ⟨(n : Int), st, IntKind.i64.wrap (nb + n), []⟩ = 0
              ·
                refine OL.pure (Pure.eql rfl rfl) rfl ?_
                refine OL.cast (.bool true) 107 rfl (congrArg Value.bool (decide_eq_true (hck))) ?_
                refine OL.nil ?_
                refine TE.condT rfl rfl ?_
                refine TE.region ?_
                refine OL.pure (Pure.move rfl) rfl ?_
                refine OL.pure (Pure.add rfl rfl (i64 (by omega) (by omega))) rfl ?_
                refine OL.pure (Pure.assign rfl) rfl ?_
                refine OL.cast (.int .i64 ((runFrs st nb L (n + 1)).length : Int)) 8 rfl (congrArg (Value.int .i64) (by rw [runFrs_yes hck]; rfl)) ?_
                refine OL.nil ?_
                refine TE.inBlock ?_
                refine TE.region ?_
                refine OL.pure (Pure.move rfl) rfl ?_
                refine OL.pure (Pure.add rfl rfl (i64 (by omega) (by omega))) rfl ?_
                refine OL.pure (Pure.assign rfl) rfl ?_
                refine OL.nil ?_
                exact TE.sub [1, 4, 8, 9] rfl (ih29 (n + 1) _ ⟨by omega, by omega, hC, h1⟩ (by omega))
              ·
                refine OL.pure (Pure.eql rfl rfl) rfl ?_
                refine OL.cast (.bool false) 107 rfl (congrArg Value.bool (decide_eq_false (hck))) ?_
                refine OL.nil ?_
                refine TE.condF rfl rfl ?_
                refine TE.skip ?_
                refine TE.inBlock ?_
                refine TE.region ?_
                refine OL.pure (Pure.move rfl) rfl ?_
                refine OL.pure (Pure.add rfl rfl (i64 (by omega) (by omega))) rfl ?_
                refine OL.pure (Pure.assign rfl) rfl ?_
                refine OL.nil ?_
                refine TE.cast (.int .i64 ((runFrs st nb L (n + 1)).length : Int)) 8 rfl (congrArg (Value.int .i64) (by rw [runFrs_no hck])) ?_
                exact TE.sub [1, 4, 8, 9] rfl (ih29 (n + 1) _ ⟨by omega, by omega, hC, h1⟩ (by omega))
            ·
              have hnm : min 6 L.length = n := by omega
              rw [hnm] at hpl
              have hge := salv_plain hpl hbn
              rw [← hl] at hge
              refine TE.exit rfl ?_
              refine TE.seq ?_
              refine TE.region ?_
              refine OL.pure (Pure.move rfl) rfl ?_
              refine OL.pure (Pure.lenSlice Tryd.runUnderlying59 rfl) rfl ?_
              refine OL.pure (Pure.move rfl) rfl ?_
              refine OL.pure (Pure.geq rfl rfl) rfl ?_
              refine OL.cast (.bool true) 113 rfl (congrArg Value.bool (decide_eq_true (by omega))) ?_
              refine OL.pure (Pure.assign rfl) rfl ?_
              refine OL.nil ?_
              exact TE.ret (vs := [.bool true]) Tryd.results9 (⟨rfl, trivial⟩) ⟨rfl, hC⟩
          ·
            have hnm : min 6 L.length = n := by omega
            rw [hnm] at hpl
            have hge := salv_plain hpl hbn
            rw [← hl] at hge
            refine TE.seq ?_
            refine TE.seq ?_
            refine TE.region ?_
            refine OL.pure (Pure.move rfl) rfl ?_
            refine OL.pure (Pure.fieldAddr (r := 2) Tryd.runUnderlying27 rfl Tryd.sizeOf22 rfl rfl) rfl ?_
            refine OL.val (Run.load (i := 2) rfl Tryd.isAgg22 h1 (by omega) rfl) rfl ?_
            refine OL.pure (Pure.lenSlice Tryd.runUnderlying22 rfl) rfl ?_
            refine OL.pure (Pure.lss rfl rfl) rfl ?_
            refine OL.cast (.bool false) 91 rfl (congrArg Value.bool (decide_eq_false (by omega))) ?_
            refine OL.pure (Pure.move rfl) rfl ?_
            refine OL.pass rfl rfl rfl rfl rfl ?_
            refine OL.pass rfl rfl rfl rfl rfl ?_
            refine OL.pure (Pure.pickF rfl rfl) rfl ?_
            refine OL.nil ?_
            refine TE.condF rfl rfl ?_
            refine TE.exit rfl ?_
            refine TE.seq ?_
            refine TE.region ?_
            refine OL.pure (Pure.move rfl) rfl ?_
            refine OL.pure (Pure.lenSlice Tryd.runUnderlying59 rfl) rfl ?_
            refine OL.pure (Pure.move rfl) rfl ?_
            refine OL.pure (Pure.geq rfl rfl) rfl ?_
            refine OL.cast (.bool true) 113 rfl (congrArg Value.bool (decide_eq_true (by omega))) ?_
            refine OL.pure (Pure.assign rfl) rfl ?_
            refine OL.nil ?_
            exact TE.ret (vs := [.bool true]) Tryd.results9 (⟨rfl, trivial⟩) ⟨rfl, hC⟩

end Go.Proofs.YtigjmemoaapmgaaDoor
