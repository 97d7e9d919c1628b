/- The bytes of a run, walked -/
import Derived.Test.YtigjmemoaapmgaaDoorProg
import Derived.Test.YtigjmemoaapmgaaDoorEng6
import Derived.Test.YtigjmemoaapmgaaDoorFrameSpec3
import Derived.Test.YtigjmemoaapmgaaDoorFrm1
import Derived.Test.YtigjmemoaapmgaaDoorFrm2
import Derived.Test.YtigjmemoaapmgaaDoorFrm3
set_option linter.unusedVariables false
set_option maxRecDepth 4000
namespace Go.Proofs.YtigjmemoaapmgaaDoor
open Go.V Go.Sha Go.Frm
set_option maxHeartbeats 2000000 in
theorem bytes_any (st nb : Int) (A T B : Option Addr) (ca ct cb cut : Nat) (L : List (List UInt8)) (b a : List UInt8) (ts : List Int) (cs : List UInt8) (hts : ∀ z, z ∈ ts → 0 ≤ z ∧ z ≤ 65535) (hcut : cut ≤ 65535) (w : World) (hA : Cells w A L) (hT : CellsI w .u16 T ts) (hB : CellsB w B cs) : Calls Tryd.prog 12 #[.agg (runCells st nb (.slice A L.length ca) b a (.slice T ts.length ct) (.slice B cs.length cb) cut).toArray] w (RetBytes st nb L b a ts.length cs.length cut w) := by
  refine calls_of_TE (vs := [.agg (runCells st nb (.slice A L.length ca) b a (.slice T ts.length ct) (.slice B cs.length cb) cut).toArray]) Tryd.func12 Tryd.ntmps12 rfl (by simp) ?_
  have hC : Chg [] w w := Chg.refl _ _
  refine TE.seq ?_
  refine TE.region ?_
  refine OL.box rfl rfl ?_
  intro g1 w1 h1 hc1 hg_g1
  have ge_g1 : w.heap.size ≤ g1 := by have := hC.size; omega
  replace hC := hC.then_ hc1
  have h1 : Blk w1 g1 27 (runCells st nb (.slice A L.length ca) b a (.slice T ts.length ct) (.slice B cs.length cb) cut) := h1
  refine OL.pure (Pure.assign rfl) rfl ?_
  refine OL.nil ?_
  refine TE.seq ?_
  refine TE.region ?_
  refine OL.pure (Pure.fieldAddr (r := 3) Tryd.runUnderlying27 rfl Tryd.sizeOf9 rfl rfl) rfl ?_
  refine OL.val (Run.load (i := 3) rfl Tryd.isAgg9 h1 (by omega) rfl) rfl ?_
  refine OL.pure (Pure.fieldAddr (r := 3) Tryd.runUnderlying27 rfl Tryd.sizeOf9 rfl rfl) rfl ?_
  refine OL.val (Run.load (i := 3) rfl Tryd.isAgg9 h1 (by omega) rfl) rfl ?_
  refine OL.pure (Pure.lenStr Tryd.runUnderlying9 rfl) rfl ?_
  refine OL.pure (Pure.min rfl rfl) rfl ?_
  refine OL.pure (Pure.sliceTo (l := b) (q := min b.length 50) Tryd.underlying9 rfl rfl (by omega) (by omega)) rfl ?_
  refine OL.pure (Pure.assign rfl) rfl ?_
  refine OL.cast (.string (str (runTo st nb L (b.take 50) 0))) 3 rfl (congrArg (fun z => Value.string (str z)) (by rw [take_min]; simp [runTo, runFrs])) ?_
  refine OL.nil ?_
  refine TE.seq ?_
  refine TE.seq ?_
  refine TE.region ?_
  refine OL.pure (Pure.assign rfl) rfl ?_
  refine OL.nil ?_
  refine TE.block ?_
  refine TE.loopInv (σ := Nat) [1, 3, 4] (fun s_ w_ => s_ ≤ L.length ∧ s_ ≤ 6 ∧ Chg [] w w_ ∧ Blk w_ g1 27 (runCells st nb (.slice A L.length ca) b a (.slice T ts.length ct) (.slice B cs.length cb) cut)) (fun s_ => [(1, .pointer (some ⟨g1, 0, none⟩)), (3, .string (str (runTo st nb L (b.take 50) s_))), (4, .int .i64 (↑s_))]) (fun s_ => L.length - s_) 0 ⟨by omega, by omega, hC, h1⟩ rfl ?_
  rintro j w2 ⟨hj, hj6, hC, h1⟩ ih2
  by_cases hlt : j < L.length
  ·
    refine TE.seq ?_
    refine TE.seq ?_
    refine TE.region ?_
    refine OL.pure (Pure.move rfl) rfl ?_
    refine OL.pure (Pure.fieldAddr (r := 2) Tryd.runUnderlying27 rfl Tryd.sizeOf22 rfl rfl) rfl ?_
    refine OL.val (Run.load (i := 2) rfl Tryd.isAgg22 h1 (by omega) rfl) rfl ?_
    refine OL.pure (Pure.lenSlice Tryd.runUnderlying22 rfl) rfl ?_
    refine OL.pure (Pure.lss rfl rfl) rfl ?_
    refine OL.cast (.bool true) 19 rfl (congrArg Value.bool (decide_eq_true (by omega))) ?_
    refine OL.pure (Pure.move rfl) rfl ?_
    refine OL.want rfl rfl rfl (Pure.move rfl _) rfl ?_
    refine OL.want rfl rfl rfl (Pure.lss rfl rfl _) rfl ?_
    refine OL.pure (Pure.pickT rfl rfl) rfl ?_
    refine OL.nil ?_
    refine TE.ite rfl (fun h6 => ?_) (fun h6 => ?_)
    ·
      obtain ⟨gA, oA, rfl, hcell⟩ := hA j hlt
      refine TE.skip ?_
      refine TE.seq ?_
      refine TE.block ?_
      refine TE.seq ?_
      refine TE.plan 22 (.cons (0, true) (.cons (1, true) (.cons (2, true) (.cons (3, true) (.cons (4, true) (.cons (5, true) (.cons (6, true) (.cons (7, true) (.cons (8, true) (.cons (9, true) (.cons (10, true) (.cons (11, true) (.cons (12, true) (.cons (13, true) (.cons (14, true) (.cons (15, true) (.cons (16, true) (.cons (17, true) (.cons (18, true) (.cons (19, true) (.cons (20, true) (.cons (21, false) .nil)))))))))))))))))))))) (fun w_ => Chg [] w2 w_) rfl (by kernel_rfl) rfl ?_
      have hS3 : Chg [] w2 w2.drew := Chg.drew _ _
      replace h1 := h1.chg0 hS3
      replace hC := hC.then_ hS3
      refine PL.takeP rfl (Pure.move rfl) rfl hS3 ?_
      refine PL.takeP rfl (Pure.fieldAddr (r := 0) Tryd.runUnderlying27 rfl Tryd.sizeOf3 rfl rfl) rfl hS3 ?_
      refine PL.takeS (fun w_ => Chg [] w2.drew w_) (fun _ h_ => hS3.then_ h_) rfl (fun w_ h_ => Run.load (i := 0) rfl Tryd.isAgg3 (h1.chg0 h_) (by omega) rfl) rfl (Chg.refl _ _) ?_
      have hP4 : Chg [] w2.drew w2.drew := Chg.refl _ _
      refine PL.takeP rfl (Pure.fieldAddr (r := 1) Tryd.runUnderlying27 rfl Tryd.sizeOf3 rfl rfl) rfl hP4 ?_
      refine PL.takeS (fun w_ => Chg [] w2.drew w_) (fun _ h_ => hP4.then_ h_) rfl (fun w_ h_ => Run.load (i := 1) rfl Tryd.isAgg3 (h1.chg0 h_) (by omega) rfl) rfl (Chg.refl _ _) ?_
      have hP5 : Chg [] w2.drew w2.drew := Chg.refl _ _
      refine PL.takeP rfl (Pure.move rfl) rfl hP5 ?_
      refine PL.takeP rfl (Pure.add rfl rfl rfl) rfl hP5 ?_
      refine PL.takeP rfl (Pure.fieldAddr (r := 2) Tryd.runUnderlying27 rfl Tryd.sizeOf22 rfl rfl) rfl hP5 ?_
      refine PL.takeS (fun w_ => Chg [] w2.drew w_) (fun _ h_ => hP5.then_ h_) rfl (fun w_ h_ => Run.load (i := 2) rfl Tryd.isAgg22 (h1.chg0 h_) (by omega) rfl) rfl (Chg.refl _ _) ?_
      have hP6 : Chg [] w2.drew w2.drew := Chg.refl _ _
      refine PL.takeP rfl (Pure.move rfl) rfl hP6 ?_
      refine PL.takeP rfl (Pure.indexAddrS (r := oA + j) Tryd.runUnderlying22 Tryd.sizeOf9 rfl rfl (by omega) (by omega) (by omega)) rfl hP6 ?_
      refine PL.takeS (fun w_ => Chg [] w2.drew w_) (fun _ h_ => hP6.then_ h_) rfl (fun w_ h_ => Run.loadCell rfl Tryd.isAgg9 (cell_chg hcell (hC.then_ h_) (by simp))) rfl (Chg.refl _ _) ?_
      have hP7 : Chg [] w2.drew w2.drew := Chg.refl _ _
      refine PL.takeP rfl (Pure.fieldAddr (r := 2) Tryd.runUnderlying27 rfl Tryd.sizeOf22 rfl rfl) rfl hP7 ?_
      refine PL.takeS (fun w_ => Chg [] w2.drew w_) (fun _ h_ => hP7.then_ h_) rfl (fun w_ h_ => Run.load (i := 2) rfl Tryd.isAgg22 (h1.chg0 h_) (by omega) rfl) rfl (Chg.refl _ _) ?_
      have hP8 : Chg [] w2.drew w2.drew := Chg.refl _ _
      refine PL.takeP rfl (Pure.move rfl) rfl hP8 ?_
      refine PL.takeP rfl (Pure.indexAddrS (r := oA + j) Tryd.runUnderlying22 Tryd.sizeOf9 rfl rfl (by omega) (by omega) (by omega)) rfl hP8 ?_
      refine PL.takeS (fun w_ => Chg [] w2.drew w_) (fun _ h_ => hP8.then_ h_) rfl (fun w_ h_ => Run.loadCell rfl Tryd.isAgg9 (cell_chg hcell (hC.then_ h_) (by simp))) rfl (Chg.refl _ _) ?_
      have hP9 : Chg [] w2.drew w2.drew := Chg.refl _ _
      refine PL.takeP rfl (Pure.lenStr Tryd.runUnderlying9 rfl) rfl hP9 ?_
      refine PL.takeP rfl (Pure.min rfl rfl) rfl hP9 ?_
      refine PL.takeP rfl (Pure.sliceTo (l := L.getD j []) (q := min (L.getD j []).length 100) Tryd.underlying9 rfl rfl (by omega) (by omega)) rfl hP9 ?_
      refine PL.cast (.string (str ((L.getD j []).take 100))) 45 rfl (congrArg (fun z => Value.string (str z)) (take_min _ _)) ?_
      refine PL.takeP rfl (Pure.build (cs := (runFr st nb L j).cells) rfl (by kernel_rfl)) rfl hP9 ?_
      refine PL.alloc rfl Tryd.zeroValue34 rfl (fun w_ h_ => hP9.then_ h_) ?_
      intro gf w10 hf hc10 hg_gf
      have lt_g1_gf : g1 < gf := by have := h1.lt; omega
      have ge_gf : w.heap.size ≤ gf := by have := hC.size; omega
      have gp_gf := Nat.le_trans hP9.size (Nat.le_of_eq hg_gf)
      have hc10s := hP9.then_ hc10
      replace h1 := h1.chg0 hc10
      replace hC := hC.then_ hc10
      have hf : Blk w10 gf 34 (Fr.zero.cells) := hf
      refine PL.nilTail ?_
      refine OL.storeRow (vs := (runFr st nb L j).cells) rfl rfl (rfl) (by simp [Fr.cells, Value.oneCell']) hf (Nat.le_refl 4) ?_
      intro w11 hb11 hc11
      replace h1 := h1.chg hc11 (by simpa using h1.ne hf (by decide))
      replace hC := hC.trans1 hc11 (by first | exact .inr (by omega) | exact .inl (by simp))
      replace hf := hb11
      replace hf := hf.all rfl
      refine OL.nil ?_
      have hfl := runFr_len st nb L j
      have hrl := runTo_len st nb L (b.take 50) j
      have hbl : (b.take 50).length ≤ 50 := by simp; omega
      refine TE.seq ?_
      refine TE.region ?_
      refine OL.val (Run.loadAll rfl Tryd.underlying34 rfl hf (rfl)) rfl ?_
      refine OL.call rfl Tryd.call19 rfl (rcheck_any (runFr st nb L j) (by omega) _) ?_
      rintro _ w12 ⟨rfl, hc12⟩
      replace h1 := h1.chg0 hc12
      replace hf := hf.chg0 hc12
      replace hC := hC.then_ hc12
      refine ⟨_, rfl, ?_⟩
      by_cases hck : check (runFr st nb L j) = 0
      ·
        have hel := encode_len (runFr st nb L j)
        refine OL.pure (Pure.eql rfl rfl) rfl ?_
        refine OL.cast (.bool true) 49 rfl (congrArg Value.bool (decide_eq_true (hck))) ?_
        refine OL.nil ?_
        refine TE.condT rfl rfl ?_
        refine TE.region ?_
        refine OL.pure (Pure.move rfl) rfl ?_
        refine OL.val (Run.loadAll rfl Tryd.underlying34 rfl hf (rfl)) rfl ?_
        refine OL.call rfl Tryd.call20 rfl (rencode_any (runFr st nb L j) hck _) ?_
        rintro _ w13 ⟨rfl, hc13⟩
        replace h1 := h1.chg0 hc13
        replace hf := hf.chg0 hc13
        replace hC := hC.then_ hc13
        refine ⟨_, rfl, ?_⟩
        refine OL.pure (Pure.strAdd (l := (runTo st nb L (b.take 50) j)) (m := (encode (runFr st nb L j))) rfl rfl (by omega)) rfl ?_
        refine OL.pure (Pure.assign rfl) rfl ?_
        refine OL.cast (.string (str (runTo st nb L (b.take 50) (j + 1)))) 3 rfl (by rw [runTo_yes hck]) ?_
        refine OL.nil ?_
        refine TE.inBlock ?_
        refine TE.region ?_
        refine OL.pure (Pure.move rfl) rfl ?_
        refine OL.pure (Pure.add rfl rfl (i64 (by omega) (by omega))) rfl ?_
        refine OL.pure (Pure.assign rfl) rfl ?_
        refine OL.nil ?_
        exact TE.sub [1, 3, 4] rfl (ih2 (j + 1) _ ⟨by omega, by omega, hC, h1⟩ (by omega))
      ·
        refine OL.pure (Pure.eql rfl rfl) rfl ?_
        refine OL.cast (.bool false) 49 rfl (congrArg Value.bool (decide_eq_false (hck))) ?_
        refine OL.nil ?_
        refine TE.condF rfl rfl ?_
        refine TE.skip ?_
        refine TE.inBlock ?_
        refine TE.region ?_
        refine OL.pure (Pure.move rfl) rfl ?_
        refine OL.pure (Pure.add rfl rfl (i64 (by omega) (by omega))) rfl ?_
        refine OL.pure (Pure.assign rfl) rfl ?_
        refine OL.nil ?_
        refine TE.cast (.string (str (runTo st nb L (b.take 50) (j + 1)))) 3 rfl (by rw [runTo_no hck]) ?_
        exact TE.sub [1, 3, 4] rfl (ih2 (j + 1) _ ⟨by omega, by omega, hC, h1⟩ (by omega))
    ·
      have hjm : j = min 6 L.length := by omega
      have hrl := runTo_len st nb L (b.take 50) j
      have hbl : (b.take 50).length ≤ 50 := by simp; omega
      have hal : (a.take 50).length ≤ 50 := by simp; omega
      refine TE.exit rfl ?_
      refine TE.seq ?_
      refine TE.region ?_
      refine OL.pure (Pure.move rfl) rfl ?_
      refine OL.pure (Pure.fieldAddr (r := 4) Tryd.runUnderlying27 rfl Tryd.sizeOf9 rfl rfl) rfl ?_
      refine OL.val (Run.load (i := 4) rfl Tryd.isAgg9 h1 (by omega) rfl) rfl ?_
      refine OL.pure (Pure.fieldAddr (r := 4) Tryd.runUnderlying27 rfl Tryd.sizeOf9 rfl rfl) rfl ?_
      refine OL.val (Run.load (i := 4) rfl Tryd.isAgg9 h1 (by omega) rfl) rfl ?_
      refine OL.pure (Pure.lenStr Tryd.runUnderlying9 rfl) rfl ?_
      refine OL.pure (Pure.min rfl rfl) rfl ?_
      refine OL.pure (Pure.sliceTo (l := a) (q := min a.length 50) Tryd.underlying9 rfl rfl (by omega) (by omega)) rfl ?_
      refine OL.cast (.string (str (a.take 50))) 61 rfl (congrArg (fun z => Value.string (str z)) (take_min _ _)) ?_
      refine OL.pure (Pure.strAdd (l := (runTo st nb L (b.take 50) j)) (m := (a.take 50)) rfl rfl (by omega)) rfl ?_
      obtain ⟨s0, hs0⟩ : ∃ s0, s0 = (runTo st nb L (b.take 50) j) ++ a.take 50 := ⟨_, rfl⟩
      refine OL.cast (.string (str s0)) 62 rfl (by rw [hs0]) ?_
      have hsl : s0.length ≤ 952 := by rw [hs0, List.length_append]; omega
      refine OL.toBytes Tryd.underlying9 Tryd.underlying24 Tryd.underlying5 rfl rfl ?_
      intro v0 w14 hv0 hc14 ho_v0
      have hm_v0 : Mine w.heap.size v0 := Mine.new ho_v0 (by have := hC.size; omega)
      replace h1 := h1.chg0 hc14
      replace hC := hC.then_ hc14
      refine OL.pure (Pure.assign rfl) rfl ?_
      refine OL.nil ?_
      refine TE.seq ?_
      refine TE.seq ?_
      refine TE.region ?_
      refine OL.pure (Pure.assign rfl) rfl ?_
      refine OL.nil ?_
      refine TE.block ?_
      have hm_v := hm_v0
      refine TE.loopInv (σ := Nat × List UInt8) [1, 6, 7] (fun s_ w_ => match s_ with | (i, s) => i ≤ 3 ∧ i ≤ ts.length ∧ i ≤ cs.length ∧ s.length = s0.length ∧ ((ts.length = 0 ∨ cs.length = 0) → s = s0) ∧ Row w_ 5 1 v0 s0.length (bv s) ∧ Chg [] w w_ ∧ Blk w_ g1 27 (runCells st nb (.slice A L.length ca) b a (.slice T ts.length ct) (.slice B cs.length cb) cut)) (fun s_ => [(1, .pointer (some ⟨g1, 0, none⟩)), (6, v0), (7, .int .i64 (↑s_.1))]) (fun s_ => 3 - s_.1) (0, s0) ⟨by omega, by omega, by omega, rfl, fun _ => rfl, hv0, hC, h1⟩ rfl ?_
      rintro ⟨i, s⟩ w15 ⟨hi, hit, hic, hsn, hsame, hv, hC, h1⟩ ih15
      try dsimp only
      by_cases hb68 : i < ts.length
      ·
        by_cases hb74 : i < cs.length
        ·
          by_cases hb78 : i < 3
          ·
            by_cases hb83 : 0 < s0.length
            ·
              obtain ⟨gT, oT, rfl, hcT⟩ := hT i (by omega)
              obtain ⟨gB, oB, rfl, hcB⟩ := hB i (by omega)
              have htb := hts (ts.getD i 0) (by simp [List.getD, hb68])
              obtain ⟨gv, cap, vs, rfl, hvb, hvc, hvl, hvt⟩ := hv.form (by omega)
              rw [Nat.mul_one] at hvt hvl
              have hgv := hm_v gv (by simp [own])
              have h1v : g1 ≠ gv := fun h => by subst h; exact absurd (h1.same hvb) (by decide)
              obtain ⟨k, hk⟩ : ∃ k, k = (ts.getD i 0).toNat % s0.length := ⟨_, rfl⟩
              have hkl : k < s0.length := by rw [hk]; exact Nat.mod_lt _ (by omega)
              have hkc : k < vs.length := by omega
              obtain ⟨x, hx⟩ : ∃ x, x = s.getD k 0 ^^^ cs.getD i 0 := ⟨_, rfl⟩
              refine TE.seq ?_
              refine TE.seq ?_
              refine TE.region ?_
              refine OL.pure (Pure.move rfl) rfl ?_
              refine OL.pure (Pure.fieldAddr (r := 5) Tryd.runUnderlying27 rfl Tryd.sizeOf23 rfl rfl) rfl ?_
              refine OL.val (Run.load (i := 5) rfl Tryd.isAgg23 h1 (by omega) rfl) rfl ?_
              refine OL.pure (Pure.lenSlice Tryd.runUnderlying23 rfl) rfl ?_
              refine OL.pure (Pure.lss rfl rfl) rfl ?_
              refine OL.cast (.bool true) 68 rfl (congrArg Value.bool (decide_eq_true (by omega))) ?_
              refine OL.pure (Pure.move rfl) rfl ?_
              refine OL.want rfl rfl rfl (Pure.move rfl _) rfl ?_
              refine OL.want rfl rfl rfl (Pure.fieldAddr (r := 6) Tryd.runUnderlying27 rfl Tryd.sizeOf24 rfl rfl _) rfl ?_
              refine OL.want rfl rfl rfl (Run.load (i := 6) rfl Tryd.isAgg24 h1 (by omega) rfl) rfl ?_
              refine OL.want rfl rfl rfl (Pure.lenSlice Tryd.runUnderlying24 rfl _) rfl ?_
              refine OL.want rfl rfl rfl (Pure.lss rfl rfl _) rfl ?_
              refine OL.cast (.bool true) 74 rfl (congrArg Value.bool (decide_eq_true (by omega))) ?_
              refine OL.pure (Pure.pickT rfl rfl) rfl ?_
              refine OL.pure (Pure.move rfl) rfl ?_
              refine OL.want rfl rfl rfl (Pure.move rfl _) rfl ?_
              refine OL.want rfl rfl rfl (Pure.lss rfl rfl _) rfl ?_
              refine OL.cast (.bool true) 78 rfl (congrArg Value.bool (decide_eq_true (by omega))) ?_
              refine OL.pure (Pure.pickT rfl rfl) rfl ?_
              refine OL.pure (Pure.move rfl) rfl ?_
              refine OL.want rfl rfl rfl (Pure.move rfl _) rfl ?_
              refine OL.want rfl rfl rfl (Pure.lenSlice Tryd.runUnderlying24 rfl _) rfl ?_
              refine OL.want rfl rfl rfl (Pure.gtr rfl rfl _) rfl ?_
              refine OL.cast (.bool true) 83 rfl (congrArg Value.bool (decide_eq_true (by omega))) ?_
              refine OL.pure (Pure.pickT rfl rfl) rfl ?_
              refine OL.nil ?_
              refine TE.condT rfl rfl ?_
              refine TE.skip ?_
              refine TE.seq ?_
              refine TE.block ?_
              refine TE.plan 19 (.cons (0, true) (.cons (1, true) (.cons (2, true) (.cons (3, true) (.cons (4, true) (.cons (5, true) (.cons (6, true) (.cons (7, true) (.cons (8, true) (.cons (9, true) (.cons (10, true) (.cons (11, true) (.cons (12, true) (.cons (13, true) (.cons (14, true) (.cons (15, true) (.cons (16, true) (.cons (17, true) (.cons (18, true) .nil))))))))))))))))))) (fun w_ => Chg [] w15 w_) rfl (by kernel_rfl) rfl ?_
              have hS16 : Chg [] w15 w15.drew := Chg.drew _ _
              replace h1 := h1.chg0 hS16
              replace hvb := hvb.chg0 hS16
              replace hC := hC.then_ hS16
              refine PL.takeP rfl (Pure.move rfl) rfl hS16 ?_
              refine PL.takeP rfl (Pure.fieldAddr (r := 5) Tryd.runUnderlying27 rfl Tryd.sizeOf23 rfl rfl) rfl hS16 ?_
              refine PL.takeS (fun w_ => Chg [] w15.drew w_) (fun _ h_ => hS16.then_ h_) rfl (fun w_ h_ => Run.load (i := 5) rfl Tryd.isAgg23 (h1.chg0 h_) (by omega) rfl) rfl (Chg.refl _ _) ?_
              have hP17 : Chg [] w15.drew w15.drew := Chg.refl _ _
              refine PL.takeP rfl (Pure.move rfl) rfl hP17 ?_
              refine PL.takeP rfl (Pure.indexAddrS (r := oT + i) Tryd.runUnderlying23 Tryd.sizeOf25 rfl rfl (by omega) (by omega) (by omega)) rfl hP17 ?_
              refine PL.takeS (fun w_ => Chg [] w15.drew w_) (fun _ h_ => hP17.then_ h_) rfl (fun w_ h_ => Run.loadCell rfl Tryd.isAgg25 (cell_chg hcT (hC.then_ h_) (by simp))) rfl (Chg.refl _ _) ?_
              have hP18 : Chg [] w15.drew w15.drew := Chg.refl _ _
              refine PL.takeP rfl (Pure.conv Tryd.runUnderlying25 Tryd.runUnderlying3 rfl (i64in (by omega) (by omega))) rfl hP18 ?_
              refine PL.takeP rfl (Pure.move rfl) rfl hP18 ?_
              refine PL.takeP rfl (Pure.lenSlice Tryd.runUnderlying24 rfl) rfl hP18 ?_
              refine PL.takeP rfl (Pure.rem rfl rfl (by omega) (by omega)) rfl hP18 ?_
              refine PL.cast (.int .i64 (k : Int)) 96 rfl (congrArg (Value.int .i64) (by rw [hk, Int.natCast_emod]; congr 1; omega)) ?_
              refine PL.takeP rfl (Pure.indexAddrS (r := k) Tryd.runUnderlying24 Tryd.sizeOf5 rfl rfl (by omega) (by omega) (by omega)) rfl hP18 ?_
              refine PL.takeS (fun w_ => Chg [] w15.drew w_) (fun _ h_ => hP18.then_ h_) rfl (fun w_ h_ => Run.load (i := k) rfl Tryd.isAgg5 (hvb.chg0 h_) (by omega) (blk_get hvt (by omega))) rfl (Chg.refl _ _) ?_
              have hP19 : Chg [] w15.drew w15.drew := Chg.refl _ _
              refine PL.takeP rfl (Pure.fieldAddr (r := 6) Tryd.runUnderlying27 rfl Tryd.sizeOf24 rfl rfl) rfl hP19 ?_
              refine PL.takeS (fun w_ => Chg [] w15.drew w_) (fun _ h_ => hP19.then_ h_) rfl (fun w_ h_ => Run.load (i := 6) rfl Tryd.isAgg24 (h1.chg0 h_) (by omega) rfl) rfl (Chg.refl _ _) ?_
              have hP20 : Chg [] w15.drew w15.drew := Chg.refl _ _
              refine PL.takeP rfl (Pure.move rfl) rfl hP20 ?_
              refine PL.takeP rfl (Pure.indexAddrS (r := oB + i) Tryd.runUnderlying24 Tryd.sizeOf5 rfl rfl (by omega) (by omega) (by omega)) rfl hP20 ?_
              refine PL.takeS (fun w_ => Chg [] w15.drew w_) (fun _ h_ => hP20.then_ h_) rfl (fun w_ h_ => Run.loadCell rfl Tryd.isAgg5 (cell_chg hcB (hC.then_ h_) (by simp))) rfl (Chg.refl _ _) ?_
              have hP21 : Chg [] w15.drew w15.drew := Chg.refl _ _
              refine PL.takeP rfl (Pure.bits rfl rfl rfl) rfl hP21 ?_
              refine PL.cast (.int .u8 ((x.toNat : Nat) : Int)) 104 rfl (by rw [hx]; exact congrArg (Value.int .u8) (u8xor8 _ _)) ?_
              refine PL.takeP rfl (Pure.indexAddrS (r := k) Tryd.runUnderlying24 Tryd.sizeOf5 rfl rfl (by omega) (by omega) (by omega)) rfl hP21 ?_
              refine PL.nilTail ?_
              refine OL.store (j := k) rfl rfl Tryd.sizeOf5 rfl hvb (by omega) (blk_get hvt (by omega)) ?_
              intro w22 hb22 hc22
              replace h1 := h1.chg hc22 (by simp; exact h1v)
              replace hC := hC.trans1 hc22 (by first | exact .inr (by omega) | exact .inl (by simp))
              replace hvb := hb22
              refine OL.nil ?_
              replace hvt := take_set (j := k) hvt x
              have hv2 : Row w22 5 1 (.slice (some ⟨gv, 0, none⟩) s0.length cap) s0.length (bv (s.set k x)) := ⟨by rw [bv_len, List.length_set]; omega, .inr ⟨gv, cap, _, rfl, hvb, hvc, by rw [List.length_set]; omega, by rw [Nat.mul_one]; exact hvt⟩⟩
              refine TE.inBlock ?_
              refine TE.region ?_
              refine OL.pure (Pure.move rfl) rfl ?_
              refine OL.pure (Pure.add rfl rfl (i64 (by omega) (by omega))) rfl ?_
              refine OL.pure (Pure.assign rfl) rfl ?_
              refine OL.nil ?_
              exact TE.sub [1, 6, 7] rfl (ih15 (i + 1, s.set k x) _ ⟨by omega, by omega, by omega, by rw [List.length_set]; exact hsn, fun h => by omega, hv2, hC, h1⟩ (by simp only []; omega))
            ·
              refine TE.seq ?_
              refine TE.seq ?_
              refine TE.region ?_
              refine OL.pure (Pure.move rfl) rfl ?_
              refine OL.pure (Pure.fieldAddr (r := 5) Tryd.runUnderlying27 rfl Tryd.sizeOf23 rfl rfl) rfl ?_
              refine OL.val (Run.load (i := 5) rfl Tryd.isAgg23 h1 (by omega) rfl) rfl ?_
              refine OL.pure (Pure.lenSlice Tryd.runUnderlying23 rfl) rfl ?_
              refine OL.pure (Pure.lss rfl rfl) rfl ?_
              refine OL.cast (.bool true) 68 rfl (congrArg Value.bool (decide_eq_true (by omega))) ?_
              refine OL.pure (Pure.move rfl) rfl ?_
              refine OL.want rfl rfl rfl (Pure.move rfl _) rfl ?_
              refine OL.want rfl rfl rfl (Pure.fieldAddr (r := 6) Tryd.runUnderlying27 rfl Tryd.sizeOf24 rfl rfl _) rfl ?_
              refine OL.want rfl rfl rfl (Run.load (i := 6) rfl Tryd.isAgg24 h1 (by omega) rfl) rfl ?_
              refine OL.want rfl rfl rfl (Pure.lenSlice Tryd.runUnderlying24 rfl _) rfl ?_
              refine OL.want rfl rfl rfl (Pure.lss rfl rfl _) rfl ?_
              refine OL.cast (.bool true) 74 rfl (congrArg Value.bool (decide_eq_true (by omega))) ?_
              refine OL.pure (Pure.pickT rfl rfl) rfl ?_
              refine OL.pure (Pure.move rfl) rfl ?_
              refine OL.want rfl rfl rfl (Pure.move rfl _) rfl ?_
              refine OL.want rfl rfl rfl (Pure.lss rfl rfl _) rfl ?_
              refine OL.cast (.bool true) 78 rfl (congrArg Value.bool (decide_eq_true (by omega))) ?_
              refine OL.pure (Pure.pickT rfl rfl) rfl ?_
              refine OL.pure (Pure.move rfl) rfl ?_
              refine OL.want rfl rfl rfl (Pure.move rfl _) rfl ?_
              refine OL.want rfl rfl rfl (Pure.lenRow Tryd.runUnderlying24 rfl hv _) rfl ?_
              refine OL.want rfl rfl rfl (Pure.gtr rfl rfl _) rfl ?_
              refine OL.cast (.bool false) 83 rfl (congrArg Value.bool (decide_eq_false (by omega))) ?_
              refine OL.pure (Pure.pickT rfl rfl) rfl ?_
              refine OL.nil ?_
              refine TE.condF rfl rfl ?_
              refine TE.exit rfl ?_
              refine TE.seq ?_
              refine TE.region ?_
              refine OL.pure (Pure.move rfl) rfl ?_
              refine OL.pure (Pure.move rfl) rfl ?_
              refine OL.pure (Pure.lenRow Tryd.runUnderlying24 rfl hv) rfl ?_
              refine OL.pure (Pure.fieldAddr (r := 7) Tryd.runUnderlying27 rfl Tryd.sizeOf25 rfl rfl) rfl ?_
              refine OL.val (Run.load (i := 7) rfl Tryd.isAgg25 h1 (by omega) rfl) rfl ?_
              refine OL.pure (Pure.conv Tryd.runUnderlying25 Tryd.runUnderlying3 rfl (i64in (by omega) (by omega))) rfl ?_
              refine OL.pure (Pure.move rfl) rfl ?_
              refine OL.pure (Pure.lenRow Tryd.runUnderlying24 rfl hv) rfl ?_
              refine OL.pure (Pure.min rfl rfl) rfl ?_
              obtain ⟨q, hq⟩ : ∃ q, q = min cut s0.length := ⟨_, rfl⟩
              refine OL.cast (.int .i64 (q : Int)) 114 rfl (congrArg (Value.int .i64) (by omega)) ?_
              refine OL.pure (Pure.sub rfl rfl (i64 (by omega) (by omega))) rfl ?_
              obtain ⟨A9, c9, rfl, hle9⟩ := hv.shape
              obtain ⟨z, hz⟩ : ∃ z, z = s0.length - q := ⟨_, rfl⟩
              refine OL.cast (.int .i64 (z : Int)) 115 rfl (congrArg (Value.int .i64) (by omega)) ?_
              refine OL.pure (Pure.sliceSlTo' (q := z) Tryd.runUnderlying24 Tryd.sizeOf5 rfl rfl rfl (by omega)) rfl ?_
              have hv9 := hv.takeTo (q := z) (by omega)
              rw [show (bv s).take z = bv (s.take z) from by simp [bv, List.map_take]] at hv9
              refine OL.val (Run.rowStr Tryd.underlying24 Tryd.underlying5 Tryd.underlying9 rfl hv9) rfl ?_
              refine OL.pure (Pure.assign rfl) rfl ?_
              refine OL.nil ?_
              exact TE.ret (vs := [.string (str (s.take z))]) Tryd.results12 (⟨rfl, trivial⟩) ⟨_, rfl, by simp; omega, fun hn hc => by rw [hsame hn, List.take_of_length_le (by omega), hs0, hjm], hC⟩
          ·
            refine TE.seq ?_
            refine TE.seq ?_
            refine TE.region ?_
            refine OL.pure (Pure.move rfl) rfl ?_
            refine OL.pure (Pure.fieldAddr (r := 5) Tryd.runUnderlying27 rfl Tryd.sizeOf23 rfl rfl) rfl ?_
            refine OL.val (Run.load (i := 5) rfl Tryd.isAgg23 h1 (by omega) rfl) rfl ?_
            refine OL.pure (Pure.lenSlice Tryd.runUnderlying23 rfl) rfl ?_
            refine OL.pure (Pure.lss rfl rfl) rfl ?_
            refine OL.cast (.bool true) 68 rfl (congrArg Value.bool (decide_eq_true (by omega))) ?_
            refine OL.pure (Pure.move rfl) rfl ?_
            refine OL.want rfl rfl rfl (Pure.move rfl _) rfl ?_
            refine OL.want rfl rfl rfl (Pure.fieldAddr (r := 6) Tryd.runUnderlying27 rfl Tryd.sizeOf24 rfl rfl _) rfl ?_
            refine OL.want rfl rfl rfl (Run.load (i := 6) rfl Tryd.isAgg24 h1 (by omega) rfl) rfl ?_
            refine OL.want rfl rfl rfl (Pure.lenSlice Tryd.runUnderlying24 rfl _) rfl ?_
            refine OL.want rfl rfl rfl (Pure.lss rfl rfl _) rfl ?_
            refine OL.cast (.bool true) 74 rfl (congrArg Value.bool (decide_eq_true (by omega))) ?_
            refine OL.pure (Pure.pickT rfl rfl) rfl ?_
            refine OL.pure (Pure.move rfl) rfl ?_
            refine OL.want rfl rfl rfl (Pure.move rfl _) rfl ?_
            refine OL.want rfl rfl rfl (Pure.lss rfl rfl _) rfl ?_
            refine OL.cast (.bool false) 78 rfl (congrArg Value.bool (decide_eq_false (by omega))) ?_
            refine OL.pure (Pure.pickT rfl rfl) rfl ?_
            refine OL.pure (Pure.move rfl) rfl ?_
            refine OL.pass rfl rfl rfl rfl rfl ?_
            refine OL.pass rfl rfl rfl rfl rfl ?_
            refine OL.pass rfl rfl rfl rfl rfl ?_
            refine OL.pure (Pure.pickF rfl rfl) rfl ?_
            refine OL.nil ?_
            refine TE.condF rfl rfl ?_
            refine TE.exit rfl ?_
            refine TE.seq ?_
            refine TE.region ?_
            refine OL.pure (Pure.move rfl) rfl ?_
            refine OL.pure (Pure.move rfl) rfl ?_
            refine OL.pure (Pure.lenRow Tryd.runUnderlying24 rfl hv) rfl ?_
            refine OL.pure (Pure.fieldAddr (r := 7) Tryd.runUnderlying27 rfl Tryd.sizeOf25 rfl rfl) rfl ?_
            refine OL.val (Run.load (i := 7) rfl Tryd.isAgg25 h1 (by omega) rfl) rfl ?_
            refine OL.pure (Pure.conv Tryd.runUnderlying25 Tryd.runUnderlying3 rfl (i64in (by omega) (by omega))) rfl ?_
            refine OL.pure (Pure.move rfl) rfl ?_
            refine OL.pure (Pure.lenRow Tryd.runUnderlying24 rfl hv) rfl ?_
            refine OL.pure (Pure.min rfl rfl) rfl ?_
            obtain ⟨q, hq⟩ : ∃ q, q = min cut s0.length := ⟨_, rfl⟩
            refine OL.cast (.int .i64 (q : Int)) 114 rfl (congrArg (Value.int .i64) (by omega)) ?_
            refine OL.pure (Pure.sub rfl rfl (i64 (by omega) (by omega))) rfl ?_
            obtain ⟨A9, c9, rfl, hle9⟩ := hv.shape
            obtain ⟨z, hz⟩ : ∃ z, z = s0.length - q := ⟨_, rfl⟩
            refine OL.cast (.int .i64 (z : Int)) 115 rfl (congrArg (Value.int .i64) (by omega)) ?_
            refine OL.pure (Pure.sliceSlTo' (q := z) Tryd.runUnderlying24 Tryd.sizeOf5 rfl rfl rfl (by omega)) rfl ?_
            have hv9 := hv.takeTo (q := z) (by omega)
            rw [show (bv s).take z = bv (s.take z) from by simp [bv, List.map_take]] at hv9
            refine OL.val (Run.rowStr Tryd.underlying24 Tryd.underlying5 Tryd.underlying9 rfl hv9) rfl ?_
            refine OL.pure (Pure.assign rfl) rfl ?_
            refine OL.nil ?_
            exact TE.ret (vs := [.string (str (s.take z))]) Tryd.results12 (⟨rfl, trivial⟩) ⟨_, rfl, by simp; omega, fun hn hc => by rw [hsame hn, List.take_of_length_le (by omega), hs0, hjm], hC⟩
        ·
          refine TE.seq ?_
          refine TE.seq ?_
          refine TE.region ?_
          refine OL.pure (Pure.move rfl) rfl ?_
          refine OL.pure (Pure.fieldAddr (r := 5) Tryd.runUnderlying27 rfl Tryd.sizeOf23 rfl rfl) rfl ?_
          refine OL.val (Run.load (i := 5) rfl Tryd.isAgg23 h1 (by omega) rfl) rfl ?_
          refine OL.pure (Pure.lenSlice Tryd.runUnderlying23 rfl) rfl ?_
          refine OL.pure (Pure.lss rfl rfl) rfl ?_
          refine OL.cast (.bool true) 68 rfl (congrArg Value.bool (decide_eq_true (by omega))) ?_
          refine OL.pure (Pure.move rfl) rfl ?_
          refine OL.want rfl rfl rfl (Pure.move rfl _) rfl ?_
          refine OL.want rfl rfl rfl (Pure.fieldAddr (r := 6) Tryd.runUnderlying27 rfl Tryd.sizeOf24 rfl rfl _) rfl ?_
          refine OL.want rfl rfl rfl (Run.load (i := 6) rfl Tryd.isAgg24 h1 (by omega) rfl) rfl ?_
          refine OL.want rfl rfl rfl (Pure.lenSlice Tryd.runUnderlying24 rfl _) rfl ?_
          refine OL.want rfl rfl rfl (Pure.lss rfl rfl _) rfl ?_
          refine OL.cast (.bool false) 74 rfl (congrArg Value.bool (decide_eq_false (by omega))) ?_
          refine OL.pure (Pure.pickT rfl rfl) rfl ?_
          refine OL.pure (Pure.move rfl) rfl ?_
          refine OL.pass rfl rfl rfl rfl rfl ?_
          refine OL.pass rfl rfl rfl rfl rfl ?_
          refine OL.pure (Pure.pickF rfl rfl) rfl ?_
          refine OL.pure (Pure.move rfl) rfl ?_
          refine OL.pass rfl rfl rfl rfl rfl ?_
          refine OL.pass rfl rfl rfl rfl rfl ?_
          refine OL.pass rfl rfl rfl rfl rfl ?_
          refine OL.pure (Pure.pickF rfl rfl) rfl ?_
          refine OL.nil ?_
          refine TE.condF rfl rfl ?_
          refine TE.exit rfl ?_
          refine TE.seq ?_
          refine TE.region ?_
          refine OL.pure (Pure.move rfl) rfl ?_
          refine OL.pure (Pure.move rfl) rfl ?_
          refine OL.pure (Pure.lenRow Tryd.runUnderlying24 rfl hv) rfl ?_
          refine OL.pure (Pure.fieldAddr (r := 7) Tryd.runUnderlying27 rfl Tryd.sizeOf25 rfl rfl) rfl ?_
          refine OL.val (Run.load (i := 7) rfl Tryd.isAgg25 h1 (by omega) rfl) rfl ?_
          refine OL.pure (Pure.conv Tryd.runUnderlying25 Tryd.runUnderlying3 rfl (i64in (by omega) (by omega))) rfl ?_
          refine OL.pure (Pure.move rfl) rfl ?_
          refine OL.pure (Pure.lenRow Tryd.runUnderlying24 rfl hv) rfl ?_
          refine OL.pure (Pure.min rfl rfl) rfl ?_
          obtain ⟨q, hq⟩ : ∃ q, q = min cut s0.length := ⟨_, rfl⟩
          refine OL.cast (.int .i64 (q : Int)) 114 rfl (congrArg (Value.int .i64) (by omega)) ?_
          refine OL.pure (Pure.sub rfl rfl (i64 (by omega) (by omega))) rfl ?_
          obtain ⟨A9, c9, rfl, hle9⟩ := hv.shape
          obtain ⟨z, hz⟩ : ∃ z, z = s0.length - q := ⟨_, rfl⟩
          refine OL.cast (.int .i64 (z : Int)) 115 rfl (congrArg (Value.int .i64) (by omega)) ?_
          refine OL.pure (Pure.sliceSlTo' (q := z) Tryd.runUnderlying24 Tryd.sizeOf5 rfl rfl rfl (by omega)) rfl ?_
          have hv9 := hv.takeTo (q := z) (by omega)
          rw [show (bv s).take z = bv (s.take z) from by simp [bv, List.map_take]] at hv9
          refine OL.val (Run.rowStr Tryd.underlying24 Tryd.underlying5 Tryd.underlying9 rfl hv9) rfl ?_
          refine OL.pure (Pure.assign rfl) rfl ?_
          refine OL.nil ?_
          exact TE.ret (vs := [.string (str (s.take z))]) Tryd.results12 (⟨rfl, trivial⟩) ⟨_, rfl, by simp; omega, fun hn hc => by rw [hsame hn, List.take_of_length_le (by omega), hs0, hjm], hC⟩
      ·
        refine TE.seq ?_
        refine TE.seq ?_
        refine TE.region ?_
        refine OL.pure (Pure.move rfl) rfl ?_
        refine OL.pure (Pure.fieldAddr (r := 5) Tryd.runUnderlying27 rfl Tryd.sizeOf23 rfl rfl) rfl ?_
        refine OL.val (Run.load (i := 5) rfl Tryd.isAgg23 h1 (by omega) rfl) rfl ?_
        refine OL.pure (Pure.lenSlice Tryd.runUnderlying23 rfl) rfl ?_
        refine OL.pure (Pure.lss rfl rfl) rfl ?_
        refine OL.cast (.bool false) 68 rfl (congrArg Value.bool (decide_eq_false (by omega))) ?_
        refine OL.pure (Pure.move rfl) rfl ?_
        refine OL.pass rfl rfl rfl rfl rfl ?_
        refine OL.pass rfl rfl rfl rfl rfl ?_
        refine OL.pass rfl rfl rfl rfl rfl ?_
        refine OL.pass rfl rfl rfl rfl rfl ?_
        refine OL.pass rfl rfl rfl rfl rfl ?_
        refine OL.pure (Pure.pickF rfl rfl) rfl ?_
        refine OL.pure (Pure.move rfl) rfl ?_
        refine OL.pass rfl rfl rfl rfl rfl ?_
        refine OL.pass rfl rfl rfl rfl rfl ?_
        refine OL.pure (Pure.pickF rfl rfl) rfl ?_
        refine OL.pure (Pure.move rfl) rfl ?_
        refine OL.pass rfl rfl rfl rfl rfl ?_
        refine OL.pass rfl rfl rfl rfl rfl ?_
        refine OL.pass rfl rfl rfl rfl rfl ?_
        refine OL.pure (Pure.pickF rfl rfl) rfl ?_
        refine OL.nil ?_
        refine TE.condF rfl rfl ?_
        refine TE.exit rfl ?_
        refine TE.seq ?_
        refine TE.region ?_
        refine OL.pure (Pure.move rfl) rfl ?_
        refine OL.pure (Pure.move rfl) rfl ?_
        refine OL.pure (Pure.lenRow Tryd.runUnderlying24 rfl hv) rfl ?_
        refine OL.pure (Pure.fieldAddr (r := 7) Tryd.runUnderlying27 rfl Tryd.sizeOf25 rfl rfl) rfl ?_
        refine OL.val (Run.load (i := 7) rfl Tryd.isAgg25 h1 (by omega) rfl) rfl ?_
        refine OL.pure (Pure.conv Tryd.runUnderlying25 Tryd.runUnderlying3 rfl (i64in (by omega) (by omega))) rfl ?_
        refine OL.pure (Pure.move rfl) rfl ?_
        refine OL.pure (Pure.lenRow Tryd.runUnderlying24 rfl hv) rfl ?_
        refine OL.pure (Pure.min rfl rfl) rfl ?_
        obtain ⟨q, hq⟩ : ∃ q, q = min cut s0.length := ⟨_, rfl⟩
        refine OL.cast (.int .i64 (q : Int)) 114 rfl (congrArg (Value.int .i64) (by omega)) ?_
        refine OL.pure (Pure.sub rfl rfl (i64 (by omega) (by omega))) rfl ?_
        obtain ⟨A9, c9, rfl, hle9⟩ := hv.shape
        obtain ⟨z, hz⟩ : ∃ z, z = s0.length - q := ⟨_, rfl⟩
        refine OL.cast (.int .i64 (z : Int)) 115 rfl (congrArg (Value.int .i64) (by omega)) ?_
        refine OL.pure (Pure.sliceSlTo' (q := z) Tryd.runUnderlying24 Tryd.sizeOf5 rfl rfl rfl (by omega)) rfl ?_
        have hv9 := hv.takeTo (q := z) (by omega)
        rw [show (bv s).take z = bv (s.take z) from by simp [bv, List.map_take]] at hv9
        refine OL.val (Run.rowStr Tryd.underlying24 Tryd.underlying5 Tryd.underlying9 rfl hv9) rfl ?_
        refine OL.pure (Pure.assign rfl) rfl ?_
        refine OL.nil ?_
        exact TE.ret (vs := [.string (str (s.take z))]) Tryd.results12 (⟨rfl, trivial⟩) ⟨_, rfl, by simp; omega, fun hn hc => by rw [hsame hn, List.take_of_length_le (by omega), hs0, hjm], hC⟩
  ·
    have hjm : j = min 6 L.length := by omega
    have hrl := runTo_len st nb L (b.take 50) j
    have hbl : (b.take 50).length ≤ 50 := by simp; omega
    have hal : (a.take 50).length ≤ 50 := by simp; omega
    refine TE.seq ?_
    refine TE.seq ?_
    refine TE.region ?_
    refine OL.pure (Pure.move rfl) rfl ?_
    refine OL.pure (Pure.fieldAddr (r := 2) Tryd.runUnderlying27 rfl Tryd.sizeOf22 rfl rfl) rfl ?_
    refine OL.val (Run.load (i := 2) rfl Tryd.isAgg22 h1 (by omega) rfl) rfl ?_
    refine OL.pure (Pure.lenSlice Tryd.runUnderlying22 rfl) rfl ?_
    refine OL.pure (Pure.lss rfl rfl) rfl ?_
    refine OL.cast (.bool false) 19 rfl (congrArg Value.bool (decide_eq_false (by omega))) ?_
    refine OL.pure (Pure.move rfl) rfl ?_
    refine OL.pass rfl rfl rfl rfl rfl ?_
    refine OL.pass rfl rfl rfl rfl rfl ?_
    refine OL.pure (Pure.pickF rfl rfl) rfl ?_
    refine OL.nil ?_
    refine TE.condF rfl rfl ?_
    refine TE.exit rfl ?_
    refine TE.seq ?_
    refine TE.region ?_
    refine OL.pure (Pure.move rfl) rfl ?_
    refine OL.pure (Pure.fieldAddr (r := 4) Tryd.runUnderlying27 rfl Tryd.sizeOf9 rfl rfl) rfl ?_
    refine OL.val (Run.load (i := 4) rfl Tryd.isAgg9 h1 (by omega) rfl) rfl ?_
    refine OL.pure (Pure.fieldAddr (r := 4) Tryd.runUnderlying27 rfl Tryd.sizeOf9 rfl rfl) rfl ?_
    refine OL.val (Run.load (i := 4) rfl Tryd.isAgg9 h1 (by omega) rfl) rfl ?_
    refine OL.pure (Pure.lenStr Tryd.runUnderlying9 rfl) rfl ?_
    refine OL.pure (Pure.min rfl rfl) rfl ?_
    refine OL.pure (Pure.sliceTo (l := a) (q := min a.length 50) Tryd.underlying9 rfl rfl (by omega) (by omega)) rfl ?_
    refine OL.cast (.string (str (a.take 50))) 61 rfl (congrArg (fun z => Value.string (str z)) (take_min _ _)) ?_
    refine OL.pure (Pure.strAdd (l := (runTo st nb L (b.take 50) j)) (m := (a.take 50)) rfl rfl (by omega)) rfl ?_
    obtain ⟨s0, hs0⟩ : ∃ s0, s0 = (runTo st nb L (b.take 50) j) ++ a.take 50 := ⟨_, rfl⟩
    refine OL.cast (.string (str s0)) 62 rfl (by rw [hs0]) ?_
    have hsl : s0.length ≤ 952 := by rw [hs0, List.length_append]; omega
    refine OL.toBytes Tryd.underlying9 Tryd.underlying24 Tryd.underlying5 rfl rfl ?_
    intro v0 w23 hv0 hc23 ho_v0
    have hm_v0 : Mine w.heap.size v0 := Mine.new ho_v0 (by have := hC.size; omega)
    replace h1 := h1.chg0 hc23
    replace hC := hC.then_ hc23
    refine OL.pure (Pure.assign rfl) rfl ?_
    refine OL.nil ?_
    refine TE.seq ?_
    refine TE.seq ?_
    refine TE.region ?_
    refine OL.pure (Pure.assign rfl) rfl ?_
    refine OL.nil ?_
    refine TE.block ?_
    have hm_v := hm_v0
    refine TE.loopInv (σ := Nat × List UInt8) [1, 6, 7] (fun s_ w_ => match s_ with | (i, s) => i ≤ 3 ∧ i ≤ ts.length ∧ i ≤ cs.length ∧ s.length = s0.length ∧ ((ts.length = 0 ∨ cs.length = 0) → s = s0) ∧ Row w_ 5 1 v0 s0.length (bv s) ∧ Chg [] w w_ ∧ Blk w_ g1 27 (runCells st nb (.slice A L.length ca) b a (.slice T ts.length ct) (.slice B cs.length cb) cut)) (fun s_ => [(1, .pointer (some ⟨g1, 0, none⟩)), (6, v0), (7, .int .i64 (↑s_.1))]) (fun s_ => 3 - s_.1) (0, s0) ⟨by omega, by omega, by omega, rfl, fun _ => rfl, hv0, hC, h1⟩ rfl ?_
    rintro ⟨i, s⟩ w24 ⟨hi, hit, hic, hsn, hsame, hv, hC, h1⟩ ih24
    try dsimp only
    by_cases hb68 : i < ts.length
    ·
      by_cases hb74 : i < cs.length
      ·
        by_cases hb78 : i < 3
        ·
          by_cases hb83 : 0 < s0.length
          ·
            obtain ⟨gT, oT, rfl, hcT⟩ := hT i (by omega)
            obtain ⟨gB, oB, rfl, hcB⟩ := hB i (by omega)
            have htb := hts (ts.getD i 0) (by simp [List.getD, hb68])
            obtain ⟨gv, cap, vs, rfl, hvb, hvc, hvl, hvt⟩ := hv.form (by omega)
            rw [Nat.mul_one] at hvt hvl
            have hgv := hm_v gv (by simp [own])
            have h1v : g1 ≠ gv := fun h => by subst h; exact absurd (h1.same hvb) (by decide)
            obtain ⟨k, hk⟩ : ∃ k, k = (ts.getD i 0).toNat % s0.length := ⟨_, rfl⟩
            have hkl : k < s0.length := by rw [hk]; exact Nat.mod_lt _ (by omega)
            have hkc : k < vs.length := by omega
            obtain ⟨x, hx⟩ : ∃ x, x = s.getD k 0 ^^^ cs.getD i 0 := ⟨_, rfl⟩
            refine TE.seq ?_
            refine TE.seq ?_
            refine TE.region ?_
            refine OL.pure (Pure.move rfl) rfl ?_
            refine OL.pure (Pure.fieldAddr (r := 5) Tryd.runUnderlying27 rfl Tryd.sizeOf23 rfl rfl) rfl ?_
            refine OL.val (Run.load (i := 5) rfl Tryd.isAgg23 h1 (by omega) rfl) rfl ?_
            refine OL.pure (Pure.lenSlice Tryd.runUnderlying23 rfl) rfl ?_
            refine OL.pure (Pure.lss rfl rfl) rfl ?_
            refine OL.cast (.bool true) 68 rfl (congrArg Value.bool (decide_eq_true (by omega))) ?_
            refine OL.pure (Pure.move rfl) rfl ?_
            refine OL.want rfl rfl rfl (Pure.move rfl _) rfl ?_
            refine OL.want rfl rfl rfl (Pure.fieldAddr (r := 6) Tryd.runUnderlying27 rfl Tryd.sizeOf24 rfl rfl _) rfl ?_
            refine OL.want rfl rfl rfl (Run.load (i := 6) rfl Tryd.isAgg24 h1 (by omega) rfl) rfl ?_
            refine OL.want rfl rfl rfl (Pure.lenSlice Tryd.runUnderlying24 rfl _) rfl ?_
            refine OL.want rfl rfl rfl (Pure.lss rfl rfl _) rfl ?_
            refine OL.cast (.bool true) 74 rfl (congrArg Value.bool (decide_eq_true (by omega))) ?_
            refine OL.pure (Pure.pickT rfl rfl) rfl ?_
            refine OL.pure (Pure.move rfl) rfl ?_
            refine OL.want rfl rfl rfl (Pure.move rfl _) rfl ?_
            refine OL.want rfl rfl rfl (Pure.lss rfl rfl _) rfl ?_
            refine OL.cast (.bool true) 78 rfl (congrArg Value.bool (decide_eq_true (by omega))) ?_
            refine OL.pure (Pure.pickT rfl rfl) rfl ?_
            refine OL.pure (Pure.move rfl) rfl ?_
            refine OL.want rfl rfl rfl (Pure.move rfl _) rfl ?_
            refine OL.want rfl rfl rfl (Pure.lenSlice Tryd.runUnderlying24 rfl _) rfl ?_
            refine OL.want rfl rfl rfl (Pure.gtr rfl rfl _) rfl ?_
            refine OL.cast (.bool true) 83 rfl (congrArg Value.bool (decide_eq_true (by omega))) ?_
            refine OL.pure (Pure.pickT rfl rfl) rfl ?_
            refine OL.nil ?_
            refine TE.condT rfl rfl ?_
            refine TE.skip ?_
            refine TE.seq ?_
            refine TE.block ?_
            refine TE.plan 19 (.cons (0, true) (.cons (1, true) (.cons (2, true) (.cons (3, true) (.cons (4, true) (.cons (5, true) (.cons (6, true) (.cons (7, true) (.cons (8, true) (.cons (9, true) (.cons (10, true) (.cons (11, true) (.cons (12, true) (.cons (13, true) (.cons (14, true) (.cons (15, true) (.cons (16, true) (.cons (17, true) (.cons (18, true) .nil))))))))))))))))))) (fun w_ => Chg [] w24 w_) rfl (by kernel_rfl) rfl ?_
            have hS25 : Chg [] w24 w24.drew := Chg.drew _ _
            replace h1 := h1.chg0 hS25
            replace hvb := hvb.chg0 hS25
            replace hC := hC.then_ hS25
            refine PL.takeP rfl (Pure.move rfl) rfl hS25 ?_
            refine PL.takeP rfl (Pure.fieldAddr (r := 5) Tryd.runUnderlying27 rfl Tryd.sizeOf23 rfl rfl) rfl hS25 ?_
            refine PL.takeS (fun w_ => Chg [] w24.drew w_) (fun _ h_ => hS25.then_ h_) rfl (fun w_ h_ => Run.load (i := 5) rfl Tryd.isAgg23 (h1.chg0 h_) (by omega) rfl) rfl (Chg.refl _ _) ?_
            have hP26 : Chg [] w24.drew w24.drew := Chg.refl _ _
            refine PL.takeP rfl (Pure.move rfl) rfl hP26 ?_
            refine PL.takeP rfl (Pure.indexAddrS (r := oT + i) Tryd.runUnderlying23 Tryd.sizeOf25 rfl rfl (by omega) (by omega) (by omega)) rfl hP26 ?_
            refine PL.takeS (fun w_ => Chg [] w24.drew w_) (fun _ h_ => hP26.then_ h_) rfl (fun w_ h_ => Run.loadCell rfl Tryd.isAgg25 (cell_chg hcT (hC.then_ h_) (by simp))) rfl (Chg.refl _ _) ?_
            have hP27 : Chg [] w24.drew w24.drew := Chg.refl _ _
            refine PL.takeP rfl (Pure.conv Tryd.runUnderlying25 Tryd.runUnderlying3 rfl (i64in (by omega) (by omega))) rfl hP27 ?_
            refine PL.takeP rfl (Pure.move rfl) rfl hP27 ?_
            refine PL.takeP rfl (Pure.lenSlice Tryd.runUnderlying24 rfl) rfl hP27 ?_
            refine PL.takeP rfl (Pure.rem rfl rfl (by omega) (by omega)) rfl hP27 ?_
            refine PL.cast (.int .i64 (k : Int)) 96 rfl (congrArg (Value.int .i64) (by rw [hk, Int.natCast_emod]; congr 1; omega)) ?_
            refine PL.takeP rfl (Pure.indexAddrS (r := k) Tryd.runUnderlying24 Tryd.sizeOf5 rfl rfl (by omega) (by omega) (by omega)) rfl hP27 ?_
            refine PL.takeS (fun w_ => Chg [] w24.drew w_) (fun _ h_ => hP27.then_ h_) rfl (fun w_ h_ => Run.load (i := k) rfl Tryd.isAgg5 (hvb.chg0 h_) (by omega) (blk_get hvt (by omega))) rfl (Chg.refl _ _) ?_
            have hP28 : Chg [] w24.drew w24.drew := Chg.refl _ _
            refine PL.takeP rfl (Pure.fieldAddr (r := 6) Tryd.runUnderlying27 rfl Tryd.sizeOf24 rfl rfl) rfl hP28 ?_
            refine PL.takeS (fun w_ => Chg [] w24.drew w_) (fun _ h_ => hP28.then_ h_) rfl (fun w_ h_ => Run.load (i := 6) rfl Tryd.isAgg24 (h1.chg0 h_) (by omega) rfl) rfl (Chg.refl _ _) ?_
            have hP29 : Chg [] w24.drew w24.drew := Chg.refl _ _
            refine PL.takeP rfl (Pure.move rfl) rfl hP29 ?_
            refine PL.takeP rfl (Pure.indexAddrS (r := oB + i) Tryd.runUnderlying24 Tryd.sizeOf5 rfl rfl (by omega) (by omega) (by omega)) rfl hP29 ?_
            refine PL.takeS (fun w_ => Chg [] w24.drew w_) (fun _ h_ => hP29.then_ h_) rfl (fun w_ h_ => Run.loadCell rfl Tryd.isAgg5 (cell_chg hcB (hC.then_ h_) (by simp))) rfl (Chg.refl _ _) ?_
            have hP30 : Chg [] w24.drew w24.drew := Chg.refl _ _
            refine PL.takeP rfl (Pure.bits rfl rfl rfl) rfl hP30 ?_
            refine PL.cast (.int .u8 ((x.toNat : Nat) : Int)) 104 rfl (by rw [hx]; exact congrArg (Value.int .u8) (u8xor8 _ _)) ?_
            refine PL.takeP rfl (Pure.indexAddrS (r := k) Tryd.runUnderlying24 Tryd.sizeOf5 rfl rfl (by omega) (by omega) (by omega)) rfl hP30 ?_
            refine PL.nilTail ?_
            refine OL.store (j := k) rfl rfl Tryd.sizeOf5 rfl hvb (by omega) (blk_get hvt (by omega)) ?_
            intro w31 hb31 hc31
            replace h1 := h1.chg hc31 (by simp; exact h1v)
            replace hC := hC.trans1 hc31 (by first | exact .inr (by omega) | exact .inl (by simp))
            replace hvb := hb31
            refine OL.nil ?_
            replace hvt := take_set (j := k) hvt x
            have hv2 : Row w31 5 1 (.slice (some ⟨gv, 0, none⟩) s0.length cap) s0.length (bv (s.set k x)) := ⟨by rw [bv_len, List.length_set]; omega, .inr ⟨gv, cap, _, rfl, hvb, hvc, by rw [List.length_set]; omega, by rw [Nat.mul_one]; exact hvt⟩⟩
            refine TE.inBlock ?_
            refine TE.region ?_
            refine OL.pure (Pure.move rfl) rfl ?_
            refine OL.pure (Pure.add rfl rfl (i64 (by omega) (by omega))) rfl ?_
            refine OL.pure (Pure.assign rfl) rfl ?_
            refine OL.nil ?_
            exact TE.sub [1, 6, 7] rfl (ih24 (i + 1, s.set k x) _ ⟨by omega, by omega, by omega, by rw [List.length_set]; exact hsn, fun h => by omega, hv2, hC, h1⟩ (by simp only []; omega))
          ·
            refine TE.seq ?_
            refine TE.seq ?_
            refine TE.region ?_
            refine OL.pure (Pure.move rfl) rfl ?_
            refine OL.pure (Pure.fieldAddr (r := 5) Tryd.runUnderlying27 rfl Tryd.sizeOf23 rfl rfl) rfl ?_
            refine OL.val (Run.load (i := 5) rfl Tryd.isAgg23 h1 (by omega) rfl) rfl ?_
            refine OL.pure (Pure.lenSlice Tryd.runUnderlying23 rfl) rfl ?_
            refine OL.pure (Pure.lss rfl rfl) rfl ?_
            refine OL.cast (.bool true) 68 rfl (congrArg Value.bool (decide_eq_true (by omega))) ?_
            refine OL.pure (Pure.move rfl) rfl ?_
            refine OL.want rfl rfl rfl (Pure.move rfl _) rfl ?_
            refine OL.want rfl rfl rfl (Pure.fieldAddr (r := 6) Tryd.runUnderlying27 rfl Tryd.sizeOf24 rfl rfl _) rfl ?_
            refine OL.want rfl rfl rfl (Run.load (i := 6) rfl Tryd.isAgg24 h1 (by omega) rfl) rfl ?_
            refine OL.want rfl rfl rfl (Pure.lenSlice Tryd.runUnderlying24 rfl _) rfl ?_
            refine OL.want rfl rfl rfl (Pure.lss rfl rfl _) rfl ?_
            refine OL.cast (.bool true) 74 rfl (congrArg Value.bool (decide_eq_true (by omega))) ?_
            refine OL.pure (Pure.pickT rfl rfl) rfl ?_
            refine OL.pure (Pure.move rfl) rfl ?_
            refine OL.want rfl rfl rfl (Pure.move rfl _) rfl ?_
            refine OL.want rfl rfl rfl (Pure.lss rfl rfl _) rfl ?_
            refine OL.cast (.bool true) 78 rfl (congrArg Value.bool (decide_eq_true (by omega))) ?_
            refine OL.pure (Pure.pickT rfl rfl) rfl ?_
            refine OL.pure (Pure.move rfl) rfl ?_
            refine OL.want rfl rfl rfl (Pure.move rfl _) rfl ?_
            refine OL.want rfl rfl rfl (Pure.lenRow Tryd.runUnderlying24 rfl hv _) rfl ?_
            refine OL.want rfl rfl rfl (Pure.gtr rfl rfl _) rfl ?_
            refine OL.cast (.bool false) 83 rfl (congrArg Value.bool (decide_eq_false (by omega))) ?_
            refine OL.pure (Pure.pickT rfl rfl) rfl ?_
            refine OL.nil ?_
            refine TE.condF rfl rfl ?_
            refine TE.exit rfl ?_
            refine TE.seq ?_
            refine TE.region ?_
            refine OL.pure (Pure.move rfl) rfl ?_
            refine OL.pure (Pure.move rfl) rfl ?_
            refine OL.pure (Pure.lenRow Tryd.runUnderlying24 rfl hv) rfl ?_
            refine OL.pure (Pure.fieldAddr (r := 7) Tryd.runUnderlying27 rfl Tryd.sizeOf25 rfl rfl) rfl ?_
            refine OL.val (Run.load (i := 7) rfl Tryd.isAgg25 h1 (by omega) rfl) rfl ?_
            refine OL.pure (Pure.conv Tryd.runUnderlying25 Tryd.runUnderlying3 rfl (i64in (by omega) (by omega))) rfl ?_
            refine OL.pure (Pure.move rfl) rfl ?_
            refine OL.pure (Pure.lenRow Tryd.runUnderlying24 rfl hv) rfl ?_
            refine OL.pure (Pure.min rfl rfl) rfl ?_
            obtain ⟨q, hq⟩ : ∃ q, q = min cut s0.length := ⟨_, rfl⟩
            refine OL.cast (.int .i64 (q : Int)) 114 rfl (congrArg (Value.int .i64) (by omega)) ?_
            refine OL.pure (Pure.sub rfl rfl (i64 (by omega) (by omega))) rfl ?_
            obtain ⟨A9, c9, rfl, hle9⟩ := hv.shape
            obtain ⟨z, hz⟩ : ∃ z, z = s0.length - q := ⟨_, rfl⟩
            refine OL.cast (.int .i64 (z : Int)) 115 rfl (congrArg (Value.int .i64) (by omega)) ?_
            refine OL.pure (Pure.sliceSlTo' (q := z) Tryd.runUnderlying24 Tryd.sizeOf5 rfl rfl rfl (by omega)) rfl ?_
            have hv9 := hv.takeTo (q := z) (by omega)
            rw [show (bv s).take z = bv (s.take z) from by simp [bv, List.map_take]] at hv9
            refine OL.val (Run.rowStr Tryd.underlying24 Tryd.underlying5 Tryd.underlying9 rfl hv9) rfl ?_
            refine OL.pure (Pure.assign rfl) rfl ?_
            refine OL.nil ?_
            exact TE.ret (vs := [.string (str (s.take z))]) Tryd.results12 (⟨rfl, trivial⟩) ⟨_, rfl, by simp; omega, fun hn hc => by rw [hsame hn, List.take_of_length_le (by omega), hs0, hjm], hC⟩
        ·
          refine TE.seq ?_
          refine TE.seq ?_
          refine TE.region ?_
          refine OL.pure (Pure.move rfl) rfl ?_
          refine OL.pure (Pure.fieldAddr (r := 5) Tryd.runUnderlying27 rfl Tryd.sizeOf23 rfl rfl) rfl ?_
          refine OL.val (Run.load (i := 5) rfl Tryd.isAgg23 h1 (by omega) rfl) rfl ?_
          refine OL.pure (Pure.lenSlice Tryd.runUnderlying23 rfl) rfl ?_
          refine OL.pure (Pure.lss rfl rfl) rfl ?_
          refine OL.cast (.bool true) 68 rfl (congrArg Value.bool (decide_eq_true (by omega))) ?_
          refine OL.pure (Pure.move rfl) rfl ?_
          refine OL.want rfl rfl rfl (Pure.move rfl _) rfl ?_
          refine OL.want rfl rfl rfl (Pure.fieldAddr (r := 6) Tryd.runUnderlying27 rfl Tryd.sizeOf24 rfl rfl _) rfl ?_
          refine OL.want rfl rfl rfl (Run.load (i := 6) rfl Tryd.isAgg24 h1 (by omega) rfl) rfl ?_
          refine OL.want rfl rfl rfl (Pure.lenSlice Tryd.runUnderlying24 rfl _) rfl ?_
          refine OL.want rfl rfl rfl (Pure.lss rfl rfl _) rfl ?_
          refine OL.cast (.bool true) 74 rfl (congrArg Value.bool (decide_eq_true (by omega))) ?_
          refine OL.pure (Pure.pickT rfl rfl) rfl ?_
          refine OL.pure (Pure.move rfl) rfl ?_
          refine OL.want rfl rfl rfl (Pure.move rfl _) rfl ?_
          refine OL.want rfl rfl rfl (Pure.lss rfl rfl _) rfl ?_
          refine OL.cast (.bool false) 78 rfl (congrArg Value.bool (decide_eq_false (by omega))) ?_
          refine OL.pure (Pure.pickT rfl rfl) rfl ?_
          refine OL.pure (Pure.move rfl) rfl ?_
          refine OL.pass rfl rfl rfl rfl rfl ?_
          refine OL.pass rfl rfl rfl rfl rfl ?_
          refine OL.pass rfl rfl rfl rfl rfl ?_
          refine OL.pure (Pure.pickF rfl rfl) rfl ?_
          refine OL.nil ?_
          refine TE.condF rfl rfl ?_
          refine TE.exit rfl ?_
          refine TE.seq ?_
          refine TE.region ?_
          refine OL.pure (Pure.move rfl) rfl ?_
          refine OL.pure (Pure.move rfl) rfl ?_
          refine OL.pure (Pure.lenRow Tryd.runUnderlying24 rfl hv) rfl ?_
          refine OL.pure (Pure.fieldAddr (r := 7) Tryd.runUnderlying27 rfl Tryd.sizeOf25 rfl rfl) rfl ?_
          refine OL.val (Run.load (i := 7) rfl Tryd.isAgg25 h1 (by omega) rfl) rfl ?_
          refine OL.pure (Pure.conv Tryd.runUnderlying25 Tryd.runUnderlying3 rfl (i64in (by omega) (by omega))) rfl ?_
          refine OL.pure (Pure.move rfl) rfl ?_
          refine OL.pure (Pure.lenRow Tryd.runUnderlying24 rfl hv) rfl ?_
          refine OL.pure (Pure.min rfl rfl) rfl ?_
          obtain ⟨q, hq⟩ : ∃ q, q = min cut s0.length := ⟨_, rfl⟩
          refine OL.cast (.int .i64 (q : Int)) 114 rfl (congrArg (Value.int .i64) (by omega)) ?_
          refine OL.pure (Pure.sub rfl rfl (i64 (by omega) (by omega))) rfl ?_
          obtain ⟨A9, c9, rfl, hle9⟩ := hv.shape
          obtain ⟨z, hz⟩ : ∃ z, z = s0.length - q := ⟨_, rfl⟩
          refine OL.cast (.int .i64 (z : Int)) 115 rfl (congrArg (Value.int .i64) (by omega)) ?_
          refine OL.pure (Pure.sliceSlTo' (q := z) Tryd.runUnderlying24 Tryd.sizeOf5 rfl rfl rfl (by omega)) rfl ?_
          have hv9 := hv.takeTo (q := z) (by omega)
          rw [show (bv s).take z = bv (s.take z) from by simp [bv, List.map_take]] at hv9
          refine OL.val (Run.rowStr Tryd.underlying24 Tryd.underlying5 Tryd.underlying9 rfl hv9) rfl ?_
          refine OL.pure (Pure.assign rfl) rfl ?_
          refine OL.nil ?_
          exact TE.ret (vs := [.string (str (s.take z))]) Tryd.results12 (⟨rfl, trivial⟩) ⟨_, rfl, by simp; omega, fun hn hc => by rw [hsame hn, List.take_of_length_le (by omega), hs0, hjm], hC⟩
      ·
        refine TE.seq ?_
        refine TE.seq ?_
        refine TE.region ?_
        refine OL.pure (Pure.move rfl) rfl ?_
        refine OL.pure (Pure.fieldAddr (r := 5) Tryd.runUnderlying27 rfl Tryd.sizeOf23 rfl rfl) rfl ?_
        refine OL.val (Run.load (i := 5) rfl Tryd.isAgg23 h1 (by omega) rfl) rfl ?_
        refine OL.pure (Pure.lenSlice Tryd.runUnderlying23 rfl) rfl ?_
        refine OL.pure (Pure.lss rfl rfl) rfl ?_
        refine OL.cast (.bool true) 68 rfl (congrArg Value.bool (decide_eq_true (by omega))) ?_
        refine OL.pure (Pure.move rfl) rfl ?_
        refine OL.want rfl rfl rfl (Pure.move rfl _) rfl ?_
        refine OL.want rfl rfl rfl (Pure.fieldAddr (r := 6) Tryd.runUnderlying27 rfl Tryd.sizeOf24 rfl rfl _) rfl ?_
        refine OL.want rfl rfl rfl (Run.load (i := 6) rfl Tryd.isAgg24 h1 (by omega) rfl) rfl ?_
        refine OL.want rfl rfl rfl (Pure.lenSlice Tryd.runUnderlying24 rfl _) rfl ?_
        refine OL.want rfl rfl rfl (Pure.lss rfl rfl _) rfl ?_
        refine OL.cast (.bool false) 74 rfl (congrArg Value.bool (decide_eq_false (by omega))) ?_
        refine OL.pure (Pure.pickT rfl rfl) rfl ?_
        refine OL.pure (Pure.move rfl) rfl ?_
        refine OL.pass rfl rfl rfl rfl rfl ?_
        refine OL.pass rfl rfl rfl rfl rfl ?_
        refine OL.pure (Pure.pickF rfl rfl) rfl ?_
        refine OL.pure (Pure.move rfl) rfl ?_
        refine OL.pass rfl rfl rfl rfl rfl ?_
        refine OL.pass rfl rfl rfl rfl rfl ?_
        refine OL.pass rfl rfl rfl rfl rfl ?_
        refine OL.pure (Pure.pickF rfl rfl) rfl ?_
        refine OL.nil ?_
        refine TE.condF rfl rfl ?_
        refine TE.exit rfl ?_
        refine TE.seq ?_
        refine TE.region ?_
        refine OL.pure (Pure.move rfl) rfl ?_
        refine OL.pure (Pure.move rfl) rfl ?_
        refine OL.pure (Pure.lenRow Tryd.runUnderlying24 rfl hv) rfl ?_
        refine OL.pure (Pure.fieldAddr (r := 7) Tryd.runUnderlying27 rfl Tryd.sizeOf25 rfl rfl) rfl ?_
        refine OL.val (Run.load (i := 7) rfl Tryd.isAgg25 h1 (by omega) rfl) rfl ?_
        refine OL.pure (Pure.conv Tryd.runUnderlying25 Tryd.runUnderlying3 rfl (i64in (by omega) (by omega))) rfl ?_
        refine OL.pure (Pure.move rfl) rfl ?_
        refine OL.pure (Pure.lenRow Tryd.runUnderlying24 rfl hv) rfl ?_
        refine OL.pure (Pure.min rfl rfl) rfl ?_
        obtain ⟨q, hq⟩ : ∃ q, q = min cut s0.length := ⟨_, rfl⟩
        refine OL.cast (.int .i64 (q : Int)) 114 rfl (congrArg (Value.int .i64) (by omega)) ?_
        refine OL.pure (Pure.sub rfl rfl (i64 (by omega) (by omega))) rfl ?_
        obtain ⟨A9, c9, rfl, hle9⟩ := hv.shape
        obtain ⟨z, hz⟩ : ∃ z, z = s0.length - q := ⟨_, rfl⟩
        refine OL.cast (.int .i64 (z : Int)) 115 rfl (congrArg (Value.int .i64) (by omega)) ?_
        refine OL.pure (Pure.sliceSlTo' (q := z) Tryd.runUnderlying24 Tryd.sizeOf5 rfl rfl rfl (by omega)) rfl ?_
        have hv9 := hv.takeTo (q := z) (by omega)
        rw [show (bv s).take z = bv (s.take z) from by simp [bv, List.map_take]] at hv9
        refine OL.val (Run.rowStr Tryd.underlying24 Tryd.underlying5 Tryd.underlying9 rfl hv9) rfl ?_
        refine OL.pure (Pure.assign rfl) rfl ?_
        refine OL.nil ?_
        exact TE.ret (vs := [.string (str (s.take z))]) Tryd.results12 (⟨rfl, trivial⟩) ⟨_, rfl, by simp; omega, fun hn hc => by rw [hsame hn, List.take_of_length_le (by omega), hs0, hjm], hC⟩
    ·
      refine TE.seq ?_
      refine TE.seq ?_
      refine TE.region ?_
      refine OL.pure (Pure.move rfl) rfl ?_
      refine OL.pure (Pure.fieldAddr (r := 5) Tryd.runUnderlying27 rfl Tryd.sizeOf23 rfl rfl) rfl ?_
      refine OL.val (Run.load (i := 5) rfl Tryd.isAgg23 h1 (by omega) rfl) rfl ?_
      refine OL.pure (Pure.lenSlice Tryd.runUnderlying23 rfl) rfl ?_
      refine OL.pure (Pure.lss rfl rfl) rfl ?_
      refine OL.cast (.bool false) 68 rfl (congrArg Value.bool (decide_eq_false (by omega))) ?_
      refine OL.pure (Pure.move rfl) rfl ?_
      refine OL.pass rfl rfl rfl rfl rfl ?_
      refine OL.pass rfl rfl rfl rfl rfl ?_
      refine OL.pass rfl rfl rfl rfl rfl ?_
      refine OL.pass rfl rfl rfl rfl rfl ?_
      refine OL.pass rfl rfl rfl rfl rfl ?_
      refine OL.pure (Pure.pickF rfl rfl) rfl ?_
      refine OL.pure (Pure.move rfl) rfl ?_
      refine OL.pass rfl rfl rfl rfl rfl ?_
      refine OL.pass rfl rfl rfl rfl rfl ?_
      refine OL.pure (Pure.pickF rfl rfl) rfl ?_
      refine OL.pure (Pure.move rfl) rfl ?_
      refine OL.pass rfl rfl rfl rfl rfl ?_
      refine OL.pass rfl rfl rfl rfl rfl ?_
      refine OL.pass rfl rfl rfl rfl rfl ?_
      refine OL.pure (Pure.pickF rfl rfl) rfl ?_
      refine OL.nil ?_
      refine TE.condF rfl rfl ?_
      refine TE.exit rfl ?_
      refine TE.seq ?_
      refine TE.region ?_
      refine OL.pure (Pure.move rfl) rfl ?_
      refine OL.pure (Pure.move rfl) rfl ?_
      refine OL.pure (Pure.lenRow Tryd.runUnderlying24 rfl hv) rfl ?_
      refine OL.pure (Pure.fieldAddr (r := 7) Tryd.runUnderlying27 rfl Tryd.sizeOf25 rfl rfl) rfl ?_
      refine OL.val (Run.load (i := 7) rfl Tryd.isAgg25 h1 (by omega) rfl) rfl ?_
      refine OL.pure (Pure.conv Tryd.runUnderlying25 Tryd.runUnderlying3 rfl (i64in (by omega) (by omega))) rfl ?_
      refine OL.pure (Pure.move rfl) rfl ?_
      refine OL.pure (Pure.lenRow Tryd.runUnderlying24 rfl hv) rfl ?_
      refine OL.pure (Pure.min rfl rfl) rfl ?_
      obtain ⟨q, hq⟩ : ∃ q, q = min cut s0.length := ⟨_, rfl⟩
      refine OL.cast (.int .i64 (q : Int)) 114 rfl (congrArg (Value.int .i64) (by omega)) ?_
      refine OL.pure (Pure.sub rfl rfl (i64 (by omega) (by omega))) rfl ?_
      obtain ⟨A9, c9, rfl, hle9⟩ := hv.shape
      obtain ⟨z, hz⟩ : ∃ z, z = s0.length - q := ⟨_, rfl⟩
      refine OL.cast (.int .i64 (z : Int)) 115 rfl (congrArg (Value.int .i64) (by omega)) ?_
      refine OL.pure (Pure.sliceSlTo' (q := z) Tryd.runUnderlying24 Tryd.sizeOf5 rfl rfl rfl (by omega)) rfl ?_
      have hv9 := hv.takeTo (q := z) (by omega)
      rw [show (bv s).take z = bv (s.take z) from by simp [bv, List.map_take]] at hv9
      refine OL.val (Run.rowStr Tryd.underlying24 Tryd.underlying5 Tryd.underlying9 rfl hv9) rfl ?_
      refine OL.pure (Pure.assign rfl) rfl ?_
      refine OL.nil ?_
      exact TE.ret (vs := [.string (str (s.take z))]) Tryd.results12 (⟨rfl, trivial⟩) ⟨_, rfl, by simp; omega, fun hn hc => by rw [hsame hn, List.take_of_length_le (by omega), hs0, hjm], hC⟩

end Go.Proofs.YtigjmemoaapmgaaDoor
