/- Own, Back, short, NewReader, known, and frames compared, walked -/
import Derived.Test.YtigjmemoaapmgaaDoorProg
import Derived.Test.YtigjmemoaapmgaaDoorEng6
import Derived.Test.YtigjmemoaapmgaaDoorFrameSpec2
import Derived.Test.YtigjmemoaapmgaaDoorFrm1
import Derived.Test.YtigjmemoaapmgaaDoorFrm2
import Derived.Test.YtigjmemoaapmgaaDoorFrm3
import Derived.Test.YtigjmemoaapmgaaDoorFrm4
import Derived.Test.YtigjmemoaapmgaaDoorFrm5
set_option linter.unusedVariables false
set_option maxRecDepth 4000
namespace Go.Proofs.YtigjmemoaapmgaaDoor
open Go.V Go.Sha Go.Frm
def Tryd.frmField0 : Field := { name := "Kind", type := 3, offset := 0, embedded := false, tag := "", pkgPath := "", byteOffset := 0 }
def Tryd.frmField1 : Field := { name := "Stream", type := 3, offset := 1, embedded := false, tag := "", pkgPath := "", byteOffset := 8 }
def Tryd.frmField2 : Field := { name := "Number", type := 3, offset := 2, embedded := false, tag := "", pkgPath := "", byteOffset := 16 }
def Tryd.frmField3 : Field := { name := "Payload", type := 9, offset := 3, embedded := false, tag := "", pkgPath := "", byteOffset := 24 }
theorem frm_eq (a b : Fr) (w : World) : (Op.eqFields 9999 (Fr.cells a).toArray (Fr.cells b).toArray (Tryd.prog.fieldsOf 30).toList).run Tryd.prog w = .ok (frSame a b) w := by
  have hf : (Tryd.prog.fieldsOf 30).toList = [Tryd.frmField0, Tryd.frmField1, Tryd.frmField2, Tryd.frmField3] := by kernel_rfl
  rw [hf]
  exact (eqF_cons (f := Tryd.frmField0) (fs := [Tryd.frmField1, Tryd.frmField2, Tryd.frmField3]) (by decide) (part_cell Tryd.isAgg3 rfl) (part_cell Tryd.isAgg3 rfl) (eq_int Tryd.underlying3 9998 _ _) (eqF_cons (f := Tryd.frmField1) (fs := [Tryd.frmField2, Tryd.frmField3]) (by decide) (part_cell Tryd.isAgg3 rfl) (part_cell Tryd.isAgg3 rfl) (eq_int Tryd.underlying3 9998 _ _) (eqF_cons (f := Tryd.frmField2) (fs := [Tryd.frmField3]) (by decide) (part_cell Tryd.isAgg3 rfl) (part_cell Tryd.isAgg3 rfl) (eq_int Tryd.underlying3 9998 _ _) (eqF_cons (f := Tryd.frmField3) (fs := []) (by decide) (part_cell Tryd.isAgg9 rfl) (part_cell Tryd.isAgg9 rfl) (eq_str Tryd.underlying9 9998 _ _) (eqF_nil _ _ _))))) w
def Tryd.refField0 : Field := { name := "Kind", type := 3, offset := 0, embedded := false, tag := "", pkgPath := "", byteOffset := 0 }
def Tryd.refField1 : Field := { name := "Stream", type := 3, offset := 1, embedded := false, tag := "", pkgPath := "", byteOffset := 8 }
def Tryd.refField2 : Field := { name := "Number", type := 3, offset := 2, embedded := false, tag := "", pkgPath := "", byteOffset := 16 }
def Tryd.refField3 : Field := { name := "Payload", type := 9, offset := 3, embedded := false, tag := "", pkgPath := "", byteOffset := 24 }
theorem ref_eq (a b : Fr) (w : World) : (Op.eqFields 9999 (Fr.cells a).toArray (Fr.cells b).toArray (Tryd.prog.fieldsOf 34).toList).run Tryd.prog w = .ok (frSame a b) w := by
  have hf : (Tryd.prog.fieldsOf 34).toList = [Tryd.refField0, Tryd.refField1, Tryd.refField2, Tryd.refField3] := by kernel_rfl
  rw [hf]
  exact (eqF_cons (f := Tryd.refField0) (fs := [Tryd.refField1, Tryd.refField2, Tryd.refField3]) (by decide) (part_cell Tryd.isAgg3 rfl) (part_cell Tryd.isAgg3 rfl) (eq_int Tryd.underlying3 9998 _ _) (eqF_cons (f := Tryd.refField1) (fs := [Tryd.refField2, Tryd.refField3]) (by decide) (part_cell Tryd.isAgg3 rfl) (part_cell Tryd.isAgg3 rfl) (eq_int Tryd.underlying3 9998 _ _) (eqF_cons (f := Tryd.refField2) (fs := [Tryd.refField3]) (by decide) (part_cell Tryd.isAgg3 rfl) (part_cell Tryd.isAgg3 rfl) (eq_int Tryd.underlying3 9998 _ _) (eqF_cons (f := Tryd.refField3) (fs := []) (by decide) (part_cell Tryd.isAgg9 rfl) (part_cell Tryd.isAgg9 rfl) (eq_str Tryd.underlying9 9998 _ _) (eqF_nil _ _ _))))) w
theorem own_any (f : Fr) (w : World) : Calls Tryd.prog 24 #[.agg (f).cells.toArray] w (RetC (.agg (f).cells.toArray) w) := by
  refine calls_of_TE (vs := [.agg (f).cells.toArray]) Tryd.func24 Tryd.ntmps24 rfl (by simp) ?_
  have hC : Chg [] w w := Chg.refl _ _
  refine TE.seq ?_
  refine TE.region ?_
  refine OL.box rfl rfl ?_
  intro g1 w1 h1 hc1 hg_g1
  have ge_g1 : w.heap.size ≤ g1 := by have := hC.size; omega
  replace hC := hC.then_ hc1
  have h1 : Blk w1 g1 34 (f.cells) := h1
  refine OL.alloc Tryd.zeroValue30 rfl ?_
  intro gr w2 hr hc2 hg_gr
  have lt_g1_gr : g1 < gr := by have := h1.lt; omega
  have ge_gr : w.heap.size ≤ gr := by have := hC.size; omega
  replace h1 := h1.chg0 hc2
  replace hC := hC.then_ hc2
  have hr : Blk w2 gr 30 (Fr.zero.cells) := hr
  refine OL.nil ?_
  refine TE.seq ?_
  refine TE.region ?_
  refine OL.pure (Pure.fieldAddr (r := 0) Tryd.runUnderlying34 rfl Tryd.sizeOf3 rfl rfl) rfl ?_
  refine OL.val (Run.load (i := 0) rfl Tryd.isAgg3 h1 (by omega) rfl) rfl ?_
  refine OL.pure (Pure.fieldAddr (r := 1) Tryd.runUnderlying34 rfl Tryd.sizeOf3 rfl rfl) rfl ?_
  refine OL.val (Run.load (i := 1) rfl Tryd.isAgg3 h1 (by omega) rfl) rfl ?_
  refine OL.pure (Pure.fieldAddr (r := 2) Tryd.runUnderlying34 rfl Tryd.sizeOf3 rfl rfl) rfl ?_
  refine OL.val (Run.load (i := 2) rfl Tryd.isAgg3 h1 (by omega) rfl) rfl ?_
  refine OL.pure (Pure.fieldAddr (r := 3) Tryd.runUnderlying34 rfl Tryd.sizeOf9 rfl rfl) rfl ?_
  refine OL.val (Run.load (i := 3) rfl Tryd.isAgg9 h1 (by omega) rfl) rfl ?_
  refine OL.pure (Pure.build (cs := f.cells) rfl (by kernel_rfl)) rfl ?_
  refine OL.storeRow (vs := f.cells) rfl rfl (rfl) (by simp [Fr.cells, Value.oneCell']) hr (Nat.le_refl 4) ?_
  intro w3 hb3 hc3
  replace h1 := h1.chg hc3 (by simp; omega)
  replace hC := hC.trans1 hc3 (by first | exact .inr (by omega) | exact .inl (by simp))
  replace hr := hb3
  replace hr := hr.all rfl
  refine OL.nil ?_
  exact TE.ret (vs := [.agg (f).cells.toArray]) Tryd.results24 (⟨⟨_, rfl, loadRow_at Tryd.underlying30 rfl rfl hr rfl⟩, trivial⟩) ⟨rfl, hC⟩

theorem back_any (f : Fr) (w : World) : Calls Tryd.prog 16 #[.agg (f).cells.toArray] w (RetC (.agg (f).cells.toArray) w) := by
  refine calls_of_TE (vs := [.agg (f).cells.toArray]) Tryd.func16 Tryd.ntmps16 rfl (by simp) ?_
  have hC : Chg [] w w := Chg.refl _ _
  refine TE.seq ?_
  refine TE.region ?_
  refine OL.box rfl rfl ?_
  intro g1 w1 h1 hc1 hg_g1
  have ge_g1 : w.heap.size ≤ g1 := by have := hC.size; omega
  replace hC := hC.then_ hc1
  have h1 : Blk w1 g1 30 (f.cells) := h1
  refine OL.alloc Tryd.zeroValue34 rfl ?_
  intro gr w2 hr hc2 hg_gr
  have lt_g1_gr : g1 < gr := by have := h1.lt; omega
  have ge_gr : w.heap.size ≤ gr := by have := hC.size; omega
  replace h1 := h1.chg0 hc2
  replace hC := hC.then_ hc2
  have hr : Blk w2 gr 34 (Fr.zero.cells) := hr
  refine OL.nil ?_
  refine TE.seq ?_
  refine TE.region ?_
  refine OL.pure (Pure.fieldAddr (r := 0) Tryd.runUnderlying30 rfl Tryd.sizeOf3 rfl rfl) rfl ?_
  refine OL.val (Run.load (i := 0) rfl Tryd.isAgg3 h1 (by omega) rfl) rfl ?_
  refine OL.pure (Pure.fieldAddr (r := 1) Tryd.runUnderlying30 rfl Tryd.sizeOf3 rfl rfl) rfl ?_
  refine OL.val (Run.load (i := 1) rfl Tryd.isAgg3 h1 (by omega) rfl) rfl ?_
  refine OL.pure (Pure.fieldAddr (r := 2) Tryd.runUnderlying30 rfl Tryd.sizeOf3 rfl rfl) rfl ?_
  refine OL.val (Run.load (i := 2) rfl Tryd.isAgg3 h1 (by omega) rfl) rfl ?_
  refine OL.pure (Pure.fieldAddr (r := 3) Tryd.runUnderlying30 rfl Tryd.sizeOf9 rfl rfl) rfl ?_
  refine OL.val (Run.load (i := 3) rfl Tryd.isAgg9 h1 (by omega) rfl) rfl ?_
  refine OL.pure (Pure.build (cs := f.cells) rfl (by kernel_rfl)) rfl ?_
  refine OL.storeRow (vs := f.cells) rfl rfl (rfl) (by simp [Fr.cells, Value.oneCell']) hr (Nat.le_refl 4) ?_
  intro w3 hb3 hc3
  replace h1 := h1.chg hc3 (by simp; omega)
  replace hC := hC.trans1 hc3 (by first | exact .inr (by omega) | exact .inl (by simp))
  replace hr := hb3
  replace hr := hr.all rfl
  refine OL.nil ?_
  exact TE.ret (vs := [.agg (f).cells.toArray]) Tryd.results16 (⟨⟨_, rfl, loadRow_at Tryd.underlying34 rfl rfl hr rfl⟩, trivial⟩) ⟨rfl, hC⟩

theorem short_any (f : Fr) (w : World) : Calls Tryd.prog 18 #[.agg (f).cells.toArray] w (RetC (.agg ((Fr.short f)).cells.toArray) w) := by
  refine calls_of_TE (vs := [.agg (f).cells.toArray]) Tryd.func18 Tryd.ntmps18 rfl (by simp) ?_
  have hC : Chg [] w w := Chg.refl _ _
  refine TE.seq ?_
  refine TE.region ?_
  refine OL.box rfl rfl ?_
  intro g1 w1 h1 hc1 hg_g1
  have ge_g1 : w.heap.size ≤ g1 := by have := hC.size; omega
  replace hC := hC.then_ hc1
  have h1 : Blk w1 g1 34 (f.cells) := h1
  refine OL.alloc Tryd.zeroValue34 rfl ?_
  intro gr w2 hr hc2 hg_gr
  have lt_g1_gr : g1 < gr := by have := h1.lt; omega
  have ge_gr : w.heap.size ≤ gr := by have := hC.size; omega
  replace h1 := h1.chg0 hc2
  replace hC := hC.then_ hc2
  have hr : Blk w2 gr 34 (Fr.zero.cells) := hr
  refine OL.nil ?_
  refine TE.seq ?_
  refine TE.region ?_
  refine OL.pure (Pure.fieldAddr (r := 3) Tryd.runUnderlying34 rfl Tryd.sizeOf9 rfl rfl) rfl ?_
  refine OL.val (Run.load (i := 3) rfl Tryd.isAgg9 h1 (by omega) rfl) rfl ?_
  refine OL.pure (Pure.fieldAddr (r := 3) Tryd.runUnderlying34 rfl Tryd.sizeOf9 rfl rfl) rfl ?_
  refine OL.val (Run.load (i := 3) rfl Tryd.isAgg9 h1 (by omega) rfl) rfl ?_
  refine OL.pure (Pure.lenStr Tryd.runUnderlying9 rfl) rfl ?_
  refine OL.pure (Pure.min rfl rfl) rfl ?_
  refine OL.pure (Pure.sliceTo (l := f.payload) (q := min f.payload.length 300) Tryd.underlying9 rfl rfl (by omega) (by omega)) rfl ?_
  refine OL.pure (Pure.fieldAddr (r := 3) Tryd.runUnderlying34 rfl Tryd.sizeOf9 rfl rfl) rfl ?_
  refine OL.store (j := 3) rfl rfl Tryd.sizeOf9 rfl h1 (by omega) (rfl) ?_
  intro w3 hb3 hc3
  replace hr := hr.chg hc3 (by simp; omega)
  replace hC := hC.trans1 hc3 (by first | exact .inr (by omega) | exact .inl (by simp))
  replace h1 := hb3
  replace h1 : Blk w3 g1 34 (Fr.short f).cells := by rw [take_min] at h1; exact h1
  refine OL.nil ?_
  refine TE.seq ?_
  refine TE.region ?_
  refine OL.val (Run.loadAll rfl Tryd.underlying34 rfl h1 (rfl)) rfl ?_
  refine OL.storeRow (vs := (Fr.short f).cells) rfl rfl (rfl) (by simp [Fr.cells, Value.oneCell']) hr (Nat.le_refl 4) ?_
  intro w4 hb4 hc4
  replace h1 := h1.chg hc4 (by simp; omega)
  replace hC := hC.trans1 hc4 (by first | exact .inr (by omega) | exact .inl (by simp))
  replace hr := hb4
  replace hr := hr.all rfl
  refine OL.nil ?_
  exact TE.ret (vs := [.agg ((Fr.short f)).cells.toArray]) Tryd.results18 (⟨⟨_, rfl, loadRow_at Tryd.underlying34 rfl rfl hr rfl⟩, trivial⟩) ⟨rfl, hC⟩

theorem newreader_any (s n : Int) (hi : inside s n) (w : World) : Calls Tryd.prog 32 #[.int .i64 s, .int .i64 n] w (RetPE 97 (rcells s n [] 0) w) := by
  refine calls_of_TE (vs := [.int .i64 s, .int .i64 n]) Tryd.func32 Tryd.ntmps32 rfl (by simp) ?_
  have hC : Chg [] w w := Chg.refl _ _
  refine TE.seq ?_
  refine TE.region ?_
  refine OL.pure (Pure.assign rfl) rfl ?_
  refine OL.pure (Pure.assign rfl) rfl ?_
  refine OL.nil ?_
  refine TE.seq ?_
  refine TE.seq ?_
  refine TE.region ?_
  refine OL.pure (Pure.move rfl) rfl ?_
  refine OL.pure (Pure.move rfl) rfl ?_
  refine OL.call rfl Tryd.call45 rfl (inside_any s n _) ?_
  rintro _ _ ⟨rfl, rfl⟩
  refine ⟨_, rfl, ?_⟩
  refine OL.cast (.bool true) 8 rfl (congrArg Value.bool (decide_eq_true hi)) ?_
  refine OL.pure (Pure.not rfl) rfl ?_
  refine OL.nil ?_
  refine TE.condF rfl rfl ?_
  refine TE.skip ?_
  refine TE.seq ?_
  refine TE.region ?_
  refine OL.pure (Pure.move rfl) rfl ?_
  refine OL.pure (Pure.move rfl) rfl ?_
  refine OL.pure (Pure.build (cs := [.int .i64 s, .int .i64 n]) rfl (by kernel_rfl)) rfl ?_
  refine OL.pure (Pure.build (cs := rcells s n [] 0) rfl (by kernel_rfl)) rfl ?_
  refine OL.box rfl rfl ?_
  intro g w1 hg hc1 hg_g
  have ge_g : w.heap.size ≤ g := by have := hC.size; omega
  replace hC := hC.then_ hc1
  have hg : Blk w1 g 97 (rcells s n [] 0) := hg
  refine OL.pure (Pure.assign rfl) rfl ?_
  refine OL.pure (Pure.assign rfl) rfl ?_
  refine OL.nil ?_
  exact TE.ret (vs := [.pointer (some ⟨g, 0, none⟩), .int .i64 0]) Tryd.results32 (⟨rfl, rfl, trivial⟩) ⟨g, rfl, hg, hC, ge_g⟩

theorem known_any {tK tF : TypeId} (w : World) (hK : Blk w 1 tK (iv .u32 K)) (hF : Blk w 0 tF (iv .i64 fldL)) : Calls Tryd.prog 15 #[] w (RetC (.bool true) w) := by
  refine calls_of_TE (vs := []) Tryd.func15 Tryd.ntmps15 rfl (by simp) ?_
  have hC : Chg [] w w := Chg.refl _ _
  have h0w : 1 < w.heap.size := hK.lt
  have h1w : 0 < w.heap.size := hF.lt
  have hck : check fr0 = 0 := by decide
  have hel := encode_len fr0
  have hpl : fr0.payload.length = 2 := rfl
  refine TE.seq ?_
  refine TE.region ?_
  refine OL.pure (Pure.assign rfl) rfl ?_
  refine OL.nil ?_
  refine TE.seq ?_
  refine TE.region ?_
  refine OL.pure (Pure.build (cs := fr0.cells) rfl (by kernel_rfl)) rfl ?_
  refine OL.call rfl Tryd.call23 rfl (encode_any fr0 hck _ hK hF) ?_
  rintro _ w1 ⟨rfl, hc1⟩
  replace hK := hK.chg0 hc1
  replace hF := hF.chg0 hc1
  replace hC := hC.then_ hc1
  refine ⟨_, rfl, ?_⟩
  refine OL.pure (Pure.move rfl) rfl ?_
  refine OL.pure (Pure.extract (vs := [.string (str (encode fr0)), .int .i64 0]) (i := 0) rfl rfl) rfl ?_
  refine OL.pure (Pure.extract (vs := [.string (str (encode fr0)), .int .i64 0]) (i := 1) rfl rfl) rfl ?_
  refine OL.pure (Pure.assign rfl) rfl ?_
  refine OL.pure (Pure.assign rfl) rfl ?_
  refine OL.nil ?_
  refine TE.seq ?_
  refine TE.region ?_
  refine OL.pure (Pure.move rfl) rfl ?_
  refine OL.pure (Pure.strAdd (l := (encode fr0)) (m := [120]) rfl rfl (by first | omega | (simp; omega))) rfl ?_
  refine OL.call rfl Tryd.call13 rfl (decode_any (encode fr0 ++ [120]) (by rw [List.length_append]; simp; omega) fr0 44 0 (decode_encode hck _) _ hK hF) ?_
  rintro _ w2 ⟨rfl, hc2⟩
  replace hK := hK.chg0 hc2
  replace hF := hF.chg0 hc2
  replace hC := hC.then_ hc2
  refine ⟨_, rfl, ?_⟩
  refine OL.pure (Pure.move rfl) rfl ?_
  refine OL.pure (Pure.extract (vs := [.agg (fr0).cells.toArray, .int .i64 ((44 : Nat) : Int), .int .i64 0]) (i := 0) rfl rfl) rfl ?_
  refine OL.pure (Pure.extract (vs := [.agg (fr0).cells.toArray, .int .i64 ((44 : Nat) : Int), .int .i64 0]) (i := 1) rfl rfl) rfl ?_
  refine OL.pure (Pure.extract (vs := [.agg (fr0).cells.toArray, .int .i64 ((44 : Nat) : Int), .int .i64 0]) (i := 2) rfl rfl) rfl ?_
  refine OL.alloc Tryd.zeroValue30 rfl ?_
  intro gd w3 hd hc3 hg_gd
  have lt_1_gd : 1 < gd := by have := hK.lt; omega
  have lt_0_gd : 0 < gd := by have := hF.lt; omega
  have ge_gd : w.heap.size ≤ gd := by have := hC.size; omega
  replace hK := hK.chg0 hc3
  replace hF := hF.chg0 hc3
  replace hC := hC.then_ hc3
  have hd : Blk w3 gd 30 (Fr.zero.cells) := hd
  refine OL.storeRow (vs := fr0.cells) rfl rfl (rfl) (by simp [fr0, Fr.cells, Value.oneCell']) hd (Nat.le_refl 4) ?_
  intro w4 hb4 hc4
  replace hK := hK.chg hc4 (by simp; omega)
  replace hF := hF.chg hc4 (by simp; omega)
  replace hC := hC.trans1 hc4 (by first | exact .inr (by omega) | exact .inl (by simp))
  replace hd := hb4
  replace hd := hd.all rfl
  refine OL.pure (Pure.assign rfl) rfl ?_
  refine OL.pure (Pure.assign rfl) rfl ?_
  refine OL.nil ?_
  refine TE.seq ?_
  refine TE.region ?_
  refine OL.call rfl Tryd.call32 rfl (newreader_any 2 3 (by decide) _) ?_
  rintro _ w5 ⟨gn, rfl, hn, hc5, hg_gn⟩
  have lt_1_gn : 1 < gn := by have := hK.lt; omega
  have lt_0_gn : 0 < gn := by have := hF.lt; omega
  have lt_gd_gn : gd < gn := by have := hd.lt; omega
  have ge_gn : w.heap.size ≤ gn := by have := hC.size; omega
  replace hK := hK.chg0 hc5
  replace hF := hF.chg0 hc5
  replace hd := hd.chg0 hc5
  replace hC := hC.then_ hc5
  refine ⟨_, rfl, ?_⟩
  refine OL.pure (Pure.move rfl) rfl ?_
  refine OL.pure (Pure.extract (vs := [.pointer (some ⟨gn, 0, none⟩), .int .i64 0]) (i := 0) rfl rfl) rfl ?_
  refine OL.pure (Pure.extract (vs := [.pointer (some ⟨gn, 0, none⟩), .int .i64 0]) (i := 1) rfl rfl) rfl ?_
  refine OL.pure (Pure.assign rfl) rfl ?_
  refine OL.pure (Pure.assign rfl) rfl ?_
  refine OL.nil ?_
  refine TE.seq ?_
  refine TE.region ?_
  refine OL.pure (Pure.move rfl) rfl ?_
  refine OL.pure (Pure.eql rfl rfl) rfl ?_
  refine OL.cast (.bool true) 25 rfl (rfl) ?_
  refine OL.pure (Pure.move rfl) rfl ?_
  refine OL.want rfl rfl rfl (Pure.move rfl _) rfl ?_
  refine OL.want rfl rfl rfl (Pure.lenStr Tryd.runUnderlying9 rfl _) rfl ?_
  refine OL.want rfl rfl rfl (Pure.eql rfl rfl _) rfl ?_
  refine OL.cast (.bool true) 29 rfl (congrArg Value.bool (decide_eq_true (by omega))) ?_
  refine OL.pure (Pure.pickT rfl rfl) rfl ?_
  refine OL.pure (Pure.move rfl) rfl ?_
  refine OL.want rfl rfl rfl (Pure.move rfl _) rfl ?_
  refine OL.want rfl rfl rfl (Pure.sliceTo (l := (encode fr0)) (q := 18) Tryd.underlying9 rfl rfl (by omega) (by omega) _) rfl ?_
  refine OL.cast (.string (str [245, 1, 0, 0, 0, 2, 0, 0, 0, 0, 0, 0, 0, 3, 0, 0, 0, 2])) 33 rfl (congrArg (fun z => Value.string (str z)) ((List.take_left' (header_len fr0)).trans rfl)) ?_
  refine OL.want rfl rfl rfl (Pure.strEql (l := [245, 1, 0, 0, 0, 2, 0, 0, 0, 0, 0, 0, 0, 3, 0, 0, 0, 2]) (m := [245, 1, 0, 0, 0, 2, 0, 0, 0, 0, 0, 0, 0, 3, 0, 0, 0, 2]) rfl rfl _) rfl ?_
  refine OL.cast (.bool true) 34 rfl (congrArg Value.bool (decide_eq_true rfl)) ?_
  refine OL.pure (Pure.pickT rfl rfl) rfl ?_
  refine OL.pure (Pure.move rfl) rfl ?_
  refine OL.want rfl rfl rfl (Pure.move rfl _) rfl ?_
  refine OL.want rfl rfl rfl (Pure.eql rfl rfl _) rfl ?_
  refine OL.cast (.bool true) 38 rfl (rfl) ?_
  refine OL.pure (Pure.pickT rfl rfl) rfl ?_
  refine OL.pure (Pure.move rfl) rfl ?_
  refine OL.want rfl rfl rfl (Pure.move rfl _) rfl ?_
  refine OL.want rfl rfl rfl (Pure.eql rfl rfl _) rfl ?_
  refine OL.cast (.bool true) 42 rfl (rfl) ?_
  refine OL.pure (Pure.pickT rfl rfl) rfl ?_
  refine OL.pure (Pure.move rfl) rfl ?_
  refine OL.want rfl rfl rfl (Pure.fieldAddr (r := 3) Tryd.runUnderlying30 rfl Tryd.sizeOf9 rfl rfl _) rfl ?_
  refine OL.want rfl rfl rfl (Run.load (i := 3) rfl Tryd.isAgg9 hd (by omega) rfl) rfl ?_
  refine OL.want rfl rfl rfl (Pure.strEql (l := [97, 98]) (m := [97, 98]) rfl rfl _) rfl ?_
  refine OL.cast (.bool true) 47 rfl (congrArg Value.bool (decide_eq_true rfl)) ?_
  refine OL.pure (Pure.pickT rfl rfl) rfl ?_
  refine OL.pure (Pure.move rfl) rfl ?_
  refine OL.want rfl rfl rfl (Pure.move rfl _) rfl ?_
  refine OL.want rfl rfl rfl (Pure.eql rfl rfl _) rfl ?_
  refine OL.cast (.bool true) 51 rfl (rfl) ?_
  refine OL.pure (Pure.pickT rfl rfl) rfl ?_
  refine OL.pure (Pure.move rfl) rfl ?_
  refine OL.want rfl rfl rfl (Pure.move rfl _) rfl ?_
  refine OL.want rfl rfl rfl (Pure.neqNil Tryd.underlying76 rfl rfl _) rfl ?_
  refine OL.pure (Pure.pickT rfl rfl) rfl ?_
  refine OL.pure (Pure.assign rfl) rfl ?_
  refine OL.nil ?_
  exact TE.ret (vs := [.bool true]) Tryd.results15 (⟨rfl, trivial⟩) ⟨rfl, hC⟩

end Go.Proofs.YtigjmemoaapmgaaDoor
