/- Readers, walked -/
import Derived.Test.YtigjmemoaapmgaaDoorProg
import Derived.Test.YtigjmemoaapmgaaDoorEng6
import Derived.Test.YtigjmemoaapmgaaDoorFrameSpec2
import Derived.Test.YtigjmemoaapmgaaDoorFrm1
import Derived.Test.YtigjmemoaapmgaaDoorFrm2
import Derived.Test.YtigjmemoaapmgaaDoorFrm3
import Derived.Test.YtigjmemoaapmgaaDoorFrm4
import Derived.Test.YtigjmemoaapmgaaDoorFrm5
import Derived.Test.YtigjmemoaapmgaaDoorFrm6
import Derived.Test.YtigjmemoaapmgaaDoorFrameSpec6
import Derived.Test.YtigjmemoaapmgaaDoorFrm13
set_option linter.unusedVariables false
set_option maxRecDepth 4000
namespace Go.Proofs.YtigjmemoaapmgaaDoor
open Go.V Go.Sha Go.Frm
def Tryd.rdrField0 : Field := { name := "bounds", type := 95, offset := 0, embedded := true, tag := "", pkgPath := "replevin/frame", byteOffset := 0 }
def Tryd.rdrField1 : Field := { name := "wait", type := 9, offset := 2, embedded := false, tag := "", pkgPath := "replevin/frame", byteOffset := 16 }
def Tryd.rdrField2 : Field := { name := "failed", type := 31, offset := 3, embedded := false, tag := "", pkgPath := "replevin/frame", byteOffset := 32 }
def Tryd.bndField0 : Field := { name := "stream", type := 3, offset := 0, embedded := false, tag := "", pkgPath := "replevin/frame", byteOffset := 0 }
def Tryd.bndField1 : Field := { name := "next", type := 3, offset := 1, embedded := false, tag := "", pkgPath := "replevin/frame", byteOffset := 8 }
theorem bnd_eq (a b c d : Int) (w : World) : (Op.equalIn 9999 95 (.agg [Value.int .i64 a, .int .i64 b].toArray) (.agg [Value.int .i64 c, .int .i64 d].toArray)).run Tryd.prog w = .ok (decide (a = c) && (decide (b = d) && true)) w := by
  have hf : (Tryd.prog.fieldsOf 95).toList = [Tryd.bndField0, Tryd.bndField1] := by kernel_rfl
  rw [show (9999 : Nat) = 9998 + 1 from rfl, run_equalIn_agg w 9998 95 _ _ (by kernel_rfl) (by kernel_rfl), hf]
  exact (eqF_cons (f := Tryd.bndField0) (fs := [Tryd.bndField1]) (by decide) (part_cell Tryd.isAgg3 rfl) (part_cell Tryd.isAgg3 rfl) (eq_int Tryd.underlying3 9997 _ _) (eqF_cons (f := Tryd.bndField1) (fs := []) (by decide) (part_cell Tryd.isAgg3 rfl) (part_cell Tryd.isAgg3 rfl) (eq_int Tryd.underlying3 9997 _ _) (eqF_nil _ _ _))) w
theorem rdr_eq (a b : Rd) (w : World) : (Op.eqFields 9999 (Rd.cells a).toArray (Rd.cells b).toArray (Tryd.prog.fieldsOf 97).toList).run Tryd.prog w = .ok (rdSame a b) w := by
  have hf : (Tryd.prog.fieldsOf 97).toList = [Tryd.rdrField0, Tryd.rdrField1, Tryd.rdrField2] := by kernel_rfl
  rw [hf]
  exact (eqF_cons (f := Tryd.rdrField0) (fs := [Tryd.rdrField1, Tryd.rdrField2]) (by decide) (part_row (vs := [Value.int .i64 a.st, .int .i64 a.nx]) Tryd.isAgg95 Tryd.sizeOf95 rfl) (part_row (vs := [Value.int .i64 b.st, .int .i64 b.nx]) Tryd.isAgg95 Tryd.sizeOf95 rfl) (bnd_eq _ _ _ _)
    (eqF_cons (f := Tryd.rdrField1) (fs := [Tryd.rdrField2]) (by decide) (part_cell Tryd.isAgg9 rfl) (part_cell Tryd.isAgg9 rfl) (eq_str Tryd.underlying9 9998 _ _)
      (eqF_cons (f := Tryd.rdrField2) (fs := []) (by decide) (part_cell Tryd.isAgg31 rfl) (part_cell Tryd.isAgg31 rfl) (eq_int Tryd.underlying31 9998 _ _) (eqF_nil _ _ _)))) w
theorem next_any (r : Rd) (g : Nat) (w : World) (hb : Blk w g 97 r.cells) : Calls Tryd.prog 34 #[.pointer (some ⟨g, 0, none⟩)] w (Ret (.int .i64 r.nx) w) := by
  refine calls_of_TE (vs := [.pointer (some ⟨g, 0, none⟩)]) Tryd.func34 Tryd.ntmps34 rfl (by simp) ?_
  refine TE.seq ?_
  refine TE.region ?_
  refine OL.pure (Pure.assign rfl) rfl ?_
  refine OL.nil ?_
  refine TE.seq ?_
  refine TE.seq ?_
  refine TE.region ?_
  refine OL.pure (Pure.move rfl) rfl ?_
  refine OL.pure (Pure.eqlNil Tryd.underlying76 rfl rfl) rfl ?_
  refine OL.nil ?_
  refine TE.condF rfl rfl ?_
  refine TE.skip ?_
  refine TE.seq ?_
  refine TE.region ?_
  refine OL.pure (Pure.move rfl) rfl ?_
  refine OL.pure (Pure.nilCheck rfl) rfl ?_
  refine OL.pure (Pure.fieldAddr (r := 0) Tryd.runUnderlying97 rfl Tryd.sizeOf95 rfl rfl) rfl ?_
  refine OL.pure (Pure.fieldAddr (r := 1) Tryd.runUnderlying95 rfl Tryd.sizeOf3 rfl rfl) rfl ?_
  refine OL.val (Run.load (i := 1) rfl Tryd.isAgg3 hb (by omega) rfl) rfl ?_
  refine OL.pure (Pure.assign rfl) rfl ?_
  refine OL.nil ?_
  exact TE.ret (vs := [.int .i64 r.nx]) Tryd.results34 (⟨rfl, trivial⟩) ⟨rfl, rfl⟩

theorem failed_any (r : Rd) (g : Nat) (w : World) (hb : Blk w g 97 r.cells) : Calls Tryd.prog 36 #[.pointer (some ⟨g, 0, none⟩)] w (Ret (.int .i64 r.fl) w) := by
  refine calls_of_TE (vs := [.pointer (some ⟨g, 0, none⟩)]) Tryd.func36 Tryd.ntmps36 rfl (by simp) ?_
  refine TE.seq ?_
  refine TE.region ?_
  refine OL.pure (Pure.assign rfl) rfl ?_
  refine OL.nil ?_
  refine TE.seq ?_
  refine TE.seq ?_
  refine TE.region ?_
  refine OL.pure (Pure.move rfl) rfl ?_
  refine OL.pure (Pure.eqlNil Tryd.underlying76 rfl rfl) rfl ?_
  refine OL.nil ?_
  refine TE.condF rfl rfl ?_
  refine TE.skip ?_
  refine TE.seq ?_
  refine TE.region ?_
  refine OL.pure (Pure.move rfl) rfl ?_
  refine OL.pure (Pure.nilCheck rfl) rfl ?_
  refine OL.pure (Pure.fieldAddr (r := 3) Tryd.runUnderlying97 rfl Tryd.sizeOf31 rfl rfl) rfl ?_
  refine OL.val (Run.load (i := 3) rfl Tryd.isAgg31 hb (by omega) rfl) rfl ?_
  refine OL.pure (Pure.assign rfl) rfl ?_
  refine OL.nil ?_
  exact TE.ret (vs := [.int .i64 r.fl]) Tryd.results36 (⟨rfl, trivial⟩) ⟨rfl, rfl⟩

theorem pending_any (r : Rd) (g : Nat) (w : World) (hb : Blk w g 97 r.cells) : Calls Tryd.prog 35 #[.pointer (some ⟨g, 0, none⟩)] w (Ret (.int .i64 (r.wait.length : Int)) w) := by
  refine calls_of_TE (vs := [.pointer (some ⟨g, 0, none⟩)]) Tryd.func35 Tryd.ntmps35 rfl (by simp) ?_
  refine TE.seq ?_
  refine TE.region ?_
  refine OL.pure (Pure.assign rfl) rfl ?_
  refine OL.nil ?_
  refine TE.seq ?_
  refine TE.seq ?_
  refine TE.region ?_
  refine OL.pure (Pure.move rfl) rfl ?_
  refine OL.pure (Pure.eqlNil Tryd.underlying76 rfl rfl) rfl ?_
  refine OL.nil ?_
  refine TE.condF rfl rfl ?_
  refine TE.skip ?_
  refine TE.seq ?_
  refine TE.region ?_
  refine OL.pure (Pure.move rfl) rfl ?_
  refine OL.pure (Pure.nilCheck rfl) rfl ?_
  refine OL.pure (Pure.fieldAddr (r := 2) Tryd.runUnderlying97 rfl Tryd.sizeOf9 rfl rfl) rfl ?_
  refine OL.val (Run.load (i := 2) rfl Tryd.isAgg9 hb (by omega) rfl) rfl ?_
  refine OL.pure (Pure.lenStr Tryd.runUnderlying9 rfl) rfl ?_
  refine OL.pure (Pure.assign rfl) rfl ?_
  refine OL.nil ?_
  exact TE.ret (vs := [.int .i64 (r.wait.length : Int)]) Tryd.results35 (⟨rfl, trivial⟩) ⟨rfl, rfl⟩

theorem rclone_any (r : Rd) (g : Nat) (w : World) (hb : Blk w g 97 r.cells) : Calls Tryd.prog 37 #[.pointer (some ⟨g, 0, none⟩)] w (RetP 97 r.cells w) := by
  refine calls_of_TE (vs := [.pointer (some ⟨g, 0, none⟩)]) Tryd.func37 Tryd.ntmps37 rfl (by simp) ?_
  have hC : Chg [] w w := Chg.refl _ _
  refine TE.seq ?_
  refine TE.region ?_
  refine OL.pure (Pure.assign rfl) rfl ?_
  refine OL.nil ?_
  refine TE.seq ?_
  refine TE.seq ?_
  refine TE.region ?_
  refine OL.pure (Pure.move rfl) rfl ?_
  refine OL.pure (Pure.eqlNil Tryd.underlying76 rfl rfl) rfl ?_
  refine OL.nil ?_
  refine TE.condF rfl rfl ?_
  refine TE.skip ?_
  refine TE.seq ?_
  refine TE.region ?_
  refine OL.pure (Pure.move rfl) rfl ?_
  refine OL.pure (Pure.nilCheck rfl) rfl ?_
  refine OL.val (Run.loadAll rfl Tryd.underlying97 rfl hb (rfl)) rfl ?_
  refine OL.alloc Tryd.zeroValue97 rfl ?_
  intro gc w1 hc hc1 hg_gc
  have lt_g_gc : g < gc := by have := hb.lt; omega
  have ge_gc : w.heap.size ≤ gc := by have := hC.size; omega
  replace hb := hb.chg0 hc1
  replace hC := hC.then_ hc1
  have hc : Blk w1 gc 97 (rcells 0 0 [] 0) := hc
  refine OL.storeRow (vs := r.cells) rfl rfl (rfl) (by simp [Rd.cells, rcells, Value.oneCell']) hc (Nat.le_refl 4) ?_
  intro w2 hb2 hc2
  replace hb := hb.chg hc2 (by simp; omega)
  replace hC := hC.trans1 hc2 (by first | exact .inr (by omega) | exact .inl (by simp))
  replace hc := hb2
  replace hc := hc.all rfl
  refine OL.nil ?_
  refine TE.seq ?_
  refine TE.region ?_
  refine OL.pure (Pure.assign rfl) rfl ?_
  refine OL.nil ?_
  exact TE.ret (vs := [.pointer (some ⟨gc, 0, none⟩)]) Tryd.results37 (⟨rfl, trivial⟩) ⟨gc, rfl, hc, hC, ge_gc⟩

theorem requal_any (a b : Rd) (g g2 : Nat) (w : World) (hb : Blk w g 97 a.cells) (hb2 : Blk w g2 97 b.cells) : Calls Tryd.prog 38 #[.pointer (some ⟨g, 0, none⟩), .pointer (some ⟨g2, 0, none⟩)] w (RetC (.bool (rdSame a b)) w) := by
  refine calls_of_TE (vs := [.pointer (some ⟨g, 0, none⟩), .pointer (some ⟨g2, 0, none⟩)]) Tryd.func38 Tryd.ntmps38 rfl (by simp) ?_
  have hC : Chg [] w w := Chg.refl _ _
  refine TE.seq ?_
  refine TE.region ?_
  refine OL.pure (Pure.assign rfl) rfl ?_
  refine OL.nil ?_
  refine TE.seq ?_
  refine TE.seq ?_
  refine TE.region ?_
  refine OL.pure (Pure.move rfl) rfl ?_
  refine OL.pure (Pure.eqlNil Tryd.underlying76 rfl rfl) rfl ?_
  refine OL.pure (Pure.move rfl) rfl ?_
  refine OL.want rfl rfl rfl (Pure.move rfl _) rfl ?_
  refine OL.want rfl rfl rfl (Pure.eqlNil Tryd.underlying76 rfl rfl _) rfl ?_
  refine OL.pure (Pure.pickF rfl rfl) rfl ?_
  refine OL.nil ?_
  refine TE.condF rfl rfl ?_
  refine TE.skip ?_
  refine TE.seq ?_
  refine TE.planAll (.cons (0, true) (.cons (1, true) (.cons (2, true) (.cons (3, true) (.cons (4, true) (.cons (5, true) (.cons (6, true) (.cons (7, true) .nil)))))))) (fun w_ => Chg [] w w_) rfl (by kernel_rfl) ?_
  have hS1 : Chg [] w w.drew := Chg.drew _ _
  refine PL.takeP rfl (Pure.move rfl) rfl hS1 ?_
  refine PL.takeP rfl (Pure.nilCheck rfl) rfl hS1 ?_
  refine PL.take rfl (fun w_ h_ => Run.loadAll rfl Tryd.underlying97 rfl (hb.chg0 h_) (rfl)) rfl hS1 ?_
  refine PL.takeP rfl (Pure.move rfl) rfl hS1 ?_
  refine PL.takeP rfl (Pure.nilCheck rfl) rfl hS1 ?_
  refine PL.take rfl (fun w_ h_ => Run.loadAll rfl Tryd.underlying97 rfl (hb2.chg0 h_) (rfl)) rfl hS1 ?_
  refine PL.takeP rfl (Pure.eqlStruct (t := 97) (by kernel_rfl) (by kernel_rfl) (by kernel_rfl) rfl rfl (rdr_eq a b)) rfl hS1 ?_
  refine PL.takeP rfl (Pure.assign rfl) rfl hS1 ?_
  refine PL.nil ?_
  replace hb := hb.chg0 hS1
  replace hb2 := hb2.chg0 hS1
  replace hC := hC.then_ hS1
  exact TE.ret (vs := [.bool (rdSame a b)]) Tryd.results38 (⟨rfl, trivial⟩) ⟨rfl, hC⟩

theorem feed_nil (l : List UInt8) (w : World) : Calls Tryd.prog 33 #[.pointer none, .string (str l)] w (Ret (.tuple #[.slice none 0 0, .int .i64 1]) w) := by
  refine calls_of_TE (vs := [.pointer none, .string (str l)]) Tryd.func33 Tryd.ntmps33 rfl (by simp) ?_
  refine TE.seq ?_
  refine TE.region ?_
  refine OL.pure (Pure.assign rfl) rfl ?_
  refine OL.pure (Pure.assign rfl) rfl ?_
  refine OL.nil ?_
  refine TE.seq ?_
  refine TE.seq ?_
  refine TE.region ?_
  refine OL.pure (Pure.move rfl) rfl ?_
  refine OL.pure (Pure.eqlNil Tryd.underlying76 rfl rfl) rfl ?_
  refine OL.nil ?_
  refine TE.condT rfl rfl ?_
  refine TE.seq ?_
  refine TE.region ?_
  refine OL.pure (Pure.assign rfl) rfl ?_
  refine OL.pure (Pure.assign rfl) rfl ?_
  refine OL.nil ?_
  exact TE.ret (vs := [.slice none 0 0, .int .i64 1]) Tryd.results33 (⟨rfl, rfl, trivial⟩) ⟨rfl, rfl⟩

theorem next_nil (w : World) : Calls Tryd.prog 34 #[.pointer none] w (Ret (.int .i64 0) w) := by
  refine calls_of_TE (vs := [.pointer none]) Tryd.func34 Tryd.ntmps34 rfl (by simp) ?_
  refine TE.seq ?_
  refine TE.region ?_
  refine OL.pure (Pure.assign rfl) rfl ?_
  refine OL.nil ?_
  refine TE.seq ?_
  refine TE.seq ?_
  refine TE.region ?_
  refine OL.pure (Pure.move rfl) rfl ?_
  refine OL.pure (Pure.eqlNil Tryd.underlying76 rfl rfl) rfl ?_
  refine OL.nil ?_
  refine TE.condT rfl rfl ?_
  refine TE.seq ?_
  refine TE.region ?_
  refine OL.pure (Pure.assign rfl) rfl ?_
  refine OL.nil ?_
  exact TE.ret (vs := [.int .i64 0]) Tryd.results34 (⟨rfl, trivial⟩) ⟨rfl, rfl⟩

theorem pending_nil (w : World) : Calls Tryd.prog 35 #[.pointer none] w (Ret (.int .i64 0) w) := by
  refine calls_of_TE (vs := [.pointer none]) Tryd.func35 Tryd.ntmps35 rfl (by simp) ?_
  refine TE.seq ?_
  refine TE.region ?_
  refine OL.pure (Pure.assign rfl) rfl ?_
  refine OL.nil ?_
  refine TE.seq ?_
  refine TE.seq ?_
  refine TE.region ?_
  refine OL.pure (Pure.move rfl) rfl ?_
  refine OL.pure (Pure.eqlNil Tryd.underlying76 rfl rfl) rfl ?_
  refine OL.nil ?_
  refine TE.condT rfl rfl ?_
  refine TE.seq ?_
  refine TE.region ?_
  refine OL.pure (Pure.assign rfl) rfl ?_
  refine OL.nil ?_
  exact TE.ret (vs := [.int .i64 0]) Tryd.results35 (⟨rfl, trivial⟩) ⟨rfl, rfl⟩

theorem failed_nil (w : World) : Calls Tryd.prog 36 #[.pointer none] w (Ret (.int .i64 1) w) := by
  refine calls_of_TE (vs := [.pointer none]) Tryd.func36 Tryd.ntmps36 rfl (by simp) ?_
  refine TE.seq ?_
  refine TE.region ?_
  refine OL.pure (Pure.assign rfl) rfl ?_
  refine OL.nil ?_
  refine TE.seq ?_
  refine TE.seq ?_
  refine TE.region ?_
  refine OL.pure (Pure.move rfl) rfl ?_
  refine OL.pure (Pure.eqlNil Tryd.underlying76 rfl rfl) rfl ?_
  refine OL.nil ?_
  refine TE.condT rfl rfl ?_
  refine TE.seq ?_
  refine TE.region ?_
  refine OL.pure (Pure.assign rfl) rfl ?_
  refine OL.nil ?_
  exact TE.ret (vs := [.int .i64 1]) Tryd.results36 (⟨rfl, trivial⟩) ⟨rfl, rfl⟩

theorem rclone_nil (w : World) : Calls Tryd.prog 37 #[.pointer none] w (Ret (.pointer none) w) := by
  refine calls_of_TE (vs := [.pointer none]) Tryd.func37 Tryd.ntmps37 rfl (by simp) ?_
  refine TE.seq ?_
  refine TE.region ?_
  refine OL.pure (Pure.assign rfl) rfl ?_
  refine OL.nil ?_
  refine TE.seq ?_
  refine TE.seq ?_
  refine TE.region ?_
  refine OL.pure (Pure.move rfl) rfl ?_
  refine OL.pure (Pure.eqlNil Tryd.underlying76 rfl rfl) rfl ?_
  refine OL.nil ?_
  refine TE.condT rfl rfl ?_
  refine TE.seq ?_
  refine TE.region ?_
  refine OL.pure (Pure.assign rfl) rfl ?_
  refine OL.nil ?_
  exact TE.ret (vs := [.pointer none]) Tryd.results37 (⟨rfl, trivial⟩) ⟨rfl, rfl⟩

theorem requal_nil (w : World) : Calls Tryd.prog 38 #[.pointer none, .pointer none] w (Ret (.bool true) w) := by
  refine calls_of_TE (vs := [.pointer none, .pointer none]) Tryd.func38 Tryd.ntmps38 rfl (by simp) ?_
  refine TE.seq ?_
  refine TE.region ?_
  refine OL.pure (Pure.assign rfl) rfl ?_
  refine OL.nil ?_
  refine TE.seq ?_
  refine TE.seq ?_
  refine TE.region ?_
  refine OL.pure (Pure.move rfl) rfl ?_
  refine OL.pure (Pure.eqlNil Tryd.underlying76 rfl rfl) rfl ?_
  refine OL.pure (Pure.move rfl) rfl ?_
  refine OL.pass rfl rfl rfl rfl rfl ?_
  refine OL.pass rfl rfl rfl rfl rfl ?_
  refine OL.pure (Pure.pickT rfl rfl) rfl ?_
  refine OL.nil ?_
  refine TE.condT rfl rfl ?_
  refine TE.seq ?_
  refine TE.region ?_
  refine OL.pure (Pure.move rfl) rfl ?_
  refine OL.pure (Pure.eqlNil Tryd.underlying76 rfl rfl) rfl ?_
  refine OL.pure (Pure.move rfl) rfl ?_
  refine OL.want rfl rfl rfl (Pure.move rfl _) rfl ?_
  refine OL.want rfl rfl rfl (Pure.eqlNil Tryd.underlying76 rfl rfl _) rfl ?_
  refine OL.pure (Pure.pickT rfl rfl) rfl ?_
  refine OL.pure (Pure.assign rfl) rfl ?_
  refine OL.nil ?_
  exact TE.ret (vs := [.bool true]) Tryd.results38 (⟨rfl, trivial⟩) ⟨rfl, rfl⟩

theorem requal_nil1 (g : Nat) (w : World) : Calls Tryd.prog 38 #[.pointer none, .pointer (some ⟨g, 0, none⟩)] w (Ret (.bool false) w) := by
  refine calls_of_TE (vs := [.pointer none, .pointer (some ⟨g, 0, none⟩)]) Tryd.func38 Tryd.ntmps38 rfl (by simp) ?_
  refine TE.seq ?_
  refine TE.region ?_
  refine OL.pure (Pure.assign rfl) rfl ?_
  refine OL.nil ?_
  refine TE.seq ?_
  refine TE.seq ?_
  refine TE.region ?_
  refine OL.pure (Pure.move rfl) rfl ?_
  refine OL.pure (Pure.eqlNil Tryd.underlying76 rfl rfl) rfl ?_
  refine OL.pure (Pure.move rfl) rfl ?_
  refine OL.pass rfl rfl rfl rfl rfl ?_
  refine OL.pass rfl rfl rfl rfl rfl ?_
  refine OL.pure (Pure.pickT rfl rfl) rfl ?_
  refine OL.nil ?_
  refine TE.condT rfl rfl ?_
  refine TE.seq ?_
  refine TE.region ?_
  refine OL.pure (Pure.move rfl) rfl ?_
  refine OL.pure (Pure.eqlNil Tryd.underlying76 rfl rfl) rfl ?_
  refine OL.pure (Pure.move rfl) rfl ?_
  refine OL.want rfl rfl rfl (Pure.move rfl _) rfl ?_
  refine OL.want rfl rfl rfl (Pure.eqlNil Tryd.underlying76 rfl rfl _) rfl ?_
  refine OL.pure (Pure.pickT rfl rfl) rfl ?_
  refine OL.pure (Pure.assign rfl) rfl ?_
  refine OL.nil ?_
  exact TE.ret (vs := [.bool false]) Tryd.results38 (⟨rfl, trivial⟩) ⟨rfl, rfl⟩

theorem requal_nil2 (g : Nat) (w : World) : Calls Tryd.prog 38 #[.pointer (some ⟨g, 0, none⟩), .pointer none] w (Ret (.bool false) w) := by
  refine calls_of_TE (vs := [.pointer (some ⟨g, 0, none⟩), .pointer none]) Tryd.func38 Tryd.ntmps38 rfl (by simp) ?_
  refine TE.seq ?_
  refine TE.region ?_
  refine OL.pure (Pure.assign rfl) rfl ?_
  refine OL.nil ?_
  refine TE.seq ?_
  refine TE.seq ?_
  refine TE.region ?_
  refine OL.pure (Pure.move rfl) rfl ?_
  refine OL.pure (Pure.eqlNil Tryd.underlying76 rfl rfl) rfl ?_
  refine OL.pure (Pure.move rfl) rfl ?_
  refine OL.want rfl rfl rfl (Pure.move rfl _) rfl ?_
  refine OL.want rfl rfl rfl (Pure.eqlNil Tryd.underlying76 rfl rfl _) rfl ?_
  refine OL.pure (Pure.pickF rfl rfl) rfl ?_
  refine OL.nil ?_
  refine TE.condT rfl rfl ?_
  refine TE.seq ?_
  refine TE.region ?_
  refine OL.pure (Pure.move rfl) rfl ?_
  refine OL.pure (Pure.eqlNil Tryd.underlying76 rfl rfl) rfl ?_
  refine OL.pure (Pure.move rfl) rfl ?_
  refine OL.pass rfl rfl rfl rfl rfl ?_
  refine OL.pass rfl rfl rfl rfl rfl ?_
  refine OL.pure (Pure.pickF rfl rfl) rfl ?_
  refine OL.pure (Pure.assign rfl) rfl ?_
  refine OL.nil ?_
  exact TE.ret (vs := [.bool false]) Tryd.results38 (⟨rfl, trivial⟩) ⟨rfl, rfl⟩

set_option maxHeartbeats 1000000 in
theorem feed_any {tK tF : TypeId} (r : Rd) (t : List UInt8) (g : Nat) (hg : 1 < g) (hgF : 0 < g) (hl : r.wait.length + t.length ≤ 1073741824) (hnx : -4611686018427387904 ≤ r.nx ∧ r.nx ≤ 4611686018427387904) (w : World) (hK : Blk w 1 tK (iv .u32 K)) (hF : Blk w 0 tF (iv .i64 fldL)) (hb : Blk w g 97 r.cells) : Calls Tryd.prog 33 #[.pointer (some ⟨g, 0, none⟩), .string (str t)] w (RetFeed g 97 (r.feed t).cells w) := by
  refine calls_of_TE (vs := [.pointer (some ⟨g, 0, none⟩), .string (str t)]) Tryd.func33 Tryd.ntmps33 rfl (by simp) ?_
  have hC : Chg [g] w w := Chg.refl _ _
  by_cases hf : r.fl ≠ 0
  ·
    refine TE.seq ?_
    refine TE.region ?_
    refine OL.pure (Pure.assign rfl) rfl ?_
    refine OL.pure (Pure.assign rfl) rfl ?_
    refine OL.nil ?_
    refine TE.seq ?_
    refine TE.seq ?_
    refine TE.region ?_
    refine OL.pure (Pure.move rfl) rfl ?_
    refine OL.pure (Pure.eqlNil Tryd.underlying76 rfl rfl) rfl ?_
    refine OL.nil ?_
    refine TE.condF rfl rfl ?_
    refine TE.skip ?_
    refine TE.seq ?_
    refine TE.seq ?_
    refine TE.region ?_
    refine OL.pure (Pure.move rfl) rfl ?_
    refine OL.pure (Pure.nilCheck rfl) rfl ?_
    refine OL.pure (Pure.fieldAddr (r := 3) Tryd.runUnderlying97 rfl Tryd.sizeOf31 rfl rfl) rfl ?_
    refine OL.val (Run.load (i := 3) rfl Tryd.isAgg31 hb (by omega) rfl) rfl ?_
    refine OL.pure (Pure.neq rfl rfl) rfl ?_
    refine OL.cast (.bool true) 15 rfl (congrArg Value.bool (decide_eq_true (hf))) ?_
    refine OL.nil ?_
    refine TE.condT rfl rfl ?_
    refine TE.seq ?_
    refine TE.planAll (.cons (0, true) (.cons (1, true) (.cons (2, true) (.cons (3, true) (.cons (4, true) (.cons (5, true) .nil)))))) (fun w_ => Chg [] w w_) rfl (by kernel_rfl) ?_
    have hS1 : Chg [] w w.drew := Chg.drew _ _
    refine PL.takeP rfl (Pure.move rfl) rfl hS1 ?_
    refine PL.takeP rfl (Pure.nilCheck rfl) rfl hS1 ?_
    refine PL.takeP rfl (Pure.fieldAddr (r := 3) Tryd.runUnderlying97 rfl Tryd.sizeOf31 rfl rfl) rfl hS1 ?_
    refine PL.take rfl (fun w_ h_ => Run.load (i := 3) rfl Tryd.isAgg31 (hb.chg0 h_) (by omega) rfl) rfl hS1 ?_
    refine PL.takeP rfl (Pure.assign rfl) rfl hS1 ?_
    refine PL.takeP rfl (Pure.assign rfl) rfl hS1 ?_
    refine PL.nil ?_
    replace hb := hb.chg0 hS1
    replace hK := hK.chg0 hS1
    replace hF := hF.chg0 hS1
    replace hC := hC.then_ hS1
    rw [feed_failed hf]
    exact TE.ret (vs := [.slice none 0 0, .int .i64 r.fl]) Tryd.results33 (⟨rfl, rfl, trivial⟩) ⟨_, _, rfl, hC, hb⟩
  ·
    refine TE.seq ?_
    refine TE.region ?_
    refine OL.pure (Pure.assign rfl) rfl ?_
    refine OL.pure (Pure.assign rfl) rfl ?_
    refine OL.nil ?_
    refine TE.seq ?_
    refine TE.seq ?_
    refine TE.region ?_
    refine OL.pure (Pure.move rfl) rfl ?_
    refine OL.pure (Pure.eqlNil Tryd.underlying76 rfl rfl) rfl ?_
    refine OL.nil ?_
    refine TE.condF rfl rfl ?_
    refine TE.skip ?_
    refine TE.seq ?_
    refine TE.seq ?_
    refine TE.region ?_
    refine OL.pure (Pure.move rfl) rfl ?_
    refine OL.pure (Pure.nilCheck rfl) rfl ?_
    refine OL.pure (Pure.fieldAddr (r := 3) Tryd.runUnderlying97 rfl Tryd.sizeOf31 rfl rfl) rfl ?_
    refine OL.val (Run.load (i := 3) rfl Tryd.isAgg31 hb (by omega) rfl) rfl ?_
    refine OL.pure (Pure.neq rfl rfl) rfl ?_
    refine OL.cast (.bool false) 15 rfl (congrArg Value.bool (decide_eq_false (hf))) ?_
    refine OL.nil ?_
    refine TE.condF rfl rfl ?_
    refine TE.skip ?_
    refine TE.seq ?_
    refine TE.region ?_
    refine OL.pure (Pure.move rfl) rfl ?_
    refine OL.pure (Pure.nilCheck rfl) rfl ?_
    refine OL.pure (Pure.fieldAddr (r := 2) Tryd.runUnderlying97 rfl Tryd.sizeOf9 rfl rfl) rfl ?_
    refine OL.val (Run.load (i := 2) rfl Tryd.isAgg9 hb (by omega) rfl) rfl ?_
    refine OL.pure (Pure.move rfl) rfl ?_
    refine OL.pure (Pure.strAdd (l := r.wait) (m := t) rfl rfl (by omega)) rfl ?_
    obtain ⟨s, hs⟩ : ∃ s, s = r.wait ++ t := ⟨_, rfl⟩
    refine OL.cast (.string (str s)) 25 rfl (by rw [hs]) ?_
    have hsl : s.length ≤ 1073741824 := by rw [hs, List.length_append]; exact hl
    obtain ⟨l, z, y, hq⟩ : ∃ l z y, scan' r.st s r.nx = (l, z, y) := ⟨_, _, _, rfl⟩
    have hz := scan'_le r.st s r.nx
    have hll := scan'_len r.st s r.nx
    rw [hq] at hz hll
    replace hz : z ≤ s.length := hz
    replace hll : l.length ≤ s.length := hll
    have hcall := fun w => scan_any (tK := tK) (tF := tF) s hsl r.st r.nx hnx w
    rw [hq] at hcall
    refine OL.pure (Pure.assign rfl) rfl ?_
    refine OL.nil ?_
    refine TE.seq ?_
    refine TE.planAll (.cons (0, true) (.cons (1, true) (.cons (2, true) (.cons (3, true) (.cons (4, true) (.cons (5, true) (.cons (6, true) (.cons (7, true) (.cons (8, true) (.cons (9, true) (.cons (10, true) (.cons (11, false) (.cons (12, true) (.cons (13, true) (.cons (14, true) (.cons (15, true) (.cons (16, true) (.cons (17, true) (.cons (18, true) .nil))))))))))))))))))) (fun w_ => Chg [] w w_) rfl (by kernel_rfl) ?_
    have hS2 : Chg [] w w.drew := Chg.drew _ _
    replace hb := hb.chg0 hS2
    replace hK := hK.chg0 hS2
    replace hF := hF.chg0 hS2
    replace hC := hC.then_ hS2
    refine PL.takeP rfl (Pure.move rfl) rfl hS2 ?_
    refine PL.takeP rfl (Pure.move rfl) rfl hS2 ?_
    refine PL.takeP rfl (Pure.nilCheck rfl) rfl hS2 ?_
    refine PL.takeP rfl (Pure.fieldAddr (r := 0) Tryd.runUnderlying97 rfl Tryd.sizeOf95 rfl rfl) rfl hS2 ?_
    refine PL.takeP rfl (Pure.fieldAddr (r := 0) Tryd.runUnderlying95 rfl Tryd.sizeOf3 rfl rfl) rfl hS2 ?_
    refine PL.takeS (fun w_ => Chg [] w.drew w_) (fun _ h_ => hS2.then_ h_) rfl (fun w_ h_ => Run.load (i := 0) rfl Tryd.isAgg3 (hb.chg0 h_) (by omega) rfl) rfl (Chg.refl _ _) ?_
    have hP3 : Chg [] w.drew w.drew := Chg.refl _ _
    refine PL.takeP rfl (Pure.move rfl) rfl hP3 ?_
    refine PL.takeP rfl (Pure.nilCheck rfl) rfl hP3 ?_
    refine PL.takeP rfl (Pure.fieldAddr (r := 0) Tryd.runUnderlying97 rfl Tryd.sizeOf95 rfl rfl) rfl hP3 ?_
    refine PL.takeP rfl (Pure.fieldAddr (r := 1) Tryd.runUnderlying95 rfl Tryd.sizeOf3 rfl rfl) rfl hP3 ?_
    refine PL.takeS (fun w_ => Chg [] w.drew w_) (fun _ h_ => hP3.then_ h_) rfl (fun w_ h_ => Run.load (i := 1) rfl Tryd.isAgg3 (hb.chg0 h_) (by omega) rfl) rfl (Chg.refl _ _) ?_
    have hP4 : Chg [] w.drew w.drew := Chg.refl _ _
    refine PL.call rfl rfl Tryd.call46 rfl (hcall _ hK hF) ?_
    rintro _ w5 ⟨v, rfl, hv, hc5, hm_v⟩
    have hc5s := hP4.then_ hc5
    replace hb := hb.chg0 hc5
    replace hK := hK.chg0 hc5
    replace hF := hF.chg0 hc5
    replace hC := hC.then_ hc5
    replace hv : Row w5 30 4 v l.length (fvs l) := hv
    refine ⟨_, rfl, hc5s, ?_⟩
    refine PL.takeP rfl (Pure.move rfl) rfl hc5s ?_
    refine PL.takeP rfl (Pure.extract (vs := [v, .int .i64 (z : Int), .int .i64 y]) (i := 0) rfl rfl) rfl hc5s ?_
    refine PL.takeP rfl (Pure.extract (vs := [v, .int .i64 (z : Int), .int .i64 y]) (i := 1) rfl rfl) rfl hc5s ?_
    refine PL.takeP rfl (Pure.extract (vs := [v, .int .i64 (z : Int), .int .i64 y]) (i := 2) rfl rfl) rfl hc5s ?_
    refine PL.takeP rfl (Pure.assign rfl) rfl hc5s ?_
    refine PL.takeP rfl (Pure.assign rfl) rfl hc5s ?_
    refine PL.takeP rfl (Pure.assign rfl) rfl hc5s ?_
    refine PL.nil ?_
    refine TE.seq ?_
    refine TE.region ?_
    refine OL.pure (Pure.move rfl) rfl ?_
    refine OL.pure (Pure.nilCheck rfl) rfl ?_
    refine OL.pure (Pure.fieldAddr (r := 0) Tryd.runUnderlying97 rfl Tryd.sizeOf95 rfl rfl) rfl ?_
    refine OL.pure (Pure.fieldAddr (r := 1) Tryd.runUnderlying95 rfl Tryd.sizeOf3 rfl rfl) rfl ?_
    refine OL.val (Run.load (i := 1) rfl Tryd.isAgg3 hb (by omega) rfl) rfl ?_
    refine OL.pure (Pure.move rfl) rfl ?_
    refine OL.pure (Pure.lenRow Tryd.runUnderlying68 rfl hv) rfl ?_
    refine OL.pure (Pure.add rfl rfl (i64 (by omega) (by omega))) rfl ?_
    refine OL.pure (Pure.nilCheck rfl) rfl ?_
    refine OL.pure (Pure.fieldAddr (r := 0) Tryd.runUnderlying97 rfl Tryd.sizeOf95 rfl rfl) rfl ?_
    refine OL.pure (Pure.fieldAddr (r := 1) Tryd.runUnderlying95 rfl Tryd.sizeOf3 rfl rfl) rfl ?_
    refine OL.store (j := 1) rfl rfl Tryd.sizeOf3 rfl hb (by omega) (rfl) ?_
    intro w6 hb6 hc6
    replace hK := hK.chg hc6 (by simp; omega)
    replace hF := hF.chg hc6 (by simp; omega)
    replace hv := hv.chg hc6 (hv.apart hb (by decide))
    replace hC := hC.trans1 hc6 (by first | exact .inr (by omega) | exact .inl (by simp))
    replace hb := hb6
    replace hb : Blk w6 g 97 (rcells r.st (r.nx + l.length) r.wait r.fl) := hb
    by_cases hy0 : y = 0
    ·
      refine OL.nil ?_
      refine TE.seq ?_
      refine TE.seq ?_
      refine TE.region ?_
      refine OL.pure (Pure.move rfl) rfl ?_
      refine OL.pure (Pure.neq rfl rfl) rfl ?_
      refine OL.cast (.bool false) 54 rfl (congrArg Value.bool (decide_eq_false (fun h => h hy0))) ?_
      refine OL.pure (Pure.move rfl) rfl ?_
      refine OL.pass rfl rfl rfl rfl rfl ?_
      refine OL.pass rfl rfl rfl rfl rfl ?_
      refine OL.pure (Pure.pickF rfl rfl) rfl ?_
      refine OL.nil ?_
      refine TE.condF rfl rfl ?_
      refine TE.skip ?_
      refine TE.seq ?_
      refine TE.region ?_
      refine OL.pure (Pure.move rfl) rfl ?_
      refine OL.pure (Pure.move rfl) rfl ?_
      refine OL.pure (Pure.move rfl) rfl ?_
      refine OL.pure (Pure.sliceFrom (l := s) (p := z) Tryd.underlying9 rfl rfl (by omega) (by omega)) rfl ?_
      refine OL.toBytes Tryd.underlying9 Tryd.underlying24 Tryd.underlying5 rfl rfl ?_
      intro v9 w7 hv9 hc7 ho_v9
      have hm_v9 : Mine w.heap.size v9 := Mine.new ho_v9 (by have := hC.size; omega)
      replace hb := hb.chg0 hc7
      replace hK := hK.chg0 hc7
      replace hF := hF.chg0 hc7
      replace hv := hv.chg0 hc7
      replace hC := hC.then_ hc7
      refine OL.val (Run.rowStr Tryd.underlying24 Tryd.underlying5 Tryd.underlying9 rfl hv9) rfl ?_
      refine OL.pure (Pure.nilCheck rfl) rfl ?_
      refine OL.pure (Pure.fieldAddr (r := 2) Tryd.runUnderlying97 rfl Tryd.sizeOf9 rfl rfl) rfl ?_
      refine OL.store (j := 2) rfl rfl Tryd.sizeOf9 rfl hb (by omega) (rfl) ?_
      intro w8 hb8 hc8
      replace hK := hK.chg hc8 (by simp; omega)
      replace hF := hF.chg hc8 (by simp; omega)
      replace hv := hv.chg hc8 (hv.apart hb (by decide))
      replace hv9 := hv9.chg hc8 (hv9.apart hb (by decide))
      replace hC := hC.trans1 hc8 (by first | exact .inr (by omega) | exact .inl (by simp))
      replace hb := hb8
      replace hb : Blk w8 g 97 (Rd.cells (r.feed t)) := by rw [feed_good (l := l) (z := z) (y := y) hf (by rw [← hs]; exact hq) (by omega), ← hs]; rw [show r.fl = 0 from Decidable.byContradiction hf] at hb; exact hb
      refine OL.nil ?_
      refine TE.seq ?_
      refine TE.region ?_
      refine OL.pure (Pure.move rfl) rfl ?_
      refine OL.pure (Pure.assign rfl) rfl ?_
      refine OL.pure (Pure.assign rfl) rfl ?_
      refine OL.nil ?_
      exact TE.ret (vs := [v, .int .i64 0]) Tryd.results33 (⟨rfl, rfl, trivial⟩) ⟨_, _, rfl, hC, hb⟩
    ·
      by_cases hy28 : y = 28
      ·
        refine OL.nil ?_
        refine TE.seq ?_
        refine TE.seq ?_
        refine TE.region ?_
        refine OL.pure (Pure.move rfl) rfl ?_
        refine OL.pure (Pure.neq rfl rfl) rfl ?_
        refine OL.cast (.bool true) 54 rfl (congrArg Value.bool (decide_eq_true (hy0))) ?_
        refine OL.pure (Pure.move rfl) rfl ?_
        refine OL.want rfl rfl rfl (Pure.move rfl _) rfl ?_
        refine OL.want rfl rfl rfl (Pure.neq rfl rfl _) rfl ?_
        refine OL.cast (.bool false) 57 rfl (congrArg Value.bool (decide_eq_false (fun h => h hy28))) ?_
        refine OL.pure (Pure.pickT rfl rfl) rfl ?_
        refine OL.nil ?_
        refine TE.condF rfl rfl ?_
        refine TE.skip ?_
        refine TE.seq ?_
        refine TE.region ?_
        refine OL.pure (Pure.move rfl) rfl ?_
        refine OL.pure (Pure.move rfl) rfl ?_
        refine OL.pure (Pure.move rfl) rfl ?_
        refine OL.pure (Pure.sliceFrom (l := s) (p := z) Tryd.underlying9 rfl rfl (by omega) (by omega)) rfl ?_
        refine OL.toBytes Tryd.underlying9 Tryd.underlying24 Tryd.underlying5 rfl rfl ?_
        intro v9 w9 hv9 hc9 ho_v9
        have hm_v9 : Mine w.heap.size v9 := Mine.new ho_v9 (by have := hC.size; omega)
        replace hb := hb.chg0 hc9
        replace hK := hK.chg0 hc9
        replace hF := hF.chg0 hc9
        replace hv := hv.chg0 hc9
        replace hC := hC.then_ hc9
        refine OL.val (Run.rowStr Tryd.underlying24 Tryd.underlying5 Tryd.underlying9 rfl hv9) rfl ?_
        refine OL.pure (Pure.nilCheck rfl) rfl ?_
        refine OL.pure (Pure.fieldAddr (r := 2) Tryd.runUnderlying97 rfl Tryd.sizeOf9 rfl rfl) rfl ?_
        refine OL.store (j := 2) rfl rfl Tryd.sizeOf9 rfl hb (by omega) (rfl) ?_
        intro w10 hb10 hc10
        replace hK := hK.chg hc10 (by simp; omega)
        replace hF := hF.chg hc10 (by simp; omega)
        replace hv := hv.chg hc10 (hv.apart hb (by decide))
        replace hv9 := hv9.chg hc10 (hv9.apart hb (by decide))
        replace hC := hC.trans1 hc10 (by first | exact .inr (by omega) | exact .inl (by simp))
        replace hb := hb10
        replace hb : Blk w10 g 97 (Rd.cells (r.feed t)) := by rw [feed_good (l := l) (z := z) (y := y) hf (by rw [← hs]; exact hq) (by omega), ← hs]; rw [show r.fl = 0 from Decidable.byContradiction hf] at hb; exact hb
        refine OL.nil ?_
        refine TE.seq ?_
        refine TE.region ?_
        refine OL.pure (Pure.move rfl) rfl ?_
        refine OL.pure (Pure.assign rfl) rfl ?_
        refine OL.pure (Pure.assign rfl) rfl ?_
        refine OL.nil ?_
        exact TE.ret (vs := [v, .int .i64 0]) Tryd.results33 (⟨rfl, rfl, trivial⟩) ⟨_, _, rfl, hC, hb⟩
      ·
        refine OL.nil ?_
        refine TE.seq ?_
        refine TE.seq ?_
        refine TE.region ?_
        refine OL.pure (Pure.move rfl) rfl ?_
        refine OL.pure (Pure.neq rfl rfl) rfl ?_
        refine OL.cast (.bool true) 54 rfl (congrArg Value.bool (decide_eq_true (hy0))) ?_
        refine OL.pure (Pure.move rfl) rfl ?_
        refine OL.want rfl rfl rfl (Pure.move rfl _) rfl ?_
        refine OL.want rfl rfl rfl (Pure.neq rfl rfl _) rfl ?_
        refine OL.cast (.bool true) 57 rfl (congrArg Value.bool (decide_eq_true (hy28))) ?_
        refine OL.pure (Pure.pickT rfl rfl) rfl ?_
        refine OL.nil ?_
        refine TE.condT rfl rfl ?_
        refine TE.seq ?_
        refine TE.region ?_
        refine OL.pure (Pure.move rfl) rfl ?_
        refine OL.pure (Pure.move rfl) rfl ?_
        refine OL.pure (Pure.move rfl) rfl ?_
        refine OL.pure (Pure.nilCheck rfl) rfl ?_
        refine OL.pure (Pure.fieldAddr (r := 2) Tryd.runUnderlying97 rfl Tryd.sizeOf9 rfl rfl) rfl ?_
        refine OL.store (j := 2) rfl rfl Tryd.sizeOf9 rfl hb (by omega) (rfl) ?_
        intro w11 hb11 hc11
        replace hK := hK.chg hc11 (by simp; omega)
        replace hF := hF.chg hc11 (by simp; omega)
        replace hv := hv.chg hc11 (hv.apart hb (by decide))
        replace hC := hC.trans1 hc11 (by first | exact .inr (by omega) | exact .inl (by simp))
        replace hb := hb11
        refine OL.pure (Pure.nilCheck rfl) rfl ?_
        refine OL.pure (Pure.fieldAddr (r := 3) Tryd.runUnderlying97 rfl Tryd.sizeOf31 rfl rfl) rfl ?_
        refine OL.store (j := 3) rfl rfl Tryd.sizeOf31 rfl hb (by omega) (rfl) ?_
        intro w12 hb12 hc12
        replace hK := hK.chg hc12 (by simp; omega)
        replace hF := hF.chg hc12 (by simp; omega)
        replace hv := hv.chg hc12 (hv.apart hb (by decide))
        replace hC := hC.trans1 hc12 (by first | exact .inr (by omega) | exact .inl (by simp))
        replace hb := hb12
        replace hb : Blk w12 g 97 (Rd.cells (r.feed t)) := by rw [feed_bad (l := l) (z := z) (y := y) hf (by rw [← hs]; exact hq) (by omega)]; exact hb
        refine OL.nil ?_
        refine TE.seq ?_
        refine TE.region ?_
        refine OL.pure (Pure.move rfl) rfl ?_
        refine OL.pure (Pure.move rfl) rfl ?_
        refine OL.pure (Pure.assign rfl) rfl ?_
        refine OL.pure (Pure.assign rfl) rfl ?_
        refine OL.nil ?_
        exact TE.ret (vs := [v, .int .i64 y]) Tryd.results33 (⟨rfl, rfl, trivial⟩) ⟨_, _, rfl, hC, hb⟩

end Go.Proofs.YtigjmemoaapmgaaDoor
