/- New, Reset, Len, Clone, Equal, and a nil Hash, walked -/
import Derived.Test.YteghfhakdpcbaaaDoorProg
import Derived.Test.YteghfhakdpcbaaaDoorEng5
import Derived.Test.YteghfhakdpcbaaaDoorShaSpec6
import Derived.Test.YteghfhakdpcbaaaDoorSha5
set_option linter.unusedVariables false
set_option maxRecDepth 4000
namespace Go.Proofs.YteghfhakdpcbaaaDoor
open Go.V Go.Sha
theorem info63 : Tryd.prog.info? 63 = some Tryd.t63 := by kernel_rfl
def Tryd.hashField0 : Field := { name := "state", type := 64, offset := 0, embedded := false, tag := "", pkgPath := "replevin/sha256", byteOffset := 0 }
def Tryd.hashField1 : Field := { name := "tail", type := 9, offset := 8, embedded := false, tag := "", pkgPath := "replevin/sha256", byteOffset := 32 }
def Tryd.hashField2 : Field := { name := "n", type := 3, offset := 9, embedded := false, tag := "", pkgPath := "replevin/sha256", byteOffset := 48 }
def Tryd.hashFields : List Field := [Tryd.hashField0, Tryd.hashField1, Tryd.hashField2]
theorem hash_eq (a b : List UInt8) (w : World) : (Op.eqFields 9999 (hashCells a).toArray (hashCells b).toArray (Tryd.prog.fieldsOf 66).toList).run Tryd.prog w = .ok (hashSame a b) w := by
  have hf : (Tryd.prog.fieldsOf 66).toList = Tryd.hashFields := by kernel_rfl
  rw [hf]
  have h1 : ∀ w, (Op.equalIn 9999 64 (.agg (iv .u32 (stOf a).l).toArray) (.agg (iv .u32 (stOf b).l).toArray)).run Tryd.prog w = .ok (decide ((stOf a).l = (stOf b).l)) w := fun w => run_eqArr Tryd.underlying64 Tryd.underlying63 info63 (by kernel_rfl) rfl rfl 9997 w
  have key := eqF_cons (P := Tryd.prog) (d := 9999) (xs := (hashCells a).toArray) (ys := (hashCells b).toArray) (f := Tryd.hashField0) (fs := Tryd.hashField1 :: Tryd.hashField2 :: []) (by decide)
    (part_row Tryd.isAgg64 Tryd.sizeOf64 rfl) (part_row Tryd.isAgg64 Tryd.sizeOf64 rfl) h1
    (eqF_cons (f := Tryd.hashField1) (fs := Tryd.hashField2 :: []) (by decide) (part_cell Tryd.isAgg9 rfl) (part_cell Tryd.isAgg9 rfl) (eq_str Tryd.underlying9 9998 _ _)
      (eqF_cons (f := Tryd.hashField2) (fs := []) (by decide) (part_cell Tryd.isAgg3 rfl) (part_cell Tryd.isAgg3 rfl) (eq_int Tryd.underlying3 9998 _ _) (eqF_nil _ _ _))) w
  exact key
theorem new_any (w : World) : Calls Tryd.prog 24 #[] w (RetP 66 (hashCells []) w) := by
  refine calls_of_TE (vs := []) Tryd.func24 Tryd.ntmps24 rfl (by simp) ?_
  have hC : Chg [] w w := Chg.refl _ _
  refine TE.seq ?_
  refine TE.region ?_
  refine OL.pure (Pure.assign rfl) rfl ?_
  refine OL.nil ?_
  refine TE.seq ?_
  refine TE.region ?_
  refine OL.pure (Pure.build (cs := hashCells []) rfl (by kernel_rfl)) rfl ?_
  refine OL.box rfl rfl ?_
  intro g w1 hg hc1 hg_g
  have ge_g : w.heap.size ≤ g := by have := hC.size; omega
  replace hC := hC.then_ hc1
  have hg : Blk w1 g 66 (hashCells []) := hg
  refine OL.pure (Pure.assign rfl) rfl ?_
  refine OL.nil ?_
  exact TE.ret (vs := [.pointer (some ⟨g, 0, none⟩)]) Tryd.results24 (⟨rfl, trivial⟩) ⟨g, rfl, hg, hC, ge_g⟩

theorem reset_any (m : List UInt8) (g : Nat) (w : World) (hb : Blk w g 66 (hashCells m)) : Calls Tryd.prog 26 #[.pointer (some ⟨g, 0, none⟩)] w (RetW (.int .i64 0) g 66 (hashCells []) w) := by
  refine calls_of_TE (vs := [.pointer (some ⟨g, 0, none⟩)]) Tryd.func26 Tryd.ntmps26 rfl (by simp) ?_
  have hC : Chg [g] w w := Chg.refl _ _
  refine TE.seq ?_
  refine TE.region ?_
  refine OL.pure (Pure.assign rfl) rfl ?_
  refine OL.nil ?_
  refine TE.seq ?_
  refine TE.seq ?_
  refine TE.region ?_
  refine OL.pure (Pure.move rfl) rfl ?_
  refine OL.pure (Pure.eqlNil Tryd.underlying44 rfl rfl) rfl ?_
  refine OL.nil ?_
  refine TE.condF rfl rfl ?_
  refine TE.skip ?_
  refine TE.seq ?_
  refine TE.region ?_
  refine OL.pure (Pure.move rfl) rfl ?_
  refine OL.pure (Pure.build (cs := hashCells []) rfl (by kernel_rfl)) rfl ?_
  refine OL.pure (Pure.nilCheck rfl) rfl ?_
  refine OL.storeRow (vs := hashCells []) rfl rfl (rfl) (by simp [hashCells, sv, iv, S8.l, Value.oneCell']) hb (Nat.le_refl 10) ?_
  intro w1 hb1 hc1
  replace hC := hC.trans1 hc1 (by first | exact .inr (by omega) | exact .inl (by simp))
  replace hb := hb1
  replace hb := hb.all rfl
  refine OL.nil ?_
  refine TE.seq ?_
  refine TE.region ?_
  refine OL.pure (Pure.assign rfl) rfl ?_
  refine OL.nil ?_
  exact TE.ret (vs := [.int .i64 0]) Tryd.results26 (⟨rfl, trivial⟩) ⟨rfl, hC, hb⟩

theorem len_any (m : List UInt8) (g : Nat) (w : World) (hb : Blk w g 66 (hashCells m)) : Calls Tryd.prog 28 #[.pointer (some ⟨g, 0, none⟩)] w (Ret (.int .i64 (m.length : Int)) w) := by
  refine calls_of_TE (vs := [.pointer (some ⟨g, 0, none⟩)]) Tryd.func28 Tryd.ntmps28 rfl (by simp) ?_
  refine TE.seq ?_
  refine TE.region ?_
  refine OL.pure (Pure.assign rfl) rfl ?_
  refine OL.nil ?_
  refine TE.seq ?_
  refine TE.seq ?_
  refine TE.region ?_
  refine OL.pure (Pure.move rfl) rfl ?_
  refine OL.pure (Pure.eqlNil Tryd.underlying44 rfl rfl) rfl ?_
  refine OL.nil ?_
  refine TE.condF rfl rfl ?_
  refine TE.skip ?_
  refine TE.seq ?_
  refine TE.region ?_
  refine OL.pure (Pure.move rfl) rfl ?_
  refine OL.pure (Pure.nilCheck rfl) rfl ?_
  refine OL.pure (Pure.fieldAddr (r := 9) Tryd.runUnderlying66 rfl Tryd.sizeOf3 rfl rfl) rfl ?_
  refine OL.val (Run.load (i := 9) rfl Tryd.isAgg3 hb (by omega) rfl) rfl ?_
  refine OL.pure (Pure.assign rfl) rfl ?_
  refine OL.nil ?_
  exact TE.ret (vs := [.int .i64 (m.length : Int)]) Tryd.results28 (⟨rfl, trivial⟩) ⟨rfl, rfl⟩

theorem clone_any (m : List UInt8) (g : Nat) (w : World) (hb : Blk w g 66 (hashCells m)) : Calls Tryd.prog 36 #[.pointer (some ⟨g, 0, none⟩)] w (RetP 66 (hashCells m) w) := by
  refine calls_of_TE (vs := [.pointer (some ⟨g, 0, none⟩)]) Tryd.func36 Tryd.ntmps36 rfl (by simp) ?_
  have hC : Chg [] w w := Chg.refl _ _
  refine TE.seq ?_
  refine TE.region ?_
  refine OL.pure (Pure.assign rfl) rfl ?_
  refine OL.nil ?_
  refine TE.seq ?_
  refine TE.seq ?_
  refine TE.region ?_
  refine OL.pure (Pure.move rfl) rfl ?_
  refine OL.pure (Pure.eqlNil Tryd.underlying44 rfl rfl) rfl ?_
  refine OL.nil ?_
  refine TE.condF rfl rfl ?_
  refine TE.skip ?_
  refine TE.seq ?_
  refine TE.region ?_
  refine OL.pure (Pure.move rfl) rfl ?_
  refine OL.pure (Pure.nilCheck rfl) rfl ?_
  refine OL.val (Run.loadAll rfl Tryd.underlying66 rfl hb (rfl)) rfl ?_
  refine OL.alloc Tryd.zeroValue66 rfl ?_
  intro gc w1 hc hc1 hg_gc
  have lt_g_gc : g < gc := by have := hb.lt; omega
  have ge_gc : w.heap.size ≤ gc := by have := hC.size; omega
  replace hb := hb.chg0 hc1
  replace hC := hC.then_ hc1
  have hc : Blk w1 gc 66 (hashCells []) := hc
  refine OL.storeRow (vs := hashCells m) rfl rfl (rfl) (by simp [hashCells, sv, iv, S8.l, Value.oneCell']) hc (Nat.le_refl 10) ?_
  intro w2 hb2 hc2
  replace hb := hb.chg hc2 (by simp; omega)
  replace hC := hC.trans1 hc2 (by first | exact .inr (by omega) | exact .inl (by simp))
  replace hc := hb2
  replace hc := hc.all rfl
  refine OL.nil ?_
  refine TE.seq ?_
  refine TE.region ?_
  refine OL.pure (Pure.assign rfl) rfl ?_
  refine OL.nil ?_
  exact TE.ret (vs := [.pointer (some ⟨gc, 0, none⟩)]) Tryd.results36 (⟨rfl, trivial⟩) ⟨gc, rfl, hc, hC, ge_gc⟩

theorem equal_any (a b : List UInt8) (g g2 : Nat) (w : World) (hb : Blk w g 66 (hashCells a)) (hb2 : Blk w g2 66 (hashCells b)) : Calls Tryd.prog 37 #[.pointer (some ⟨g, 0, none⟩), .pointer (some ⟨g2, 0, none⟩)] w (RetC (.bool (hashSame a b)) w) := by
  refine calls_of_TE (vs := [.pointer (some ⟨g, 0, none⟩), .pointer (some ⟨g2, 0, none⟩)]) Tryd.func37 Tryd.ntmps37 rfl (by simp) ?_
  have hC : Chg [] w w := Chg.refl _ _
  refine TE.seq ?_
  refine TE.region ?_
  refine OL.pure (Pure.assign rfl) rfl ?_
  refine OL.nil ?_
  refine TE.seq ?_
  refine TE.seq ?_
  refine TE.region ?_
  refine OL.pure (Pure.move rfl) rfl ?_
  refine OL.pure (Pure.eqlNil Tryd.underlying44 rfl rfl) rfl ?_
  refine OL.pure (Pure.move rfl) rfl ?_
  refine OL.want rfl rfl rfl (Pure.move rfl _) rfl ?_
  refine OL.want rfl rfl rfl (Pure.eqlNil Tryd.underlying44 rfl rfl _) rfl ?_
  refine OL.pure (Pure.pickF rfl rfl) rfl ?_
  refine OL.nil ?_
  refine TE.condF rfl rfl ?_
  refine TE.skip ?_
  refine TE.seq ?_
  refine TE.planAll [(0, true), (1, true), (2, true), (3, true), (4, true), (5, true), (6, true), (7, true)] (fun w_ => Chg [] w w_) rfl (by kernel_rfl) ?_
  have hS1 : Chg [] w w.drew := Chg.drew _ _
  refine PL.takeP rfl (Pure.move rfl) rfl hS1 ?_
  refine PL.takeP rfl (Pure.nilCheck rfl) rfl hS1 ?_
  refine PL.take rfl (fun w_ h_ => Run.loadAll rfl Tryd.underlying66 rfl (hb.chg0 h_) (rfl)) rfl hS1 ?_
  refine PL.takeP rfl (Pure.move rfl) rfl hS1 ?_
  refine PL.takeP rfl (Pure.nilCheck rfl) rfl hS1 ?_
  refine PL.take rfl (fun w_ h_ => Run.loadAll rfl Tryd.underlying66 rfl (hb2.chg0 h_) (rfl)) rfl hS1 ?_
  refine PL.takeP rfl (Pure.eqlStruct (t := 66) (by kernel_rfl) (by kernel_rfl) (by kernel_rfl) rfl rfl (hash_eq a b)) rfl hS1 ?_
  refine PL.takeP rfl (Pure.assign rfl) rfl hS1 ?_
  refine PL.nil ?_
  replace hb := hb.chg0 hS1
  replace hb2 := hb2.chg0 hS1
  replace hC := hC.then_ hS1
  exact TE.ret (vs := [.bool (hashSame a b)]) Tryd.results37 (⟨rfl, trivial⟩) ⟨rfl, hC⟩

theorem write_nil (l : List UInt8) (w : World) : Calls Tryd.prog 25 #[.pointer none, .string (str l)] w (Ret (.int .i64 1) w) := by
  refine calls_of_TE (vs := [.pointer none, .string (str l)]) Tryd.func25 Tryd.ntmps25 rfl (by simp) ?_
  refine TE.seq ?_
  refine TE.region ?_
  refine OL.pure (Pure.assign rfl) rfl ?_
  refine OL.nil ?_
  refine TE.seq ?_
  refine TE.seq ?_
  refine TE.region ?_
  refine OL.pure (Pure.move rfl) rfl ?_
  refine OL.pure (Pure.eqlNil Tryd.underlying44 rfl rfl) rfl ?_
  refine OL.nil ?_
  refine TE.condT rfl rfl ?_
  refine TE.seq ?_
  refine TE.region ?_
  refine OL.pure (Pure.assign rfl) rfl ?_
  refine OL.nil ?_
  exact TE.ret (vs := [.int .i64 1]) Tryd.results25 (⟨rfl, trivial⟩) ⟨rfl, rfl⟩

theorem reset_nil (w : World) : Calls Tryd.prog 26 #[.pointer none] w (Ret (.int .i64 1) w) := by
  refine calls_of_TE (vs := [.pointer none]) Tryd.func26 Tryd.ntmps26 rfl (by simp) ?_
  refine TE.seq ?_
  refine TE.region ?_
  refine OL.pure (Pure.assign rfl) rfl ?_
  refine OL.nil ?_
  refine TE.seq ?_
  refine TE.seq ?_
  refine TE.region ?_
  refine OL.pure (Pure.move rfl) rfl ?_
  refine OL.pure (Pure.eqlNil Tryd.underlying44 rfl rfl) rfl ?_
  refine OL.nil ?_
  refine TE.condT rfl rfl ?_
  refine TE.seq ?_
  refine TE.region ?_
  refine OL.pure (Pure.assign rfl) rfl ?_
  refine OL.nil ?_
  exact TE.ret (vs := [.int .i64 1]) Tryd.results26 (⟨rfl, trivial⟩) ⟨rfl, rfl⟩

theorem len_nil (w : World) : Calls Tryd.prog 28 #[.pointer none] w (Ret (.int .i64 0) w) := by
  refine calls_of_TE (vs := [.pointer none]) Tryd.func28 Tryd.ntmps28 rfl (by simp) ?_
  refine TE.seq ?_
  refine TE.region ?_
  refine OL.pure (Pure.assign rfl) rfl ?_
  refine OL.nil ?_
  refine TE.seq ?_
  refine TE.seq ?_
  refine TE.region ?_
  refine OL.pure (Pure.move rfl) rfl ?_
  refine OL.pure (Pure.eqlNil Tryd.underlying44 rfl rfl) rfl ?_
  refine OL.nil ?_
  refine TE.condT rfl rfl ?_
  refine TE.seq ?_
  refine TE.region ?_
  refine OL.pure (Pure.assign rfl) rfl ?_
  refine OL.nil ?_
  exact TE.ret (vs := [.int .i64 0]) Tryd.results28 (⟨rfl, trivial⟩) ⟨rfl, rfl⟩

theorem clone_nil (w : World) : Calls Tryd.prog 36 #[.pointer none] w (Ret (.pointer none) w) := by
  refine calls_of_TE (vs := [.pointer none]) Tryd.func36 Tryd.ntmps36 rfl (by simp) ?_
  refine TE.seq ?_
  refine TE.region ?_
  refine OL.pure (Pure.assign rfl) rfl ?_
  refine OL.nil ?_
  refine TE.seq ?_
  refine TE.seq ?_
  refine TE.region ?_
  refine OL.pure (Pure.move rfl) rfl ?_
  refine OL.pure (Pure.eqlNil Tryd.underlying44 rfl rfl) rfl ?_
  refine OL.nil ?_
  refine TE.condT rfl rfl ?_
  refine TE.seq ?_
  refine TE.region ?_
  refine OL.pure (Pure.assign rfl) rfl ?_
  refine OL.nil ?_
  exact TE.ret (vs := [.pointer none]) Tryd.results36 (⟨rfl, trivial⟩) ⟨rfl, rfl⟩

theorem equal_nil (w : World) : Calls Tryd.prog 37 #[.pointer none, .pointer none] w (Ret (.bool true) w) := by
  refine calls_of_TE (vs := [.pointer none, .pointer none]) Tryd.func37 Tryd.ntmps37 rfl (by simp) ?_
  refine TE.seq ?_
  refine TE.region ?_
  refine OL.pure (Pure.assign rfl) rfl ?_
  refine OL.nil ?_
  refine TE.seq ?_
  refine TE.seq ?_
  refine TE.region ?_
  refine OL.pure (Pure.move rfl) rfl ?_
  refine OL.pure (Pure.eqlNil Tryd.underlying44 rfl rfl) rfl ?_
  refine OL.pure (Pure.move rfl) rfl ?_
  refine OL.pass rfl rfl rfl rfl rfl ?_
  refine OL.pass rfl rfl rfl rfl rfl ?_
  refine OL.pure (Pure.pickT rfl rfl) rfl ?_
  refine OL.nil ?_
  refine TE.condT rfl rfl ?_
  refine TE.seq ?_
  refine TE.region ?_
  refine OL.pure (Pure.move rfl) rfl ?_
  refine OL.pure (Pure.eqlNil Tryd.underlying44 rfl rfl) rfl ?_
  refine OL.pure (Pure.move rfl) rfl ?_
  refine OL.want rfl rfl rfl (Pure.move rfl _) rfl ?_
  refine OL.want rfl rfl rfl (Pure.eqlNil Tryd.underlying44 rfl rfl _) rfl ?_
  refine OL.pure (Pure.pickT rfl rfl) rfl ?_
  refine OL.pure (Pure.assign rfl) rfl ?_
  refine OL.nil ?_
  exact TE.ret (vs := [.bool true]) Tryd.results37 (⟨rfl, trivial⟩) ⟨rfl, rfl⟩

theorem equal_nil1 (g : Nat) (w : World) : Calls Tryd.prog 37 #[.pointer none, .pointer (some ⟨g, 0, none⟩)] w (Ret (.bool false) w) := by
  refine calls_of_TE (vs := [.pointer none, .pointer (some ⟨g, 0, none⟩)]) Tryd.func37 Tryd.ntmps37 rfl (by simp) ?_
  refine TE.seq ?_
  refine TE.region ?_
  refine OL.pure (Pure.assign rfl) rfl ?_
  refine OL.nil ?_
  refine TE.seq ?_
  refine TE.seq ?_
  refine TE.region ?_
  refine OL.pure (Pure.move rfl) rfl ?_
  refine OL.pure (Pure.eqlNil Tryd.underlying44 rfl rfl) rfl ?_
  refine OL.pure (Pure.move rfl) rfl ?_
  refine OL.pass rfl rfl rfl rfl rfl ?_
  refine OL.pass rfl rfl rfl rfl rfl ?_
  refine OL.pure (Pure.pickT rfl rfl) rfl ?_
  refine OL.nil ?_
  refine TE.condT rfl rfl ?_
  refine TE.seq ?_
  refine TE.region ?_
  refine OL.pure (Pure.move rfl) rfl ?_
  refine OL.pure (Pure.eqlNil Tryd.underlying44 rfl rfl) rfl ?_
  refine OL.pure (Pure.move rfl) rfl ?_
  refine OL.want rfl rfl rfl (Pure.move rfl _) rfl ?_
  refine OL.want rfl rfl rfl (Pure.eqlNil Tryd.underlying44 rfl rfl _) rfl ?_
  refine OL.pure (Pure.pickT rfl rfl) rfl ?_
  refine OL.pure (Pure.assign rfl) rfl ?_
  refine OL.nil ?_
  exact TE.ret (vs := [.bool false]) Tryd.results37 (⟨rfl, trivial⟩) ⟨rfl, rfl⟩

theorem equal_nil2 (g : Nat) (w : World) : Calls Tryd.prog 37 #[.pointer (some ⟨g, 0, none⟩), .pointer none] w (Ret (.bool false) w) := by
  refine calls_of_TE (vs := [.pointer (some ⟨g, 0, none⟩), .pointer none]) Tryd.func37 Tryd.ntmps37 rfl (by simp) ?_
  refine TE.seq ?_
  refine TE.region ?_
  refine OL.pure (Pure.assign rfl) rfl ?_
  refine OL.nil ?_
  refine TE.seq ?_
  refine TE.seq ?_
  refine TE.region ?_
  refine OL.pure (Pure.move rfl) rfl ?_
  refine OL.pure (Pure.eqlNil Tryd.underlying44 rfl rfl) rfl ?_
  refine OL.pure (Pure.move rfl) rfl ?_
  refine OL.want rfl rfl rfl (Pure.move rfl _) rfl ?_
  refine OL.want rfl rfl rfl (Pure.eqlNil Tryd.underlying44 rfl rfl _) rfl ?_
  refine OL.pure (Pure.pickF rfl rfl) rfl ?_
  refine OL.nil ?_
  refine TE.condT rfl rfl ?_
  refine TE.seq ?_
  refine TE.region ?_
  refine OL.pure (Pure.move rfl) rfl ?_
  refine OL.pure (Pure.eqlNil Tryd.underlying44 rfl rfl) rfl ?_
  refine OL.pure (Pure.move rfl) rfl ?_
  refine OL.pass rfl rfl rfl rfl rfl ?_
  refine OL.pass rfl rfl rfl rfl rfl ?_
  refine OL.pure (Pure.pickF rfl rfl) rfl ?_
  refine OL.pure (Pure.assign rfl) rfl ?_
  refine OL.nil ?_
  exact TE.ret (vs := [.bool false]) Tryd.results37 (⟨rfl, trivial⟩) ⟨rfl, rfl⟩

theorem sum_nil (w : World) : Calls Tryd.prog 27 #[.pointer none] w (RetC (.agg (iv .u8 (List.replicate 32 0)).toArray) w) := by
  refine calls_of_TE (vs := [.pointer none]) Tryd.func27 Tryd.ntmps27 rfl (by simp) ?_
  have hC : Chg [] w w := Chg.refl _ _
  refine TE.seq ?_
  refine TE.region ?_
  refine OL.alloc Tryd.zeroValue25 rfl ?_
  intro gr w1 hr hc1 hg_gr
  have ge_gr : w.heap.size ≤ gr := by have := hC.size; omega
  replace hC := hC.then_ hc1
  have hr : Blk w1 gr 25 (iv .u8 (List.replicate 32 0)) := hr
  refine OL.nil ?_
  refine TE.seq ?_
  refine TE.seq ?_
  refine TE.region ?_
  refine OL.pure (Pure.move rfl) rfl ?_
  refine OL.pure (Pure.eqlNil Tryd.underlying44 rfl rfl) rfl ?_
  refine OL.nil ?_
  refine TE.condT rfl rfl ?_
  refine TE.seq ?_
  refine TE.region ?_
  refine OL.pure (Pure.build (cs := iv .u8 (List.replicate 32 0)) rfl (by kernel_rfl)) rfl ?_
  refine OL.storeRow (vs := iv .u8 (List.replicate 32 0)) rfl rfl (rfl) (by simp only [iv, List.mem_map]; rintro _ ⟨x, _, rfl⟩; rfl) hr (Nat.le_refl 32) ?_
  intro w2 hb2 hc2
  replace hC := hC.trans1 hc2 (by first | exact .inr (by omega) | exact .inl (by simp))
  replace hr := hb2
  replace hr := hr.all rfl
  refine OL.nil ?_
  exact TE.ret (vs := [.agg (iv .u8 (List.replicate 32 0)).toArray]) Tryd.results27 (⟨⟨_, rfl, loadRow_at Tryd.underlying25 rfl rfl hr rfl⟩, trivial⟩) ⟨rfl, hC⟩

end Go.Proofs.YteghfhakdpcbaaaDoor
