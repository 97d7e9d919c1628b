/- the small methods of rings, walked -/
import Derived.Test.YtcologcjhenmkaaDoorProg
import Derived.Test.YtcologcjhenmkaaDoorSpecB
import Derived.Test.YtcologcjhenmkaaDoorRngA
import Derived.Test.YtcologcjhenmkaaDoorDsk
import Derived.Test.YtcologcjhenmkaaDoorFrm
import Derived.Test.YtcologcjhenmkaaDoorCod
set_option linter.unusedVariables false
set_option maxRecDepth 4000
namespace Go.Proofs.YtcologcjhenmkaaDoor
open Go.V Go.Rg Go.Frm Go.Sha
theorem info85 : Tryd.prog.info? 85 = some Tryd.t85 := by kernel_rfl
theorem hfirst_any (d a P r : Nat) (h : Hd) (pv : Value) (next at_ sy : Nat) (w : World) (hr : Blk w r 80 (rcv d a P h pv (next) (at_) (sy))) : Calls Tryd.prog 38 #[.pointer (some ⟨r, 0, none⟩)] w (Ret (.int .i64 (h.first : Int)) w) := by
  refine calls_of_TE (vs := [.pointer (some ⟨r, 0, none⟩)]) Tryd.func38 Tryd.ntmps38 rfl (by simp) ?_
  refine TE.seq ?_
  refine TE.region ?_
  refine OL.pure (Pure.assign rfl) rfl ?_
  refine OL.nil ?_
  refine TE.seq ?_
  refine TE.region ?_
  refine OL.pure (Pure.move rfl) rfl ?_
  refine OL.pure (Pure.nilCheck rfl) rfl ?_
  refine OL.pure (Pure.fieldAddr (r := 3) Tryd.runUnderlying80 rfl Tryd.sizeOf70 rfl rfl) rfl ?_
  refine OL.pure (Pure.fieldAddr (r := 4) Tryd.runUnderlying70 rfl Tryd.sizeOf3 rfl rfl) rfl ?_
  refine OL.val (Run.load (i := 4) rfl Tryd.isAgg3 hr (by omega) rfl) rfl ?_
  refine OL.pure (Pure.assign rfl) rfl ?_
  refine OL.nil ?_
  exact TE.ret (vs := [.int .i64 (h.first : Int)]) Tryd.results38 (⟨rfl, trivial⟩) ⟨rfl, rfl⟩

theorem ready_any (d a P r : Nat) (h : Hd) (pv : Value) (next at_ sy : Nat) (w : World) (hr : Blk w r 80 (rcv d a P h pv (next) (at_) (sy))) : Calls Tryd.prog 39 #[.pointer (some ⟨r, 0, none⟩)] w (Ret (.int .i64 0) w) := by
  refine calls_of_TE (vs := [.pointer (some ⟨r, 0, none⟩)]) Tryd.func39 Tryd.ntmps39 rfl (by simp) ?_
  refine TE.seq ?_
  refine TE.region ?_
  refine OL.pure (Pure.assign rfl) rfl ?_
  refine OL.nil ?_
  refine TE.seq ?_
  refine TE.seq ?_
  refine TE.region ?_
  refine OL.pure (Pure.move rfl) rfl ?_
  refine OL.pure (Pure.eqlNil Tryd.underlying27 rfl rfl) rfl ?_
  refine OL.nil ?_
  refine TE.condF rfl rfl ?_
  refine TE.skip ?_
  refine TE.seq ?_
  refine TE.region ?_
  refine OL.pure (Pure.move rfl) rfl ?_
  refine OL.pure (Pure.nilCheck rfl) rfl ?_
  refine OL.pure (Pure.fieldAddr (r := 11) Tryd.runUnderlying80 rfl Tryd.sizeOf31 rfl rfl) rfl ?_
  refine OL.val (Run.load (i := 11) rfl Tryd.isAgg31 hr (by omega) rfl) rfl ?_
  refine OL.pure (Pure.assign rfl) rfl ?_
  refine OL.nil ?_
  exact TE.ret (vs := [.int .i64 0]) Tryd.results39 (⟨rfl, trivial⟩) ⟨rfl, rfl⟩

theorem next_any (d a P r : Nat) (h : Hd) (pv : Value) (next at_ sy : Nat) (w : World) (hr : Blk w r 80 (rcv d a P h pv (next) (at_) (sy))) : Calls Tryd.prog 16 #[.pointer (some ⟨r, 0, none⟩)] w (Ret (.int .i64 (next : Int)) w) := by
  refine calls_of_TE (vs := [.pointer (some ⟨r, 0, none⟩)]) Tryd.func16 Tryd.ntmps16 rfl (by simp) ?_
  refine TE.seq ?_
  refine TE.region ?_
  refine OL.pure (Pure.assign rfl) rfl ?_
  refine OL.nil ?_
  refine TE.seq ?_
  refine TE.seq ?_
  refine TE.region ?_
  refine OL.pure (Pure.move rfl) rfl ?_
  refine OL.pure (Pure.eqlNil Tryd.underlying27 rfl rfl) rfl ?_
  refine OL.nil ?_
  refine TE.condF rfl rfl ?_
  refine TE.skip ?_
  refine TE.seq ?_
  refine TE.region ?_
  refine OL.pure (Pure.move rfl) rfl ?_
  refine OL.pure (Pure.nilCheck rfl) rfl ?_
  refine OL.pure (Pure.fieldAddr (r := 8) Tryd.runUnderlying80 rfl Tryd.sizeOf3 rfl rfl) rfl ?_
  refine OL.val (Run.load (i := 8) rfl Tryd.isAgg3 hr (by omega) rfl) rfl ?_
  refine OL.pure (Pure.assign rfl) rfl ?_
  refine OL.nil ?_
  exact TE.ret (vs := [.int .i64 (next : Int)]) Tryd.results16 (⟨rfl, trivial⟩) ⟨rfl, rfl⟩

theorem generation_any (d a P r : Nat) (h : Hd) (pv : Value) (next at_ sy : Nat) (w : World) (hr : Blk w r 80 (rcv d a P h pv (next) (at_) (sy))) : Calls Tryd.prog 31 #[.pointer (some ⟨r, 0, none⟩)] w (Ret (.int .i64 (h.gen : Int)) w) := by
  refine calls_of_TE (vs := [.pointer (some ⟨r, 0, none⟩)]) Tryd.func31 Tryd.ntmps31 rfl (by simp) ?_
  refine TE.seq ?_
  refine TE.region ?_
  refine OL.pure (Pure.assign rfl) rfl ?_
  refine OL.nil ?_
  refine TE.seq ?_
  refine TE.seq ?_
  refine TE.region ?_
  refine OL.pure (Pure.move rfl) rfl ?_
  refine OL.pure (Pure.eqlNil Tryd.underlying27 rfl rfl) rfl ?_
  refine OL.nil ?_
  refine TE.condF rfl rfl ?_
  refine TE.skip ?_
  refine TE.seq ?_
  refine TE.region ?_
  refine OL.pure (Pure.move rfl) rfl ?_
  refine OL.pure (Pure.nilCheck rfl) rfl ?_
  refine OL.pure (Pure.fieldAddr (r := 3) Tryd.runUnderlying80 rfl Tryd.sizeOf70 rfl rfl) rfl ?_
  refine OL.pure (Pure.fieldAddr (r := 3) Tryd.runUnderlying70 rfl Tryd.sizeOf3 rfl rfl) rfl ?_
  refine OL.val (Run.load (i := 3) rfl Tryd.isAgg3 hr (by omega) rfl) rfl ?_
  refine OL.pure (Pure.assign rfl) rfl ?_
  refine OL.nil ?_
  exact TE.ret (vs := [.int .i64 (h.gen : Int)]) Tryd.results31 (⟨rfl, trivial⟩) ⟨rfl, rfl⟩

theorem failed_any (d a P r : Nat) (h : Hd) (pv : Value) (next at_ sy : Nat) (w : World) (hr : Blk w r 80 (rcv d a P h pv (next) (at_) (sy))) : Calls Tryd.prog 29 #[.pointer (some ⟨r, 0, none⟩)] w (Ret (.int .i64 0) w) := by
  refine calls_of_TE (vs := [.pointer (some ⟨r, 0, none⟩)]) Tryd.func29 Tryd.ntmps29 rfl (by simp) ?_
  refine TE.seq ?_
  refine TE.region ?_
  refine OL.pure (Pure.assign rfl) rfl ?_
  refine OL.nil ?_
  refine TE.seq ?_
  refine TE.seq ?_
  refine TE.region ?_
  refine OL.pure (Pure.move rfl) rfl ?_
  refine OL.pure (Pure.eqlNil Tryd.underlying27 rfl rfl) rfl ?_
  refine OL.nil ?_
  refine TE.condF rfl rfl ?_
  refine TE.skip ?_
  refine TE.seq ?_
  refine TE.region ?_
  refine OL.pure (Pure.move rfl) rfl ?_
  refine OL.pure (Pure.nilCheck rfl) rfl ?_
  refine OL.pure (Pure.fieldAddr (r := 11) Tryd.runUnderlying80 rfl Tryd.sizeOf31 rfl rfl) rfl ?_
  refine OL.val (Run.load (i := 11) rfl Tryd.isAgg31 hr (by omega) rfl) rfl ?_
  refine OL.pure (Pure.assign rfl) rfl ?_
  refine OL.nil ?_
  exact TE.ret (vs := [.int .i64 0]) Tryd.results29 (⟨rfl, trivial⟩) ⟨rfl, rfl⟩

theorem synced_any (d a P r : Nat) (h : Hd) (pv : Value) (next at_ sy : Nat) (w : World) (hr : Blk w r 80 (rcv d a P h pv (next) (at_) (sy))) : Calls Tryd.prog 30 #[.pointer (some ⟨r, 0, none⟩)] w (Ret (.int .i64 (sy : Int)) w) := by
  refine calls_of_TE (vs := [.pointer (some ⟨r, 0, none⟩)]) Tryd.func30 Tryd.ntmps30 rfl (by simp) ?_
  refine TE.seq ?_
  refine TE.region ?_
  refine OL.pure (Pure.assign rfl) rfl ?_
  refine OL.nil ?_
  refine TE.seq ?_
  refine TE.seq ?_
  refine TE.region ?_
  refine OL.pure (Pure.move rfl) rfl ?_
  refine OL.pure (Pure.eqlNil Tryd.underlying27 rfl rfl) rfl ?_
  refine OL.nil ?_
  refine TE.condF rfl rfl ?_
  refine TE.skip ?_
  refine TE.seq ?_
  refine TE.region ?_
  refine OL.pure (Pure.move rfl) rfl ?_
  refine OL.pure (Pure.nilCheck rfl) rfl ?_
  refine OL.pure (Pure.fieldAddr (r := 10) Tryd.runUnderlying80 rfl Tryd.sizeOf3 rfl rfl) rfl ?_
  refine OL.val (Run.load (i := 10) rfl Tryd.isAgg3 hr (by omega) rfl) rfl ?_
  refine OL.pure (Pure.assign rfl) rfl ?_
  refine OL.nil ?_
  exact TE.ret (vs := [.int .i64 (sy : Int)]) Tryd.results30 (⟨rfl, trivial⟩) ⟨rfl, rfl⟩

theorem First_any (d a P r : Nat) (h : Hd) (pv : Value) (next at_ sy : Nat) (w : World) (hr : Blk w r 80 (rcv d a P h pv (next) (at_) (sy))) : Calls Tryd.prog 15 #[.pointer (some ⟨r, 0, none⟩)] w (Ret (.int .i64 (h.first : Int)) w) := by
  refine calls_of_TE (vs := [.pointer (some ⟨r, 0, none⟩)]) Tryd.func15 Tryd.ntmps15 rfl (by simp) ?_
  refine TE.seq ?_
  refine TE.region ?_
  refine OL.pure (Pure.assign rfl) rfl ?_
  refine OL.nil ?_
  refine TE.seq ?_
  refine TE.seq ?_
  refine TE.region ?_
  refine OL.pure (Pure.move rfl) rfl ?_
  refine OL.pure (Pure.eqlNil Tryd.underlying27 rfl rfl) rfl ?_
  refine OL.nil ?_
  refine TE.condF rfl rfl ?_
  refine TE.skip ?_
  refine TE.seq ?_
  refine TE.region ?_
  refine OL.pure (Pure.move rfl) rfl ?_
  refine OL.call rfl Tryd.call38 rfl (hfirst_any d a P r h pv next at_ sy _ hr) ?_
  rintro _ _ ⟨rfl, rfl⟩
  refine ⟨_, rfl, ?_⟩
  refine OL.pure (Pure.assign rfl) rfl ?_
  refine OL.nil ?_
  exact TE.ret (vs := [.int .i64 (h.first : Int)]) Tryd.results15 (⟨rfl, trivial⟩) ⟨rfl, rfl⟩

theorem ready_nil (w : World) : Calls Tryd.prog 39 #[.pointer none] w (Ret (.int .i64 1) w) := by
  refine calls_of_TE (vs := [.pointer none]) Tryd.func39 Tryd.ntmps39 rfl (by simp) ?_
  refine TE.seq ?_
  refine TE.region ?_
  refine OL.pure (Pure.assign rfl) rfl ?_
  refine OL.nil ?_
  refine TE.seq ?_
  refine TE.seq ?_
  refine TE.region ?_
  refine OL.pure (Pure.move rfl) rfl ?_
  refine OL.pure (Pure.eqlNil Tryd.underlying27 rfl rfl) rfl ?_
  refine OL.nil ?_
  refine TE.condT rfl rfl ?_
  refine TE.seq ?_
  refine TE.region ?_
  refine OL.pure (Pure.assign rfl) rfl ?_
  refine OL.nil ?_
  exact TE.ret (vs := [.int .i64 1]) Tryd.results39 (⟨rfl, trivial⟩) ⟨rfl, rfl⟩

theorem next_nil (w : World) : Calls Tryd.prog 16 #[.pointer none] w (Ret (.int .i64 0) w) := by
  refine calls_of_TE (vs := [.pointer none]) Tryd.func16 Tryd.ntmps16 rfl (by simp) ?_
  refine TE.seq ?_
  refine TE.region ?_
  refine OL.pure (Pure.assign rfl) rfl ?_
  refine OL.nil ?_
  refine TE.seq ?_
  refine TE.seq ?_
  refine TE.region ?_
  refine OL.pure (Pure.move rfl) rfl ?_
  refine OL.pure (Pure.eqlNil Tryd.underlying27 rfl rfl) rfl ?_
  refine OL.nil ?_
  refine TE.condT rfl rfl ?_
  refine TE.seq ?_
  refine TE.region ?_
  refine OL.pure (Pure.assign rfl) rfl ?_
  refine OL.nil ?_
  exact TE.ret (vs := [.int .i64 0]) Tryd.results16 (⟨rfl, trivial⟩) ⟨rfl, rfl⟩

theorem generation_nil (w : World) : Calls Tryd.prog 31 #[.pointer none] w (Ret (.int .i64 0) w) := by
  refine calls_of_TE (vs := [.pointer none]) Tryd.func31 Tryd.ntmps31 rfl (by simp) ?_
  refine TE.seq ?_
  refine TE.region ?_
  refine OL.pure (Pure.assign rfl) rfl ?_
  refine OL.nil ?_
  refine TE.seq ?_
  refine TE.seq ?_
  refine TE.region ?_
  refine OL.pure (Pure.move rfl) rfl ?_
  refine OL.pure (Pure.eqlNil Tryd.underlying27 rfl rfl) rfl ?_
  refine OL.nil ?_
  refine TE.condT rfl rfl ?_
  refine TE.seq ?_
  refine TE.region ?_
  refine OL.pure (Pure.assign rfl) rfl ?_
  refine OL.nil ?_
  exact TE.ret (vs := [.int .i64 0]) Tryd.results31 (⟨rfl, trivial⟩) ⟨rfl, rfl⟩

theorem failed_nil (w : World) : Calls Tryd.prog 29 #[.pointer none] w (Ret (.int .i64 1) w) := by
  refine calls_of_TE (vs := [.pointer none]) Tryd.func29 Tryd.ntmps29 rfl (by simp) ?_
  refine TE.seq ?_
  refine TE.region ?_
  refine OL.pure (Pure.assign rfl) rfl ?_
  refine OL.nil ?_
  refine TE.seq ?_
  refine TE.seq ?_
  refine TE.region ?_
  refine OL.pure (Pure.move rfl) rfl ?_
  refine OL.pure (Pure.eqlNil Tryd.underlying27 rfl rfl) rfl ?_
  refine OL.nil ?_
  refine TE.condT rfl rfl ?_
  refine TE.seq ?_
  refine TE.region ?_
  refine OL.pure (Pure.assign rfl) rfl ?_
  refine OL.nil ?_
  exact TE.ret (vs := [.int .i64 1]) Tryd.results29 (⟨rfl, trivial⟩) ⟨rfl, rfl⟩

theorem synced_nil (w : World) : Calls Tryd.prog 30 #[.pointer none] w (Ret (.int .i64 0) w) := by
  refine calls_of_TE (vs := [.pointer none]) Tryd.func30 Tryd.ntmps30 rfl (by simp) ?_
  refine TE.seq ?_
  refine TE.region ?_
  refine OL.pure (Pure.assign rfl) rfl ?_
  refine OL.nil ?_
  refine TE.seq ?_
  refine TE.seq ?_
  refine TE.region ?_
  refine OL.pure (Pure.move rfl) rfl ?_
  refine OL.pure (Pure.eqlNil Tryd.underlying27 rfl rfl) rfl ?_
  refine OL.nil ?_
  refine TE.condT rfl rfl ?_
  refine TE.seq ?_
  refine TE.region ?_
  refine OL.pure (Pure.assign rfl) rfl ?_
  refine OL.nil ?_
  exact TE.ret (vs := [.int .i64 0]) Tryd.results30 (⟨rfl, trivial⟩) ⟨rfl, rfl⟩

theorem First_nil (w : World) : Calls Tryd.prog 15 #[.pointer none] w (Ret (.int .i64 0) w) := by
  refine calls_of_TE (vs := [.pointer none]) Tryd.func15 Tryd.ntmps15 rfl (by simp) ?_
  refine TE.seq ?_
  refine TE.region ?_
  refine OL.pure (Pure.assign rfl) rfl ?_
  refine OL.nil ?_
  refine TE.seq ?_
  refine TE.seq ?_
  refine TE.region ?_
  refine OL.pure (Pure.move rfl) rfl ?_
  refine OL.pure (Pure.eqlNil Tryd.underlying27 rfl rfl) rfl ?_
  refine OL.nil ?_
  refine TE.condT rfl rfl ?_
  refine TE.seq ?_
  refine TE.region ?_
  refine OL.pure (Pure.assign rfl) rfl ?_
  refine OL.nil ?_
  exact TE.ret (vs := [.int .i64 0]) Tryd.results15 (⟨rfl, trivial⟩) ⟨rfl, rfl⟩

theorem free_nil (w : World) : Calls Tryd.prog 17 #[.pointer none] w (Ret (.int .i64 0) w) := by
  refine calls_of_TE (vs := [.pointer none]) Tryd.func17 Tryd.ntmps17 rfl (by simp) ?_
  refine TE.seq ?_
  refine TE.region ?_
  refine OL.pure (Pure.assign rfl) rfl ?_
  refine OL.nil ?_
  refine TE.seq ?_
  refine TE.seq ?_
  refine TE.region ?_
  refine OL.pure (Pure.move rfl) rfl ?_
  refine OL.pure (Pure.eqlNil Tryd.underlying27 rfl rfl) rfl ?_
  refine OL.nil ?_
  refine TE.condT rfl rfl ?_
  refine TE.seq ?_
  refine TE.region ?_
  refine OL.pure (Pure.assign rfl) rfl ?_
  refine OL.nil ?_
  exact TE.ret (vs := [.int .i64 0]) Tryd.results17 (⟨rfl, trivial⟩) ⟨rfl, rfl⟩

theorem note_any (r g : Nat) (e : Int) (he : e ≠ 29) (Q : World → Prop) (w : World) (hg : Blk w g 31 [.int .i64 e]) (hQ : Q w) : CallsR Tryd.prog 40 #[.pointer (some ⟨r, 0, none⟩), .pointer (some ⟨g, 0, none⟩)] w Q := by
  refine callsR_of_TE (vs := [.pointer (some ⟨r, 0, none⟩), .pointer (some ⟨g, 0, none⟩)]) Tryd.func40 Tryd.ntmps40 rfl (by simp) ?_
  refine TE.seq ?_
  refine TE.region ?_
  refine OL.pure (Pure.move rfl) rfl ?_
  refine OL.pure (Pure.nilCheck rfl) rfl ?_
  refine OL.val (Run.load (i := 0) rfl Tryd.isAgg31 hg (by omega) rfl) rfl ?_
  refine OL.pure (Pure.eql rfl rfl) rfl ?_
  refine OL.cast (.bool false) 7 rfl (congrArg Value.bool (decide_eq_false (he))) ?_
  refine OL.nil ?_
  refine TE.condF rfl rfl ?_
  refine TE.skip ?_
  exact TE.fin (vs := []) Tryd.results40 (trivial) hQ

theorem free_any (d a P r : Nat) (h : Hd) (pv : Value) (next at_ sy : Nat) (E : List Rg.Ent) (hu : used E ≤ P) (hP : P ≤ 8192) (hp : h.place < P) (hE : E.length ≤ 1099511627775) (w : World) (hr : Blk w r 80 (rcv d a P h pv (next) (at_) (sy))) (hs : RowO w 85 3 pv (E).length (spotCells P (h.place) (E))) : Calls Tryd.prog 17 #[.pointer (some ⟨r, 0, none⟩)] w (RetC (.int .i64 ((P - used E : Nat) : Int)) w) := by
  refine calls_of_TE (vs := [.pointer (some ⟨r, 0, none⟩)]) Tryd.func17 Tryd.ntmps17 rfl (by simp) ?_
  have hC : Chg [] w w := Chg.refl _ _
  refine TE.seq ?_
  refine TE.region ?_
  refine OL.pure (Pure.assign rfl) rfl ?_
  refine OL.nil ?_
  refine TE.seq ?_
  refine TE.seq ?_
  refine TE.region ?_
  refine OL.pure (Pure.move rfl) rfl ?_
  refine OL.pure (Pure.eqlNil Tryd.underlying27 rfl rfl) rfl ?_
  refine OL.nil ?_
  refine TE.condF rfl rfl ?_
  refine TE.skip ?_
  refine TE.seq ?_
  refine TE.region ?_
  refine OL.pure (Pure.move rfl) rfl ?_
  refine OL.pure (Pure.nilCheck rfl) rfl ?_
  refine OL.pure (Pure.fieldAddr (r := 0) Tryd.runUnderlying80 rfl Tryd.sizeOf66 rfl rfl) rfl ?_
  refine OL.pure (Pure.fieldAddr (r := 2) Tryd.runUnderlying66 rfl Tryd.sizeOf3 rfl rfl) rfl ?_
  refine OL.val (Run.load (i := 2) rfl Tryd.isAgg3 hr (by omega) rfl) rfl ?_
  refine OL.pure (Pure.assign rfl) rfl ?_
  refine OL.nil ?_
  refine TE.seq ?_
  refine TE.seq ?_
  refine TE.region ?_
  refine OL.pure (Pure.move rfl) rfl ?_
  refine OL.pure (Pure.nilCheck rfl) rfl ?_
  refine OL.pure (Pure.fieldAddr (r := 7) Tryd.runUnderlying80 rfl Tryd.sizeOf78 rfl rfl) rfl ?_
  refine OL.val (Run.load (i := 7) rfl Tryd.isAgg78 hr (by omega) rfl) rfl ?_
  refine OL.pure (Pure.lenRowO Tryd.runUnderlying78 rfl hs) rfl ?_
  refine OL.pure (Pure.move rfl) rfl ?_
  refine OL.nil ?_
  refine TE.block ?_
  refine TE.cast (.int .i64 ((P : Int) - (used (E.take 0) : Int))) 3 rfl (by simp [used]) ?_
  refine TE.loopInv (σ := Nat) [0, 3, 16, 17, 18] (fun s_ w_ => s_ ≤ E.length ∧ Chg [] w w_ ∧ Blk w_ r 80 (rcv d a P h pv (next) (at_) (sy)) ∧ RowO w_ 85 3 pv (E).length (spotCells P (h.place) (E))) (fun s_ => [(0, .pointer (some ⟨r, 0, none⟩)), (3, .int .i64 ((P : Int) - (used (E.take s_) : Int))), (16, pv), (17, .int .i64 (↑E.length)), (18, .int .i64 (s_ : Int))]) (fun s_ => E.length - s_) 0 ⟨Nat.zero_le _, hC, hr, hs⟩ rfl ?_
  rintro i w1 ⟨hi, hC, hr, hs⟩ ih1
  refine TE.seq ?_
  refine TE.region ?_
  refine OL.pure (Pure.lss rfl rfl) rfl ?_
  refine OL.nil ?_
  refine TE.seq ?_
  refine TE.ite rfl (fun hlt => ?_) (fun hlt => ?_)
  ·
    replace hlt : i < E.length := by omega
    obtain ⟨gs, o, cap, cs, hpv, hblk, hcap, hcl, htk⟩ := hs.form (by omega)
    refine TE.cast (.slice (some ⟨gs, o, none⟩) E.length cap) 16 rfl (hpv) ?_
    refine TE.skip ?_
    refine TE.seq ?_
    refine TE.block ?_
    refine TE.seq ?_
    refine TE.region ?_
    refine OL.pure (Pure.indexAddrS (r := o + 3 * i) Tryd.runUnderlying78 Tryd.sizeOf85 rfl rfl (by omega) (by omega) (by omega)) rfl ?_
    refine OL.val (Run.loadRow (i := o + 3 * i) (vs := (spv P h.place E i)) rfl Tryd.underlying85 rfl rfl hblk (by omega) (spv_at htk hp hlt (by omega))) rfl ?_
    have hslt := hs.lt
    refine OL.alloc Tryd.zeroValue85 rfl ?_
    intro g5 w2 h5 hc2 hg_g5
    have lt_r_g5 : r < g5 := by have := hr.lt; omega
    have ge_g5 : w.heap.size ≤ g5 := by have := hC.size; omega
    replace hr := hr.chg0 hc2
    replace hs := hs.chg0 hc2
    replace hC := hC.then_ hc2
    refine OL.storeRow (vs := (spv P h.place E i)) rfl rfl (rfl) (by simp [spv, Value.oneCell']) h5 (Nat.le_refl 3) ?_
    intro w3 hb3 hc3
    replace hr := hr.chg hc3 (by simpa using hr.ne h5 (by decide))
    replace hs := hs.chg hc3 (fun k_ hk_ hm_ => by have := hslt k_ hk_; simp at hm_; omega)
    replace hC := hC.trans1 hc3 (by first | exact .inr (by omega) | exact .inl (by simp))
    replace h5 := hb3
    replace h5 := h5.all rfl
    have hus := used_succ hlt
    have hul := used_take_le E (i + 1)
    refine OL.nil ?_
    refine TE.region ?_
    refine OL.pure (Pure.move rfl) rfl ?_
    refine OL.pure (Pure.fieldAddr (r := 1) Tryd.runUnderlying85 rfl Tryd.sizeOf3 rfl rfl) rfl ?_
    refine OL.val (Run.load (i := 1) rfl Tryd.isAgg3 h5 (by omega) rfl) rfl ?_
    refine OL.pure (Pure.sub rfl rfl (i64 (by omega) (by omega))) rfl ?_
    refine OL.cast (.int .i64 ((P : Int) - (used (E.take (i + 1)) : Int))) 25 rfl (congrArg (Value.int .i64) (by rw [hus]; omega)) ?_
    refine OL.pure (Pure.assign rfl) rfl ?_
    refine OL.nil ?_
    refine TE.inBlock ?_
    refine TE.region ?_
    refine OL.pure (Pure.add rfl rfl (i64 (by omega) (by omega))) rfl ?_
    refine OL.pure (Pure.move rfl) rfl ?_
    refine OL.nil ?_
    refine TE.cast (pv) 16 rfl (hpv.symm) ?_
    exact TE.sub [0, 3, 16, 17, 18] rfl (ih1 (i + 1) _ ⟨by omega, hC, hr, hs⟩ (by omega))
  ·
    obtain rfl : i = E.length := by omega
    refine TE.exit rfl ?_
    refine TE.seq ?_
    refine TE.region ?_
    refine OL.pure (Pure.move rfl) rfl ?_
    refine OL.pure (Pure.assign rfl) rfl ?_
    refine OL.nil ?_
    exact TE.ret (vs := [.int .i64 ((P - used E : Nat) : Int)]) Tryd.results17 (⟨congrArg (fun x => some (Value.int .i64 x)) (by rw [List.take_length]; omega), trivial⟩) ⟨rfl, hC⟩

set_option maxHeartbeats 1000000 in
theorem add_any (d a P r : Nat) (h : Hd) (pv : Value) (sy b st : Nat) (t : List UInt8) (E : List Rg.Ent) (hP : P ≤ 8192) (hp : h.place < P) (hE : E.length ≤ 1099511627775) (hf : h.first ≤ 1099511627775) (hb : b ≤ 1099511627775) (hst : st ≤ 1099511627775) (w : World) (hr : Blk w r 80 (rcv d a P h pv (h.first + E.length) ((h.place + used E) % P) (sy))) (hs : RowO w 85 3 pv (E).length (spotCells P (h.place) (E))) : Calls Tryd.prog 36 #[.pointer (some ⟨r, 0, none⟩), .int .i64 (b : Int), .int .i64 (st : Int)] w (fun e w_ => ∃ pv2, e = .returned (.tuple #[]) ∧ Blk w_ r 80 (rcv d a P h pv2 (h.first + E.length + 1) ((h.place + used E + b) % P) (sy)) ∧ RowO w_ 85 3 pv2 (E ++ [(t, b, st)]).length (spotCells P (h.place) (E ++ [(t, b, st)])) ∧ Chg (r :: own pv) w w_ ∧ (∀ k, k ∈ own pv2 → k ∈ own pv ∨ w.heap.size ≤ k)) := by
  refine calls_of_TE (vs := [.pointer (some ⟨r, 0, none⟩), .int .i64 (b : Int), .int .i64 (st : Int)]) Tryd.func36 Tryd.ntmps36 rfl (by simp) ?_
  have hC : Chg (r :: own pv) w w := Chg.refl _ _
  obtain ⟨q0, hq0⟩ : ∃ q, q = (h.place + used E) % P := ⟨_, rfl⟩
  have hq1 : q0 < P := by rw [hq0]; exact Nat.mod_lt _ (by omega)
  rw [← hq0] at hr
  refine TE.seq ?_
  refine TE.plan 16 (.cons (0, true) (.cons (1, true) (.cons (2, true) (.cons (3, true) (.cons (4, true) (.cons (5, true) (.cons (6, true) (.cons (7, true) (.cons (8, true) (.cons (9, true) (.cons (10, true) (.cons (11, true) (.cons (12, false) (.cons (13, false) (.cons (14, true) (.cons (15, true) .nil)))))))))))))))) (fun w_ => Blk w_ r 80 (rcv d a P h pv (h.first + E.length) q0 sy)) rfl (by kernel_rfl) rfl ?_
  have hS1 : Chg [] w w.drew := Chg.drew _ _
  replace hr := hr.chg0 hS1
  replace hs := hs.chg0 hS1
  replace hC := hC.then_ hS1
  refine PL.takeP rfl (Pure.move rfl) rfl hr ?_
  refine PL.takeP rfl (Pure.move rfl) rfl hr ?_
  refine PL.takeP rfl (Pure.nilCheck rfl) rfl hr ?_
  refine PL.takeP rfl (Pure.fieldAddr (r := 7) Tryd.runUnderlying80 rfl Tryd.sizeOf78 rfl rfl) rfl hr ?_
  refine PL.take rfl (fun w_ h_ => Run.load (i := 7) rfl Tryd.isAgg78 h_ (by omega) rfl) rfl hr ?_
  refine PL.takeP rfl (Pure.move rfl) rfl hr ?_
  refine PL.takeP rfl (Pure.nilCheck rfl) rfl hr ?_
  refine PL.takeP rfl (Pure.fieldAddr (r := 9) Tryd.runUnderlying80 rfl Tryd.sizeOf3 rfl rfl) rfl hr ?_
  refine PL.take rfl (fun w_ h_ => Run.load (i := 9) rfl Tryd.isAgg3 h_ (by omega) rfl) rfl hr ?_
  refine PL.takeP rfl (Pure.move rfl) rfl hr ?_
  refine PL.takeP rfl (Pure.move rfl) rfl hr ?_
  refine PL.takeP rfl (Pure.build (cs := [.int .i64 (q0 : Int), .int .i64 (b : Int), .int .i64 (st : Int)]) rfl (by kernel_rfl)) rfl hr ?_
  have hslt := hs.lt
  refine PL.buildSliceC (cs := [.int .i64 (q0 : Int), .int .i64 (b : Int), .int .i64 (st : Int)]) rfl rfl Tryd.runUnderlying78 Tryd.sizeOf85 Tryd.zeroValue85 (by decide) (by decide) (fill_one (by simp) rfl rfl) rfl (fun w_ h_ => hr.chg0 h_) ?_
  intro q w2 hq hc2 hg_q
  have lt_r_q : r < q := by have := hr.lt; omega
  have ge_q : w.heap.size ≤ q := by have := hC.size; omega
  replace hr := hr.chg0 hc2
  replace hs := hs.chg0 hc2
  replace hC := hC.then_ hc2
  have hCs := hC.size
  refine PL.appendCO (size := 3) (news := [.int .i64 (q0 : Int), .int .i64 (b : Int), .int .i64 (st : Int)]) (v := pv) rfl rfl rfl Tryd.underlying78 (.inl Tryd.underlying78) info85 rfl rfl rfl (by decide) rfl hs ((Src.of_blk (m := 1) (news := [.int .i64 (q0 : Int), .int .i64 (b : Int), .int .i64 (st : Int)]) hq rfl rfl)) (by simp [Value.oneCell']) (by show _ * 24 ≤ _; omega) (fun w_ h_ => hr.chg h_ (hs.notin hr (by decide))) ?_
  intro pv2 w3 hs2 hc3 ho_pv2
  have hm_pv2 := MineIn.step (show MineIn (r :: own pv) w.heap.size pv from MineIn.self _ _) (by have := hC.size; omega) ho_pv2
  replace hr := hr.chg hc3 (hs.notin hr (by decide))
  replace hC := hC.ownIn hc3 (show MineIn (r :: own pv) w.heap.size pv from MineIn.self _ _)
  have hone := hs2.oneCell
  refine PL.takeP rfl (Pure.nilCheck rfl) rfl hr ?_
  refine PL.takeP rfl (Pure.fieldAddr (r := 7) Tryd.runUnderlying80 rfl Tryd.sizeOf78 rfl rfl) rfl hr ?_
  refine PL.nilTail ?_
  refine OL.store (j := 7) rfl rfl Tryd.sizeOf78 hone hr (by omega) (rfl) ?_
  intro w4 hb4 hc4
  replace hs2 := hs2.chg hc4 (hs2.apart hr (by decide))
  replace hC := hC.trans1 hc4 (by first | exact .inr (by omega) | exact .inl (by simp))
  replace hr := hb4
  replace hs2 : RowO w4 85 3 pv2 (E ++ [(t, b, st)]).length (spotCells P (h.place) (E ++ [(t, b, st)])) := by rw [spot_snoc P _ E _ hp, List.length_append, ← hq0]; exact hs2
  refine OL.nil ?_
  refine TE.seq ?_
  refine TE.plan 15 (.cons (0, true) (.cons (1, true) (.cons (2, true) (.cons (3, true) (.cons (4, true) (.cons (5, true) (.cons (6, true) (.cons (7, true) (.cons (8, true) (.cons (9, true) (.cons (10, true) (.cons (11, true) (.cons (12, true) (.cons (13, true) (.cons (14, true) .nil))))))))))))))) (fun w_ => Chg [] w4 w_) rfl (by kernel_rfl) rfl ?_
  have hS5 : Chg [] w4 w4.drew := Chg.drew _ _
  refine PL.takeP rfl (Pure.move rfl) rfl hS5 ?_
  refine PL.takeP rfl (Pure.move rfl) rfl hS5 ?_
  refine PL.takeP rfl (Pure.nilCheck rfl) rfl hS5 ?_
  refine PL.takeP rfl (Pure.fieldAddr (r := 9) Tryd.runUnderlying80 rfl Tryd.sizeOf3 rfl rfl) rfl hS5 ?_
  refine PL.take rfl (fun w_ h_ => Run.load (i := 9) rfl Tryd.isAgg3 (hr.chg0 h_) (by omega) rfl) rfl hS5 ?_
  refine PL.takeP rfl (Pure.move rfl) rfl hS5 ?_
  refine PL.takeP rfl (Pure.add rfl rfl (i64 (by omega) (by omega))) rfl hS5 ?_
  refine PL.takeP rfl (Pure.move rfl) rfl hS5 ?_
  refine PL.takeP rfl (Pure.nilCheck rfl) rfl hS5 ?_
  refine PL.takeP rfl (Pure.fieldAddr (r := 0) Tryd.runUnderlying80 rfl Tryd.sizeOf66 rfl rfl) rfl hS5 ?_
  refine PL.takeP rfl (Pure.fieldAddr (r := 2) Tryd.runUnderlying66 rfl Tryd.sizeOf3 rfl rfl) rfl hS5 ?_
  refine PL.take rfl (fun w_ h_ => Run.load (i := 2) rfl Tryd.isAgg3 (hr.chg0 h_) (by omega) rfl) rfl hS5 ?_
  refine PL.takeP rfl (Pure.rem rfl rfl (by omega) (by omega)) rfl hS5 ?_
  refine PL.cast (.int .i64 (((h.place + used E + b) % P : Nat) : Int)) 34 rfl (congrArg (Value.int .i64) (by rw [show (h.place + used E + b) % P = (q0 + b) % P by rw [hq0, Nat.mod_add_mod]]; push_cast; rfl)) ?_
  refine PL.takeP rfl (Pure.nilCheck rfl) rfl hS5 ?_
  refine PL.takeP rfl (Pure.fieldAddr (r := 9) Tryd.runUnderlying80 rfl Tryd.sizeOf3 rfl rfl) rfl hS5 ?_
  refine PL.nilTail ?_
  replace hr := hr.chg0 hS5
  replace hs2 := hs2.chg0 hS5
  replace hC := hC.then_ hS5
  refine OL.store (j := 9) rfl rfl Tryd.sizeOf3 rfl hr (by omega) (rfl) ?_
  intro w6 hb6 hc6
  replace hs2 := hs2.chg hc6 (hs2.apart hr (by decide))
  replace hC := hC.trans1 hc6 (by first | exact .inr (by omega) | exact .inl (by simp))
  replace hr := hb6
  refine OL.nil ?_
  refine TE.region ?_
  refine OL.pure (Pure.move rfl) rfl ?_
  refine OL.pure (Pure.nilCheck rfl) rfl ?_
  refine OL.pure (Pure.fieldAddr (r := 8) Tryd.runUnderlying80 rfl Tryd.sizeOf3 rfl rfl) rfl ?_
  refine OL.val (Run.load (i := 8) rfl Tryd.isAgg3 hr (by omega) rfl) rfl ?_
  refine OL.pure (Pure.add rfl rfl (i64 (by omega) (by omega))) rfl ?_
  refine OL.cast (.int .i64 ((h.first + E.length + 1 : Nat) : Int)) 41 rfl (congrArg (Value.int .i64) (by omega)) ?_
  refine OL.pure (Pure.nilCheck rfl) rfl ?_
  refine OL.pure (Pure.fieldAddr (r := 8) Tryd.runUnderlying80 rfl Tryd.sizeOf3 rfl rfl) rfl ?_
  refine OL.store (j := 8) rfl rfl Tryd.sizeOf3 rfl hr (by omega) (rfl) ?_
  intro w7 hb7 hc7
  replace hs2 := hs2.chg hc7 (hs2.apart hr (by decide))
  replace hC := hC.trans1 hc7 (by first | exact .inr (by omega) | exact .inl (by simp))
  replace hr := hb7
  refine OL.nil ?_
  exact TE.fin (vs := []) Tryd.results36 (trivial) ⟨pv2, rfl, hr, hs2, hC, fun k hk => (ho_pv2 k hk).imp id (fun h_ => by omega)⟩

end Go.Proofs.YtcologcjhenmkaaDoor
/- Format, walked -/
set_option linter.unusedVariables false
set_option maxRecDepth 4000
namespace Go.Proofs.YtcologcjhenmkaaDoor
open Go.V Go.Rg Go.Frm Go.Sha
set_option maxHeartbeats 1000000 in
theorem format_any {tK tF : TypeId} {V : Int → List UInt8} {ks : List Nat} (d n c a P : Nat) (haP : a + 2 + P ≤ n) (hn : n ≤ 8192) (hP2 : 2 ≤ P) (hg : fmtGen V a P ≤ 2147483647) (hc0 : c ≤ 1073741823) (hk0 : 1 ∉ ks) (hk1 : 0 ∉ ks) (w : World) (hD : Dk 93 97 w d n (V) (c) false ks) (hK : Blk w 1 tK (iv .u32 K)) (hF : Blk w 0 tF (iv .i64 fldL)) : Calls Tryd.prog 13 #[.pointer (some ⟨d, 0, none⟩), .int .i64 (a : Int), .int .i64 ((P + 2 : Nat) : Int)] w (fun e w_ => ∃ ks_, e = .returned (.int .i64 0) ∧ Dk 93 97 w_ d n (wrHead V a (fmtHd V a P)) (0) false ks_ ∧ Chg ks w w_ ∧ Grew ks ks_ w) := by
  refine calls_of_TE (vs := [.pointer (some ⟨d, 0, none⟩), .int .i64 (a : Int), .int .i64 ((P + 2 : Nat) : Int)]) Tryd.func13 Tryd.ntmps13 rfl (by simp) ?_
  have hC : Chg ks w w := Chg.refl _ _
  have hgr : Grew ks ks w := Grew.refl _ _
  have hCz : w.heap.size ≤ w.heap.size := Nat.le_refl _
  have h0w : 1 < w.heap.size := hK.lt
  have h1w : 0 < w.heap.size := hF.lt
  have hP : 0 < P := by omega
  have hV : Full V := hD.len
  refine TE.seq ?_
  refine TE.region ?_
  refine OL.pure (Pure.assign rfl) rfl ?_
  refine OL.nil ?_
  refine TE.seq ?_
  refine TE.region ?_
  refine OL.pure (Pure.move rfl) rfl ?_
  refine OL.pure (Pure.move rfl) rfl ?_
  refine OL.pure (Pure.move rfl) rfl ?_
  refine OL.call rfl Tryd.call32 rfl (check_ok d n c a P haP hn hP2 _ hD) ?_
  rintro _ w1 ⟨rfl, hc1⟩
  replace hD := hD.chg0 hc1
  replace hK := hK.chg0 hc1
  replace hF := hF.chg0 hc1
  replace hC := hC.then_ hc1
  refine ⟨_, rfl, ?_⟩
  refine OL.pure (Pure.move rfl) rfl ?_
  refine OL.pure (Pure.extract (vs := [.agg (arv d a P).toArray, .int .i64 0]) (i := 0) rfl rfl) rfl ?_
  refine OL.pure (Pure.extract (vs := [.agg (arv d a P).toArray, .int .i64 0]) (i := 1) rfl rfl) rfl ?_
  refine OL.alloc Tryd.zeroValue66 rfl ?_
  intro g7 w2 h7 hc2 hg_g7
  have lt_1_g7 : 1 < g7 := by have := hK.lt; omega
  have lt_0_g7 : 0 < g7 := by have := hF.lt; omega
  have ge_g7 : w.heap.size ≤ g7 := by have := hC.size; omega
  replace hD := hD.chg0 hc2
  replace hK := hK.chg0 hc2
  replace hF := hF.chg0 hc2
  replace hC := hC.then_ hc2
  refine OL.storeRow (vs := arv d a P) rfl rfl (rfl) (by simp [arv, Value.oneCell']) h7 (Nat.le_refl 3) ?_
  intro w3 hb3 hc3
  replace hD := hD.chg hc3 (hD.apart h7 (by decide) (by decide))
  replace hK := hK.chg hc3 (by simp; omega)
  replace hF := hF.chg hc3 (by simp; omega)
  replace hC := hC.trans1 hc3 (by first | exact .inr (by omega) | exact .inl (by simp))
  replace h7 := hb3
  replace h7 := h7.all rfl
  refine OL.pure (Pure.assign rfl) rfl ?_
  refine OL.nil ?_
  refine TE.seq ?_
  refine TE.seq ?_
  refine TE.region ?_
  refine OL.pure (Pure.move rfl) rfl ?_
  refine OL.pure (Pure.neq rfl rfl) rfl ?_
  refine OL.cast (.bool false) 27 rfl (rfl) ?_
  refine OL.nil ?_
  refine TE.condF rfl rfl ?_
  refine TE.skip ?_
  refine TE.seq ?_
  refine TE.region ?_
  refine OL.pure (Pure.assign rfl) rfl ?_
  refine OL.nil ?_
  refine TE.seq ?_
  refine TE.seq ?_
  refine TE.region ?_
  refine OL.pure (Pure.move rfl) rfl ?_
  refine OL.nil ?_
  refine TE.block ?_
  refine TE.cast (.int .i64 (hdMax V a P 0 : Int)) 9 rfl (rfl) ?_
  refine TE.loopInv (σ := Nat) [7, 9, 29] (fun s_ w_ => s_ ≤ 2 ∧ Chg ks w w_ ∧ Dk 93 97 w_ d n (V) (c) false ks ∧ Blk w_ 1 tK (iv .u32 K) ∧ Blk w_ 0 tF (iv .i64 fldL) ∧ Blk w_ g7 66 (arv d a P)) (fun s_ => [(7, .pointer (some ⟨g7, 0, none⟩)), (9, .int .i64 (hdMax V a P s_ : Int)), (29, .int .i64 (s_ : Int))]) (fun s_ => 2 - s_) 0 ⟨by omega, hC, hD, hK, hF, h7⟩ rfl ?_
  rintro i w4 ⟨hi, hC, hD, hK, hF, h7⟩ ih4
  refine TE.seq ?_
  refine TE.region ?_
  refine OL.pure (Pure.lss rfl rfl) rfl ?_
  refine OL.nil ?_
  refine TE.seq ?_
  refine TE.ite rfl (fun hlt => ?_) (fun hlt => ?_)
  ·
    replace hlt : i < 2 := by omega
    have hml := hdMax_le V a P i
    replace hCz := hC.size
    refine TE.skip ?_
    refine TE.seq ?_
    refine TE.block ?_
    refine TE.seq ?_
    refine TE.region ?_
    refine OL.pure (Pure.move rfl) rfl ?_
    refine OL.pure (Pure.assign rfl) rfl ?_
    refine OL.nil ?_
    refine TE.seq ?_
    refine TE.region ?_
    refine OL.val (Run.loadAll rfl Tryd.underlying66 rfl h7 (rfl)) rfl ?_
    refine OL.pure (Pure.move rfl) rfl ?_
    refine OL.call rfl Tryd.call33 rfl (readhead_any d n c a P i hP haP hn hlt (by omega) _ hD hK hF) ?_
    rintro _ wr ⟨x, rfl, hx, hcr⟩
    replace hD := hD.chg0 hcr
    replace hK := hK.chg0 hcr
    replace hF := hF.chg0 hcr
    replace h7 := h7.chg0 hcr
    replace hC := hC.then_ hcr
    refine ⟨_, rfl, ?_⟩
    refine OL.pure (Pure.move rfl) rfl ?_
    refine OL.pure (Pure.extract (vs := [.agg x.cells.toArray, .bool (rdHead (V ((a + i : Nat) : Int)) P i).isSome, .int .i64 0]) (i := 0) rfl rfl) rfl ?_
    refine OL.pure (Pure.extract (vs := [.agg x.cells.toArray, .bool (rdHead (V ((a + i : Nat) : Int)) P i).isSome, .int .i64 0]) (i := 1) rfl rfl) rfl ?_
    refine OL.pure (Pure.extract (vs := [.agg x.cells.toArray, .bool (rdHead (V ((a + i : Nat) : Int)) P i).isSome, .int .i64 0]) (i := 2) rfl rfl) rfl ?_
    refine OL.alloc Tryd.zeroValue70 rfl ?_
    intro g11 w5 h11 hc5 hg_g11
    have lt_1_g11 : 1 < g11 := by have := hK.lt; omega
    have lt_0_g11 : 0 < g11 := by have := hF.lt; omega
    have lt_g7_g11 : g7 < g11 := by have := h7.lt; omega
    have ge_g11 : w.heap.size ≤ g11 := by have := hC.size; omega
    replace hD := hD.chg0 hc5
    replace hK := hK.chg0 hc5
    replace hF := hF.chg0 hc5
    replace h7 := h7.chg0 hc5
    replace hC := hC.then_ hc5
    have h11 : Blk w5 g11 70 (Hd.zero.cells) := h11
    refine OL.storeRow (vs := x.cells) rfl rfl (rfl) (by simp [Hd.cells, Value.oneCell']) h11 (Nat.le_refl 4) ?_
    intro w6 hb6 hc6
    replace hD := hD.chg hc6 (hD.apart h11 (by decide) (by decide))
    replace hK := hK.chg hc6 (by simp; omega)
    replace hF := hF.chg hc6 (by simp; omega)
    replace h7 := h7.chg hc6 (by simpa using h7.ne h11 (by decide))
    replace hC := hC.trans1 hc6 (by first | exact .inr (by omega) | exact .inl (by simp))
    replace h11 := hb6
    replace h11 := h11.all rfl
    refine OL.pure (Pure.assign rfl) rfl ?_
    cases hrd : rdHead (V ((a + i : Nat) : Int)) P i with
    | none =>
      refine OL.cast (.bool false) 12 rfl (rfl) ?_
      have hmx : hdMax V a P (i + 1) = hdMax V a P i := by simp only [hdMax]; rw [hdGen_none hrd]; omega
      refine OL.pure (Pure.assign rfl) rfl ?_
      refine OL.nil ?_
      refine TE.seq ?_
      refine TE.seq ?_
      refine TE.region ?_
      refine OL.pure (Pure.move rfl) rfl ?_
      refine OL.pure (Pure.neq rfl rfl) rfl ?_
      refine OL.cast (.bool false) 40 rfl (rfl) ?_
      refine OL.nil ?_
      refine TE.condF rfl rfl ?_
      refine TE.skip ?_
      refine TE.seq ?_
      refine TE.region ?_
      refine OL.pure (Pure.move rfl) rfl ?_
      refine OL.nil ?_
      refine TE.condF rfl rfl ?_
      refine TE.skip ?_
      refine TE.inBlock ?_
      refine TE.region ?_
      refine OL.pure (Pure.add rfl rfl (i64 (by omega) (by omega))) rfl ?_
      refine OL.pure (Pure.move rfl) rfl ?_
      refine OL.nil ?_
      refine TE.cast (.int .i64 (hdMax V a P (i + 1) : Int)) 9 rfl (by rw [hmx]) ?_
      exact TE.sub [7, 9, 29] rfl (ih4 (i + 1) _ ⟨by omega, hC, hD, hK, hF, h7⟩ (by omega))
    | some y =>
      refine OL.cast (.bool true) 12 rfl (rfl) ?_
      obtain rfl := hx y hrd
      have hyg := rdHead_gen hrd
      have hmx : hdMax V a P (i + 1) = max (hdMax V a P i) (x.gen + 1) := by simp only [hdMax]; rw [hdGen_some hrd]
      refine OL.pure (Pure.assign rfl) rfl ?_
      refine OL.nil ?_
      refine TE.seq ?_
      refine TE.seq ?_
      refine TE.region ?_
      refine OL.pure (Pure.move rfl) rfl ?_
      refine OL.pure (Pure.neq rfl rfl) rfl ?_
      refine OL.cast (.bool false) 40 rfl (rfl) ?_
      refine OL.nil ?_
      refine TE.condF rfl rfl ?_
      refine TE.skip ?_
      refine TE.seq ?_
      refine TE.region ?_
      refine OL.pure (Pure.move rfl) rfl ?_
      refine OL.nil ?_
      refine TE.condT rfl rfl ?_
      refine TE.region ?_
      refine OL.pure (Pure.move rfl) rfl ?_
      refine OL.pure (Pure.fieldAddr (r := 0) Tryd.runUnderlying70 rfl Tryd.sizeOf3 rfl rfl) rfl ?_
      refine OL.val (Run.load (i := 0) rfl Tryd.isAgg3 h11 (by omega) rfl) rfl ?_
      refine OL.pure (Pure.add rfl rfl (i64 (by omega) (by omega))) rfl ?_
      refine OL.pure (Pure.max rfl rfl) rfl ?_
      refine OL.cast (.int .i64 (hdMax V a P (i + 1) : Int)) 47 rfl (congrArg (Value.int .i64) (by rw [hmx]; omega)) ?_
      refine OL.pure (Pure.assign rfl) rfl ?_
      refine OL.nil ?_
      refine TE.inBlock ?_
      refine TE.region ?_
      refine OL.pure (Pure.add rfl rfl (i64 (by omega) (by omega))) rfl ?_
      refine OL.pure (Pure.move rfl) rfl ?_
      refine OL.nil ?_
      exact TE.sub [7, 9, 29] rfl (ih4 (i + 1) _ ⟨by omega, hC, hD, hK, hF, h7⟩ (by omega))
  ·
    obtain rfl : i = 2 := by omega
    refine TE.exit rfl ?_
    refine TE.seq ?_
    refine TE.seq ?_
    refine TE.region ?_
    refine OL.pure (Pure.fieldAddr (r := 2) Tryd.runUnderlying66 rfl Tryd.sizeOf3 rfl rfl) rfl ?_
    refine OL.val (Run.load (i := 2) rfl Tryd.isAgg3 h7 (by omega) rfl) rfl ?_
    refine OL.pure (Pure.move rfl) rfl ?_
    refine OL.nil ?_
    refine TE.block ?_
    refine TE.cast (.int .i64 (fmtG V a P 0 : Int)) 9 rfl (by rw [hdMax_two]) ?_
    refine TE.loopInv (σ := Nat) [7, 9, 50, 51] (fun s_ w_ => s_ ≤ P ∧ Chg ks w w_ ∧ Dk 93 97 w_ d n (V) (c) false ks ∧ Blk w_ 1 tK (iv .u32 K) ∧ Blk w_ 0 tF (iv .i64 fldL) ∧ Blk w_ g7 66 (arv d a P)) (fun s_ => [(7, .pointer (some ⟨g7, 0, none⟩)), (9, .int .i64 (fmtG V a P s_ : Int)), (50, .int .i64 (↑P)), (51, .int .i64 (s_ : Int))]) (fun s_ => P - s_) 0 ⟨by omega, hC, hD, hK, hF, h7⟩ rfl ?_
    rintro i w7 ⟨hi, hC, hD, hK, hF, h7⟩ ih7
    refine TE.seq ?_
    refine TE.region ?_
    refine OL.pure (Pure.lss rfl rfl) rfl ?_
    refine OL.nil ?_
    refine TE.seq ?_
    refine TE.ite rfl (fun hlt => ?_) (fun hlt => ?_)
    ·
      replace hlt : i < P := by omega
      have hml := fmtG_bound hV a P i
      refine TE.skip ?_
      refine TE.seq ?_
      refine TE.block ?_
      refine TE.seq ?_
      refine TE.region ?_
      refine OL.pure (Pure.move rfl) rfl ?_
      refine OL.pure (Pure.assign rfl) rfl ?_
      refine OL.nil ?_
      refine TE.seq ?_
      refine TE.region ?_
      refine OL.val (Run.loadAll rfl Tryd.underlying66 rfl h7 (rfl)) rfl ?_
      refine OL.pure (Pure.move rfl) rfl ?_
      refine OL.pure (Pure.fieldAddr (r := 2) Tryd.runUnderlying66 rfl Tryd.sizeOf3 rfl rfl) rfl ?_
      refine OL.val (Run.load (i := 2) rfl Tryd.isAgg3 h7 (by omega) rfl) rfl ?_
      refine OL.call rfl Tryd.call34 rfl (find_any d n c a P i P hP haP hn hlt (Nat.le_refl _) (by omega) _ hD hK hF) ?_
      rintro _ w8 ⟨rfl, hc8⟩
      replace hD := hD.chg0 hc8
      replace hK := hK.chg0 hc8
      replace hF := hF.chg0 hc8
      replace h7 := h7.chg0 hc8
      replace hC := hC.then_ hc8
      refine ⟨_, rfl, ?_⟩
      refine OL.pure (Pure.move rfl) rfl ?_
      refine OL.pure (Pure.extract (vs := [.agg (find V a P i P).1.cells.toArray, .int .i64 ((find V a P i P).2.1 : Int), .bool (find V a P i P).2.2, .int .i64 0]) (i := 0) rfl rfl) rfl ?_
      refine OL.pure (Pure.extract (vs := [.agg (find V a P i P).1.cells.toArray, .int .i64 ((find V a P i P).2.1 : Int), .bool (find V a P i P).2.2, .int .i64 0]) (i := 1) rfl rfl) rfl ?_
      refine OL.pure (Pure.extract (vs := [.agg (find V a P i P).1.cells.toArray, .int .i64 ((find V a P i P).2.1 : Int), .bool (find V a P i P).2.2, .int .i64 0]) (i := 2) rfl rfl) rfl ?_
      refine OL.pure (Pure.extract (vs := [.agg (find V a P i P).1.cells.toArray, .int .i64 ((find V a P i P).2.1 : Int), .bool (find V a P i P).2.2, .int .i64 0]) (i := 3) rfl rfl) rfl ?_
      refine OL.alloc Tryd.zeroValue74 rfl ?_
      intro g15 w9 h15 hc9 hg_g15
      have lt_1_g15 : 1 < g15 := by have := hK.lt; omega
      have lt_0_g15 : 0 < g15 := by have := hF.lt; omega
      have lt_g7_g15 : g7 < g15 := by have := h7.lt; omega
      have ge_g15 : w.heap.size ≤ g15 := by have := hC.size; omega
      replace hD := hD.chg0 hc9
      replace hK := hK.chg0 hc9
      replace hF := hF.chg0 hc9
      replace h7 := h7.chg0 hc9
      replace hC := hC.then_ hc9
      have h15 : Blk w9 g15 74 (Fr.zero.cells) := h15
      refine OL.storeRow (vs := (find V a P i P).1.cells) rfl rfl (rfl) (by simp [Fr.cells, Value.oneCell']) h15 (Nat.le_refl 4) ?_
      intro w10 hb10 hc10
      replace hD := hD.chg hc10 (hD.apart h15 (by decide) (by decide))
      replace hK := hK.chg hc10 (by simp; omega)
      replace hF := hF.chg hc10 (by simp; omega)
      replace h7 := h7.chg hc10 (by simpa using h7.ne h15 (by decide))
      replace hC := hC.trans1 hc10 (by first | exact .inr (by omega) | exact .inl (by simp))
      replace h15 := hb10
      replace h15 := h15.all rfl
      refine OL.pure (Pure.assign rfl) rfl ?_
      refine OL.pure (Pure.assign rfl) rfl ?_
      cases hf : (find V a P i P).2.2 with
      | false =>
        refine OL.cast (.bool false) 17 rfl (rfl) ?_
        have hmx : fmtG V a P (i + 1) = fmtG V a P i := by simp only [fmtG]; rw [if_neg (by rw [hf]; simp)]
        refine OL.pure (Pure.assign rfl) rfl ?_
        refine OL.nil ?_
        refine TE.seq ?_
        refine TE.seq ?_
        refine TE.region ?_
        refine OL.pure (Pure.move rfl) rfl ?_
        refine OL.pure (Pure.neq rfl rfl) rfl ?_
        refine OL.cast (.bool false) 65 rfl (rfl) ?_
        refine OL.nil ?_
        refine TE.condF rfl rfl ?_
        refine TE.skip ?_
        refine TE.seq ?_
        refine TE.region ?_
        refine OL.pure (Pure.move rfl) rfl ?_
        refine OL.nil ?_
        refine TE.condF rfl rfl ?_
        refine TE.skip ?_
        refine TE.inBlock ?_
        refine TE.region ?_
        refine OL.pure (Pure.add rfl rfl (i64 (by omega) (by omega))) rfl ?_
        refine OL.pure (Pure.move rfl) rfl ?_
        refine OL.nil ?_
        refine TE.cast (.int .i64 (fmtG V a P (i + 1) : Int)) 9 rfl (by rw [hmx]) ?_
        exact TE.sub [7, 9, 50, 51] rfl (ih7 (i + 1) _ ⟨by omega, hC, hD, hK, hF, h7⟩ (by omega))
      | true =>
        refine OL.cast (.bool true) 17 rfl (rfl) ?_
        have hfh := find_hdr hV hf
        have hfs := hfh.2.2.1; have hfs2 := hfh.2.2.2.2.1
        have hmx : fmtG V a P (i + 1) = max (fmtG V a P i) ((find V a P i P).1.stream.toNat + 1) := by simp only [fmtG]; rw [if_pos hf]
        refine OL.pure (Pure.assign rfl) rfl ?_
        refine OL.nil ?_
        refine TE.seq ?_
        refine TE.seq ?_
        refine TE.region ?_
        refine OL.pure (Pure.move rfl) rfl ?_
        refine OL.pure (Pure.neq rfl rfl) rfl ?_
        refine OL.cast (.bool false) 65 rfl (rfl) ?_
        refine OL.nil ?_
        refine TE.condF rfl rfl ?_
        refine TE.skip ?_
        refine TE.seq ?_
        refine TE.region ?_
        refine OL.pure (Pure.move rfl) rfl ?_
        refine OL.nil ?_
        refine TE.condT rfl rfl ?_
        refine TE.region ?_
        refine OL.pure (Pure.move rfl) rfl ?_
        refine OL.pure (Pure.fieldAddr (r := 1) Tryd.runUnderlying74 rfl Tryd.sizeOf3 rfl rfl) rfl ?_
        refine OL.val (Run.load (i := 1) rfl Tryd.isAgg3 h15 (by omega) rfl) rfl ?_
        refine OL.cast (.int .i64 ((find V a P i P).1.stream.toNat : Int)) 70 rfl (congrArg (Value.int .i64) (by omega)) ?_
        refine OL.pure (Pure.add rfl rfl (i64 (by omega) (by omega))) rfl ?_
        refine OL.pure (Pure.max rfl rfl) rfl ?_
        refine OL.cast (.int .i64 (fmtG V a P (i + 1) : Int)) 72 rfl (congrArg (Value.int .i64) (by rw [hmx]; omega)) ?_
        refine OL.pure (Pure.assign rfl) rfl ?_
        refine OL.nil ?_
        refine TE.inBlock ?_
        refine TE.region ?_
        refine OL.pure (Pure.add rfl rfl (i64 (by omega) (by omega))) rfl ?_
        refine OL.pure (Pure.move rfl) rfl ?_
        refine OL.nil ?_
        exact TE.sub [7, 9, 50, 51] rfl (ih7 (i + 1) _ ⟨by omega, hC, hD, hK, hF, h7⟩ (by omega))
    ·
      obtain rfl : i = P := by omega
      refine TE.cast (.int .i64 (fmtGen V a i : Int)) 9 rfl (rfl) ?_
      refine TE.exit rfl ?_
      refine TE.seq ?_
      refine TE.seq ?_
      refine TE.region ?_
      refine OL.pure (Pure.move rfl) rfl ?_
      refine OL.pure (Pure.gtr rfl rfl) rfl ?_
      refine OL.cast (.bool false) 75 rfl (congrArg Value.bool (decide_eq_false (by omega))) ?_
      refine OL.nil ?_
      refine TE.condF rfl rfl ?_
      refine TE.skip ?_
      refine TE.seq ?_
      refine TE.region ?_
      refine OL.val (Run.loadAll rfl Tryd.underlying66 rfl h7 (rfl)) rfl ?_
      refine OL.pure (Pure.move rfl) rfl ?_
      refine OL.pure (Pure.move rfl) rfl ?_
      refine OL.pure (Pure.build (cs := (fmtHd V a i).cells) rfl (by kernel_rfl)) rfl ?_
      have hk : HdOk i (fmtHd V a i) := ⟨hg, by simp [fmtHd], by simp [fmtHd]; omega, by simp [fmtHd]⟩
      replace hCz := hC.size
      refine OL.call rfl Tryd.call35 rfl (writehead_any d n c a i (fmtHd V a i) hP haP hn hk (by omega) hk0 hk1 _ hD hK hF) ?_
      rintro _ w11 ⟨ks11, rfl, hD11, hc11, hgr11⟩
      have hK_ := hK.chg hc11 hk0
      have hF_ := hF.chg hc11 hk1
      have h7_ := h7.chg hc11 (hD.notin h7 (by decide) (by decide))
      replace hk0 := Grew.out hgr11 hk0 hK.lt; replace hk1 := Grew.out hgr11 hk1 hF.lt
      replace hK := hK_; clear hK_
      replace hF := hF_; clear hF_
      replace h7 := h7_; clear h7_
      replace hC := hC.trans hc11 hgr
      replace hgr := hgr.trans hgr11 hCz
      replace hD := hD11
      replace hCz := hC.size
      refine ⟨_, rfl, ?_⟩
      refine OL.pure (Pure.assign rfl) rfl ?_
      refine OL.nil ?_
      exact TE.ret (vs := [.int .i64 0]) Tryd.results13 (⟨rfl, trivial⟩) ⟨_, rfl, hD, hC, hgr⟩

end Go.Proofs.YtcologcjhenmkaaDoor
/- Sync, walked -/
set_option linter.unusedVariables false
set_option maxRecDepth 4000
namespace Go.Proofs.YtcologcjhenmkaaDoor
open Go.V Go.Rg Go.Frm Go.Sha
set_option maxHeartbeats 1000000 in
theorem sync_any {V : Int → List UInt8} {ks rs : List Nat} {S : Rs} (d n c a P r : Nat) (hP : 0 < P) (haP : a + 2 + P ≤ n) (hn : n ≤ 8192) (hpl : S.hd.place < P) (hnx : S.next ≤ 1099511627776) (hc0 : c ≤ 1073741823) (w : World) (hD : Dk 93 97 w d n (V) (c) false ks) (hR : RgK 80 85 w r d a P (S) rs) : Calls Tryd.prog 20 #[.pointer (some ⟨r, 0, none⟩)] w (fun e w_ => ∃ ks_ rs_, e = .returned (.int .i64 0) ∧ Dk 93 97 w_ d n (V) (0) false ks_ ∧ RgK 80 85 w_ r d a P (S) rs_ ∧ Chg (rs ++ ks) w w_ ∧ Grew ks ks_ w ∧ Grew rs rs_ w) := by
  refine calls_of_TU (vs := [.pointer (some ⟨r, 0, none⟩)]) Tryd.func20 Tryd.ntmps20 rfl (by simp) ?_
  obtain ⟨pv, sy, hr, hs, rfl⟩ := hR
  have hC : Chg ((r :: own pv) ++ ks) w w := Chg.refl _ _
  have hCz : w.heap.size ≤ w.heap.size := Nat.le_refl _
  have hgr : Grew ks ks w := Grew.refl _ _
  have hgi : Grew ((r :: own pv) ++ ks) ks w := fun k hk => .inl (List.mem_append_right _ hk)
  refine TE.seq ?_
  refine TE.region ?_
  refine OL.alloc Tryd.zeroValue31 rfl ?_
  intro g2 w1 h2 hc1 hg_g2
  have lt_r_g2 : r < g2 := by have := hr.lt; omega
  have ge_g2 : w.heap.size ≤ g2 := by have := hC.size; omega
  replace hD := hD.chg0 hc1
  replace hr := hr.chg0 hc1
  replace hs := hs.chg0 hc1
  replace hC := hC.then_ hc1
  have h2 : Blk w1 g2 31 ([.int .i64 0]) := h2
  refine OL.nil ?_
  refine TE.seq ?_
  refine TE.seq ?_
  refine TE.region ?_
  refine OL.pure (Pure.move rfl) rfl ?_
  refine OL.call rfl Tryd.call39 rfl (ready_any d a P r S.hd pv S.next _ sy _ hr) ?_
  rintro _ _ ⟨rfl, rfl⟩
  refine ⟨_, rfl, ?_⟩
  refine OL.pure (Pure.assign rfl) rfl ?_
  refine OL.nil ?_
  refine TE.seq ?_
  refine TE.region ?_
  refine OL.pure (Pure.move rfl) rfl ?_
  refine OL.pure (Pure.neq rfl rfl) rfl ?_
  refine OL.cast (.bool false) 8 rfl (rfl) ?_
  refine OL.nil ?_
  refine TE.condF rfl rfl ?_
  refine TE.skip ?_
  refine TE.seq ?_
  refine TE.region ?_
  refine OL.pure (Pure.move rfl) rfl ?_
  refine OL.defer rfl ?_
  refine OL.nil ?_
  refine TE.seq ?_
  refine TE.seq ?_
  refine TE.region ?_
  refine OL.pure (Pure.move rfl) rfl ?_
  refine OL.pure (Pure.nilCheck rfl) rfl ?_
  refine OL.pure (Pure.fieldAddr (r := 0) Tryd.runUnderlying80 rfl Tryd.sizeOf66 rfl rfl) rfl ?_
  refine OL.pure (Pure.fieldAddr (r := 0) Tryd.runUnderlying66 rfl Tryd.sizeOf26 rfl rfl) rfl ?_
  refine OL.val (Run.load (i := 0) rfl Tryd.isAgg26 hr (by omega) rfl) rfl ?_
  refine OL.call rfl Tryd.call42 rfl (dflush_any d n c (by omega) _ hD) ?_
  rintro _ w2 ⟨ks2, rfl, hD2, hc2, hgr2⟩
  have hr_ := hr.chg hc2 (hD.notin hr (by decide) (by decide))
  have hs_ := hs.chg hc2 (hD.apartRO hs (by decide) (by decide))
  have h2_ := h2.chg hc2 (hD.notin h2 (by decide) (by decide))
  replace hr := hr_; clear hr_
  replace hs := hs_; clear hs_
  replace h2 := h2_; clear h2_
  replace hCz := hC.size
  replace hC := hC.trans hc2 hgi
  replace hgr := hgr.trans hgr2 hCz
  replace hgi := hgi.trans hgr2 hCz
  replace hD := hD2
  replace hCz := hC.size
  refine ⟨_, rfl, ?_⟩
  refine OL.pure (Pure.assign rfl) rfl ?_
  refine OL.nil ?_
  refine TE.seq ?_
  refine TE.region ?_
  refine OL.pure (Pure.move rfl) rfl ?_
  refine OL.pure (Pure.neq rfl rfl) rfl ?_
  refine OL.cast (.bool false) 18 rfl (rfl) ?_
  refine OL.nil ?_
  refine TE.condF rfl rfl ?_
  refine TE.skip ?_
  refine TE.seq ?_
  refine TE.region ?_
  refine OL.pure (Pure.move rfl) rfl ?_
  refine OL.pure (Pure.move rfl) rfl ?_
  refine OL.pure (Pure.nilCheck rfl) rfl ?_
  refine OL.pure (Pure.fieldAddr (r := 8) Tryd.runUnderlying80 rfl Tryd.sizeOf3 rfl rfl) rfl ?_
  refine OL.val (Run.load (i := 8) rfl Tryd.isAgg3 hr (by omega) rfl) rfl ?_
  refine OL.pure (Pure.nilCheck rfl) rfl ?_
  refine OL.pure (Pure.fieldAddr (r := 10) Tryd.runUnderlying80 rfl Tryd.sizeOf3 rfl rfl) rfl ?_
  refine OL.store (j := 10) rfl rfl Tryd.sizeOf3 rfl hr (by omega) (rfl) ?_
  intro w3 hb3 hc3
  replace hD := hD.chg hc3 (hD.apart hr (by decide) (by decide))
  replace hs := hs.chg hc3 (hs.apart hr (by decide))
  replace h2 := h2.chg hc3 (by simpa using h2.ne hr (by decide))
  replace hC := hC.trans1 hc3 (by first | exact .inr (by omega) | exact .inl (by simp))
  replace hr := hb3
  refine OL.nil ?_
  refine TE.seq ?_
  refine TE.region ?_
  refine OL.store (j := 0) rfl rfl Tryd.sizeOf31 rfl h2 (by omega) (rfl) ?_
  intro w4 hb4 hc4
  replace hD := hD.chg hc4 (hD.apart h2 (by decide) (by decide))
  replace hr := hr.chg hc4 (by simpa using hr.ne h2 (by decide))
  replace hs := hs.chg hc4 (hs.apart h2 (by decide))
  replace hC := hC.trans1 hc4 (by first | exact .inr (by omega) | exact .inl (by simp))
  replace h2 := hb4
  refine OL.nil ?_
  refine TE.retU (fun a_ ha_ => ?_)
  refine Unw.call Tryd.call40 (note_any r g2 (0) (by omega) _ _ h2 ?_)
  exact Unw.done (vs := [.int .i64 0]) ha_ Tryd.results20 ⟨⟨_, rfl, loadCell_at Tryd.isAgg31 h2 rfl⟩, trivial⟩ ⟨_, _, rfl, hD, ⟨pv, S.next, hr, hs, rfl⟩, hC, hgr, Grew.refl _ _⟩

end Go.Proofs.YtcologcjhenmkaaDoor
/- Trim, walked -/
set_option linter.unusedVariables false
set_option maxRecDepth 4000
namespace Go.Proofs.YtcologcjhenmkaaDoor
open Go.V Go.Rg Go.Frm Go.Sha
set_option maxHeartbeats 2000000 in
theorem trim_range {tK tF : TypeId} {V : Int → List UInt8} {ks rs : List Nat} {S : Rs} (d n c a P r : Nat) (hP : 0 < P) (haP : a + 2 + P ≤ n) (hn : n ≤ 8192) (hpl : S.hd.place < P) (hnx : S.next ≤ 1099511627776) (b : Int) (hb : b < S.hd.first ∨ (S.next : Int) < b) (w : World) (hD : Dk 93 97 w d n (V) (c) false ks) (hR : RgK 80 85 w r d a P (S) rs) (hK : Blk w 1 tK (iv .u32 K)) (hF : Blk w 0 tF (iv .i64 fldL)) : Calls Tryd.prog 25 #[.pointer (some ⟨r, 0, none⟩), .int .i64 b] w (RetC (.int .i64 2) w) := by
  refine calls_of_TU (vs := [.pointer (some ⟨r, 0, none⟩), .int .i64 b]) Tryd.func25 Tryd.ntmps25 rfl (by simp) ?_
  obtain ⟨pv, sy, hr, hs, rfl⟩ := hR
  have hC : Chg [] w w := Chg.refl _ _
  refine TE.seq ?_
  refine TE.region ?_
  refine OL.alloc Tryd.zeroValue31 rfl ?_
  intro g4 w1 h4 hc1 hg_g4
  have lt_r_g4 : r < g4 := by have := hr.lt; omega
  have ge_g4 : w.heap.size ≤ g4 := by have := hC.size; omega
  replace hr := hr.chg0 hc1
  replace hC := hC.then_ hc1
  have h4 : Blk w1 g4 31 ([.int .i64 0]) := h4
  refine OL.nil ?_
  refine TE.seq ?_
  refine TE.seq ?_
  refine TE.region ?_
  refine OL.pure (Pure.move rfl) rfl ?_
  refine OL.call rfl Tryd.call39 rfl (ready_any d a P r S.hd pv S.next _ sy _ hr) ?_
  rintro _ _ ⟨rfl, rfl⟩
  refine ⟨_, rfl, ?_⟩
  refine OL.pure (Pure.assign rfl) rfl ?_
  refine OL.nil ?_
  refine TE.seq ?_
  refine TE.region ?_
  refine OL.pure (Pure.move rfl) rfl ?_
  refine OL.pure (Pure.neq rfl rfl) rfl ?_
  refine OL.cast (.bool false) 13 rfl (rfl) ?_
  refine OL.nil ?_
  refine TE.condF rfl rfl ?_
  refine TE.skip ?_
  refine TE.seq ?_
  refine TE.region ?_
  refine OL.pure (Pure.move rfl) rfl ?_
  refine OL.defer rfl ?_
  by_cases hb0 : b < S.hd.first
  ·
    refine OL.nil ?_
    refine TE.seq ?_
    refine TE.block ?_
    refine TE.seq ?_
    refine TE.region ?_
    refine OL.pure (Pure.move rfl) rfl ?_
    refine OL.pure (Pure.move rfl) rfl ?_
    refine OL.call rfl Tryd.call38 rfl (hfirst_any d a P r S.hd pv S.next _ sy _ hr) ?_
    rintro _ _ ⟨rfl, rfl⟩
    refine ⟨_, rfl, ?_⟩
    refine OL.pure (Pure.lss rfl rfl) rfl ?_
    refine OL.cast (.bool true) 20 rfl (congrArg Value.bool (decide_eq_true (by omega))) ?_
    refine OL.pure (Pure.move rfl) rfl ?_
    refine OL.pass rfl rfl rfl rfl rfl ?_
    refine OL.pass rfl rfl rfl rfl rfl ?_
    refine OL.pass rfl rfl rfl rfl rfl ?_
    refine OL.pass rfl rfl rfl rfl rfl ?_
    refine OL.pass rfl rfl rfl rfl rfl ?_
    refine OL.pass rfl rfl rfl rfl rfl ?_
    refine OL.pure (Pure.pickT rfl rfl) rfl ?_
    refine OL.pure (Pure.assign rfl) rfl ?_
    refine OL.nil ?_
    refine TE.condT rfl rfl ?_
    refine TE.seq ?_
    refine TE.region ?_
    refine OL.store (j := 0) rfl rfl Tryd.sizeOf31 rfl h4 (by omega) (rfl) ?_
    intro w2 hb2 hc2
    replace hr := hr.chg hc2 (by simpa using hr.ne h4 (by decide))
    replace hC := hC.trans1 hc2 (by first | exact .inr (by omega) | exact .inl (by simp))
    replace h4 := hb2
    refine OL.nil ?_
    refine TE.retU (fun a_ ha_ => ?_)
    refine Unw.call Tryd.call40 (note_any r g4 (2) (by omega) _ _ h4 ?_)
    exact Unw.done (vs := [.int .i64 2]) ha_ Tryd.results25 ⟨⟨_, rfl, loadCell_at Tryd.isAgg31 h4 rfl⟩, trivial⟩ ⟨rfl, hC⟩
  ·
    refine OL.nil ?_
    refine TE.seq ?_
    refine TE.block ?_
    refine TE.seq ?_
    refine TE.region ?_
    refine OL.pure (Pure.move rfl) rfl ?_
    refine OL.pure (Pure.move rfl) rfl ?_
    refine OL.call rfl Tryd.call38 rfl (hfirst_any d a P r S.hd pv S.next _ sy _ hr) ?_
    rintro _ _ ⟨rfl, rfl⟩
    refine ⟨_, rfl, ?_⟩
    refine OL.pure (Pure.lss rfl rfl) rfl ?_
    refine OL.cast (.bool false) 20 rfl (congrArg Value.bool (decide_eq_false (by omega))) ?_
    refine OL.pure (Pure.move rfl) rfl ?_
    refine OL.want rfl rfl rfl (Pure.move rfl _) rfl ?_
    refine OL.want rfl rfl rfl (Pure.move rfl _) rfl ?_
    refine OL.want rfl rfl rfl (Pure.nilCheck rfl _) rfl ?_
    refine OL.want rfl rfl rfl (Pure.fieldAddr (r := 8) Tryd.runUnderlying80 rfl Tryd.sizeOf3 rfl rfl _) rfl ?_
    refine OL.want rfl rfl rfl (Run.load (i := 8) rfl Tryd.isAgg3 hr (by omega) rfl) rfl ?_
    refine OL.want rfl rfl rfl (Pure.gtr rfl rfl _) rfl ?_
    refine OL.cast (.bool true) 27 rfl (congrArg Value.bool (decide_eq_true (by omega))) ?_
    refine OL.pure (Pure.pickF rfl rfl) rfl ?_
    refine OL.pure (Pure.assign rfl) rfl ?_
    refine OL.nil ?_
    refine TE.condT rfl rfl ?_
    refine TE.seq ?_
    refine TE.region ?_
    refine OL.store (j := 0) rfl rfl Tryd.sizeOf31 rfl h4 (by omega) (rfl) ?_
    intro w3 hb3 hc3
    replace hr := hr.chg hc3 (by simpa using hr.ne h4 (by decide))
    replace hC := hC.trans1 hc3 (by first | exact .inr (by omega) | exact .inl (by simp))
    replace h4 := hb3
    refine OL.nil ?_
    refine TE.retU (fun a_ ha_ => ?_)
    refine Unw.call Tryd.call40 (note_any r g4 (2) (by omega) _ _ h4 ?_)
    exact Unw.done (vs := [.int .i64 2]) ha_ Tryd.results25 ⟨⟨_, rfl, loadCell_at Tryd.isAgg31 h4 rfl⟩, trivial⟩ ⟨rfl, hC⟩

set_option maxHeartbeats 2000000 in
theorem trim_same {tK tF : TypeId} {V : Int → List UInt8} {ks rs : List Nat} {S : Rs} (d n c a P r : Nat) (hP : 0 < P) (haP : a + 2 + P ≤ n) (hn : n ≤ 8192) (hpl : S.hd.place < P) (hnx : S.next ≤ 1099511627776) (w : World) (hD : Dk 93 97 w d n (V) (c) false ks) (hR : RgK 80 85 w r d a P (S) rs) (hK : Blk w 1 tK (iv .u32 K)) (hF : Blk w 0 tF (iv .i64 fldL)) : Calls Tryd.prog 25 #[.pointer (some ⟨r, 0, none⟩), .int .i64 (S.hd.first : Int)] w (RetC (.int .i64 0) w) := by
  refine calls_of_TU (vs := [.pointer (some ⟨r, 0, none⟩), .int .i64 (S.hd.first : Int)]) Tryd.func25 Tryd.ntmps25 rfl (by simp) ?_
  obtain ⟨pv, sy, hr, hs, rfl⟩ := hR
  have hC : Chg [] w w := Chg.refl _ _
  refine TE.seq ?_
  refine TE.region ?_
  refine OL.alloc Tryd.zeroValue31 rfl ?_
  intro g4 w1 h4 hc1 hg_g4
  have lt_r_g4 : r < g4 := by have := hr.lt; omega
  have ge_g4 : w.heap.size ≤ g4 := by have := hC.size; omega
  replace hr := hr.chg0 hc1
  replace hC := hC.then_ hc1
  have h4 : Blk w1 g4 31 ([.int .i64 0]) := h4
  refine OL.nil ?_
  refine TE.seq ?_
  refine TE.seq ?_
  refine TE.region ?_
  refine OL.pure (Pure.move rfl) rfl ?_
  refine OL.call rfl Tryd.call39 rfl (ready_any d a P r S.hd pv S.next _ sy _ hr) ?_
  rintro _ _ ⟨rfl, rfl⟩
  refine ⟨_, rfl, ?_⟩
  refine OL.pure (Pure.assign rfl) rfl ?_
  refine OL.nil ?_
  refine TE.seq ?_
  refine TE.region ?_
  refine OL.pure (Pure.move rfl) rfl ?_
  refine OL.pure (Pure.neq rfl rfl) rfl ?_
  refine OL.cast (.bool false) 13 rfl (rfl) ?_
  refine OL.nil ?_
  refine TE.condF rfl rfl ?_
  refine TE.skip ?_
  refine TE.seq ?_
  refine TE.region ?_
  refine OL.pure (Pure.move rfl) rfl ?_
  refine OL.defer rfl ?_
  have hnf : S.hd.first ≤ S.next := Nat.le_add_right _ _
  refine OL.nil ?_
  refine TE.seq ?_
  refine TE.block ?_
  refine TE.seq ?_
  refine TE.region ?_
  refine OL.pure (Pure.move rfl) rfl ?_
  refine OL.pure (Pure.move rfl) rfl ?_
  refine OL.call rfl Tryd.call38 rfl (hfirst_any d a P r S.hd pv S.next _ sy _ hr) ?_
  rintro _ _ ⟨rfl, rfl⟩
  refine ⟨_, rfl, ?_⟩
  refine OL.pure (Pure.lss rfl rfl) rfl ?_
  refine OL.cast (.bool false) 20 rfl (congrArg Value.bool (decide_eq_false (by omega))) ?_
  refine OL.pure (Pure.move rfl) rfl ?_
  refine OL.want rfl rfl rfl (Pure.move rfl _) rfl ?_
  refine OL.want rfl rfl rfl (Pure.move rfl _) rfl ?_
  refine OL.want rfl rfl rfl (Pure.nilCheck rfl _) rfl ?_
  refine OL.want rfl rfl rfl (Pure.fieldAddr (r := 8) Tryd.runUnderlying80 rfl Tryd.sizeOf3 rfl rfl _) rfl ?_
  refine OL.want rfl rfl rfl (Run.load (i := 8) rfl Tryd.isAgg3 hr (by omega) rfl) rfl ?_
  refine OL.want rfl rfl rfl (Pure.gtr rfl rfl _) rfl ?_
  refine OL.cast (.bool false) 27 rfl (congrArg Value.bool (decide_eq_false (by omega))) ?_
  refine OL.pure (Pure.pickF rfl rfl) rfl ?_
  refine OL.pure (Pure.assign rfl) rfl ?_
  refine OL.nil ?_
  refine TE.condF rfl rfl ?_
  refine TE.seq ?_
  refine TE.region ?_
  refine OL.pure (Pure.move rfl) rfl ?_
  refine OL.pure (Pure.move rfl) rfl ?_
  refine OL.call rfl Tryd.call38 rfl (hfirst_any d a P r S.hd pv S.next _ sy _ hr) ?_
  rintro _ _ ⟨rfl, rfl⟩
  refine ⟨_, rfl, ?_⟩
  refine OL.pure (Pure.eql rfl rfl) rfl ?_
  refine OL.cast (.bool true) 33 rfl (congrArg Value.bool (decide_eq_true (by omega))) ?_
  refine OL.pure (Pure.assign rfl) rfl ?_
  refine OL.nil ?_
  refine TE.condT rfl rfl ?_
  refine TE.seq ?_
  refine TE.region ?_
  refine OL.store (j := 0) rfl rfl Tryd.sizeOf31 rfl h4 (by omega) (rfl) ?_
  intro w2 hb2 hc2
  replace hr := hr.chg hc2 (by simpa using hr.ne h4 (by decide))
  replace hC := hC.trans1 hc2 (by first | exact .inr (by omega) | exact .inl (by simp))
  replace h4 := hb2
  refine OL.nil ?_
  refine TE.retU (fun a_ ha_ => ?_)
  refine Unw.call Tryd.call40 (note_any r g4 (0) (by omega) _ _ h4 ?_)
  exact Unw.done (vs := [.int .i64 0]) ha_ Tryd.results25 ⟨⟨_, rfl, loadCell_at Tryd.isAgg31 h4 rfl⟩, trivial⟩ ⟨rfl, hC⟩

set_option maxHeartbeats 2000000 in
theorem trim_ok {tK tF : TypeId} {V : Int → List UInt8} {ks rs : List Nat} {S : Rs} (d n c a P r : Nat) (hP : 0 < P) (haP : a + 2 + P ≤ n) (hn : n ≤ 8192) (hpl : S.hd.place < P) (hnx : S.next ≤ 1099511627776) (k : Nat) (hk0 : 0 < k) (hkl : k ≤ S.ents.length) (hok : HdOk P (trimHd P S k)) (hgm : S.hd.gen < 2147483647) (hc0 : c ≤ 1073741823) (hk0_ : 1 ∉ ks) (hk1_ : 0 ∉ ks) (hq0 : 1 ∉ rs) (hq1 : 0 ∉ rs) (w : World) (hD : Dk 93 97 w d n (V) (c) false ks) (hR : RgK 80 85 w r d a P (S) rs) (hK : Blk w 1 tK (iv .u32 K)) (hF : Blk w 0 tF (iv .i64 fldL)) : Calls Tryd.prog 25 #[.pointer (some ⟨r, 0, none⟩), .int .i64 ((S.hd.first + k : Nat) : Int)] w (fun e w_ => ∃ ks_ rs_, e = .returned (.int .i64 0) ∧ Dk 93 97 w_ d n (trimV V a P S k) (0) false ks_ ∧ RgK 80 85 w_ r d a P (trimS P S k) rs_ ∧ Chg (rs ++ ks) w w_ ∧ Grew ks ks_ w ∧ Grew rs rs_ w) := by
  refine calls_of_TU (vs := [.pointer (some ⟨r, 0, none⟩), .int .i64 ((S.hd.first + k : Nat) : Int)]) Tryd.func25 Tryd.ntmps25 rfl (by simp) ?_
  obtain ⟨pv, sy, hr, hs, rfl⟩ := hR
  have hC : Chg ((r :: own pv) ++ ks) w w := Chg.refl _ _
  have hCz : w.heap.size ≤ w.heap.size := Nat.le_refl _
  have hgr : Grew ks ks w := Grew.refl _ _
  have hgi : Grew ((r :: own pv) ++ ks) ks w := fun k hk => .inl (List.mem_append_right _ hk)
  have h0w : 1 < w.heap.size := hK.lt
  have h1w : 0 < w.heap.size := hF.lt
  refine TE.seq ?_
  refine TE.region ?_
  refine OL.alloc Tryd.zeroValue31 rfl ?_
  intro g4 w1 h4 hc1 hg_g4
  have lt_r_g4 : r < g4 := by have := hr.lt; omega
  have lt_1_g4 : 1 < g4 := by have := hK.lt; omega
  have lt_0_g4 : 0 < g4 := by have := hF.lt; omega
  have ge_g4 : w.heap.size ≤ g4 := by have := hC.size; omega
  replace hD := hD.chg0 hc1
  replace hr := hr.chg0 hc1
  replace hs := hs.chg0 hc1
  replace hK := hK.chg0 hc1
  replace hF := hF.chg0 hc1
  replace hC := hC.then_ hc1
  have h4 : Blk w1 g4 31 ([.int .i64 0]) := h4
  refine OL.nil ?_
  refine TE.seq ?_
  refine TE.seq ?_
  refine TE.region ?_
  refine OL.pure (Pure.move rfl) rfl ?_
  refine OL.call rfl Tryd.call39 rfl (ready_any d a P r S.hd pv S.next _ sy _ hr) ?_
  rintro _ _ ⟨rfl, rfl⟩
  refine ⟨_, rfl, ?_⟩
  refine OL.pure (Pure.assign rfl) rfl ?_
  refine OL.nil ?_
  refine TE.seq ?_
  refine TE.region ?_
  refine OL.pure (Pure.move rfl) rfl ?_
  refine OL.pure (Pure.neq rfl rfl) rfl ?_
  refine OL.cast (.bool false) 13 rfl (rfl) ?_
  refine OL.nil ?_
  refine TE.condF rfl rfl ?_
  refine TE.skip ?_
  refine TE.seq ?_
  refine TE.region ?_
  refine OL.pure (Pure.move rfl) rfl ?_
  refine OL.defer rfl ?_
  have hqn0 : 1 ≠ r := fun e_ => hq0 (by simp [e_])
  have hqn1 : 0 ≠ r := fun e_ => hq1 (by simp [e_])
  have hnf : S.next = S.hd.first + S.ents.length := rfl
  have hkp := hk0
  replace hk0 := hk0_; have hk1 := hk1_
  refine OL.nil ?_
  refine TE.seq ?_
  refine TE.block ?_
  refine TE.seq ?_
  refine TE.region ?_
  refine OL.pure (Pure.move rfl) rfl ?_
  refine OL.pure (Pure.move rfl) rfl ?_
  refine OL.call rfl Tryd.call38 rfl (hfirst_any d a P r S.hd pv S.next _ sy _ hr) ?_
  rintro _ _ ⟨rfl, rfl⟩
  refine ⟨_, rfl, ?_⟩
  refine OL.pure (Pure.lss rfl rfl) rfl ?_
  refine OL.cast (.bool false) 20 rfl (congrArg Value.bool (decide_eq_false (by omega))) ?_
  refine OL.pure (Pure.move rfl) rfl ?_
  refine OL.want rfl rfl rfl (Pure.move rfl _) rfl ?_
  refine OL.want rfl rfl rfl (Pure.move rfl _) rfl ?_
  refine OL.want rfl rfl rfl (Pure.nilCheck rfl _) rfl ?_
  refine OL.want rfl rfl rfl (Pure.fieldAddr (r := 8) Tryd.runUnderlying80 rfl Tryd.sizeOf3 rfl rfl _) rfl ?_
  refine OL.want rfl rfl rfl (Run.load (i := 8) rfl Tryd.isAgg3 hr (by omega) rfl) rfl ?_
  refine OL.want rfl rfl rfl (Pure.gtr rfl rfl _) rfl ?_
  refine OL.cast (.bool false) 27 rfl (congrArg Value.bool (decide_eq_false (by omega))) ?_
  refine OL.pure (Pure.pickF rfl rfl) rfl ?_
  refine OL.pure (Pure.assign rfl) rfl ?_
  refine OL.nil ?_
  refine TE.condF rfl rfl ?_
  refine TE.seq ?_
  refine TE.region ?_
  refine OL.pure (Pure.move rfl) rfl ?_
  refine OL.pure (Pure.move rfl) rfl ?_
  refine OL.call rfl Tryd.call38 rfl (hfirst_any d a P r S.hd pv S.next _ sy _ hr) ?_
  rintro _ _ ⟨rfl, rfl⟩
  refine ⟨_, rfl, ?_⟩
  refine OL.pure (Pure.eql rfl rfl) rfl ?_
  refine OL.cast (.bool false) 33 rfl (congrArg Value.bool (decide_eq_false (by omega))) ?_
  refine OL.pure (Pure.assign rfl) rfl ?_
  refine OL.nil ?_
  refine TE.condF rfl rfl ?_
  refine TE.seq ?_
  refine TE.region ?_
  refine OL.pure (Pure.move rfl) rfl ?_
  refine OL.pure (Pure.nilCheck rfl) rfl ?_
  refine OL.pure (Pure.fieldAddr (r := 3) Tryd.runUnderlying80 rfl Tryd.sizeOf70 rfl rfl) rfl ?_
  refine OL.pure (Pure.fieldAddr (r := 3) Tryd.runUnderlying70 rfl Tryd.sizeOf3 rfl rfl) rfl ?_
  refine OL.val (Run.load (i := 3) rfl Tryd.isAgg3 hr (by omega) rfl) rfl ?_
  refine OL.pure (Pure.eql rfl rfl) rfl ?_
  refine OL.cast (.bool false) 40 rfl (congrArg Value.bool (decide_eq_false (by omega))) ?_
  refine OL.pure (Pure.assign rfl) rfl ?_
  refine OL.nil ?_
  refine TE.condF rfl rfl ?_
  refine TE.skip ?_
  refine TE.inBlock ?_
  refine TE.seq ?_
  refine TE.region ?_
  refine OL.pure (Pure.move rfl) rfl ?_
  refine OL.pure (Pure.move rfl) rfl ?_
  refine OL.call rfl Tryd.call38 rfl (hfirst_any d a P r S.hd pv S.next _ sy _ hr) ?_
  rintro _ _ ⟨rfl, rfl⟩
  refine ⟨_, rfl, ?_⟩
  refine OL.pure (Pure.sub rfl rfl (i64 (by omega) (by omega))) rfl ?_
  refine OL.cast (.int .i64 (k : Int)) 44 rfl (congrArg (Value.int .i64) (by omega)) ?_
  refine OL.pure (Pure.assign rfl) rfl ?_
  refine OL.nil ?_
  refine TE.seq ?_
  refine TE.region ?_
  refine OL.pure (Pure.move rfl) rfl ?_
  refine OL.pure (Pure.nilCheck rfl) rfl ?_
  refine OL.pure (Pure.fieldAddr (r := 9) Tryd.runUnderlying80 rfl Tryd.sizeOf3 rfl rfl) rfl ?_
  refine OL.val (Run.load (i := 9) rfl Tryd.isAgg3 hr (by omega) rfl) rfl ?_
  refine OL.pure (Pure.assign rfl) rfl ?_
  refine OL.nil ?_
  refine TE.seq ?_
  refine TE.seq ?_
  refine TE.region ?_
  refine OL.pure (Pure.move rfl) rfl ?_
  refine OL.pure (Pure.move rfl) rfl ?_
  refine OL.pure (Pure.nilCheck rfl) rfl ?_
  refine OL.pure (Pure.fieldAddr (r := 7) Tryd.runUnderlying80 rfl Tryd.sizeOf78 rfl rfl) rfl ?_
  refine OL.val (Run.load (i := 7) rfl Tryd.isAgg78 hr (by omega) rfl) rfl ?_
  refine OL.pure (Pure.lenRowO Tryd.runUnderlying78 rfl hs) rfl ?_
  refine OL.pure (Pure.lss rfl rfl) rfl ?_
  refine OL.nil ?_
  refine TE.join (σ := Unit) [0, 1, 4, 6, 7] (fun s_ w_ => w1 = w_) (fun s_ => [(0, .pointer (some ⟨r, 0, none⟩)), (1, .int .i64 (↑((S.hd.first + k)))), (4, .pointer (some ⟨g4, 0, none⟩)), (6, .int .i64 (↑k)), (7, .int .i64 (((S.hd.place + used (S.ents.take k)) % P : Nat) : Int))]) rfl (fun hlt hj2 => ?_) (fun hlt hj2 => ?_) (fun s_ w_ h_ => ?_)
  ·
    obtain ⟨gs, o, cap, cs, hpv, hblk, hcap, hcl, htk⟩ := hs.form (by omega)
    refine TE.region ?_
    refine OL.pure (Pure.move rfl) rfl ?_
    refine OL.pure (Pure.nilCheck rfl) rfl ?_
    refine OL.pure (Pure.fieldAddr (r := 7) Tryd.runUnderlying80 rfl Tryd.sizeOf78 rfl rfl) rfl ?_
    refine OL.val (Run.load (i := 7) rfl Tryd.isAgg78 hr (by omega) rfl) rfl ?_
    refine OL.cast (.slice (some ⟨gs, o, none⟩) S.ents.length cap) 59 rfl (hpv) ?_
    refine OL.pure (Pure.move rfl) rfl ?_
    refine OL.pure (Pure.indexAddrS (r := o + 3 * k) Tryd.runUnderlying78 Tryd.sizeOf85 rfl rfl (by omega) (by omega) (by omega)) rfl ?_
    refine OL.pure (Pure.fieldAddr (r := o + 3 * k) Tryd.runUnderlying85 rfl Tryd.sizeOf3 rfl rfl) rfl ?_
    refine OL.val (Run.load (i := o + 3 * k) rfl Tryd.isAgg3 hblk (by omega) (spv_cell htk hpl (show k < S.ents.length by omega) (by decide) (show _ = o + k * 3 + 0 by omega) rfl)) rfl ?_
    refine OL.pure (Pure.assign rfl) rfl ?_
    exact TE.sub [0, 1, 4, 6, 7] rfl (hj2 () _ rfl)
  ·
    refine TE.cast (.int .i64 (((S.hd.place + used (S.ents.take k)) % P : Nat) : Int)) 7 rfl (congrArg (fun x : Nat => Value.int .i64 (x : Int)) (trim_place (by omega))) ?_
    refine TE.skip ?_
    exact TE.sub [0, 1, 4, 6, 7] rfl (hj2 () _ rfl)
  ·
    revert s_ w_ h_
    rintro _ w2 rfl
    obtain ⟨gs, o, cap, cs, hpv, hblk, hcap, hcl, htk⟩ := hs.form (by omega)
    obtain ⟨j, hj⟩ : ∃ j, j = k - 1 := ⟨_, rfl⟩
    refine TE.seq ?_
    refine TE.plan 19 (.cons (0, true) (.cons (1, true) (.cons (2, true) (.cons (3, true) (.cons (4, true) (.cons (5, true) (.cons (6, true) (.cons (7, true) (.cons (8, true) (.cons (9, true) (.cons (10, true) (.cons (11, true) (.cons (12, true) (.cons (13, true) (.cons (14, true) (.cons (15, true) (.cons (16, true) (.cons (17, true) (.cons (18, false) .nil))))))))))))))))))) (fun w_ => Chg [] w1 w_) rfl (by kernel_rfl) rfl ?_
    have hS3 : Chg [] w1 w1.drew := Chg.drew _ _
    replace hD := hD.chg0 hS3
    replace hr := hr.chg0 hS3
    replace hs := hs.chg0 hS3
    replace hK := hK.chg0 hS3
    replace hF := hF.chg0 hS3
    replace h4 := h4.chg0 hS3
    replace hblk := hblk.chg0 hS3
    replace hC := hC.then_ hS3
    refine PL.takeP rfl (Pure.move rfl) rfl hS3 ?_
    refine PL.takeP rfl (Pure.nilCheck rfl) rfl hS3 ?_
    refine PL.takeP rfl (Pure.fieldAddr (r := 3) Tryd.runUnderlying80 rfl Tryd.sizeOf70 rfl rfl) rfl hS3 ?_
    refine PL.takeP rfl (Pure.fieldAddr (r := 3) Tryd.runUnderlying70 rfl Tryd.sizeOf3 rfl rfl) rfl hS3 ?_
    refine PL.takeS (fun w_ => Chg [] w1.drew w_) (fun _ h_ => hS3.then_ h_) rfl (fun w_ h_ => Run.load (i := 3) rfl Tryd.isAgg3 (hr.chg0 h_) (by omega) rfl) rfl (Chg.refl _ _) ?_
    have hP4 : Chg [] w1.drew w1.drew := Chg.refl _ _
    refine PL.takeP rfl (Pure.add rfl rfl (i64 (by omega) (by omega))) rfl hP4 ?_
    refine PL.takeP rfl (Pure.move rfl) rfl hP4 ?_
    refine PL.takeP rfl (Pure.move rfl) rfl hP4 ?_
    refine PL.takeP rfl (Pure.move rfl) rfl hP4 ?_
    refine PL.takeP rfl (Pure.nilCheck rfl) rfl hP4 ?_
    refine PL.takeP rfl (Pure.fieldAddr (r := 7) Tryd.runUnderlying80 rfl Tryd.sizeOf78 rfl rfl) rfl hP4 ?_
    refine PL.takeS (fun w_ => Chg [] w1.drew w_) (fun _ h_ => hP4.then_ h_) rfl (fun w_ h_ => Run.load (i := 7) rfl Tryd.isAgg78 (hr.chg0 h_) (by omega) rfl) rfl (Chg.refl _ _) ?_
    have hP5 : Chg [] w1.drew w1.drew := Chg.refl _ _
    refine PL.cast (.slice (some ⟨gs, o, none⟩) S.ents.length cap) 75 rfl (hpv) ?_
    refine PL.takeP rfl (Pure.move rfl) rfl hP5 ?_
    refine PL.takeP rfl (Pure.sub rfl rfl (i64 (by omega) (by omega))) rfl hP5 ?_
    refine PL.cast (.int .i64 (j : Int)) 77 rfl (congrArg (Value.int .i64) (by omega)) ?_
    refine PL.takeP rfl (Pure.indexAddrS (r := o + 3 * j) Tryd.runUnderlying78 Tryd.sizeOf85 rfl rfl (by omega) (by omega) (by omega)) rfl hP5 ?_
    refine PL.takeP rfl (Pure.fieldAddr (r := o + 3 * j + 2) Tryd.runUnderlying85 rfl Tryd.sizeOf3 rfl rfl) rfl hP5 ?_
    refine PL.takeS (fun w_ => Chg [] w1.drew w_) (fun _ h_ => hP5.then_ h_) rfl (fun w_ h_ => Run.load (i := o + 3 * j + 2) rfl Tryd.isAgg3 (hblk.chg0 h_) (by omega) (spv_cell htk hpl (show j < S.ents.length by omega) (by decide) (show _ = o + j * 3 + 2 by omega) (by rw [hj]; rfl))) rfl (Chg.refl _ _) ?_
    have hP6 : Chg [] w1.drew w1.drew := Chg.refl _ _
    refine PL.takeP rfl (Pure.build (cs := (trimHd P S k).cells) rfl (by rw [show (trimHd P S k).cells = [.int .i64 ((S.hd.gen : Int) + 1), .int .i64 ((S.hd.first + k : Nat) : Int), .int .i64 (((S.hd.place + used (S.ents.take k)) % P : Nat) : Int), .int .i64 ((trimHd P S k).base : Int)] from rfl]; kernel_rfl)) rfl hP6 ?_
    refine PL.alloc rfl Tryd.zeroValue70 rfl (fun w_ h_ => hP6.then_ h_) ?_
    intro g8 w7 h8 hc7 hg_g8
    have lt_r_g8 : r < g8 := by have := hr.lt; omega
    have lt_1_g8 : 1 < g8 := by have := hK.lt; omega
    have lt_0_g8 : 0 < g8 := by have := hF.lt; omega
    have lt_g4_g8 : g4 < g8 := by have := h4.lt; omega
    have lt_gs_g8 : gs < g8 := by have := hblk.lt; omega
    have ge_g8 : w.heap.size ≤ g8 := by have := hC.size; omega
    have gp_g8 := Nat.le_trans hP6.size (Nat.le_of_eq hg_g8)
    have hc7s := hP6.then_ hc7
    replace hD := hD.chg0 hc7
    replace hr := hr.chg0 hc7
    replace hs := hs.chg0 hc7
    replace hK := hK.chg0 hc7
    replace hF := hF.chg0 hc7
    replace h4 := h4.chg0 hc7
    replace hblk := hblk.chg0 hc7
    replace hC := hC.then_ hc7
    have h8 : Blk w7 g8 70 (Hd.zero.cells) := h8
    refine PL.nilTail ?_
    refine OL.storeRow (vs := (trimHd P S k).cells) rfl rfl (rfl) (by simp [Hd.cells, Value.oneCell']) h8 (Nat.le_refl 4) ?_
    intro w8 hb8 hc8
    replace hD := hD.chg hc8 (hD.apart h8 (by decide) (by decide))
    replace hr := hr.chg hc8 (by simpa using hr.ne h8 (by decide))
    replace hs := hs.chg hc8 (hs.apart h8 (by decide))
    replace hK := hK.chg hc8 (by simp; omega)
    replace hF := hF.chg hc8 (by simp; omega)
    replace h4 := h4.chg hc8 (by simpa using h4.ne h8 (by decide))
    replace hblk := hblk.chg hc8 (by simpa using hblk.ne h8 (by decide))
    replace hC := hC.trans1 hc8 (by first | exact .inr (by omega) | exact .inl (by simp))
    replace h8 := hb8
    replace h8 := h8.all rfl
    replace hCz := hC.size
    refine OL.nil ?_
    refine TE.seq ?_
    refine TE.seq ?_
    refine TE.planAll (.cons (0, true) (.cons (1, true) (.cons (2, true) (.cons (3, true) (.cons (4, true) (.cons (5, false) (.cons (6, true) .nil))))))) (fun w_ => Blk w_ r 80 (rcv d a P S.hd pv S.next ((S.hd.place + used S.ents) % P) sy) ∧ Blk w_ g8 70 ((trimHd P S k).cells)) rfl (by kernel_rfl) ?_
    have hS9 : Chg [] w8 w8.drew := Chg.drew _ _
    replace hD := hD.chg0 hS9
    replace hr := hr.chg0 hS9
    replace hs := hs.chg0 hS9
    replace hK := hK.chg0 hS9
    replace hF := hF.chg0 hS9
    replace h4 := h4.chg0 hS9
    replace h8 := h8.chg0 hS9
    replace hC := hC.then_ hS9
    refine PL.takeP rfl (Pure.move rfl) rfl ⟨hr, h8⟩ ?_
    refine PL.takeP rfl (Pure.nilCheck rfl) rfl ⟨hr, h8⟩ ?_
    refine PL.takeP rfl (Pure.fieldAddr (r := 0) Tryd.runUnderlying80 rfl Tryd.sizeOf66 rfl rfl) rfl ⟨hr, h8⟩ ?_
    refine PL.take rfl (fun w_ h_ => Run.loadRow (i := 0) (vs := (arv d a P)) rfl Tryd.underlying66 rfl rfl h_.1 (by omega) rfl) rfl ⟨hr, h8⟩ ?_
    refine PL.take rfl (fun w_ h_ => Run.loadAll rfl Tryd.underlying70 rfl h_.2 (rfl)) rfl ⟨hr, h8⟩ ?_
    refine PL.call rfl rfl Tryd.call35 rfl (writehead_any d n c a P (trimHd P S k) hP haP hn hok (by omega) hk0 hk1 _ hD hK hF) ?_
    rintro _ w10 ⟨ks10, rfl, hD10, hc10, hgr10⟩
    have hr_ := hr.chg hc10 (hD.notin hr (by decide) (by decide))
    have hs_ := hs.chg hc10 (hD.apartRO hs (by decide) (by decide))
    have hK_ := hK.chg hc10 hk0
    have hF_ := hF.chg hc10 hk1
    have h4_ := h4.chg hc10 (hD.notin h4 (by decide) (by decide))
    have h8_ := h8.chg hc10 (hD.notin h8 (by decide) (by decide))
    replace hk0 := Grew.out hgr10 hk0 hK.lt; replace hk1 := Grew.out hgr10 hk1 hF.lt
    replace hr := hr_; clear hr_
    replace hs := hs_; clear hs_
    replace hK := hK_; clear hK_
    replace hF := hF_; clear hF_
    replace h4 := h4_; clear h4_
    replace h8 := h8_; clear h8_
    replace hCz := hC.size
    replace hC := hC.trans hc10 hgi
    replace hgr := hgr.trans hgr10 hCz
    replace hgi := hgi.trans hgr10 hCz
    replace hD := hD10
    replace hCz := hC.size
    refine ⟨_, rfl, ⟨hr, h8⟩, ?_⟩
    refine PL.takeP rfl (Pure.assign rfl) rfl ⟨hr, h8⟩ ?_
    refine PL.nil ?_
    refine TE.seq ?_
    refine TE.region ?_
    refine OL.pure (Pure.move rfl) rfl ?_
    have hnx8 : CellIs w10 r 80 8 (.int .i64 (S.next : Int)) := ⟨_, hr, rfl⟩
    refine OL.pure (Pure.neq rfl rfl) rfl ?_
    refine OL.cast (.bool false) 89 rfl (rfl) ?_
    refine OL.nil ?_
    refine TE.condF rfl rfl ?_
    refine TE.skip ?_
    refine TE.seq ?_
    refine TE.plan 22 (.cons (0, true) (.cons (1, true) (.cons (2, true) (.cons (3, true) (.cons (4, true) (.cons (5, true) (.cons (6, true) (.cons (8, true) (.cons (10, true) (.cons (11, true) (.cons (12, true) (.cons (13, true) (.cons (7, false) (.cons (9, true) (.cons (14, true) (.cons (15, true) (.cons (16, false) (.cons (17, true) (.cons (18, true) (.cons (19, false) (.cons (20, true) (.cons (21, true) .nil)))))))))))))))))))))) (fun w_ => Blk w_ g8 70 ((trimHd P S k).cells) ∧ CellIs w_ r 80 8 (.int .i64 (S.next : Int))) rfl (by kernel_rfl) rfl ?_
    have hS11 : Chg [] w10 w10.drew := Chg.drew _ _
    replace hD := hD.chg0 hS11
    replace hr := hr.chg0 hS11
    replace hs := hs.chg0 hS11
    replace hK := hK.chg0 hS11
    replace hF := hF.chg0 hS11
    replace h4 := h4.chg0 hS11
    replace h8 := h8.chg0 hS11
    replace hnx8 := hnx8.chg0 hS11
    replace hC := hC.then_ hS11
    refine PL.takeP rfl (Pure.move rfl) rfl ⟨h8, hnx8⟩ ?_
    refine PL.takeP rfl (Pure.move rfl) rfl ⟨h8, hnx8⟩ ?_
    refine PL.takeP rfl (Pure.move rfl) rfl ⟨h8, hnx8⟩ ?_
    refine PL.take rfl (fun w_ h_ => Run.loadAll rfl Tryd.underlying70 rfl h_.1 (rfl)) rfl ⟨h8, hnx8⟩ ?_
    refine PL.takeP rfl (Pure.move rfl) rfl ⟨h8, hnx8⟩ ?_
    refine PL.takeP rfl (Pure.nilCheck rfl) rfl ⟨h8, hnx8⟩ ?_
    refine PL.takeP rfl (Pure.fieldAddr (r := 7) Tryd.runUnderlying80 rfl Tryd.sizeOf78 rfl rfl) rfl ⟨h8, hnx8⟩ ?_
    refine PL.takeP rfl (Pure.move rfl) rfl ⟨h8, hnx8⟩ ?_
    refine PL.takeP rfl (Pure.move rfl) rfl ⟨h8, hnx8⟩ ?_
    refine PL.takeP rfl (Pure.nilCheck rfl) rfl ⟨h8, hnx8⟩ ?_
    refine PL.takeP rfl (Pure.fieldAddr (r := 8) Tryd.runUnderlying80 rfl Tryd.sizeOf3 rfl rfl) rfl ⟨h8, hnx8⟩ ?_
    refine PL.take rfl (fun w_ h_ => Run.loadCell rfl Tryd.isAgg3 h_.2.cell) rfl ⟨h8, hnx8⟩ ?_
    refine PL.val rfl (Run.load (i := 7) rfl Tryd.isAgg78 hr (by omega) rfl) rfl ⟨h8, hnx8⟩ ?_
    refine PL.sliceRestO rfl Tryd.runUnderlying78 Tryd.sizeOf85 rfl rfl rfl hs hkl rfl ⟨h8, hnx8⟩ ?_
    intro pv2 hs2 hown
    refine PL.takeP rfl (Pure.nilCheck rfl) rfl ⟨h8, hnx8⟩ ?_
    refine PL.takeP rfl (Pure.fieldAddr (r := 3) Tryd.runUnderlying80 rfl Tryd.sizeOf70 rfl rfl) rfl ⟨h8, hnx8⟩ ?_
    have h2one := hs2.oneCell
    refine PL.storeRowS (vs := (trimHd P S k).cells) rfl rfl rfl (rfl) (by simp [Hd.cells, Value.oneCell']) hr (by simp [rcv, trimHd, Hd.cells]) (fun w_ h_ c_ => ⟨h8.chg c_ (by simp; omega), ⟨_, h_, rfl⟩⟩) ?_
    intro w12 hb12 hc12
    replace hD := hD.chg hc12 (hD.apart hr (by decide) (by decide))
    replace hs := hs.chg hc12 (hs.apart hr (by decide))
    replace hK := hK.chg hc12 (by simp; omega)
    replace hF := hF.chg hc12 (by simp; omega)
    replace h4 := h4.chg hc12 (by simpa using h4.ne hr (by decide))
    replace h8 := h8.chg hc12 (by simp; omega)
    replace hs2 := hs2.chg hc12 (hs2.apart hr (by decide))
    replace hC := hC.trans1 hc12 (by first | exact .inr (by omega) | exact .inl (by simp))
    replace hr := hb12
    have hnx8 : CellIs w12 r 80 8 (.int .i64 (S.next : Int)) := ⟨_, hr, rfl⟩
    refine PL.takeP rfl (Pure.nilCheck rfl) rfl ⟨h8, hnx8⟩ ?_
    refine PL.takeP rfl (Pure.fieldAddr (r := 7) Tryd.runUnderlying80 rfl Tryd.sizeOf78 rfl rfl) rfl ⟨h8, hnx8⟩ ?_
    refine PL.storeS (j := 7) rfl rfl rfl Tryd.sizeOf78 h2one hr (by omega) (rfl) (fun w_ h_ c_ => ⟨h8.chg c_ (by simp; omega), ⟨_, h_, rfl⟩⟩) ?_
    intro w13 hb13 hc13
    replace hD := hD.chg hc13 (hD.apart hr (by decide) (by decide))
    replace hs := hs.chg hc13 (hs.apart hr (by decide))
    replace hK := hK.chg hc13 (by simp; omega)
    replace hF := hF.chg hc13 (by simp; omega)
    replace h4 := h4.chg hc13 (by simpa using h4.ne hr (by decide))
    replace h8 := h8.chg hc13 (by simp; omega)
    replace hs2 := hs2.chg hc13 (hs2.apart hr (by decide))
    replace hC := hC.trans1 hc13 (by first | exact .inr (by omega) | exact .inl (by simp))
    replace hr := hb13
    have hnx8 : CellIs w13 r 80 8 (.int .i64 (S.next : Int)) := ⟨_, hr, rfl⟩
    refine PL.takeP rfl (Pure.nilCheck rfl) rfl ⟨h8, hnx8⟩ ?_
    refine PL.takeP rfl (Pure.fieldAddr (r := 10) Tryd.runUnderlying80 rfl Tryd.sizeOf3 rfl rfl) rfl ⟨h8, hnx8⟩ ?_
    refine PL.nilTail ?_
    refine OL.store (j := 10) rfl rfl Tryd.sizeOf3 rfl hr (by omega) (rfl) ?_
    intro w14 hb14 hc14
    replace hD := hD.chg hc14 (hD.apart hr (by decide) (by decide))
    replace hs := hs.chg hc14 (hs.apart hr (by decide))
    replace hK := hK.chg hc14 (by simp; omega)
    replace hF := hF.chg hc14 (by simp; omega)
    replace h4 := h4.chg hc14 (by simpa using h4.ne hr (by decide))
    replace h8 := h8.chg hc14 (by simp; omega)
    replace hs2 := hs2.chg hc14 (hs2.apart hr (by decide))
    replace hC := hC.trans1 hc14 (by first | exact .inr (by omega) | exact .inl (by simp))
    replace hr := hb14
    have hnx8 : CellIs w14 r 80 8 (.int .i64 (S.next : Int)) := ⟨_, hr, rfl⟩
    refine OL.nil ?_
    refine TE.seq ?_
    refine TE.region ?_
    refine OL.store (j := 0) rfl rfl Tryd.sizeOf31 rfl h4 (by omega) (rfl) ?_
    intro w15 hb15 hc15
    replace hD := hD.chg hc15 (hD.apart h4 (by decide) (by decide))
    replace hr := hr.chg hc15 (by simpa using hr.ne h4 (by decide))
    replace hs := hs.chg hc15 (hs.apart h4 (by decide))
    replace hK := hK.chg hc15 (by simp; omega)
    replace hF := hF.chg hc15 (by simp; omega)
    replace h8 := h8.chg hc15 (by simpa using h8.ne h4 (by decide))
    replace hs2 := hs2.chg hc15 (hs2.apart h4 (by decide))
    replace hC := hC.trans1 hc15 (by first | exact .inr (by omega) | exact .inl (by simp))
    replace h4 := hb15
    refine OL.nil ?_
    have hR2 : RgK 80 85 w15 r d a P (trimS P S k) (r :: own pv) := ⟨pv2, S.next, by rw [trim_next hkl, trim_at]; exact hr, by rw [show (trimS P S k).ents.length = S.ents.length - k from List.length_drop, show spotCells P (trimS P S k).hd.place (trimS P S k).ents = (spotCells P S.hd.place S.ents).drop (k * 3) from (spot_drop P _ _ _ hpl hkl).symm]; exact hs2, by rw [hown]⟩
    refine TE.retU (fun a_ ha_ => ?_)
    refine Unw.call Tryd.call40 (note_any r g4 (0) (by omega) _ _ h4 ?_)
    exact Unw.done (vs := [.int .i64 0]) ha_ Tryd.results25 ⟨⟨_, rfl, loadCell_at Tryd.isAgg31 h4 rfl⟩, trivial⟩ ⟨_, _, rfl, hD, hR2, hC, hgr, Grew.refl _ _⟩

end Go.Proofs.YtcologcjhenmkaaDoor
/- Append, walked -/
set_option linter.unusedVariables false
set_option maxRecDepth 4000
namespace Go.Proofs.YtcologcjhenmkaaDoor
open Go.V Go.Rg Go.Frm Go.Sha
set_option maxHeartbeats 2000000 in
theorem app_long {tK tF : TypeId} {V : Int → List UInt8} {ks rs : List Nat} {S : Rs} (d n c a P r : Nat) (hP : 0 < P) (haP : a + 2 + P ≤ n) (hn : n ≤ 8192) (hpl : S.hd.place < P) (hnx : S.next ≤ 1099511627775) (t : List UInt8) (hl : 131072 < t.length) (w : World) (hD : Dk 93 97 w d n (V) (c) false ks) (hR : RgK 80 85 w r d a P (S) rs) (hK : Blk w 1 tK (iv .u32 K)) (hF : Blk w 0 tF (iv .i64 fldL)) : Calls Tryd.prog 19 #[.pointer (some ⟨r, 0, none⟩), .string (str t)] w (RetC (.tuple #[.int .i64 0, .int .i64 5]) w) := by
  refine calls_of_TU (vs := [.pointer (some ⟨r, 0, none⟩), .string (str t)]) Tryd.func19 Tryd.ntmps19 rfl (by simp) ?_
  obtain ⟨pv, sy, hr, hs, rfl⟩ := hR
  have hC : Chg [] w w := Chg.refl _ _
  have hslt := hs.lt
  have hnf : S.next = S.hd.first + S.ents.length := rfl
  refine TE.seq ?_
  refine TE.region ?_
  refine OL.box rfl rfl ?_
  intro g2 w1 h2 hc1 hg_g2
  have lt_r_g2 : r < g2 := by have := hr.lt; omega
  have ge_g2 : w.heap.size ≤ g2 := by have := hC.size; omega
  replace hr := hr.chg0 hc1
  replace hs := hs.chg0 hc1
  replace hC := hC.then_ hc1
  have h2 : Blk w1 g2 27 ([.pointer (some ⟨r, 0, none⟩)]) := h2
  refine OL.alloc Tryd.zeroValue3 rfl ?_
  intro g4 w2 h4 hc2 hg_g4
  have lt_r_g4 : r < g4 := by have := hr.lt; omega
  have lt_g2_g4 : g2 < g4 := by have := h2.lt; omega
  have ge_g4 : w.heap.size ≤ g4 := by have := hC.size; omega
  replace hr := hr.chg0 hc2
  replace hs := hs.chg0 hc2
  replace h2 := h2.chg0 hc2
  replace hC := hC.then_ hc2
  have h4 : Blk w2 g4 3 ([.int .i64 0]) := h4
  refine OL.alloc Tryd.zeroValue31 rfl ?_
  intro g5 w3 h5 hc3 hg_g5
  have lt_r_g5 : r < g5 := by have := hr.lt; omega
  have lt_g2_g5 : g2 < g5 := by have := h2.lt; omega
  have lt_g4_g5 : g4 < g5 := by have := h4.lt; omega
  have ge_g5 : w.heap.size ≤ g5 := by have := hC.size; omega
  replace hr := hr.chg0 hc3
  replace hs := hs.chg0 hc3
  replace h2 := h2.chg0 hc3
  replace h4 := h4.chg0 hc3
  replace hC := hC.then_ hc3
  have h5 : Blk w3 g5 31 ([.int .i64 0]) := h5
  refine OL.nil ?_
  refine TE.seq ?_
  refine TE.seq ?_
  refine TE.region ?_
  refine OL.val (Run.load (i := 0) rfl Tryd.isAgg27 h2 (by omega) rfl) rfl ?_
  refine OL.call rfl Tryd.call39 rfl (ready_any d a P r S.hd pv S.next _ sy _ hr) ?_
  rintro _ _ ⟨rfl, rfl⟩
  refine ⟨_, rfl, ?_⟩
  refine OL.pure (Pure.assign rfl) rfl ?_
  refine OL.nil ?_
  refine TE.seq ?_
  refine TE.region ?_
  refine OL.pure (Pure.move rfl) rfl ?_
  refine OL.pure (Pure.neq rfl rfl) rfl ?_
  refine OL.cast (.bool false) 16 rfl (rfl) ?_
  refine OL.nil ?_
  refine TE.condF rfl rfl ?_
  refine TE.skip ?_
  refine TE.seq ?_
  refine TE.region ?_
  refine OL.val (Run.load (i := 0) rfl Tryd.isAgg27 h2 (by omega) rfl) rfl ?_
  refine OL.defer rfl ?_
  refine OL.nil ?_
  refine TE.seq ?_
  refine TE.seq ?_
  refine TE.region ?_
  refine OL.pure (Pure.move rfl) rfl ?_
  refine OL.pure (Pure.lenStr Tryd.runUnderlying9 rfl) rfl ?_
  refine OL.pure (Pure.gtr rfl rfl) rfl ?_
  refine OL.cast (.bool true) 21 rfl (congrArg Value.bool (decide_eq_true (by omega))) ?_
  refine OL.nil ?_
  refine TE.condT rfl rfl ?_
  refine TE.seq ?_
  refine TE.region ?_
  refine OL.store (j := 0) rfl rfl Tryd.sizeOf3 rfl h4 (by omega) (rfl) ?_
  intro w4 hb4 hc4
  replace hr := hr.chg hc4 (by simpa using hr.ne h4 (by decide))
  replace hs := hs.chg hc4 (hs.apart h4 (by decide))
  replace h2 := h2.chg hc4 (by simpa using h2.ne h4 (by decide))
  replace h5 := h5.chg hc4 (by simpa using h5.ne h4 (by decide))
  replace hC := hC.trans1 hc4 (by first | exact .inr (by omega) | exact .inl (by simp))
  replace h4 := hb4
  refine OL.store (j := 0) rfl rfl Tryd.sizeOf31 rfl h5 (by omega) (rfl) ?_
  intro w5 hb5 hc5
  replace hr := hr.chg hc5 (by simpa using hr.ne h5 (by decide))
  replace hs := hs.chg hc5 (hs.apart h5 (by decide))
  replace h2 := h2.chg hc5 (by simpa using h2.ne h5 (by decide))
  replace h4 := h4.chg hc5 (by simpa using h4.ne h5 (by decide))
  replace hC := hC.trans1 hc5 (by first | exact .inr (by omega) | exact .inl (by simp))
  replace h5 := hb5
  refine OL.nil ?_
  refine TE.retU (fun a_ ha_ => ?_)
  refine Unw.call Tryd.call40 (note_any r g5 (5) (by omega) _ _ h5 ?_)
  exact Unw.done (vs := [.int .i64 0, .int .i64 5]) ha_ Tryd.results19 ⟨⟨_, rfl, loadCell_at Tryd.isAgg3 h4 rfl⟩, ⟨_, rfl, loadCell_at Tryd.isAgg31 h5 rfl⟩, trivial⟩ ⟨rfl, hC⟩

set_option maxHeartbeats 2000000 in
theorem app_full {tK tF : TypeId} {V : Int → List UInt8} {ks rs : List Nat} {S : Rs} (d n c a P r : Nat) (hP : 0 < P) (haP : a + 2 + P ≤ n) (hn : n ≤ 8192) (hpl : S.hd.place < P) (hnx : S.next ≤ 1099511627775) (t : List UInt8) (hl : t.length ≤ 131072) (hu : used S.ents ≤ P) (hfull : P < used S.ents + need (42 + t.length)) (w : World) (hD : Dk 93 97 w d n (V) (c) false ks) (hR : RgK 80 85 w r d a P (S) rs) (hK : Blk w 1 tK (iv .u32 K)) (hF : Blk w 0 tF (iv .i64 fldL)) : Calls Tryd.prog 19 #[.pointer (some ⟨r, 0, none⟩), .string (str t)] w (RetC (.tuple #[.int .i64 0, .int .i64 26]) w) := by
  refine calls_of_TU (vs := [.pointer (some ⟨r, 0, none⟩), .string (str t)]) Tryd.func19 Tryd.ntmps19 rfl (by simp) ?_
  obtain ⟨pv, sy, hr, hs, rfl⟩ := hR
  have hC : Chg [] w w := Chg.refl _ _
  have hslt := hs.lt
  have hnf : S.next = S.hd.first + S.ents.length := rfl
  refine TE.seq ?_
  refine TE.region ?_
  refine OL.box rfl rfl ?_
  intro g2 w1 h2 hc1 hg_g2
  have lt_r_g2 : r < g2 := by have := hr.lt; omega
  have ge_g2 : w.heap.size ≤ g2 := by have := hC.size; omega
  replace hr := hr.chg0 hc1
  replace hs := hs.chg0 hc1
  replace hC := hC.then_ hc1
  have h2 : Blk w1 g2 27 ([.pointer (some ⟨r, 0, none⟩)]) := h2
  refine OL.alloc Tryd.zeroValue3 rfl ?_
  intro g4 w2 h4 hc2 hg_g4
  have lt_r_g4 : r < g4 := by have := hr.lt; omega
  have lt_g2_g4 : g2 < g4 := by have := h2.lt; omega
  have ge_g4 : w.heap.size ≤ g4 := by have := hC.size; omega
  replace hr := hr.chg0 hc2
  replace hs := hs.chg0 hc2
  replace h2 := h2.chg0 hc2
  replace hC := hC.then_ hc2
  have h4 : Blk w2 g4 3 ([.int .i64 0]) := h4
  refine OL.alloc Tryd.zeroValue31 rfl ?_
  intro g5 w3 h5 hc3 hg_g5
  have lt_r_g5 : r < g5 := by have := hr.lt; omega
  have lt_g2_g5 : g2 < g5 := by have := h2.lt; omega
  have lt_g4_g5 : g4 < g5 := by have := h4.lt; omega
  have ge_g5 : w.heap.size ≤ g5 := by have := hC.size; omega
  replace hr := hr.chg0 hc3
  replace hs := hs.chg0 hc3
  replace h2 := h2.chg0 hc3
  replace h4 := h4.chg0 hc3
  replace hC := hC.then_ hc3
  have h5 : Blk w3 g5 31 ([.int .i64 0]) := h5
  refine OL.nil ?_
  refine TE.seq ?_
  refine TE.seq ?_
  refine TE.region ?_
  refine OL.val (Run.load (i := 0) rfl Tryd.isAgg27 h2 (by omega) rfl) rfl ?_
  refine OL.call rfl Tryd.call39 rfl (ready_any d a P r S.hd pv S.next _ sy _ hr) ?_
  rintro _ _ ⟨rfl, rfl⟩
  refine ⟨_, rfl, ?_⟩
  refine OL.pure (Pure.assign rfl) rfl ?_
  refine OL.nil ?_
  refine TE.seq ?_
  refine TE.region ?_
  refine OL.pure (Pure.move rfl) rfl ?_
  refine OL.pure (Pure.neq rfl rfl) rfl ?_
  refine OL.cast (.bool false) 16 rfl (rfl) ?_
  refine OL.nil ?_
  refine TE.condF rfl rfl ?_
  refine TE.skip ?_
  refine TE.seq ?_
  refine TE.region ?_
  refine OL.val (Run.load (i := 0) rfl Tryd.isAgg27 h2 (by omega) rfl) rfl ?_
  refine OL.defer rfl ?_
  refine OL.nil ?_
  refine TE.seq ?_
  refine TE.seq ?_
  refine TE.region ?_
  refine OL.pure (Pure.move rfl) rfl ?_
  refine OL.pure (Pure.lenStr Tryd.runUnderlying9 rfl) rfl ?_
  refine OL.pure (Pure.gtr rfl rfl) rfl ?_
  refine OL.cast (.bool false) 21 rfl (congrArg Value.bool (decide_eq_false (by omega))) ?_
  refine OL.nil ?_
  refine TE.condF rfl rfl ?_
  refine TE.skip ?_
  refine TE.seq ?_
  refine TE.region ?_
  refine OL.pure (Pure.move rfl) rfl ?_
  refine OL.pure (Pure.lenStr Tryd.runUnderlying9 rfl) rfl ?_
  refine OL.call rfl Tryd.call23 rfl (rneed_ok t.length hl _) ?_
  rintro _ _ ⟨rfl, rfl⟩
  refine ⟨_, rfl, ?_⟩
  refine OL.pure (Pure.move rfl) rfl ?_
  refine OL.pure (Pure.extract (vs := [.int .i64 (need (42 + t.length) : Int), .int .i64 0]) (i := 0) rfl rfl) rfl ?_
  refine OL.pure (Pure.extract (vs := [.int .i64 (need (42 + t.length) : Int), .int .i64 0]) (i := 1) rfl rfl) rfl ?_
  refine OL.pure (Pure.assign rfl) rfl ?_
  refine OL.store (j := 0) rfl rfl Tryd.sizeOf31 rfl h5 (by omega) (rfl) ?_
  intro w4 hb4 hc4
  replace hr := hr.chg hc4 (by simpa using hr.ne h5 (by decide))
  replace hs := hs.chg hc4 (hs.apart h5 (by decide))
  replace h2 := h2.chg hc4 (by simpa using h2.ne h5 (by decide))
  replace h4 := h4.chg hc4 (by simpa using h4.ne h5 (by decide))
  replace hC := hC.trans1 hc4 (by first | exact .inr (by omega) | exact .inl (by simp))
  replace h5 := hb4
  refine OL.nil ?_
  refine TE.seq ?_
  refine TE.block ?_
  refine TE.seq ?_
  refine TE.region ?_
  refine OL.val (Run.load (i := 0) rfl Tryd.isAgg31 h5 (by omega) rfl) rfl ?_
  refine OL.pure (Pure.neq rfl rfl) rfl ?_
  refine OL.cast (.bool false) 30 rfl (rfl) ?_
  refine OL.pure (Pure.assign rfl) rfl ?_
  refine OL.nil ?_
  refine TE.condF rfl rfl ?_
  refine TE.seq ?_
  refine TE.region ?_
  refine OL.pure (Pure.move rfl) rfl ?_
  refine OL.val (Run.load (i := 0) rfl Tryd.isAgg27 h2 (by omega) rfl) rfl ?_
  refine OL.call rfl Tryd.call17 rfl (free_any d a P r S.hd pv S.next _ sy S.ents (by omega) (by omega) hpl (by omega) _ hr hs) ?_
  rintro _ w5 ⟨rfl, hc5⟩
  replace hr := hr.chg0 hc5
  replace hs := hs.chg0 hc5
  replace h2 := h2.chg0 hc5
  replace h4 := h4.chg0 hc5
  replace h5 := h5.chg0 hc5
  replace hC := hC.then_ hc5
  refine ⟨_, rfl, ?_⟩
  refine OL.pure (Pure.gtr rfl rfl) rfl ?_
  refine OL.cast (.bool true) 36 rfl (congrArg Value.bool (decide_eq_true (by omega))) ?_
  refine OL.pure (Pure.assign rfl) rfl ?_
  refine OL.nil ?_
  refine TE.condT rfl rfl ?_
  refine TE.seq ?_
  refine TE.region ?_
  refine OL.store (j := 0) rfl rfl Tryd.sizeOf3 rfl h4 (by omega) (rfl) ?_
  intro w6 hb6 hc6
  replace hr := hr.chg hc6 (by simpa using hr.ne h4 (by decide))
  replace hs := hs.chg hc6 (hs.apart h4 (by decide))
  replace h2 := h2.chg hc6 (by simpa using h2.ne h4 (by decide))
  replace h5 := h5.chg hc6 (by simpa using h5.ne h4 (by decide))
  replace hC := hC.trans1 hc6 (by first | exact .inr (by omega) | exact .inl (by simp))
  replace h4 := hb6
  refine OL.store (j := 0) rfl rfl Tryd.sizeOf31 rfl h5 (by omega) (rfl) ?_
  intro w7 hb7 hc7
  replace hr := hr.chg hc7 (by simpa using hr.ne h5 (by decide))
  replace hs := hs.chg hc7 (hs.apart h5 (by decide))
  replace h2 := h2.chg hc7 (by simpa using h2.ne h5 (by decide))
  replace h4 := h4.chg hc7 (by simpa using h4.ne h5 (by decide))
  replace hC := hC.trans1 hc7 (by first | exact .inr (by omega) | exact .inl (by simp))
  replace h5 := hb7
  refine OL.nil ?_
  refine TE.retU (fun a_ ha_ => ?_)
  refine Unw.call Tryd.call40 (note_any r g5 (26) (by omega) _ _ h5 ?_)
  exact Unw.done (vs := [.int .i64 0, .int .i64 26]) ha_ Tryd.results19 ⟨⟨_, rfl, loadCell_at Tryd.isAgg3 h4 rfl⟩, ⟨_, rfl, loadCell_at Tryd.isAgg31 h5 rfl⟩, trivial⟩ ⟨rfl, hC⟩

set_option maxHeartbeats 2000000 in
theorem app_ok {tK tF : TypeId} {V : Int → List UInt8} {ks rs : List Nat} {S : Rs} (d n c a P r : Nat) (hP : 0 < P) (haP : a + 2 + P ≤ n) (hn : n ≤ 8192) (hpl : S.hd.place < P) (hnx : S.next ≤ 1099511627775) (t : List UInt8) (hl : t.length ≤ 131072) (hu : used S.ents + need (42 + t.length) ≤ P) (hn2 : S.next ≤ 1099511627775) (hgm : S.hd.gen ≤ 2147483647) (hc0 : c ≤ 1073700000) (hk0 : 1 ∉ ks) (hk1 : 0 ∉ ks) (hq0 : 1 ∉ rs) (hq1 : 0 ∉ rs) (w : World) (hD : Dk 93 97 w d n (V) (c) false ks) (hR : RgK 80 85 w r d a P (S) rs) (hK : Blk w 1 tK (iv .u32 K)) (hF : Blk w 0 tF (iv .i64 fldL)) : Calls Tryd.prog 19 #[.pointer (some ⟨r, 0, none⟩), .string (str t)] w (fun e w_ => ∃ ks_ rs_, e = .returned (.tuple #[.int .i64 (S.next : Int), .int .i64 0]) ∧ Dk 93 97 w_ d n (appV V a P S t) (c + need (42 + t.length)) false ks_ ∧ RgK 80 85 w_ r d a P (appS S t) rs_ ∧ Chg (rs ++ ks) w w_ ∧ Grew ks ks_ w ∧ Grew rs rs_ w) := by
  refine calls_of_TU (vs := [.pointer (some ⟨r, 0, none⟩), .string (str t)]) Tryd.func19 Tryd.ntmps19 rfl (by simp) ?_
  obtain ⟨pv, sy, hr, hs, rfl⟩ := hR
  have hC : Chg ((r :: own pv) ++ ks) w w := Chg.refl _ _
  have hCz : w.heap.size ≤ w.heap.size := Nat.le_refl _
  have hgr : Grew ks ks w := Grew.refl _ _
  have hgi : Grew ((r :: own pv) ++ ks) ks w := fun k hk => .inl (List.mem_append_right _ hk)
  have h0w : 1 < w.heap.size := hK.lt
  have h1w : 0 < w.heap.size := hF.lt
  have hqn0 : 1 ≠ r := fun e_ => hq0 (by simp [e_])
  have hqn1 : 0 ≠ r := fun e_ => hq1 (by simp [e_])
  have hnf : S.next = S.hd.first + S.ents.length := rfl
  refine TE.seq ?_
  refine TE.region ?_
  refine OL.box rfl rfl ?_
  intro g2 w1 h2 hc1 hg_g2
  have lt_r_g2 : r < g2 := by have := hr.lt; omega
  have lt_1_g2 : 1 < g2 := by have := hK.lt; omega
  have lt_0_g2 : 0 < g2 := by have := hF.lt; omega
  have ge_g2 : w.heap.size ≤ g2 := by have := hC.size; omega
  replace hD := hD.chg0 hc1
  replace hr := hr.chg0 hc1
  replace hs := hs.chg0 hc1
  replace hK := hK.chg0 hc1
  replace hF := hF.chg0 hc1
  replace hC := hC.then_ hc1
  have h2 : Blk w1 g2 27 ([.pointer (some ⟨r, 0, none⟩)]) := h2
  refine OL.alloc Tryd.zeroValue3 rfl ?_
  intro g4 w2 h4 hc2 hg_g4
  have lt_r_g4 : r < g4 := by have := hr.lt; omega
  have lt_1_g4 : 1 < g4 := by have := hK.lt; omega
  have lt_0_g4 : 0 < g4 := by have := hF.lt; omega
  have lt_g2_g4 : g2 < g4 := by have := h2.lt; omega
  have ge_g4 : w.heap.size ≤ g4 := by have := hC.size; omega
  replace hD := hD.chg0 hc2
  replace hr := hr.chg0 hc2
  replace hs := hs.chg0 hc2
  replace hK := hK.chg0 hc2
  replace hF := hF.chg0 hc2
  replace h2 := h2.chg0 hc2
  replace hC := hC.then_ hc2
  have h4 : Blk w2 g4 3 ([.int .i64 0]) := h4
  refine OL.alloc Tryd.zeroValue31 rfl ?_
  intro g5 w3 h5 hc3 hg_g5
  have lt_r_g5 : r < g5 := by have := hr.lt; omega
  have lt_1_g5 : 1 < g5 := by have := hK.lt; omega
  have lt_0_g5 : 0 < g5 := by have := hF.lt; omega
  have lt_g2_g5 : g2 < g5 := by have := h2.lt; omega
  have lt_g4_g5 : g4 < g5 := by have := h4.lt; omega
  have ge_g5 : w.heap.size ≤ g5 := by have := hC.size; omega
  replace hD := hD.chg0 hc3
  replace hr := hr.chg0 hc3
  replace hs := hs.chg0 hc3
  replace hK := hK.chg0 hc3
  replace hF := hF.chg0 hc3
  replace h2 := h2.chg0 hc3
  replace h4 := h4.chg0 hc3
  replace hC := hC.then_ hc3
  have h5 : Blk w3 g5 31 ([.int .i64 0]) := h5
  refine OL.nil ?_
  refine TE.seq ?_
  refine TE.seq ?_
  refine TE.region ?_
  refine OL.val (Run.load (i := 0) rfl Tryd.isAgg27 h2 (by omega) rfl) rfl ?_
  refine OL.call rfl Tryd.call39 rfl (ready_any d a P r S.hd pv S.next _ sy _ hr) ?_
  rintro _ _ ⟨rfl, rfl⟩
  refine ⟨_, rfl, ?_⟩
  refine OL.pure (Pure.assign rfl) rfl ?_
  refine OL.nil ?_
  refine TE.seq ?_
  refine TE.region ?_
  refine OL.pure (Pure.move rfl) rfl ?_
  refine OL.pure (Pure.neq rfl rfl) rfl ?_
  refine OL.cast (.bool false) 16 rfl (rfl) ?_
  refine OL.nil ?_
  refine TE.condF rfl rfl ?_
  refine TE.skip ?_
  refine TE.seq ?_
  refine TE.region ?_
  refine OL.val (Run.load (i := 0) rfl Tryd.isAgg27 h2 (by omega) rfl) rfl ?_
  refine OL.defer rfl ?_
  refine OL.nil ?_
  refine TE.seq ?_
  refine TE.seq ?_
  refine TE.region ?_
  refine OL.pure (Pure.move rfl) rfl ?_
  refine OL.pure (Pure.lenStr Tryd.runUnderlying9 rfl) rfl ?_
  refine OL.pure (Pure.gtr rfl rfl) rfl ?_
  refine OL.cast (.bool false) 21 rfl (congrArg Value.bool (decide_eq_false (by omega))) ?_
  refine OL.nil ?_
  refine TE.condF rfl rfl ?_
  refine TE.skip ?_
  refine TE.seq ?_
  refine TE.region ?_
  refine OL.pure (Pure.move rfl) rfl ?_
  refine OL.pure (Pure.lenStr Tryd.runUnderlying9 rfl) rfl ?_
  refine OL.call rfl Tryd.call23 rfl (rneed_ok t.length hl _) ?_
  rintro _ _ ⟨rfl, rfl⟩
  refine ⟨_, rfl, ?_⟩
  refine OL.pure (Pure.move rfl) rfl ?_
  refine OL.pure (Pure.extract (vs := [.int .i64 (need (42 + t.length) : Int), .int .i64 0]) (i := 0) rfl rfl) rfl ?_
  refine OL.pure (Pure.extract (vs := [.int .i64 (need (42 + t.length) : Int), .int .i64 0]) (i := 1) rfl rfl) rfl ?_
  refine OL.pure (Pure.assign rfl) rfl ?_
  refine OL.store (j := 0) rfl rfl Tryd.sizeOf31 rfl h5 (by omega) (rfl) ?_
  intro w4 hb4 hc4
  replace hD := hD.chg hc4 (hD.apart h5 (by decide) (by decide))
  replace hr := hr.chg hc4 (by simpa using hr.ne h5 (by decide))
  replace hs := hs.chg hc4 (hs.apart h5 (by decide))
  replace hK := hK.chg hc4 (by simp; omega)
  replace hF := hF.chg hc4 (by simp; omega)
  replace h2 := h2.chg hc4 (by simpa using h2.ne h5 (by decide))
  replace h4 := h4.chg hc4 (by simpa using h4.ne h5 (by decide))
  replace hC := hC.trans1 hc4 (by first | exact .inr (by omega) | exact .inl (by simp))
  replace h5 := hb4
  refine OL.nil ?_
  refine TE.seq ?_
  refine TE.block ?_
  refine TE.seq ?_
  refine TE.region ?_
  refine OL.val (Run.load (i := 0) rfl Tryd.isAgg31 h5 (by omega) rfl) rfl ?_
  refine OL.pure (Pure.neq rfl rfl) rfl ?_
  refine OL.cast (.bool false) 30 rfl (rfl) ?_
  refine OL.pure (Pure.assign rfl) rfl ?_
  refine OL.nil ?_
  refine TE.condF rfl rfl ?_
  refine TE.seq ?_
  refine TE.region ?_
  refine OL.pure (Pure.move rfl) rfl ?_
  refine OL.val (Run.load (i := 0) rfl Tryd.isAgg27 h2 (by omega) rfl) rfl ?_
  refine OL.call rfl Tryd.call17 rfl (free_any d a P r S.hd pv S.next _ sy S.ents (by omega) (by omega) hpl (by omega) _ hr hs) ?_
  rintro _ w5 ⟨rfl, hc5⟩
  replace hD := hD.chg0 hc5
  replace hr := hr.chg0 hc5
  replace hs := hs.chg0 hc5
  replace hK := hK.chg0 hc5
  replace hF := hF.chg0 hc5
  replace h2 := h2.chg0 hc5
  replace h4 := h4.chg0 hc5
  replace h5 := h5.chg0 hc5
  replace hC := hC.then_ hc5
  refine ⟨_, rfl, ?_⟩
  have hchk := entFr_ok (n := S.next) (e := newEnt S t) hgm hn2 (by show t.length ≤ 262144; omega)
  refine OL.pure (Pure.gtr rfl rfl) rfl ?_
  refine OL.cast (.bool false) 36 rfl (congrArg Value.bool (decide_eq_false (by omega))) ?_
  refine OL.pure (Pure.assign rfl) rfl ?_
  refine OL.nil ?_
  refine TE.condF rfl rfl ?_
  refine TE.seq ?_
  refine TE.region ?_
  refine OL.val (Run.load (i := 0) rfl Tryd.isAgg27 h2 (by omega) rfl) rfl ?_
  refine OL.pure (Pure.nilCheck rfl) rfl ?_
  refine OL.pure (Pure.fieldAddr (r := 8) Tryd.runUnderlying80 rfl Tryd.sizeOf3 rfl rfl) rfl ?_
  refine OL.val (Run.load (i := 8) rfl Tryd.isAgg3 hr (by omega) rfl) rfl ?_
  refine OL.pure (Pure.gtr rfl rfl) rfl ?_
  refine OL.cast (.bool false) 42 rfl (congrArg Value.bool (decide_eq_false (by omega))) ?_
  refine OL.pure (Pure.assign rfl) rfl ?_
  refine OL.nil ?_
  refine TE.condF rfl rfl ?_
  refine TE.skip ?_
  refine TE.inBlock ?_
  refine TE.seq ?_
  replace hCz := hC.size
  have hrlt := hr.lt
  have h2lt := h2.lt
  have h4lt := h4.lt
  have h5lt := h5.lt
  refine TE.meet (σ := Nat) [0, 1, 2, 4, 5, 7, 8] (fun s_ w_ => (w.heap.size ≤ s_ ∧ r < s_ ∧ g2 < s_ ∧ g4 < s_ ∧ g5 < s_) ∧ Chg ((r :: own pv) ++ ks) w w_ ∧ Dk 93 97 w_ d n (V) (c) false ks ∧ Blk w_ 1 tK (iv .u32 K) ∧ Blk w_ 0 tF (iv .i64 fldL) ∧ Blk w_ r 80 (rcv d a P S.hd pv S.next ((S.hd.place + used S.ents) % P) sy) ∧ RowO w_ 85 3 pv (S.ents).length (spotCells P (S.hd.place) (S.ents)) ∧ Blk w_ g2 27 [.pointer (some ⟨r, 0, none⟩)] ∧ Blk w_ g4 3 [.int .i64 0] ∧ Blk w_ g5 31 [.int .i64 0] ∧ Blk w_ s_ 9 [.string (str (entText S t))]) (fun s_ => [(0, .pointer (some ⟨r, 0, none⟩)), (1, .string (str t)), (2, .pointer (some ⟨g2, 0, none⟩)), (4, .pointer (some ⟨g4, 0, none⟩)), (5, .pointer (some ⟨g5, 0, none⟩)), (7, .int .i64 (↑(need (42 + t.length)))), (8, .pointer (some ⟨s_, 0, none⟩))]) (fun hj6 => ?_) (fun s_ w_ h_ => ?_)
  ·
    refine TE.plan 17 (.cons (0, true) (.cons (1, true) (.cons (2, true) (.cons (3, true) (.cons (4, true) (.cons (5, true) (.cons (6, true) (.cons (7, true) (.cons (8, true) (.cons (9, true) (.cons (10, true) (.br 11 15 (.cons (12, true) (.cons (13, true) (.cons (14, true) (.cons (15, false) (.cons (16, false) .nil))))) (.cons (11, false) (.cons (12, true) (.cons (13, true) (.cons (14, true) (.cons (16, false) .nil))))))))))))))))) (fun w_ => Blk w_ g2 27 ([.pointer (some ⟨r, 0, none⟩)]) ∧ Blk w_ r 80 (rcv d a P S.hd pv S.next ((S.hd.place + used S.ents) % P) sy)) rfl (by kernel_rfl) rfl ?_
    have hS7 : Chg [] w5 w5.drew := Chg.drew _ _
    replace hD := hD.chg0 hS7
    replace hr := hr.chg0 hS7
    replace hs := hs.chg0 hS7
    replace hK := hK.chg0 hS7
    replace hF := hF.chg0 hS7
    replace h2 := h2.chg0 hS7
    replace h4 := h4.chg0 hS7
    replace h5 := h5.chg0 hS7
    replace hC := hC.then_ hS7
    have hgz_ : w5.heap.size = w5.drew.heap.size := rfl
    refine PL.take rfl (fun w_ h_ => Run.load (i := 0) rfl Tryd.isAgg27 h_.1 (by omega) rfl) rfl ⟨h2, hr⟩ ?_
    refine PL.takeP rfl (Pure.nilCheck rfl) rfl ⟨h2, hr⟩ ?_
    refine PL.takeP rfl (Pure.fieldAddr (r := 3) Tryd.runUnderlying80 rfl Tryd.sizeOf70 rfl rfl) rfl ⟨h2, hr⟩ ?_
    refine PL.takeP rfl (Pure.fieldAddr (r := 3) Tryd.runUnderlying70 rfl Tryd.sizeOf3 rfl rfl) rfl ⟨h2, hr⟩ ?_
    refine PL.take rfl (fun w_ h_ => Run.load (i := 3) rfl Tryd.isAgg3 h_.2 (by omega) rfl) rfl ⟨h2, hr⟩ ?_
    refine PL.take rfl (fun w_ h_ => Run.load (i := 0) rfl Tryd.isAgg27 h_.1 (by omega) rfl) rfl ⟨h2, hr⟩ ?_
    refine PL.takeP rfl (Pure.nilCheck rfl) rfl ⟨h2, hr⟩ ?_
    refine PL.takeP rfl (Pure.fieldAddr (r := 8) Tryd.runUnderlying80 rfl Tryd.sizeOf3 rfl rfl) rfl ⟨h2, hr⟩ ?_
    refine PL.take rfl (fun w_ h_ => Run.load (i := 8) rfl Tryd.isAgg3 h_.2 (by omega) rfl) rfl ⟨h2, hr⟩ ?_
    refine PL.takeP rfl (Pure.move rfl) rfl ⟨h2, hr⟩ ?_
    refine PL.takeP rfl (Pure.build (cs := (entFr S.next (newEnt S t)).cells) rfl (by kernel_rfl)) rfl ⟨h2, hr⟩ ?_
    refine PL.br ?_ ?_
    ·
      refine PL.call rfl rfl Tryd.call41 rfl (encode_any (entFr S.next (newEnt S t)) hchk _ hK hF) ?_
      rintro _ w8 ⟨rfl, hc8⟩
      replace hD := hD.chg0 hc8
      replace hr := hr.chg0 hc8
      replace hs := hs.chg0 hc8
      replace hK := hK.chg0 hc8
      replace hF := hF.chg0 hc8
      replace h2 := h2.chg0 hc8
      replace h4 := h4.chg0 hc8
      replace h5 := h5.chg0 hc8
      replace hC := hC.then_ hc8
      refine ⟨_, rfl, ⟨h2, hr⟩, ?_⟩
      refine PL.takeP rfl (Pure.move rfl) rfl ⟨h2, hr⟩ ?_
      refine PL.takeP rfl (Pure.extract (vs := [.string (str (entText S t)), .int .i64 0]) (i := 0) rfl rfl) rfl ⟨h2, hr⟩ ?_
      refine PL.takeP rfl (Pure.extract (vs := [.string (str (entText S t)), .int .i64 0]) (i := 1) rfl rfl) rfl ⟨h2, hr⟩ ?_
      refine PL.alloc rfl Tryd.zeroValue9 rfl (fun w_ h_ => ⟨h2.chg0 h_, hr.chg0 h_⟩) ?_
      intro g8 w9 h8 hc9 hg_g8
      have lt_r_g8 : r < g8 := by have := hr.lt; omega
      have lt_1_g8 : 1 < g8 := by have := hK.lt; omega
      have lt_0_g8 : 0 < g8 := by have := hF.lt; omega
      have lt_g2_g8 : g2 < g8 := by have := h2.lt; omega
      have lt_g4_g8 : g4 < g8 := by have := h4.lt; omega
      have lt_g5_g8 : g5 < g8 := by have := h5.lt; omega
      have ge_g8 : w.heap.size ≤ g8 := by have := hC.size; omega
      replace hD := hD.chg0 hc9
      replace hr := hr.chg0 hc9
      replace hs := hs.chg0 hc9
      replace hK := hK.chg0 hc9
      replace hF := hF.chg0 hc9
      replace h2 := h2.chg0 hc9
      replace h4 := h4.chg0 hc9
      replace h5 := h5.chg0 hc9
      replace hC := hC.then_ hc9
      have h8 : Blk w9 g8 9 ([.string (str [])]) := h8
      refine PL.storeS (j := 0) rfl rfl rfl Tryd.sizeOf9 rfl h8 (by omega) (rfl) (fun w_ h_ c_ => ⟨h2.chg c_ (by simp; omega), hr.chg c_ (by simp; omega)⟩) ?_
      intro w10 hb10 hc10
      replace hD := hD.chg hc10 (hD.apart h8 (by decide) (by decide))
      replace hr := hr.chg hc10 (by simpa using hr.ne h8 (by decide))
      replace hs := hs.chg hc10 (hs.apart h8 (by decide))
      replace hK := hK.chg hc10 (by simp; omega)
      replace hF := hF.chg hc10 (by simp; omega)
      replace h2 := h2.chg hc10 (by simpa using h2.ne h8 (by decide))
      replace h4 := h4.chg hc10 (by simpa using h4.ne h8 (by decide))
      replace h5 := h5.chg hc10 (by simpa using h5.ne h8 (by decide))
      replace hC := hC.trans1 hc10 (by first | exact .inr (by omega) | exact .inl (by simp))
      replace h8 := hb10
      refine PL.nilTail ?_
      refine OL.store (j := 0) rfl rfl Tryd.sizeOf31 rfl h5 (by omega) (rfl) ?_
      intro w11 hb11 hc11
      replace hD := hD.chg hc11 (hD.apart h5 (by decide) (by decide))
      replace hr := hr.chg hc11 (by simpa using hr.ne h5 (by decide))
      replace hs := hs.chg hc11 (hs.apart h5 (by decide))
      replace hK := hK.chg hc11 (by simp; omega)
      replace hF := hF.chg hc11 (by simp; omega)
      replace h2 := h2.chg hc11 (by simpa using h2.ne h5 (by decide))
      replace h4 := h4.chg hc11 (by simpa using h4.ne h5 (by decide))
      replace h8 := h8.chg hc11 (by simpa using h8.ne h5 (by decide))
      replace hC := hC.trans1 hc11 (by first | exact .inr (by omega) | exact .inl (by simp))
      replace h5 := hb11
      refine OL.nil ?_
      exact hj6 g8 _ ⟨⟨by omega, by omega, by omega, by omega, by omega⟩, hC, hD, hK, hF, hr, hs, h2, h4, h5, h8⟩ _ rfl
    ·
      refine PL.alloc rfl Tryd.zeroValue9 rfl (fun w_ h_ => ⟨h2.chg0 h_, hr.chg0 h_⟩) ?_
      intro g8 w12 h8 hc12 hg_g8
      have lt_r_g8 : r < g8 := by have := hr.lt; omega
      have lt_1_g8 : 1 < g8 := by have := hK.lt; omega
      have lt_0_g8 : 0 < g8 := by have := hF.lt; omega
      have lt_g2_g8 : g2 < g8 := by have := h2.lt; omega
      have lt_g4_g8 : g4 < g8 := by have := h4.lt; omega
      have lt_g5_g8 : g5 < g8 := by have := h5.lt; omega
      have ge_g8 : w.heap.size ≤ g8 := by have := hC.size; omega
      replace hD := hD.chg0 hc12
      replace hr := hr.chg0 hc12
      replace hs := hs.chg0 hc12
      replace hK := hK.chg0 hc12
      replace hF := hF.chg0 hc12
      replace h2 := h2.chg0 hc12
      replace h4 := h4.chg0 hc12
      replace h5 := h5.chg0 hc12
      replace hC := hC.then_ hc12
      have h8 : Blk w12 g8 9 ([.string (str [])]) := h8
      refine PL.call rfl rfl Tryd.call41 rfl (encode_any (entFr S.next (newEnt S t)) hchk _ hK hF) ?_
      rintro _ w13 ⟨rfl, hc13⟩
      replace hD := hD.chg0 hc13
      replace hr := hr.chg0 hc13
      replace hs := hs.chg0 hc13
      replace hK := hK.chg0 hc13
      replace hF := hF.chg0 hc13
      replace h2 := h2.chg0 hc13
      replace h4 := h4.chg0 hc13
      replace h5 := h5.chg0 hc13
      replace h8 := h8.chg0 hc13
      replace hC := hC.then_ hc13
      refine ⟨_, rfl, ⟨h2, hr⟩, ?_⟩
      refine PL.takeP rfl (Pure.move rfl) rfl ⟨h2, hr⟩ ?_
      refine PL.takeP rfl (Pure.extract (vs := [.string (str (entText S t)), .int .i64 0]) (i := 0) rfl rfl) rfl ⟨h2, hr⟩ ?_
      refine PL.takeP rfl (Pure.extract (vs := [.string (str (entText S t)), .int .i64 0]) (i := 1) rfl rfl) rfl ⟨h2, hr⟩ ?_
      refine PL.storeS (j := 0) rfl rfl rfl Tryd.sizeOf9 rfl h8 (by omega) (rfl) (fun w_ h_ c_ => ⟨h2.chg c_ (by simp; omega), hr.chg c_ (by simp; omega)⟩) ?_
      intro w14 hb14 hc14
      replace hD := hD.chg hc14 (hD.apart h8 (by decide) (by decide))
      replace hr := hr.chg hc14 (by simpa using hr.ne h8 (by decide))
      replace hs := hs.chg hc14 (hs.apart h8 (by decide))
      replace hK := hK.chg hc14 (by simp; omega)
      replace hF := hF.chg hc14 (by simp; omega)
      replace h2 := h2.chg hc14 (by simpa using h2.ne h8 (by decide))
      replace h4 := h4.chg hc14 (by simpa using h4.ne h8 (by decide))
      replace h5 := h5.chg hc14 (by simpa using h5.ne h8 (by decide))
      replace hC := hC.trans1 hc14 (by first | exact .inr (by omega) | exact .inl (by simp))
      replace h8 := hb14
      refine PL.nilTail ?_
      refine OL.store (j := 0) rfl rfl Tryd.sizeOf31 rfl h5 (by omega) (rfl) ?_
      intro w15 hb15 hc15
      replace hD := hD.chg hc15 (hD.apart h5 (by decide) (by decide))
      replace hr := hr.chg hc15 (by simpa using hr.ne h5 (by decide))
      replace hs := hs.chg hc15 (hs.apart h5 (by decide))
      replace hK := hK.chg hc15 (by simp; omega)
      replace hF := hF.chg hc15 (by simp; omega)
      replace h2 := h2.chg hc15 (by simpa using h2.ne h5 (by decide))
      replace h4 := h4.chg hc15 (by simpa using h4.ne h5 (by decide))
      replace h8 := h8.chg hc15 (by simpa using h8.ne h5 (by decide))
      replace hC := hC.trans1 hc15 (by first | exact .inr (by omega) | exact .inl (by simp))
      replace h5 := hb15
      refine OL.nil ?_
      exact hj6 g8 _ ⟨⟨by omega, by omega, by omega, by omega, by omega⟩, hC, hD, hK, hF, hr, hs, h2, h4, h5, h8⟩ _ rfl
  ·
    revert s_ w_ h_
    rintro g8 w6 ⟨hg8, hC, hD, hK, hF, hr, hs, h2, h4, h5, h8⟩
    have lt_r_g8 : r < g8 := by omega
    have lt_g2_g8 : g2 < g8 := by omega
    have lt_g4_g8 : g4 < g8 := by omega
    have lt_g5_g8 : g5 < g8 := by omega
    have lt_K_g8 : 1 < g8 := by omega
    have lt_F_g8 : 0 < g8 := by omega
    have ge_g8 : w.heap.size ≤ g8 := by omega
    refine TE.seq ?_
    refine TE.seq ?_
    refine TE.region ?_
    refine OL.val (Run.load (i := 0) rfl Tryd.isAgg31 h5 (by omega) rfl) rfl ?_
    refine OL.pure (Pure.neq rfl rfl) rfl ?_
    refine OL.cast (.bool false) 59 rfl (rfl) ?_
    refine OL.nil ?_
    refine TE.condF rfl rfl ?_
    refine TE.skip ?_
    refine TE.seq ?_
    refine TE.region ?_
    refine OL.alloc Tryd.zeroValue3 rfl ?_
    intro g9 w16 h9 hc16 hg_g9
    have lt_r_g9 : r < g9 := by have := hr.lt; omega
    have lt_1_g9 : 1 < g9 := by have := hK.lt; omega
    have lt_0_g9 : 0 < g9 := by have := hF.lt; omega
    have lt_g2_g9 : g2 < g9 := by have := h2.lt; omega
    have lt_g4_g9 : g4 < g9 := by have := h4.lt; omega
    have lt_g5_g9 : g5 < g9 := by have := h5.lt; omega
    have lt_g8_g9 : g8 < g9 := by have := h8.lt; omega
    have ge_g9 : w.heap.size ≤ g9 := by have := hC.size; omega
    replace hD := hD.chg0 hc16
    replace hr := hr.chg0 hc16
    replace hs := hs.chg0 hc16
    replace hK := hK.chg0 hc16
    replace hF := hF.chg0 hc16
    replace h2 := h2.chg0 hc16
    replace h4 := h4.chg0 hc16
    replace h5 := h5.chg0 hc16
    replace h8 := h8.chg0 hc16
    replace hC := hC.then_ hc16
    have h9 : Blk w16 g9 3 ([.int .i64 0]) := h9
    refine OL.store (j := 0) rfl rfl Tryd.sizeOf3 rfl h9 (by omega) (rfl) ?_
    intro w17 hb17 hc17
    replace hD := hD.chg hc17 (hD.apart h9 (by decide) (by decide))
    replace hr := hr.chg hc17 (by simpa using hr.ne h9 (by decide))
    replace hs := hs.chg hc17 (hs.apart h9 (by decide))
    replace hK := hK.chg hc17 (by simp; omega)
    replace hF := hF.chg hc17 (by simp; omega)
    replace h2 := h2.chg hc17 (by simpa using h2.ne h9 (by decide))
    replace h4 := h4.chg hc17 (by simp; omega)
    replace h5 := h5.chg hc17 (by simpa using h5.ne h9 (by decide))
    replace h8 := h8.chg hc17 (by simpa using h8.ne h9 (by decide))
    replace hC := hC.trans1 hc17 (by first | exact .inr (by omega) | exact .inl (by simp))
    replace h9 := hb17
    obtain ⟨q, hq⟩ : ∃ q, q = (S.hd.place + used S.ents) % P := ⟨_, rfl⟩
    have hqP : q < P := by rw [hq]; exact Nat.mod_lt _ hP
    obtain ⟨m, hm⟩ : ∃ m, m = need (42 + t.length) := ⟨_, rfl⟩
    have hmP : m ≤ P := by omega
    have hr2 := hr
    rw [← hq] at hr2
    refine OL.nil ?_
    refine TE.seq ?_
    refine TE.seq ?_
    refine TE.plan 9 (.cons (0, true) (.cons (1, true) (.cons (2, true) (.cons (3, true) (.cons (4, true) (.cons (5, true) (.cons (6, true) (.cons (7, true) (.cons (8, true) .nil))))))))) (fun w_ => Chg [] w17 w_) rfl (by kernel_rfl) rfl ?_
    have hS18 : Chg [] w17 w17.drew := Chg.drew _ _
    refine PL.take rfl (fun w_ h_ => Run.load (i := 0) rfl Tryd.isAgg27 (h2.chg0 h_) (by omega) rfl) rfl hS18 ?_
    refine PL.takeP rfl (Pure.nilCheck rfl) rfl hS18 ?_
    refine PL.takeP rfl (Pure.fieldAddr (r := 0) Tryd.runUnderlying80 rfl Tryd.sizeOf66 rfl rfl) rfl hS18 ?_
    refine PL.take rfl (fun w_ h_ => Run.loadRow (i := 0) (vs := (arv d a P)) rfl Tryd.underlying66 rfl rfl (hr2.chg0 h_) (by omega) rfl) rfl hS18 ?_
    refine PL.take rfl (fun w_ h_ => Run.load (i := 0) rfl Tryd.isAgg27 (h2.chg0 h_) (by omega) rfl) rfl hS18 ?_
    refine PL.takeP rfl (Pure.nilCheck rfl) rfl hS18 ?_
    refine PL.takeP rfl (Pure.fieldAddr (r := 9) Tryd.runUnderlying80 rfl Tryd.sizeOf3 rfl rfl) rfl hS18 ?_
    refine PL.take rfl (fun w_ h_ => Run.load (i := 9) rfl Tryd.isAgg3 (hr2.chg0 h_) (by omega) rfl) rfl hS18 ?_
    refine PL.takeP rfl (Pure.move rfl) rfl hS18 ?_
    refine PL.cast (.int .i64 (m : Int)) 69 rfl (congrArg (fun x : Nat => Value.int .i64 (x : Int)) hm.symm) ?_
    refine PL.nilTail ?_
    replace hD := hD.chg0 hS18
    replace hr := hr.chg0 hS18
    replace hs := hs.chg0 hS18
    replace hK := hK.chg0 hS18
    replace hF := hF.chg0 hS18
    replace h2 := h2.chg0 hS18
    replace h4 := h4.chg0 hS18
    replace h5 := h5.chg0 hS18
    replace h8 := h8.chg0 hS18
    replace h9 := h9.chg0 hS18
    replace hr2 := hr2.chg0 hS18
    replace hC := hC.then_ hS18
    refine OL.call rfl Tryd.call37 rfl (circle_any d a P q m _) ?_
    rintro _ wb ⟨gn, ga, gp, rfl, ⟨hgn, hga, hgp⟩, hcb, hgen, hgea, hgep⟩
    have lt_r_gn : r < gn := by have := hr.lt; omega
    have lt_r_ga : r < ga := by have := hr.lt; omega
    have lt_r_gp : r < gp := by have := hr.lt; omega
    have lt_1_gn : 1 < gn := by have := hK.lt; omega
    have lt_1_ga : 1 < ga := by have := hK.lt; omega
    have lt_1_gp : 1 < gp := by have := hK.lt; omega
    have lt_0_gn : 0 < gn := by have := hF.lt; omega
    have lt_0_ga : 0 < ga := by have := hF.lt; omega
    have lt_0_gp : 0 < gp := by have := hF.lt; omega
    have lt_g2_gn : g2 < gn := by have := h2.lt; omega
    have lt_g2_ga : g2 < ga := by have := h2.lt; omega
    have lt_g2_gp : g2 < gp := by have := h2.lt; omega
    have lt_g4_gn : g4 < gn := by have := h4.lt; omega
    have lt_g4_ga : g4 < ga := by have := h4.lt; omega
    have lt_g4_gp : g4 < gp := by have := h4.lt; omega
    have lt_g5_gn : g5 < gn := by have := h5.lt; omega
    have lt_g5_ga : g5 < ga := by have := h5.lt; omega
    have lt_g5_gp : g5 < gp := by have := h5.lt; omega
    have lt_g8_gn : g8 < gn := by have := h8.lt; omega
    have lt_g8_ga : g8 < ga := by have := h8.lt; omega
    have lt_g8_gp : g8 < gp := by have := h8.lt; omega
    have lt_g9_gn : g9 < gn := by have := h9.lt; omega
    have lt_g9_ga : g9 < ga := by have := h9.lt; omega
    have lt_g9_gp : g9 < gp := by have := h9.lt; omega
    have lt_r_gn : r < gn := by have := hr2.lt; omega
    have lt_r_ga : r < ga := by have := hr2.lt; omega
    have lt_r_gp : r < gp := by have := hr2.lt; omega
    replace hD := hD.chg0 hcb
    replace hr := hr.chg0 hcb
    replace hs := hs.chg0 hcb
    replace hK := hK.chg0 hcb
    replace hF := hF.chg0 hcb
    replace h2 := h2.chg0 hcb
    replace h4 := h4.chg0 hcb
    replace h5 := h5.chg0 hcb
    replace h8 := h8.chg0 hcb
    replace h9 := h9.chg0 hcb
    replace hr2 := hr2.chg0 hcb
    replace hC := hC.then_ hcb
    refine ⟨_, rfl, ?_⟩
    refine OL.nil ?_
    refine TE.block ?_
    have hCz2 := hC.size
    refine TE.rangeFunc' (fun D l a_ e w2 => e = .returned (.tuple #[]) ∧ ∃ r, Lp w2 l r ∧ r.state ≠ .busy ∧ r.pending = none ∧ Df w2 D ∧ Chg (g8 :: g9 :: ks) wb w2 ∧ (∃ ki, Blk w2 g8 9 [.string (str (restT (entText S t) m))] ∧ Blk w2 g9 3 [.int .i64 (skp m : Int)] ∧ Dk 93 97 w2 d n ((wrEnt V a P q (entText S t) m)) (c + m) false ki ∧ Grew ks ki wb)) rfl Tryd.call61 ?_ ?_
    ·
      intro D l wl aF haF hch hgD hgl hDf hLp
      obtain ⟨r0, hR, hL⟩ := hLp.gen
      clear hLp
      refine (circle_iter gn ga gp l d a P q m n hP haP hn hqP hmP (fun i w_ => Chg (g8 :: g9 :: ks) wb w_ ∧ Lp w_ l r0 ∧ Df w_ D ∧ (∃ ki, Blk w_ g8 9 [.string (str (restT (entText S t) i))] ∧ Blk w_ g9 3 [.int .i64 (skp i : Int)] ∧ Dk 93 97 w_ d n ((wrEnt V a P q (entText S t) i)) (c + i) false ki ∧ Grew ks ki wb)) (fun w_ => False) ?_ ?_ ?_ wl ?_).mono ?_
      · exact fun i w_ h => ⟨hgn.chg h.1 (notin_cons (by omega) (notin_cons (by omega) (hD.notin hgn (by decide) (by decide)))), hga.chg h.1 (notin_cons (by omega) (notin_cons (by omega) (hD.notin hga (by decide) (by decide)))), hgp.chg h.1 (notin_cons (by omega) (notin_cons (by omega) (hD.notin hgp (by decide) (by decide))))⟩
      · exact fun i w_ w2 h hc => ⟨h.1.then_ hc, h.2.1.chg0 hc, h.2.2.1.chg0 hc, by obtain ⟨ki, k1, k2, k3, k4⟩ := h.2.2.2; exact ⟨ki, k1.chg0 hc, k2.chg0 hc, k3.chg0 hc, k4⟩⟩
      ·
        rintro i wi hi ⟨hci, hLi, hDi, hJ⟩
        rw [hR] at hLi
        refine rounds_rec hLi haF rfl rfl ?_
        have hr := hr.chg hci (notin_cons (by omega) (notin_cons (by omega) (hD.notin hr (by decide) (by decide))))
        have h2 := h2.chg hci (notin_cons (by omega) (notin_cons (by omega) (hD.notin h2 (by decide) (by decide))))
        have hCs := hC.size
        obtain ⟨ki, h8, h9, hD, hgz⟩ := hJ
        have hZ := hci
        simp only [params]
        have hsk := skp_le i
        have hzc := hci.size
        refine TE.region ?_
        refine OL.pure (Pure.assign rfl) rfl ?_
        refine OL.nil ?_
        refine TE.beginRound' hLi rfl ?_
        intro w19 hL2 hc19
        replace hD := hD.chg hc19 (hD.apartL hLi)
        replace hr := hr.chg hc19 (by simpa using (hLi.ne hr).symm)
        replace h2 := h2.chg hc19 (by simpa using (hLi.ne h2).symm)
        replace h8 := h8.chg hc19 (by simpa using (hLi.ne h8).symm)
        replace h9 := h9.chg hc19 (by simpa using (hLi.ne h9).symm)
        replace hDi := hDi.chg hc19 (by simpa using hDi.neL hLi)
        replace hZ := hZ.trans1 hc19 (.inr hgl)
        replace hLi := hL2
        refine TE.block ?_
        refine TE.seq ?_
        refine TE.region ?_
        refine OL.makeSlice (m := 512) (c := 512) (v := .int .u8 0) rfl rfl Tryd.underlying34 info5 rfl rfl rfl (by decide) (by decide) (by decide) rfl ?_
        intro gb w20 hb hc20 hg_gb
        have lt_r_gb : r < gb := by have := hr.lt; omega
        have lt_g2_gb : g2 < gb := by have := h2.lt; omega
        have lt_g8_gb : g8 < gb := by have := h8.lt; omega
        have lt_g9_gb : g9 < gb := by have := h9.lt; omega
        have ge_gb : wb.heap.size ≤ gb := by have := hZ.size; omega
        replace hD := hD.chg0 hc20
        replace hr := hr.chg0 hc20
        replace h2 := h2.chg0 hc20
        replace h8 := h8.chg0 hc20
        replace h9 := h9.chg0 hc20
        replace hLi := hLi.chg0 hc20
        replace hDi := hDi.chg0 hc20
        replace hZ := hZ.then_ hc20
        have hzd := hZ.size
        refine OL.pure (Pure.assign rfl) rfl ?_
        refine OL.nil ?_
        refine TE.seq ?_
        refine TE.plan 7 (.cons (0, true) (.cons (1, true) (.cons (2, true) (.cons (3, true) (.cons (4, true) (.cons (5, false) (.cons (6, true) .nil))))))) (fun w_ => Blk w_ g8 9 ([.string (str (restT (entText S t) i))]) ∧ Blk w_ g9 3 ([.int .i64 (skp i : Int)])) rfl (by kernel_rfl) rfl ?_
        have hS21 : Chg [] w20 w20.drew := Chg.drew _ _
        replace hD := hD.chg0 hS21
        replace hr := hr.chg0 hS21
        replace h2 := h2.chg0 hS21
        replace h8 := h8.chg0 hS21
        replace h9 := h9.chg0 hS21
        replace hLi := hLi.chg0 hS21
        replace hDi := hDi.chg0 hS21
        replace hb := hb.chg0 hS21
        replace hZ := hZ.then_ hS21
        refine PL.take rfl (fun w_ h_ => Run.load (i := 0) rfl Tryd.isAgg9 h_.1 (by omega) rfl) rfl ⟨h8, h9⟩ ?_
        refine PL.takeP rfl (Pure.move rfl) rfl ⟨h8, h9⟩ ?_
        refine PL.take rfl (fun w_ h_ => Run.load (i := 0) rfl Tryd.isAgg3 h_.2 (by omega) rfl) rfl ⟨h8, h9⟩ ?_
        refine PL.takeP rfl (Pure.sliceSlFrom (q := skp i) (size := 1) Tryd.runUnderlying34 Tryd.sizeOf5 rfl rfl rfl (by omega) (by omega) (by omega)) rfl ⟨h8, h9⟩ ?_
        refine PL.take rfl (fun w_ h_ => Run.load (i := 0) rfl Tryd.isAgg9 h_.1 (by omega) rfl) rfl ⟨h8, h9⟩ ?_
        refine PL.copyStr (s := (restT (entText S t) i)) rfl rfl rfl Tryd.underlying34 Tryd.sizeOf5 hb (by simp; omega) rfl (fun w_ h_ => ⟨h8.chg h_ (by simp; omega), h9.chg h_ (by simp; omega)⟩) ?_
        intro wq hq2 hcq
        replace hD := hD.chg hcq (hD.apart hb (by decide) (by decide))
        replace hr := hr.chg hcq (by simpa using hr.ne hb (by decide))
        replace h2 := h2.chg hcq (by simpa using h2.ne hb (by decide))
        replace h8 := h8.chg hcq (by simpa using h8.ne hb (by decide))
        replace h9 := h9.chg hcq (by simpa using h9.ne hb (by decide))
        replace hLi := hLi.chg hcq (by simpa using hLi.ne hb)
        replace hDi := hDi.chg hcq (by simpa using hDi.ne hb)
        replace hZ := hZ.trans1 hcq (by first | exact .inr (by omega) | exact .inl (by simp))
        replace hb : Blk wq gb 5 (bv (chunk (entText S t) i)) := by rw [← lay_chunk]; exact hq2
        obtain ⟨mi, hmi⟩ : ∃ x, x = min ((restT (entText S t) i)).length (512 - skp i) := ⟨_, rfl⟩
        refine PL.cast (.int .i64 (mi : Int)) 78 rfl (congrArg (fun x : Nat => Value.int .i64 (x : Int)) hmi.symm) ?_
        refine PL.takeP rfl (Pure.sliceFrom (l := (restT (entText S t) i)) (p := mi) Tryd.underlying9 rfl rfl (by omega) (by omega)) rfl ⟨h8, h9⟩ ?_
        refine PL.nilTail ?_
        refine OL.store (j := 0) rfl rfl Tryd.sizeOf9 rfl h8 (by omega) (rfl) ?_
        intro w22 hb22 hc22
        replace hD := hD.chg hc22 (hD.apart h8 (by decide) (by decide))
        replace hr := hr.chg hc22 (by simpa using hr.ne h8 (by decide))
        replace h2 := h2.chg hc22 (by simpa using h2.ne h8 (by decide))
        replace h9 := h9.chg hc22 (by simpa using h9.ne h8 (by decide))
        replace hLi := hLi.chg hc22 (by simpa using hLi.ne h8)
        replace hDi := hDi.chg hc22 (by simpa using hDi.ne h8)
        replace hb := hb.chg hc22 (by simpa using hb.ne h8 (by decide))
        replace hZ := hZ.trans1 hc22 (by first | exact .inr (by omega) | exact .inl (by simp))
        replace h8 := hb22
        replace h8 : Blk w22 g8 9 [.string (str (restT (entText S t) (i + 1)))] := by rw [← restT_succ, ← hmi]; exact h8
        refine OL.nil ?_
        refine TE.seq ?_
        refine TE.seq ?_
        refine TE.region ?_
        refine OL.val (Run.load (i := 0) rfl Tryd.isAgg27 h2 (by omega) rfl) rfl ?_
        refine OL.pure (Pure.nilCheck rfl) rfl ?_
        refine OL.pure (Pure.fieldAddr (r := 0) Tryd.runUnderlying80 rfl Tryd.sizeOf66 rfl rfl) rfl ?_
        refine OL.pure (Pure.fieldAddr (r := 0) Tryd.runUnderlying66 rfl Tryd.sizeOf26 rfl rfl) rfl ?_
        refine OL.val (Run.load (i := 0) rfl Tryd.isAgg26 hr (by omega) rfl) rfl ?_
        refine OL.pure (Pure.move rfl) rfl ?_
        refine OL.pure (Pure.move rfl) rfl ?_
        have hmx := Nat.mod_lt (q + i) hP
        refine OL.call rfl Tryd.call27 rfl (dwrite_any d n (c + i) (a + 2 + (q + i) % P) gb 512 (chunk (entText S t) i) (by omega) (by omega) (chunk_len _ _) (by decide) (by decide) _ hD hb) ?_
        rintro _ w9 ⟨k9, rfl, hD9, hc9, hg9⟩
        have hr_ := hr.chg hc9 (hD.notin hr (by decide) (by decide))
        have h2_ := h2.chg hc9 (hD.notin h2 (by decide) (by decide))
        have h8_ := h8.chg hc9 (hD.notin h8 (by decide) (by decide))
        have h9_ := h9.chg hc9 (hD.notin h9 (by decide) (by decide))
        have hLi_ := hLi.chg hc9 (hD.notinL hLi)
        have hDi_ := hDi.chg hc9 (hD.notinD hDi)
        have hb_ := hb.chg hc9 (hD.notin hb (by decide) (by decide))
        replace hr := hr_; clear hr_
        replace h2 := h2_; clear h2_
        replace h8 := h8_; clear h8_
        replace h9 := h9_; clear h9_
        replace hLi := hLi_; clear hLi_
        replace hDi := hDi_; clear hDi_
        replace hb := hb_; clear hb_
        replace hzd := hZ.size
        replace hZ := hZ.trans hc9 (fun k_ hk_ => (hgz k_ hk_).imp (fun h_ => by simp [h_]) id)
        replace hgz := hgz.trans hg9 hzd
        replace hD := hD9
        refine ⟨_, rfl, ?_⟩
        refine OL.pure (Pure.assign rfl) rfl ?_
        refine OL.nil ?_
        refine TE.seq ?_
        refine TE.region ?_
        refine OL.pure (Pure.move rfl) rfl ?_
        refine OL.pure (Pure.neq rfl rfl) rfl ?_
        refine OL.cast (.bool false) 89 rfl (rfl) ?_
        refine OL.nil ?_
        refine TE.condF rfl rfl ?_
        refine TE.skip ?_
        refine TE.region ?_
        refine OL.store (j := 0) rfl rfl Tryd.sizeOf3 rfl h9 (by omega) (rfl) ?_
        intro w23 hb23 hc23
        replace hD := hD.chg hc23 (hD.apart h9 (by decide) (by decide))
        replace hr := hr.chg hc23 (by simpa using hr.ne h9 (by decide))
        replace h2 := h2.chg hc23 (by simpa using h2.ne h9 (by decide))
        replace h8 := h8.chg hc23 (by simpa using h8.ne h9 (by decide))
        replace hLi := hLi.chg hc23 (by simpa using hLi.ne h9)
        replace hDi := hDi.chg hc23 (by simpa using hDi.ne h9)
        replace hb := hb.chg hc23 (by simpa using hb.ne h9 (by decide))
        replace hZ := hZ.trans1 hc23 (by first | exact .inr (by omega) | exact .inl (by simp))
        replace h9 := hb23
        refine OL.nil ?_
        refine TE.inBlock ?_
        refine TE.roundEnd' hLi ?_
        intro w24 hL2 hc24
        replace hD := hD.chg hc24 (hD.apartL hLi)
        replace hr := hr.chg hc24 (by simpa using (hLi.ne hr).symm)
        replace h2 := h2.chg hc24 (by simpa using (hLi.ne h2).symm)
        replace h8 := h8.chg hc24 (by simpa using (hLi.ne h8).symm)
        replace h9 := h9.chg hc24 (by simpa using (hLi.ne h9).symm)
        replace hDi := hDi.chg hc24 (by simpa using hDi.neL hLi)
        replace hb := hb.chg hc24 (by simpa using (hLi.ne hb).symm)
        replace hZ := hZ.trans1 hc24 (.inr hgl)
        replace hLi := hL2
        rw [if_pos rfl]
        exact ⟨hZ, by rw [hR]; exact hLi, hDi, k9, h8, h9, hD, hgz⟩
      · exact ⟨hch.mono (fun _ h_ => by cases h_), hL, hDf, ks, by rw [restT_zero]; exact h8.chg0 hch, h9.chg0 hch, hD.chg0 hch, Grew.refl _ _⟩
      · rintro e w2 ⟨rfl, h⟩; rcases h with ⟨h1, h2, h3, h4⟩ | h; exact ⟨rfl, r0, h2, by rw [hR]; simp [rec0], by rw [hR]; rfl, h3, h1, h4⟩; exact h.elim
    ·
      rintro D l a_ e w2 hgD hgl ⟨rfl, r_, hL, hnb, hpn, hDf, hcw, ki, h8x, h9x, hDx, hgz⟩
      have hr_ := hr.chg hcw (notin_cons (by omega) (notin_cons (by omega) (hD.notin hr (by decide) (by decide))))
      have hs_ := hs.chg hcw (fun k_ hk_ hm_ => ((List.mem_cons.1 hm_).elim (fun e_ => hs.notin h8 (by decide) (e_ ▸ hk_)) (fun hm_ => ((List.mem_cons.1 hm_).elim (fun e_ => hs.notin h9 (by decide) (e_ ▸ hk_)) (fun hm_ => (hD.apartRO hs (by decide) (by decide) k_ hk_ hm_))))))
      have hK_ := hK.chg hcw (notin_cons (by omega) (notin_cons (by omega) hk0))
      have hF_ := hF.chg hcw (notin_cons (by omega) (notin_cons (by omega) hk1))
      have h2_ := h2.chg hcw (notin_cons (by omega) (notin_cons (by omega) (hD.notin h2 (by decide) (by decide))))
      have h4_ := h4.chg hcw (notin_cons (by omega) (notin_cons (by omega) (hD.notin h4 (by decide) (by decide))))
      have h5_ := h5.chg hcw (notin_cons (by omega) (notin_cons (by omega) (hD.notin h5 (by decide) (by decide))))
      replace hr := hr_; clear hr_
      replace hs := hs_; clear hs_
      replace hK := hK_; clear hK_
      replace hF := hF_; clear hF_
      replace h2 := h2_; clear h2_
      replace h4 := h4_; clear h4_
      replace h5 := h5_; clear h5_
      replace hgl := Nat.le_trans hC.size hgl; replace hgD := Nat.le_trans hC.size hgD
      have hgz2 : Grew ((r :: own pv) ++ ks) ki w := hgi.trans hgz hCz2
      replace hgr := hgr.trans hgz hCz2
      replace hC := hC.trans hcw (fun k_ hk_ => by rcases List.mem_cons.1 hk_ with rfl | hk_; exact .inr ge_g8; rcases List.mem_cons.1 hk_ with rfl | hk_; exact .inr ge_g9; exact .inl (List.mem_append_right _ hk_))
      replace hD := hDx
      refine ⟨_, r_, rfl, hL, hnb, ?_⟩
      intro w3 hL3 hc3
      replace hD := hD.chg hc3 (hD.apartL hL)
      replace hr := hr.chg hc3 (by simpa using (hL.ne hr).symm)
      replace hs := hs.chg hc3 (hL.apartO hs)
      replace hK := hK.chg hc3 (by simpa using (hL.ne hK).symm)
      replace hF := hF.chg hc3 (by simpa using (hL.ne hF).symm)
      replace h2 := h2.chg hc3 (by simpa using (hL.ne h2).symm)
      replace h4 := h4.chg hc3 (by simpa using (hL.ne h4).symm)
      replace h5 := h5.chg hc3 (by simpa using (hL.ne h5).symm)
      replace hDf := hDf.chg hc3 (by simpa using hDf.neL hL)
      replace hC := hC.trans1 hc3 (.inr hgl)
      rw [hpn]; simp only [Option.map_none, Option.toList_none, List.nil_append]
      have hV2 : wrEnt V a P q (entText S t) m = appV V a P S t := by rw [hm, hq]; exact wrEnt_mod _ _ _ _ _ _
      rw [hV2] at hD
      refine TE.inBlock ?_
      refine TE.seq ?_
      refine TE.plan 7 (.cons (0, true) (.cons (1, true) (.cons (2, true) (.cons (3, true) (.cons (4, true) (.cons (5, true) (.cons (6, true) .nil))))))) (fun w_ => Chg [] w3 w_) rfl (by kernel_rfl) rfl ?_
      have hS25 : Chg [] w3 w3.drew := Chg.drew _ _
      refine PL.take rfl (fun w_ h_ => Run.load (i := 0) rfl Tryd.isAgg27 (h2.chg0 h_) (by omega) rfl) rfl hS25 ?_
      refine PL.takeP rfl (Pure.move rfl) rfl hS25 ?_
      refine PL.take rfl (fun w_ h_ => Run.load (i := 0) rfl Tryd.isAgg27 (h2.chg0 h_) (by omega) rfl) rfl hS25 ?_
      refine PL.takeP rfl (Pure.nilCheck rfl) rfl hS25 ?_
      refine PL.takeP rfl (Pure.fieldAddr (r := 3) Tryd.runUnderlying80 rfl Tryd.sizeOf70 rfl rfl) rfl hS25 ?_
      refine PL.takeP rfl (Pure.fieldAddr (r := 3) Tryd.runUnderlying70 rfl Tryd.sizeOf3 rfl rfl) rfl hS25 ?_
      refine PL.take rfl (fun w_ h_ => Run.load (i := 3) rfl Tryd.isAgg3 (hr.chg0 h_) (by omega) rfl) rfl hS25 ?_
      refine PL.nilTail ?_
      replace hD := hD.chg0 hS25
      replace hr := hr.chg0 hS25
      replace hs := hs.chg0 hS25
      replace hK := hK.chg0 hS25
      replace hF := hF.chg0 hS25
      replace h2 := h2.chg0 hS25
      replace h4 := h4.chg0 hS25
      replace h5 := h5.chg0 hS25
      replace hDf := hDf.chg0 hS25
      replace hC := hC.then_ hS25
      refine OL.call rfl Tryd.call36 rfl (add_any d a P r S.hd pv sy (need (42 + t.length)) S.hd.gen t S.ents (by omega) hpl (by omega) (by omega) (by omega) (by omega) _ hr hs) ?_
      rintro _ w9 ⟨pv2, rfl, hr9, hs9, hc9, ho9⟩
      have hD_ := hD.chg hc9 (fun k_ hk_ hm_ => (List.mem_cons.1 hm_).elim (fun e_ => hD.notin hr (by decide) (by decide) (e_ ▸ hk_)) (fun h_ => hD.apartRO hs (by decide) (by decide) _ h_ hk_))
      have hK_ := hK.chg hc9 (notin_cons hqn0 (fun h_ => hq0 (by simp [h_])))
      have hF_ := hF.chg hc9 (notin_cons hqn1 (fun h_ => hq1 (by simp [h_])))
      have h2_ := h2.chg hc9 (notin_cons (by omega) (hs.notin h2 (by decide)))
      have h4_ := h4.chg hc9 (notin_cons (by omega) (hs.notin h4 (by decide)))
      have h5_ := h5.chg hc9 (notin_cons (by omega) (hs.notin h5 (by decide)))
      have hDf_ := hDf.chg hc9 (notin_cons (hDf.ne hr) (hDf.notinO hs))
      replace hD := hD_; clear hD_
      replace hK := hK_; clear hK_
      replace hF := hF_; clear hF_
      replace h2 := h2_; clear h2_
      replace h4 := h4_; clear h4_
      replace h5 := h5_; clear h5_
      replace hDf := hDf_; clear hDf_
      have hgs : Grew (r :: own pv) (r :: own pv2) w := fun k_ hk_ => (List.mem_cons.1 hk_).elim (fun e_ => .inl (by simp [e_])) (fun h_ => (ho9 k_ h_).imp (fun h_ => by simp [h_]) (fun h_ => Nat.le_trans hC.size h_))
      replace hC := hC.trans hc9 (fun k_ hk_ => .inl (List.mem_append_left _ hk_))
      replace hr := hr9; replace hs := hs9
      refine ⟨_, rfl, ?_⟩
      refine OL.nil ?_
      refine TE.seq ?_
      refine TE.region ?_
      refine OL.val (Run.load (i := 0) rfl Tryd.isAgg27 h2 (by omega) rfl) rfl ?_
      refine OL.pure (Pure.nilCheck rfl) rfl ?_
      refine OL.pure (Pure.fieldAddr (r := 8) Tryd.runUnderlying80 rfl Tryd.sizeOf3 rfl rfl) rfl ?_
      refine OL.val (Run.load (i := 8) rfl Tryd.isAgg3 hr (by omega) rfl) rfl ?_
      refine OL.pure (Pure.sub rfl rfl (i64 (by omega) (by omega))) rfl ?_
      refine OL.cast (.int .i64 (S.next : Int)) 103 rfl (congrArg (Value.int .i64) (by omega)) ?_
      refine OL.store (j := 0) rfl rfl Tryd.sizeOf3 rfl h4 (by omega) (rfl) ?_
      intro w26 hb26 hc26
      replace hD := hD.chg hc26 (hD.apart h4 (by decide) (by decide))
      replace hr := hr.chg hc26 (by simpa using hr.ne h4 (by decide))
      replace hs := hs.chg hc26 (hs.apart h4 (by decide))
      replace hK := hK.chg hc26 (by simp; omega)
      replace hF := hF.chg hc26 (by simp; omega)
      replace h2 := h2.chg hc26 (by simpa using h2.ne h4 (by decide))
      replace h5 := h5.chg hc26 (by simpa using h5.ne h4 (by decide))
      replace hDf := hDf.chg hc26 (by simpa using hDf.ne h4)
      replace hC := hC.trans1 hc26 (by first | exact .inr (by omega) | exact .inl (by simp))
      replace h4 := hb26
      refine OL.store (j := 0) rfl rfl Tryd.sizeOf31 rfl h5 (by omega) (rfl) ?_
      intro w27 hb27 hc27
      replace hD := hD.chg hc27 (hD.apart h5 (by decide) (by decide))
      replace hr := hr.chg hc27 (by simpa using hr.ne h5 (by decide))
      replace hs := hs.chg hc27 (hs.apart h5 (by decide))
      replace hK := hK.chg hc27 (by simp; omega)
      replace hF := hF.chg hc27 (by simp; omega)
      replace h2 := h2.chg hc27 (by simpa using h2.ne h5 (by decide))
      replace h4 := h4.chg hc27 (by simpa using h4.ne h5 (by decide))
      replace hDf := hDf.chg hc27 (by simpa using hDf.ne h5)
      replace hC := hC.trans1 hc27 (by first | exact .inr (by omega) | exact .inl (by simp))
      replace h5 := hb27
      refine OL.nil ?_
      have hR2 : RgK 80 85 w27 r d a P (appS S t) (r :: own pv2) := ⟨pv2, sy, by rw [app_next, app_used, ← Nat.add_assoc]; exact hr, hs, rfl⟩
      rw [hm] at hD
      refine TE.retU (fun a_ ha_ => ?_)
      refine Unw.mark' hDf (fun wz hcz => ?_)
      replace hD := hD.chg hcz (hD.apartD hDf)
      replace hr := hr.chg hcz (by simpa using (hDf.ne hr).symm)
      replace hs := hs.chg hcz (hDf.apartO hs)
      replace hK := hK.chg hcz (by simpa using (hDf.ne hK).symm)
      replace hF := hF.chg hcz (by simpa using (hDf.ne hF).symm)
      replace h2 := h2.chg hcz (by simpa using (hDf.ne h2).symm)
      replace h4 := h4.chg hcz (by simpa using (hDf.ne h4).symm)
      replace h5 := h5.chg hcz (by simpa using (hDf.ne h5).symm)
      replace hC := hC.trans1 hcz (.inr hgD)
      have hR2 : RgK 80 85 wz r d a P (appS S t) (r :: own pv2) := ⟨pv2, sy, by rw [app_next, app_used, ← Nat.add_assoc]; exact hr, hs, rfl⟩
      refine Unw.call Tryd.call40 (note_any r g5 (0) (by omega) _ _ h5 ?_)
      exact Unw.done (vs := [.int .i64 (S.next : Int), .int .i64 0]) ha_ Tryd.results19 ⟨⟨_, rfl, loadCell_at Tryd.isAgg3 h4 rfl⟩, ⟨_, rfl, loadCell_at Tryd.isAgg31 h5 rfl⟩, trivial⟩ ⟨_, _, rfl, hD, hR2, hC, hgr, hgs⟩

end Go.Proofs.YtcologcjhenmkaaDoor
