/- inside, Check, Size, big, number, walked -/
import Derived.Test.YtcologcjhenmkaaDoorProg
import Derived.Test.YtcologcjhenmkaaDoorEngA
import Derived.Test.YtcologcjhenmkaaDoorSpecA
import Derived.Test.YtcologcjhenmkaaDoorSha
set_option linter.unusedVariables false
set_option maxRecDepth 4000
namespace Go.Proofs.YtcologcjhenmkaaDoor
open Go.V Go.Sha Go.Frm
theorem inside_any (s n : Int) (w : World) : Calls Tryd.prog 76 #[.int .i64 s, .int .i64 n] w (Ret (.bool (decide (inside s n))) w) := by
  refine calls_of_TE (vs := [.int .i64 s, .int .i64 n]) Tryd.func76 Tryd.ntmps76 rfl (by simp) ?_
  by_cases hb0 : 0 ≤ s
  ·
    by_cases hb1 : s ≤ 2147483647
    ·
      by_cases hb2 : 0 ≤ n
      ·
        by_cases hb3 : n ≤ 1099511627775
        ·
          refine TE.seq ?_
          refine TE.region ?_
          refine OL.pure (Pure.assign rfl) rfl ?_
          refine OL.nil ?_
          refine TE.seq ?_
          refine TE.region ?_
          refine OL.pure (Pure.move rfl) rfl ?_
          refine OL.pure (Pure.geq rfl rfl) rfl ?_
          refine OL.cast (.bool true) 6 rfl (congrArg Value.bool (decide_eq_true (by omega))) ?_
          refine OL.pure (Pure.move rfl) rfl ?_
          refine OL.want rfl rfl rfl (Pure.move rfl _) rfl ?_
          refine OL.want rfl rfl rfl (Pure.leq rfl rfl _) rfl ?_
          refine OL.cast (.bool true) 9 rfl (congrArg Value.bool (decide_eq_true (by omega))) ?_
          refine OL.pure (Pure.pickT rfl rfl) rfl ?_
          refine OL.pure (Pure.move rfl) rfl ?_
          refine OL.want rfl rfl rfl (Pure.move rfl _) rfl ?_
          refine OL.want rfl rfl rfl (Pure.geq rfl rfl _) rfl ?_
          refine OL.cast (.bool true) 13 rfl (congrArg Value.bool (decide_eq_true (by omega))) ?_
          refine OL.pure (Pure.pickT rfl rfl) rfl ?_
          refine OL.pure (Pure.move rfl) rfl ?_
          refine OL.want rfl rfl rfl (Pure.move rfl _) rfl ?_
          refine OL.want rfl rfl rfl (Pure.leq rfl rfl _) rfl ?_
          refine OL.cast (.bool true) 17 rfl (congrArg Value.bool (decide_eq_true (by omega))) ?_
          refine OL.pure (Pure.pickT rfl rfl) rfl ?_
          refine OL.pure (Pure.assign rfl) rfl ?_
          refine OL.nil ?_
          exact TE.ret (vs := [.bool (decide (inside s n))]) Tryd.results76 (⟨by rw [decide_eq_true (p := inside s n) (by unfold inside; omega)]; rfl, trivial⟩) ⟨rfl, rfl⟩
        ·
          refine TE.seq ?_
          refine TE.region ?_
          refine OL.pure (Pure.assign rfl) rfl ?_
          refine OL.nil ?_
          refine TE.seq ?_
          refine TE.region ?_
          refine OL.pure (Pure.move rfl) rfl ?_
          refine OL.pure (Pure.geq rfl rfl) rfl ?_
          refine OL.cast (.bool true) 6 rfl (congrArg Value.bool (decide_eq_true (by omega))) ?_
          refine OL.pure (Pure.move rfl) rfl ?_
          refine OL.want rfl rfl rfl (Pure.move rfl _) rfl ?_
          refine OL.want rfl rfl rfl (Pure.leq rfl rfl _) rfl ?_
          refine OL.cast (.bool true) 9 rfl (congrArg Value.bool (decide_eq_true (by omega))) ?_
          refine OL.pure (Pure.pickT rfl rfl) rfl ?_
          refine OL.pure (Pure.move rfl) rfl ?_
          refine OL.want rfl rfl rfl (Pure.move rfl _) rfl ?_
          refine OL.want rfl rfl rfl (Pure.geq rfl rfl _) rfl ?_
          refine OL.cast (.bool true) 13 rfl (congrArg Value.bool (decide_eq_true (by omega))) ?_
          refine OL.pure (Pure.pickT rfl rfl) rfl ?_
          refine OL.pure (Pure.move rfl) rfl ?_
          refine OL.want rfl rfl rfl (Pure.move rfl _) rfl ?_
          refine OL.want rfl rfl rfl (Pure.leq rfl rfl _) rfl ?_
          refine OL.cast (.bool false) 17 rfl (congrArg Value.bool (decide_eq_false (by omega))) ?_
          refine OL.pure (Pure.pickT rfl rfl) rfl ?_
          refine OL.pure (Pure.assign rfl) rfl ?_
          refine OL.nil ?_
          exact TE.ret (vs := [.bool (decide (inside s n))]) Tryd.results76 (⟨by rw [decide_eq_false (p := inside s n) (by unfold inside; omega)]; rfl, trivial⟩) ⟨rfl, rfl⟩
      ·
        refine TE.seq ?_
        refine TE.region ?_
        refine OL.pure (Pure.assign rfl) rfl ?_
        refine OL.nil ?_
        refine TE.seq ?_
        refine TE.region ?_
        refine OL.pure (Pure.move rfl) rfl ?_
        refine OL.pure (Pure.geq rfl rfl) rfl ?_
        refine OL.cast (.bool true) 6 rfl (congrArg Value.bool (decide_eq_true (by omega))) ?_
        refine OL.pure (Pure.move rfl) rfl ?_
        refine OL.want rfl rfl rfl (Pure.move rfl _) rfl ?_
        refine OL.want rfl rfl rfl (Pure.leq rfl rfl _) rfl ?_
        refine OL.cast (.bool true) 9 rfl (congrArg Value.bool (decide_eq_true (by omega))) ?_
        refine OL.pure (Pure.pickT rfl rfl) rfl ?_
        refine OL.pure (Pure.move rfl) rfl ?_
        refine OL.want rfl rfl rfl (Pure.move rfl _) rfl ?_
        refine OL.want rfl rfl rfl (Pure.geq rfl rfl _) rfl ?_
        refine OL.cast (.bool false) 13 rfl (congrArg Value.bool (decide_eq_false (by omega))) ?_
        refine OL.pure (Pure.pickT rfl rfl) rfl ?_
        refine OL.pure (Pure.move rfl) rfl ?_
        refine OL.pass rfl rfl rfl rfl rfl ?_
        refine OL.pass rfl rfl rfl rfl rfl ?_
        refine OL.pure (Pure.pickF rfl rfl) rfl ?_
        refine OL.pure (Pure.assign rfl) rfl ?_
        refine OL.nil ?_
        exact TE.ret (vs := [.bool (decide (inside s n))]) Tryd.results76 (⟨by rw [decide_eq_false (p := inside s n) (by unfold inside; omega)]; rfl, trivial⟩) ⟨rfl, rfl⟩
    ·
      refine TE.seq ?_
      refine TE.region ?_
      refine OL.pure (Pure.assign rfl) rfl ?_
      refine OL.nil ?_
      refine TE.seq ?_
      refine TE.region ?_
      refine OL.pure (Pure.move rfl) rfl ?_
      refine OL.pure (Pure.geq rfl rfl) rfl ?_
      refine OL.cast (.bool true) 6 rfl (congrArg Value.bool (decide_eq_true (by omega))) ?_
      refine OL.pure (Pure.move rfl) rfl ?_
      refine OL.want rfl rfl rfl (Pure.move rfl _) rfl ?_
      refine OL.want rfl rfl rfl (Pure.leq rfl rfl _) rfl ?_
      refine OL.cast (.bool false) 9 rfl (congrArg Value.bool (decide_eq_false (by omega))) ?_
      refine OL.pure (Pure.pickT rfl rfl) rfl ?_
      refine OL.pure (Pure.move rfl) rfl ?_
      refine OL.pass rfl rfl rfl rfl rfl ?_
      refine OL.pass rfl rfl rfl rfl rfl ?_
      refine OL.pure (Pure.pickF rfl rfl) rfl ?_
      refine OL.pure (Pure.move rfl) rfl ?_
      refine OL.pass rfl rfl rfl rfl rfl ?_
      refine OL.pass rfl rfl rfl rfl rfl ?_
      refine OL.pure (Pure.pickF rfl rfl) rfl ?_
      refine OL.pure (Pure.assign rfl) rfl ?_
      refine OL.nil ?_
      exact TE.ret (vs := [.bool (decide (inside s n))]) Tryd.results76 (⟨by rw [decide_eq_false (p := inside s n) (by unfold inside; omega)]; rfl, trivial⟩) ⟨rfl, rfl⟩
  ·
    refine TE.seq ?_
    refine TE.region ?_
    refine OL.pure (Pure.assign rfl) rfl ?_
    refine OL.nil ?_
    refine TE.seq ?_
    refine TE.region ?_
    refine OL.pure (Pure.move rfl) rfl ?_
    refine OL.pure (Pure.geq rfl rfl) rfl ?_
    refine OL.cast (.bool false) 6 rfl (congrArg Value.bool (decide_eq_false (by omega))) ?_
    refine OL.pure (Pure.move rfl) rfl ?_
    refine OL.pass rfl rfl rfl rfl rfl ?_
    refine OL.pass rfl rfl rfl rfl rfl ?_
    refine OL.pure (Pure.pickF rfl rfl) rfl ?_
    refine OL.pure (Pure.move rfl) rfl ?_
    refine OL.pass rfl rfl rfl rfl rfl ?_
    refine OL.pass rfl rfl rfl rfl rfl ?_
    refine OL.pure (Pure.pickF rfl rfl) rfl ?_
    refine OL.pure (Pure.move rfl) rfl ?_
    refine OL.pass rfl rfl rfl rfl rfl ?_
    refine OL.pass rfl rfl rfl rfl rfl ?_
    refine OL.pure (Pure.pickF rfl rfl) rfl ?_
    refine OL.pure (Pure.assign rfl) rfl ?_
    refine OL.nil ?_
    exact TE.ret (vs := [.bool (decide (inside s n))]) Tryd.results76 (⟨by rw [decide_eq_false (p := inside s n) (by unfold inside; omega)]; rfl, trivial⟩) ⟨rfl, rfl⟩

theorem fcheck_any (f : Fr) (hl : f.payload.length ≤ 4294967296) (w : World) : Calls Tryd.prog 62 #[.agg (f).cells.toArray] w (RetC (.int .i64 (check f)) w) := by
  refine calls_of_TE (vs := [.agg (f).cells.toArray]) Tryd.func62 Tryd.ntmps62 rfl (by simp) ?_
  have hC : Chg [] w w := Chg.refl _ _
  refine TE.seq ?_
  refine TE.region ?_
  refine OL.box rfl rfl ?_
  intro g1 w1 h1 hc1 hg_g1
  have ge_g1 : w.heap.size ≤ g1 := by have := hC.size; omega
  replace hC := hC.then_ hc1
  have h1 : Blk w1 g1 74 (f.cells) := h1
  by_cases hb0 : f.kind < 0
  ·
    have hchk : check f = 11 := by unfold check; rw [if_pos (by omega)]
    refine OL.pure (Pure.assign rfl) rfl ?_
    refine OL.nil ?_
    refine TE.seq ?_
    refine TE.seq ?_
    refine TE.region ?_
    refine OL.pure (Pure.fieldAddr (r := 0) Tryd.runUnderlying74 rfl Tryd.sizeOf3 rfl rfl) rfl ?_
    refine OL.val (Run.load (i := 0) rfl Tryd.isAgg3 h1 (by omega) rfl) rfl ?_
    refine OL.pure (Pure.lss rfl rfl) rfl ?_
    refine OL.cast (.bool true) 5 rfl (congrArg Value.bool (decide_eq_true (by omega))) ?_
    refine OL.pure (Pure.move rfl) rfl ?_
    refine OL.pass rfl rfl rfl rfl rfl ?_
    refine OL.pass rfl rfl rfl rfl rfl ?_
    refine OL.pass rfl rfl rfl rfl rfl ?_
    refine OL.pure (Pure.pickT rfl rfl) rfl ?_
    refine OL.nil ?_
    refine TE.condT rfl rfl ?_
    refine TE.seq ?_
    refine TE.region ?_
    refine OL.pure (Pure.assign rfl) rfl ?_
    refine OL.nil ?_
    exact TE.ret (vs := [.int .i64 (check f)]) Tryd.results62 (⟨by rw [hchk]; rfl, trivial⟩) ⟨rfl, hC⟩
  ·
    by_cases hb1 : 255 < f.kind
    ·
      have hchk : check f = 11 := by unfold check; rw [if_pos (by omega)]
      refine OL.pure (Pure.assign rfl) rfl ?_
      refine OL.nil ?_
      refine TE.seq ?_
      refine TE.seq ?_
      refine TE.region ?_
      refine OL.pure (Pure.fieldAddr (r := 0) Tryd.runUnderlying74 rfl Tryd.sizeOf3 rfl rfl) rfl ?_
      refine OL.val (Run.load (i := 0) rfl Tryd.isAgg3 h1 (by omega) rfl) rfl ?_
      refine OL.pure (Pure.lss rfl rfl) rfl ?_
      refine OL.cast (.bool false) 5 rfl (congrArg Value.bool (decide_eq_false (by omega))) ?_
      refine OL.pure (Pure.move rfl) rfl ?_
      refine OL.want rfl rfl rfl (Pure.fieldAddr (r := 0) Tryd.runUnderlying74 rfl Tryd.sizeOf3 rfl rfl _) rfl ?_
      refine OL.want rfl rfl rfl (Run.load (i := 0) rfl Tryd.isAgg3 h1 (by omega) rfl) rfl ?_
      refine OL.want rfl rfl rfl (Pure.gtr rfl rfl _) rfl ?_
      refine OL.cast (.bool true) 9 rfl (congrArg Value.bool (decide_eq_true (by omega))) ?_
      refine OL.pure (Pure.pickF rfl rfl) rfl ?_
      refine OL.nil ?_
      refine TE.condT rfl rfl ?_
      refine TE.seq ?_
      refine TE.region ?_
      refine OL.pure (Pure.assign rfl) rfl ?_
      refine OL.nil ?_
      exact TE.ret (vs := [.int .i64 (check f)]) Tryd.results62 (⟨by rw [hchk]; rfl, trivial⟩) ⟨rfl, hC⟩
    ·
      by_cases hb2 : inside f.stream f.number
      ·
        by_cases hb3 : 262144 < f.payload.length
        ·
          refine OL.pure (Pure.assign rfl) rfl ?_
          refine OL.nil ?_
          refine TE.seq ?_
          refine TE.seq ?_
          refine TE.region ?_
          refine OL.pure (Pure.fieldAddr (r := 0) Tryd.runUnderlying74 rfl Tryd.sizeOf3 rfl rfl) rfl ?_
          refine OL.val (Run.load (i := 0) rfl Tryd.isAgg3 h1 (by omega) rfl) rfl ?_
          refine OL.pure (Pure.lss rfl rfl) rfl ?_
          refine OL.cast (.bool false) 5 rfl (congrArg Value.bool (decide_eq_false (by omega))) ?_
          refine OL.pure (Pure.move rfl) rfl ?_
          refine OL.want rfl rfl rfl (Pure.fieldAddr (r := 0) Tryd.runUnderlying74 rfl Tryd.sizeOf3 rfl rfl _) rfl ?_
          refine OL.want rfl rfl rfl (Run.load (i := 0) rfl Tryd.isAgg3 h1 (by omega) rfl) rfl ?_
          refine OL.want rfl rfl rfl (Pure.gtr rfl rfl _) rfl ?_
          refine OL.cast (.bool false) 9 rfl (congrArg Value.bool (decide_eq_false (by omega))) ?_
          refine OL.pure (Pure.pickF rfl rfl) rfl ?_
          refine OL.nil ?_
          refine TE.condF rfl rfl ?_
          refine TE.skip ?_
          refine TE.seq ?_
          refine TE.seq ?_
          refine TE.region ?_
          refine OL.pure (Pure.fieldAddr (r := 1) Tryd.runUnderlying74 rfl Tryd.sizeOf3 rfl rfl) rfl ?_
          refine OL.val (Run.load (i := 1) rfl Tryd.isAgg3 h1 (by omega) rfl) rfl ?_
          refine OL.pure (Pure.fieldAddr (r := 2) Tryd.runUnderlying74 rfl Tryd.sizeOf3 rfl rfl) rfl ?_
          refine OL.val (Run.load (i := 2) rfl Tryd.isAgg3 h1 (by omega) rfl) rfl ?_
          refine OL.call rfl Tryd.call76 rfl (inside_any _ _ _) ?_
          rintro _ _ ⟨rfl, rfl⟩
          refine ⟨_, rfl, ?_⟩
          refine OL.cast (.bool true) 15 rfl (congrArg Value.bool (decide_eq_true hb2)) ?_
          have hchk : check f = 5 := by unfold check; rw [if_neg (by omega), if_neg (fun h => h hb2), if_pos (by omega)]
          refine OL.pure (Pure.not rfl) rfl ?_
          refine OL.nil ?_
          refine TE.condF rfl rfl ?_
          refine TE.skip ?_
          refine TE.seq ?_
          refine TE.seq ?_
          refine TE.region ?_
          refine OL.pure (Pure.fieldAddr (r := 3) Tryd.runUnderlying74 rfl Tryd.sizeOf9 rfl rfl) rfl ?_
          refine OL.val (Run.load (i := 3) rfl Tryd.isAgg9 h1 (by omega) rfl) rfl ?_
          refine OL.pure (Pure.lenStr Tryd.runUnderlying9 rfl) rfl ?_
          refine OL.pure (Pure.gtr rfl rfl) rfl ?_
          refine OL.cast (.bool true) 20 rfl (congrArg Value.bool (decide_eq_true (by omega))) ?_
          refine OL.nil ?_
          refine TE.condT rfl rfl ?_
          refine TE.seq ?_
          refine TE.region ?_
          refine OL.pure (Pure.assign rfl) rfl ?_
          refine OL.nil ?_
          exact TE.ret (vs := [.int .i64 (check f)]) Tryd.results62 (⟨by rw [hchk]; rfl, trivial⟩) ⟨rfl, hC⟩
        ·
          refine OL.pure (Pure.assign rfl) rfl ?_
          refine OL.nil ?_
          refine TE.seq ?_
          refine TE.seq ?_
          refine TE.region ?_
          refine OL.pure (Pure.fieldAddr (r := 0) Tryd.runUnderlying74 rfl Tryd.sizeOf3 rfl rfl) rfl ?_
          refine OL.val (Run.load (i := 0) rfl Tryd.isAgg3 h1 (by omega) rfl) rfl ?_
          refine OL.pure (Pure.lss rfl rfl) rfl ?_
          refine OL.cast (.bool false) 5 rfl (congrArg Value.bool (decide_eq_false (by omega))) ?_
          refine OL.pure (Pure.move rfl) rfl ?_
          refine OL.want rfl rfl rfl (Pure.fieldAddr (r := 0) Tryd.runUnderlying74 rfl Tryd.sizeOf3 rfl rfl _) rfl ?_
          refine OL.want rfl rfl rfl (Run.load (i := 0) rfl Tryd.isAgg3 h1 (by omega) rfl) rfl ?_
          refine OL.want rfl rfl rfl (Pure.gtr rfl rfl _) rfl ?_
          refine OL.cast (.bool false) 9 rfl (congrArg Value.bool (decide_eq_false (by omega))) ?_
          refine OL.pure (Pure.pickF rfl rfl) rfl ?_
          refine OL.nil ?_
          refine TE.condF rfl rfl ?_
          refine TE.skip ?_
          refine TE.seq ?_
          refine TE.seq ?_
          refine TE.region ?_
          refine OL.pure (Pure.fieldAddr (r := 1) Tryd.runUnderlying74 rfl Tryd.sizeOf3 rfl rfl) rfl ?_
          refine OL.val (Run.load (i := 1) rfl Tryd.isAgg3 h1 (by omega) rfl) rfl ?_
          refine OL.pure (Pure.fieldAddr (r := 2) Tryd.runUnderlying74 rfl Tryd.sizeOf3 rfl rfl) rfl ?_
          refine OL.val (Run.load (i := 2) rfl Tryd.isAgg3 h1 (by omega) rfl) rfl ?_
          refine OL.call rfl Tryd.call76 rfl (inside_any _ _ _) ?_
          rintro _ _ ⟨rfl, rfl⟩
          refine ⟨_, rfl, ?_⟩
          refine OL.cast (.bool true) 15 rfl (congrArg Value.bool (decide_eq_true hb2)) ?_
          have hchk : check f = 0 := by unfold check; rw [if_neg (by omega), if_neg (fun h => h hb2), if_neg (by omega)]
          refine OL.pure (Pure.not rfl) rfl ?_
          refine OL.nil ?_
          refine TE.condF rfl rfl ?_
          refine TE.skip ?_
          refine TE.seq ?_
          refine TE.seq ?_
          refine TE.region ?_
          refine OL.pure (Pure.fieldAddr (r := 3) Tryd.runUnderlying74 rfl Tryd.sizeOf9 rfl rfl) rfl ?_
          refine OL.val (Run.load (i := 3) rfl Tryd.isAgg9 h1 (by omega) rfl) rfl ?_
          refine OL.pure (Pure.lenStr Tryd.runUnderlying9 rfl) rfl ?_
          refine OL.pure (Pure.gtr rfl rfl) rfl ?_
          refine OL.cast (.bool false) 20 rfl (congrArg Value.bool (decide_eq_false (by omega))) ?_
          refine OL.nil ?_
          refine TE.condF rfl rfl ?_
          refine TE.skip ?_
          refine TE.seq ?_
          refine TE.region ?_
          refine OL.pure (Pure.assign rfl) rfl ?_
          refine OL.nil ?_
          exact TE.ret (vs := [.int .i64 (check f)]) Tryd.results62 (⟨by rw [hchk]; rfl, trivial⟩) ⟨rfl, hC⟩
      ·
        refine OL.pure (Pure.assign rfl) rfl ?_
        refine OL.nil ?_
        refine TE.seq ?_
        refine TE.seq ?_
        refine TE.region ?_
        refine OL.pure (Pure.fieldAddr (r := 0) Tryd.runUnderlying74 rfl Tryd.sizeOf3 rfl rfl) rfl ?_
        refine OL.val (Run.load (i := 0) rfl Tryd.isAgg3 h1 (by omega) rfl) rfl ?_
        refine OL.pure (Pure.lss rfl rfl) rfl ?_
        refine OL.cast (.bool false) 5 rfl (congrArg Value.bool (decide_eq_false (by omega))) ?_
        refine OL.pure (Pure.move rfl) rfl ?_
        refine OL.want rfl rfl rfl (Pure.fieldAddr (r := 0) Tryd.runUnderlying74 rfl Tryd.sizeOf3 rfl rfl _) rfl ?_
        refine OL.want rfl rfl rfl (Run.load (i := 0) rfl Tryd.isAgg3 h1 (by omega) rfl) rfl ?_
        refine OL.want rfl rfl rfl (Pure.gtr rfl rfl _) rfl ?_
        refine OL.cast (.bool false) 9 rfl (congrArg Value.bool (decide_eq_false (by omega))) ?_
        refine OL.pure (Pure.pickF rfl rfl) rfl ?_
        refine OL.nil ?_
        refine TE.condF rfl rfl ?_
        refine TE.skip ?_
        refine TE.seq ?_
        refine TE.seq ?_
        refine TE.region ?_
        refine OL.pure (Pure.fieldAddr (r := 1) Tryd.runUnderlying74 rfl Tryd.sizeOf3 rfl rfl) rfl ?_
        refine OL.val (Run.load (i := 1) rfl Tryd.isAgg3 h1 (by omega) rfl) rfl ?_
        refine OL.pure (Pure.fieldAddr (r := 2) Tryd.runUnderlying74 rfl Tryd.sizeOf3 rfl rfl) rfl ?_
        refine OL.val (Run.load (i := 2) rfl Tryd.isAgg3 h1 (by omega) rfl) rfl ?_
        refine OL.call rfl Tryd.call76 rfl (inside_any _ _ _) ?_
        rintro _ _ ⟨rfl, rfl⟩
        refine ⟨_, rfl, ?_⟩
        refine OL.cast (.bool false) 15 rfl (congrArg Value.bool (decide_eq_false hb2)) ?_
        have hchk : check f = 2 := by unfold check; rw [if_neg (by omega), if_pos hb2]
        refine OL.pure (Pure.not rfl) rfl ?_
        refine OL.nil ?_
        refine TE.condT rfl rfl ?_
        refine TE.seq ?_
        refine TE.region ?_
        refine OL.pure (Pure.assign rfl) rfl ?_
        refine OL.nil ?_
        exact TE.ret (vs := [.int .i64 (check f)]) Tryd.results62 (⟨by rw [hchk]; rfl, trivial⟩) ⟨rfl, hC⟩

theorem size_ok (n : Nat) (h : n ≤ 262144) (w : World) : Calls Tryd.prog 45 #[.int .i64 (n : Int)] w (Ret (.tuple #[.int .i64 (n + 42 : Int), .int .i64 0]) w) := by
  refine calls_of_TE (vs := [.int .i64 (n : Int)]) Tryd.func45 Tryd.ntmps45 rfl (by simp) ?_
  refine TE.seq ?_
  refine TE.region ?_
  refine OL.pure (Pure.assign rfl) rfl ?_
  refine OL.pure (Pure.assign rfl) rfl ?_
  refine OL.nil ?_
  refine TE.seq ?_
  refine TE.seq ?_
  refine TE.region ?_
  refine OL.pure (Pure.move rfl) rfl ?_
  refine OL.pure (Pure.lss rfl rfl) rfl ?_
  refine OL.cast (.bool false) 5 rfl (congrArg Value.bool (decide_eq_false (by omega))) ?_
  refine OL.pure (Pure.move rfl) rfl ?_
  refine OL.want rfl rfl rfl (Pure.move rfl _) rfl ?_
  refine OL.want rfl rfl rfl (Pure.gtr rfl rfl _) rfl ?_
  refine OL.cast (.bool false) 8 rfl (congrArg Value.bool (decide_eq_false (by omega))) ?_
  refine OL.pure (Pure.pickF rfl rfl) rfl ?_
  refine OL.nil ?_
  refine TE.condF rfl rfl ?_
  refine TE.skip ?_
  refine TE.seq ?_
  refine TE.region ?_
  refine OL.pure (Pure.move rfl) rfl ?_
  refine OL.pure (Pure.add rfl rfl (i64 (by omega) (by omega))) rfl ?_
  refine OL.pure (Pure.add rfl rfl (i64 (by omega) (by omega))) rfl ?_
  refine OL.cast (.int .i64 (n + 42 : Int)) 12 rfl (congrArg (Value.int .i64) (by omega)) ?_
  refine OL.pure (Pure.assign rfl) rfl ?_
  refine OL.pure (Pure.assign rfl) rfl ?_
  refine OL.nil ?_
  exact TE.ret (vs := [.int .i64 (n + 42 : Int), .int .i64 0]) Tryd.results45 (⟨rfl, rfl, trivial⟩) ⟨rfl, rfl⟩

theorem size_no (n : Int) (h : n < 0 ∨ 262144 < n) (w : World) : Calls Tryd.prog 45 #[.int .i64 n] w (Ret (.tuple #[.int .i64 0, .int .i64 2]) w) := by
  refine calls_of_TE (vs := [.int .i64 n]) Tryd.func45 Tryd.ntmps45 rfl (by simp) ?_
  by_cases hb0 : n < 0
  ·
    refine TE.seq ?_
    refine TE.region ?_
    refine OL.pure (Pure.assign rfl) rfl ?_
    refine OL.pure (Pure.assign rfl) rfl ?_
    refine OL.nil ?_
    refine TE.seq ?_
    refine TE.seq ?_
    refine TE.region ?_
    refine OL.pure (Pure.move rfl) rfl ?_
    refine OL.pure (Pure.lss rfl rfl) rfl ?_
    refine OL.cast (.bool true) 5 rfl (congrArg Value.bool (decide_eq_true (by omega))) ?_
    refine OL.pure (Pure.move rfl) rfl ?_
    refine OL.pass rfl rfl rfl rfl rfl ?_
    refine OL.pass rfl rfl rfl rfl rfl ?_
    refine OL.pure (Pure.pickT rfl rfl) rfl ?_
    refine OL.nil ?_
    refine TE.condT rfl rfl ?_
    refine TE.seq ?_
    refine TE.region ?_
    refine OL.pure (Pure.assign rfl) rfl ?_
    refine OL.pure (Pure.assign rfl) rfl ?_
    refine OL.nil ?_
    exact TE.ret (vs := [.int .i64 0, .int .i64 2]) Tryd.results45 (⟨rfl, rfl, trivial⟩) ⟨rfl, rfl⟩
  ·
    refine TE.seq ?_
    refine TE.region ?_
    refine OL.pure (Pure.assign rfl) rfl ?_
    refine OL.pure (Pure.assign rfl) rfl ?_
    refine OL.nil ?_
    refine TE.seq ?_
    refine TE.seq ?_
    refine TE.region ?_
    refine OL.pure (Pure.move rfl) rfl ?_
    refine OL.pure (Pure.lss rfl rfl) rfl ?_
    refine OL.cast (.bool false) 5 rfl (congrArg Value.bool (decide_eq_false (by omega))) ?_
    refine OL.pure (Pure.move rfl) rfl ?_
    refine OL.want rfl rfl rfl (Pure.move rfl _) rfl ?_
    refine OL.want rfl rfl rfl (Pure.gtr rfl rfl _) rfl ?_
    refine OL.cast (.bool true) 8 rfl (congrArg Value.bool (decide_eq_true (by omega))) ?_
    refine OL.pure (Pure.pickF rfl rfl) rfl ?_
    refine OL.nil ?_
    refine TE.condT rfl rfl ?_
    refine TE.seq ?_
    refine TE.region ?_
    refine OL.pure (Pure.assign rfl) rfl ?_
    refine OL.pure (Pure.assign rfl) rfl ?_
    refine OL.nil ?_
    exact TE.ret (vs := [.int .i64 0, .int .i64 2]) Tryd.results45 (⟨rfl, rfl, trivial⟩) ⟨rfl, rfl⟩

end Go.Proofs.YtcologcjhenmkaaDoor
/- First and Second of both, walked -/
set_option linter.unusedVariables false
set_option maxRecDepth 4000
namespace Go.Proofs.YtcologcjhenmkaaDoor
open Go.V Go.Sha Go.Frm
theorem first_any {tK : TypeId} (h : List UInt8) (hl : h.length ≤ 2147483648) (w : World) (hK : Blk w 1 tK (iv .u32 K)) : Calls Tryd.prog 64 #[.string (str h)] w (RetC (.string (str (first h))) w) := by
  refine calls_of_TE (vs := [.string (str h)]) Tryd.func64 Tryd.ntmps64 rfl (by simp) ?_
  have hC : Chg [] w w := Chg.refl _ _
  have h0w : 1 < w.heap.size := hK.lt
  refine TE.seq ?_
  refine TE.region ?_
  refine OL.pure (Pure.assign rfl) rfl ?_
  refine OL.nil ?_
  refine TE.seq ?_
  refine TE.region ?_
  refine OL.pure (Pure.move rfl) rfl ?_
  refine OL.buildSlice (cs := tv [h]) rfl Tryd.runUnderlying42 Tryd.sizeOf9 Tryd.zeroValue9 (by decide) (by decide) (by kernel_rfl) rfl ?_
  intro sl w1 hs hc1 hg_sl
  have lt_1_sl : 1 < sl := by have := hK.lt; omega
  have ge_sl : w.heap.size ≤ sl := by have := hC.size; omega
  replace hK := hK.chg0 hc1
  replace hC := hC.then_ hc1
  have hjb : (jparts [h]).length ≤ 4294967200 := by simp [jparts, jpart_len]; omega
  refine OL.call rfl Tryd.call77 rfl (tagged_any 10 _ 1 [h] (by simp) hjb _ hK (Cells.of_blk hs)) ?_
  rintro _ w2 ⟨rfl, hc2⟩
  replace hK := hK.chg0 hc2
  replace hs := hs.chg0 hc2
  replace hC := hC.then_ hc2
  refine ⟨_, rfl, ?_⟩
  refine OL.pure (Pure.move rfl) rfl ?_
  refine OL.pure (Pure.extract (vs := [.agg (iv .u8 (sum (join 10 [h]))).toArray, .int .i64 0]) (i := 0) rfl rfl) rfl ?_
  refine OL.pure (Pure.extract (vs := [.agg (iv .u8 (sum (join 10 [h]))).toArray, .int .i64 0]) (i := 1) rfl rfl) rfl ?_
  refine OL.alloc Tryd.zeroValue133 rfl ?_
  intro gd w3 hd hc3 hg_gd
  have lt_1_gd : 1 < gd := by have := hK.lt; omega
  have lt_sl_gd : sl < gd := by have := hs.lt; omega
  have ge_gd : w.heap.size ≤ gd := by have := hC.size; omega
  replace hK := hK.chg0 hc3
  replace hs := hs.chg0 hc3
  replace hC := hC.then_ hc3
  have hd : Blk w3 gd 133 (iv .u8 (List.replicate 32 0)) := hd
  refine OL.storeRow (vs := iv .u8 (sum (join 10 [h]))) rfl rfl (rfl) (by simp only [iv, List.mem_map]; rintro _ ⟨x, _, rfl⟩; rfl) hd (Nat.le_refl 32) ?_
  intro w4 hb4 hc4
  replace hK := hK.chg hc4 (by simp; omega)
  replace hs := hs.chg hc4 (by simpa using hs.ne hd (by decide))
  replace hC := hC.trans1 hc4 (by first | exact .inr (by omega) | exact .inl (by simp))
  replace hd := hb4
  replace hd := hd.all rfl
  refine OL.pure (Pure.assign rfl) rfl ?_
  refine OL.nil ?_
  refine TE.seq ?_
  refine TE.region ?_
  refine OL.pure (Pure.sliceArrTo (q := 8) Tryd.runUnderlying133 Tryd.sizeOf5 rfl rfl rfl (by decide)) rfl ?_
  refine OL.val (Run.toStr (bs := first h) Tryd.underlying34 Tryd.underlying5 Tryd.underlying9 rfl hd (by rw [first_len]) (bytesOf_cells (sum_ok _) 8)) rfl ?_
  refine OL.pure (Pure.assign rfl) rfl ?_
  refine OL.nil ?_
  exact TE.ret (vs := [.string (str (first h))]) Tryd.results64 (⟨rfl, trivial⟩) ⟨rfl, hC⟩

theorem second_any {tK : TypeId} (h q : List UInt8) (hl : h.length ≤ 1073741824) (hq : q.length ≤ 1073741824) (w : World) (hK : Blk w 1 tK (iv .u32 K)) : Calls Tryd.prog 65 #[.string (str h), .string (str q)] w (RetC (.string (str (second h q))) w) := by
  refine calls_of_TE (vs := [.string (str h), .string (str q)]) Tryd.func65 Tryd.ntmps65 rfl (by simp) ?_
  have hC : Chg [] w w := Chg.refl _ _
  have h0w : 1 < w.heap.size := hK.lt
  refine TE.seq ?_
  refine TE.region ?_
  refine OL.pure (Pure.assign rfl) rfl ?_
  refine OL.nil ?_
  refine TE.seq ?_
  refine TE.region ?_
  refine OL.pure (Pure.move rfl) rfl ?_
  refine OL.pure (Pure.move rfl) rfl ?_
  refine OL.buildSlice (cs := tv [h, q]) rfl Tryd.runUnderlying42 Tryd.sizeOf9 Tryd.zeroValue9 (by decide) (by decide) (by kernel_rfl) rfl ?_
  intro sl w1 hs hc1 hg_sl
  have lt_1_sl : 1 < sl := by have := hK.lt; omega
  have ge_sl : w.heap.size ≤ sl := by have := hC.size; omega
  replace hK := hK.chg0 hc1
  replace hC := hC.then_ hc1
  have hjb : (jparts [h, q]).length ≤ 4294967200 := by simp [jparts, jpart_len]; omega
  refine OL.call rfl Tryd.call77 rfl (tagged_any 11 _ 2 [h, q] (by simp) hjb _ hK (Cells.of_blk hs)) ?_
  rintro _ w2 ⟨rfl, hc2⟩
  replace hK := hK.chg0 hc2
  replace hs := hs.chg0 hc2
  replace hC := hC.then_ hc2
  refine ⟨_, rfl, ?_⟩
  refine OL.pure (Pure.move rfl) rfl ?_
  refine OL.pure (Pure.extract (vs := [.agg (iv .u8 (sum (join 11 [h, q]))).toArray, .int .i64 0]) (i := 0) rfl rfl) rfl ?_
  refine OL.pure (Pure.extract (vs := [.agg (iv .u8 (sum (join 11 [h, q]))).toArray, .int .i64 0]) (i := 1) rfl rfl) rfl ?_
  refine OL.alloc Tryd.zeroValue133 rfl ?_
  intro gd w3 hd hc3 hg_gd
  have lt_1_gd : 1 < gd := by have := hK.lt; omega
  have lt_sl_gd : sl < gd := by have := hs.lt; omega
  have ge_gd : w.heap.size ≤ gd := by have := hC.size; omega
  replace hK := hK.chg0 hc3
  replace hs := hs.chg0 hc3
  replace hC := hC.then_ hc3
  have hd : Blk w3 gd 133 (iv .u8 (List.replicate 32 0)) := hd
  refine OL.storeRow (vs := iv .u8 (sum (join 11 [h, q]))) rfl rfl (rfl) (by simp only [iv, List.mem_map]; rintro _ ⟨x, _, rfl⟩; rfl) hd (Nat.le_refl 32) ?_
  intro w4 hb4 hc4
  replace hK := hK.chg hc4 (by simp; omega)
  replace hs := hs.chg hc4 (by simpa using hs.ne hd (by decide))
  replace hC := hC.trans1 hc4 (by first | exact .inr (by omega) | exact .inl (by simp))
  replace hd := hb4
  replace hd := hd.all rfl
  refine OL.pure (Pure.assign rfl) rfl ?_
  refine OL.nil ?_
  refine TE.seq ?_
  refine TE.region ?_
  refine OL.pure (Pure.sliceArrTo (q := 16) Tryd.runUnderlying133 Tryd.sizeOf5 rfl rfl rfl (by decide)) rfl ?_
  refine OL.val (Run.toStr (bs := second h q) Tryd.underlying34 Tryd.underlying5 Tryd.underlying9 rfl hd (by rw [second_len]) (bytesOf_cells (sum_ok _) 16)) rfl ?_
  refine OL.pure (Pure.assign rfl) rfl ?_
  refine OL.nil ?_
  exact TE.ret (vs := [.string (str (second h q))]) Tryd.results65 (⟨rfl, trivial⟩) ⟨rfl, hC⟩

end Go.Proofs.YtcologcjhenmkaaDoor
/- head, the reference of Encode, the closure of Encode, walked -/
set_option linter.unusedVariables false
set_option maxRecDepth 4000
namespace Go.Proofs.YtcologcjhenmkaaDoor
open Go.V Go.Sha Go.Frm
theorem put_any (n k : Nat) (hn : n < 9223372036854775808) (hk : k ≤ 8) (gp : Nat) (v0 : Value) (l : List UInt8) (hl : l.length ≤ 4294967296) (w : World) (hp : Blk w gp 34 [v0]) (hv : Row w 5 1 v0 l.length (bv l)) : Calls Tryd.prog 63 #[.int .i64 (n : Int), .int .i64 (k : Int), .pointer (some ⟨gp, 0, none⟩)] w (RetPut gp 34 5 v0 (l ++ beN k n) w) := by
  refine calls_of_TE (vs := [.int .i64 (n : Int), .int .i64 (k : Int), .pointer (some ⟨gp, 0, none⟩)]) Tryd.func63 Tryd.ntmps63 rfl (by simp) ?_
  have hC : Chg (gp :: own v0) w w := Chg.refl _ _
  have hm_v0 : MineIn (gp :: own v0) w.heap.size v0 := MineIn.self _ _
  have hgp := hp.lt
  refine TE.seq ?_
  refine TE.region ?_
  refine OL.pure (Pure.move rfl) rfl ?_
  refine OL.pure (Pure.sub rfl rfl (i64 (by omega) (by omega))) rfl ?_
  refine OL.pure (Pure.assign rfl) rfl ?_
  refine OL.nil ?_
  refine TE.block ?_
  refine TE.cast (.int .i64 ((k : Int) - 1 - ((0 : Nat) : Int))) 5 rfl (congrArg (Value.int .i64) (by omega)) ?_
  replace hv : Row w 5 1 v0 (l.length + 0) (bv (l ++ (beN k n).take 0)) := by simpa using hv
  refine TE.loopInv (σ := Nat × Value) [0, 2, 5] (fun s_ w_ => match s_ with | (j, v) => j ≤ k ∧ Row w_ 5 1 v (l.length + j) (bv (l ++ (beN k n).take j)) ∧ Blk w_ gp 34 [v] ∧ MineIn (gp :: own v0) w.heap.size v ∧ Chg (gp :: own v0) w w_) (fun s_ => [(0, .int .i64 (↑n)), (2, .pointer (some ⟨gp, 0, none⟩)), (5, .int .i64 ((k : Int) - 1 - (s_.1 : Int)))]) (fun s_ => k - s_.1) (0, v0) ⟨by omega, hv, hp, hm_v0, hC⟩ rfl ?_
  rintro ⟨j, v⟩ w1 ⟨hj, hv, hp, hm_v, hC⟩ ih1
  try dsimp only
  refine TE.seq ?_
  refine TE.seq ?_
  refine TE.region ?_
  refine OL.pure (Pure.move rfl) rfl ?_
  refine OL.pure (Pure.geq rfl rfl) rfl ?_
  refine OL.nil ?_
  refine TE.ite rfl (fun hge => ?_) (fun hge => ?_)
  ·
    have hjk : j < k := by omega
    refine TE.skip ?_
    refine TE.seq ?_
    refine TE.block ?_
    refine TE.plan 9 (.cons (0, true) (.cons (1, true) (.cons (2, true) (.cons (3, true) (.cons (4, true) (.cons (5, true) (.cons (6, true) (.cons (7, false) (.cons (8, false) .nil))))))))) (fun w_ => Blk w_ gp 34 ([v])) rfl (by kernel_rfl) rfl ?_
    have hS2 : Chg [] w1 w1.drew := Chg.drew _ _
    replace hv := hv.chg0 hS2
    replace hp := hp.chg0 hS2
    replace hC := hC.then_ hS2
    refine PL.take rfl (fun w_ h_ => Run.load (i := 0) rfl Tryd.isAgg34 h_ (by omega) rfl) rfl hp ?_
    refine PL.takeP rfl (Pure.move rfl) rfl hp ?_
    refine PL.takeP rfl (Pure.conv Tryd.runUnderlying3 Tryd.runUnderlying113 rfl (u64in (by omega) (by omega))) rfl hp ?_
    refine PL.takeP rfl (Pure.move rfl) rfl hp ?_
    refine PL.takeP rfl (Pure.mul rfl rfl (i64 (by omega) (by omega))) rfl hp ?_
    refine PL.takeP rfl (Pure.shr (p := 2 ^ (8 * (k - 1 - j))) rfl rfl (by omega) (by congr 1; simp [IntKind.bits]; omega)) rfl hp ?_
    refine PL.takeP rfl (Pure.conv Tryd.runUnderlying113 Tryd.runUnderlying5 rfl (u8w _)) rfl hp ?_
    refine PL.cast (.int .u8 (((UInt8.ofNat (n / 2 ^ (8 * (k - 1 - j)))).toNat : Nat) : Int)) 18 rfl (by rw [← u8nat]; push_cast; rfl) ?_
    refine PL.buildSliceC (cs := [.int .u8 (((UInt8.ofNat (n / 2 ^ (8 * (k - 1 - j)))).toNat : Nat) : Int)]) rfl rfl Tryd.runUnderlying34 Tryd.sizeOf5 Tryd.zeroValue5 (by decide) (by decide) (by kernel_rfl) rfl (fun w_ h_ => hp.chg0 h_) ?_
    intro q w3 hq hc3 hg_q
    have lt_gp_q : gp < q := by have := hp.lt; omega
    have ge_q : w.heap.size ≤ q := by have := hC.size; omega
    replace hv := hv.chg0 hc3
    replace hp := hp.chg0 hc3
    replace hC := hC.then_ hc3
    refine PL.appendC (size := 1) (news := [.int .u8 (((UInt8.ofNat (n / 2 ^ (8 * (k - 1 - j)))).toNat : Nat) : Int)]) (v := v) rfl rfl rfl Tryd.underlying34 (.inl Tryd.underlying34) info5 rfl rfl rfl (by decide) rfl hv ((Src.of_blk hq rfl rfl)) (by simp [Value.oneCell']) (by show _ * 1 ≤ _; omega) (fun w_ h_ => hp.chg h_ (hv.notin hp (by decide))) ?_
    intro v2 w4 hv2 hc4 ho_v2
    have hm_v2 := MineIn.step hm_v (by have := hC.size; omega) ho_v2
    replace hp := hp.chg hc4 (hv.notin hp (by decide))
    replace hC := hC.ownIn hc4 hm_v
    replace hv2 : Row w4 5 1 v2 (l.length + (j + 1)) (bv (l ++ (beN k n).take (j + 1))) := by rw [beN_take _ _ _ hjk, ← List.append_assoc, ← bv_one]; exact hv2
    refine PL.nilTail ?_
    refine OL.store (j := 0) rfl rfl Tryd.sizeOf34 hv2.oneCell hp (by omega) (rfl) ?_
    intro w5 hb5 hc5
    replace hv2 := hv2.chg hc5 (hv2.apart hp (by decide))
    replace hC := hC.trans1 hc5 (by first | exact .inr (by omega) | exact .inl (by simp))
    replace hp := hb5
    refine OL.nil ?_
    refine TE.inBlock ?_
    refine TE.region ?_
    refine OL.pure (Pure.move rfl) rfl ?_
    refine OL.pure (Pure.sub rfl rfl (i64 (by omega) (by omega))) rfl ?_
    refine OL.pure (Pure.assign rfl) rfl ?_
    refine OL.nil ?_
    refine TE.cast (.int .i64 ((k : Int) - 1 - ((j + 1 : Nat) : Int))) 5 rfl (congrArg (Value.int .i64) (by omega)) ?_
    exact TE.sub [0, 2, 5] rfl (ih1 (j + 1, v2) _ ⟨by omega, hv2, hp, hm_v2, hC⟩ (by simp only []; omega))
  ·
    obtain rfl : j = k := by omega
    rw [List.take_of_length_le (by rw [beN_len]; exact Nat.le_refl _)] at hv
    refine TE.exit rfl ?_
    exact TE.fin (vs := []) Tryd.results63 (trivial) ⟨v, rfl, hp, by rw [List.length_append, beN_len]; exact hv, hC, hm_v⟩

end Go.Proofs.YtcologcjhenmkaaDoor
/- Encode, walked -/
set_option linter.unusedVariables false
set_option maxRecDepth 4000
namespace Go.Proofs.YtcologcjhenmkaaDoor
open Go.V Go.Sha Go.Frm
theorem encode_no (f : Fr) (hl : f.payload.length ≤ 4294967296) (hv : check f ≠ 0) (w : World) : Calls Tryd.prog 41 #[.agg (f).cells.toArray] w (RetC (.tuple #[.string (str []), .int .i64 (check f)]) w) := by
  refine calls_of_TE (vs := [.agg (f).cells.toArray]) Tryd.func41 Tryd.ntmps41 rfl (by simp) ?_
  have hC : Chg [] w w := Chg.refl _ _
  refine TE.seq ?_
  refine TE.region ?_
  refine OL.box rfl rfl ?_
  intro g1 w1 h1 hc1 hg_g1
  have ge_g1 : w.heap.size ≤ g1 := by have := hC.size; omega
  replace hC := hC.then_ hc1
  have h1 : Blk w1 g1 74 (f.cells) := h1
  refine OL.pure (Pure.assign rfl) rfl ?_
  refine OL.pure (Pure.assign rfl) rfl ?_
  refine OL.nil ?_
  refine TE.seq ?_
  refine TE.seq ?_
  refine TE.region ?_
  refine OL.val (Run.loadAll rfl Tryd.underlying74 rfl h1 (rfl)) rfl ?_
  refine OL.call rfl Tryd.call62 rfl (fcheck_any f hl _) ?_
  rintro _ w2 ⟨rfl, hc2⟩
  replace h1 := h1.chg0 hc2
  replace hC := hC.then_ hc2
  refine ⟨_, rfl, ?_⟩
  refine OL.pure (Pure.assign rfl) rfl ?_
  refine OL.nil ?_
  refine TE.seq ?_
  refine TE.region ?_
  refine OL.pure (Pure.move rfl) rfl ?_
  refine OL.pure (Pure.neq rfl rfl) rfl ?_
  refine OL.cast (.bool true) 13 rfl (congrArg Value.bool (decide_eq_true (hv))) ?_
  refine OL.nil ?_
  refine TE.condT rfl rfl ?_
  refine TE.seq ?_
  refine TE.region ?_
  refine OL.pure (Pure.move rfl) rfl ?_
  refine OL.pure (Pure.assign rfl) rfl ?_
  refine OL.pure (Pure.assign rfl) rfl ?_
  refine OL.nil ?_
  exact TE.ret (vs := [.string (str []), .int .i64 (check f)]) Tryd.results41 (⟨rfl, rfl, trivial⟩) ⟨rfl, hC⟩

set_option maxHeartbeats 1000000 in
theorem encode_any {tK tF : TypeId} (f : Fr) (hok : check f = 0) (w : World) (hK : Blk w 1 tK (iv .u32 K)) (hF : Blk w 0 tF (iv .i64 fldL)) : Calls Tryd.prog 41 #[.agg (f).cells.toArray] w (RetC (.tuple #[.string (str (encode f)), .int .i64 0]) w) := by
  refine calls_of_TE (vs := [.agg (f).cells.toArray]) Tryd.func41 Tryd.ntmps41 rfl (by simp) ?_
  have hC : Chg [] w w := Chg.refl _ _
  have h0w : 1 < w.heap.size := hK.lt
  have h1w : 0 < w.heap.size := hF.lt
  obtain ⟨c0, c1, c2, c3⟩ := check_ok hok
  obtain ⟨i0, i1, i2, i3⟩ := c2
  have hhl := header_len f
  have hfl := first_len (header f)
  have hsl := second_len (header f) f.payload
  refine TE.seq ?_
  refine TE.region ?_
  refine OL.box rfl rfl ?_
  intro g1 w1 h1 hc1 hg_g1
  have lt_1_g1 : 1 < g1 := by have := hK.lt; omega
  have lt_0_g1 : 0 < g1 := by have := hF.lt; omega
  have ge_g1 : w.heap.size ≤ g1 := by have := hC.size; omega
  replace hK := hK.chg0 hc1
  replace hF := hF.chg0 hc1
  replace hC := hC.then_ hc1
  have h1 : Blk w1 g1 74 (f.cells) := h1
  refine OL.pure (Pure.assign rfl) rfl ?_
  refine OL.pure (Pure.assign rfl) rfl ?_
  refine OL.nil ?_
  refine TE.seq ?_
  refine TE.seq ?_
  refine TE.region ?_
  refine OL.val (Run.loadAll rfl Tryd.underlying74 rfl h1 (rfl)) rfl ?_
  refine OL.call rfl Tryd.call62 rfl (fcheck_any f (by omega) _) ?_
  rintro _ w2 ⟨rfl, hc2⟩
  replace hK := hK.chg0 hc2
  replace hF := hF.chg0 hc2
  replace h1 := h1.chg0 hc2
  replace hC := hC.then_ hc2
  refine ⟨_, rfl, ?_⟩
  refine OL.pure (Pure.assign rfl) rfl ?_
  refine OL.nil ?_
  refine TE.seq ?_
  refine TE.region ?_
  refine OL.pure (Pure.move rfl) rfl ?_
  refine OL.pure (Pure.neq rfl rfl) rfl ?_
  refine OL.cast (.bool false) 13 rfl (congrArg Value.bool (decide_eq_false (fun h => h hok))) ?_
  refine OL.nil ?_
  refine TE.condF rfl rfl ?_
  refine TE.skip ?_
  refine TE.seq ?_
  refine TE.region ?_
  refine OL.buildSlice (cs := [.int .u8 245]) rfl Tryd.runUnderlying34 Tryd.sizeOf5 Tryd.zeroValue5 (by decide) (by decide) (by kernel_rfl) rfl ?_
  intro q w3 hq hc3 hg_q
  have lt_1_q : 1 < q := by have := hK.lt; omega
  have lt_0_q : 0 < q := by have := hF.lt; omega
  have lt_g1_q : g1 < q := by have := h1.lt; omega
  have ge_q : w.heap.size ≤ q := by have := hC.size; omega
  replace hK := hK.chg0 hc3
  replace hF := hF.chg0 hc3
  replace h1 := h1.chg0 hc3
  replace hC := hC.then_ hc3
  have hm_v0 := Mine.slice ge_q 0 1 1
  have hv0 : Row w3 5 1 (.slice (some ⟨q, 0, none⟩) 1 1) (hdrTo f 0).length (bv (hdrTo f 0)) := Row.lit hq rfl
  refine OL.alloc Tryd.zeroValue34 rfl ?_
  intro gp w4 hp hc4 hg_gp
  have lt_1_gp : 1 < gp := by have := hK.lt; omega
  have lt_0_gp : 0 < gp := by have := hF.lt; omega
  have lt_g1_gp : g1 < gp := by have := h1.lt; omega
  have ge_gp : w.heap.size ≤ gp := by have := hC.size; omega
  replace hK := hK.chg0 hc4
  replace hF := hF.chg0 hc4
  replace h1 := h1.chg0 hc4
  replace hv0 := hv0.chg0 hc4
  replace hC := hC.then_ hc4
  have hp : Blk w4 gp 34 ([.slice none 0 0]) := hp
  refine OL.store (j := 0) rfl rfl Tryd.sizeOf34 rfl hp (by omega) (rfl) ?_
  intro w5 hb5 hc5
  replace hK := hK.chg hc5 (by simp; omega)
  replace hF := hF.chg hc5 (by simp; omega)
  replace h1 := h1.chg hc5 (by simpa using h1.ne hp (by decide))
  replace hv0 := hv0.chg hc5 (hv0.apart hp (by decide))
  replace hC := hC.trans1 hc5 (by first | exact .inr (by omega) | exact .inl (by simp))
  replace hp := hb5
  refine OL.nil ?_
  refine TE.seq ?_
  refine TE.region ?_
  refine OL.pure (Pure.makeFunc (vs := [.pointer (some ⟨gp, 0, none⟩)]) rfl) rfl ?_
  refine OL.pure (Pure.assign rfl) rfl ?_
  refine OL.nil ?_
  refine TE.seq ?_
  refine TE.seq ?_
  refine TE.region ?_
  refine OL.pure (Pure.fieldAddr (r := 0) Tryd.runUnderlying74 rfl Tryd.sizeOf3 rfl rfl) rfl ?_
  refine OL.val (Run.load (i := 0) rfl Tryd.isAgg3 h1 (by omega) rfl) rfl ?_
  refine OL.pure (Pure.fieldAddr (r := 1) Tryd.runUnderlying74 rfl Tryd.sizeOf3 rfl rfl) rfl ?_
  refine OL.val (Run.load (i := 1) rfl Tryd.isAgg3 h1 (by omega) rfl) rfl ?_
  refine OL.pure (Pure.fieldAddr (r := 2) Tryd.runUnderlying74 rfl Tryd.sizeOf3 rfl rfl) rfl ?_
  refine OL.val (Run.load (i := 2) rfl Tryd.isAgg3 h1 (by omega) rfl) rfl ?_
  refine OL.pure (Pure.fieldAddr (r := 3) Tryd.runUnderlying74 rfl Tryd.sizeOf9 rfl rfl) rfl ?_
  refine OL.val (Run.load (i := 3) rfl Tryd.isAgg9 h1 (by omega) rfl) rfl ?_
  refine OL.pure (Pure.lenStr Tryd.runUnderlying9 rfl) rfl ?_
  refine OL.pure (Pure.build (cs := iv .i64 [f.kind, f.stream, f.number, (f.payload.length : Int)]) rfl (by kernel_rfl)) rfl ?_
  refine OL.pure (Pure.move rfl) rfl ?_
  refine OL.nil ?_
  refine TE.block ?_
  refine TE.loopInv (σ := Nat × Value) [1, 5, 6, 26, 27] (fun s_ w_ => match s_ with | (j, v) => j ≤ 4 ∧ Chg [] w w_ ∧ Blk w_ 1 tK (iv .u32 K) ∧ Blk w_ 0 tF (iv .i64 fldL) ∧ Blk w_ g1 74 f.cells ∧ Blk w_ gp 34 [v] ∧ Row w_ 5 1 v (hdrTo f j).length (bv (hdrTo f j)) ∧ Mine w.heap.size v) (fun s_ => [(1, .pointer (some ⟨g1, 0, none⟩)), (5, .pointer (some ⟨gp, 0, none⟩)), (6, .func (.func 63) #[] #[.pointer (some ⟨gp, 0, none⟩)]), (26, .agg (iv .i64 [f.kind, f.stream, f.number, (f.payload.length : Int)]).toArray), (27, .int .i64 (↑s_.1))]) (fun s_ => 4 - s_.1) (0, .slice (some ⟨q, 0, none⟩) 1 1) ⟨by omega, hC, hK, hF, h1, hp, hv0, hm_v0⟩ rfl ?_
  rintro ⟨j, v⟩ w6 ⟨hj, hC, hK, hF, h1, hp, hv, hm_v⟩ ih6
  try dsimp only
  refine TE.seq ?_
  refine TE.region ?_
  refine OL.pure (Pure.lss rfl rfl) rfl ?_
  refine OL.nil ?_
  refine TE.seq ?_
  refine TE.ite rfl (fun hlt => ?_) (fun hlt => ?_)
  ·
    have hj4 : j < 4 := by omega
    obtain ⟨n, hn⟩ : ∃ n : Nat, n = fv f j := ⟨_, rfl⟩
    have hfv := fv_val hok j hj4
    rw [← hn] at hfv
    have hfl4 := (off_fld j hj4).2.2
    refine TE.skip ?_
    refine TE.seq ?_
    refine TE.block ?_
    refine TE.seq ?_
    refine TE.region ?_
    refine OL.pure (Pure.move rfl) rfl ?_
    refine OL.pure (Pure.indexAgg (cs := iv .i64 [f.kind, f.stream, f.number, (f.payload.length : Int)]) (j := j) (v := .int .i64 ([f.kind, f.stream, f.number, (f.payload.length : Int)].getD j 0)) Tryd.runUnderlying114 Tryd.sizeOf3 Tryd.isAgg3 rfl rfl rfl (by omega) (iv_get (show j < 4 by omega))) rfl ?_
    refine OL.cast (.int .i64 (n : Int)) 30 rfl (congrArg (Value.int .i64) hfv.1) ?_
    refine OL.pure (Pure.assign rfl) rfl ?_
    refine OL.pure (Pure.assign rfl) rfl ?_
    refine OL.nil ?_
    refine TE.region ?_
    refine OL.pure (Pure.move rfl) rfl ?_
    refine OL.pure (Pure.move rfl) rfl ?_
    refine OL.pure (Pure.move rfl) rfl ?_
    refine OL.pure (Pure.indexAddrA (r := j) Tryd.runUnderlying114 Tryd.sizeOf3 rfl rfl (by omega) (by omega) (by omega)) rfl ?_
    refine OL.val (Run.load (i := j) rfl Tryd.isAgg3 hF (by omega) (iv_get (show j < 4 by omega))) rfl ?_
    refine OL.cast (.int .i64 (fld j : Int)) 35 rfl (congrArg (Value.int .i64) hfl4.2) ?_
    have hll := hdrTo_len f j hj
    refine OL.callFn rfl rfl Tryd.call63 rfl (put_any n (fld j) hfv.2 hfl4.1 gp v (hdrTo f j) (by omega) _ hp hv) ?_
    rintro _ w90 ⟨v9, rfl, hp9, hv9, hc9, hm9⟩
    replace hK := hK.chg hc9 (notin_cons (by omega) (fun h_ => absurd (hm_v _ h_) (by omega)))
    replace hF := hF.chg hc9 (notin_cons (by omega) (fun h_ => absurd (hm_v _ h_) (by omega)))
    replace h1 := h1.chg hc9 (notin_cons (by omega) (hv.notin h1 (by decide)))
    have hm_v9 : Mine w.heap.size v9 := hm9.mine hm_v ge_gp hC.size
    replace hC := hC.trans hc9 (fun k hk => .inr (by rcases List.mem_cons.1 hk with rfl | h; exact ge_gp; exact hm_v k h))
    replace hv9 : Row w90 5 1 v9 (hdrTo f (j + 1)).length (bv (hdrTo f (j + 1))) := by rw [hdrTo_succ, ← hn]; exact hv9
    refine ⟨_, rfl, ?_⟩
    refine OL.nil ?_
    refine TE.inBlock ?_
    refine TE.region ?_
    refine OL.pure (Pure.add rfl rfl (i64 (by omega) (by omega))) rfl ?_
    refine OL.pure (Pure.move rfl) rfl ?_
    refine OL.nil ?_
    exact TE.sub [1, 5, 6, 26, 27] rfl (ih6 (j + 1, v9) _ ⟨by omega, hC, hK, hF, h1, hp9, hv9, hm_v9⟩ (by simp only []; omega))
  ·
    obtain rfl : j = 4 := by omega
    rw [hdrTo_all] at hv
    refine TE.exit rfl ?_
    refine TE.seq ?_
    refine TE.region ?_
    refine OL.val (Run.load (i := 0) rfl Tryd.isAgg34 hp (by omega) rfl) rfl ?_
    refine OL.val (Run.rowStr Tryd.underlying34 Tryd.underlying5 Tryd.underlying9 rfl hv) rfl ?_
    refine OL.pure (Pure.assign rfl) rfl ?_
    refine OL.nil ?_
    refine TE.seq ?_
    refine TE.planAll (.cons (0, true) (.cons (1, true) (.cons (4, true) (.cons (5, true) (.cons (7, true) (.cons (8, true) (.cons (9, true) (.cons (2, false) (.cons (3, true) (.cons (6, true) (.cons (10, false) (.cons (11, true) (.cons (12, true) (.cons (13, true) .nil)))))))))))))) (fun w_ => Chg [] w6 w_) rfl (by kernel_rfl) ?_
    have hS7 : Chg [] w6 w6.drew := Chg.drew _ _
    replace hK := hK.chg0 hS7
    replace h1 := h1.chg0 hS7
    replace hC := hC.then_ hS7
    refine PL.takeP rfl (Pure.move rfl) rfl hS7 ?_
    refine PL.takeP rfl (Pure.move rfl) rfl hS7 ?_
    refine PL.takeP rfl (Pure.fieldAddr (r := 3) Tryd.runUnderlying74 rfl Tryd.sizeOf9 rfl rfl) rfl hS7 ?_
    refine PL.takeS (fun w_ => Chg [] w6.drew w_) (fun _ h_ => hS7.then_ h_) rfl (fun w_ h_ => Run.load (i := 3) rfl Tryd.isAgg9 (h1.chg0 h_) (by omega) rfl) rfl (Chg.refl _ _) ?_
    have hP8 : Chg [] w6.drew w6.drew := Chg.refl _ _
    refine PL.takeP rfl (Pure.move rfl) rfl hP8 ?_
    refine PL.takeP rfl (Pure.fieldAddr (r := 3) Tryd.runUnderlying74 rfl Tryd.sizeOf9 rfl rfl) rfl hP8 ?_
    refine PL.takeS (fun w_ => Chg [] w6.drew w_) (fun _ h_ => hP8.then_ h_) rfl (fun w_ h_ => Run.load (i := 3) rfl Tryd.isAgg9 (h1.chg0 h_) (by omega) rfl) rfl (Chg.refl _ _) ?_
    have hP9 : Chg [] w6.drew w6.drew := Chg.refl _ _
    refine PL.call rfl rfl Tryd.call64 rfl (first_any (header f) (by omega) _ hK) ?_
    rintro _ w10 ⟨rfl, hc10⟩
    have hc10s := hP9.then_ hc10
    replace hK := hK.chg0 hc10
    replace h1 := h1.chg0 hc10
    replace hC := hC.then_ hc10
    refine ⟨_, rfl, hc10s, ?_⟩
    refine PL.takeP rfl (Pure.strAdd (l := (header f)) (m := (first (header f))) rfl rfl (by first | omega | (simp only [List.length_append]; omega))) rfl hc10s ?_
    refine PL.takeP rfl (Pure.strAdd (l := ((header f) ++ (first (header f)))) (m := f.payload) rfl rfl (by first | omega | (simp only [List.length_append]; omega))) rfl hc10s ?_
    refine PL.call rfl rfl Tryd.call65 rfl (second_any (header f) f.payload (by omega) (by omega) _ hK) ?_
    rintro _ w11 ⟨rfl, hc11⟩
    have hc11s := hc10s.then_ hc11
    replace hK := hK.chg0 hc11
    replace h1 := h1.chg0 hc11
    replace hC := hC.then_ hc11
    refine ⟨_, rfl, hc11s, ?_⟩
    refine PL.takeP rfl (Pure.strAdd (l := (((header f) ++ (first (header f))) ++ f.payload)) (m := (second (header f) f.payload)) rfl rfl (by first | omega | (simp only [List.length_append]; omega))) rfl hc11s ?_
    refine PL.takeP rfl (Pure.assign rfl) rfl hc11s ?_
    refine PL.takeP rfl (Pure.assign rfl) rfl hc11s ?_
    refine PL.nil ?_
    have hh : (((header f ++ first (header f)) ++ f.payload) ++ second (header f) f.payload) = encode f := by simp [encode]
    exact TE.ret (vs := [.string (str (encode f)), .int .i64 0]) Tryd.results41 (⟨by rw [← hh]; rfl, rfl, trivial⟩) ⟨rfl, hC⟩

end Go.Proofs.YtcologcjhenmkaaDoor
/- Decode and its reference, walked -/
set_option linter.unusedVariables false
set_option maxRecDepth 4000
namespace Go.Proofs.YtcologcjhenmkaaDoor
open Go.V Go.Sha Go.Frm
theorem eq3 {x : Fr × Nat × Int} {d d' : Fr} {a a' : Nat} {e e' : Int} (h : x = (d, a, e)) (h' : x = (d', a', e')) : d' = d ∧ a' = a ∧ e' = e := by
  rw [h] at h'
  simp at h'
  exact ⟨h'.1.symm, h'.2.1.symm, h'.2.2.symm⟩
set_option maxHeartbeats 2000000 in
theorem decode_any {tK tF : TypeId} (s : List UInt8) (hl : s.length ≤ 1073741824) (f : Fr) (m : Nat) (e : Int) (hd : Frm.decode s = (f, m, e)) (w : World) (hK : Blk w 1 tK (iv .u32 K)) (hF : Blk w 0 tF (iv .i64 fldL)) : Calls Tryd.prog 53 #[.string (str s)] w (RetC (.tuple #[.agg (f).cells.toArray, .int .i64 (m : Int), .int .i64 e]) w) := by
  refine calls_of_TE (vs := [.string (str s)]) Tryd.func53 Tryd.ntmps53 rfl (by simp) ?_
  have hC : Chg [] w w := Chg.refl _ _
  have h0w : 1 < w.heap.size := hK.lt
  have h1w : 0 < w.heap.size := hF.lt
  refine TE.seq ?_
  refine TE.region ?_
  refine OL.alloc Tryd.zeroValue74 rfl ?_
  intro gr w1 hr hc1 hg_gr
  have lt_1_gr : 1 < gr := by have := hK.lt; omega
  have lt_0_gr : 0 < gr := by have := hF.lt; omega
  have ge_gr : w.heap.size ≤ gr := by have := hC.size; omega
  replace hK := hK.chg0 hc1
  replace hF := hF.chg0 hc1
  replace hC := hC.then_ hc1
  have hr : Blk w1 gr 74 (Fr.zero.cells) := hr
  refine OL.pure (Pure.assign rfl) rfl ?_
  refine OL.pure (Pure.assign rfl) rfl ?_
  refine OL.nil ?_
  refine TE.seq ?_
  refine TE.block ?_
  refine TE.seq ?_
  refine TE.region ?_
  refine OL.pure (Pure.move rfl) rfl ?_
  refine OL.pure (Pure.lenStr Tryd.runUnderlying9 rfl) rfl ?_
  refine OL.pure (Pure.eql rfl rfl) rfl ?_
  refine OL.pure (Pure.assign rfl) rfl ?_
  refine OL.nil ?_
  refine TE.ite rfl (fun q1 => ?_) (fun q1 => ?_)
  ·
    refine TE.seq ?_
    refine TE.region ?_
    refine OL.pure (Pure.build (cs := Fr.zero.cells) rfl (by kernel_rfl)) rfl ?_
    refine OL.storeRow (vs := Fr.zero.cells) rfl rfl (rfl) (by simp [Fr.cells, Value.oneCell']) hr (Nat.le_refl 4) ?_
    intro w2 hb2 hc2
    replace hK := hK.chg hc2 (by simp; omega)
    replace hF := hF.chg hc2 (by simp; omega)
    replace hC := hC.trans1 hc2 (by first | exact .inr (by omega) | exact .inl (by simp))
    replace hr := hb2
    replace hr := hr.all rfl
    obtain ⟨e1, e2, e3⟩ := eq3 hd (dec1 (by omega))
    subst e1
    subst e2
    subst e3
    refine OL.pure (Pure.assign rfl) rfl ?_
    refine OL.pure (Pure.assign rfl) rfl ?_
    refine OL.nil ?_
    exact TE.ret (vs := [.agg (Fr.zero.cells).toArray, .int .i64 ((0 : Nat) : Int), .int .i64 28]) Tryd.results53 (⟨⟨_, rfl, loadRow_at Tryd.underlying74 rfl rfl hr rfl⟩, rfl, rfl, trivial⟩) ⟨rfl, hC⟩
  ·
    have h1 : ¬ s.length = 0 := by omega
    refine TE.seq ?_
    refine TE.region ?_
    refine OL.pure (Pure.move rfl) rfl ?_
    refine OL.pure (Pure.indexStr (j := 0) Tryd.runUnderlying9 rfl rfl (by omega) (by omega)) rfl ?_
    refine OL.pure (Pure.neq rfl rfl) rfl ?_
    refine OL.pure (Pure.assign rfl) rfl ?_
    refine OL.nil ?_
    refine TE.ite rfl (fun q2 => ?_) (fun q2 => ?_)
    ·
      refine TE.seq ?_
      refine TE.region ?_
      refine OL.pure (Pure.build (cs := Fr.zero.cells) rfl (by kernel_rfl)) rfl ?_
      refine OL.storeRow (vs := Fr.zero.cells) rfl rfl (rfl) (by simp [Fr.cells, Value.oneCell']) hr (Nat.le_refl 4) ?_
      intro w3 hb3 hc3
      replace hK := hK.chg hc3 (by simp; omega)
      replace hF := hF.chg hc3 (by simp; omega)
      replace hC := hC.trans1 hc3 (by first | exact .inr (by omega) | exact .inl (by simp))
      replace hr := hb3
      replace hr := hr.all rfl
      obtain ⟨e1, e2, e3⟩ := eq3 hd (dec2 h1 (fun h => q2 ((bt245 s).2 h)))
      subst e1
      subst e2
      subst e3
      refine OL.pure (Pure.assign rfl) rfl ?_
      refine OL.pure (Pure.assign rfl) rfl ?_
      refine OL.nil ?_
      exact TE.ret (vs := [.agg (Fr.zero.cells).toArray, .int .i64 ((0 : Nat) : Int), .int .i64 3]) Tryd.results53 (⟨⟨_, rfl, loadRow_at Tryd.underlying74 rfl rfl hr rfl⟩, rfl, rfl, trivial⟩) ⟨rfl, hC⟩
    ·
      have h2 : ¬ s.getD 0 0 ≠ 245 := fun h => q2 (fun h3 => h ((bt245 s).1 h3))
      refine TE.seq ?_
      refine TE.region ?_
      refine OL.pure (Pure.move rfl) rfl ?_
      refine OL.pure (Pure.lenStr Tryd.runUnderlying9 rfl) rfl ?_
      refine OL.pure (Pure.lss rfl rfl) rfl ?_
      refine OL.pure (Pure.assign rfl) rfl ?_
      refine OL.nil ?_
      refine TE.ite rfl (fun q3 => ?_) (fun q3 => ?_)
      ·
        refine TE.seq ?_
        refine TE.region ?_
        refine OL.pure (Pure.build (cs := Fr.zero.cells) rfl (by kernel_rfl)) rfl ?_
        refine OL.storeRow (vs := Fr.zero.cells) rfl rfl (rfl) (by simp [Fr.cells, Value.oneCell']) hr (Nat.le_refl 4) ?_
        intro w4 hb4 hc4
        replace hK := hK.chg hc4 (by simp; omega)
        replace hF := hF.chg hc4 (by simp; omega)
        replace hC := hC.trans1 hc4 (by first | exact .inr (by omega) | exact .inl (by simp))
        replace hr := hb4
        replace hr := hr.all rfl
        obtain ⟨e1, e2, e3⟩ := eq3 hd (dec3 h1 h2 (by omega))
        subst e1
        subst e2
        subst e3
        refine OL.pure (Pure.assign rfl) rfl ?_
        refine OL.pure (Pure.assign rfl) rfl ?_
        refine OL.nil ?_
        exact TE.ret (vs := [.agg (Fr.zero.cells).toArray, .int .i64 ((0 : Nat) : Int), .int .i64 28]) Tryd.results53 (⟨⟨_, rfl, loadRow_at Tryd.underlying74 rfl rfl hr rfl⟩, rfl, rfl, trivial⟩) ⟨rfl, hC⟩
      ·
        have h3 : ¬ s.length < 26 := by omega
        refine TE.skip ?_
        refine TE.inBlock ?_
        refine TE.seq ?_
        refine TE.region ?_
        refine OL.pure (Pure.move rfl) rfl ?_
        refine OL.pure (Pure.sliceTo (l := s) (q := 18) Tryd.underlying9 rfl rfl (by omega) (by omega)) rfl ?_
        refine OL.pure (Pure.assign rfl) rfl ?_
        refine OL.nil ?_
        refine TE.seq ?_
        refine TE.seq ?_
        refine TE.planAll (.cons (0, true) (.cons (1, true) (.cons (2, true) (.cons (3, false) (.cons (4, true) .nil))))) (fun w_ => Chg [] w1 w_) rfl (by kernel_rfl) ?_
        have hS5 : Chg [] w1 w1.drew := Chg.drew _ _
        replace hK := hK.chg0 hS5
        replace hF := hF.chg0 hS5
        replace hr := hr.chg0 hS5
        replace hC := hC.then_ hS5
        refine PL.takeP rfl (Pure.move rfl) rfl hS5 ?_
        refine PL.takeP rfl (Pure.sliceStr (l := s) (p := 18) (q := 26) Tryd.underlying9 rfl rfl rfl (by omega) (by omega) (by omega) (by omega)) rfl hS5 ?_
        refine PL.cast (.string (str ((s.drop 18).take 8))) 30 rfl (by rw [List.drop_take]) ?_
        refine PL.takeP rfl (Pure.move rfl) rfl hS5 ?_
        refine PL.call rfl rfl Tryd.call64 rfl (first_any (s.take 18) (by simp; omega) _ hK) ?_
        rintro _ w6 ⟨rfl, hc6⟩
        have hc6s := hS5.then_ hc6
        replace hK := hK.chg0 hc6
        replace hF := hF.chg0 hc6
        replace hr := hr.chg0 hc6
        replace hC := hC.then_ hc6
        refine ⟨_, rfl, hc6s, ?_⟩
        refine PL.takeP rfl (Pure.strNeq (l := ((s.drop 18).take 8)) (m := (first (s.take 18))) rfl rfl) rfl hc6s ?_
        refine PL.nil ?_
        refine TE.ite rfl (fun h4 => ?_) (fun h4 => ?_)
        ·
          refine TE.seq ?_
          refine TE.region ?_
          refine OL.pure (Pure.build (cs := Fr.zero.cells) rfl (by kernel_rfl)) rfl ?_
          refine OL.storeRow (vs := Fr.zero.cells) rfl rfl (rfl) (by simp [Fr.cells, Value.oneCell']) hr (Nat.le_refl 4) ?_
          intro w7 hb7 hc7
          replace hK := hK.chg hc7 (by simp; omega)
          replace hF := hF.chg hc7 (by simp; omega)
          replace hC := hC.trans1 hc7 (by first | exact .inr (by omega) | exact .inl (by simp))
          replace hr := hb7
          replace hr := hr.all rfl
          obtain ⟨e1, e2, e3⟩ := eq3 hd (dec4 h2 h3 h4)
          subst e1
          subst e2
          subst e3
          refine OL.pure (Pure.assign rfl) rfl ?_
          refine OL.pure (Pure.assign rfl) rfl ?_
          refine OL.nil ?_
          exact TE.ret (vs := [.agg (Fr.zero.cells).toArray, .int .i64 ((0 : Nat) : Int), .int .i64 27]) Tryd.results53 (⟨⟨_, rfl, loadRow_at Tryd.underlying74 rfl rfl hr rfl⟩, rfl, rfl, trivial⟩) ⟨rfl, hC⟩
        ·
          refine TE.skip ?_
          refine TE.seq ?_
          refine TE.region ?_
          refine OL.alloc Tryd.zeroValue120 rfl ?_
          intro gn w8 hn hc8 hg_gn
          have lt_1_gn : 1 < gn := by have := hK.lt; omega
          have lt_0_gn : 0 < gn := by have := hF.lt; omega
          have lt_gr_gn : gr < gn := by have := hr.lt; omega
          have ge_gn : w.heap.size ≤ gn := by have := hC.size; omega
          replace hK := hK.chg0 hc8
          replace hF := hF.chg0 hc8
          replace hr := hr.chg0 hc8
          replace hC := hC.then_ hc8
          have hn : Blk w8 gn 120 (iv .u64 (nums s 0)) := hn
          refine OL.nil ?_
          refine TE.seq ?_
          refine TE.region ?_
          refine OL.pure (Pure.assign rfl) rfl ?_
          refine OL.nil ?_
          refine TE.seq ?_
          refine TE.seq ?_
          refine TE.region ?_
          refine OL.val (Run.loadAll rfl Tryd.underlying114 rfl hF (rfl)) rfl ?_
          refine OL.pure (Pure.move rfl) rfl ?_
          refine OL.nil ?_
          refine TE.block ?_
          refine TE.loopInv (σ := Nat) [0, 2, 5, 6, 7, 35, 36] (fun s_ w_ => s_ ≤ 4 ∧ Chg [] w w_ ∧ Blk w_ 1 tK (iv .u32 K) ∧ Blk w_ gr 74 (Fr.zero.cells) ∧ Blk w_ gn 120 (iv .u64 (nums s s_))) (fun s_ => [(0, .string (str s)), (2, .pointer (some ⟨gr, 0, none⟩)), (5, .string (str (s.take 18))), (6, .pointer (some ⟨gn, 0, none⟩)), (7, .int .i64 (off s_ : Int)), (35, .agg (iv .i64 fldL).toArray), (36, .int .i64 (↑s_))]) (fun s_ => 4 - s_) 0 ⟨by omega, hC, hK, hr, hn⟩ rfl ?_
          rintro i w9 ⟨hi, hC, hK, hr, hn⟩ ih9
          refine TE.seq ?_
          refine TE.region ?_
          refine OL.pure (Pure.lss rfl rfl) rfl ?_
          refine OL.nil ?_
          refine TE.seq ?_
          refine TE.ite rfl (fun hlt => ?_) (fun hlt => ?_)
          ·
            have hi4 : i < 4 := by omega
            obtain ⟨ho1, ho2, ho3, ho4⟩ := off_fld i hi4
            refine TE.skip ?_
            refine TE.seq ?_
            refine TE.block ?_
            refine TE.seq ?_
            refine TE.region ?_
            refine OL.pure (Pure.move rfl) rfl ?_
            refine OL.pure (Pure.indexAgg (cs := iv .i64 fldL) (j := i) (v := .int .i64 (fldL.getD i 0)) Tryd.runUnderlying114 Tryd.sizeOf3 Tryd.isAgg3 rfl rfl rfl (by omega) (iv_get (show i < 4 by omega))) rfl ?_
            refine OL.cast (.int .i64 (fld i : Int)) 39 rfl (congrArg (Value.int .i64) ho4) ?_
            refine OL.pure (Pure.assign rfl) rfl ?_
            refine OL.pure (Pure.assign rfl) rfl ?_
            refine OL.nil ?_
            refine TE.seq ?_
            refine TE.region ?_
            refine OL.pure (Pure.move rfl) rfl ?_
            refine OL.pure (Pure.move rfl) rfl ?_
            refine OL.nil ?_
            refine TE.block ?_
            replace hn : Blk w9 gn 120 (iv .u64 ((nums s i).set i ((num ((s.drop (off i)).take 0) : Nat) : Int))) := by rw [show ((num ((s.drop (off i)).take 0) : Nat) : Int) = 0 from rfl, nums_at s i hi4]; exact hn
            refine TE.cast (.int .i64 (((off i + 0 : Nat) : Nat) : Int)) 7 rfl (rfl) ?_
            refine TE.loopInv (σ := Nat) [0, 2, 5, 6, 7, 8, 35, 36, 40, 41] (fun s_ w_ => s_ ≤ fld i ∧ Chg [] w w_ ∧ Blk w_ 1 tK (iv .u32 K) ∧ Blk w_ gr 74 (Fr.zero.cells) ∧ Blk w_ gn 120 (iv .u64 ((nums s i).set i ((num ((s.drop (off i)).take s_) : Nat) : Int)))) (fun s_ => [(0, .string (str s)), (2, .pointer (some ⟨gr, 0, none⟩)), (5, .string (str (s.take 18))), (6, .pointer (some ⟨gn, 0, none⟩)), (7, .int .i64 (((off i + s_ : Nat) : Nat) : Int)), (8, .int .i64 (↑i)), (35, .agg (iv .i64 fldL).toArray), (36, .int .i64 (↑i)), (40, .int .i64 (↑(fld i))), (41, .int .i64 (↑s_))]) (fun s_ => fld i - s_) 0 ⟨by omega, hC, hK, hr, hn⟩ rfl ?_
            rintro j w10 ⟨hj, hC, hK, hr, hn⟩ ih10
            refine TE.seq ?_
            refine TE.region ?_
            refine OL.pure (Pure.lss rfl rfl) rfl ?_
            refine OL.nil ?_
            refine TE.seq ?_
            refine TE.ite rfl (fun hlt2 => ?_) (fun hlt2 => ?_)
            ·
              have hnl := nums_len s i
              have hst := num_step (s := s) (o := off i) (j := j) (by omega)
              have hsm := num_small s (off i) j (by omega)
              obtain ⟨x, hx⟩ : ∃ x : Nat, x = num ((s.drop (off i)).take j) := ⟨_, rfl⟩
              rw [← hx] at hsm hst hn
              refine TE.skip ?_
              refine TE.seq ?_
              refine TE.block ?_
              refine TE.seq ?_
              refine TE.plan 11 (.cons (0, true) (.cons (1, true) (.cons (2, true) (.cons (3, true) (.cons (4, true) (.cons (5, true) (.cons (6, true) (.cons (7, true) (.cons (8, true) (.cons (9, true) (.cons (10, true) .nil))))))))))) (fun w_ => Chg [] w10 w_) rfl (by kernel_rfl) rfl ?_
              have hS11 : Chg [] w10 w10.drew := Chg.drew _ _
              refine PL.takeP rfl (Pure.move rfl) rfl hS11 ?_
              refine PL.takeP rfl (Pure.move rfl) rfl hS11 ?_
              refine PL.takeP rfl (Pure.indexAddrA (r := i) Tryd.runUnderlying120 Tryd.sizeOf113 rfl rfl (by omega) (by omega) (by omega)) rfl hS11 ?_
              refine PL.take rfl (fun w_ h_ => Run.load (i := i) rfl Tryd.isAgg113 (hn.chg0 h_) (by omega) (iv_get (by simp [hnl]; omega))) rfl hS11 ?_
              refine PL.cast (.int .u64 (x : Int)) 46 rfl (congrArg (Value.int .u64) (by simp [List.getD, hnl, hi4])) ?_
              refine PL.takeP rfl (Pure.shl (p := 256) rfl rfl (by decide) (by decide) (u64w _)) rfl hS11 ?_
              refine PL.takeP rfl (Pure.move rfl) rfl hS11 ?_
              refine PL.takeP rfl (Pure.move rfl) rfl hS11 ?_
              refine PL.takeP rfl (Pure.indexStr (j := off i + j) Tryd.runUnderlying9 rfl rfl (by omega) (by omega)) rfl hS11 ?_
              refine PL.takeP rfl (Pure.conv Tryd.runUnderlying5 Tryd.runUnderlying113 rfl (u64bt _ _)) rfl hS11 ?_
              refine PL.takeP rfl (Pure.bits rfl rfl rfl) rfl hS11 ?_
              refine PL.takeP rfl (Pure.indexAddrA (r := i) Tryd.runUnderlying120 Tryd.sizeOf113 rfl rfl (by omega) (by omega) (by omega)) rfl hS11 ?_
              refine PL.nilTail ?_
              replace hK := hK.chg0 hS11
              replace hr := hr.chg0 hS11
              replace hn := hn.chg0 hS11
              replace hC := hC.then_ hS11
              refine OL.cast (.int .u64 ((num ((s.drop (off i)).take (j + 1)) : Nat) : Int)) 52 rfl (congrArg (Value.int .u64) (by rw [hst]; exact or_byte x hsm _)) ?_
              refine OL.store (j := i) rfl rfl Tryd.sizeOf113 rfl hn (by omega) (iv_get (by simp [hnl]; omega)) ?_
              intro w12 hb12 hc12
              replace hK := hK.chg hc12 (by simp; omega)
              replace hr := hr.chg hc12 (by simpa using hr.ne hn (by decide))
              replace hC := hC.trans1 hc12 (by first | exact .inr (by omega) | exact .inl (by simp))
              replace hn := hb12
              rw [iv_set, List.set_set] at hn
              refine OL.nil ?_
              refine TE.region ?_
              refine OL.pure (Pure.move rfl) rfl ?_
              refine OL.pure (Pure.add rfl rfl (i64 (by omega) (by omega))) rfl ?_
              refine OL.pure (Pure.assign rfl) rfl ?_
              refine OL.nil ?_
              refine TE.inBlock ?_
              refine TE.region ?_
              refine OL.pure (Pure.add rfl rfl (i64 (by omega) (by omega))) rfl ?_
              refine OL.pure (Pure.move rfl) rfl ?_
              refine OL.nil ?_
              refine TE.cast (.int .i64 (((off i + (j + 1) : Nat) : Nat) : Int)) 7 rfl (congrArg (Value.int .i64) (by omega)) ?_
              exact TE.sub [0, 2, 5, 6, 7, 8, 35, 36, 40, 41] rfl (ih10 (j + 1) _ ⟨by omega, hC, hK, hr, hn⟩ (by omega))
            ·
              obtain rfl : j = fld i := by omega
              rw [nums_next s i hi4] at hn
              refine TE.exit rfl ?_
              refine TE.inBlock ?_
              refine TE.region ?_
              refine OL.pure (Pure.add rfl rfl (i64 (by omega) (by omega))) rfl ?_
              refine OL.pure (Pure.move rfl) rfl ?_
              refine OL.nil ?_
              refine TE.cast (.int .i64 (off (i + 1) : Int)) 7 rfl (congrArg (Value.int .i64) (by omega)) ?_
              exact TE.sub [0, 2, 5, 6, 7, 35, 36] rfl (ih9 (i + 1) _ ⟨by omega, hC, hK, hr, hn⟩ (by omega))
          ·
            obtain rfl : i = 4 := by omega
            by_cases ha : 2147483647 < stN s
            ·
              refine TE.exit rfl ?_
              refine TE.seq ?_
              refine TE.seq ?_
              refine TE.region ?_
              refine OL.pure (Pure.indexAddrA (r := 1) Tryd.runUnderlying120 Tryd.sizeOf113 rfl rfl (by omega) (by omega) (by omega)) rfl ?_
              refine OL.val (Run.load (i := 1) rfl Tryd.isAgg113 hn (by omega) rfl) rfl ?_
              refine OL.pure (Pure.gtr rfl rfl) rfl ?_
              refine OL.cast (.bool true) 60 rfl (congrArg Value.bool (decide_eq_true (by omega))) ?_
              refine OL.pure (Pure.move rfl) rfl ?_
              refine OL.pass rfl rfl rfl rfl rfl ?_
              refine OL.pass rfl rfl rfl rfl rfl ?_
              refine OL.pass rfl rfl rfl rfl rfl ?_
              refine OL.pure (Pure.pickT rfl rfl) rfl ?_
              refine OL.nil ?_
              refine TE.condT rfl rfl ?_
              refine TE.seq ?_
              refine TE.region ?_
              refine OL.pure (Pure.build (cs := Fr.zero.cells) rfl (by kernel_rfl)) rfl ?_
              refine OL.storeRow (vs := Fr.zero.cells) rfl rfl (rfl) (by simp [Fr.cells, Value.oneCell']) hr (Nat.le_refl 4) ?_
              intro w13 hb13 hc13
              replace hK := hK.chg hc13 (by simp; omega)
              replace hn := hn.chg hc13 (by simpa using hn.ne hr (by decide))
              replace hC := hC.trans1 hc13 (by first | exact .inr (by omega) | exact .inl (by simp))
              replace hr := hb13
              replace hr := hr.all rfl
              obtain ⟨e1, e2, e3⟩ := eq3 hd (dec5 h2 h3 h4 (.inl ha))
              subst e1
              subst e2
              subst e3
              refine OL.pure (Pure.assign rfl) rfl ?_
              refine OL.pure (Pure.assign rfl) rfl ?_
              refine OL.nil ?_
              exact TE.ret (vs := [.agg (Fr.zero.cells).toArray, .int .i64 ((0 : Nat) : Int), .int .i64 2]) Tryd.results53 (⟨⟨_, rfl, loadRow_at Tryd.underlying74 rfl rfl hr rfl⟩, rfl, rfl, trivial⟩) ⟨rfl, hC⟩
            ·
              by_cases hb : 1099511627775 < nbN s
              ·
                refine TE.exit rfl ?_
                refine TE.seq ?_
                refine TE.seq ?_
                refine TE.region ?_
                refine OL.pure (Pure.indexAddrA (r := 1) Tryd.runUnderlying120 Tryd.sizeOf113 rfl rfl (by omega) (by omega) (by omega)) rfl ?_
                refine OL.val (Run.load (i := 1) rfl Tryd.isAgg113 hn (by omega) rfl) rfl ?_
                refine OL.pure (Pure.gtr rfl rfl) rfl ?_
                refine OL.cast (.bool false) 60 rfl (congrArg Value.bool (decide_eq_false (by omega))) ?_
                refine OL.pure (Pure.move rfl) rfl ?_
                refine OL.want rfl rfl rfl (Pure.indexAddrA (r := 2) Tryd.runUnderlying120 Tryd.sizeOf113 rfl rfl (by omega) (by omega) (by omega) _) rfl ?_
                refine OL.want rfl rfl rfl (Run.load (i := 2) rfl Tryd.isAgg113 hn (by omega) rfl) rfl ?_
                refine OL.want rfl rfl rfl (Pure.gtr rfl rfl _) rfl ?_
                refine OL.cast (.bool true) 64 rfl (congrArg Value.bool (decide_eq_true (by omega))) ?_
                refine OL.pure (Pure.pickF rfl rfl) rfl ?_
                refine OL.nil ?_
                refine TE.condT rfl rfl ?_
                refine TE.seq ?_
                refine TE.region ?_
                refine OL.pure (Pure.build (cs := Fr.zero.cells) rfl (by kernel_rfl)) rfl ?_
                refine OL.storeRow (vs := Fr.zero.cells) rfl rfl (rfl) (by simp [Fr.cells, Value.oneCell']) hr (Nat.le_refl 4) ?_
                intro w14 hb14 hc14
                replace hK := hK.chg hc14 (by simp; omega)
                replace hn := hn.chg hc14 (by simpa using hn.ne hr (by decide))
                replace hC := hC.trans1 hc14 (by first | exact .inr (by omega) | exact .inl (by simp))
                replace hr := hb14
                replace hr := hr.all rfl
                obtain ⟨e1, e2, e3⟩ := eq3 hd (dec5 h2 h3 h4 (.inr hb))
                subst e1
                subst e2
                subst e3
                refine OL.pure (Pure.assign rfl) rfl ?_
                refine OL.pure (Pure.assign rfl) rfl ?_
                refine OL.nil ?_
                exact TE.ret (vs := [.agg (Fr.zero.cells).toArray, .int .i64 ((0 : Nat) : Int), .int .i64 2]) Tryd.results53 (⟨⟨_, rfl, loadRow_at Tryd.underlying74 rfl rfl hr rfl⟩, rfl, rfl, trivial⟩) ⟨rfl, hC⟩
              ·
                have h5 : ¬ (2147483647 < stN s ∨ 1099511627775 < nbN s) := by omega
                refine TE.exit rfl ?_
                refine TE.seq ?_
                refine TE.seq ?_
                refine TE.region ?_
                refine OL.pure (Pure.indexAddrA (r := 1) Tryd.runUnderlying120 Tryd.sizeOf113 rfl rfl (by omega) (by omega) (by omega)) rfl ?_
                refine OL.val (Run.load (i := 1) rfl Tryd.isAgg113 hn (by omega) rfl) rfl ?_
                refine OL.pure (Pure.gtr rfl rfl) rfl ?_
                refine OL.cast (.bool false) 60 rfl (congrArg Value.bool (decide_eq_false (by omega))) ?_
                refine OL.pure (Pure.move rfl) rfl ?_
                refine OL.want rfl rfl rfl (Pure.indexAddrA (r := 2) Tryd.runUnderlying120 Tryd.sizeOf113 rfl rfl (by omega) (by omega) (by omega) _) rfl ?_
                refine OL.want rfl rfl rfl (Run.load (i := 2) rfl Tryd.isAgg113 hn (by omega) rfl) rfl ?_
                refine OL.want rfl rfl rfl (Pure.gtr rfl rfl _) rfl ?_
                refine OL.cast (.bool false) 64 rfl (congrArg Value.bool (decide_eq_false (by omega))) ?_
                refine OL.pure (Pure.pickF rfl rfl) rfl ?_
                refine OL.nil ?_
                refine TE.condF rfl rfl ?_
                refine TE.skip ?_
                refine TE.seq ?_
                refine TE.seq ?_
                refine TE.region ?_
                refine OL.pure (Pure.indexAddrA (r := 3) Tryd.runUnderlying120 Tryd.sizeOf113 rfl rfl (by omega) (by omega) (by omega)) rfl ?_
                refine OL.val (Run.load (i := 3) rfl Tryd.isAgg113 hn (by omega) rfl) rfl ?_
                refine OL.pure (Pure.gtr rfl rfl) rfl ?_
                refine OL.nil ?_
                refine TE.ite rfl (fun q6 => ?_) (fun q6 => ?_)
                ·
                  refine TE.seq ?_
                  refine TE.region ?_
                  refine OL.pure (Pure.build (cs := Fr.zero.cells) rfl (by kernel_rfl)) rfl ?_
                  refine OL.storeRow (vs := Fr.zero.cells) rfl rfl (rfl) (by simp [Fr.cells, Value.oneCell']) hr (Nat.le_refl 4) ?_
                  intro w15 hb15 hc15
                  replace hK := hK.chg hc15 (by simp; omega)
                  replace hn := hn.chg hc15 (by simpa using hn.ne hr (by decide))
                  replace hC := hC.trans1 hc15 (by first | exact .inr (by omega) | exact .inl (by simp))
                  replace hr := hb15
                  replace hr := hr.all rfl
                  obtain ⟨e1, e2, e3⟩ := eq3 hd (dec6 h2 h3 h4 h5 (by omega))
                  subst e1
                  subst e2
                  subst e3
                  refine OL.pure (Pure.assign rfl) rfl ?_
                  refine OL.pure (Pure.assign rfl) rfl ?_
                  refine OL.nil ?_
                  exact TE.ret (vs := [.agg (Fr.zero.cells).toArray, .int .i64 ((0 : Nat) : Int), .int .i64 5]) Tryd.results53 (⟨⟨_, rfl, loadRow_at Tryd.underlying74 rfl rfl hr rfl⟩, rfl, rfl, trivial⟩) ⟨rfl, hC⟩
                ·
                  have h6 : ¬ 262144 < lnN s := by omega
                  refine TE.skip ?_
                  refine TE.seq ?_
                  refine TE.region ?_
                  refine OL.pure (Pure.indexAddrA (r := 3) Tryd.runUnderlying120 Tryd.sizeOf113 rfl rfl (by omega) (by omega) (by omega)) rfl ?_
                  refine OL.val (Run.load (i := 3) rfl Tryd.isAgg113 hn (by omega) rfl) rfl ?_
                  refine OL.pure (Pure.conv Tryd.runUnderlying113 Tryd.runUnderlying3 rfl (i64in (by omega) (by omega))) rfl ?_
                  refine OL.pure (Pure.add rfl rfl (i64 (by omega) (by omega))) rfl ?_
                  refine OL.pure (Pure.assign rfl) rfl ?_
                  refine OL.nil ?_
                  refine TE.seq ?_
                  refine TE.seq ?_
                  refine TE.region ?_
                  refine OL.pure (Pure.move rfl) rfl ?_
                  refine OL.pure (Pure.lenStr Tryd.runUnderlying9 rfl) rfl ?_
                  refine OL.pure (Pure.move rfl) rfl ?_
                  refine OL.pure (Pure.add rfl rfl (i64 (by omega) (by omega))) rfl ?_
                  refine OL.pure (Pure.lss rfl rfl) rfl ?_
                  refine OL.nil ?_
                  refine TE.ite rfl (fun q7 => ?_) (fun q7 => ?_)
                  ·
                    refine TE.seq ?_
                    refine TE.region ?_
                    refine OL.pure (Pure.build (cs := Fr.zero.cells) rfl (by kernel_rfl)) rfl ?_
                    refine OL.storeRow (vs := Fr.zero.cells) rfl rfl (rfl) (by simp [Fr.cells, Value.oneCell']) hr (Nat.le_refl 4) ?_
                    intro w16 hb16 hc16
                    replace hK := hK.chg hc16 (by simp; omega)
                    replace hn := hn.chg hc16 (by simpa using hn.ne hr (by decide))
                    replace hC := hC.trans1 hc16 (by first | exact .inr (by omega) | exact .inl (by simp))
                    replace hr := hb16
                    replace hr := hr.all rfl
                    obtain ⟨e1, e2, e3⟩ := eq3 hd (dec7 h2 h3 h4 h5 h6 (by omega))
                    subst e1
                    subst e2
                    subst e3
                    refine OL.pure (Pure.assign rfl) rfl ?_
                    refine OL.pure (Pure.assign rfl) rfl ?_
                    refine OL.nil ?_
                    exact TE.ret (vs := [.agg (Fr.zero.cells).toArray, .int .i64 ((0 : Nat) : Int), .int .i64 28]) Tryd.results53 (⟨⟨_, rfl, loadRow_at Tryd.underlying74 rfl rfl hr rfl⟩, rfl, rfl, trivial⟩) ⟨rfl, hC⟩
                  ·
                    have h7 : ¬ s.length < 42 + lnN s := by omega
                    refine TE.skip ?_
                    refine TE.seq ?_
                    refine TE.region ?_
                    refine OL.pure (Pure.move rfl) rfl ?_
                    refine OL.pure (Pure.move rfl) rfl ?_
                    refine OL.pure (Pure.sliceStr (l := s) (p := 26) (q := (lnN s) + 26) Tryd.underlying9 rfl rfl rfl (by omega) (by omega) (by omega) (by omega)) rfl ?_
                    refine OL.cast (.string (str (pay s))) 83 rfl (congrArg (fun z => Value.string (str z)) (by rw [List.drop_take, show lnN s + 26 - 26 = lnN s by omega]; rfl)) ?_
                    have hpl : (pay s).length ≤ 262144 := by unfold pay; simp; omega
                    refine OL.pure (Pure.assign rfl) rfl ?_
                    refine OL.nil ?_
                    refine TE.seq ?_
                    refine TE.seq ?_
                    refine TE.planAll (.cons (0, true) (.cons (1, true) (.cons (2, true) (.cons (3, true) (.cons (4, true) (.cons (5, true) (.cons (6, true) (.cons (7, false) (.cons (8, true) .nil))))))))) (fun w_ => Chg [] w9 w_) rfl (by kernel_rfl) ?_
                    have hS17 : Chg [] w9 w9.drew := Chg.drew _ _
                    replace hK := hK.chg0 hS17
                    replace hr := hr.chg0 hS17
                    replace hn := hn.chg0 hS17
                    replace hC := hC.then_ hS17
                    refine PL.takeP rfl (Pure.move rfl) rfl hS17 ?_
                    refine PL.takeP rfl (Pure.move rfl) rfl hS17 ?_
                    refine PL.takeP rfl (Pure.move rfl) rfl hS17 ?_
                    refine PL.takeP rfl (Pure.add rfl rfl (i64 (by omega) (by omega))) rfl hS17 ?_
                    refine PL.takeP rfl (Pure.sliceStr (l := s) (p := (lnN s) + 26) (q := (lnN s) + 42) Tryd.underlying9 rfl rfl rfl (by omega) (by omega) (by omega) (by omega)) rfl hS17 ?_
                    refine PL.cast (.string (str ((s.drop (26 + lnN s)).take 16))) 88 rfl (congrArg (fun z => Value.string (str z)) (by rw [List.drop_take, show lnN s + 42 - (lnN s + 26) = 16 by omega, show lnN s + 26 = 26 + lnN s by omega])) ?_
                    refine PL.takeP rfl (Pure.move rfl) rfl hS17 ?_
                    refine PL.takeP rfl (Pure.move rfl) rfl hS17 ?_
                    refine PL.call rfl rfl Tryd.call65 rfl (second_any (s.take 18) (pay s) (by simp; omega) (by omega) _ hK) ?_
                    rintro _ w18 ⟨rfl, hc18⟩
                    have hc18s := hS17.then_ hc18
                    replace hK := hK.chg0 hc18
                    replace hr := hr.chg0 hc18
                    replace hn := hn.chg0 hc18
                    replace hC := hC.then_ hc18
                    refine ⟨_, rfl, hc18s, ?_⟩
                    refine PL.takeP rfl (Pure.strNeq (l := ((s.drop (26 + lnN s)).take 16)) (m := (second (s.take 18) (pay s))) rfl rfl) rfl hc18s ?_
                    refine PL.nil ?_
                    refine TE.ite rfl (fun h8 => ?_) (fun h8 => ?_)
                    ·
                      refine TE.seq ?_
                      refine TE.region ?_
                      refine OL.pure (Pure.build (cs := Fr.zero.cells) rfl (by kernel_rfl)) rfl ?_
                      refine OL.storeRow (vs := Fr.zero.cells) rfl rfl (rfl) (by simp [Fr.cells, Value.oneCell']) hr (Nat.le_refl 4) ?_
                      intro w19 hb19 hc19
                      replace hK := hK.chg hc19 (by simp; omega)
                      replace hn := hn.chg hc19 (by simpa using hn.ne hr (by decide))
                      replace hC := hC.trans1 hc19 (by first | exact .inr (by omega) | exact .inl (by simp))
                      replace hr := hb19
                      replace hr := hr.all rfl
                      obtain ⟨e1, e2, e3⟩ := eq3 hd (dec8 h2 h3 h4 h5 h6 h7 h8)
                      subst e1
                      subst e2
                      subst e3
                      refine OL.pure (Pure.assign rfl) rfl ?_
                      refine OL.pure (Pure.assign rfl) rfl ?_
                      refine OL.nil ?_
                      exact TE.ret (vs := [.agg (Fr.zero.cells).toArray, .int .i64 ((0 : Nat) : Int), .int .i64 27]) Tryd.results53 (⟨⟨_, rfl, loadRow_at Tryd.underlying74 rfl rfl hr rfl⟩, rfl, rfl, trivial⟩) ⟨rfl, hC⟩
                    ·
                      have hk1 := kN_eq (s := s) (by omega)
                      have hkb := (s.getD 1 0).toNat_lt
                      refine TE.skip ?_
                      refine TE.seq ?_
                      refine TE.region ?_
                      refine OL.pure (Pure.indexAddrA (r := 0) Tryd.runUnderlying120 Tryd.sizeOf113 rfl rfl (by omega) (by omega) (by omega)) rfl ?_
                      refine OL.val (Run.load (i := 0) rfl Tryd.isAgg113 hn (by omega) rfl) rfl ?_
                      refine OL.pure (Pure.conv Tryd.runUnderlying113 Tryd.runUnderlying3 rfl (i64in (by omega) (by omega))) rfl ?_
                      refine OL.cast (.int .i64 ((s.getD 1 0).toNat : Int)) 96 rfl (congrArg (Value.int .i64) (by omega)) ?_
                      refine OL.pure (Pure.indexAddrA (r := 1) Tryd.runUnderlying120 Tryd.sizeOf113 rfl rfl (by omega) (by omega) (by omega)) rfl ?_
                      refine OL.val (Run.load (i := 1) rfl Tryd.isAgg113 hn (by omega) rfl) rfl ?_
                      refine OL.pure (Pure.conv Tryd.runUnderlying113 Tryd.runUnderlying3 rfl (i64in (by omega) (by omega))) rfl ?_
                      refine OL.pure (Pure.indexAddrA (r := 2) Tryd.runUnderlying120 Tryd.sizeOf113 rfl rfl (by omega) (by omega) (by omega)) rfl ?_
                      refine OL.val (Run.load (i := 2) rfl Tryd.isAgg113 hn (by omega) rfl) rfl ?_
                      refine OL.pure (Pure.conv Tryd.runUnderlying113 Tryd.runUnderlying3 rfl (i64in (by omega) (by omega))) rfl ?_
                      refine OL.pure (Pure.move rfl) rfl ?_
                      refine OL.toBytes Tryd.underlying9 Tryd.underlying34 Tryd.underlying5 rfl rfl ?_
                      intro v0 w20 hv0 hc20 ho_v0
                      have hm_v0 : Mine w.heap.size v0 := Mine.new ho_v0 (by have := hC.size; omega)
                      replace hK := hK.chg0 hc20
                      replace hr := hr.chg0 hc20
                      replace hn := hn.chg0 hc20
                      replace hC := hC.then_ hc20
                      refine OL.val (Run.rowStr Tryd.underlying34 Tryd.underlying5 Tryd.underlying9 rfl hv0) rfl ?_
                      refine OL.pure (Pure.build (cs := (Fr.cells ⟨((s.getD 1 0).toNat : Int), (stN s : Int), (nbN s : Int), pay s⟩)) rfl (by kernel_rfl)) rfl ?_
                      refine OL.pure (Pure.move rfl) rfl ?_
                      refine OL.pure (Pure.add rfl rfl (i64 (by omega) (by omega))) rfl ?_
                      refine OL.storeRow (vs := (Fr.cells ⟨((s.getD 1 0).toNat : Int), (stN s : Int), (nbN s : Int), pay s⟩)) rfl rfl (rfl) (by simp [Fr.cells, Value.oneCell']) hr (Nat.le_refl 4) ?_
                      intro w21 hb21 hc21
                      replace hK := hK.chg hc21 (by simp; omega)
                      replace hn := hn.chg hc21 (by simpa using hn.ne hr (by decide))
                      replace hC := hC.trans1 hc21 (by first | exact .inr (by omega) | exact .inl (by simp))
                      replace hr := hb21
                      replace hr := hr.all rfl
                      refine OL.pure (Pure.assign rfl) rfl ?_
                      refine OL.pure (Pure.assign rfl) rfl ?_
                      refine OL.nil ?_
                      obtain ⟨e1, e2, e3⟩ := eq3 hd (dec9 h2 h3 h4 h5 h6 h7 h8)
                      subst e1
                      subst e2
                      subst e3
                      exact TE.ret (vs := [.agg (Fr.cells ⟨((s.getD 1 0).toNat : Int), (stN s : Int), (nbN s : Int), pay s⟩).toArray, .int .i64 ((42 + lnN s : Nat) : Int), .int .i64 0]) Tryd.results53 (⟨⟨_, rfl, loadRow_at Tryd.underlying74 rfl rfl hr rfl⟩, congrArg (fun z => some (Value.int .i64 z)) (by omega), rfl, trivial⟩) ⟨rfl, hC⟩

end Go.Proofs.YtcologcjhenmkaaDoor
