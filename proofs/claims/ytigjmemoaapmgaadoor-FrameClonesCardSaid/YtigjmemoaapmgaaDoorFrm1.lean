/- inside, Check, Size, big, number, walked -/
import Derived.Test.YtigjmemoaapmgaaDoorProg
import Derived.Test.YtigjmemoaapmgaaDoorEng6
import Derived.Test.YtigjmemoaapmgaaDoorFrameSpec2
import Derived.Test.YtigjmemoaapmgaaDoorShaT
set_option linter.unusedVariables false
set_option maxRecDepth 4000
namespace Go.Proofs.YtigjmemoaapmgaaDoor
open Go.V Go.Sha Go.Frm
theorem inside_any (s n : Int) (w : World) : Calls Tryd.prog 45 #[.int .i64 s, .int .i64 n] w (Ret (.bool (decide (inside s n))) w) := by
  refine calls_of_TE (vs := [.int .i64 s, .int .i64 n]) Tryd.func45 Tryd.ntmps45 rfl (by simp) ?_
  by_cases hb0 : 0 ≤ s
  ·
    by_cases hb1 : s ≤ 2147483647
    ·
      by_cases hb2 : 0 ≤ n
      ·
        by_cases hb3 : n ≤ 1099511627775
        ·
          refine TE.seq ?_
          refine TE.region ?_
          refine OL.pure (Pure.assign rfl) rfl ?_
          refine OL.nil ?_
          refine TE.seq ?_
          refine TE.region ?_
          refine OL.pure (Pure.move rfl) rfl ?_
          refine OL.pure (Pure.geq rfl rfl) rfl ?_
          refine OL.cast (.bool true) 6 rfl (congrArg Value.bool (decide_eq_true (by omega))) ?_
          refine OL.pure (Pure.move rfl) rfl ?_
          refine OL.want rfl rfl rfl (Pure.move rfl _) rfl ?_
          refine OL.want rfl rfl rfl (Pure.leq rfl rfl _) rfl ?_
          refine OL.cast (.bool true) 9 rfl (congrArg Value.bool (decide_eq_true (by omega))) ?_
          refine OL.pure (Pure.pickT rfl rfl) rfl ?_
          refine OL.pure (Pure.move rfl) rfl ?_
          refine OL.want rfl rfl rfl (Pure.move rfl _) rfl ?_
          refine OL.want rfl rfl rfl (Pure.geq rfl rfl _) rfl ?_
          refine OL.cast (.bool true) 13 rfl (congrArg Value.bool (decide_eq_true (by omega))) ?_
          refine OL.pure (Pure.pickT rfl rfl) rfl ?_
          refine OL.pure (Pure.move rfl) rfl ?_
          refine OL.want rfl rfl rfl (Pure.move rfl _) rfl ?_
          refine OL.want rfl rfl rfl (Pure.leq rfl rfl _) rfl ?_
          refine OL.cast (.bool true) 17 rfl (congrArg Value.bool (decide_eq_true (by omega))) ?_
          refine OL.pure (Pure.pickT rfl rfl) rfl ?_
          refine OL.pure (Pure.assign rfl) rfl ?_
          refine OL.nil ?_
          exact TE.ret (vs := [.bool (decide (inside s n))]) Tryd.results45 (⟨by rw [decide_eq_true (p := inside s n) (by unfold inside; omega)]; rfl, trivial⟩) ⟨rfl, rfl⟩
        ·
          refine TE.seq ?_
          refine TE.region ?_
          refine OL.pure (Pure.assign rfl) rfl ?_
          refine OL.nil ?_
          refine TE.seq ?_
          refine TE.region ?_
          refine OL.pure (Pure.move rfl) rfl ?_
          refine OL.pure (Pure.geq rfl rfl) rfl ?_
          refine OL.cast (.bool true) 6 rfl (congrArg Value.bool (decide_eq_true (by omega))) ?_
          refine OL.pure (Pure.move rfl) rfl ?_
          refine OL.want rfl rfl rfl (Pure.move rfl _) rfl ?_
          refine OL.want rfl rfl rfl (Pure.leq rfl rfl _) rfl ?_
          refine OL.cast (.bool true) 9 rfl (congrArg Value.bool (decide_eq_true (by omega))) ?_
          refine OL.pure (Pure.pickT rfl rfl) rfl ?_
          refine OL.pure (Pure.move rfl) rfl ?_
          refine OL.want rfl rfl rfl (Pure.move rfl _) rfl ?_
          refine OL.want rfl rfl rfl (Pure.geq rfl rfl _) rfl ?_
          refine OL.cast (.bool true) 13 rfl (congrArg Value.bool (decide_eq_true (by omega))) ?_
          refine OL.pure (Pure.pickT rfl rfl) rfl ?_
          refine OL.pure (Pure.move rfl) rfl ?_
          refine OL.want rfl rfl rfl (Pure.move rfl _) rfl ?_
          refine OL.want rfl rfl rfl (Pure.leq rfl rfl _) rfl ?_
          refine OL.cast (.bool false) 17 rfl (congrArg Value.bool (decide_eq_false (by omega))) ?_
          refine OL.pure (Pure.pickT rfl rfl) rfl ?_
          refine OL.pure (Pure.assign rfl) rfl ?_
          refine OL.nil ?_
          exact TE.ret (vs := [.bool (decide (inside s n))]) Tryd.results45 (⟨by rw [decide_eq_false (p := inside s n) (by unfold inside; omega)]; rfl, trivial⟩) ⟨rfl, rfl⟩
      ·
        refine TE.seq ?_
        refine TE.region ?_
        refine OL.pure (Pure.assign rfl) rfl ?_
        refine OL.nil ?_
        refine TE.seq ?_
        refine TE.region ?_
        refine OL.pure (Pure.move rfl) rfl ?_
        refine OL.pure (Pure.geq rfl rfl) rfl ?_
        refine OL.cast (.bool true) 6 rfl (congrArg Value.bool (decide_eq_true (by omega))) ?_
        refine OL.pure (Pure.move rfl) rfl ?_
        refine OL.want rfl rfl rfl (Pure.move rfl _) rfl ?_
        refine OL.want rfl rfl rfl (Pure.leq rfl rfl _) rfl ?_
        refine OL.cast (.bool true) 9 rfl (congrArg Value.bool (decide_eq_true (by omega))) ?_
        refine OL.pure (Pure.pickT rfl rfl) rfl ?_
        refine OL.pure (Pure.move rfl) rfl ?_
        refine OL.want rfl rfl rfl (Pure.move rfl _) rfl ?_
        refine OL.want rfl rfl rfl (Pure.geq rfl rfl _) rfl ?_
        refine OL.cast (.bool false) 13 rfl (congrArg Value.bool (decide_eq_false (by omega))) ?_
        refine OL.pure (Pure.pickT rfl rfl) rfl ?_
        refine OL.pure (Pure.move rfl) rfl ?_
        refine OL.pass rfl rfl rfl rfl rfl ?_
        refine OL.pass rfl rfl rfl rfl rfl ?_
        refine OL.pure (Pure.pickF rfl rfl) rfl ?_
        refine OL.pure (Pure.assign rfl) rfl ?_
        refine OL.nil ?_
        exact TE.ret (vs := [.bool (decide (inside s n))]) Tryd.results45 (⟨by rw [decide_eq_false (p := inside s n) (by unfold inside; omega)]; rfl, trivial⟩) ⟨rfl, rfl⟩
    ·
      refine TE.seq ?_
      refine TE.region ?_
      refine OL.pure (Pure.assign rfl) rfl ?_
      refine OL.nil ?_
      refine TE.seq ?_
      refine TE.region ?_
      refine OL.pure (Pure.move rfl) rfl ?_
      refine OL.pure (Pure.geq rfl rfl) rfl ?_
      refine OL.cast (.bool true) 6 rfl (congrArg Value.bool (decide_eq_true (by omega))) ?_
      refine OL.pure (Pure.move rfl) rfl ?_
      refine OL.want rfl rfl rfl (Pure.move rfl _) rfl ?_
      refine OL.want rfl rfl rfl (Pure.leq rfl rfl _) rfl ?_
      refine OL.cast (.bool false) 9 rfl (congrArg Value.bool (decide_eq_false (by omega))) ?_
      refine OL.pure (Pure.pickT rfl rfl) rfl ?_
      refine OL.pure (Pure.move rfl) rfl ?_
      refine OL.pass rfl rfl rfl rfl rfl ?_
      refine OL.pass rfl rfl rfl rfl rfl ?_
      refine OL.pure (Pure.pickF rfl rfl) rfl ?_
      refine OL.pure (Pure.move rfl) rfl ?_
      refine OL.pass rfl rfl rfl rfl rfl ?_
      refine OL.pass rfl rfl rfl rfl rfl ?_
      refine OL.pure (Pure.pickF rfl rfl) rfl ?_
      refine OL.pure (Pure.assign rfl) rfl ?_
      refine OL.nil ?_
      exact TE.ret (vs := [.bool (decide (inside s n))]) Tryd.results45 (⟨by rw [decide_eq_false (p := inside s n) (by unfold inside; omega)]; rfl, trivial⟩) ⟨rfl, rfl⟩
  ·
    refine TE.seq ?_
    refine TE.region ?_
    refine OL.pure (Pure.assign rfl) rfl ?_
    refine OL.nil ?_
    refine TE.seq ?_
    refine TE.region ?_
    refine OL.pure (Pure.move rfl) rfl ?_
    refine OL.pure (Pure.geq rfl rfl) rfl ?_
    refine OL.cast (.bool false) 6 rfl (congrArg Value.bool (decide_eq_false (by omega))) ?_
    refine OL.pure (Pure.move rfl) rfl ?_
    refine OL.pass rfl rfl rfl rfl rfl ?_
    refine OL.pass rfl rfl rfl rfl rfl ?_
    refine OL.pure (Pure.pickF rfl rfl) rfl ?_
    refine OL.pure (Pure.move rfl) rfl ?_
    refine OL.pass rfl rfl rfl rfl rfl ?_
    refine OL.pass rfl rfl rfl rfl rfl ?_
    refine OL.pure (Pure.pickF rfl rfl) rfl ?_
    refine OL.pure (Pure.move rfl) rfl ?_
    refine OL.pass rfl rfl rfl rfl rfl ?_
    refine OL.pass rfl rfl rfl rfl rfl ?_
    refine OL.pure (Pure.pickF rfl rfl) rfl ?_
    refine OL.pure (Pure.assign rfl) rfl ?_
    refine OL.nil ?_
    exact TE.ret (vs := [.bool (decide (inside s n))]) Tryd.results45 (⟨by rw [decide_eq_false (p := inside s n) (by unfold inside; omega)]; rfl, trivial⟩) ⟨rfl, rfl⟩

theorem fcheck_any (f : Fr) (hl : f.payload.length ≤ 4294967296) (w : World) : Calls Tryd.prog 26 #[.agg (f).cells.toArray] w (RetC (.int .i64 (check f)) w) := by
  refine calls_of_TE (vs := [.agg (f).cells.toArray]) Tryd.func26 Tryd.ntmps26 rfl (by simp) ?_
  have hC : Chg [] w w := Chg.refl _ _
  refine TE.seq ?_
  refine TE.region ?_
  refine OL.box rfl rfl ?_
  intro g1 w1 h1 hc1 hg_g1
  have ge_g1 : w.heap.size ≤ g1 := by have := hC.size; omega
  replace hC := hC.then_ hc1
  have h1 : Blk w1 g1 30 (f.cells) := h1
  by_cases hb0 : f.kind < 0
  ·
    have hchk : check f = 11 := by unfold check; rw [if_pos (by omega)]
    refine OL.pure (Pure.assign rfl) rfl ?_
    refine OL.nil ?_
    refine TE.seq ?_
    refine TE.seq ?_
    refine TE.region ?_
    refine OL.pure (Pure.fieldAddr (r := 0) Tryd.runUnderlying30 rfl Tryd.sizeOf3 rfl rfl) rfl ?_
    refine OL.val (Run.load (i := 0) rfl Tryd.isAgg3 h1 (by omega) rfl) rfl ?_
    refine OL.pure (Pure.lss rfl rfl) rfl ?_
    refine OL.cast (.bool true) 5 rfl (congrArg Value.bool (decide_eq_true (by omega))) ?_
    refine OL.pure (Pure.move rfl) rfl ?_
    refine OL.pass rfl rfl rfl rfl rfl ?_
    refine OL.pass rfl rfl rfl rfl rfl ?_
    refine OL.pass rfl rfl rfl rfl rfl ?_
    refine OL.pure (Pure.pickT rfl rfl) rfl ?_
    refine OL.nil ?_
    refine TE.condT rfl rfl ?_
    refine TE.seq ?_
    refine TE.region ?_
    refine OL.pure (Pure.assign rfl) rfl ?_
    refine OL.nil ?_
    exact TE.ret (vs := [.int .i64 (check f)]) Tryd.results26 (⟨by rw [hchk]; rfl, trivial⟩) ⟨rfl, hC⟩
  ·
    by_cases hb1 : 255 < f.kind
    ·
      have hchk : check f = 11 := by unfold check; rw [if_pos (by omega)]
      refine OL.pure (Pure.assign rfl) rfl ?_
      refine OL.nil ?_
      refine TE.seq ?_
      refine TE.seq ?_
      refine TE.region ?_
      refine OL.pure (Pure.fieldAddr (r := 0) Tryd.runUnderlying30 rfl Tryd.sizeOf3 rfl rfl) rfl ?_
      refine OL.val (Run.load (i := 0) rfl Tryd.isAgg3 h1 (by omega) rfl) rfl ?_
      refine OL.pure (Pure.lss rfl rfl) rfl ?_
      refine OL.cast (.bool false) 5 rfl (congrArg Value.bool (decide_eq_false (by omega))) ?_
      refine OL.pure (Pure.move rfl) rfl ?_
      refine OL.want rfl rfl rfl (Pure.fieldAddr (r := 0) Tryd.runUnderlying30 rfl Tryd.sizeOf3 rfl rfl _) rfl ?_
      refine OL.want rfl rfl rfl (Run.load (i := 0) rfl Tryd.isAgg3 h1 (by omega) rfl) rfl ?_
      refine OL.want rfl rfl rfl (Pure.gtr rfl rfl _) rfl ?_
      refine OL.cast (.bool true) 9 rfl (congrArg Value.bool (decide_eq_true (by omega))) ?_
      refine OL.pure (Pure.pickF rfl rfl) rfl ?_
      refine OL.nil ?_
      refine TE.condT rfl rfl ?_
      refine TE.seq ?_
      refine TE.region ?_
      refine OL.pure (Pure.assign rfl) rfl ?_
      refine OL.nil ?_
      exact TE.ret (vs := [.int .i64 (check f)]) Tryd.results26 (⟨by rw [hchk]; rfl, trivial⟩) ⟨rfl, hC⟩
    ·
      by_cases hb2 : inside f.stream f.number
      ·
        by_cases hb3 : 262144 < f.payload.length
        ·
          refine OL.pure (Pure.assign rfl) rfl ?_
          refine OL.nil ?_
          refine TE.seq ?_
          refine TE.seq ?_
          refine TE.region ?_
          refine OL.pure (Pure.fieldAddr (r := 0) Tryd.runUnderlying30 rfl Tryd.sizeOf3 rfl rfl) rfl ?_
          refine OL.val (Run.load (i := 0) rfl Tryd.isAgg3 h1 (by omega) rfl) rfl ?_
          refine OL.pure (Pure.lss rfl rfl) rfl ?_
          refine OL.cast (.bool false) 5 rfl (congrArg Value.bool (decide_eq_false (by omega))) ?_
          refine OL.pure (Pure.move rfl) rfl ?_
          refine OL.want rfl rfl rfl (Pure.fieldAddr (r := 0) Tryd.runUnderlying30 rfl Tryd.sizeOf3 rfl rfl _) rfl ?_
          refine OL.want rfl rfl rfl (Run.load (i := 0) rfl Tryd.isAgg3 h1 (by omega) rfl) rfl ?_
          refine OL.want rfl rfl rfl (Pure.gtr rfl rfl _) rfl ?_
          refine OL.cast (.bool false) 9 rfl (congrArg Value.bool (decide_eq_false (by omega))) ?_
          refine OL.pure (Pure.pickF rfl rfl) rfl ?_
          refine OL.nil ?_
          refine TE.condF rfl rfl ?_
          refine TE.skip ?_
          refine TE.seq ?_
          refine TE.seq ?_
          refine TE.region ?_
          refine OL.pure (Pure.fieldAddr (r := 1) Tryd.runUnderlying30 rfl Tryd.sizeOf3 rfl rfl) rfl ?_
          refine OL.val (Run.load (i := 1) rfl Tryd.isAgg3 h1 (by omega) rfl) rfl ?_
          refine OL.pure (Pure.fieldAddr (r := 2) Tryd.runUnderlying30 rfl Tryd.sizeOf3 rfl rfl) rfl ?_
          refine OL.val (Run.load (i := 2) rfl Tryd.isAgg3 h1 (by omega) rfl) rfl ?_
          refine OL.call rfl Tryd.call45 rfl (inside_any _ _ _) ?_
          rintro _ _ ⟨rfl, rfl⟩
          refine ⟨_, rfl, ?_⟩
          refine OL.cast (.bool true) 15 rfl (congrArg Value.bool (decide_eq_true hb2)) ?_
          have hchk : check f = 5 := by unfold check; rw [if_neg (by omega), if_neg (fun h => h hb2), if_pos (by omega)]
          refine OL.pure (Pure.not rfl) rfl ?_
          refine OL.nil ?_
          refine TE.condF rfl rfl ?_
          refine TE.skip ?_
          refine TE.seq ?_
          refine TE.seq ?_
          refine TE.region ?_
          refine OL.pure (Pure.fieldAddr (r := 3) Tryd.runUnderlying30 rfl Tryd.sizeOf9 rfl rfl) rfl ?_
          refine OL.val (Run.load (i := 3) rfl Tryd.isAgg9 h1 (by omega) rfl) rfl ?_
          refine OL.pure (Pure.lenStr Tryd.runUnderlying9 rfl) rfl ?_
          refine OL.pure (Pure.gtr rfl rfl) rfl ?_
          refine OL.cast (.bool true) 20 rfl (congrArg Value.bool (decide_eq_true (by omega))) ?_
          refine OL.nil ?_
          refine TE.condT rfl rfl ?_
          refine TE.seq ?_
          refine TE.region ?_
          refine OL.pure (Pure.assign rfl) rfl ?_
          refine OL.nil ?_
          exact TE.ret (vs := [.int .i64 (check f)]) Tryd.results26 (⟨by rw [hchk]; rfl, trivial⟩) ⟨rfl, hC⟩
        ·
          refine OL.pure (Pure.assign rfl) rfl ?_
          refine OL.nil ?_
          refine TE.seq ?_
          refine TE.seq ?_
          refine TE.region ?_
          refine OL.pure (Pure.fieldAddr (r := 0) Tryd.runUnderlying30 rfl Tryd.sizeOf3 rfl rfl) rfl ?_
          refine OL.val (Run.load (i := 0) rfl Tryd.isAgg3 h1 (by omega) rfl) rfl ?_
          refine OL.pure (Pure.lss rfl rfl) rfl ?_
          refine OL.cast (.bool false) 5 rfl (congrArg Value.bool (decide_eq_false (by omega))) ?_
          refine OL.pure (Pure.move rfl) rfl ?_
          refine OL.want rfl rfl rfl (Pure.fieldAddr (r := 0) Tryd.runUnderlying30 rfl Tryd.sizeOf3 rfl rfl _) rfl ?_
          refine OL.want rfl rfl rfl (Run.load (i := 0) rfl Tryd.isAgg3 h1 (by omega) rfl) rfl ?_
          refine OL.want rfl rfl rfl (Pure.gtr rfl rfl _) rfl ?_
          refine OL.cast (.bool false) 9 rfl (congrArg Value.bool (decide_eq_false (by omega))) ?_
          refine OL.pure (Pure.pickF rfl rfl) rfl ?_
          refine OL.nil ?_
          refine TE.condF rfl rfl ?_
          refine TE.skip ?_
          refine TE.seq ?_
          refine TE.seq ?_
          refine TE.region ?_
          refine OL.pure (Pure.fieldAddr (r := 1) Tryd.runUnderlying30 rfl Tryd.sizeOf3 rfl rfl) rfl ?_
          refine OL.val (Run.load (i := 1) rfl Tryd.isAgg3 h1 (by omega) rfl) rfl ?_
          refine OL.pure (Pure.fieldAddr (r := 2) Tryd.runUnderlying30 rfl Tryd.sizeOf3 rfl rfl) rfl ?_
          refine OL.val (Run.load (i := 2) rfl Tryd.isAgg3 h1 (by omega) rfl) rfl ?_
          refine OL.call rfl Tryd.call45 rfl (inside_any _ _ _) ?_
          rintro _ _ ⟨rfl, rfl⟩
          refine ⟨_, rfl, ?_⟩
          refine OL.cast (.bool true) 15 rfl (congrArg Value.bool (decide_eq_true hb2)) ?_
          have hchk : check f = 0 := by unfold check; rw [if_neg (by omega), if_neg (fun h => h hb2), if_neg (by omega)]
          refine OL.pure (Pure.not rfl) rfl ?_
          refine OL.nil ?_
          refine TE.condF rfl rfl ?_
          refine TE.skip ?_
          refine TE.seq ?_
          refine TE.seq ?_
          refine TE.region ?_
          refine OL.pure (Pure.fieldAddr (r := 3) Tryd.runUnderlying30 rfl Tryd.sizeOf9 rfl rfl) rfl ?_
          refine OL.val (Run.load (i := 3) rfl Tryd.isAgg9 h1 (by omega) rfl) rfl ?_
          refine OL.pure (Pure.lenStr Tryd.runUnderlying9 rfl) rfl ?_
          refine OL.pure (Pure.gtr rfl rfl) rfl ?_
          refine OL.cast (.bool false) 20 rfl (congrArg Value.bool (decide_eq_false (by omega))) ?_
          refine OL.nil ?_
          refine TE.condF rfl rfl ?_
          refine TE.skip ?_
          refine TE.seq ?_
          refine TE.region ?_
          refine OL.pure (Pure.assign rfl) rfl ?_
          refine OL.nil ?_
          exact TE.ret (vs := [.int .i64 (check f)]) Tryd.results26 (⟨by rw [hchk]; rfl, trivial⟩) ⟨rfl, hC⟩
      ·
        refine OL.pure (Pure.assign rfl) rfl ?_
        refine OL.nil ?_
        refine TE.seq ?_
        refine TE.seq ?_
        refine TE.region ?_
        refine OL.pure (Pure.fieldAddr (r := 0) Tryd.runUnderlying30 rfl Tryd.sizeOf3 rfl rfl) rfl ?_
        refine OL.val (Run.load (i := 0) rfl Tryd.isAgg3 h1 (by omega) rfl) rfl ?_
        refine OL.pure (Pure.lss rfl rfl) rfl ?_
        refine OL.cast (.bool false) 5 rfl (congrArg Value.bool (decide_eq_false (by omega))) ?_
        refine OL.pure (Pure.move rfl) rfl ?_
        refine OL.want rfl rfl rfl (Pure.fieldAddr (r := 0) Tryd.runUnderlying30 rfl Tryd.sizeOf3 rfl rfl _) rfl ?_
        refine OL.want rfl rfl rfl (Run.load (i := 0) rfl Tryd.isAgg3 h1 (by omega) rfl) rfl ?_
        refine OL.want rfl rfl rfl (Pure.gtr rfl rfl _) rfl ?_
        refine OL.cast (.bool false) 9 rfl (congrArg Value.bool (decide_eq_false (by omega))) ?_
        refine OL.pure (Pure.pickF rfl rfl) rfl ?_
        refine OL.nil ?_
        refine TE.condF rfl rfl ?_
        refine TE.skip ?_
        refine TE.seq ?_
        refine TE.seq ?_
        refine TE.region ?_
        refine OL.pure (Pure.fieldAddr (r := 1) Tryd.runUnderlying30 rfl Tryd.sizeOf3 rfl rfl) rfl ?_
        refine OL.val (Run.load (i := 1) rfl Tryd.isAgg3 h1 (by omega) rfl) rfl ?_
        refine OL.pure (Pure.fieldAddr (r := 2) Tryd.runUnderlying30 rfl Tryd.sizeOf3 rfl rfl) rfl ?_
        refine OL.val (Run.load (i := 2) rfl Tryd.isAgg3 h1 (by omega) rfl) rfl ?_
        refine OL.call rfl Tryd.call45 rfl (inside_any _ _ _) ?_
        rintro _ _ ⟨rfl, rfl⟩
        refine ⟨_, rfl, ?_⟩
        refine OL.cast (.bool false) 15 rfl (congrArg Value.bool (decide_eq_false hb2)) ?_
        have hchk : check f = 2 := by unfold check; rw [if_neg (by omega), if_pos hb2]
        refine OL.pure (Pure.not rfl) rfl ?_
        refine OL.nil ?_
        refine TE.condT rfl rfl ?_
        refine TE.seq ?_
        refine TE.region ?_
        refine OL.pure (Pure.assign rfl) rfl ?_
        refine OL.nil ?_
        exact TE.ret (vs := [.int .i64 (check f)]) Tryd.results26 (⟨by rw [hchk]; rfl, trivial⟩) ⟨rfl, hC⟩

theorem rcheck_any (f : Fr) (hl : f.payload.length ≤ 4294967296) (w : World) : Calls Tryd.prog 19 #[.agg (f).cells.toArray] w (RetC (.int .i64 (check f)) w) := by
  refine calls_of_TE (vs := [.agg (f).cells.toArray]) Tryd.func19 Tryd.ntmps19 rfl (by simp) ?_
  have hC : Chg [] w w := Chg.refl _ _
  refine TE.seq ?_
  refine TE.region ?_
  refine OL.box rfl rfl ?_
  intro g1 w1 h1 hc1 hg_g1
  have ge_g1 : w.heap.size ≤ g1 := by have := hC.size; omega
  replace hC := hC.then_ hc1
  have h1 : Blk w1 g1 34 (f.cells) := h1
  by_cases hb0 : f.kind < 0
  ·
    have hchk : check f = 11 := by unfold check; rw [if_pos (by omega)]
    refine OL.pure (Pure.assign rfl) rfl ?_
    refine OL.nil ?_
    refine TE.seq ?_
    refine TE.seq ?_
    refine TE.region ?_
    refine OL.pure (Pure.fieldAddr (r := 0) Tryd.runUnderlying34 rfl Tryd.sizeOf3 rfl rfl) rfl ?_
    refine OL.val (Run.load (i := 0) rfl Tryd.isAgg3 h1 (by omega) rfl) rfl ?_
    refine OL.pure (Pure.lss rfl rfl) rfl ?_
    refine OL.cast (.bool true) 5 rfl (congrArg Value.bool (decide_eq_true (by omega))) ?_
    refine OL.pure (Pure.move rfl) rfl ?_
    refine OL.pass rfl rfl rfl rfl rfl ?_
    refine OL.pass rfl rfl rfl rfl rfl ?_
    refine OL.pass rfl rfl rfl rfl rfl ?_
    refine OL.pure (Pure.pickT rfl rfl) rfl ?_
    refine OL.nil ?_
    refine TE.condT rfl rfl ?_
    refine TE.seq ?_
    refine TE.region ?_
    refine OL.pure (Pure.assign rfl) rfl ?_
    refine OL.nil ?_
    exact TE.ret (vs := [.int .i64 (check f)]) Tryd.results19 (⟨by rw [hchk]; rfl, trivial⟩) ⟨rfl, hC⟩
  ·
    by_cases hb1 : 255 < f.kind
    ·
      have hchk : check f = 11 := by unfold check; rw [if_pos (by omega)]
      refine OL.pure (Pure.assign rfl) rfl ?_
      refine OL.nil ?_
      refine TE.seq ?_
      refine TE.seq ?_
      refine TE.region ?_
      refine OL.pure (Pure.fieldAddr (r := 0) Tryd.runUnderlying34 rfl Tryd.sizeOf3 rfl rfl) rfl ?_
      refine OL.val (Run.load (i := 0) rfl Tryd.isAgg3 h1 (by omega) rfl) rfl ?_
      refine OL.pure (Pure.lss rfl rfl) rfl ?_
      refine OL.cast (.bool false) 5 rfl (congrArg Value.bool (decide_eq_false (by omega))) ?_
      refine OL.pure (Pure.move rfl) rfl ?_
      refine OL.want rfl rfl rfl (Pure.fieldAddr (r := 0) Tryd.runUnderlying34 rfl Tryd.sizeOf3 rfl rfl _) rfl ?_
      refine OL.want rfl rfl rfl (Run.load (i := 0) rfl Tryd.isAgg3 h1 (by omega) rfl) rfl ?_
      refine OL.want rfl rfl rfl (Pure.gtr rfl rfl _) rfl ?_
      refine OL.cast (.bool true) 9 rfl (congrArg Value.bool (decide_eq_true (by omega))) ?_
      refine OL.pure (Pure.pickF rfl rfl) rfl ?_
      refine OL.nil ?_
      refine TE.condT rfl rfl ?_
      refine TE.seq ?_
      refine TE.region ?_
      refine OL.pure (Pure.assign rfl) rfl ?_
      refine OL.nil ?_
      exact TE.ret (vs := [.int .i64 (check f)]) Tryd.results19 (⟨by rw [hchk]; rfl, trivial⟩) ⟨rfl, hC⟩
    ·
      by_cases hb2 : f.stream < 0
      ·
        have hchk : check f = 2 := by unfold check; rw [if_neg (by omega), if_pos (fun h => by unfold inside at h; omega)]
        refine OL.pure (Pure.assign rfl) rfl ?_
        refine OL.nil ?_
        refine TE.seq ?_
        refine TE.seq ?_
        refine TE.region ?_
        refine OL.pure (Pure.fieldAddr (r := 0) Tryd.runUnderlying34 rfl Tryd.sizeOf3 rfl rfl) rfl ?_
        refine OL.val (Run.load (i := 0) rfl Tryd.isAgg3 h1 (by omega) rfl) rfl ?_
        refine OL.pure (Pure.lss rfl rfl) rfl ?_
        refine OL.cast (.bool false) 5 rfl (congrArg Value.bool (decide_eq_false (by omega))) ?_
        refine OL.pure (Pure.move rfl) rfl ?_
        refine OL.want rfl rfl rfl (Pure.fieldAddr (r := 0) Tryd.runUnderlying34 rfl Tryd.sizeOf3 rfl rfl _) rfl ?_
        refine OL.want rfl rfl rfl (Run.load (i := 0) rfl Tryd.isAgg3 h1 (by omega) rfl) rfl ?_
        refine OL.want rfl rfl rfl (Pure.gtr rfl rfl _) rfl ?_
        refine OL.cast (.bool false) 9 rfl (congrArg Value.bool (decide_eq_false (by omega))) ?_
        refine OL.pure (Pure.pickF rfl rfl) rfl ?_
        refine OL.nil ?_
        refine TE.condF rfl rfl ?_
        refine TE.skip ?_
        refine TE.seq ?_
        refine TE.seq ?_
        refine TE.region ?_
        refine OL.pure (Pure.fieldAddr (r := 1) Tryd.runUnderlying34 rfl Tryd.sizeOf3 rfl rfl) rfl ?_
        refine OL.val (Run.load (i := 1) rfl Tryd.isAgg3 h1 (by omega) rfl) rfl ?_
        refine OL.pure (Pure.lss rfl rfl) rfl ?_
        refine OL.cast (.bool true) 13 rfl (congrArg Value.bool (decide_eq_true (by omega))) ?_
        refine OL.pure (Pure.move rfl) rfl ?_
        refine OL.pass rfl rfl rfl rfl rfl ?_
        refine OL.pass rfl rfl rfl rfl rfl ?_
        refine OL.pass rfl rfl rfl rfl rfl ?_
        refine OL.pure (Pure.pickT rfl rfl) rfl ?_
        refine OL.pure (Pure.move rfl) rfl ?_
        refine OL.pass rfl rfl rfl rfl rfl ?_
        refine OL.pass rfl rfl rfl rfl rfl ?_
        refine OL.pass rfl rfl rfl rfl rfl ?_
        refine OL.pure (Pure.pickT rfl rfl) rfl ?_
        refine OL.pure (Pure.move rfl) rfl ?_
        refine OL.pass rfl rfl rfl rfl rfl ?_
        refine OL.pass rfl rfl rfl rfl rfl ?_
        refine OL.pass rfl rfl rfl rfl rfl ?_
        refine OL.pure (Pure.pickT rfl rfl) rfl ?_
        refine OL.nil ?_
        refine TE.condT rfl rfl ?_
        refine TE.seq ?_
        refine TE.region ?_
        refine OL.pure (Pure.assign rfl) rfl ?_
        refine OL.nil ?_
        exact TE.ret (vs := [.int .i64 (check f)]) Tryd.results19 (⟨by rw [hchk]; rfl, trivial⟩) ⟨rfl, hC⟩
      ·
        by_cases hb3 : 2147483647 < f.stream
        ·
          have hchk : check f = 2 := by unfold check; rw [if_neg (by omega), if_pos (fun h => by unfold inside at h; omega)]
          refine OL.pure (Pure.assign rfl) rfl ?_
          refine OL.nil ?_
          refine TE.seq ?_
          refine TE.seq ?_
          refine TE.region ?_
          refine OL.pure (Pure.fieldAddr (r := 0) Tryd.runUnderlying34 rfl Tryd.sizeOf3 rfl rfl) rfl ?_
          refine OL.val (Run.load (i := 0) rfl Tryd.isAgg3 h1 (by omega) rfl) rfl ?_
          refine OL.pure (Pure.lss rfl rfl) rfl ?_
          refine OL.cast (.bool false) 5 rfl (congrArg Value.bool (decide_eq_false (by omega))) ?_
          refine OL.pure (Pure.move rfl) rfl ?_
          refine OL.want rfl rfl rfl (Pure.fieldAddr (r := 0) Tryd.runUnderlying34 rfl Tryd.sizeOf3 rfl rfl _) rfl ?_
          refine OL.want rfl rfl rfl (Run.load (i := 0) rfl Tryd.isAgg3 h1 (by omega) rfl) rfl ?_
          refine OL.want rfl rfl rfl (Pure.gtr rfl rfl _) rfl ?_
          refine OL.cast (.bool false) 9 rfl (congrArg Value.bool (decide_eq_false (by omega))) ?_
          refine OL.pure (Pure.pickF rfl rfl) rfl ?_
          refine OL.nil ?_
          refine TE.condF rfl rfl ?_
          refine TE.skip ?_
          refine TE.seq ?_
          refine TE.seq ?_
          refine TE.region ?_
          refine OL.pure (Pure.fieldAddr (r := 1) Tryd.runUnderlying34 rfl Tryd.sizeOf3 rfl rfl) rfl ?_
          refine OL.val (Run.load (i := 1) rfl Tryd.isAgg3 h1 (by omega) rfl) rfl ?_
          refine OL.pure (Pure.lss rfl rfl) rfl ?_
          refine OL.cast (.bool false) 13 rfl (congrArg Value.bool (decide_eq_false (by omega))) ?_
          refine OL.pure (Pure.move rfl) rfl ?_
          refine OL.want rfl rfl rfl (Pure.fieldAddr (r := 1) Tryd.runUnderlying34 rfl Tryd.sizeOf3 rfl rfl _) rfl ?_
          refine OL.want rfl rfl rfl (Run.load (i := 1) rfl Tryd.isAgg3 h1 (by omega) rfl) rfl ?_
          refine OL.want rfl rfl rfl (Pure.gtr rfl rfl _) rfl ?_
          refine OL.cast (.bool true) 17 rfl (congrArg Value.bool (decide_eq_true (by omega))) ?_
          refine OL.pure (Pure.pickF rfl rfl) rfl ?_
          refine OL.pure (Pure.move rfl) rfl ?_
          refine OL.pass rfl rfl rfl rfl rfl ?_
          refine OL.pass rfl rfl rfl rfl rfl ?_
          refine OL.pass rfl rfl rfl rfl rfl ?_
          refine OL.pure (Pure.pickT rfl rfl) rfl ?_
          refine OL.pure (Pure.move rfl) rfl ?_
          refine OL.pass rfl rfl rfl rfl rfl ?_
          refine OL.pass rfl rfl rfl rfl rfl ?_
          refine OL.pass rfl rfl rfl rfl rfl ?_
          refine OL.pure (Pure.pickT rfl rfl) rfl ?_
          refine OL.nil ?_
          refine TE.condT rfl rfl ?_
          refine TE.seq ?_
          refine TE.region ?_
          refine OL.pure (Pure.assign rfl) rfl ?_
          refine OL.nil ?_
          exact TE.ret (vs := [.int .i64 (check f)]) Tryd.results19 (⟨by rw [hchk]; rfl, trivial⟩) ⟨rfl, hC⟩
        ·
          by_cases hb4 : f.number < 0
          ·
            have hchk : check f = 2 := by unfold check; rw [if_neg (by omega), if_pos (fun h => by unfold inside at h; omega)]
            refine OL.pure (Pure.assign rfl) rfl ?_
            refine OL.nil ?_
            refine TE.seq ?_
            refine TE.seq ?_
            refine TE.region ?_
            refine OL.pure (Pure.fieldAddr (r := 0) Tryd.runUnderlying34 rfl Tryd.sizeOf3 rfl rfl) rfl ?_
            refine OL.val (Run.load (i := 0) rfl Tryd.isAgg3 h1 (by omega) rfl) rfl ?_
            refine OL.pure (Pure.lss rfl rfl) rfl ?_
            refine OL.cast (.bool false) 5 rfl (congrArg Value.bool (decide_eq_false (by omega))) ?_
            refine OL.pure (Pure.move rfl) rfl ?_
            refine OL.want rfl rfl rfl (Pure.fieldAddr (r := 0) Tryd.runUnderlying34 rfl Tryd.sizeOf3 rfl rfl _) rfl ?_
            refine OL.want rfl rfl rfl (Run.load (i := 0) rfl Tryd.isAgg3 h1 (by omega) rfl) rfl ?_
            refine OL.want rfl rfl rfl (Pure.gtr rfl rfl _) rfl ?_
            refine OL.cast (.bool false) 9 rfl (congrArg Value.bool (decide_eq_false (by omega))) ?_
            refine OL.pure (Pure.pickF rfl rfl) rfl ?_
            refine OL.nil ?_
            refine TE.condF rfl rfl ?_
            refine TE.skip ?_
            refine TE.seq ?_
            refine TE.seq ?_
            refine TE.region ?_
            refine OL.pure (Pure.fieldAddr (r := 1) Tryd.runUnderlying34 rfl Tryd.sizeOf3 rfl rfl) rfl ?_
            refine OL.val (Run.load (i := 1) rfl Tryd.isAgg3 h1 (by omega) rfl) rfl ?_
            refine OL.pure (Pure.lss rfl rfl) rfl ?_
            refine OL.cast (.bool false) 13 rfl (congrArg Value.bool (decide_eq_false (by omega))) ?_
            refine OL.pure (Pure.move rfl) rfl ?_
            refine OL.want rfl rfl rfl (Pure.fieldAddr (r := 1) Tryd.runUnderlying34 rfl Tryd.sizeOf3 rfl rfl _) rfl ?_
            refine OL.want rfl rfl rfl (Run.load (i := 1) rfl Tryd.isAgg3 h1 (by omega) rfl) rfl ?_
            refine OL.want rfl rfl rfl (Pure.gtr rfl rfl _) rfl ?_
            refine OL.cast (.bool false) 17 rfl (congrArg Value.bool (decide_eq_false (by omega))) ?_
            refine OL.pure (Pure.pickF rfl rfl) rfl ?_
            refine OL.pure (Pure.move rfl) rfl ?_
            refine OL.want rfl rfl rfl (Pure.fieldAddr (r := 2) Tryd.runUnderlying34 rfl Tryd.sizeOf3 rfl rfl _) rfl ?_
            refine OL.want rfl rfl rfl (Run.load (i := 2) rfl Tryd.isAgg3 h1 (by omega) rfl) rfl ?_
            refine OL.want rfl rfl rfl (Pure.lss rfl rfl _) rfl ?_
            refine OL.cast (.bool true) 22 rfl (congrArg Value.bool (decide_eq_true (by omega))) ?_
            refine OL.pure (Pure.pickF rfl rfl) rfl ?_
            refine OL.pure (Pure.move rfl) rfl ?_
            refine OL.pass rfl rfl rfl rfl rfl ?_
            refine OL.pass rfl rfl rfl rfl rfl ?_
            refine OL.pass rfl rfl rfl rfl rfl ?_
            refine OL.pure (Pure.pickT rfl rfl) rfl ?_
            refine OL.nil ?_
            refine TE.condT rfl rfl ?_
            refine TE.seq ?_
            refine TE.region ?_
            refine OL.pure (Pure.assign rfl) rfl ?_
            refine OL.nil ?_
            exact TE.ret (vs := [.int .i64 (check f)]) Tryd.results19 (⟨by rw [hchk]; rfl, trivial⟩) ⟨rfl, hC⟩
          ·
            by_cases hb5 : 1099511627775 < f.number
            ·
              have hchk : check f = 2 := by unfold check; rw [if_neg (by omega), if_pos (fun h => by unfold inside at h; omega)]
              refine OL.pure (Pure.assign rfl) rfl ?_
              refine OL.nil ?_
              refine TE.seq ?_
              refine TE.seq ?_
              refine TE.region ?_
              refine OL.pure (Pure.fieldAddr (r := 0) Tryd.runUnderlying34 rfl Tryd.sizeOf3 rfl rfl) rfl ?_
              refine OL.val (Run.load (i := 0) rfl Tryd.isAgg3 h1 (by omega) rfl) rfl ?_
              refine OL.pure (Pure.lss rfl rfl) rfl ?_
              refine OL.cast (.bool false) 5 rfl (congrArg Value.bool (decide_eq_false (by omega))) ?_
              refine OL.pure (Pure.move rfl) rfl ?_
              refine OL.want rfl rfl rfl (Pure.fieldAddr (r := 0) Tryd.runUnderlying34 rfl Tryd.sizeOf3 rfl rfl _) rfl ?_
              refine OL.want rfl rfl rfl (Run.load (i := 0) rfl Tryd.isAgg3 h1 (by omega) rfl) rfl ?_
              refine OL.want rfl rfl rfl (Pure.gtr rfl rfl _) rfl ?_
              refine OL.cast (.bool false) 9 rfl (congrArg Value.bool (decide_eq_false (by omega))) ?_
              refine OL.pure (Pure.pickF rfl rfl) rfl ?_
              refine OL.nil ?_
              refine TE.condF rfl rfl ?_
              refine TE.skip ?_
              refine TE.seq ?_
              refine TE.seq ?_
              refine TE.region ?_
              refine OL.pure (Pure.fieldAddr (r := 1) Tryd.runUnderlying34 rfl Tryd.sizeOf3 rfl rfl) rfl ?_
              refine OL.val (Run.load (i := 1) rfl Tryd.isAgg3 h1 (by omega) rfl) rfl ?_
              refine OL.pure (Pure.lss rfl rfl) rfl ?_
              refine OL.cast (.bool false) 13 rfl (congrArg Value.bool (decide_eq_false (by omega))) ?_
              refine OL.pure (Pure.move rfl) rfl ?_
              refine OL.want rfl rfl rfl (Pure.fieldAddr (r := 1) Tryd.runUnderlying34 rfl Tryd.sizeOf3 rfl rfl _) rfl ?_
              refine OL.want rfl rfl rfl (Run.load (i := 1) rfl Tryd.isAgg3 h1 (by omega) rfl) rfl ?_
              refine OL.want rfl rfl rfl (Pure.gtr rfl rfl _) rfl ?_
              refine OL.cast (.bool false) 17 rfl (congrArg Value.bool (decide_eq_false (by omega))) ?_
              refine OL.pure (Pure.pickF rfl rfl) rfl ?_
              refine OL.pure (Pure.move rfl) rfl ?_
              refine OL.want rfl rfl rfl (Pure.fieldAddr (r := 2) Tryd.runUnderlying34 rfl Tryd.sizeOf3 rfl rfl _) rfl ?_
              refine OL.want rfl rfl rfl (Run.load (i := 2) rfl Tryd.isAgg3 h1 (by omega) rfl) rfl ?_
              refine OL.want rfl rfl rfl (Pure.lss rfl rfl _) rfl ?_
              refine OL.cast (.bool false) 22 rfl (congrArg Value.bool (decide_eq_false (by omega))) ?_
              refine OL.pure (Pure.pickF rfl rfl) rfl ?_
              refine OL.pure (Pure.move rfl) rfl ?_
              refine OL.want rfl rfl rfl (Pure.fieldAddr (r := 2) Tryd.runUnderlying34 rfl Tryd.sizeOf3 rfl rfl _) rfl ?_
              refine OL.want rfl rfl rfl (Run.load (i := 2) rfl Tryd.isAgg3 h1 (by omega) rfl) rfl ?_
              refine OL.want rfl rfl rfl (Pure.gtr rfl rfl _) rfl ?_
              refine OL.cast (.bool true) 27 rfl (congrArg Value.bool (decide_eq_true (by omega))) ?_
              refine OL.pure (Pure.pickF rfl rfl) rfl ?_
              refine OL.nil ?_
              refine TE.condT rfl rfl ?_
              refine TE.seq ?_
              refine TE.region ?_
              refine OL.pure (Pure.assign rfl) rfl ?_
              refine OL.nil ?_
              exact TE.ret (vs := [.int .i64 (check f)]) Tryd.results19 (⟨by rw [hchk]; rfl, trivial⟩) ⟨rfl, hC⟩
            ·
              by_cases hb6 : 262144 < f.payload.length
              ·
                have hchk : check f = 5 := by unfold check; rw [if_neg (by omega), if_neg (fun h => h (by unfold inside; omega)), if_pos (by omega)]
                refine OL.pure (Pure.assign rfl) rfl ?_
                refine OL.nil ?_
                refine TE.seq ?_
                refine TE.seq ?_
                refine TE.region ?_
                refine OL.pure (Pure.fieldAddr (r := 0) Tryd.runUnderlying34 rfl Tryd.sizeOf3 rfl rfl) rfl ?_
                refine OL.val (Run.load (i := 0) rfl Tryd.isAgg3 h1 (by omega) rfl) rfl ?_
                refine OL.pure (Pure.lss rfl rfl) rfl ?_
                refine OL.cast (.bool false) 5 rfl (congrArg Value.bool (decide_eq_false (by omega))) ?_
                refine OL.pure (Pure.move rfl) rfl ?_
                refine OL.want rfl rfl rfl (Pure.fieldAddr (r := 0) Tryd.runUnderlying34 rfl Tryd.sizeOf3 rfl rfl _) rfl ?_
                refine OL.want rfl rfl rfl (Run.load (i := 0) rfl Tryd.isAgg3 h1 (by omega) rfl) rfl ?_
                refine OL.want rfl rfl rfl (Pure.gtr rfl rfl _) rfl ?_
                refine OL.cast (.bool false) 9 rfl (congrArg Value.bool (decide_eq_false (by omega))) ?_
                refine OL.pure (Pure.pickF rfl rfl) rfl ?_
                refine OL.nil ?_
                refine TE.condF rfl rfl ?_
                refine TE.skip ?_
                refine TE.seq ?_
                refine TE.seq ?_
                refine TE.region ?_
                refine OL.pure (Pure.fieldAddr (r := 1) Tryd.runUnderlying34 rfl Tryd.sizeOf3 rfl rfl) rfl ?_
                refine OL.val (Run.load (i := 1) rfl Tryd.isAgg3 h1 (by omega) rfl) rfl ?_
                refine OL.pure (Pure.lss rfl rfl) rfl ?_
                refine OL.cast (.bool false) 13 rfl (congrArg Value.bool (decide_eq_false (by omega))) ?_
                refine OL.pure (Pure.move rfl) rfl ?_
                refine OL.want rfl rfl rfl (Pure.fieldAddr (r := 1) Tryd.runUnderlying34 rfl Tryd.sizeOf3 rfl rfl _) rfl ?_
                refine OL.want rfl rfl rfl (Run.load (i := 1) rfl Tryd.isAgg3 h1 (by omega) rfl) rfl ?_
                refine OL.want rfl rfl rfl (Pure.gtr rfl rfl _) rfl ?_
                refine OL.cast (.bool false) 17 rfl (congrArg Value.bool (decide_eq_false (by omega))) ?_
                refine OL.pure (Pure.pickF rfl rfl) rfl ?_
                refine OL.pure (Pure.move rfl) rfl ?_
                refine OL.want rfl rfl rfl (Pure.fieldAddr (r := 2) Tryd.runUnderlying34 rfl Tryd.sizeOf3 rfl rfl _) rfl ?_
                refine OL.want rfl rfl rfl (Run.load (i := 2) rfl Tryd.isAgg3 h1 (by omega) rfl) rfl ?_
                refine OL.want rfl rfl rfl (Pure.lss rfl rfl _) rfl ?_
                refine OL.cast (.bool false) 22 rfl (congrArg Value.bool (decide_eq_false (by omega))) ?_
                refine OL.pure (Pure.pickF rfl rfl) rfl ?_
                refine OL.pure (Pure.move rfl) rfl ?_
                refine OL.want rfl rfl rfl (Pure.fieldAddr (r := 2) Tryd.runUnderlying34 rfl Tryd.sizeOf3 rfl rfl _) rfl ?_
                refine OL.want rfl rfl rfl (Run.load (i := 2) rfl Tryd.isAgg3 h1 (by omega) rfl) rfl ?_
                refine OL.want rfl rfl rfl (Pure.gtr rfl rfl _) rfl ?_
                refine OL.cast (.bool false) 27 rfl (congrArg Value.bool (decide_eq_false (by omega))) ?_
                refine OL.pure (Pure.pickF rfl rfl) rfl ?_
                refine OL.nil ?_
                refine TE.condF rfl rfl ?_
                refine TE.skip ?_
                refine TE.seq ?_
                refine TE.seq ?_
                refine TE.region ?_
                refine OL.pure (Pure.fieldAddr (r := 3) Tryd.runUnderlying34 rfl Tryd.sizeOf9 rfl rfl) rfl ?_
                refine OL.val (Run.load (i := 3) rfl Tryd.isAgg9 h1 (by omega) rfl) rfl ?_
                refine OL.pure (Pure.lenStr Tryd.runUnderlying9 rfl) rfl ?_
                refine OL.pure (Pure.gtr rfl rfl) rfl ?_
                refine OL.cast (.bool true) 32 rfl (congrArg Value.bool (decide_eq_true (by omega))) ?_
                refine OL.nil ?_
                refine TE.condT rfl rfl ?_
                refine TE.seq ?_
                refine TE.region ?_
                refine OL.pure (Pure.assign rfl) rfl ?_
                refine OL.nil ?_
                exact TE.ret (vs := [.int .i64 (check f)]) Tryd.results19 (⟨by rw [hchk]; rfl, trivial⟩) ⟨rfl, hC⟩
              ·
                have hchk : check f = 0 := by unfold check; rw [if_neg (by omega), if_neg (fun h => h (by unfold inside; omega)), if_neg (by omega)]
                refine OL.pure (Pure.assign rfl) rfl ?_
                refine OL.nil ?_
                refine TE.seq ?_
                refine TE.seq ?_
                refine TE.region ?_
                refine OL.pure (Pure.fieldAddr (r := 0) Tryd.runUnderlying34 rfl Tryd.sizeOf3 rfl rfl) rfl ?_
                refine OL.val (Run.load (i := 0) rfl Tryd.isAgg3 h1 (by omega) rfl) rfl ?_
                refine OL.pure (Pure.lss rfl rfl) rfl ?_
                refine OL.cast (.bool false) 5 rfl (congrArg Value.bool (decide_eq_false (by omega))) ?_
                refine OL.pure (Pure.move rfl) rfl ?_
                refine OL.want rfl rfl rfl (Pure.fieldAddr (r := 0) Tryd.runUnderlying34 rfl Tryd.sizeOf3 rfl rfl _) rfl ?_
                refine OL.want rfl rfl rfl (Run.load (i := 0) rfl Tryd.isAgg3 h1 (by omega) rfl) rfl ?_
                refine OL.want rfl rfl rfl (Pure.gtr rfl rfl _) rfl ?_
                refine OL.cast (.bool false) 9 rfl (congrArg Value.bool (decide_eq_false (by omega))) ?_
                refine OL.pure (Pure.pickF rfl rfl) rfl ?_
                refine OL.nil ?_
                refine TE.condF rfl rfl ?_
                refine TE.skip ?_
                refine TE.seq ?_
                refine TE.seq ?_
                refine TE.region ?_
                refine OL.pure (Pure.fieldAddr (r := 1) Tryd.runUnderlying34 rfl Tryd.sizeOf3 rfl rfl) rfl ?_
                refine OL.val (Run.load (i := 1) rfl Tryd.isAgg3 h1 (by omega) rfl) rfl ?_
                refine OL.pure (Pure.lss rfl rfl) rfl ?_
                refine OL.cast (.bool false) 13 rfl (congrArg Value.bool (decide_eq_false (by omega))) ?_
                refine OL.pure (Pure.move rfl) rfl ?_
                refine OL.want rfl rfl rfl (Pure.fieldAddr (r := 1) Tryd.runUnderlying34 rfl Tryd.sizeOf3 rfl rfl _) rfl ?_
                refine OL.want rfl rfl rfl (Run.load (i := 1) rfl Tryd.isAgg3 h1 (by omega) rfl) rfl ?_
                refine OL.want rfl rfl rfl (Pure.gtr rfl rfl _) rfl ?_
                refine OL.cast (.bool false) 17 rfl (congrArg Value.bool (decide_eq_false (by omega))) ?_
                refine OL.pure (Pure.pickF rfl rfl) rfl ?_
                refine OL.pure (Pure.move rfl) rfl ?_
                refine OL.want rfl rfl rfl (Pure.fieldAddr (r := 2) Tryd.runUnderlying34 rfl Tryd.sizeOf3 rfl rfl _) rfl ?_
                refine OL.want rfl rfl rfl (Run.load (i := 2) rfl Tryd.isAgg3 h1 (by omega) rfl) rfl ?_
                refine OL.want rfl rfl rfl (Pure.lss rfl rfl _) rfl ?_
                refine OL.cast (.bool false) 22 rfl (congrArg Value.bool (decide_eq_false (by omega))) ?_
                refine OL.pure (Pure.pickF rfl rfl) rfl ?_
                refine OL.pure (Pure.move rfl) rfl ?_
                refine OL.want rfl rfl rfl (Pure.fieldAddr (r := 2) Tryd.runUnderlying34 rfl Tryd.sizeOf3 rfl rfl _) rfl ?_
                refine OL.want rfl rfl rfl (Run.load (i := 2) rfl Tryd.isAgg3 h1 (by omega) rfl) rfl ?_
                refine OL.want rfl rfl rfl (Pure.gtr rfl rfl _) rfl ?_
                refine OL.cast (.bool false) 27 rfl (congrArg Value.bool (decide_eq_false (by omega))) ?_
                refine OL.pure (Pure.pickF rfl rfl) rfl ?_
                refine OL.nil ?_
                refine TE.condF rfl rfl ?_
                refine TE.skip ?_
                refine TE.seq ?_
                refine TE.seq ?_
                refine TE.region ?_
                refine OL.pure (Pure.fieldAddr (r := 3) Tryd.runUnderlying34 rfl Tryd.sizeOf9 rfl rfl) rfl ?_
                refine OL.val (Run.load (i := 3) rfl Tryd.isAgg9 h1 (by omega) rfl) rfl ?_
                refine OL.pure (Pure.lenStr Tryd.runUnderlying9 rfl) rfl ?_
                refine OL.pure (Pure.gtr rfl rfl) rfl ?_
                refine OL.cast (.bool false) 32 rfl (congrArg Value.bool (decide_eq_false (by omega))) ?_
                refine OL.nil ?_
                refine TE.condF rfl rfl ?_
                refine TE.skip ?_
                refine TE.seq ?_
                refine TE.region ?_
                refine OL.pure (Pure.assign rfl) rfl ?_
                refine OL.nil ?_
                exact TE.ret (vs := [.int .i64 (check f)]) Tryd.results19 (⟨by rw [hchk]; rfl, trivial⟩) ⟨rfl, hC⟩

theorem size_ok (n : Nat) (h : n ≤ 262144) (w : World) : Calls Tryd.prog 25 #[.int .i64 (n : Int)] w (Ret (.tuple #[.int .i64 (n + 42 : Int), .int .i64 0]) w) := by
  refine calls_of_TE (vs := [.int .i64 (n : Int)]) Tryd.func25 Tryd.ntmps25 rfl (by simp) ?_
  refine TE.seq ?_
  refine TE.region ?_
  refine OL.pure (Pure.assign rfl) rfl ?_
  refine OL.pure (Pure.assign rfl) rfl ?_
  refine OL.nil ?_
  refine TE.seq ?_
  refine TE.seq ?_
  refine TE.region ?_
  refine OL.pure (Pure.move rfl) rfl ?_
  refine OL.pure (Pure.lss rfl rfl) rfl ?_
  refine OL.cast (.bool false) 5 rfl (congrArg Value.bool (decide_eq_false (by omega))) ?_
  refine OL.pure (Pure.move rfl) rfl ?_
  refine OL.want rfl rfl rfl (Pure.move rfl _) rfl ?_
  refine OL.want rfl rfl rfl (Pure.gtr rfl rfl _) rfl ?_
  refine OL.cast (.bool false) 8 rfl (congrArg Value.bool (decide_eq_false (by omega))) ?_
  refine OL.pure (Pure.pickF rfl rfl) rfl ?_
  refine OL.nil ?_
  refine TE.condF rfl rfl ?_
  refine TE.skip ?_
  refine TE.seq ?_
  refine TE.region ?_
  refine OL.pure (Pure.move rfl) rfl ?_
  refine OL.pure (Pure.add rfl rfl (i64 (by omega) (by omega))) rfl ?_
  refine OL.pure (Pure.add rfl rfl (i64 (by omega) (by omega))) rfl ?_
  refine OL.cast (.int .i64 (n + 42 : Int)) 12 rfl (congrArg (Value.int .i64) (by omega)) ?_
  refine OL.pure (Pure.assign rfl) rfl ?_
  refine OL.pure (Pure.assign rfl) rfl ?_
  refine OL.nil ?_
  exact TE.ret (vs := [.int .i64 (n + 42 : Int), .int .i64 0]) Tryd.results25 (⟨rfl, rfl, trivial⟩) ⟨rfl, rfl⟩

theorem size_no (n : Int) (h : n < 0 ∨ 262144 < n) (w : World) : Calls Tryd.prog 25 #[.int .i64 n] w (Ret (.tuple #[.int .i64 0, .int .i64 2]) w) := by
  refine calls_of_TE (vs := [.int .i64 n]) Tryd.func25 Tryd.ntmps25 rfl (by simp) ?_
  by_cases hb0 : n < 0
  ·
    refine TE.seq ?_
    refine TE.region ?_
    refine OL.pure (Pure.assign rfl) rfl ?_
    refine OL.pure (Pure.assign rfl) rfl ?_
    refine OL.nil ?_
    refine TE.seq ?_
    refine TE.seq ?_
    refine TE.region ?_
    refine OL.pure (Pure.move rfl) rfl ?_
    refine OL.pure (Pure.lss rfl rfl) rfl ?_
    refine OL.cast (.bool true) 5 rfl (congrArg Value.bool (decide_eq_true (by omega))) ?_
    refine OL.pure (Pure.move rfl) rfl ?_
    refine OL.pass rfl rfl rfl rfl rfl ?_
    refine OL.pass rfl rfl rfl rfl rfl ?_
    refine OL.pure (Pure.pickT rfl rfl) rfl ?_
    refine OL.nil ?_
    refine TE.condT rfl rfl ?_
    refine TE.seq ?_
    refine TE.region ?_
    refine OL.pure (Pure.assign rfl) rfl ?_
    refine OL.pure (Pure.assign rfl) rfl ?_
    refine OL.nil ?_
    exact TE.ret (vs := [.int .i64 0, .int .i64 2]) Tryd.results25 (⟨rfl, rfl, trivial⟩) ⟨rfl, rfl⟩
  ·
    refine TE.seq ?_
    refine TE.region ?_
    refine OL.pure (Pure.assign rfl) rfl ?_
    refine OL.pure (Pure.assign rfl) rfl ?_
    refine OL.nil ?_
    refine TE.seq ?_
    refine TE.seq ?_
    refine TE.region ?_
    refine OL.pure (Pure.move rfl) rfl ?_
    refine OL.pure (Pure.lss rfl rfl) rfl ?_
    refine OL.cast (.bool false) 5 rfl (congrArg Value.bool (decide_eq_false (by omega))) ?_
    refine OL.pure (Pure.move rfl) rfl ?_
    refine OL.want rfl rfl rfl (Pure.move rfl _) rfl ?_
    refine OL.want rfl rfl rfl (Pure.gtr rfl rfl _) rfl ?_
    refine OL.cast (.bool true) 8 rfl (congrArg Value.bool (decide_eq_true (by omega))) ?_
    refine OL.pure (Pure.pickF rfl rfl) rfl ?_
    refine OL.nil ?_
    refine TE.condT rfl rfl ?_
    refine TE.seq ?_
    refine TE.region ?_
    refine OL.pure (Pure.assign rfl) rfl ?_
    refine OL.pure (Pure.assign rfl) rfl ?_
    refine OL.nil ?_
    exact TE.ret (vs := [.int .i64 0, .int .i64 2]) Tryd.results25 (⟨rfl, rfl, trivial⟩) ⟨rfl, rfl⟩

theorem big_any (n k : Nat) (hn : n < 9223372036854775808) (hk : k ≤ 8) (w : World) : Calls Tryd.prog 49 #[.int .i64 (n : Int), .int .i64 (k : Int)] w (RetC (.string (str (beN k n))) w) := by
  refine calls_of_TE (vs := [.int .i64 (n : Int), .int .i64 (k : Int)]) Tryd.func49 Tryd.ntmps49 rfl (by simp) ?_
  have hC : Chg [] w w := Chg.refl _ _
  refine TE.seq ?_
  refine TE.region ?_
  refine OL.pure (Pure.assign rfl) rfl ?_
  refine OL.nil ?_
  refine TE.seq ?_
  refine TE.region ?_
  refine OL.pure (Pure.assign rfl) rfl ?_
  refine OL.nil ?_
  refine TE.seq ?_
  refine TE.seq ?_
  refine TE.region ?_
  refine OL.pure (Pure.move rfl) rfl ?_
  refine OL.pure (Pure.sub rfl rfl (i64 (by omega) (by omega))) rfl ?_
  refine OL.pure (Pure.assign rfl) rfl ?_
  refine OL.nil ?_
  refine TE.block ?_
  refine TE.cast (.int .i64 ((k : Int) - 1 - ((0 : Nat) : Int))) 6 rfl (congrArg (Value.int .i64) (by omega)) ?_
  refine TE.loopInv (σ := Nat × Value) [0, 5, 6] (fun s_ w_ => match s_ with | (j, v) => j ≤ k ∧ Row w_ 5 1 v j (bv ((beN k n).take j)) ∧ Mine w.heap.size v ∧ Chg [] w w_) (fun s_ => [(0, .int .i64 (↑n)), (5, s_.2), (6, .int .i64 ((k : Int) - 1 - (s_.1 : Int)))]) (fun s_ => k - s_.1) (0, .slice none 0 0) ⟨by omega, Row.nil _ _ _, Mine.nil _, hC⟩ rfl ?_
  rintro ⟨j, v⟩ w1 ⟨hj, hv, hm_v, hC⟩ ih1
  try dsimp only
  refine TE.seq ?_
  refine TE.seq ?_
  refine TE.region ?_
  refine OL.pure (Pure.move rfl) rfl ?_
  refine OL.pure (Pure.geq rfl rfl) rfl ?_
  refine OL.nil ?_
  refine TE.ite rfl (fun hge => ?_) (fun hge => ?_)
  ·
    have hjk : j < k := by omega
    refine TE.skip ?_
    refine TE.seq ?_
    refine TE.block ?_
    refine TE.region ?_
    refine OL.pure (Pure.move rfl) rfl ?_
    refine OL.pure (Pure.move rfl) rfl ?_
    refine OL.pure (Pure.move rfl) rfl ?_
    refine OL.pure (Pure.mul rfl rfl (i64 (by omega) (by omega))) rfl ?_
    refine OL.pure (Pure.shr (p := 2 ^ (8 * (k - 1 - j))) rfl rfl (by omega) (by congr 1; simp [IntKind.bits]; omega)) rfl ?_
    refine OL.pure (Pure.conv Tryd.runUnderlying3 Tryd.runUnderlying5 rfl (u8w _)) rfl ?_
    refine OL.cast (.int .u8 (((UInt8.ofNat (n / 2 ^ (8 * (k - 1 - j)))).toNat : Nat) : Int)) 18 rfl (by rw [← u8nat]; push_cast; rfl) ?_
    refine OL.buildSlice (cs := [.int .u8 (((UInt8.ofNat (n / 2 ^ (8 * (k - 1 - j)))).toNat : Nat) : Int)]) rfl Tryd.runUnderlying24 Tryd.sizeOf5 Tryd.zeroValue5 (by decide) (by decide) (by kernel_rfl) rfl ?_
    intro q w2 hq hc2 hg_q
    have ge_q : w.heap.size ≤ q := by have := hC.size; omega
    replace hv := hv.chg0 hc2
    replace hC := hC.then_ hc2
    refine OL.append (size := 1) (news := [.int .u8 (((UInt8.ofNat (n / 2 ^ (8 * (k - 1 - j)))).toNat : Nat) : Int)]) (v := v) rfl rfl Tryd.underlying24 (.inl Tryd.underlying24) info5 rfl rfl rfl (by decide) rfl hv ((Src.of_blk hq rfl rfl)) (by simp [Value.oneCell']) (by show _ * 1 ≤ _; omega) ?_
    intro v2 w3 hv2 hc3 ho_v2
    have hm_v2 : Mine w.heap.size v2 := Mine.step hm_v (by have := hC.size; omega) ho_v2
    replace hC := hC.own hc3 hm_v
    replace hv2 : Row w3 5 1 v2 (j + 1) (bv ((beN k n).take (j + 1))) := by rw [beN_take _ _ _ hjk, ← bv_one]; exact hv2
    refine OL.pure (Pure.assign rfl) rfl ?_
    refine OL.nil ?_
    refine TE.inBlock ?_
    refine TE.region ?_
    refine OL.pure (Pure.move rfl) rfl ?_
    refine OL.pure (Pure.sub rfl rfl (i64 (by omega) (by omega))) rfl ?_
    refine OL.pure (Pure.assign rfl) rfl ?_
    refine OL.nil ?_
    refine TE.cast (.int .i64 ((k : Int) - 1 - ((j + 1 : Nat) : Int))) 6 rfl (congrArg (Value.int .i64) (by omega)) ?_
    exact TE.sub [0, 5, 6] rfl (ih1 (j + 1, v2) _ ⟨by omega, hv2, hm_v2, hC⟩ (by simp only []; omega))
  ·
    obtain rfl : j = k := by omega
    rw [List.take_of_length_le (by rw [beN_len]; exact Nat.le_refl _)] at hv
    refine TE.exit rfl ?_
    refine TE.seq ?_
    refine TE.region ?_
    refine OL.pure (Pure.move rfl) rfl ?_
    refine OL.val (Run.rowStr Tryd.underlying24 Tryd.underlying5 Tryd.underlying9 rfl hv) rfl ?_
    refine OL.pure (Pure.assign rfl) rfl ?_
    refine OL.nil ?_
    exact TE.ret (vs := [.string (str (beN j n))]) Tryd.results49 (⟨rfl, trivial⟩) ⟨rfl, hC⟩

theorem number_any (l : List UInt8) (hl : l.length ≤ 8) (w : World) : Calls Tryd.prog 41 #[.string (str l)] w (Ret (.int .i64 (rnum l)) w) := by
  refine calls_of_TE (vs := [.string (str l)]) Tryd.func41 Tryd.ntmps41 rfl (by simp) ?_
  refine TE.seq ?_
  refine TE.region ?_
  refine OL.pure (Pure.assign rfl) rfl ?_
  refine OL.nil ?_
  refine TE.seq ?_
  refine TE.region ?_
  refine OL.pure (Pure.assign rfl) rfl ?_
  refine OL.nil ?_
  refine TE.seq ?_
  refine TE.seq ?_
  refine TE.region ?_
  refine OL.pure (Pure.assign rfl) rfl ?_
  refine OL.nil ?_
  refine TE.block ?_
  refine TE.cast (.int .i64 ((num (l.take 0) : Nat) : Int)) 3 rfl (rfl) ?_
  refine TE.loopInv (σ := Nat) [0, 3, 4] (fun s_ w_ => s_ ≤ l.length ∧ (s_ = 8 → num (l.take 7) ≤ 1125899906842624) ∧ w = w_) (fun s_ => [(0, .string (str l)), (3, .int .i64 ((num (l.take s_) : Nat) : Int)), (4, .int .i64 (↑s_))]) (fun s_ => l.length - s_) 0 ⟨by omega, by omega, rfl⟩ rfl ?_
  rintro j w1 ⟨hj, h7, rfl⟩ ih1
  refine TE.seq ?_
  refine TE.seq ?_
  refine TE.region ?_
  refine OL.pure (Pure.move rfl) rfl ?_
  refine OL.pure (Pure.move rfl) rfl ?_
  refine OL.pure (Pure.lenStr Tryd.runUnderlying9 rfl) rfl ?_
  refine OL.pure (Pure.lss rfl rfl) rfl ?_
  refine OL.nil ?_
  refine TE.ite rfl (fun hlt => ?_) (fun hlt => ?_)
  ·
    refine TE.skip ?_
    refine TE.seq ?_
    refine TE.block ?_
    refine TE.seq ?_
    refine TE.seq ?_
    refine TE.region ?_
    refine OL.pure (Pure.move rfl) rfl ?_
    refine OL.pure (Pure.gtr rfl rfl) rfl ?_
    refine OL.nil ?_
    refine TE.ite rfl (fun hbig => ?_) (fun hbig => ?_)
    ·
      have hjl : j < l.length := by omega
      refine TE.seq ?_
      refine TE.region ?_
      refine OL.pure (Pure.assign rfl) rfl ?_
      refine OL.nil ?_
      exact TE.ret (vs := [.int .i64 (rnum l)]) Tryd.results41 (⟨by rw [rnum_big hl hjl (by omega)]; rfl, trivial⟩) ⟨rfl, rfl⟩
    ·
      have hjl : j < l.length := by omega
      have hnt := num_take l j hjl
      have hc := (l.getD j 0).toNat_lt
      refine TE.skip ?_
      refine TE.region ?_
      refine OL.pure (Pure.move rfl) rfl ?_
      refine OL.pure (Pure.mul rfl rfl (i64 (by omega) (by omega))) rfl ?_
      refine OL.pure (Pure.move rfl) rfl ?_
      refine OL.pure (Pure.move rfl) rfl ?_
      refine OL.pure (Pure.indexStr (j := j) Tryd.runUnderlying9 rfl rfl (by omega) (by omega)) rfl ?_
      refine OL.pure (Pure.conv Tryd.runUnderlying5 Tryd.runUnderlying3 rfl (i64bt _ _)) rfl ?_
      refine OL.pure (Pure.add rfl rfl (i64 (by unfold bt; omega) (by unfold bt; omega))) rfl ?_
      refine OL.pure (Pure.assign rfl) rfl ?_
      refine OL.cast (.int .i64 ((num (l.take (j + 1)) : Nat) : Int)) 3 rfl (congrArg (Value.int .i64) (by rw [hnt]; unfold bt; push_cast; rfl)) ?_
      have h8 : j + 1 = 8 → num (l.take 7) ≤ 1125899906842624 := by
        intro h
        obtain rfl : j = 7 := by omega
        omega
      refine OL.nil ?_
      refine TE.inBlock ?_
      refine TE.region ?_
      refine OL.pure (Pure.move rfl) rfl ?_
      refine OL.pure (Pure.add rfl rfl (i64 (by omega) (by omega))) rfl ?_
      refine OL.pure (Pure.assign rfl) rfl ?_
      refine OL.nil ?_
      exact TE.sub [0, 3, 4] rfl (ih1 (j + 1) _ ⟨by omega, h8, rfl⟩ (by omega))
  ·
    obtain rfl : j = l.length := by omega
    refine TE.exit rfl ?_
    refine TE.seq ?_
    refine TE.region ?_
    refine OL.pure (Pure.move rfl) rfl ?_
    refine OL.pure (Pure.assign rfl) rfl ?_
    refine OL.nil ?_
    exact TE.ret (vs := [.int .i64 (rnum l)]) Tryd.results41 (⟨by rw [rnum_all h7, List.take_length]; rfl, trivial⟩) ⟨rfl, rfl⟩

end Go.Proofs.YtigjmemoaapmgaaDoor
