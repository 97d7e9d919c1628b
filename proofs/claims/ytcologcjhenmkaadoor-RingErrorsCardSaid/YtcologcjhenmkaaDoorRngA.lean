/- needed, Need, check, walked -/
import Derived.Test.YtcologcjhenmkaaDoorProg
import Derived.Test.YtcologcjhenmkaaDoorSpecB
import Derived.Test.YtcologcjhenmkaaDoorFrm
import Derived.Test.YtcologcjhenmkaaDoorDsk
import Derived.Test.YtcologcjhenmkaaDoorCod
set_option linter.unusedVariables false
set_option maxRecDepth 4000
namespace Go.Proofs.YtcologcjhenmkaaDoor
open Go.V Go.Rg Go.Frm Go.Sha
theorem needed_any (n : Nat) (h : n ≤ 1099511627776) (w : World) : Calls Tryd.prog 46 #[.int .i64 (n : Int)] w (Ret (.int .i64 (need n : Int)) w) := by
  refine calls_of_TE (vs := [.int .i64 (n : Int)]) Tryd.func46 Tryd.ntmps46 rfl (by simp) ?_
  refine TE.seq ?_
  refine TE.region ?_
  refine OL.pure (Pure.assign rfl) rfl ?_
  refine OL.nil ?_
  refine TE.seq ?_
  refine TE.region ?_
  refine OL.pure (Pure.move rfl) rfl ?_
  refine OL.pure (Pure.sub rfl rfl (i64 (by omega) (by omega))) rfl ?_
  refine OL.pure (Pure.max rfl rfl) rfl ?_
  refine OL.cast (.int .i64 ((n - 512 : Nat) : Int)) 5 rfl (congrArg (Value.int .i64) (by omega)) ?_
  refine OL.pure (Pure.add rfl rfl (i64 (by omega) (by omega))) rfl ?_
  refine OL.pure (Pure.sub rfl rfl (i64 (by omega) (by omega))) rfl ?_
  refine OL.pure (Pure.quo rfl rfl (by omega) (by omega) (i64in (by omega) (by omega))) rfl ?_
  refine OL.cast (.int .i64 (((n - 512 + 510) / 511 : Nat) : Int)) 8 rfl (congrArg (Value.int .i64) (by omega)) ?_
  refine OL.pure (Pure.add rfl rfl (i64 (by omega) (by omega))) rfl ?_
  refine OL.cast (.int .i64 (need n : Int)) 9 rfl (congrArg (Value.int .i64) (by unfold need; omega)) ?_
  refine OL.pure (Pure.assign rfl) rfl ?_
  refine OL.nil ?_
  exact TE.ret (vs := [.int .i64 (need n : Int)]) Tryd.results46 (⟨rfl, trivial⟩) ⟨rfl, rfl⟩

theorem rneed_ok (n : Nat) (h : n ≤ 131072) (w : World) : Calls Tryd.prog 23 #[.int .i64 (n : Int)] w (Ret (.tuple #[.int .i64 (need (42 + n) : Int), .int .i64 0]) w) := by
  refine calls_of_TE (vs := [.int .i64 (n : Int)]) Tryd.func23 Tryd.ntmps23 rfl (by simp) ?_
  refine TE.seq ?_
  refine TE.region ?_
  refine OL.pure (Pure.assign rfl) rfl ?_
  refine OL.pure (Pure.assign rfl) rfl ?_
  refine OL.nil ?_
  refine TE.seq ?_
  refine TE.seq ?_
  refine TE.region ?_
  refine OL.pure (Pure.move rfl) rfl ?_
  refine OL.pure (Pure.lss rfl rfl) rfl ?_
  refine OL.cast (.bool false) 7 rfl (congrArg Value.bool (decide_eq_false (by omega))) ?_
  refine OL.pure (Pure.move rfl) rfl ?_
  refine OL.want rfl rfl rfl (Pure.move rfl _) rfl ?_
  refine OL.want rfl rfl rfl (Pure.gtr rfl rfl _) rfl ?_
  refine OL.cast (.bool false) 10 rfl (congrArg Value.bool (decide_eq_false (by omega))) ?_
  refine OL.pure (Pure.pickF rfl rfl) rfl ?_
  refine OL.nil ?_
  refine TE.condF rfl rfl ?_
  refine TE.skip ?_
  refine TE.seq ?_
  refine TE.region ?_
  refine OL.pure (Pure.move rfl) rfl ?_
  refine OL.call rfl Tryd.call45 rfl (size_ok n (by omega) _) ?_
  rintro _ _ ⟨rfl, rfl⟩
  refine ⟨_, rfl, ?_⟩
  refine OL.pure (Pure.move rfl) rfl ?_
  refine OL.pure (Pure.extract (vs := [.int .i64 (n + 42 : Int), .int .i64 0]) (i := 0) rfl rfl) rfl ?_
  refine OL.pure (Pure.extract (vs := [.int .i64 (n + 42 : Int), .int .i64 0]) (i := 1) rfl rfl) rfl ?_
  refine OL.pure (Pure.assign rfl) rfl ?_
  refine OL.pure (Pure.assign rfl) rfl ?_
  refine OL.nil ?_
  refine TE.seq ?_
  refine TE.region ?_
  refine OL.pure (Pure.move rfl) rfl ?_
  refine OL.cast (.int .i64 ((42 + n : Nat) : Int)) 17 rfl (congrArg (Value.int .i64) (by omega)) ?_
  refine OL.call rfl Tryd.call46 rfl (needed_any (42 + n) (by omega) _) ?_
  rintro _ _ ⟨rfl, rfl⟩
  refine ⟨_, rfl, ?_⟩
  refine OL.pure (Pure.move rfl) rfl ?_
  refine OL.pure (Pure.assign rfl) rfl ?_
  refine OL.pure (Pure.assign rfl) rfl ?_
  refine OL.nil ?_
  exact TE.ret (vs := [.int .i64 (need (42 + n) : Int), .int .i64 0]) Tryd.results23 (⟨rfl, rfl, trivial⟩) ⟨rfl, rfl⟩

theorem rneed_no (n : Int) (h : n < 0 ∨ 131072 < n) (w : World) : Calls Tryd.prog 23 #[.int .i64 n] w (Ret (.tuple #[.int .i64 0, .int .i64 2]) w) := by
  refine calls_of_TE (vs := [.int .i64 n]) Tryd.func23 Tryd.ntmps23 rfl (by simp) ?_
  by_cases hb0 : n < 0
  ·
    refine TE.seq ?_
    refine TE.region ?_
    refine OL.pure (Pure.assign rfl) rfl ?_
    refine OL.pure (Pure.assign rfl) rfl ?_
    refine OL.nil ?_
    refine TE.seq ?_
    refine TE.seq ?_
    refine TE.region ?_
    refine OL.pure (Pure.move rfl) rfl ?_
    refine OL.pure (Pure.lss rfl rfl) rfl ?_
    refine OL.cast (.bool true) 7 rfl (congrArg Value.bool (decide_eq_true (by omega))) ?_
    refine OL.pure (Pure.move rfl) rfl ?_
    refine OL.pass rfl rfl rfl rfl rfl ?_
    refine OL.pass rfl rfl rfl rfl rfl ?_
    refine OL.pure (Pure.pickT rfl rfl) rfl ?_
    refine OL.nil ?_
    refine TE.condT rfl rfl ?_
    refine TE.seq ?_
    refine TE.region ?_
    refine OL.pure (Pure.assign rfl) rfl ?_
    refine OL.pure (Pure.assign rfl) rfl ?_
    refine OL.nil ?_
    exact TE.ret (vs := [.int .i64 0, .int .i64 2]) Tryd.results23 (⟨rfl, rfl, trivial⟩) ⟨rfl, rfl⟩
  ·
    refine TE.seq ?_
    refine TE.region ?_
    refine OL.pure (Pure.assign rfl) rfl ?_
    refine OL.pure (Pure.assign rfl) rfl ?_
    refine OL.nil ?_
    refine TE.seq ?_
    refine TE.seq ?_
    refine TE.region ?_
    refine OL.pure (Pure.move rfl) rfl ?_
    refine OL.pure (Pure.lss rfl rfl) rfl ?_
    refine OL.cast (.bool false) 7 rfl (congrArg Value.bool (decide_eq_false (by omega))) ?_
    refine OL.pure (Pure.move rfl) rfl ?_
    refine OL.want rfl rfl rfl (Pure.move rfl _) rfl ?_
    refine OL.want rfl rfl rfl (Pure.gtr rfl rfl _) rfl ?_
    refine OL.cast (.bool true) 10 rfl (congrArg Value.bool (decide_eq_true (by omega))) ?_
    refine OL.pure (Pure.pickF rfl rfl) rfl ?_
    refine OL.nil ?_
    refine TE.condT rfl rfl ?_
    refine TE.seq ?_
    refine TE.region ?_
    refine OL.pure (Pure.assign rfl) rfl ?_
    refine OL.pure (Pure.assign rfl) rfl ?_
    refine OL.nil ?_
    exact TE.ret (vs := [.int .i64 0, .int .i64 2]) Tryd.results23 (⟨rfl, rfl, trivial⟩) ⟨rfl, rfl⟩

theorem check_ok {V : Int → List UInt8} {ks : List Nat} (d n c a P : Nat) (haP : a + 2 + P ≤ n) (hn : n ≤ 8192) (hP2 : 2 ≤ P) (w : World) (hD : Dk 93 97 w d n (V) (c) false ks) : Calls Tryd.prog 32 #[.pointer (some ⟨d, 0, none⟩), .int .i64 (a : Int), .int .i64 ((P + 2 : Nat) : Int)] w (RetC (.tuple #[.agg (arv d a P).toArray, .int .i64 0]) w) := by
  refine calls_of_TE (vs := [.pointer (some ⟨d, 0, none⟩), .int .i64 (a : Int), .int .i64 ((P + 2 : Nat) : Int)]) Tryd.func32 Tryd.ntmps32 rfl (by simp) ?_
  have hC : Chg [] w w := Chg.refl _ _
  refine TE.seq ?_
  refine TE.region ?_
  refine OL.alloc Tryd.zeroValue66 rfl ?_
  intro g6 w1 h6 hc1 hg_g6
  have ge_g6 : w.heap.size ≤ g6 := by have := hC.size; omega
  replace hD := hD.chg0 hc1
  replace hC := hC.then_ hc1
  refine OL.pure (Pure.assign rfl) rfl ?_
  refine OL.nil ?_
  refine TE.seq ?_
  refine TE.block ?_
  refine TE.seq ?_
  refine TE.region ?_
  refine OL.pure (Pure.move rfl) rfl ?_
  refine OL.pure (Pure.eqlNil Tryd.underlying26 rfl rfl) rfl ?_
  refine OL.pure (Pure.assign rfl) rfl ?_
  refine OL.nil ?_
  refine TE.condF rfl rfl ?_
  refine TE.seq ?_
  refine TE.region ?_
  refine OL.pure (Pure.move rfl) rfl ?_
  refine OL.pure (Pure.lss rfl rfl) rfl ?_
  refine OL.cast (.bool false) 14 rfl (congrArg Value.bool (decide_eq_false (by omega))) ?_
  refine OL.pure (Pure.move rfl) rfl ?_
  refine OL.want rfl rfl rfl (Pure.move rfl _) rfl ?_
  refine OL.want rfl rfl rfl (Pure.lss rfl rfl _) rfl ?_
  refine OL.cast (.bool false) 17 rfl (congrArg Value.bool (decide_eq_false (by omega))) ?_
  refine OL.pure (Pure.pickF rfl rfl) rfl ?_
  refine OL.pure (Pure.move rfl) rfl ?_
  refine OL.want rfl rfl rfl (Pure.move rfl _) rfl ?_
  refine OL.want rfl rfl rfl (Pure.move rfl _) rfl ?_
  refine OL.callG rfl rfl rfl rfl Tryd.call51 rfl (dblocks_any d n c false _ hD) ?_
  rintro _ _ ⟨rfl, rfl⟩
  refine ⟨_, rfl, ?_⟩
  refine OL.want rfl rfl rfl (Pure.gtr rfl rfl _) rfl ?_
  refine OL.cast (.bool false) 23 rfl (congrArg Value.bool (decide_eq_false (by omega))) ?_
  refine OL.pure (Pure.pickF rfl rfl) rfl ?_
  refine OL.pure (Pure.move rfl) rfl ?_
  refine OL.want rfl rfl rfl (Pure.move rfl _) rfl ?_
  refine OL.want rfl rfl rfl (Pure.move rfl _) rfl ?_
  refine OL.callG rfl rfl rfl rfl Tryd.call51 rfl (dblocks_any d n c false _ hD) ?_
  rintro _ _ ⟨rfl, rfl⟩
  refine ⟨_, rfl, ?_⟩
  refine OL.want rfl rfl rfl (Pure.move rfl _) rfl ?_
  refine OL.want rfl rfl rfl (Pure.sub rfl rfl (i64 (by omega) (by omega)) _) rfl ?_
  refine OL.want rfl rfl rfl (Pure.gtr rfl rfl _) rfl ?_
  refine OL.cast (.bool false) 31 rfl (congrArg Value.bool (decide_eq_false (by omega))) ?_
  refine OL.pure (Pure.pickF rfl rfl) rfl ?_
  refine OL.pure (Pure.assign rfl) rfl ?_
  refine OL.nil ?_
  refine TE.condF rfl rfl ?_
  refine TE.seq ?_
  refine TE.region ?_
  refine OL.pure (Pure.move rfl) rfl ?_
  refine OL.call rfl Tryd.call52 rfl (ddown_any d n c false _ hD) ?_
  rintro _ _ ⟨rfl, rfl⟩
  refine ⟨_, rfl, ?_⟩
  refine OL.pure (Pure.assign rfl) rfl ?_
  refine OL.nil ?_
  refine TE.condF rfl rfl ?_
  refine TE.skip ?_
  refine TE.inBlock ?_
  refine TE.seq ?_
  refine TE.region ?_
  refine OL.pure (Pure.move rfl) rfl ?_
  refine OL.pure (Pure.move rfl) rfl ?_
  refine OL.pure (Pure.move rfl) rfl ?_
  refine OL.pure (Pure.sub rfl rfl (i64 (by omega) (by omega))) rfl ?_
  refine OL.cast (.int .i64 (P : Int)) 41 rfl (congrArg (Value.int .i64) (by omega)) ?_
  refine OL.pure (Pure.build (cs := arv d a P) rfl (by kernel_rfl)) rfl ?_
  refine OL.storeRow (vs := arv d a P) rfl rfl (rfl) (by simp [arv, Value.oneCell']) h6 (Nat.le_refl 3) ?_
  intro w2 hb2 hc2
  replace hD := hD.chg hc2 (hD.apart h6 (by decide) (by decide))
  replace hC := hC.trans1 hc2 (by first | exact .inr (by omega) | exact .inl (by simp))
  replace h6 := hb2
  replace h6 := h6.all rfl
  refine OL.pure (Pure.assign rfl) rfl ?_
  refine OL.nil ?_
  exact TE.ret (vs := [.agg (arv d a P).toArray, .int .i64 0]) Tryd.results32 (⟨⟨_, rfl, loadRow_at Tryd.underlying66 rfl rfl h6 rfl⟩, rfl, trivial⟩) ⟨rfl, hC⟩

end Go.Proofs.YtcologcjhenmkaaDoor
/- circle, walked -/
set_option linter.unusedVariables false
set_option maxRecDepth 4000
namespace Go.Proofs.YtcologcjhenmkaaDoor
open Go.V Go.Rg Go.Frm Go.Sha
theorem circle_any (d a P p m : Nat) (w : World) : Calls Tryd.prog 37 #[.agg (arv d a P).toArray, .int .i64 (p : Int), .int .i64 (m : Int)] w (fun e w_ => ∃ gn ga gp, e = .returned (.func (.func 61) #[] #[.pointer (some ⟨gn, 0, none⟩), .pointer (some ⟨ga, 0, none⟩), .pointer (some ⟨gp, 0, none⟩)]) ∧ (Blk w_ gn 3 [.int .i64 (m : Int)] ∧ Blk w_ ga 66 (arv d a P) ∧ Blk w_ gp 3 [.int .i64 (p : Int)]) ∧ Chg [] w w_ ∧ w.heap.size ≤ gn ∧ w.heap.size ≤ ga ∧ w.heap.size ≤ gp) := by
  refine calls_of_TE (vs := [.agg (arv d a P).toArray, .int .i64 (p : Int), .int .i64 (m : Int)]) Tryd.func37 Tryd.ntmps37 rfl (by simp) ?_
  have hC : Chg [] w w := Chg.refl _ _
  refine TE.seq ?_
  refine TE.region ?_
  refine OL.box rfl rfl ?_
  intro ga w1 ha hc1 hg_ga
  have ge_ga : w.heap.size ≤ ga := by have := hC.size; omega
  replace hC := hC.then_ hc1
  have ha : Blk w1 ga 66 (arv d a P) := ha
  refine OL.box rfl rfl ?_
  intro gp w2 hp hc2 hg_gp
  have lt_ga_gp : ga < gp := by have := ha.lt; omega
  have ge_gp : w.heap.size ≤ gp := by have := hC.size; omega
  replace ha := ha.chg0 hc2
  replace hC := hC.then_ hc2
  have hp : Blk w2 gp 3 ([.int .i64 (p : Int)]) := hp
  refine OL.box rfl rfl ?_
  intro gn w3 hn hc3 hg_gn
  have lt_ga_gn : ga < gn := by have := ha.lt; omega
  have lt_gp_gn : gp < gn := by have := hp.lt; omega
  have ge_gn : w.heap.size ≤ gn := by have := hC.size; omega
  replace ha := ha.chg0 hc3
  replace hp := hp.chg0 hc3
  replace hC := hC.then_ hc3
  have hn : Blk w3 gn 3 ([.int .i64 (m : Int)]) := hn
  refine OL.pure (Pure.assign rfl) rfl ?_
  refine OL.nil ?_
  refine TE.seq ?_
  refine TE.region ?_
  refine OL.pure (Pure.makeFunc rfl) rfl ?_
  refine OL.pure (Pure.assign rfl) rfl ?_
  refine OL.nil ?_
  exact TE.ret (vs := [.func (.func 61) #[] #[.pointer (some ⟨gn, 0, none⟩), .pointer (some ⟨ga, 0, none⟩), .pointer (some ⟨gp, 0, none⟩)]]) Tryd.results37 (⟨rfl, trivial⟩) ⟨gn, ga, gp, rfl, ⟨hn, ha, hp⟩, hC, ge_gn, ge_ga, ge_gp⟩

theorem circle_iter (gn ga gp l d a P p m n : Nat) (hP : 0 < P) (haP : a + 2 + P ≤ n) (hn : n ≤ 8192) (hp : p < P) (hm : m ≤ P) (Inv : Nat → World → Prop) (Dn : World → Prop) (hinv : ∀ i w, Inv i w → Blk w gn 3 [.int .i64 (m : Int)] ∧ Blk w ga 66 (arv d a P) ∧ Blk w gp 3 [.int .i64 (p : Int)]) (hst : ∀ i w w2, Inv i w → Chg [] w w2 → Inv i w2) (hround : ∀ i w (h : i < m), Inv i w → Rounds Tryd.prog l #[.int .i64 ((a + 2 + (p + i) % P : Nat) : Int)] w (fun go w_ => if go = true then Inv (i + 1) w_ else Dn w_)) (w : World) (h0 : Inv 0 w) : Calls Tryd.prog 61 #[.func (.yield l) #[] #[], .pointer (some ⟨gn, 0, none⟩), .pointer (some ⟨ga, 0, none⟩), .pointer (some ⟨gp, 0, none⟩)] w (fun e w_ => e = .returned (.tuple #[]) ∧ (Inv m w_ ∨ Dn w_)) := by
  refine calls_of_TE (vs := [.func (.yield l) #[] #[], .pointer (some ⟨gn, 0, none⟩), .pointer (some ⟨ga, 0, none⟩), .pointer (some ⟨gp, 0, none⟩)]) Tryd.func61 Tryd.ntmps61 rfl (by simp) ?_
  obtain ⟨hgn, hga, hgp⟩ := hinv _ _ h0
  refine TE.seq ?_
  refine TE.region ?_
  refine OL.val (Run.load (i := 0) rfl Tryd.isAgg3 hgn (by omega) rfl) rfl ?_
  refine OL.pure (Pure.move rfl) rfl ?_
  refine OL.nil ?_
  refine TE.block ?_
  refine TE.loopInv (σ := Nat) [0, 1, 2, 3, 6, 7] (fun s_ w_ => s_ ≤ m ∧ Inv s_ w_) (fun s_ => [(0, .func (.yield l) #[] #[]), (1, .pointer (some ⟨gn, 0, none⟩)), (2, .pointer (some ⟨ga, 0, none⟩)), (3, .pointer (some ⟨gp, 0, none⟩)), (6, .int .i64 (↑m)), (7, .int .i64 (s_ : Int))]) (fun s_ => m - s_) 0 ⟨Nat.zero_le _, h0⟩ rfl ?_
  rintro i w1 ⟨hi, hI⟩ ih1
  refine TE.seq ?_
  refine TE.region ?_
  refine OL.pure (Pure.lss rfl rfl) rfl ?_
  refine OL.nil ?_
  refine TE.seq ?_
  refine TE.ite rfl (fun hlt => ?_) (fun hlt => ?_)
  ·
    replace hlt : i < m := by omega
    obtain ⟨hgn, hga, hgp⟩ := hinv _ _ hI
    obtain ⟨x, hx⟩ : ∃ x, x = (p + i) % P := ⟨_, rfl⟩
    have hxl : x < P := by rw [hx]; exact Nat.mod_lt _ hP
    refine TE.skip ?_
    refine TE.seq ?_
    refine TE.block ?_
    refine TE.seq ?_
    refine TE.region ?_
    refine OL.pure (Pure.move rfl) rfl ?_
    refine OL.pure (Pure.assign rfl) rfl ?_
    refine OL.nil ?_
    refine TE.seq ?_
    refine TE.planIs 11 [11, 12] (.cons (0, true) (.cons (1, true) (.cons (2, true) (.cons (3, true) (.cons (4, true) (.cons (5, true) (.cons (6, true) (.cons (7, true) (.cons (8, true) (.cons (9, true) (.cons (10, true) .nil))))))))))) (fun w_ => Chg [] w1 w_) rfl (by kernel_rfl) rfl ?_
    have hS2 : Chg [] w1 w1.drew := Chg.drew _ _
    refine PL.takeP rfl (Pure.move rfl) rfl hS2 ?_
    refine PL.takeP rfl (Pure.fieldAddr (r := 1) Tryd.runUnderlying66 rfl Tryd.sizeOf3 rfl rfl) rfl hS2 ?_
    refine PL.take rfl (fun w_ h_ => Run.load (i := 1) rfl Tryd.isAgg3 (hga.chg0 h_) (by omega) rfl) rfl hS2 ?_
    refine PL.takeP rfl (Pure.add rfl rfl (i64 (by omega) (by omega))) rfl hS2 ?_
    refine PL.take rfl (fun w_ h_ => Run.load (i := 0) rfl Tryd.isAgg3 (hgp.chg0 h_) (by omega) rfl) rfl hS2 ?_
    refine PL.takeP rfl (Pure.move rfl) rfl hS2 ?_
    refine PL.takeP rfl (Pure.add rfl rfl (i64 (by omega) (by omega))) rfl hS2 ?_
    refine PL.takeP rfl (Pure.fieldAddr (r := 2) Tryd.runUnderlying66 rfl Tryd.sizeOf3 rfl rfl) rfl hS2 ?_
    refine PL.take rfl (fun w_ h_ => Run.load (i := 2) rfl Tryd.isAgg3 (hga.chg0 h_) (by omega) rfl) rfl hS2 ?_
    refine PL.takeP rfl (Pure.rem rfl rfl (by omega) (by omega)) rfl hS2 ?_
    refine PL.cast (.int .i64 (x : Int)) 19 rfl (congrArg (Value.int .i64) (by rw [hx]; push_cast; rfl)) ?_
    refine PL.takeP rfl (Pure.add rfl rfl (i64 (by omega) (by omega))) rfl hS2 ?_
    refine PL.cast (.int .i64 ((a + 2 + (p + i) % P : Nat) : Int)) 20 rfl (congrArg (Value.int .i64) (by rw [← hx]; omega)) ?_
    refine PL.nil ?_
    replace hgn := hgn.chg0 hS2
    replace hga := hga.chg0 hS2
    replace hgp := hgp.chg0 hS2
    replace hI := hst _ _ _ hI hS2
    refine TE.yield rfl rfl rfl rfl (hround i _ hlt hI) ?_
    intro go w3 hgo
    refine TE.opRun rfl (fun _ h_ => by cases h_) (Pure.not rfl _) rfl ?_
    cases go with
    | false =>
      refine TE.opsNil ?_
      refine TE.condT rfl rfl ?_
      exact TE.ret (vs := []) Tryd.results61 (trivial) ⟨rfl, .inr (by simpa using hgo)⟩
    | true =>
      replace hgo : Inv (i + 1) w3 := by simpa using hgo
      refine TE.opsNil ?_
      refine TE.condF rfl rfl ?_
      refine TE.skip ?_
      refine TE.inBlock ?_
      refine TE.region ?_
      refine OL.pure (Pure.add rfl rfl (i64 (by omega) (by omega))) rfl ?_
      refine OL.pure (Pure.move rfl) rfl ?_
      refine OL.nil ?_
      exact TE.sub [0, 1, 2, 3, 6, 7] rfl (ih1 (i + 1) _ ⟨by omega, hgo⟩ (by omega))
  ·
    obtain rfl : i = m := by omega
    refine TE.exit rfl ?_
    exact TE.fin (vs := []) Tryd.results61 (trivial) ⟨rfl, .inl hI⟩

end Go.Proofs.YtcologcjhenmkaaDoor
/- piece, walked -/
set_option linter.unusedVariables false
set_option maxRecDepth 4000
namespace Go.Proofs.YtcologcjhenmkaaDoor
open Go.V Go.Rg Go.Frm Go.Sha
set_option maxHeartbeats 1000000 in
theorem piece_any {V : Int → List UInt8} {ks : List Nat} (d n c a P p m : Nat) (hP : 0 < P) (haP : a + 2 + P ≤ n) (hn : n ≤ 8192) (hp : p < P) (hm : m ≤ P) (hc0 : c ≤ 1073741824) (w : World) (hD : Dk 93 97 w d n (V) (c) false ks) : Calls Tryd.prog 57 #[.agg (arv d a P).toArray, .int .i64 (p : Int), .int .i64 (m : Int)] w (RetC (.tuple #[.string (str (piece V a P p m)), .int .i64 0]) w) := by
  refine calls_of_TU (vs := [.agg (arv d a P).toArray, .int .i64 (p : Int), .int .i64 (m : Int)]) Tryd.func57 Tryd.ntmps57 rfl (by simp) ?_
  have hC : Chg [] w w := Chg.refl _ _
  refine TE.seq ?_
  refine TE.region ?_
  refine OL.box rfl rfl ?_
  intro g3 w1 h3 hc1 hg_g3
  have ge_g3 : w.heap.size ≤ g3 := by have := hC.size; omega
  replace hD := hD.chg0 hc1
  replace hC := hC.then_ hc1
  have h3 : Blk w1 g3 66 (arv d a P) := h3
  refine OL.alloc Tryd.zeroValue9 rfl ?_
  intro g6 w2 h6 hc2 hg_g6
  have lt_g3_g6 : g3 < g6 := by have := h3.lt; omega
  have ge_g6 : w.heap.size ≤ g6 := by have := hC.size; omega
  replace hD := hD.chg0 hc2
  replace h3 := h3.chg0 hc2
  replace hC := hC.then_ hc2
  have h6 : Blk w2 g6 9 ([.string (str [])]) := h6
  refine OL.alloc Tryd.zeroValue31 rfl ?_
  intro g7 w3 h7 hc3 hg_g7
  have lt_g3_g7 : g3 < g7 := by have := h3.lt; omega
  have lt_g6_g7 : g6 < g7 := by have := h6.lt; omega
  have ge_g7 : w.heap.size ≤ g7 := by have := hC.size; omega
  replace hD := hD.chg0 hc3
  replace h3 := h3.chg0 hc3
  replace h6 := h6.chg0 hc3
  replace hC := hC.then_ hc3
  have h7 : Blk w3 g7 31 ([.int .i64 0]) := h7
  refine OL.nil ?_
  refine TE.seq ?_
  refine TE.region ?_
  refine OL.alloc Tryd.zeroValue34 rfl ?_
  intro g8 w4 h8 hc4 hg_g8
  have lt_g3_g8 : g3 < g8 := by have := h3.lt; omega
  have lt_g6_g8 : g6 < g8 := by have := h6.lt; omega
  have lt_g7_g8 : g7 < g8 := by have := h7.lt; omega
  have ge_g8 : w.heap.size ≤ g8 := by have := hC.size; omega
  replace hD := hD.chg0 hc4
  replace h3 := h3.chg0 hc4
  replace h6 := h6.chg0 hc4
  replace h7 := h7.chg0 hc4
  replace hC := hC.then_ hc4
  have h8 : Blk w4 g8 34 ([.slice none 0 0]) := h8
  refine OL.nil ?_
  refine TE.seq ?_
  refine TE.region ?_
  refine OL.alloc Tryd.zeroValue3 rfl ?_
  intro g9 w5 h9 hc5 hg_g9
  have lt_g3_g9 : g3 < g9 := by have := h3.lt; omega
  have lt_g6_g9 : g6 < g9 := by have := h6.lt; omega
  have lt_g7_g9 : g7 < g9 := by have := h7.lt; omega
  have lt_g8_g9 : g8 < g9 := by have := h8.lt; omega
  have ge_g9 : w.heap.size ≤ g9 := by have := hC.size; omega
  replace hD := hD.chg0 hc5
  replace h3 := h3.chg0 hc5
  replace h6 := h6.chg0 hc5
  replace h7 := h7.chg0 hc5
  replace h8 := h8.chg0 hc5
  replace hC := hC.then_ hc5
  have h9 : Blk w5 g9 3 ([.int .i64 0]) := h9
  refine OL.store (j := 0) rfl rfl Tryd.sizeOf3 rfl h9 (by omega) (rfl) ?_
  intro w6 hb6 hc6
  replace hD := hD.chg hc6 (hD.apart h9 (by decide) (by decide))
  replace h3 := h3.chg hc6 (by simpa using h3.ne h9 (by decide))
  replace h6 := h6.chg hc6 (by simpa using h6.ne h9 (by decide))
  replace h7 := h7.chg hc6 (by simpa using h7.ne h9 (by decide))
  replace h8 := h8.chg hc6 (by simpa using h8.ne h9 (by decide))
  replace hC := hC.trans1 hc6 (by first | exact .inr (by omega) | exact .inl (by simp))
  replace h9 := hb6
  refine OL.nil ?_
  refine TE.seq ?_
  refine TE.seq ?_
  refine TE.region ?_
  refine OL.val (Run.loadAll rfl Tryd.underlying66 rfl h3 (rfl)) rfl ?_
  refine OL.pure (Pure.move rfl) rfl ?_
  refine OL.pure (Pure.move rfl) rfl ?_
  refine OL.call rfl Tryd.call37 rfl (circle_any d a P p m _) ?_
  rintro _ wb ⟨gn, ga, gp, rfl, ⟨hgn, hga, hgp⟩, hcb, hgen, hgea, hgep⟩
  have lt_g3_gn : g3 < gn := by have := h3.lt; omega
  have lt_g3_ga : g3 < ga := by have := h3.lt; omega
  have lt_g3_gp : g3 < gp := by have := h3.lt; omega
  have lt_g6_gn : g6 < gn := by have := h6.lt; omega
  have lt_g6_ga : g6 < ga := by have := h6.lt; omega
  have lt_g6_gp : g6 < gp := by have := h6.lt; omega
  have lt_g7_gn : g7 < gn := by have := h7.lt; omega
  have lt_g7_ga : g7 < ga := by have := h7.lt; omega
  have lt_g7_gp : g7 < gp := by have := h7.lt; omega
  have lt_g8_gn : g8 < gn := by have := h8.lt; omega
  have lt_g8_ga : g8 < ga := by have := h8.lt; omega
  have lt_g8_gp : g8 < gp := by have := h8.lt; omega
  have lt_g9_gn : g9 < gn := by have := h9.lt; omega
  have lt_g9_ga : g9 < ga := by have := h9.lt; omega
  have lt_g9_gp : g9 < gp := by have := h9.lt; omega
  replace hD := hD.chg0 hcb
  replace h3 := h3.chg0 hcb
  replace h6 := h6.chg0 hcb
  replace h7 := h7.chg0 hcb
  replace h8 := h8.chg0 hcb
  replace h9 := h9.chg0 hcb
  replace hC := hC.then_ hcb
  refine ⟨_, rfl, ?_⟩
  refine OL.nil ?_
  refine TE.block ?_
  refine TE.rangeFunc' (fun D l a_ e w2 => e = .returned (.tuple #[]) ∧ ∃ r, Lp w2 l r ∧ r.state ≠ .busy ∧ r.pending = none ∧ Df w2 D ∧ Chg [g8, g9] wb w2 ∧ (∃ v, Blk w2 g8 34 [v] ∧ Row w2 5 1 v (piece V a P p m).length (bv (piece V a P p m)) ∧ Mine wb.heap.size v ∧ Blk w2 g9 3 [.int .i64 (skp m : Int)])) rfl Tryd.call61 ?_ ?_
  ·
    intro D l wl aF haF hch hgD hgl hDf hLp
    obtain ⟨r0, hR, hL⟩ := hLp.gen
    clear hLp
    refine (circle_iter gn ga gp l d a P p m n hP haP hn hp hm (fun i w_ => Chg [g8, g9] wb w_ ∧ Lp w_ l r0 ∧ Df w_ D ∧ (∃ v, Blk w_ g8 34 [v] ∧ Row w_ 5 1 v (piece V a P p i).length (bv (piece V a P p i)) ∧ Mine wb.heap.size v ∧ Blk w_ g9 3 [.int .i64 (skp i : Int)])) (fun w_ => False) ?_ ?_ ?_ wl ?_).mono ?_
    · exact fun i w_ h => ⟨hgn.chg h.1 (by simp; omega), hga.chg h.1 (by simp; omega), hgp.chg h.1 (by simp; omega)⟩
    · exact fun i w_ w2 h hc => ⟨h.1.then_ hc, h.2.1.chg0 hc, h.2.2.1.chg0 hc, by obtain ⟨v, k1, k2, k3, k4⟩ := h.2.2.2; exact ⟨v, k1.chg0 hc, k2.chg0 hc, k3, k4.chg0 hc⟩⟩
    ·
      rintro i wi hi ⟨hci, hLi, hDi, hJ⟩
      rw [hR] at hLi
      refine rounds_rec hLi haF rfl rfl ?_
      have hD := hD.chg hci (fun k_ hk_ hm_ => by simp at hm_; rcases hm_ with rfl | rfl; exact (hD.apart h8 (by decide) (by decide)) k_ hk_ (by simp); exact (hD.apart h9 (by decide) (by decide)) k_ hk_ (by simp))
      have h3 := h3.chg hci (fun hm_ => by simp at hm_; rcases hm_ with rfl | rfl; exact (h3.ne h8 (by decide)) rfl; exact (h3.ne h9 (by decide)) rfl)
      have h6 := h6.chg hci (fun hm_ => by simp at hm_; rcases hm_ with rfl | rfl; exact (h6.ne h8 (by decide)) rfl; exact (h6.ne h9 (by decide)) rfl)
      have h7 := h7.chg hci (fun hm_ => by simp at hm_; rcases hm_ with rfl | rfl; exact (h7.ne h8 (by decide)) rfl; exact (h7.ne h9 (by decide)) rfl)
      have hgn := hgn.chg hci (fun hm_ => by simp at hm_; rcases hm_ with rfl | rfl; exact (hgn.ne h8 (by decide)) rfl; omega)
      have hga := hga.chg hci (fun hm_ => by simp at hm_; rcases hm_ with rfl | rfl; exact (hga.ne h8 (by decide)) rfl; exact (hga.ne h9 (by decide)) rfl)
      have hgp := hgp.chg hci (fun hm_ => by simp at hm_; rcases hm_ with rfl | rfl; exact (hgp.ne h8 (by decide)) rfl; omega)
      have hCs := hC.size
      obtain ⟨v, h8, hv, hm_v, h9⟩ := hJ
      have hZ := hci
      simp only [params]
      have hl := hD.len (bk a P (p + i))
      have hsk := skp_le i
      have hpl := piece_le (show Full V from hD.len) a P p i
      refine TE.region ?_
      refine OL.pure (Pure.assign rfl) rfl ?_
      refine OL.nil ?_
      refine TE.beginRound' hLi rfl ?_
      intro w7 hL2 hc7
      replace hD := hD.chg hc7 (hD.apartL hLi)
      replace h3 := h3.chg hc7 (by simpa using (hLi.ne h3).symm)
      replace h6 := h6.chg hc7 (by simpa using (hLi.ne h6).symm)
      replace h7 := h7.chg hc7 (by simpa using (hLi.ne h7).symm)
      replace h8 := h8.chg hc7 (by simpa using (hLi.ne h8).symm)
      replace h9 := h9.chg hc7 (by simpa using (hLi.ne h9).symm)
      replace hgn := hgn.chg hc7 (by simpa using (hLi.ne hgn).symm)
      replace hga := hga.chg hc7 (by simpa using (hLi.ne hga).symm)
      replace hgp := hgp.chg hc7 (by simpa using (hLi.ne hgp).symm)
      replace hv := hv.chg hc7 (hLi.apart hv)
      replace hDi := hDi.chg hc7 (by simpa using hDi.neL hLi)
      replace hZ := hZ.trans1 hc7 (.inr hgl)
      replace hLi := hL2
      refine TE.block ?_
      refine TE.seq ?_
      refine TE.region ?_
      refine OL.pure (Pure.fieldAddr (r := 0) Tryd.runUnderlying66 rfl Tryd.sizeOf26 rfl rfl) rfl ?_
      refine OL.val (Run.load (i := 0) rfl Tryd.isAgg26 h3 (by omega) rfl) rfl ?_
      refine OL.pure (Pure.move rfl) rfl ?_
      refine OL.call rfl Tryd.call28 rfl (dread_any d n c (a + 2 + (p + i) % P) (by have := Nat.mod_lt (p + i) hP; omega) hc0 _ hD) ?_
      rintro _ wr ⟨gb, rfl, hb, hcr, hgb⟩
      have lt_g3_gb : g3 < gb := by have := h3.lt; omega
      have lt_g6_gb : g6 < gb := by have := h6.lt; omega
      have lt_g7_gb : g7 < gb := by have := h7.lt; omega
      have lt_g8_gb : g8 < gb := by have := h8.lt; omega
      have lt_g9_gb : g9 < gb := by have := h9.lt; omega
      have lt_gn_gb : gn < gb := by have := hgn.lt; omega
      have lt_ga_gb : ga < gb := by have := hga.lt; omega
      have lt_gp_gb : gp < gb := by have := hgp.lt; omega
      replace hD := hD.chg0 hcr
      replace h3 := h3.chg0 hcr
      replace h6 := h6.chg0 hcr
      replace h7 := h7.chg0 hcr
      replace h8 := h8.chg0 hcr
      replace h9 := h9.chg0 hcr
      replace hgn := hgn.chg0 hcr
      replace hga := hga.chg0 hcr
      replace hgp := hgp.chg0 hcr
      replace hv := hv.chg0 hcr
      replace hLi := hLi.chg0 hcr
      replace hDi := hDi.chg0 hcr
      replace hZ := hZ.then_ hcr
      replace hb : Blk wr gb 95 (bv (V (bk a P (p + i)))) := hb
      refine ⟨_, rfl, ?_⟩
      refine OL.pure (Pure.move rfl) rfl ?_
      refine OL.pure (Pure.extract (vs := [.slice (some ⟨gb, 0, none⟩) 512 512, .int .i64 0]) (i := 0) rfl rfl) rfl ?_
      refine OL.pure (Pure.extract (vs := [.slice (some ⟨gb, 0, none⟩) 512 512, .int .i64 0]) (i := 1) rfl rfl) rfl ?_
      refine OL.pure (Pure.assign rfl) rfl ?_
      refine OL.pure (Pure.assign rfl) rfl ?_
      refine OL.nil ?_
      refine TE.seq ?_
      refine TE.seq ?_
      refine TE.region ?_
      refine OL.pure (Pure.move rfl) rfl ?_
      refine OL.pure (Pure.neq rfl rfl) rfl ?_
      refine OL.cast (.bool false) 26 rfl (rfl) ?_
      refine OL.nil ?_
      refine TE.condF rfl rfl ?_
      refine TE.skip ?_
      refine TE.seq ?_
      refine TE.plan 5 (.cons (0, true) (.cons (1, true) (.cons (2, true) (.cons (3, true) (.cons (4, false) .nil))))) (fun w_ => Blk w_ g8 34 ([v]) ∧ Blk w_ g9 3 ([.int .i64 (skp i : Int)]) ∧ Blk w_ gb 95 (bv (V (bk a P (p + i))))) rfl (by kernel_rfl) rfl ?_
      have hS8 : Chg [] wr wr.drew := Chg.drew _ _
      replace hD := hD.chg0 hS8
      replace h3 := h3.chg0 hS8
      replace h6 := h6.chg0 hS8
      replace h7 := h7.chg0 hS8
      replace h8 := h8.chg0 hS8
      replace h9 := h9.chg0 hS8
      replace hgn := hgn.chg0 hS8
      replace hga := hga.chg0 hS8
      replace hgp := hgp.chg0 hS8
      replace hv := hv.chg0 hS8
      replace hLi := hLi.chg0 hS8
      replace hDi := hDi.chg0 hS8
      replace hb := hb.chg0 hS8
      replace hZ := hZ.then_ hS8
      refine PL.take rfl (fun w_ h_ => Run.load (i := 0) rfl Tryd.isAgg34 h_.1 (by omega) rfl) rfl ⟨h8, h9, hb⟩ ?_
      refine PL.takeP rfl (Pure.move rfl) rfl ⟨h8, h9, hb⟩ ?_
      refine PL.take rfl (fun w_ h_ => Run.load (i := 0) rfl Tryd.isAgg3 h_.2.1 (by omega) rfl) rfl ⟨h8, h9, hb⟩ ?_
      refine PL.takeP rfl (Pure.sliceSlFrom (q := skp i) (size := 1) Tryd.runUnderlying34 Tryd.sizeOf5 rfl rfl rfl (by omega) (by omega) (by omega)) rfl ⟨h8, h9, hb⟩ ?_
      refine PL.appendC (size := 1) (v := v) rfl rfl rfl Tryd.underlying34 (.inl Tryd.underlying34) info5 rfl rfl rfl (by decide) rfl hv ((Src.of_blk (m := 512 - skp i) (news := bv ((V (bk a P (p + i))).drop (skp i))) hb (by rw [bv_len, List.length_drop, hl, Nat.mul_one]) (by rw [bv_drop, Nat.zero_add, Nat.mul_one, Nat.mul_one]; exact List.take_of_length_le (by rw [List.length_drop, bv_len, hl]; exact Nat.le_refl _)))) (bv_one1) (by show _ * 1 ≤ _; omega) (fun w_ h_ => ⟨h8.chg h_ (hv.notin h8 (by decide)), h9.chg h_ (hv.notin h9 (by decide)), hb.chg h_ (hv.notin hb (by decide))⟩) ?_
      intro v2 w9 hv2 hc9 ho_v2
      have hm_v2 : Mine wb.heap.size v2 := Mine.step hm_v (by have := hZ.size; omega) ho_v2
      replace hD := hD.chg hc9 (hD.apartR' hv (by decide) (by decide))
      replace h3 := h3.chg hc9 (hv.notin h3 (by decide))
      replace h6 := h6.chg hc9 (hv.notin h6 (by decide))
      replace h7 := h7.chg hc9 (hv.notin h7 (by decide))
      replace h8 := h8.chg hc9 (hv.notin h8 (by decide))
      replace h9 := h9.chg hc9 (hv.notin h9 (by decide))
      replace hgn := hgn.chg hc9 (hv.notin hgn (by decide))
      replace hga := hga.chg hc9 (hv.notin hga (by decide))
      replace hgp := hgp.chg hc9 (hv.notin hgp (by decide))
      replace hLi := hLi.chg hc9 (hLi.notin hv)
      replace hDi := hDi.chg hc9 (hDi.notin hv)
      replace hb := hb.chg hc9 (hv.notin hb (by decide))
      replace hZ := hZ.own hc9 hm_v
      have hv2one := hv2.oneCell
      refine PL.nilTail ?_
      refine OL.store (j := 0) rfl rfl Tryd.sizeOf34 hv2one h8 (by omega) (rfl) ?_
      intro w10 hb10 hc10
      replace hD := hD.chg hc10 (hD.apart h8 (by decide) (by decide))
      replace h3 := h3.chg hc10 (by simpa using h3.ne h8 (by decide))
      replace h6 := h6.chg hc10 (by simpa using h6.ne h8 (by decide))
      replace h7 := h7.chg hc10 (by simpa using h7.ne h8 (by decide))
      replace h9 := h9.chg hc10 (by simpa using h9.ne h8 (by decide))
      replace hgn := hgn.chg hc10 (by simpa using hgn.ne h8 (by decide))
      replace hga := hga.chg hc10 (by simpa using hga.ne h8 (by decide))
      replace hgp := hgp.chg hc10 (by simpa using hgp.ne h8 (by decide))
      replace hLi := hLi.chg hc10 (by simpa using hLi.ne h8)
      replace hDi := hDi.chg hc10 (by simpa using hDi.ne h8)
      replace hb := hb.chg hc10 (by simpa using hb.ne h8 (by decide))
      replace hv2 := hv2.chg hc10 (hv2.apart h8 (by decide))
      replace hZ := hZ.trans1 hc10 (by first | exact .inr (by omega) | exact .inl (by simp))
      replace h8 := hb10
      replace hv2 : Row w10 5 1 v2 (piece V a P p (i + 1)).length (bv (piece V a P p (i + 1))) := by
        have e1 : (piece V a P p (i + 1)).length = (piece V a P p i).length + (512 - skp i) := by rw [piece_succ, List.length_append, List.length_drop, hl]
        rw [e1, ← piece_bv]; exact hv2
      refine OL.nil ?_
      refine TE.region ?_
      refine OL.store (j := 0) rfl rfl Tryd.sizeOf3 rfl h9 (by omega) (rfl) ?_
      intro w11 hb11 hc11
      replace hD := hD.chg hc11 (hD.apart h9 (by decide) (by decide))
      replace h3 := h3.chg hc11 (by simpa using h3.ne h9 (by decide))
      replace h6 := h6.chg hc11 (by simpa using h6.ne h9 (by decide))
      replace h7 := h7.chg hc11 (by simpa using h7.ne h9 (by decide))
      replace h8 := h8.chg hc11 (by simpa using h8.ne h9 (by decide))
      replace hgn := hgn.chg hc11 (by simp; omega)
      replace hga := hga.chg hc11 (by simpa using hga.ne h9 (by decide))
      replace hgp := hgp.chg hc11 (by simp; omega)
      replace hLi := hLi.chg hc11 (by simpa using hLi.ne h9)
      replace hDi := hDi.chg hc11 (by simpa using hDi.ne h9)
      replace hb := hb.chg hc11 (by simpa using hb.ne h9 (by decide))
      replace hv2 := hv2.chg hc11 (hv2.apart h9 (by decide))
      replace hZ := hZ.trans1 hc11 (by first | exact .inr (by omega) | exact .inl (by simp))
      replace h9 := hb11
      refine OL.nil ?_
      refine TE.inBlock ?_
      refine TE.roundEnd' hLi ?_
      intro w12 hL2 hc12
      replace hD := hD.chg hc12 (hD.apartL hLi)
      replace h3 := h3.chg hc12 (by simpa using (hLi.ne h3).symm)
      replace h6 := h6.chg hc12 (by simpa using (hLi.ne h6).symm)
      replace h7 := h7.chg hc12 (by simpa using (hLi.ne h7).symm)
      replace h8 := h8.chg hc12 (by simpa using (hLi.ne h8).symm)
      replace h9 := h9.chg hc12 (by simpa using (hLi.ne h9).symm)
      replace hgn := hgn.chg hc12 (by simpa using (hLi.ne hgn).symm)
      replace hga := hga.chg hc12 (by simpa using (hLi.ne hga).symm)
      replace hgp := hgp.chg hc12 (by simpa using (hLi.ne hgp).symm)
      replace hDi := hDi.chg hc12 (by simpa using hDi.neL hLi)
      replace hb := hb.chg hc12 (by simpa using (hLi.ne hb).symm)
      replace hv2 := hv2.chg hc12 (hLi.apart hv2)
      replace hZ := hZ.trans1 hc12 (.inr hgl)
      replace hLi := hL2
      rw [if_pos rfl]
      exact ⟨hZ, by rw [hR]; exact hLi, hDi, v2, h8, hv2, hm_v2, h9⟩
    · exact ⟨hch.mono (by simp), hL, hDf, .slice none 0 0, h8.chg0 hch, Row.nil _ _ _, Mine.nil _, h9.chg0 hch⟩
    · rintro e w2 ⟨rfl, h⟩; rcases h with ⟨h1, h2, h3, h4⟩ | h; exact ⟨rfl, r0, h2, by rw [hR]; simp [rec0], by rw [hR]; rfl, h3, h1, h4⟩; exact h.elim
  ·
    rintro D l a_ e w2 hgD hgl ⟨rfl, r, hL, hnb, hpn, hDf, hcw, v, h8x, hvx, hm_v, h9x⟩
    replace hD := hD.chg hcw (fun k_ hk_ hm_ => by simp at hm_; rcases hm_ with rfl | rfl; exact (hD.apart h8 (by decide) (by decide)) k_ hk_ (by simp); exact (hD.apart h9 (by decide) (by decide)) k_ hk_ (by simp))
    replace h3 := h3.chg hcw (fun hm_ => by simp at hm_; rcases hm_ with rfl | rfl; exact (h3.ne h8 (by decide)) rfl; exact (h3.ne h9 (by decide)) rfl)
    replace h6 := h6.chg hcw (fun hm_ => by simp at hm_; rcases hm_ with rfl | rfl; exact (h6.ne h8 (by decide)) rfl; exact (h6.ne h9 (by decide)) rfl)
    replace h7 := h7.chg hcw (fun hm_ => by simp at hm_; rcases hm_ with rfl | rfl; exact (h7.ne h8 (by decide)) rfl; exact (h7.ne h9 (by decide)) rfl)
    replace hgn := hgn.chg hcw (fun hm_ => by simp at hm_; rcases hm_ with rfl | rfl; exact (hgn.ne h8 (by decide)) rfl; omega)
    replace hga := hga.chg hcw (fun hm_ => by simp at hm_; rcases hm_ with rfl | rfl; exact (hga.ne h8 (by decide)) rfl; exact (hga.ne h9 (by decide)) rfl)
    replace hgp := hgp.chg hcw (fun hm_ => by simp at hm_; rcases hm_ with rfl | rfl; exact (hgp.ne h8 (by decide)) rfl; omega)
    replace hgl := Nat.le_trans hC.size hgl; replace hgD := Nat.le_trans hC.size hgD
    replace h8 := h8x; replace h9 := h9x; replace hC := hC.trans hcw (fun k_ hk_ => .inr (by simp at hk_; rcases hk_ with rfl | rfl <;> omega))
    have hv := hvx
    refine ⟨_, r, rfl, hL, hnb, ?_⟩
    intro w3 hL3 hc3
    replace hD := hD.chg hc3 (hD.apartL hL)
    replace h3 := h3.chg hc3 (by simpa using (hL.ne h3).symm)
    replace h6 := h6.chg hc3 (by simpa using (hL.ne h6).symm)
    replace h7 := h7.chg hc3 (by simpa using (hL.ne h7).symm)
    replace h8 := h8.chg hc3 (by simpa using (hL.ne h8).symm)
    replace h9 := h9.chg hc3 (by simpa using (hL.ne h9).symm)
    replace hgn := hgn.chg hc3 (by simpa using (hL.ne hgn).symm)
    replace hga := hga.chg hc3 (by simpa using (hL.ne hga).symm)
    replace hgp := hgp.chg hc3 (by simpa using (hL.ne hgp).symm)
    replace hv := hv.chg hc3 (hL.apart hv)
    replace hDf := hDf.chg hc3 (by simpa using hDf.neL hL)
    replace hC := hC.trans1 hc3 (.inr hgl)
    rw [hpn]; simp only [Option.map_none, Option.toList_none, List.nil_append]
    refine TE.inBlock ?_
    refine TE.seq ?_
    refine TE.region ?_
    refine OL.val (Run.load (i := 0) rfl Tryd.isAgg34 h8 (by omega) rfl) rfl ?_
    refine OL.val (Run.rowStr Tryd.underlying34 Tryd.underlying5 Tryd.underlying9 rfl hv) rfl ?_
    refine OL.store (j := 0) rfl rfl Tryd.sizeOf9 rfl h6 (by omega) (rfl) ?_
    intro w13 hb13 hc13
    replace hD := hD.chg hc13 (hD.apart h6 (by decide) (by decide))
    replace h3 := h3.chg hc13 (by simpa using h3.ne h6 (by decide))
    replace h7 := h7.chg hc13 (by simpa using h7.ne h6 (by decide))
    replace h8 := h8.chg hc13 (by simpa using h8.ne h6 (by decide))
    replace h9 := h9.chg hc13 (by simpa using h9.ne h6 (by decide))
    replace hgn := hgn.chg hc13 (by simpa using hgn.ne h6 (by decide))
    replace hga := hga.chg hc13 (by simpa using hga.ne h6 (by decide))
    replace hgp := hgp.chg hc13 (by simpa using hgp.ne h6 (by decide))
    replace hv := hv.chg hc13 (hv.apart h6 (by decide))
    replace hDf := hDf.chg hc13 (by simpa using hDf.ne h6)
    replace hC := hC.trans1 hc13 (by first | exact .inr (by omega) | exact .inl (by simp))
    replace h6 := hb13
    refine OL.store (j := 0) rfl rfl Tryd.sizeOf31 rfl h7 (by omega) (rfl) ?_
    intro w14 hb14 hc14
    replace hD := hD.chg hc14 (hD.apart h7 (by decide) (by decide))
    replace h3 := h3.chg hc14 (by simpa using h3.ne h7 (by decide))
    replace h6 := h6.chg hc14 (by simpa using h6.ne h7 (by decide))
    replace h8 := h8.chg hc14 (by simpa using h8.ne h7 (by decide))
    replace h9 := h9.chg hc14 (by simpa using h9.ne h7 (by decide))
    replace hgn := hgn.chg hc14 (by simpa using hgn.ne h7 (by decide))
    replace hga := hga.chg hc14 (by simpa using hga.ne h7 (by decide))
    replace hgp := hgp.chg hc14 (by simpa using hgp.ne h7 (by decide))
    replace hv := hv.chg hc14 (hv.apart h7 (by decide))
    replace hDf := hDf.chg hc14 (by simpa using hDf.ne h7)
    replace hC := hC.trans1 hc14 (by first | exact .inr (by omega) | exact .inl (by simp))
    replace h7 := hb14
    refine OL.nil ?_
    refine TE.retU (fun a_ ha_ => ?_)
    refine Unw.mark' hDf (fun wz hcz => ?_)
    replace hD := hD.chg hcz (hD.apartD hDf)
    replace h3 := h3.chg hcz (by simpa using (hDf.ne h3).symm)
    replace h6 := h6.chg hcz (by simpa using (hDf.ne h6).symm)
    replace h7 := h7.chg hcz (by simpa using (hDf.ne h7).symm)
    replace h8 := h8.chg hcz (by simpa using (hDf.ne h8).symm)
    replace h9 := h9.chg hcz (by simpa using (hDf.ne h9).symm)
    replace hgn := hgn.chg hcz (by simpa using (hDf.ne hgn).symm)
    replace hga := hga.chg hcz (by simpa using (hDf.ne hga).symm)
    replace hgp := hgp.chg hcz (by simpa using (hDf.ne hgp).symm)
    replace hv := hv.chg hcz (hDf.apart hv)
    replace hC := hC.trans1 hcz (.inr hgD)
    exact Unw.done (vs := [.string (str (piece V a P p m)), .int .i64 0]) ha_ Tryd.results57 ⟨⟨_, rfl, loadCell_at Tryd.isAgg9 h6 rfl⟩, ⟨_, rfl, loadCell_at Tryd.isAgg31 h7 rfl⟩, trivial⟩ ⟨rfl, hC⟩

end Go.Proofs.YtcologcjhenmkaaDoor
/- find, walked -/
set_option linter.unusedVariables false
set_option maxRecDepth 4000
namespace Go.Proofs.YtcologcjhenmkaaDoor
open Go.V Go.Rg Go.Frm Go.Sha
set_option maxHeartbeats 1000000 in
theorem find_any {tK tF : TypeId} {V : Int → List UInt8} {ks : List Nat} (d n c a P p m : Nat) (hP : 0 < P) (haP : a + 2 + P ≤ n) (hn : n ≤ 8192) (hp : p < P) (hm : m ≤ P) (hc0 : c ≤ 1073741824) (w : World) (hD : Dk 93 97 w d n (V) (c) false ks) (hK : Blk w 1 tK (iv .u32 K)) (hF : Blk w 0 tF (iv .i64 fldL)) : Calls Tryd.prog 34 #[.agg (arv d a P).toArray, .int .i64 (p : Int), .int .i64 (m : Int)] w (RetC (.tuple #[.agg (find V a P p m).1.cells.toArray, .int .i64 ((find V a P p m).2.1 : Int), .bool (find V a P p m).2.2, .int .i64 0]) w) := by
  refine calls_of_TE (vs := [.agg (arv d a P).toArray, .int .i64 (p : Int), .int .i64 (m : Int)]) Tryd.func34 Tryd.ntmps34 rfl (by simp) ?_
  have hC : Chg [] w w := Chg.refl _ _
  have h0w : 1 < w.heap.size := hK.lt
  have h1w : 0 < w.heap.size := hF.lt
  have hV : Full V := hD.len
  refine TE.seq ?_
  refine TE.region ?_
  refine OL.box rfl rfl ?_
  intro g3 w1 h3 hc1 hg_g3
  have lt_1_g3 : 1 < g3 := by have := hK.lt; omega
  have lt_0_g3 : 0 < g3 := by have := hF.lt; omega
  have ge_g3 : w.heap.size ≤ g3 := by have := hC.size; omega
  replace hK := hK.chg0 hc1
  replace hF := hF.chg0 hc1
  replace hD := hD.chg0 hc1
  replace hC := hC.then_ hc1
  have h3 : Blk w1 g3 66 (arv d a P) := h3
  refine OL.alloc Tryd.zeroValue74 rfl ?_
  intro g6 w2 h6 hc2 hg_g6
  have lt_1_g6 : 1 < g6 := by have := hK.lt; omega
  have lt_0_g6 : 0 < g6 := by have := hF.lt; omega
  have lt_g3_g6 : g3 < g6 := by have := h3.lt; omega
  have ge_g6 : w.heap.size ≤ g6 := by have := hC.size; omega
  replace hK := hK.chg0 hc2
  replace hF := hF.chg0 hc2
  replace hD := hD.chg0 hc2
  replace h3 := h3.chg0 hc2
  replace hC := hC.then_ hc2
  have h6 : Blk w2 g6 74 (Fr.zero.cells) := h6
  by_cases hm0 : m = 0
  ·
    have hf : find V a P p m = (Fr.zero, 0, false) := by unfold find; rw [if_pos hm0]
    refine OL.pure (Pure.assign rfl) rfl ?_
    refine OL.pure (Pure.assign rfl) rfl ?_
    refine OL.pure (Pure.assign rfl) rfl ?_
    refine OL.nil ?_
    refine TE.seq ?_
    refine TE.seq ?_
    refine TE.region ?_
    refine OL.pure (Pure.move rfl) rfl ?_
    refine OL.pure (Pure.lss rfl rfl) rfl ?_
    refine OL.cast (.bool true) 14 rfl (congrArg Value.bool (decide_eq_true (by omega))) ?_
    refine OL.nil ?_
    refine TE.condT rfl rfl ?_
    refine TE.seq ?_
    refine TE.region ?_
    refine OL.val (Run.loadAll rfl Tryd.underlying74 rfl h6 (rfl)) rfl ?_
    refine OL.storeRow (vs := Fr.zero.cells) rfl rfl (rfl) (by simp [Fr.cells, Value.oneCell']) h6 (Nat.le_refl 4) ?_
    intro w3 hb3 hc3
    replace hK := hK.chg hc3 (by simp; omega)
    replace hF := hF.chg hc3 (by simp; omega)
    replace hD := hD.chg hc3 (hD.apart h6 (by decide) (by decide))
    replace h3 := h3.chg hc3 (by simpa using h3.ne h6 (by decide))
    replace hC := hC.trans1 hc3 (by first | exact .inr (by omega) | exact .inl (by simp))
    replace h6 := hb3
    replace h6 := h6.all rfl
    refine OL.pure (Pure.assign rfl) rfl ?_
    refine OL.pure (Pure.assign rfl) rfl ?_
    refine OL.pure (Pure.assign rfl) rfl ?_
    refine OL.nil ?_
    exact TE.ret (vs := [.agg (find V a P p m).1.cells.toArray, .int .i64 ((find V a P p m).2.1 : Int), .bool (find V a P p m).2.2, .int .i64 0]) Tryd.results34 (⟨⟨_, rfl, loadRow_at Tryd.underlying74 rfl rfl h6 (by rw [hf]; rfl)⟩, ⟨by rw [hf]; rfl, by rw [hf]; rfl, rfl, trivial⟩⟩) ⟨rfl, hC⟩
  ·
    refine OL.pure (Pure.assign rfl) rfl ?_
    refine OL.pure (Pure.assign rfl) rfl ?_
    refine OL.pure (Pure.assign rfl) rfl ?_
    refine OL.nil ?_
    refine TE.seq ?_
    refine TE.seq ?_
    refine TE.region ?_
    refine OL.pure (Pure.move rfl) rfl ?_
    refine OL.pure (Pure.lss rfl rfl) rfl ?_
    refine OL.cast (.bool false) 14 rfl (congrArg Value.bool (decide_eq_false (by omega))) ?_
    refine OL.nil ?_
    refine TE.condF rfl rfl ?_
    refine TE.skip ?_
    refine TE.seq ?_
    refine TE.region ?_
    refine OL.val (Run.loadAll rfl Tryd.underlying66 rfl h3 (rfl)) rfl ?_
    refine OL.pure (Pure.move rfl) rfl ?_
    refine OL.call rfl Tryd.call57 rfl (piece_any d n c a P p 1 hP haP hn hp (by omega) hc0 _ hD) ?_
    rintro _ w4 ⟨rfl, hc4⟩
    replace hK := hK.chg0 hc4
    replace hF := hF.chg0 hc4
    replace hD := hD.chg0 hc4
    replace h3 := h3.chg0 hc4
    replace h6 := h6.chg0 hc4
    replace hC := hC.then_ hc4
    refine ⟨_, rfl, ?_⟩
    obtain ⟨f1, n1, e1, hd1⟩ : ∃ f n e, Frm.decode (piece V a P p 1) = (f, n, e) := ⟨_, _, _, rfl⟩
    have hx1 := piece_le hV a P p 1
    have hn1 := dec_size (s := piece V a P p 1)
    rw [hd1] at hn1; simp only at hn1
    refine OL.pure (Pure.move rfl) rfl ?_
    refine OL.pure (Pure.extract (vs := [.string (str (piece V a P p 1)), .int .i64 0]) (i := 0) rfl rfl) rfl ?_
    refine OL.pure (Pure.extract (vs := [.string (str (piece V a P p 1)), .int .i64 0]) (i := 1) rfl rfl) rfl ?_
    refine OL.pure (Pure.assign rfl) rfl ?_
    refine OL.pure (Pure.assign rfl) rfl ?_
    refine OL.nil ?_
    refine TE.seq ?_
    refine TE.seq ?_
    refine TE.region ?_
    refine OL.pure (Pure.move rfl) rfl ?_
    refine OL.pure (Pure.neq rfl rfl) rfl ?_
    refine OL.cast (.bool false) 23 rfl (rfl) ?_
    refine OL.nil ?_
    refine TE.condF rfl rfl ?_
    refine TE.skip ?_
    refine TE.seq ?_
    refine TE.region ?_
    refine OL.pure (Pure.move rfl) rfl ?_
    refine OL.call rfl Tryd.call53 rfl (decode_any (piece V a P p 1) (by omega) f1 n1 e1 hd1 _ hK hF) ?_
    rintro _ w5 ⟨rfl, hc5⟩
    replace hK := hK.chg0 hc5
    replace hF := hF.chg0 hc5
    replace hD := hD.chg0 hc5
    replace h3 := h3.chg0 hc5
    replace h6 := h6.chg0 hc5
    replace hC := hC.then_ hc5
    refine ⟨_, rfl, ?_⟩
    refine OL.pure (Pure.move rfl) rfl ?_
    refine OL.pure (Pure.extract (vs := [.agg f1.cells.toArray, .int .i64 (n1 : Int), .int .i64 e1]) (i := 0) rfl rfl) rfl ?_
    refine OL.pure (Pure.extract (vs := [.agg f1.cells.toArray, .int .i64 (n1 : Int), .int .i64 e1]) (i := 1) rfl rfl) rfl ?_
    refine OL.pure (Pure.extract (vs := [.agg f1.cells.toArray, .int .i64 (n1 : Int), .int .i64 e1]) (i := 2) rfl rfl) rfl ?_
    refine OL.storeRow (vs := f1.cells) rfl rfl (rfl) (by simp [Fr.cells, Value.oneCell']) h6 (Nat.le_refl 4) ?_
    intro w6 hb6 hc6
    replace hK := hK.chg hc6 (by simp; omega)
    replace hF := hF.chg hc6 (by simp; omega)
    replace hD := hD.chg hc6 (hD.apart h6 (by decide) (by decide))
    replace h3 := h3.chg hc6 (by simpa using h3.ne h6 (by decide))
    replace hC := hC.trans1 hc6 (by first | exact .inr (by omega) | exact .inl (by simp))
    replace h6 := hb6
    replace h6 := h6.all rfl
    by_cases he : e1 = 28
    ·
      refine OL.pure (Pure.assign rfl) rfl ?_
      refine OL.pure (Pure.assign rfl) rfl ?_
      refine OL.nil ?_
      refine TE.seq ?_
      refine TE.seq ?_
      refine TE.region ?_
      refine OL.pure (Pure.move rfl) rfl ?_
      refine OL.pure (Pure.eql rfl rfl) rfl ?_
      refine OL.cast (.bool true) 33 rfl (congrArg Value.bool (decide_eq_true (he))) ?_
      refine OL.nil ?_
      refine TE.condT rfl rfl ?_
      refine TE.seq ?_
      refine TE.seq ?_
      refine TE.region ?_
      refine OL.val (Run.loadAll rfl Tryd.underlying66 rfl h3 (rfl)) rfl ?_
      refine OL.pure (Pure.move rfl) rfl ?_
      refine OL.pure (Pure.move rfl) rfl ?_
      refine OL.call rfl Tryd.call57 rfl (piece_any d n c a P p m hP haP hn hp hm hc0 _ hD) ?_
      rintro _ w7 ⟨rfl, hc7⟩
      replace hK := hK.chg0 hc7
      replace hF := hF.chg0 hc7
      replace hD := hD.chg0 hc7
      replace h3 := h3.chg0 hc7
      replace h6 := h6.chg0 hc7
      replace hC := hC.then_ hc7
      refine ⟨_, rfl, ?_⟩
      obtain ⟨f2, n2, e2, hd2⟩ : ∃ f n e, Frm.decode (piece V a P p m) = (f, n, e) := ⟨_, _, _, rfl⟩
      have hx2 := piece_le hV a P p m
      have hn2 := dec_size (s := piece V a P p m)
      rw [hd2] at hn2; simp only at hn2
      refine OL.pure (Pure.move rfl) rfl ?_
      refine OL.pure (Pure.extract (vs := [.string (str (piece V a P p m)), .int .i64 0]) (i := 0) rfl rfl) rfl ?_
      refine OL.pure (Pure.extract (vs := [.string (str (piece V a P p m)), .int .i64 0]) (i := 1) rfl rfl) rfl ?_
      refine OL.pure (Pure.assign rfl) rfl ?_
      refine OL.pure (Pure.assign rfl) rfl ?_
      refine OL.nil ?_
      refine TE.seq ?_
      refine TE.region ?_
      refine OL.pure (Pure.move rfl) rfl ?_
      refine OL.pure (Pure.neq rfl rfl) rfl ?_
      refine OL.cast (.bool false) 42 rfl (rfl) ?_
      refine OL.nil ?_
      refine TE.condF rfl rfl ?_
      refine TE.skip ?_
      refine TE.region ?_
      refine OL.pure (Pure.move rfl) rfl ?_
      refine OL.call rfl Tryd.call53 rfl (decode_any (piece V a P p m) (by omega) f2 n2 e2 hd2 _ hK hF) ?_
      rintro _ w8 ⟨rfl, hc8⟩
      replace hK := hK.chg0 hc8
      replace hF := hF.chg0 hc8
      replace hD := hD.chg0 hc8
      replace h3 := h3.chg0 hc8
      replace h6 := h6.chg0 hc8
      replace hC := hC.then_ hc8
      refine ⟨_, rfl, ?_⟩
      refine OL.pure (Pure.move rfl) rfl ?_
      refine OL.pure (Pure.extract (vs := [.agg f2.cells.toArray, .int .i64 (n2 : Int), .int .i64 e2]) (i := 0) rfl rfl) rfl ?_
      refine OL.pure (Pure.extract (vs := [.agg f2.cells.toArray, .int .i64 (n2 : Int), .int .i64 e2]) (i := 1) rfl rfl) rfl ?_
      refine OL.pure (Pure.extract (vs := [.agg f2.cells.toArray, .int .i64 (n2 : Int), .int .i64 e2]) (i := 2) rfl rfl) rfl ?_
      refine OL.storeRow (vs := f2.cells) rfl rfl (rfl) (by simp [Fr.cells, Value.oneCell']) h6 (Nat.le_refl 4) ?_
      intro w9 hb9 hc9
      replace hK := hK.chg hc9 (by simp; omega)
      replace hF := hF.chg hc9 (by simp; omega)
      replace hD := hD.chg hc9 (hD.apart h6 (by decide) (by decide))
      replace h3 := h3.chg hc9 (by simpa using h3.ne h6 (by decide))
      replace hC := hC.trans1 hc9 (by first | exact .inr (by omega) | exact .inl (by simp))
      replace h6 := hb9
      replace h6 := h6.all rfl
      have hf : find V a P p m = (f2, need n2, decide (e2 = 0) && decide (f2.kind = 2)) := by
        unfold find; rw [if_neg hm0]; simp only [hd1]; rw [if_pos he]; simp only [hd2]
      by_cases hz2 : e2 = 0
      ·
        refine OL.pure (Pure.assign rfl) rfl ?_
        refine OL.pure (Pure.assign rfl) rfl ?_
        refine OL.nil ?_
        refine TE.seq ?_
        refine TE.planAll (.cons (0, true) (.cons (1, true) (.cons (3, true) (.cons (4, true) (.cons (2, false) (.cons (5, true) (.cons (6, true) (.cons (7, true) (.cons (8, true) (.cons (9, true) (.cons (10, false) (.cons (11, true) (.cons (12, true) (.cons (13, true) .nil)))))))))))))) (fun w_ => Blk w_ g6 74 (f2.cells)) rfl (by kernel_rfl) ?_
        have hS10 : Chg [] w9 w9.drew := Chg.drew _ _
        replace hK := hK.chg0 hS10
        replace hF := hF.chg0 hS10
        replace hD := hD.chg0 hS10
        replace h3 := h3.chg0 hS10
        replace h6 := h6.chg0 hS10
        replace hC := hC.then_ hS10
        refine PL.take rfl (fun w_ h_ => Run.loadAll rfl Tryd.underlying74 rfl h_ (rfl)) rfl h6 ?_
        refine PL.takeP rfl (Pure.move rfl) rfl h6 ?_
        refine PL.takeP rfl (Pure.move rfl) rfl h6 ?_
        refine PL.takeP rfl (Pure.eql rfl rfl) rfl h6 ?_
        refine PL.cast (.bool true) 55 rfl (congrArg Value.bool (decide_eq_true (hz2))) ?_
        refine PL.call rfl rfl Tryd.call46 rfl (needed_any n2 (by omega) _) ?_
        rintro _ _ ⟨rfl, rfl⟩
        refine ⟨_, rfl, h6, ?_⟩
        refine PL.takeP rfl (Pure.move rfl) rfl h6 ?_
        refine PL.takeG _ (fun _ h_ => h_) rfl rfl rfl rfl (fun w_ h_ => Pure.fieldAddr (r := 0) Tryd.runUnderlying74 rfl Tryd.sizeOf3 rfl rfl _) rfl h6 ?_
        refine PL.takeG _ (fun _ h_ => h_) rfl rfl rfl rfl (fun w_ h_ => Run.load (i := 0) rfl Tryd.isAgg3 h_ (by omega) rfl) rfl h6 ?_
        refine PL.takeG _ (fun _ h_ => h_) rfl rfl rfl rfl (fun w_ h_ => Pure.eql rfl rfl _) rfl h6 ?_
        refine PL.takeP rfl (Pure.pickT rfl rfl) rfl h6 ?_
        refine PL.storeRowS (vs := f2.cells) rfl rfl rfl (rfl) (by simp [Fr.cells, Value.oneCell']) h6 (Nat.le_refl 4) (fun w_ h_ _ => h_.all rfl) ?_
        intro w11 hb11 hc11
        replace hK := hK.chg hc11 (by simp; omega)
        replace hF := hF.chg hc11 (by simp; omega)
        replace hD := hD.chg hc11 (hD.apart h6 (by decide) (by decide))
        replace h3 := h3.chg hc11 (by simpa using h3.ne h6 (by decide))
        replace hC := hC.trans1 hc11 (by first | exact .inr (by omega) | exact .inl (by simp))
        replace h6 := hb11
        replace h6 := h6.all rfl
        refine PL.takeP rfl (Pure.assign rfl) rfl h6 ?_
        refine PL.takeP rfl (Pure.assign rfl) rfl h6 ?_
        refine PL.takeP rfl (Pure.assign rfl) rfl h6 ?_
        refine PL.nil ?_
        exact TE.ret (vs := [.agg (find V a P p m).1.cells.toArray, .int .i64 ((find V a P p m).2.1 : Int), .bool (find V a P p m).2.2, .int .i64 0]) Tryd.results34 (⟨⟨_, rfl, loadRow_at Tryd.underlying74 rfl rfl h6 (by rw [hf]; rfl)⟩, by rw [hf]; rfl, by rw [hf, show (decide (e2 = 0) && decide (f2.kind = 2)) = decide (f2.kind = 2) from by simp [hz2]]; rfl, rfl, trivial⟩) ⟨rfl, hC⟩
      ·
        refine OL.pure (Pure.assign rfl) rfl ?_
        refine OL.pure (Pure.assign rfl) rfl ?_
        refine OL.nil ?_
        refine TE.seq ?_
        refine TE.planAll (.cons (0, true) (.cons (1, true) (.cons (3, true) (.cons (4, true) (.cons (2, false) (.cons (5, true) (.cons (6, true) (.cons (7, true) (.cons (8, true) (.cons (9, true) (.cons (10, false) (.cons (11, true) (.cons (12, true) (.cons (13, true) .nil)))))))))))))) (fun w_ => Blk w_ g6 74 (f2.cells)) rfl (by kernel_rfl) ?_
        have hS12 : Chg [] w9 w9.drew := Chg.drew _ _
        replace hK := hK.chg0 hS12
        replace hF := hF.chg0 hS12
        replace hD := hD.chg0 hS12
        replace h3 := h3.chg0 hS12
        replace h6 := h6.chg0 hS12
        replace hC := hC.then_ hS12
        refine PL.take rfl (fun w_ h_ => Run.loadAll rfl Tryd.underlying74 rfl h_ (rfl)) rfl h6 ?_
        refine PL.takeP rfl (Pure.move rfl) rfl h6 ?_
        refine PL.takeP rfl (Pure.move rfl) rfl h6 ?_
        refine PL.takeP rfl (Pure.eql rfl rfl) rfl h6 ?_
        refine PL.cast (.bool false) 55 rfl (congrArg Value.bool (decide_eq_false (hz2))) ?_
        refine PL.call rfl rfl Tryd.call46 rfl (needed_any n2 (by omega) _) ?_
        rintro _ _ ⟨rfl, rfl⟩
        refine ⟨_, rfl, h6, ?_⟩
        refine PL.takeP rfl (Pure.move rfl) rfl h6 ?_
        refine PL.takeNo rfl rfl rfl rfl rfl rfl h6 ?_
        refine PL.takeNo rfl rfl rfl rfl rfl rfl h6 ?_
        refine PL.takeNo rfl rfl rfl rfl rfl rfl h6 ?_
        refine PL.takeP rfl (Pure.pickF rfl rfl) rfl h6 ?_
        refine PL.storeRowS (vs := f2.cells) rfl rfl rfl (rfl) (by simp [Fr.cells, Value.oneCell']) h6 (Nat.le_refl 4) (fun w_ h_ _ => h_.all rfl) ?_
        intro w13 hb13 hc13
        replace hK := hK.chg hc13 (by simp; omega)
        replace hF := hF.chg hc13 (by simp; omega)
        replace hD := hD.chg hc13 (hD.apart h6 (by decide) (by decide))
        replace h3 := h3.chg hc13 (by simpa using h3.ne h6 (by decide))
        replace hC := hC.trans1 hc13 (by first | exact .inr (by omega) | exact .inl (by simp))
        replace h6 := hb13
        replace h6 := h6.all rfl
        refine PL.takeP rfl (Pure.assign rfl) rfl h6 ?_
        refine PL.takeP rfl (Pure.assign rfl) rfl h6 ?_
        refine PL.takeP rfl (Pure.assign rfl) rfl h6 ?_
        refine PL.nil ?_
        exact TE.ret (vs := [.agg (find V a P p m).1.cells.toArray, .int .i64 ((find V a P p m).2.1 : Int), .bool (find V a P p m).2.2, .int .i64 0]) Tryd.results34 (⟨⟨_, rfl, loadRow_at Tryd.underlying74 rfl rfl h6 (by rw [hf]; rfl)⟩, by rw [hf]; rfl, by rw [hf, show (decide (e2 = 0) && decide (f2.kind = 2)) = false from by simp [hz2]]; rfl, rfl, trivial⟩) ⟨rfl, hC⟩
    ·
      have hf : find V a P p m = (f1, need n1, decide (e1 = 0) && decide (f1.kind = 2)) := by
        unfold find; rw [if_neg hm0]; simp only [hd1]; rw [if_neg he]
      by_cases hz1 : e1 = 0
      ·
        refine OL.pure (Pure.assign rfl) rfl ?_
        refine OL.pure (Pure.assign rfl) rfl ?_
        refine OL.nil ?_
        refine TE.seq ?_
        refine TE.seq ?_
        refine TE.region ?_
        refine OL.pure (Pure.move rfl) rfl ?_
        refine OL.pure (Pure.eql rfl rfl) rfl ?_
        refine OL.cast (.bool false) 33 rfl (congrArg Value.bool (decide_eq_false (he))) ?_
        refine OL.nil ?_
        refine TE.condF rfl rfl ?_
        refine TE.skip ?_
        refine TE.seq ?_
        refine TE.planAll (.cons (0, true) (.cons (1, true) (.cons (3, true) (.cons (4, true) (.cons (2, false) (.cons (5, true) (.cons (6, true) (.cons (7, true) (.cons (8, true) (.cons (9, true) (.cons (10, false) (.cons (11, true) (.cons (12, true) (.cons (13, true) .nil)))))))))))))) (fun w_ => Blk w_ g6 74 (f1.cells)) rfl (by kernel_rfl) ?_
        have hS14 : Chg [] w6 w6.drew := Chg.drew _ _
        replace hK := hK.chg0 hS14
        replace hF := hF.chg0 hS14
        replace hD := hD.chg0 hS14
        replace h3 := h3.chg0 hS14
        replace h6 := h6.chg0 hS14
        replace hC := hC.then_ hS14
        refine PL.take rfl (fun w_ h_ => Run.loadAll rfl Tryd.underlying74 rfl h_ (rfl)) rfl h6 ?_
        refine PL.takeP rfl (Pure.move rfl) rfl h6 ?_
        refine PL.takeP rfl (Pure.move rfl) rfl h6 ?_
        refine PL.takeP rfl (Pure.eql rfl rfl) rfl h6 ?_
        refine PL.cast (.bool true) 55 rfl (congrArg Value.bool (decide_eq_true (hz1))) ?_
        refine PL.call rfl rfl Tryd.call46 rfl (needed_any n1 (by omega) _) ?_
        rintro _ _ ⟨rfl, rfl⟩
        refine ⟨_, rfl, h6, ?_⟩
        refine PL.takeP rfl (Pure.move rfl) rfl h6 ?_
        refine PL.takeG _ (fun _ h_ => h_) rfl rfl rfl rfl (fun w_ h_ => Pure.fieldAddr (r := 0) Tryd.runUnderlying74 rfl Tryd.sizeOf3 rfl rfl _) rfl h6 ?_
        refine PL.takeG _ (fun _ h_ => h_) rfl rfl rfl rfl (fun w_ h_ => Run.load (i := 0) rfl Tryd.isAgg3 h_ (by omega) rfl) rfl h6 ?_
        refine PL.takeG _ (fun _ h_ => h_) rfl rfl rfl rfl (fun w_ h_ => Pure.eql rfl rfl _) rfl h6 ?_
        refine PL.takeP rfl (Pure.pickT rfl rfl) rfl h6 ?_
        refine PL.storeRowS (vs := f1.cells) rfl rfl rfl (rfl) (by simp [Fr.cells, Value.oneCell']) h6 (Nat.le_refl 4) (fun w_ h_ _ => h_.all rfl) ?_
        intro w15 hb15 hc15
        replace hK := hK.chg hc15 (by simp; omega)
        replace hF := hF.chg hc15 (by simp; omega)
        replace hD := hD.chg hc15 (hD.apart h6 (by decide) (by decide))
        replace h3 := h3.chg hc15 (by simpa using h3.ne h6 (by decide))
        replace hC := hC.trans1 hc15 (by first | exact .inr (by omega) | exact .inl (by simp))
        replace h6 := hb15
        replace h6 := h6.all rfl
        refine PL.takeP rfl (Pure.assign rfl) rfl h6 ?_
        refine PL.takeP rfl (Pure.assign rfl) rfl h6 ?_
        refine PL.takeP rfl (Pure.assign rfl) rfl h6 ?_
        refine PL.nil ?_
        exact TE.ret (vs := [.agg (find V a P p m).1.cells.toArray, .int .i64 ((find V a P p m).2.1 : Int), .bool (find V a P p m).2.2, .int .i64 0]) Tryd.results34 (⟨⟨_, rfl, loadRow_at Tryd.underlying74 rfl rfl h6 (by rw [hf]; rfl)⟩, by rw [hf]; rfl, by rw [hf, show (decide (e1 = 0) && decide (f1.kind = 2)) = decide (f1.kind = 2) from by simp [hz1]]; rfl, rfl, trivial⟩) ⟨rfl, hC⟩
      ·
        refine OL.pure (Pure.assign rfl) rfl ?_
        refine OL.pure (Pure.assign rfl) rfl ?_
        refine OL.nil ?_
        refine TE.seq ?_
        refine TE.seq ?_
        refine TE.region ?_
        refine OL.pure (Pure.move rfl) rfl ?_
        refine OL.pure (Pure.eql rfl rfl) rfl ?_
        refine OL.cast (.bool false) 33 rfl (congrArg Value.bool (decide_eq_false (he))) ?_
        refine OL.nil ?_
        refine TE.condF rfl rfl ?_
        refine TE.skip ?_
        refine TE.seq ?_
        refine TE.planAll (.cons (0, true) (.cons (1, true) (.cons (3, true) (.cons (4, true) (.cons (2, false) (.cons (5, true) (.cons (6, true) (.cons (7, true) (.cons (8, true) (.cons (9, true) (.cons (10, false) (.cons (11, true) (.cons (12, true) (.cons (13, true) .nil)))))))))))))) (fun w_ => Blk w_ g6 74 (f1.cells)) rfl (by kernel_rfl) ?_
        have hS16 : Chg [] w6 w6.drew := Chg.drew _ _
        replace hK := hK.chg0 hS16
        replace hF := hF.chg0 hS16
        replace hD := hD.chg0 hS16
        replace h3 := h3.chg0 hS16
        replace h6 := h6.chg0 hS16
        replace hC := hC.then_ hS16
        refine PL.take rfl (fun w_ h_ => Run.loadAll rfl Tryd.underlying74 rfl h_ (rfl)) rfl h6 ?_
        refine PL.takeP rfl (Pure.move rfl) rfl h6 ?_
        refine PL.takeP rfl (Pure.move rfl) rfl h6 ?_
        refine PL.takeP rfl (Pure.eql rfl rfl) rfl h6 ?_
        refine PL.cast (.bool false) 55 rfl (congrArg Value.bool (decide_eq_false (hz1))) ?_
        refine PL.call rfl rfl Tryd.call46 rfl (needed_any n1 (by omega) _) ?_
        rintro _ _ ⟨rfl, rfl⟩
        refine ⟨_, rfl, h6, ?_⟩
        refine PL.takeP rfl (Pure.move rfl) rfl h6 ?_
        refine PL.takeNo rfl rfl rfl rfl rfl rfl h6 ?_
        refine PL.takeNo rfl rfl rfl rfl rfl rfl h6 ?_
        refine PL.takeNo rfl rfl rfl rfl rfl rfl h6 ?_
        refine PL.takeP rfl (Pure.pickF rfl rfl) rfl h6 ?_
        refine PL.storeRowS (vs := f1.cells) rfl rfl rfl (rfl) (by simp [Fr.cells, Value.oneCell']) h6 (Nat.le_refl 4) (fun w_ h_ _ => h_.all rfl) ?_
        intro w17 hb17 hc17
        replace hK := hK.chg hc17 (by simp; omega)
        replace hF := hF.chg hc17 (by simp; omega)
        replace hD := hD.chg hc17 (hD.apart h6 (by decide) (by decide))
        replace h3 := h3.chg hc17 (by simpa using h3.ne h6 (by decide))
        replace hC := hC.trans1 hc17 (by first | exact .inr (by omega) | exact .inl (by simp))
        replace h6 := hb17
        replace h6 := h6.all rfl
        refine PL.takeP rfl (Pure.assign rfl) rfl h6 ?_
        refine PL.takeP rfl (Pure.assign rfl) rfl h6 ?_
        refine PL.takeP rfl (Pure.assign rfl) rfl h6 ?_
        refine PL.nil ?_
        exact TE.ret (vs := [.agg (find V a P p m).1.cells.toArray, .int .i64 ((find V a P p m).2.1 : Int), .bool (find V a P p m).2.2, .int .i64 0]) Tryd.results34 (⟨⟨_, rfl, loadRow_at Tryd.underlying74 rfl rfl h6 (by rw [hf]; rfl)⟩, by rw [hf]; rfl, by rw [hf, show (decide (e1 = 0) && decide (f1.kind = 2)) = false from by simp [hz1]]; rfl, rfl, trivial⟩) ⟨rfl, hC⟩

end Go.Proofs.YtcologcjhenmkaaDoor
/- readHead, walked -/
set_option linter.unusedVariables false
set_option maxRecDepth 4000
namespace Go.Proofs.YtcologcjhenmkaaDoor
open Go.V Go.Rg Go.Frm Go.Sha
set_option maxHeartbeats 1000000 in
theorem readhead_any {tK tF : TypeId} {V : Int → List UInt8} {ks : List Nat} (d n c a P i : Nat) (hP : 0 < P) (haP : a + 2 + P ≤ n) (hn : n ≤ 8192) (hi : i < 2) (hc0 : c ≤ 1073741824) (w : World) (hD : Dk 93 97 w d n (V) (c) false ks) (hK : Blk w 1 tK (iv .u32 K)) (hF : Blk w 0 tF (iv .i64 fldL)) : Calls Tryd.prog 33 #[.agg (arv d a P).toArray, .int .i64 (i : Int)] w (fun e w_ => ∃ x : Hd, e = .returned (.tuple #[.agg x.cells.toArray, .bool (rdHead (V ((a + i : Nat) : Int)) P i).isSome, .int .i64 0]) ∧ (∀ h, rdHead (V ((a + i : Nat) : Int)) P i = some h → x = h) ∧ Chg [] w w_) := by
  refine calls_of_TE (vs := [.agg (arv d a P).toArray, .int .i64 (i : Int)]) Tryd.func33 Tryd.ntmps33 rfl (by simp) ?_
  have hC : Chg [] w w := Chg.refl _ _
  have h0w : 1 < w.heap.size := hK.lt
  have h1w : 0 < w.heap.size := hF.lt
  have hl := hD.len ((a + i : Nat) : Int)
  refine TE.seq ?_
  refine TE.region ?_
  refine OL.box rfl rfl ?_
  intro g2 w1 h2 hc1 hg_g2
  have lt_1_g2 : 1 < g2 := by have := hK.lt; omega
  have lt_0_g2 : 0 < g2 := by have := hF.lt; omega
  have ge_g2 : w.heap.size ≤ g2 := by have := hC.size; omega
  replace hK := hK.chg0 hc1
  replace hF := hF.chg0 hc1
  replace hD := hD.chg0 hc1
  replace hC := hC.then_ hc1
  have h2 : Blk w1 g2 66 (arv d a P) := h2
  refine OL.alloc Tryd.zeroValue70 rfl ?_
  intro g4 w2 h4 hc2 hg_g4
  have lt_1_g4 : 1 < g4 := by have := hK.lt; omega
  have lt_0_g4 : 0 < g4 := by have := hF.lt; omega
  have lt_g2_g4 : g2 < g4 := by have := h2.lt; omega
  have ge_g4 : w.heap.size ≤ g4 := by have := hC.size; omega
  replace hK := hK.chg0 hc2
  replace hF := hF.chg0 hc2
  replace hD := hD.chg0 hc2
  replace h2 := h2.chg0 hc2
  replace hC := hC.then_ hc2
  have h4 : Blk w2 g4 70 (Hd.zero.cells) := h4
  refine OL.pure (Pure.assign rfl) rfl ?_
  refine OL.pure (Pure.assign rfl) rfl ?_
  refine OL.nil ?_
  refine TE.seq ?_
  refine TE.region ?_
  refine OL.pure (Pure.fieldAddr (r := 0) Tryd.runUnderlying66 rfl Tryd.sizeOf26 rfl rfl) rfl ?_
  refine OL.val (Run.load (i := 0) rfl Tryd.isAgg26 h2 (by omega) rfl) rfl ?_
  refine OL.pure (Pure.fieldAddr (r := 1) Tryd.runUnderlying66 rfl Tryd.sizeOf3 rfl rfl) rfl ?_
  refine OL.val (Run.load (i := 1) rfl Tryd.isAgg3 h2 (by omega) rfl) rfl ?_
  refine OL.pure (Pure.move rfl) rfl ?_
  refine OL.pure (Pure.add rfl rfl (i64 (by omega) (by omega))) rfl ?_
  refine OL.cast (.int .i64 ((a + i : Nat) : Int)) 18 rfl (congrArg (Value.int .i64) (by omega)) ?_
  refine OL.call rfl Tryd.call28 rfl (dread_any d n c (a + i) (by omega) hc0 _ hD) ?_
  rintro _ wr ⟨gb, rfl, hb, hcr, hgb⟩
  have lt_1_gb : 1 < gb := by have := hK.lt; omega
  have lt_0_gb : 0 < gb := by have := hF.lt; omega
  have lt_g2_gb : g2 < gb := by have := h2.lt; omega
  have lt_g4_gb : g4 < gb := by have := h4.lt; omega
  replace hK := hK.chg0 hcr
  replace hF := hF.chg0 hcr
  replace hD := hD.chg0 hcr
  replace h2 := h2.chg0 hcr
  replace h4 := h4.chg0 hcr
  replace hC := hC.then_ hcr
  refine ⟨_, rfl, ?_⟩
  refine OL.pure (Pure.move rfl) rfl ?_
  refine OL.pure (Pure.extract (vs := [.slice (some ⟨gb, 0, none⟩) 512 512, .int .i64 0]) (i := 0) rfl rfl) rfl ?_
  refine OL.pure (Pure.extract (vs := [.slice (some ⟨gb, 0, none⟩) 512 512, .int .i64 0]) (i := 1) rfl rfl) rfl ?_
  refine OL.pure (Pure.assign rfl) rfl ?_
  refine OL.pure (Pure.assign rfl) rfl ?_
  refine OL.nil ?_
  refine TE.seq ?_
  refine TE.seq ?_
  refine TE.region ?_
  refine OL.pure (Pure.move rfl) rfl ?_
  refine OL.pure (Pure.neq rfl rfl) rfl ?_
  refine OL.cast (.bool false) 23 rfl (rfl) ?_
  refine OL.nil ?_
  refine TE.condF rfl rfl ?_
  refine TE.skip ?_
  refine TE.seq ?_
  refine TE.region ?_
  refine OL.pure (Pure.move rfl) rfl ?_
  refine OL.val (Run.toStr (bs := (V ((a + i : Nat) : Int))) Tryd.underlying34 Tryd.underlying5 Tryd.underlying9 rfl hb hl (by rw [List.drop_zero]; exact List.take_of_length_le (by rw [bv_len, hl]; exact Nat.le_refl _))) rfl ?_
  obtain ⟨f, m, e, hd⟩ : ∃ f m e, Frm.decode (V ((a + i : Nat) : Int)) = (f, m, e) := ⟨_, _, _, rfl⟩
  have hpl := dec_pay (V ((a + i : Nat) : Int)); rw [hd] at hpl; simp only at hpl
  refine OL.call rfl Tryd.call53 rfl (decode_any (V ((a + i : Nat) : Int)) (by omega) f m e hd _ hK hF) ?_
  rintro _ w3 ⟨rfl, hc3⟩
  replace hK := hK.chg0 hc3
  replace hF := hF.chg0 hc3
  replace hD := hD.chg0 hc3
  replace h2 := h2.chg0 hc3
  replace h4 := h4.chg0 hc3
  replace hC := hC.then_ hc3
  refine ⟨_, rfl, ?_⟩
  refine OL.pure (Pure.move rfl) rfl ?_
  refine OL.pure (Pure.extract (vs := [.agg f.cells.toArray, .int .i64 (m : Int), .int .i64 e]) (i := 0) rfl rfl) rfl ?_
  refine OL.pure (Pure.extract (vs := [.agg f.cells.toArray, .int .i64 (m : Int), .int .i64 e]) (i := 1) rfl rfl) rfl ?_
  refine OL.pure (Pure.extract (vs := [.agg f.cells.toArray, .int .i64 (m : Int), .int .i64 e]) (i := 2) rfl rfl) rfl ?_
  refine OL.alloc Tryd.zeroValue74 rfl ?_
  intro g8 w4 h8 hc4 hg_g8
  have lt_1_g8 : 1 < g8 := by have := hK.lt; omega
  have lt_0_g8 : 0 < g8 := by have := hF.lt; omega
  have lt_g2_g8 : g2 < g8 := by have := h2.lt; omega
  have lt_g4_g8 : g4 < g8 := by have := h4.lt; omega
  have ge_g8 : w.heap.size ≤ g8 := by have := hC.size; omega
  replace hK := hK.chg0 hc4
  replace hF := hF.chg0 hc4
  replace hD := hD.chg0 hc4
  replace h2 := h2.chg0 hc4
  replace h4 := h4.chg0 hc4
  replace hC := hC.then_ hc4
  have h8 : Blk w4 g8 74 (Fr.zero.cells) := h8
  refine OL.storeRow (vs := f.cells) rfl rfl (rfl) (by simp [Fr.cells, Value.oneCell']) h8 (Nat.le_refl 4) ?_
  intro w5 hb5 hc5
  replace hK := hK.chg hc5 (by simp; omega)
  replace hF := hF.chg hc5 (by simp; omega)
  replace hD := hD.chg hc5 (hD.apart h8 (by decide) (by decide))
  replace h2 := h2.chg hc5 (by simpa using h2.ne h8 (by decide))
  replace h4 := h4.chg hc5 (by simpa using h4.ne h8 (by decide))
  replace hC := hC.trans1 hc5 (by first | exact .inr (by omega) | exact .inl (by simp))
  replace h8 := hb5
  replace h8 := h8.all rfl
  by_cases he : e = 0
  ·
    have hst : f.stream = (f.stream.toNat : Int) := by have h1 := dec_ok (s := (V ((a + i : Nat) : Int))) (by rw [hd]; exact he); have h2 := h1.2.2.2.2.2.2.2; rw [hd] at h2; have h3 : f.stream = (stN (V ((a + i : Nat) : Int)) : Int) := congrArg (fun x => x.1.stream) h2; omega
    by_cases hk : f.kind = 1
    ·
      by_cases hnb : f.number = 0
      ·
        by_cases hsp : f.stream % 2 = (i : Int)
        ·
          refine OL.pure (Pure.assign rfl) rfl ?_
          refine OL.pure (Pure.assign rfl) rfl ?_
          refine OL.nil ?_
          refine TE.seq ?_
          refine TE.seq ?_
          refine TE.region ?_
          refine OL.pure (Pure.move rfl) rfl ?_
          refine OL.pure (Pure.neq rfl rfl) rfl ?_
          refine OL.cast (.bool false) 34 rfl (congrArg Value.bool (decide_eq_false (fun h => h he))) ?_
          refine OL.pure (Pure.move rfl) rfl ?_
          refine OL.want rfl rfl rfl (Pure.fieldAddr (r := 0) Tryd.runUnderlying74 rfl Tryd.sizeOf3 rfl rfl _) rfl ?_
          refine OL.want rfl rfl rfl (Run.load (i := 0) rfl Tryd.isAgg3 h8 (by omega) rfl) rfl ?_
          refine OL.want rfl rfl rfl (Pure.neq rfl rfl _) rfl ?_
          refine OL.cast (.bool false) 38 rfl (congrArg Value.bool (decide_eq_false (fun h => h hk))) ?_
          refine OL.pure (Pure.pickF rfl rfl) rfl ?_
          refine OL.pure (Pure.move rfl) rfl ?_
          refine OL.want rfl rfl rfl (Pure.fieldAddr (r := 2) Tryd.runUnderlying74 rfl Tryd.sizeOf3 rfl rfl _) rfl ?_
          refine OL.want rfl rfl rfl (Run.load (i := 2) rfl Tryd.isAgg3 h8 (by omega) rfl) rfl ?_
          refine OL.want rfl rfl rfl (Pure.neq rfl rfl _) rfl ?_
          refine OL.cast (.bool false) 43 rfl (congrArg Value.bool (decide_eq_false (fun h => h hnb))) ?_
          refine OL.pure (Pure.pickF rfl rfl) rfl ?_
          refine OL.pure (Pure.move rfl) rfl ?_
          refine OL.want rfl rfl rfl (Pure.fieldAddr (r := 1) Tryd.runUnderlying74 rfl Tryd.sizeOf3 rfl rfl _) rfl ?_
          refine OL.want rfl rfl rfl (Run.load (i := 1) rfl Tryd.isAgg3 h8 (by omega) rfl) rfl ?_
          refine OL.want rfl rfl rfl (Pure.rem rfl rfl (by omega) (by omega) _) rfl ?_
          refine OL.want rfl rfl rfl (Pure.move rfl _) rfl ?_
          refine OL.want rfl rfl rfl (Pure.neq rfl rfl _) rfl ?_
          refine OL.cast (.bool false) 50 rfl (congrArg Value.bool (decide_eq_false (fun h => h hsp))) ?_
          refine OL.pure (Pure.pickF rfl rfl) rfl ?_
          refine OL.nil ?_
          refine TE.condF rfl rfl ?_
          refine TE.skip ?_
          refine TE.seq ?_
          refine TE.region ?_
          refine OL.pure (Pure.fieldAddr (r := 3) Tryd.runUnderlying74 rfl Tryd.sizeOf9 rfl rfl) rfl ?_
          refine OL.val (Run.load (i := 3) rfl Tryd.isAgg9 h8 (by omega) rfl) rfl ?_
          refine OL.toBytes Tryd.underlying9 Tryd.underlying34 Tryd.underlying5 rfl rfl ?_
          intro pv w6 hpv hc6 ho_pv
          have hm_pv : Mine w.heap.size pv := Mine.new ho_pv (by have := hC.size; omega)
          replace hK := hK.chg0 hc6
          replace hF := hF.chg0 hc6
          replace hD := hD.chg0 hc6
          replace h2 := h2.chg0 hc6
          replace h4 := h4.chg0 hc6
          replace h8 := h8.chg0 hc6
          replace hC := hC.then_ hc6
          refine OL.call rfl Tryd.call54 rfl (newreader_any pv f.payload (by omega) _ hpv) ?_
          rintro _ wn ⟨gr, u, rfl, hr, hu, hcn, hgr, hmu⟩
          have lt_1_gr : 1 < gr := by have := hK.lt; omega
          have lt_0_gr : 0 < gr := by have := hF.lt; omega
          have lt_g2_gr : g2 < gr := by have := h2.lt; omega
          have lt_g4_gr : g4 < gr := by have := h4.lt; omega
          have lt_g8_gr : g8 < gr := by have := h8.lt; omega
          have ge_gr : w.heap.size ≤ gr := by have := hC.size; omega
          replace hK := hK.chg0 hcn
          replace hF := hF.chg0 hcn
          replace hD := hD.chg0 hcn
          replace h2 := h2.chg0 hcn
          replace h4 := h4.chg0 hcn
          replace h8 := h8.chg0 hcn
          replace hC := hC.then_ hcn
          refine ⟨_, rfl, ?_⟩
          obtain ⟨v1, q1, z1, hr1⟩ : ∃ v q z, rdN f.payload 1099511627775 (0, 0) = (v, q, z) := ⟨_, _, _, rfl⟩
          obtain ⟨v2, q2, z2, hr2⟩ : ∃ v q z, rdN f.payload (P - 1) (q1, z1) = (v, q, z) := ⟨_, _, _, rfl⟩
          obtain ⟨v3, q3, z3, hr3⟩ : ∃ v q z, rdN f.payload f.stream.toNat (q2, z2) = (v, q, z) := ⟨_, _, _, rfl⟩
          have hq1 : q1 ≤ f.payload.length := by have := rdN_at (b := f.payload) (most := 1099511627775) (at_ := 0) (f := 0) (by omega); rw [hr1] at this; exact this
          have hq2 : q2 ≤ f.payload.length := by have := rdN_at (b := f.payload) (most := P - 1) (f := z1) hq1; rw [hr2] at this; exact this
          have hq3 : q3 ≤ f.payload.length := by have := rdN_at (b := f.payload) (most := f.stream.toNat) (f := z2) hq2; rw [hr3] at this; exact this
          have hsb : f.stream.toNat < 9223372036854775808 := by have h1 := dec_ok (s := (V ((a + i : Nat) : Int))) (by rw [hd]; exact he); have h2 := h1.2.2.2.2.2.2.2; rw [hd] at h2; have h3 : f.stream = (stN (V ((a + i : Nat) : Int)) : Int) := congrArg (fun x => x.1.stream) h2; have := h1.2.2.2.1; omega
          refine OL.pure (Pure.assign rfl) rfl ?_
          refine OL.nil ?_
          refine TE.seq ?_
          refine TE.plan 14 (.cons (0, true) (.cons (1, true) (.cons (2, true) (.cons (4, true) (.cons (5, true) (.cons (6, true) (.cons (7, true) (.cons (9, true) (.cons (10, true) (.cons (11, true) (.cons (3, false) (.cons (8, false) (.cons (12, false) (.cons (13, true) .nil)))))))))))))) (fun w_ => Blk w_ g8 74 (f.cells) ∧ Blk w_ g2 66 (arv d a P)) rfl (by kernel_rfl) rfl ?_
          have hS7 : Chg [] wn wn.drew := Chg.drew _ _
          replace hK := hK.chg0 hS7
          replace hF := hF.chg0 hS7
          replace hD := hD.chg0 hS7
          replace h2 := h2.chg0 hS7
          replace h4 := h4.chg0 hS7
          replace h8 := h8.chg0 hS7
          replace hr := hr.chg0 hS7
          replace hu := hu.chg0 hS7
          replace hC := hC.then_ hS7
          refine PL.takeP rfl (Pure.fieldAddr (r := 1) Tryd.runUnderlying74 rfl Tryd.sizeOf3 rfl rfl) rfl ⟨h8, h2⟩ ?_
          refine PL.take rfl (fun w_ h_ => Run.load (i := 1) rfl Tryd.isAgg3 h_.1 (by omega) rfl) rfl ⟨h8, h2⟩ ?_
          refine PL.cast (.int .i64 (f.stream.toNat : Int)) 58 rfl (congrArg (Value.int .i64) hst) ?_
          refine PL.takeP rfl (Pure.move rfl) rfl ⟨h8, h2⟩ ?_
          refine PL.takeP rfl (Pure.move rfl) rfl ⟨h8, h2⟩ ?_
          refine PL.takeP rfl (Pure.fieldAddr (r := 2) Tryd.runUnderlying66 rfl Tryd.sizeOf3 rfl rfl) rfl ⟨h8, h2⟩ ?_
          refine PL.take rfl (fun w_ h_ => Run.load (i := 2) rfl Tryd.isAgg3 h_.2 (by omega) rfl) rfl ⟨h8, h2⟩ ?_
          refine PL.takeP rfl (Pure.sub rfl rfl (i64 (by omega) (by omega))) rfl ⟨h8, h2⟩ ?_
          refine PL.cast (.int .i64 ((P - 1 : Nat) : Int)) 64 rfl (congrArg (Value.int .i64) (by omega)) ?_
          refine PL.takeP rfl (Pure.move rfl) rfl ⟨h8, h2⟩ ?_
          refine PL.takeP rfl (Pure.fieldAddr (r := 1) Tryd.runUnderlying74 rfl Tryd.sizeOf3 rfl rfl) rfl ⟨h8, h2⟩ ?_
          refine PL.take rfl (fun w_ h_ => Run.load (i := 1) rfl Tryd.isAgg3 h_.1 (by omega) rfl) rfl ⟨h8, h2⟩ ?_
          refine PL.cast (.int .i64 (f.stream.toNat : Int)) 68 rfl (congrArg (Value.int .i64) hst) ?_
          refine PL.call rfl rfl Tryd.call55 rfl (rnumber_any gr 0 0 1099511627775 u f.payload (by omega) (by omega) (by omega) _ hr hu) ?_
          rw [hr1]
          rintro _ wc1 ⟨rfl, hcc1, hrr1⟩
          replace hK := hK.chg hcc1 (by simp; omega)
          replace hF := hF.chg hcc1 (by simp; omega)
          replace hD := hD.chg hcc1 (hD.apart hr (by decide) (by decide))
          replace h2 := h2.chg hcc1 (by simpa using h2.ne hr (by decide))
          replace h4 := h4.chg hcc1 (by simpa using h4.ne hr (by decide))
          replace h8 := h8.chg hcc1 (by simpa using h8.ne hr (by decide))
          replace hu := hu.chg hcc1 (hu.apart hr (by decide))
          replace hC := hC.trans1 hcc1 (by first | exact .inr (by omega) | exact .inl (by simp))
          replace hr : Blk wc1 gr 123 [u, .int .i64 (q1 : Int), .int .i64 (z1 : Int)] := hrr1
          refine ⟨_, rfl, ⟨h8, h2⟩, ?_⟩
          refine PL.cast (.int .i64 (v1 : Int)) 60 rfl (rfl) ?_
          refine PL.call rfl rfl Tryd.call55 rfl (rnumber_any gr q1 z1 (P - 1) u f.payload hq1 (by omega) (by omega) _ hr hu) ?_
          rw [hr2]
          rintro _ wc2 ⟨rfl, hcc2, hrr2⟩
          replace hK := hK.chg hcc2 (by simp; omega)
          replace hF := hF.chg hcc2 (by simp; omega)
          replace hD := hD.chg hcc2 (hD.apart hr (by decide) (by decide))
          replace h2 := h2.chg hcc2 (by simpa using h2.ne hr (by decide))
          replace h4 := h4.chg hcc2 (by simpa using h4.ne hr (by decide))
          replace h8 := h8.chg hcc2 (by simpa using h8.ne hr (by decide))
          replace hu := hu.chg hcc2 (hu.apart hr (by decide))
          replace hC := hC.trans1 hcc2 (by first | exact .inr (by omega) | exact .inl (by simp))
          replace hr : Blk wc2 gr 123 [u, .int .i64 (q2 : Int), .int .i64 (z2 : Int)] := hrr2
          refine ⟨_, rfl, ⟨h8, h2⟩, ?_⟩
          refine PL.cast (.int .i64 (v2 : Int)) 65 rfl (rfl) ?_
          refine PL.call rfl rfl Tryd.call55 rfl (rnumber_any gr q2 z2 f.stream.toNat u f.payload hq2 (by omega) (by omega) _ hr hu) ?_
          rw [hr3]
          rintro _ wc3 ⟨rfl, hcc3, hrr3⟩
          replace hK := hK.chg hcc3 (by simp; omega)
          replace hF := hF.chg hcc3 (by simp; omega)
          replace hD := hD.chg hcc3 (hD.apart hr (by decide) (by decide))
          replace h2 := h2.chg hcc3 (by simpa using h2.ne hr (by decide))
          replace h4 := h4.chg hcc3 (by simpa using h4.ne hr (by decide))
          replace h8 := h8.chg hcc3 (by simpa using h8.ne hr (by decide))
          replace hu := hu.chg hcc3 (hu.apart hr (by decide))
          replace hC := hC.trans1 hcc3 (by first | exact .inr (by omega) | exact .inl (by simp))
          replace hr : Blk wc3 gr 123 [u, .int .i64 (q3 : Int), .int .i64 (z3 : Int)] := hrr3
          refine ⟨_, rfl, ⟨h8, h2⟩, ?_⟩
          refine PL.cast (.int .i64 (v3 : Int)) 69 rfl (rfl) ?_
          refine PL.takeP rfl (Pure.build (cs := (Hd.cells ⟨f.stream.toNat, v1, v2, v3⟩)) rfl (by kernel_rfl)) rfl ⟨h8, h2⟩ ?_
          refine PL.nilTail ?_
          refine OL.storeRow (vs := (Hd.cells ⟨f.stream.toNat, v1, v2, v3⟩)) rfl rfl (rfl) (by simp [Hd.cells, Value.oneCell']) h4 (Nat.le_refl 4) ?_
          intro w8 hb8 hc8
          replace hK := hK.chg hc8 (by simp; omega)
          replace hF := hF.chg hc8 (by simp; omega)
          replace hD := hD.chg hc8 (hD.apart h4 (by decide) (by decide))
          replace h2 := h2.chg hc8 (by simpa using h2.ne h4 (by decide))
          replace h8 := h8.chg hc8 (by simpa using h8.ne h4 (by decide))
          replace hr := hr.chg hc8 (by simpa using hr.ne h4 (by decide))
          replace hu := hu.chg hc8 (hu.apart h4 (by decide))
          replace hC := hC.trans1 hc8 (by first | exact .inr (by omega) | exact .inl (by simp))
          replace h4 := hb8
          replace h4 := h4.all rfl
          refine OL.nil ?_
          have hyes := rdHead_yes hd (i := i) (P := P) (by simp only [he, hk, hnb, hsp]; simp) hr1 hr2 hr3
          by_cases hok : z3 = 0 ∧ ¬ q3 < f.payload.length
          ·
            rw [if_pos hok] at hyes
            refine TE.seq ?_
            refine TE.planAll (.cons (0, true) (.cons (1, true) (.cons (2, false) (.cons (3, true) (.cons (4, false) (.cons (5, true) (.cons (6, true) .nil))))))) (fun w_ => Blk w_ g4 70 ((Hd.cells ⟨f.stream.toNat, v1, v2, v3⟩))) rfl (by kernel_rfl) ?_
            have hS9 : Chg [] w8 w8.drew := Chg.drew _ _
            replace hK := hK.chg0 hS9
            replace hF := hF.chg0 hS9
            replace hD := hD.chg0 hS9
            replace h2 := h2.chg0 hS9
            replace h4 := h4.chg0 hS9
            replace h8 := h8.chg0 hS9
            replace hr := hr.chg0 hS9
            replace hu := hu.chg0 hS9
            replace hC := hC.then_ hS9
            refine PL.take rfl (fun w_ h_ => Run.loadAll rfl Tryd.underlying70 rfl h_ (rfl)) rfl h4 ?_
            refine PL.takeP rfl (Pure.move rfl) rfl h4 ?_
            refine PL.call rfl rfl Tryd.call56 rfl (close_any gr q3 z3 u f.payload hq3 (by omega) _ hr hu) ?_
            rintro _ w10 ⟨rfl, hc10⟩
            replace hK := hK.chg0 hc10
            replace hF := hF.chg0 hc10
            replace hD := hD.chg0 hc10
            replace h2 := h2.chg0 hc10
            replace h4 := h4.chg0 hc10
            replace h8 := h8.chg0 hc10
            replace hr := hr.chg0 hc10
            replace hu := hu.chg0 hc10
            replace hC := hC.then_ hc10
            refine ⟨_, rfl, h4, ?_⟩
            refine PL.takeP rfl (Pure.eql rfl rfl) rfl h4 ?_
            refine PL.cast (.bool true) 74 rfl (congrArg Value.bool (decide_eq_true (by rw [if_neg (fun h => hok.2 h.2), hok.1]; rfl))) ?_
            refine PL.storeRowS (vs := (Hd.cells ⟨f.stream.toNat, v1, v2, v3⟩)) rfl rfl rfl (rfl) (by simp [Hd.cells, Value.oneCell']) h4 (Nat.le_refl 4) (fun w_ h_ _ => h_.all rfl) ?_
            intro w11 hb11 hc11
            replace hK := hK.chg hc11 (by simp; omega)
            replace hF := hF.chg hc11 (by simp; omega)
            replace hD := hD.chg hc11 (hD.apart h4 (by decide) (by decide))
            replace h2 := h2.chg hc11 (by simpa using h2.ne h4 (by decide))
            replace h8 := h8.chg hc11 (by simpa using h8.ne h4 (by decide))
            replace hr := hr.chg hc11 (by simpa using hr.ne h4 (by decide))
            replace hu := hu.chg hc11 (hu.apart h4 (by decide))
            replace hC := hC.trans1 hc11 (by first | exact .inr (by omega) | exact .inl (by simp))
            replace h4 := hb11
            replace h4 := h4.all rfl
            refine PL.takeP rfl (Pure.assign rfl) rfl h4 ?_
            refine PL.takeP rfl (Pure.assign rfl) rfl h4 ?_
            refine PL.nil ?_
            exact TE.ret (vs := [.agg (⟨f.stream.toNat, v1, v2, v3⟩ : Hd).cells.toArray, .bool (rdHead (V ((a + i : Nat) : Int)) P i).isSome, .int .i64 0]) Tryd.results33 (⟨⟨_, rfl, loadRow_at Tryd.underlying70 rfl rfl h4 rfl⟩, by rw [hyes]; rfl, rfl, trivial⟩) ⟨_, rfl, (fun h hh => by rw [hyes] at hh; cases hh; rfl), hC⟩
          ·
            rw [if_neg hok] at hyes
            refine TE.seq ?_
            refine TE.planAll (.cons (0, true) (.cons (1, true) (.cons (2, false) (.cons (3, true) (.cons (4, false) (.cons (5, true) (.cons (6, true) .nil))))))) (fun w_ => Blk w_ g4 70 ((Hd.cells ⟨f.stream.toNat, v1, v2, v3⟩))) rfl (by kernel_rfl) ?_
            have hS12 : Chg [] w8 w8.drew := Chg.drew _ _
            replace hK := hK.chg0 hS12
            replace hF := hF.chg0 hS12
            replace hD := hD.chg0 hS12
            replace h2 := h2.chg0 hS12
            replace h4 := h4.chg0 hS12
            replace h8 := h8.chg0 hS12
            replace hr := hr.chg0 hS12
            replace hu := hu.chg0 hS12
            replace hC := hC.then_ hS12
            refine PL.take rfl (fun w_ h_ => Run.loadAll rfl Tryd.underlying70 rfl h_ (rfl)) rfl h4 ?_
            refine PL.takeP rfl (Pure.move rfl) rfl h4 ?_
            refine PL.call rfl rfl Tryd.call56 rfl (close_any gr q3 z3 u f.payload hq3 (by omega) _ hr hu) ?_
            rintro _ w13 ⟨rfl, hc13⟩
            replace hK := hK.chg0 hc13
            replace hF := hF.chg0 hc13
            replace hD := hD.chg0 hc13
            replace h2 := h2.chg0 hc13
            replace h4 := h4.chg0 hc13
            replace h8 := h8.chg0 hc13
            replace hr := hr.chg0 hc13
            replace hu := hu.chg0 hc13
            replace hC := hC.then_ hc13
            refine ⟨_, rfl, h4, ?_⟩
            refine PL.takeP rfl (Pure.eql rfl rfl) rfl h4 ?_
            refine PL.cast (.bool false) 74 rfl (congrArg Value.bool (decide_eq_false (fun h => by split at h; omega; rename_i h2; exact hok ⟨by omega, fun h3 => h2 ⟨by omega, h3⟩⟩))) ?_
            refine PL.storeRowS (vs := (Hd.cells ⟨f.stream.toNat, v1, v2, v3⟩)) rfl rfl rfl (rfl) (by simp [Hd.cells, Value.oneCell']) h4 (Nat.le_refl 4) (fun w_ h_ _ => h_.all rfl) ?_
            intro w14 hb14 hc14
            replace hK := hK.chg hc14 (by simp; omega)
            replace hF := hF.chg hc14 (by simp; omega)
            replace hD := hD.chg hc14 (hD.apart h4 (by decide) (by decide))
            replace h2 := h2.chg hc14 (by simpa using h2.ne h4 (by decide))
            replace h8 := h8.chg hc14 (by simpa using h8.ne h4 (by decide))
            replace hr := hr.chg hc14 (by simpa using hr.ne h4 (by decide))
            replace hu := hu.chg hc14 (hu.apart h4 (by decide))
            replace hC := hC.trans1 hc14 (by first | exact .inr (by omega) | exact .inl (by simp))
            replace h4 := hb14
            replace h4 := h4.all rfl
            refine PL.takeP rfl (Pure.assign rfl) rfl h4 ?_
            refine PL.takeP rfl (Pure.assign rfl) rfl h4 ?_
            refine PL.nil ?_
            exact TE.ret (vs := [.agg (⟨f.stream.toNat, v1, v2, v3⟩ : Hd).cells.toArray, .bool (rdHead (V ((a + i : Nat) : Int)) P i).isSome, .int .i64 0]) Tryd.results33 (⟨⟨_, rfl, loadRow_at Tryd.underlying70 rfl rfl h4 rfl⟩, by rw [hyes]; rfl, rfl, trivial⟩) ⟨_, rfl, (fun h hh => by rw [hyes] at hh; cases hh), hC⟩
        ·
          have hr : rdHead (V ((a + i : Nat) : Int)) P i = none := rdHead_no hd (.inr (.inr (.inr hsp)))
          refine OL.pure (Pure.assign rfl) rfl ?_
          refine OL.pure (Pure.assign rfl) rfl ?_
          refine OL.nil ?_
          refine TE.seq ?_
          refine TE.seq ?_
          refine TE.region ?_
          refine OL.pure (Pure.move rfl) rfl ?_
          refine OL.pure (Pure.neq rfl rfl) rfl ?_
          refine OL.cast (.bool false) 34 rfl (congrArg Value.bool (decide_eq_false (fun h => h he))) ?_
          refine OL.pure (Pure.move rfl) rfl ?_
          refine OL.want rfl rfl rfl (Pure.fieldAddr (r := 0) Tryd.runUnderlying74 rfl Tryd.sizeOf3 rfl rfl _) rfl ?_
          refine OL.want rfl rfl rfl (Run.load (i := 0) rfl Tryd.isAgg3 h8 (by omega) rfl) rfl ?_
          refine OL.want rfl rfl rfl (Pure.neq rfl rfl _) rfl ?_
          refine OL.cast (.bool false) 38 rfl (congrArg Value.bool (decide_eq_false (fun h => h hk))) ?_
          refine OL.pure (Pure.pickF rfl rfl) rfl ?_
          refine OL.pure (Pure.move rfl) rfl ?_
          refine OL.want rfl rfl rfl (Pure.fieldAddr (r := 2) Tryd.runUnderlying74 rfl Tryd.sizeOf3 rfl rfl _) rfl ?_
          refine OL.want rfl rfl rfl (Run.load (i := 2) rfl Tryd.isAgg3 h8 (by omega) rfl) rfl ?_
          refine OL.want rfl rfl rfl (Pure.neq rfl rfl _) rfl ?_
          refine OL.cast (.bool false) 43 rfl (congrArg Value.bool (decide_eq_false (fun h => h hnb))) ?_
          refine OL.pure (Pure.pickF rfl rfl) rfl ?_
          refine OL.pure (Pure.move rfl) rfl ?_
          refine OL.want rfl rfl rfl (Pure.fieldAddr (r := 1) Tryd.runUnderlying74 rfl Tryd.sizeOf3 rfl rfl _) rfl ?_
          refine OL.want rfl rfl rfl (Run.load (i := 1) rfl Tryd.isAgg3 h8 (by omega) rfl) rfl ?_
          refine OL.want rfl rfl rfl (Pure.rem rfl rfl (by omega) (by omega) _) rfl ?_
          refine OL.want rfl rfl rfl (Pure.move rfl _) rfl ?_
          refine OL.want rfl rfl rfl (Pure.neq rfl rfl _) rfl ?_
          refine OL.cast (.bool true) 50 rfl (congrArg Value.bool (decide_eq_true (hsp))) ?_
          refine OL.pure (Pure.pickF rfl rfl) rfl ?_
          refine OL.nil ?_
          refine TE.condT rfl rfl ?_
          refine TE.seq ?_
          refine TE.region ?_
          refine OL.val (Run.loadAll rfl Tryd.underlying70 rfl h4 (rfl)) rfl ?_
          refine OL.storeRow (vs := Hd.zero.cells) rfl rfl (rfl) (by simp [Hd.cells, Value.oneCell']) h4 (Nat.le_refl 4) ?_
          intro w15 hb15 hc15
          replace hK := hK.chg hc15 (by simp; omega)
          replace hF := hF.chg hc15 (by simp; omega)
          replace hD := hD.chg hc15 (hD.apart h4 (by decide) (by decide))
          replace h2 := h2.chg hc15 (by simpa using h2.ne h4 (by decide))
          replace h8 := h8.chg hc15 (by simpa using h8.ne h4 (by decide))
          replace hC := hC.trans1 hc15 (by first | exact .inr (by omega) | exact .inl (by simp))
          replace h4 := hb15
          replace h4 := h4.all rfl
          refine OL.pure (Pure.assign rfl) rfl ?_
          refine OL.pure (Pure.assign rfl) rfl ?_
          refine OL.nil ?_
          exact TE.ret (vs := [.agg (Hd.zero).cells.toArray, .bool (rdHead (V ((a + i : Nat) : Int)) P i).isSome, .int .i64 0]) Tryd.results33 (⟨⟨_, rfl, loadRow_at Tryd.underlying70 rfl rfl h4 rfl⟩, by rw [hr]; rfl, rfl, trivial⟩) ⟨Hd.zero, rfl, (fun h hh => by rw [hr] at hh; cases hh), hC⟩
      ·
        have hr : rdHead (V ((a + i : Nat) : Int)) P i = none := rdHead_no hd (.inr (.inr (.inl hnb)))
        refine OL.pure (Pure.assign rfl) rfl ?_
        refine OL.pure (Pure.assign rfl) rfl ?_
        refine OL.nil ?_
        refine TE.seq ?_
        refine TE.seq ?_
        refine TE.region ?_
        refine OL.pure (Pure.move rfl) rfl ?_
        refine OL.pure (Pure.neq rfl rfl) rfl ?_
        refine OL.cast (.bool false) 34 rfl (congrArg Value.bool (decide_eq_false (fun h => h he))) ?_
        refine OL.pure (Pure.move rfl) rfl ?_
        refine OL.want rfl rfl rfl (Pure.fieldAddr (r := 0) Tryd.runUnderlying74 rfl Tryd.sizeOf3 rfl rfl _) rfl ?_
        refine OL.want rfl rfl rfl (Run.load (i := 0) rfl Tryd.isAgg3 h8 (by omega) rfl) rfl ?_
        refine OL.want rfl rfl rfl (Pure.neq rfl rfl _) rfl ?_
        refine OL.cast (.bool false) 38 rfl (congrArg Value.bool (decide_eq_false (fun h => h hk))) ?_
        refine OL.pure (Pure.pickF rfl rfl) rfl ?_
        refine OL.pure (Pure.move rfl) rfl ?_
        refine OL.want rfl rfl rfl (Pure.fieldAddr (r := 2) Tryd.runUnderlying74 rfl Tryd.sizeOf3 rfl rfl _) rfl ?_
        refine OL.want rfl rfl rfl (Run.load (i := 2) rfl Tryd.isAgg3 h8 (by omega) rfl) rfl ?_
        refine OL.want rfl rfl rfl (Pure.neq rfl rfl _) rfl ?_
        refine OL.cast (.bool true) 43 rfl (congrArg Value.bool (decide_eq_true (hnb))) ?_
        refine OL.pure (Pure.pickF rfl rfl) rfl ?_
        refine OL.pure (Pure.move rfl) rfl ?_
        refine OL.pass rfl rfl rfl rfl rfl ?_
        refine OL.pass rfl rfl rfl rfl rfl ?_
        refine OL.pass rfl rfl rfl rfl rfl ?_
        refine OL.pass rfl rfl rfl rfl rfl ?_
        refine OL.pass rfl rfl rfl rfl rfl ?_
        refine OL.pure (Pure.pickT rfl rfl) rfl ?_
        refine OL.nil ?_
        refine TE.condT rfl rfl ?_
        refine TE.seq ?_
        refine TE.region ?_
        refine OL.val (Run.loadAll rfl Tryd.underlying70 rfl h4 (rfl)) rfl ?_
        refine OL.storeRow (vs := Hd.zero.cells) rfl rfl (rfl) (by simp [Hd.cells, Value.oneCell']) h4 (Nat.le_refl 4) ?_
        intro w16 hb16 hc16
        replace hK := hK.chg hc16 (by simp; omega)
        replace hF := hF.chg hc16 (by simp; omega)
        replace hD := hD.chg hc16 (hD.apart h4 (by decide) (by decide))
        replace h2 := h2.chg hc16 (by simpa using h2.ne h4 (by decide))
        replace h8 := h8.chg hc16 (by simpa using h8.ne h4 (by decide))
        replace hC := hC.trans1 hc16 (by first | exact .inr (by omega) | exact .inl (by simp))
        replace h4 := hb16
        replace h4 := h4.all rfl
        refine OL.pure (Pure.assign rfl) rfl ?_
        refine OL.pure (Pure.assign rfl) rfl ?_
        refine OL.nil ?_
        exact TE.ret (vs := [.agg (Hd.zero).cells.toArray, .bool (rdHead (V ((a + i : Nat) : Int)) P i).isSome, .int .i64 0]) Tryd.results33 (⟨⟨_, rfl, loadRow_at Tryd.underlying70 rfl rfl h4 rfl⟩, by rw [hr]; rfl, rfl, trivial⟩) ⟨Hd.zero, rfl, (fun h hh => by rw [hr] at hh; cases hh), hC⟩
    ·
      have hr : rdHead (V ((a + i : Nat) : Int)) P i = none := rdHead_no hd (.inr (.inl hk))
      refine OL.pure (Pure.assign rfl) rfl ?_
      refine OL.pure (Pure.assign rfl) rfl ?_
      refine OL.nil ?_
      refine TE.seq ?_
      refine TE.seq ?_
      refine TE.region ?_
      refine OL.pure (Pure.move rfl) rfl ?_
      refine OL.pure (Pure.neq rfl rfl) rfl ?_
      refine OL.cast (.bool false) 34 rfl (congrArg Value.bool (decide_eq_false (fun h => h he))) ?_
      refine OL.pure (Pure.move rfl) rfl ?_
      refine OL.want rfl rfl rfl (Pure.fieldAddr (r := 0) Tryd.runUnderlying74 rfl Tryd.sizeOf3 rfl rfl _) rfl ?_
      refine OL.want rfl rfl rfl (Run.load (i := 0) rfl Tryd.isAgg3 h8 (by omega) rfl) rfl ?_
      refine OL.want rfl rfl rfl (Pure.neq rfl rfl _) rfl ?_
      refine OL.cast (.bool true) 38 rfl (congrArg Value.bool (decide_eq_true (hk))) ?_
      refine OL.pure (Pure.pickF rfl rfl) rfl ?_
      refine OL.pure (Pure.move rfl) rfl ?_
      refine OL.pass rfl rfl rfl rfl rfl ?_
      refine OL.pass rfl rfl rfl rfl rfl ?_
      refine OL.pass rfl rfl rfl rfl rfl ?_
      refine OL.pure (Pure.pickT rfl rfl) rfl ?_
      refine OL.pure (Pure.move rfl) rfl ?_
      refine OL.pass rfl rfl rfl rfl rfl ?_
      refine OL.pass rfl rfl rfl rfl rfl ?_
      refine OL.pass rfl rfl rfl rfl rfl ?_
      refine OL.pass rfl rfl rfl rfl rfl ?_
      refine OL.pass rfl rfl rfl rfl rfl ?_
      refine OL.pure (Pure.pickT rfl rfl) rfl ?_
      refine OL.nil ?_
      refine TE.condT rfl rfl ?_
      refine TE.seq ?_
      refine TE.region ?_
      refine OL.val (Run.loadAll rfl Tryd.underlying70 rfl h4 (rfl)) rfl ?_
      refine OL.storeRow (vs := Hd.zero.cells) rfl rfl (rfl) (by simp [Hd.cells, Value.oneCell']) h4 (Nat.le_refl 4) ?_
      intro w17 hb17 hc17
      replace hK := hK.chg hc17 (by simp; omega)
      replace hF := hF.chg hc17 (by simp; omega)
      replace hD := hD.chg hc17 (hD.apart h4 (by decide) (by decide))
      replace h2 := h2.chg hc17 (by simpa using h2.ne h4 (by decide))
      replace h8 := h8.chg hc17 (by simpa using h8.ne h4 (by decide))
      replace hC := hC.trans1 hc17 (by first | exact .inr (by omega) | exact .inl (by simp))
      replace h4 := hb17
      replace h4 := h4.all rfl
      refine OL.pure (Pure.assign rfl) rfl ?_
      refine OL.pure (Pure.assign rfl) rfl ?_
      refine OL.nil ?_
      exact TE.ret (vs := [.agg (Hd.zero).cells.toArray, .bool (rdHead (V ((a + i : Nat) : Int)) P i).isSome, .int .i64 0]) Tryd.results33 (⟨⟨_, rfl, loadRow_at Tryd.underlying70 rfl rfl h4 rfl⟩, by rw [hr]; rfl, rfl, trivial⟩) ⟨Hd.zero, rfl, (fun h hh => by rw [hr] at hh; cases hh), hC⟩
  ·
    have hr : rdHead (V ((a + i : Nat) : Int)) P i = none := rdHead_no hd (.inl he)
    refine OL.pure (Pure.assign rfl) rfl ?_
    refine OL.pure (Pure.assign rfl) rfl ?_
    refine OL.nil ?_
    refine TE.seq ?_
    refine TE.seq ?_
    refine TE.region ?_
    refine OL.pure (Pure.move rfl) rfl ?_
    refine OL.pure (Pure.neq rfl rfl) rfl ?_
    refine OL.cast (.bool true) 34 rfl (congrArg Value.bool (decide_eq_true (he))) ?_
    refine OL.pure (Pure.move rfl) rfl ?_
    refine OL.pass rfl rfl rfl rfl rfl ?_
    refine OL.pass rfl rfl rfl rfl rfl ?_
    refine OL.pass rfl rfl rfl rfl rfl ?_
    refine OL.pure (Pure.pickT rfl rfl) rfl ?_
    refine OL.pure (Pure.move rfl) rfl ?_
    refine OL.pass rfl rfl rfl rfl rfl ?_
    refine OL.pass rfl rfl rfl rfl rfl ?_
    refine OL.pass rfl rfl rfl rfl rfl ?_
    refine OL.pure (Pure.pickT rfl rfl) rfl ?_
    refine OL.pure (Pure.move rfl) rfl ?_
    refine OL.pass rfl rfl rfl rfl rfl ?_
    refine OL.pass rfl rfl rfl rfl rfl ?_
    refine OL.pass rfl rfl rfl rfl rfl ?_
    refine OL.pass rfl rfl rfl rfl rfl ?_
    refine OL.pass rfl rfl rfl rfl rfl ?_
    refine OL.pure (Pure.pickT rfl rfl) rfl ?_
    refine OL.nil ?_
    refine TE.condT rfl rfl ?_
    refine TE.seq ?_
    refine TE.region ?_
    refine OL.val (Run.loadAll rfl Tryd.underlying70 rfl h4 (rfl)) rfl ?_
    refine OL.storeRow (vs := Hd.zero.cells) rfl rfl (rfl) (by simp [Hd.cells, Value.oneCell']) h4 (Nat.le_refl 4) ?_
    intro w18 hb18 hc18
    replace hK := hK.chg hc18 (by simp; omega)
    replace hF := hF.chg hc18 (by simp; omega)
    replace hD := hD.chg hc18 (hD.apart h4 (by decide) (by decide))
    replace h2 := h2.chg hc18 (by simpa using h2.ne h4 (by decide))
    replace h8 := h8.chg hc18 (by simpa using h8.ne h4 (by decide))
    replace hC := hC.trans1 hc18 (by first | exact .inr (by omega) | exact .inl (by simp))
    replace h4 := hb18
    replace h4 := h4.all rfl
    refine OL.pure (Pure.assign rfl) rfl ?_
    refine OL.pure (Pure.assign rfl) rfl ?_
    refine OL.nil ?_
    exact TE.ret (vs := [.agg (Hd.zero).cells.toArray, .bool (rdHead (V ((a + i : Nat) : Int)) P i).isSome, .int .i64 0]) Tryd.results33 (⟨⟨_, rfl, loadRow_at Tryd.underlying70 rfl rfl h4 rfl⟩, by rw [hr]; rfl, rfl, trivial⟩) ⟨Hd.zero, rfl, (fun h hh => by rw [hr] at hh; cases hh), hC⟩

end Go.Proofs.YtcologcjhenmkaaDoor
/- writeHead, walked -/
set_option linter.unusedVariables false
set_option maxRecDepth 4000
namespace Go.Proofs.YtcologcjhenmkaaDoor
open Go.V Go.Rg Go.Frm Go.Sha
set_option maxHeartbeats 1000000 in
theorem writehead_any {tK tF : TypeId} {V : Int → List UInt8} {ks : List Nat} (d n c a P : Nat) (h : Hd) (hP : 0 < P) (haP : a + 2 + P ≤ n) (hn : n ≤ 8192) (hh : HdOk P h) (hc0 : c ≤ 1073741823) (hk0 : 1 ∉ ks) (hk1 : 0 ∉ ks) (w : World) (hD : Dk 93 97 w d n (V) (c) false ks) (hK : Blk w 1 tK (iv .u32 K)) (hF : Blk w 0 tF (iv .i64 fldL)) : Calls Tryd.prog 35 #[.agg (arv d a P).toArray, .agg h.cells.toArray] w (fun e w_ => ∃ ks_, e = .returned (.int .i64 0) ∧ Dk 93 97 w_ d n (wrHead V a h) (0) false ks_ ∧ Chg ks w w_ ∧ Grew ks ks_ w) := by
  refine calls_of_TE (vs := [.agg (arv d a P).toArray, .agg h.cells.toArray]) Tryd.func35 Tryd.ntmps35 rfl (by simp) ?_
  have hC : Chg ks w w := Chg.refl _ _
  have hgr : Grew ks ks w := Grew.refl _ _
  have hCz : w.heap.size ≤ w.heap.size := Nat.le_refl _
  have h0w : 1 < w.heap.size := hK.lt
  have h1w : 0 < w.heap.size := hF.lt
  have hg1 := hh.gen; have hg2 := hh.first; have hg3 := hh.place; have hg4 := hh.base
  have hP8 : P ≤ 8192 := by omega
  refine TE.seq ?_
  refine TE.region ?_
  refine OL.box rfl rfl ?_
  intro g2 w1 h2 hc1 hg_g2
  have lt_1_g2 : 1 < g2 := by have := hK.lt; omega
  have lt_0_g2 : 0 < g2 := by have := hF.lt; omega
  have ge_g2 : w.heap.size ≤ g2 := by have := hC.size; omega
  replace hD := hD.chg0 hc1
  replace hK := hK.chg0 hc1
  replace hF := hF.chg0 hc1
  replace hC := hC.then_ hc1
  have h2 : Blk w1 g2 66 (arv d a P) := h2
  refine OL.box rfl rfl ?_
  intro g3 w2 h3 hc2 hg_g3
  have lt_1_g3 : 1 < g3 := by have := hK.lt; omega
  have lt_0_g3 : 0 < g3 := by have := hF.lt; omega
  have lt_g2_g3 : g2 < g3 := by have := h2.lt; omega
  have ge_g3 : w.heap.size ≤ g3 := by have := hC.size; omega
  replace hD := hD.chg0 hc2
  replace hK := hK.chg0 hc2
  replace hF := hF.chg0 hc2
  replace h2 := h2.chg0 hc2
  replace hC := hC.then_ hc2
  have h3 : Blk w2 g3 70 (h.cells) := h3
  refine OL.pure (Pure.assign rfl) rfl ?_
  refine OL.nil ?_
  refine TE.seq ?_
  refine TE.region ?_
  refine OL.call rfl Tryd.call58 rfl (newwriter_any _) ?_
  rintro _ wn ⟨gw, rfl, hw, hcn, hgw⟩
  have lt_1_gw : 1 < gw := by have := hK.lt; omega
  have lt_0_gw : 0 < gw := by have := hF.lt; omega
  have lt_g2_gw : g2 < gw := by have := h2.lt; omega
  have lt_g3_gw : g3 < gw := by have := h3.lt; omega
  have ge_gw : w.heap.size ≤ gw := by have := hC.size; omega
  replace hD := hD.chg0 hcn
  replace hK := hK.chg0 hcn
  replace hF := hF.chg0 hcn
  replace h2 := h2.chg0 hcn
  replace h3 := h3.chg0 hcn
  replace hC := hC.then_ hcn
  refine ⟨_, rfl, ?_⟩
  have hv0 : Row wn 5 1 (.slice none 0 0) ([] : List UInt8).length (bv []) := Row.nil _ _ _
  have hm_0 : Mine w.heap.size (.slice none 0 0) := Mine.nil _
  refine OL.pure (Pure.assign rfl) rfl ?_
  refine OL.nil ?_
  refine TE.seq ?_
  refine TE.region ?_
  refine OL.pure (Pure.move rfl) rfl ?_
  refine OL.pure (Pure.fieldAddr (r := 1) Tryd.runUnderlying70 rfl Tryd.sizeOf3 rfl rfl) rfl ?_
  refine OL.val (Run.load (i := 1) rfl Tryd.isAgg3 h3 (by omega) rfl) rfl ?_
  have hbl0 : ([] : List UInt8).length ≤ 40 := by simp
  refine OL.call rfl Tryd.call59 rfl (wnumber_any gw h.first (.slice none 0 0) ([]) (by omega) (by omega) _ hw hv0) ?_
  rintro _ wm0 ⟨v1, rfl, hw0, hv1, hcm0, ho0⟩
  replace hD := hD.chg hcm0 (fun k_ hk_ hm_ => (List.mem_cons.1 hm_).elim (fun e_ => hD.notin hw (by decide) (by decide) (e_ ▸ hk_)) (fun h_ => hD.apartR hv0 (by decide) (by decide) _ h_ hk_))
  replace hK := hK.chg hcm0 (notin_cons (by omega) (fun h_ => absurd (hm_0 _ h_) (by omega)))
  replace hF := hF.chg hcm0 (notin_cons (by omega) (fun h_ => absurd (hm_0 _ h_) (by omega)))
  replace h2 := h2.chg hcm0 (notin_cons (by omega) (hv0.notin h2 (by decide)))
  replace h3 := h3.chg hcm0 (notin_cons (by omega) (hv0.notin h3 (by decide)))
  have hm_1 : Mine w.heap.size v1 := fun k hk => (ho0 k hk).elim (hm_0 k) (fun h_ => Nat.le_trans hC.size h_)
  replace hC := hC.trans hcm0 (fun k hk => .inr ((List.mem_cons.1 hk).elim (fun e_ => e_ ▸ ge_gw) (hm_0 k)))
  replace hCz := hC.size
  replace hw := hw0
  refine ⟨_, rfl, ?_⟩
  refine OL.nil ?_
  refine TE.seq ?_
  refine TE.region ?_
  refine OL.pure (Pure.move rfl) rfl ?_
  refine OL.pure (Pure.fieldAddr (r := 2) Tryd.runUnderlying70 rfl Tryd.sizeOf3 rfl rfl) rfl ?_
  refine OL.val (Run.load (i := 2) rfl Tryd.isAgg3 h3 (by omega) rfl) rfl ?_
  have hbl1 : ([] ++ natEnc h.first : List UInt8).length ≤ 40 := by have h1 := natEnc_le6 (n := h.first) (by omega); have h2 := natEnc_le6 (n := h.place) (by omega); simp only [List.length_append, List.nil_append]; omega
  refine OL.call rfl Tryd.call59 rfl (wnumber_any gw h.place v1 ([] ++ natEnc h.first) (by omega) (by omega) _ hw hv1) ?_
  rintro _ wm1 ⟨v2, rfl, hw1, hv2, hcm1, ho1⟩
  replace hD := hD.chg hcm1 (fun k_ hk_ hm_ => (List.mem_cons.1 hm_).elim (fun e_ => hD.notin hw (by decide) (by decide) (e_ ▸ hk_)) (fun h_ => hD.apartR hv1 (by decide) (by decide) _ h_ hk_))
  replace hK := hK.chg hcm1 (notin_cons (by omega) (fun h_ => absurd (hm_1 _ h_) (by omega)))
  replace hF := hF.chg hcm1 (notin_cons (by omega) (fun h_ => absurd (hm_1 _ h_) (by omega)))
  replace h2 := h2.chg hcm1 (notin_cons (by omega) (hv1.notin h2 (by decide)))
  replace h3 := h3.chg hcm1 (notin_cons (by omega) (hv1.notin h3 (by decide)))
  have hm_2 : Mine w.heap.size v2 := fun k hk => (ho1 k hk).elim (hm_1 k) (fun h_ => Nat.le_trans hC.size h_)
  replace hC := hC.trans hcm1 (fun k hk => .inr ((List.mem_cons.1 hk).elim (fun e_ => e_ ▸ ge_gw) (hm_1 k)))
  replace hCz := hC.size
  replace hw := hw1
  refine ⟨_, rfl, ?_⟩
  refine OL.nil ?_
  refine TE.seq ?_
  refine TE.region ?_
  refine OL.pure (Pure.move rfl) rfl ?_
  refine OL.pure (Pure.fieldAddr (r := 3) Tryd.runUnderlying70 rfl Tryd.sizeOf3 rfl rfl) rfl ?_
  refine OL.val (Run.load (i := 3) rfl Tryd.isAgg3 h3 (by omega) rfl) rfl ?_
  have hbl2 : ([] ++ natEnc h.first ++ natEnc h.place : List UInt8).length ≤ 40 := by have h1 := natEnc_le6 (n := h.first) (by omega); have h2 := natEnc_le6 (n := h.place) (by omega); simp only [List.length_append, List.nil_append]; omega
  refine OL.call rfl Tryd.call59 rfl (wnumber_any gw h.base v2 ([] ++ natEnc h.first ++ natEnc h.place) (by omega) (by omega) _ hw hv2) ?_
  rintro _ wm2 ⟨v3, rfl, hw2, hv3, hcm2, ho2⟩
  replace hD := hD.chg hcm2 (fun k_ hk_ hm_ => (List.mem_cons.1 hm_).elim (fun e_ => hD.notin hw (by decide) (by decide) (e_ ▸ hk_)) (fun h_ => hD.apartR hv2 (by decide) (by decide) _ h_ hk_))
  replace hK := hK.chg hcm2 (notin_cons (by omega) (fun h_ => absurd (hm_2 _ h_) (by omega)))
  replace hF := hF.chg hcm2 (notin_cons (by omega) (fun h_ => absurd (hm_2 _ h_) (by omega)))
  replace h2 := h2.chg hcm2 (notin_cons (by omega) (hv2.notin h2 (by decide)))
  replace h3 := h3.chg hcm2 (notin_cons (by omega) (hv2.notin h3 (by decide)))
  have hm_3 : Mine w.heap.size v3 := fun k hk => (ho2 k hk).elim (hm_2 k) (fun h_ => Nat.le_trans hC.size h_)
  replace hC := hC.trans hcm2 (fun k hk => .inr ((List.mem_cons.1 hk).elim (fun e_ => e_ ▸ ge_gw) (hm_2 k)))
  replace hCz := hC.size
  replace hw := hw2
  refine ⟨_, rfl, ?_⟩
  have hpe : [] ++ natEnc h.first ++ natEnc h.place ++ natEnc h.base = hdPay h := by simp [hdPay]
  rw [hpe] at hv3
  have hpl := hdPay_len hh hP8
  refine OL.nil ?_
  refine TE.seq ?_
  refine TE.region ?_
  refine OL.pure (Pure.move rfl) rfl ?_
  refine OL.call rfl Tryd.call60 rfl (wbytes_any gw v3 (hdPay h) (by omega) _ hw hv3) ?_
  rintro _ wy ⟨u, rfl, hu, hcy, hmu⟩
  replace hD := hD.chg0 hcy
  replace hK := hK.chg0 hcy
  replace hF := hF.chg0 hcy
  replace h2 := h2.chg0 hcy
  replace h3 := h3.chg0 hcy
  replace hw := hw.chg0 hcy
  replace hv3 := hv3.chg0 hcy
  replace hC := hC.then_ hcy
  replace hCz := hC.size
  refine ⟨_, rfl, ?_⟩
  refine OL.pure (Pure.move rfl) rfl ?_
  refine OL.pure (Pure.extract (vs := [u, .int .i64 0]) (i := 0) rfl rfl) rfl ?_
  refine OL.pure (Pure.extract (vs := [u, .int .i64 0]) (i := 1) rfl rfl) rfl ?_
  refine OL.pure (Pure.assign rfl) rfl ?_
  refine OL.pure (Pure.assign rfl) rfl ?_
  refine OL.nil ?_
  refine TE.seq ?_
  refine TE.seq ?_
  refine TE.region ?_
  refine OL.pure (Pure.move rfl) rfl ?_
  refine OL.pure (Pure.neq rfl rfl) rfl ?_
  refine OL.cast (.bool false) 30 rfl (rfl) ?_
  refine OL.nil ?_
  refine TE.condF rfl rfl ?_
  refine TE.skip ?_
  refine TE.seq ?_
  refine TE.region ?_
  refine OL.pure (Pure.fieldAddr (r := 0) Tryd.runUnderlying70 rfl Tryd.sizeOf3 rfl rfl) rfl ?_
  refine OL.val (Run.load (i := 0) rfl Tryd.isAgg3 h3 (by omega) rfl) rfl ?_
  refine OL.pure (Pure.move rfl) rfl ?_
  refine OL.val (Run.rowStr Tryd.underlying34 Tryd.underlying5 Tryd.underlying9 rfl hu) rfl ?_
  refine OL.pure (Pure.build (cs := (hdFr h).cells) rfl (by kernel_rfl)) rfl ?_
  refine OL.call rfl Tryd.call41 rfl (encode_any (hdFr h) (hdFr_ok hh hP8) _ hK hF) ?_
  rintro _ w3 ⟨rfl, hc3⟩
  replace hD := hD.chg0 hc3
  replace hK := hK.chg0 hc3
  replace hF := hF.chg0 hc3
  replace h2 := h2.chg0 hc3
  replace h3 := h3.chg0 hc3
  replace hC := hC.then_ hc3
  refine ⟨_, rfl, ?_⟩
  obtain ⟨hel, hel2⟩ := encHead_len hh hP8
  refine OL.pure (Pure.move rfl) rfl ?_
  refine OL.pure (Pure.extract (vs := [.string (str (encode (hdFr h))), .int .i64 0]) (i := 0) rfl rfl) rfl ?_
  refine OL.pure (Pure.extract (vs := [.string (str (encode (hdFr h))), .int .i64 0]) (i := 1) rfl rfl) rfl ?_
  refine OL.pure (Pure.assign rfl) rfl ?_
  refine OL.pure (Pure.assign rfl) rfl ?_
  refine OL.nil ?_
  refine TE.seq ?_
  refine TE.seq ?_
  refine TE.region ?_
  refine OL.pure (Pure.move rfl) rfl ?_
  refine OL.pure (Pure.neq rfl rfl) rfl ?_
  refine OL.cast (.bool false) 42 rfl (rfl) ?_
  refine OL.nil ?_
  refine TE.condF rfl rfl ?_
  refine TE.skip ?_
  refine TE.seq ?_
  refine TE.region ?_
  refine OL.makeSlice (m := 512) (c := 512) (v := .int .u8 0) rfl rfl Tryd.underlying34 info5 rfl rfl rfl (by decide) (by decide) (by decide) rfl ?_
  intro gq w4 hq hc4 hg_gq
  have lt_1_gq : 1 < gq := by have := hK.lt; omega
  have lt_0_gq : 0 < gq := by have := hF.lt; omega
  have lt_g2_gq : g2 < gq := by have := h2.lt; omega
  have lt_g3_gq : g3 < gq := by have := h3.lt; omega
  have ge_gq : w.heap.size ≤ gq := by have := hC.size; omega
  replace hD := hD.chg0 hc4
  replace hK := hK.chg0 hc4
  replace hF := hF.chg0 hc4
  replace h2 := h2.chg0 hc4
  replace h3 := h3.chg0 hc4
  replace hC := hC.then_ hc4
  refine OL.pure (Pure.assign rfl) rfl ?_
  refine OL.nil ?_
  refine TE.seq ?_
  refine TE.region ?_
  refine OL.pure (Pure.move rfl) rfl ?_
  refine OL.pure (Pure.move rfl) rfl ?_
  refine OL.copyStr (s := encode (hdFr h)) rfl rfl Tryd.underlying34 Tryd.sizeOf5 hq (by simp) rfl ?_
  intro wq hq2 hcq
  replace hD := hD.chg hcq (hD.apart hq (by decide) (by decide))
  replace hK := hK.chg hcq (by simp; omega)
  replace hF := hF.chg hcq (by simp; omega)
  replace h2 := h2.chg hcq (by simpa using h2.ne hq (by decide))
  replace h3 := h3.chg hcq (by simpa using h3.ne hq (by decide))
  replace hC := hC.trans1 hcq (by first | exact .inr (by omega) | exact .inl (by simp))
  replace hq : Blk wq gq 5 (bv (encHead h)) := by rw [lay_pad (by omega)] at hq2; exact hq2
  refine OL.nil ?_
  refine TE.seq ?_
  refine TE.seq ?_
  refine TE.region ?_
  refine OL.pure (Pure.fieldAddr (r := 0) Tryd.runUnderlying66 rfl Tryd.sizeOf26 rfl rfl) rfl ?_
  refine OL.val (Run.load (i := 0) rfl Tryd.isAgg26 h2 (by omega) rfl) rfl ?_
  refine OL.pure (Pure.fieldAddr (r := 1) Tryd.runUnderlying66 rfl Tryd.sizeOf3 rfl rfl) rfl ?_
  refine OL.val (Run.load (i := 1) rfl Tryd.isAgg3 h2 (by omega) rfl) rfl ?_
  refine OL.pure (Pure.fieldAddr (r := 0) Tryd.runUnderlying70 rfl Tryd.sizeOf3 rfl rfl) rfl ?_
  refine OL.val (Run.load (i := 0) rfl Tryd.isAgg3 h3 (by omega) rfl) rfl ?_
  refine OL.pure (Pure.rem rfl rfl (by omega) (by omega)) rfl ?_
  refine OL.pure (Pure.add rfl rfl (i64 (by omega) (by omega))) rfl ?_
  refine OL.cast (.int .i64 ((a + h.gen % 2 : Nat) : Int)) 55 rfl (congrArg (Value.int .i64) (by omega)) ?_
  replace hCz := hC.size
  refine OL.pure (Pure.move rfl) rfl ?_
  refine OL.call rfl Tryd.call27 rfl (dwrite_any d n c (a + h.gen % 2) gq 512 (encHead h) (by omega) (by omega) hel (by decide) (by decide) _ hD hq) ?_
  rintro _ w5 ⟨ks5, rfl, hD5, hc5, hgr5⟩
  have hK_ := hK.chg hc5 hk0
  have hF_ := hF.chg hc5 hk1
  have h2_ := h2.chg hc5 (hD.notin h2 (by decide) (by decide))
  have h3_ := h3.chg hc5 (hD.notin h3 (by decide) (by decide))
  have hq_ := hq.chg hc5 (hD.notin hq (by decide) (by decide))
  replace hk0 := Grew.out hgr5 hk0 hK.lt; replace hk1 := Grew.out hgr5 hk1 hF.lt
  replace hK := hK_; clear hK_
  replace hF := hF_; clear hF_
  replace h2 := h2_; clear h2_
  replace h3 := h3_; clear h3_
  replace hq := hq_; clear hq_
  replace hC := hC.trans hc5 hgr
  replace hgr := hgr.trans hgr5 hCz
  replace hD := hD5
  replace hCz := hC.size
  refine ⟨_, rfl, ?_⟩
  refine OL.pure (Pure.assign rfl) rfl ?_
  refine OL.nil ?_
  refine TE.seq ?_
  refine TE.region ?_
  refine OL.pure (Pure.move rfl) rfl ?_
  refine OL.pure (Pure.neq rfl rfl) rfl ?_
  refine OL.cast (.bool false) 59 rfl (rfl) ?_
  refine OL.nil ?_
  refine TE.condF rfl rfl ?_
  refine TE.skip ?_
  refine TE.seq ?_
  refine TE.region ?_
  refine OL.pure (Pure.fieldAddr (r := 0) Tryd.runUnderlying66 rfl Tryd.sizeOf26 rfl rfl) rfl ?_
  refine OL.val (Run.load (i := 0) rfl Tryd.isAgg26 h2 (by omega) rfl) rfl ?_
  refine OL.call rfl Tryd.call42 rfl (dflush_any d n (c + 1) (by omega) _ hD) ?_
  rintro _ w6 ⟨ks6, rfl, hD6, hc6, hgr6⟩
  have hK_ := hK.chg hc6 hk0
  have hF_ := hF.chg hc6 hk1
  have h2_ := h2.chg hc6 (hD.notin h2 (by decide) (by decide))
  have h3_ := h3.chg hc6 (hD.notin h3 (by decide) (by decide))
  have hq_ := hq.chg hc6 (hD.notin hq (by decide) (by decide))
  replace hk0 := Grew.out hgr6 hk0 hK.lt; replace hk1 := Grew.out hgr6 hk1 hF.lt
  replace hK := hK_; clear hK_
  replace hF := hF_; clear hF_
  replace h2 := h2_; clear h2_
  replace h3 := h3_; clear h3_
  replace hq := hq_; clear hq_
  replace hC := hC.trans hc6 hgr
  replace hgr := hgr.trans hgr6 hCz
  replace hD := hD6
  replace hCz := hC.size
  refine ⟨_, rfl, ?_⟩
  refine OL.pure (Pure.assign rfl) rfl ?_
  refine OL.nil ?_
  exact TE.ret (vs := [.int .i64 0]) Tryd.results35 (⟨rfl, trivial⟩) ⟨_, rfl, hD, hC, hgr⟩

end Go.Proofs.YtcologcjhenmkaaDoor
