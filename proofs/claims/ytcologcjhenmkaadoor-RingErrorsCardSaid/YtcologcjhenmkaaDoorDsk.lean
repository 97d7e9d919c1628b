/- New, Blocks, Down, reach, operate, keep, walked -/
import Derived.Test.YtcologcjhenmkaaDoorProg
import Derived.Test.YtcologcjhenmkaaDoorEngB
import Derived.Test.YtcologcjhenmkaaDoorSpecA
set_option linter.unusedVariables false
set_option maxRecDepth 4000
namespace Go.Proofs.YtcologcjhenmkaaDoor
open Go.V
theorem info5 : Tryd.prog.info? 5 = some Tryd.t5 := by kernel_rfl
theorem dnew_any (n : Nat) (h0 : 1 ≤ n) (h1 : n ≤ 8192) (w : World) : Calls Tryd.prog 26 #[.int .i64 (n : Int)] w (fun e w_ => ∃ g ks, e = .returned (.tuple #[.pointer (some ⟨g, 0, none⟩), .int .i64 0]) ∧ Dk 93 97 w_ g n (fun _ => zb) (0) false ks ∧ Chg [] w w_ ∧ ∀ k ∈ ks, w.heap.size ≤ k) := by
  refine calls_of_TE (vs := [.int .i64 (n : Int)]) Tryd.func26 Tryd.ntmps26 rfl (by simp) ?_
  have hC : Chg [] w w := Chg.refl _ _
  refine TE.seq ?_
  refine TE.region ?_
  refine OL.pure (Pure.assign rfl) rfl ?_
  refine OL.pure (Pure.assign rfl) rfl ?_
  refine OL.nil ?_
  refine TE.seq ?_
  refine TE.seq ?_
  refine TE.region ?_
  refine OL.pure (Pure.move rfl) rfl ?_
  refine OL.pure (Pure.lss rfl rfl) rfl ?_
  refine OL.cast (.bool false) 5 rfl (congrArg Value.bool (decide_eq_false (by omega))) ?_
  refine OL.pure (Pure.move rfl) rfl ?_
  refine OL.want rfl rfl rfl (Pure.move rfl _) rfl ?_
  refine OL.want rfl rfl rfl (Pure.gtr rfl rfl _) rfl ?_
  refine OL.cast (.bool false) 8 rfl (congrArg Value.bool (decide_eq_false (by omega))) ?_
  refine OL.pure (Pure.pickF rfl rfl) rfl ?_
  refine OL.nil ?_
  refine TE.condF rfl rfl ?_
  refine TE.skip ?_
  refine TE.seq ?_
  refine TE.region ?_
  refine OL.pure (Pure.move rfl) rfl ?_
  refine OL.makeMap zval rfl ?_
  intro mb w1 hm hc1 hg1
  have ge_mb : w.heap.size ≤ mb := by omega
  replace hC := hC.then_ hc1
  refine OL.pure (Pure.build (cs := [.int .i64 (n : Int), .map (some mb), .slice none 0 0, .int .i64 (0), .int .i64 (-1), .bool false]) rfl (rfl)) rfl ?_
  refine OL.box rfl rfl ?_
  intro g w1 hb hc1 hg_g
  have ge_g : w.heap.size ≤ g := by have := hC.size; omega
  replace hm := hm.chg0 hc1
  replace hC := hC.then_ hc1
  have hb : Blk w1 g 93 ([.int .i64 (n : Int), .map (some mb), .slice none 0 0, .int .i64 (0), .int .i64 (-1), .bool false]) := hb
  refine OL.pure (Pure.assign rfl) rfl ?_
  refine OL.pure (Pure.assign rfl) rfl ?_
  refine OL.nil ?_
  exact TE.ret (vs := [.pointer (some ⟨g, 0, none⟩), .int .i64 0]) Tryd.results26 (⟨rfl, rfl, trivial⟩) ⟨g, g :: mb :: [], rfl, ⟨mb, .slice none 0 0, [], fun _ => zb, 0, ⟨hb, hm, Row.nil _ _ _, fun x hx => (by cases hx), fun _ => rfl, h0, h1⟩, fun _ => rfl, Nat.le_refl _, rfl⟩, hC, fun k hk => by simp at hk; rcases hk with rfl | rfl <;> assumption⟩

theorem dblocks_any {V : Int → List UInt8} {ks : List Nat} (d n c : Nat) (dn : Bool) (w : World) (hD : Dk 93 97 w d n (V) (c) dn ks) : Calls Tryd.prog 51 #[.pointer (some ⟨d, 0, none⟩)] w (Ret (.int .i64 (n : Int)) w) := by
  refine calls_of_TE (vs := [.pointer (some ⟨d, 0, none⟩)]) Tryd.func51 Tryd.ntmps51 rfl (by simp) ?_
  obtain ⟨mb, pv, pend, dur, o, hI, hV, hcn, rfl⟩ := hD
  have hb := hI.blk; have hm := hI.map; have hr := hI.row; have hn0 := hI.n0; have hn1 := hI.n1
  refine TE.seq ?_
  refine TE.region ?_
  refine OL.pure (Pure.assign rfl) rfl ?_
  refine OL.nil ?_
  refine TE.seq ?_
  refine TE.seq ?_
  refine TE.region ?_
  refine OL.pure (Pure.move rfl) rfl ?_
  refine OL.pure (Pure.eqlNil Tryd.underlying26 rfl rfl) rfl ?_
  refine OL.nil ?_
  refine TE.condF rfl rfl ?_
  refine TE.skip ?_
  refine TE.seq ?_
  refine TE.region ?_
  refine OL.pure (Pure.move rfl) rfl ?_
  refine OL.pure (Pure.nilCheck rfl) rfl ?_
  refine OL.pure (Pure.fieldAddr (r := 0) Tryd.runUnderlying93 rfl Tryd.sizeOf3 rfl rfl) rfl ?_
  refine OL.val (Run.load (i := 0) rfl Tryd.isAgg3 hb (by omega) rfl) rfl ?_
  refine OL.pure (Pure.assign rfl) rfl ?_
  refine OL.nil ?_
  exact TE.ret (vs := [.int .i64 (n : Int)]) Tryd.results51 (⟨rfl, trivial⟩) ⟨rfl, rfl⟩

theorem ddown_any {V : Int → List UInt8} {ks : List Nat} (d n c : Nat) (dn : Bool) (w : World) (hD : Dk 93 97 w d n (V) (c) dn ks) : Calls Tryd.prog 52 #[.pointer (some ⟨d, 0, none⟩)] w (Ret (.bool dn) w) := by
  refine calls_of_TE (vs := [.pointer (some ⟨d, 0, none⟩)]) Tryd.func52 Tryd.ntmps52 rfl (by simp) ?_
  obtain ⟨mb, pv, pend, dur, o, hI, hV, hcn, rfl⟩ := hD
  have hb := hI.blk; have hm := hI.map; have hr := hI.row; have hn0 := hI.n0; have hn1 := hI.n1
  refine TE.seq ?_
  refine TE.region ?_
  refine OL.pure (Pure.assign rfl) rfl ?_
  refine OL.nil ?_
  refine TE.seq ?_
  refine TE.region ?_
  refine OL.pure (Pure.move rfl) rfl ?_
  refine OL.pure (Pure.neqNil Tryd.underlying26 rfl rfl) rfl ?_
  refine OL.pure (Pure.move rfl) rfl ?_
  refine OL.want rfl rfl rfl (Pure.move rfl _) rfl ?_
  refine OL.want rfl rfl rfl (Pure.nilCheck rfl _) rfl ?_
  refine OL.want rfl rfl rfl (Pure.fieldAddr (r := 5) Tryd.runUnderlying93 rfl Tryd.sizeOf4 rfl rfl _) rfl ?_
  refine OL.want rfl rfl rfl (Run.load (i := 5) rfl Tryd.isAgg4 hb (by omega) rfl) rfl ?_
  refine OL.pure (Pure.pickT rfl rfl) rfl ?_
  refine OL.pure (Pure.assign rfl) rfl ?_
  refine OL.nil ?_
  exact TE.ret (vs := [.bool dn]) Tryd.results52 (⟨rfl, trivial⟩) ⟨rfl, rfl⟩

theorem dblocks_nil (w : World) : Calls Tryd.prog 51 #[.pointer none] w (Ret (.int .i64 0) w) := by
  refine calls_of_TE (vs := [.pointer none]) Tryd.func51 Tryd.ntmps51 rfl (by simp) ?_
  refine TE.seq ?_
  refine TE.region ?_
  refine OL.pure (Pure.assign rfl) rfl ?_
  refine OL.nil ?_
  refine TE.seq ?_
  refine TE.seq ?_
  refine TE.region ?_
  refine OL.pure (Pure.move rfl) rfl ?_
  refine OL.pure (Pure.eqlNil Tryd.underlying26 rfl rfl) rfl ?_
  refine OL.nil ?_
  refine TE.condT rfl rfl ?_
  refine TE.seq ?_
  refine TE.region ?_
  refine OL.pure (Pure.assign rfl) rfl ?_
  refine OL.nil ?_
  exact TE.ret (vs := [.int .i64 0]) Tryd.results51 (⟨rfl, trivial⟩) ⟨rfl, rfl⟩

theorem ddown_nil (w : World) : Calls Tryd.prog 52 #[.pointer none] w (Ret (.bool false) w) := by
  refine calls_of_TE (vs := [.pointer none]) Tryd.func52 Tryd.ntmps52 rfl (by simp) ?_
  refine TE.seq ?_
  refine TE.region ?_
  refine OL.pure (Pure.assign rfl) rfl ?_
  refine OL.nil ?_
  refine TE.seq ?_
  refine TE.region ?_
  refine OL.pure (Pure.move rfl) rfl ?_
  refine OL.pure (Pure.neqNil Tryd.underlying26 rfl rfl) rfl ?_
  refine OL.pure (Pure.move rfl) rfl ?_
  refine OL.pass rfl rfl rfl rfl rfl ?_
  refine OL.pass rfl rfl rfl rfl rfl ?_
  refine OL.pass rfl rfl rfl rfl rfl ?_
  refine OL.pass rfl rfl rfl rfl rfl ?_
  refine OL.pure (Pure.pickF rfl rfl) rfl ?_
  refine OL.pure (Pure.assign rfl) rfl ?_
  refine OL.nil ?_
  exact TE.ret (vs := [.bool false]) Tryd.results52 (⟨rfl, trivial⟩) ⟨rfl, rfl⟩

theorem reach_any {V : Int → List UInt8} {ks : List Nat} (d n c at_ : Nat) (h : at_ < n) (w : World) (hD : Dk 93 97 w d n (V) (c) false ks) : Calls Tryd.prog 48 #[.pointer (some ⟨d, 0, none⟩), .int .i64 (at_ : Int)] w (Ret (.int .i64 0) w) := by
  refine calls_of_TE (vs := [.pointer (some ⟨d, 0, none⟩), .int .i64 (at_ : Int)]) Tryd.func48 Tryd.ntmps48 rfl (by simp) ?_
  obtain ⟨mb, pv, pend, dur, o, hI, hV, hcn, rfl⟩ := hD
  have hb := hI.blk; have hm := hI.map; have hr := hI.row; have hn0 := hI.n0; have hn1 := hI.n1
  refine TE.seq ?_
  refine TE.region ?_
  refine OL.pure (Pure.assign rfl) rfl ?_
  refine OL.nil ?_
  refine TE.seq ?_
  refine TE.block ?_
  refine TE.seq ?_
  refine TE.region ?_
  refine OL.pure (Pure.move rfl) rfl ?_
  refine OL.pure (Pure.eqlNil Tryd.underlying26 rfl rfl) rfl ?_
  refine OL.pure (Pure.assign rfl) rfl ?_
  refine OL.nil ?_
  refine TE.condF rfl rfl ?_
  refine TE.seq ?_
  refine TE.region ?_
  refine OL.pure (Pure.move rfl) rfl ?_
  refine OL.pure (Pure.nilCheck rfl) rfl ?_
  refine OL.pure (Pure.fieldAddr (r := 5) Tryd.runUnderlying93 rfl Tryd.sizeOf4 rfl rfl) rfl ?_
  refine OL.val (Run.load (i := 5) rfl Tryd.isAgg4 hb (by omega) rfl) rfl ?_
  refine OL.pure (Pure.assign rfl) rfl ?_
  refine OL.nil ?_
  refine TE.condF rfl rfl ?_
  refine TE.seq ?_
  refine TE.region ?_
  refine OL.pure (Pure.move rfl) rfl ?_
  refine OL.pure (Pure.lss rfl rfl) rfl ?_
  refine OL.cast (.bool false) 15 rfl (congrArg Value.bool (decide_eq_false (by omega))) ?_
  refine OL.pure (Pure.move rfl) rfl ?_
  refine OL.want rfl rfl rfl (Pure.move rfl _) rfl ?_
  refine OL.want rfl rfl rfl (Pure.move rfl _) rfl ?_
  refine OL.want rfl rfl rfl (Pure.nilCheck rfl _) rfl ?_
  refine OL.want rfl rfl rfl (Pure.fieldAddr (r := 0) Tryd.runUnderlying93 rfl Tryd.sizeOf3 rfl rfl _) rfl ?_
  refine OL.want rfl rfl rfl (Run.load (i := 0) rfl Tryd.isAgg3 hb (by omega) rfl) rfl ?_
  refine OL.want rfl rfl rfl (Pure.geq rfl rfl _) rfl ?_
  refine OL.cast (.bool false) 22 rfl (congrArg Value.bool (decide_eq_false (by omega))) ?_
  refine OL.pure (Pure.pickF rfl rfl) rfl ?_
  refine OL.pure (Pure.assign rfl) rfl ?_
  refine OL.nil ?_
  refine TE.condF rfl rfl ?_
  refine TE.skip ?_
  refine TE.inBlock ?_
  refine TE.seq ?_
  refine TE.region ?_
  refine OL.pure (Pure.assign rfl) rfl ?_
  refine OL.nil ?_
  exact TE.ret (vs := [.int .i64 0]) Tryd.results48 (⟨rfl, trivial⟩) ⟨rfl, rfl⟩

theorem operate_any (d n mb : Nat) (pv : Value) (o : Int) (w : World) (hb : Blk w d 93 [.int .i64 (n : Int), .map (some mb), pv, .int .i64 (o), .int .i64 (-1), .bool false]) : Calls Tryd.prog 49 #[.pointer (some ⟨d, 0, none⟩)] w (RetW (.int .i64 0) d 93 [.int .i64 (n : Int), .map (some mb), pv, .int .i64 (IntKind.i64.wrap (o + 1)), .int .i64 (-1), .bool false] w) := by
  refine calls_of_TE (vs := [.pointer (some ⟨d, 0, none⟩)]) Tryd.func49 Tryd.ntmps49 rfl (by simp) ?_
  have hC : Chg [d] w w := Chg.refl _ _
  refine TE.seq ?_
  refine TE.region ?_
  refine OL.pure (Pure.assign rfl) rfl ?_
  refine OL.nil ?_
  refine TE.seq ?_
  refine TE.seq ?_
  refine TE.region ?_
  refine OL.pure (Pure.move rfl) rfl ?_
  refine OL.pure (Pure.nilCheck rfl) rfl ?_
  refine OL.pure (Pure.fieldAddr (r := 4) Tryd.runUnderlying93 rfl Tryd.sizeOf3 rfl rfl) rfl ?_
  refine OL.val (Run.load (i := 4) rfl Tryd.isAgg3 hb (by omega) rfl) rfl ?_
  refine OL.pure (Pure.eql rfl rfl) rfl ?_
  refine OL.cast (.bool false) 7 rfl (rfl) ?_
  refine OL.nil ?_
  refine TE.condF rfl rfl ?_
  refine TE.skip ?_
  refine TE.seq ?_
  refine TE.region ?_
  refine OL.pure (Pure.move rfl) rfl ?_
  refine OL.pure (Pure.move rfl) rfl ?_
  refine OL.pure (Pure.nilCheck rfl) rfl ?_
  refine OL.pure (Pure.fieldAddr (r := 4) Tryd.runUnderlying93 rfl Tryd.sizeOf3 rfl rfl) rfl ?_
  refine OL.val (Run.load (i := 4) rfl Tryd.isAgg3 hb (by omega) rfl) rfl ?_
  refine OL.pure (Pure.sub rfl rfl (i64 (by omega) (by omega))) rfl ?_
  refine OL.pure (Pure.max rfl rfl) rfl ?_
  refine OL.cast (.int .i64 (-1)) 17 rfl (rfl) ?_
  refine OL.pure (Pure.nilCheck rfl) rfl ?_
  refine OL.pure (Pure.fieldAddr (r := 4) Tryd.runUnderlying93 rfl Tryd.sizeOf3 rfl rfl) rfl ?_
  refine OL.store (j := 4) rfl rfl Tryd.sizeOf3 rfl hb (by omega) (rfl) ?_
  intro w1 hb1 hc1
  replace hC := hC.trans1 hc1 (by first | exact .inr (by omega) | exact .inl (by simp))
  replace hb := hb1
  refine OL.nil ?_
  refine TE.seq ?_
  refine TE.region ?_
  refine OL.pure (Pure.move rfl) rfl ?_
  refine OL.pure (Pure.nilCheck rfl) rfl ?_
  refine OL.pure (Pure.fieldAddr (r := 3) Tryd.runUnderlying93 rfl Tryd.sizeOf3 rfl rfl) rfl ?_
  refine OL.val (Run.load (i := 3) rfl Tryd.isAgg3 hb (by omega) rfl) rfl ?_
  refine OL.pure (Pure.add rfl rfl rfl) rfl ?_
  refine OL.pure (Pure.nilCheck rfl) rfl ?_
  refine OL.pure (Pure.fieldAddr (r := 3) Tryd.runUnderlying93 rfl Tryd.sizeOf3 rfl rfl) rfl ?_
  refine OL.store (j := 3) rfl rfl Tryd.sizeOf3 rfl hb (by omega) (rfl) ?_
  intro w2 hb2 hc2
  replace hC := hC.trans1 hc2 (by first | exact .inr (by omega) | exact .inl (by simp))
  replace hb := hb2
  refine OL.nil ?_
  refine TE.seq ?_
  refine TE.region ?_
  refine OL.pure (Pure.assign rfl) rfl ?_
  refine OL.nil ?_
  exact TE.ret (vs := [.int .i64 0]) Tryd.results49 (⟨rfl, trivial⟩) ⟨rfl, hC, hb⟩

theorem dfail_any {V : Int → List UInt8} {ks : List Nat} (d n c : Nat) (w : World) (hD : Dk 93 97 w d n (V) (c) false ks) : Calls Tryd.prog 21 #[.pointer (some ⟨d, 0, none⟩)] w (fun e w_ => e = .returned (.tuple #[]) ∧ Dk 93 97 w_ d n (V) (c) true ks ∧ Chg [d] w w_) := by
  refine calls_of_TE (vs := [.pointer (some ⟨d, 0, none⟩)]) Tryd.func21 Tryd.ntmps21 rfl (by simp) ?_
  have hC : Chg [d] w w := Chg.refl _ _
  obtain ⟨mb, pv, pend, dur, o, hI, hV, hcn, rfl⟩ := hD
  have hb := hI.blk; have hm := hI.map; have hr := hI.row; have hn0 := hI.n0; have hn1 := hI.n1
  refine TE.seq ?_
  refine TE.region ?_
  refine OL.pure (Pure.move rfl) rfl ?_
  refine OL.pure (Pure.neqNil Tryd.underlying26 rfl rfl) rfl ?_
  refine OL.nil ?_
  refine TE.condT rfl rfl ?_
  refine TE.region ?_
  refine OL.pure (Pure.move rfl) rfl ?_
  refine OL.pure (Pure.nilCheck rfl) rfl ?_
  refine OL.pure (Pure.fieldAddr (r := 5) Tryd.runUnderlying93 rfl Tryd.sizeOf4 rfl rfl) rfl ?_
  refine OL.store (j := 5) rfl rfl Tryd.sizeOf4 rfl hb (by omega) (rfl) ?_
  intro w1 hb1 hc1
  replace hm := hm.chg hc1 (by simpa using hm.ne hb)
  replace hr := hr.chg hc1 (hr.apart hb (by decide))
  replace hC := hC.trans1 hc1 (by first | exact .inr (by omega) | exact .inl (by simp))
  replace hb := hb1
  refine OL.nil ?_
  exact TE.fin (vs := []) Tryd.results21 (trivial) ⟨rfl, ⟨mb, pv, pend, dur, o, ⟨hb, hm, hr, hI.good, hI.len, hn0, hn1⟩, hV, hcn, rfl⟩, hC⟩

theorem keep_any {dur : Int → List UInt8} (d n mb : Nat) (pv : Value) (o : Int) (at_ : Nat) (b : List UInt8) (hl : b.length = 512) (w : World) (hb : Blk w d 93 [.int .i64 (n : Int), .map (some mb), pv, .int .i64 (o), .int .i64 (-1), .bool false]) (hm : Mp w mb zval (fun k => bval (dur k))) : Calls Tryd.prog 43 #[.pointer (some ⟨d, 0, none⟩), .int .i64 (at_ : Int), bval b] w (fun e w_ => e = .returned (.tuple #[]) ∧ Mp w_ mb zval (fun k => bval (upd dur at_ b k)) ∧ Chg [mb] w w_) := by
  refine calls_of_TE (vs := [.pointer (some ⟨d, 0, none⟩), .int .i64 (at_ : Int), bval b]) Tryd.func43 Tryd.ntmps43 rfl (by simp) ?_
  have hC : Chg [mb] w w := Chg.refl _ _
  refine TE.seq ?_
  refine TE.region ?_
  refine OL.box rfl rfl ?_
  intro gx w1 hx hc1 hg_gx
  have lt_d_gx : d < gx := by have := hb.lt; omega
  have ge_gx : w.heap.size ≤ gx := by have := hC.size; omega
  replace hb := hb.chg0 hc1
  replace hm := hm.chg0 hc1
  replace hC := hC.then_ hc1
  have hx : Blk w1 gx 95 (bv b) := hx
  refine OL.nil ?_
  refine TE.seq ?_
  refine TE.seq ?_
  refine TE.region ?_
  refine OL.val (Run.loadAll rfl Tryd.underlying95 rfl hx (by rw [bv_len, hl]; rfl)) rfl ?_
  refine OL.cast (.agg (iv .u8 (b.map fun x => (x.toNat : Int))).toArray) 6 rfl (congrArg (fun c => Value.agg (List.toArray c)) (bv_iv b)) ?_
  refine OL.pure (Pure.build (cs := iv .u8 (zb.map fun x => (x.toNat : Int))) rfl (by kernel_rfl)) rfl ?_
  refine OL.pure (Pure.eqlArr (xs := _) (ys := _) Tryd.underlying95 Tryd.underlying5 info5 (by kernel_rfl) Tryd.eqGuardType95 rfl rfl (by simp [hl]) (rfl)) rfl ?_
  refine OL.nil ?_
  refine TE.ite rfl (fun hz => ?_) (fun hz => ?_)
  ·
    have hz2 : b = zb := bytes_inj hz
    refine TE.seq ?_
    refine TE.region ?_
    refine OL.pure (Pure.move rfl) rfl ?_
    refine OL.pure (Pure.nilCheck rfl) rfl ?_
    refine OL.pure (Pure.fieldAddr (r := 1) Tryd.runUnderlying93 rfl Tryd.sizeOf90 rfl rfl) rfl ?_
    refine OL.val (Run.load (i := 1) rfl Tryd.isAgg90 hb (by omega) rfl) rfl ?_
    refine OL.pure (Pure.move rfl) rfl ?_
    refine OL.delete rfl rfl Tryd.underlying90 Tryd.underlying3 hm ?_
    intro wd hm2 hcd
    replace hb := hb.chg hcd (by simpa using (hm.ne hb).symm)
    replace hx := hx.chg hcd (by simpa using (hm.ne hx).symm)
    replace hC := hC.trans1 hcd (.inl (by simp))
    refine OL.nil ?_
    exact TE.ret (vs := []) Tryd.results43 (trivial) ⟨rfl, hm2.eq (fun k => by rw [hz2]; simp only [upd]; split <;> rfl), hC⟩
  ·
    refine TE.skip ?_
    refine TE.plan 6 (.cons (0, true) (.cons (1, true) (.cons (2, true) (.cons (3, true) (.cons (4, true) (.cons (5, true) .nil)))))) (fun w_ => Chg [] w1 w_) rfl (by kernel_rfl) rfl ?_
    have hS3 : Chg [] w1 w1.drew := Chg.drew _ _
    refine PL.takeP rfl (Pure.move rfl) rfl hS3 ?_
    refine PL.takeP rfl (Pure.nilCheck rfl) rfl hS3 ?_
    refine PL.takeP rfl (Pure.fieldAddr (r := 1) Tryd.runUnderlying93 rfl Tryd.sizeOf90 rfl rfl) rfl hS3 ?_
    refine PL.take rfl (fun w_ h_ => Run.load (i := 1) rfl Tryd.isAgg90 (hb.chg0 h_) (by omega) rfl) rfl hS3 ?_
    refine PL.takeP rfl (Pure.move rfl) rfl hS3 ?_
    refine PL.take rfl (fun w_ h_ => Run.loadAll rfl Tryd.underlying95 rfl (hx.chg0 h_) (by rw [bv_len, hl]; rfl)) rfl hS3 ?_
    refine PL.nilTail ?_
    replace hb := hb.chg0 hS3
    replace hm := hm.chg0 hS3
    replace hx := hx.chg0 hS3
    replace hC := hC.then_ hS3
    refine OL.mapUpdate rfl rfl rfl Tryd.underlying90 Tryd.underlying3 hm ?_
    intro wu hm2 hcu
    replace hb := hb.chg hcu (by simpa using (hm.ne hb).symm)
    replace hx := hx.chg hcu (by simpa using (hm.ne hx).symm)
    replace hC := hC.trans1 hcu (.inl (by simp))
    refine OL.nil ?_
    exact TE.fin (vs := []) Tryd.results43 (trivial) ⟨rfl, hm2.eq (fun k => by simp only [upd]; split <;> rfl), hC⟩

end Go.Proofs.YtcologcjhenmkaaDoor
/- slices.Backward, walked -/
set_option linter.unusedVariables false
set_option maxRecDepth 4000
namespace Go.Proofs.YtcologcjhenmkaaDoor
open Go.V
theorem backward_any (pv : Value) (w : World) (h1 : pv.cells = #[pv]) : Calls Tryd.prog 69 #[pv] w (fun e w_ => ∃ g, e = .returned (.func (.func 78) #[] #[.pointer (some ⟨g, 0, none⟩)]) ∧ Blk w_ g 91 [pv] ∧ Chg [] w w_ ∧ w.heap.size ≤ g) := by
  refine calls_of_TE (vs := [pv]) Tryd.func69 Tryd.ntmps69 rfl (by simp) ?_
  have hC : Chg [] w w := Chg.refl _ _
  refine TE.seq ?_
  refine TE.region ?_
  refine OL.box rfl rfl ?_
  intro g w1 hg hc1 hg_g
  have ge_g : w.heap.size ≤ g := by have := hC.size; omega
  replace hC := hC.then_ hc1
  have h2 : pv.cells.toList = [pv] := by rw [h1]
  replace hg : Blk w1 g 91 [pv] := by rw [← h2]; exact hg
  refine OL.pure (Pure.assign rfl) rfl ?_
  refine OL.nil ?_
  refine TE.seq ?_
  refine TE.region ?_
  refine OL.pure (Pure.makeFunc rfl) rfl ?_
  refine OL.pure (Pure.assign rfl) rfl ?_
  refine OL.nil ?_
  exact TE.ret (vs := [.func (.func 78) #[] #[.pointer (some ⟨g, 0, none⟩)]]) Tryd.results69 (⟨rfl, trivial⟩) ⟨g, rfl, hg, hC, ge_g⟩

theorem backward_iter (g l : Nat) (pv : Value) (pend : Pend) (Inv : Nat → World → Prop) (Dn : World → Prop) (hlen : ∀ x ∈ pend, x.2.length = 512) (hN : pend.length ≤ 1099511627776) (hinv : ∀ i w, Inv i w → Blk w g 91 [pv] ∧ Row w 97 513 pv pend.length (flat pend)) (hround : ∀ i w (h : i < pend.length), Inv (i + 1) w → Rounds Tryd.prog l #[.int .i64 (i : Int), .agg (prow pend[i]).toArray] w (fun go w_ => if go = true then Inv i w_ else Dn w_)) (w : World) (h0 : Inv pend.length w) : Calls Tryd.prog 78 #[.func (.yield l) #[] #[], .pointer (some ⟨g, 0, none⟩)] w (fun e w_ => e = .returned (.tuple #[]) ∧ (Inv 0 w_ ∨ Dn w_)) := by
  refine calls_of_TE (vs := [.func (.yield l) #[] #[], .pointer (some ⟨g, 0, none⟩)]) Tryd.func78 Tryd.ntmps78 rfl (by simp) ?_
  obtain ⟨hg, hr⟩ := hinv _ _ h0
  refine TE.seq ?_
  refine TE.region ?_
  refine OL.val (Run.load (i := 0) rfl Tryd.isAgg91 hg (by omega) rfl) rfl ?_
  refine OL.pure (Pure.lenRow Tryd.runUnderlying91 rfl hr) rfl ?_
  refine OL.pure (Pure.sub rfl rfl (i64 (by omega) (by omega))) rfl ?_
  refine OL.pure (Pure.assign rfl) rfl ?_
  refine OL.nil ?_
  refine TE.block ?_
  refine TE.cast (.int .i64 ((pend.length : Int) - 1)) 3 rfl (rfl) ?_
  refine TE.loopInv (σ := Nat) [0, 1, 3] (fun s_ w_ => s_ ≤ pend.length ∧ Inv s_ w_) (fun s_ => [(0, .func (.yield l) #[] #[]), (1, .pointer (some ⟨g, 0, none⟩)), (3, .int .i64 ((s_ : Int) - 1))]) (fun s_ => s_) pend.length ⟨Nat.le_refl _, h0⟩ rfl ?_
  rintro j w1 ⟨hj, hI⟩ ih1
  refine TE.seq ?_
  refine TE.seq ?_
  refine TE.region ?_
  refine OL.pure (Pure.move rfl) rfl ?_
  refine OL.pure (Pure.geq rfl rfl) rfl ?_
  refine OL.nil ?_
  refine TE.ite rfl (fun hge => ?_) (fun hge => ?_)
  ·
    obtain ⟨i, rfl⟩ : ∃ i, j = i + 1 := ⟨j - 1, by omega⟩
    have hi : i < pend.length := by omega
    obtain ⟨hg, hr⟩ := hinv _ _ hI
    obtain ⟨gp, cap, cs, hpv, hblk, hcap, hcl, htk⟩ := hr.form (by omega)
    refine TE.cast (.int .i64 (i : Int)) 3 rfl (congrArg (Value.int .i64) (by omega)) ?_
    refine TE.skip ?_
    refine TE.seq ?_
    refine TE.block ?_
    refine TE.seq ?_
    refine TE.regionIs [0, 1, 2, 3, 4, 5, 6, 7] rfl ?_
    refine TE.opRun rfl (fun _ h_ => by cases h_) (Pure.move rfl _) rfl ?_
    refine TE.opRun rfl (fun _ h_ => by cases h_) (Pure.move rfl _) rfl ?_
    refine TE.opRun rfl (fun _ h_ => by cases h_) (Run.load (i := 0) rfl Tryd.isAgg91 hg (by omega) rfl) rfl ?_
    refine TE.cast (.slice (some ⟨gp, 0, none⟩) pend.length cap) 13 rfl (hpv) ?_
    have hlp : pend[i].2.length = 512 := hlen _ (List.getElem_mem hi)
    have hrow : (cs.drop (513 * i)).take (prow pend[i]).length = prow pend[i] := by
      rw [prow_len hlp, ← flat_at hi hlen, ← htk, Nat.mul_comm 513 i, List.drop_take, List.take_take, Nat.min_eq_left (by omega)]
    refine TE.opRun rfl (fun _ h_ => by cases h_) (Pure.move rfl _) rfl ?_
    refine TE.opRun rfl (fun _ h_ => by cases h_) (Pure.indexAddrS (r := 513 * i) Tryd.runUnderlying91 Tryd.sizeOf97 rfl rfl (by omega) (by omega) (by omega) _) rfl ?_
    refine TE.opRun rfl (fun _ h_ => by cases h_) (Run.loadRow (i := 513 * i) (vs := prow pend[i]) rfl Tryd.underlying97 rfl (by rw [prow_len hlp]; rfl) hblk (by omega) hrow) rfl ?_
    refine TE.yield rfl rfl rfl rfl (hround i _ hi hI) ?_
    intro go w2 hgo
    refine TE.opRun rfl (fun _ h_ => by cases h_) (Pure.not rfl _) rfl ?_
    cases go with
    | false =>
      refine TE.opsNil ?_
      refine TE.condT rfl rfl ?_
      exact TE.ret (vs := []) Tryd.results78 (trivial) ⟨rfl, .inr (by simpa using hgo)⟩
    | true =>
      replace hgo : Inv i w2 := by simpa using hgo
      refine TE.opsNil ?_
      refine TE.condF rfl rfl ?_
      refine TE.skip ?_
      refine TE.inBlock ?_
      refine TE.region ?_
      refine OL.pure (Pure.move rfl) rfl ?_
      refine OL.pure (Pure.sub rfl rfl (i64 (by omega) (by omega))) rfl ?_
      refine OL.pure (Pure.assign rfl) rfl ?_
      refine OL.nil ?_
      exact TE.sub [0, 1, 3] rfl (ih1 i _ ⟨by omega, hgo⟩ (by omega))
  ·
    obtain rfl : j = 0 := by omega
    refine TE.exit rfl ?_
    exact TE.fin (vs := []) Tryd.results78 (trivial) ⟨rfl, .inl hI⟩

end Go.Proofs.YtcologcjhenmkaaDoor
/- visible, walked -/
set_option linter.unusedVariables false
set_option maxRecDepth 4000
namespace Go.Proofs.YtcologcjhenmkaaDoor
open Go.V
theorem visible_any {V : Int → List UInt8} {ks : List Nat} (d n c at_ : Nat) (hc0 : c ≤ 1073741824) (w : World) (hD : Dk 93 97 w d n (V) (c) false ks) : Calls Tryd.prog 50 #[.pointer (some ⟨d, 0, none⟩), .int .i64 (at_ : Int)] w (fun e w_ => e = .returned (bval (V at_)) ∧ Chg [] w w_) := by
  refine calls_of_TU (vs := [.pointer (some ⟨d, 0, none⟩), .int .i64 (at_ : Int)]) Tryd.func50 Tryd.ntmps50 rfl (by simp) ?_
  have hC : Chg [] w w := Chg.refl _ _
  obtain ⟨mb, pv, pend, dur, o, hI, hV, hcn, rfl⟩ := hD
  have hb := hI.blk; have hm := hI.map; have hr := hI.row; have hn0 := hI.n0; have hn1 := hI.n1
  refine TE.seq ?_
  refine TE.region ?_
  refine OL.box rfl rfl ?_
  intro ga w1 ha hc1 hg_ga
  have lt_d_ga : d < ga := by have := hb.lt; omega
  have ge_ga : w.heap.size ≤ ga := by have := hC.size; omega
  replace hb := hb.chg0 hc1
  replace hm := hm.chg0 hc1
  replace hr := hr.chg0 hc1
  replace hC := hC.then_ hc1
  have ha : Blk w1 ga 3 ([.int .i64 (at_ : Int)]) := ha
  refine OL.alloc Tryd.zeroValue95 rfl ?_
  intro gz w2 hz hc2 hg_gz
  have lt_d_gz : d < gz := by have := hb.lt; omega
  have lt_ga_gz : ga < gz := by have := ha.lt; omega
  have ge_gz : w.heap.size ≤ gz := by have := hC.size; omega
  replace hb := hb.chg0 hc2
  replace hm := hm.chg0 hc2
  replace hr := hr.chg0 hc2
  replace ha := ha.chg0 hc2
  replace hC := hC.then_ hc2
  have hz : Blk w2 gz 95 (bv zb) := hz
  refine OL.nil ?_
  refine TE.seq ?_
  refine TE.seq ?_
  refine TE.region ?_
  refine OL.pure (Pure.move rfl) rfl ?_
  refine OL.pure (Pure.nilCheck rfl) rfl ?_
  refine OL.pure (Pure.fieldAddr (r := 2) Tryd.runUnderlying93 rfl Tryd.sizeOf91 rfl rfl) rfl ?_
  refine OL.val (Run.load (i := 2) rfl Tryd.isAgg91 hb (by omega) rfl) rfl ?_
  refine OL.call rfl Tryd.call69 rfl (backward_any pv _ hr.cell1) ?_
  rintro _ wb ⟨gb, rfl, hg, hcb, hgb⟩
  have lt_d_gb : d < gb := by have := hb.lt; omega
  have lt_ga_gb : ga < gb := by have := ha.lt; omega
  have lt_gz_gb : gz < gb := by have := hz.lt; omega
  replace hb := hb.chg0 hcb
  replace hm := hm.chg0 hcb
  replace hr := hr.chg0 hcb
  replace ha := ha.chg0 hcb
  replace hz := hz.chg0 hcb
  replace hC := hC.then_ hcb
  refine ⟨_, rfl, ?_⟩
  refine OL.nil ?_
  refine TE.block ?_
  refine TE.rangeFunc' (fun D l a e w2 => ∃ r, e = .returned (.tuple #[]) ∧ Lp w2 l r ∧ r.state ≠ .busy ∧ Df w2 D ∧ ((r.pending = none ∧ Chg [] wb w2 ∧ ∀ j (hj : j < pend.length), pend[j].1 ≠ at_) ∨ (r.pending = some .ret ∧ Chg [gz] wb w2 ∧ Blk w2 gz 95 (bv (V at_))))) rfl Tryd.call78 ?_ ?_
  ·
    intro D l wl aF haF hch hgD hgl hDf hLp
    obtain ⟨r0, hR, hL⟩ := hLp.gen
    clear hLp
    refine (backward_iter gb l pv pend (fun i w_ => Chg [] wb w_ ∧ Lp w_ l r0 ∧ Df w_ D ∧ (∀ j (hj : j < pend.length), i ≤ j → pend[j].1 ≠ at_)) (fun w_ => Chg [gz] wb w_ ∧ (∃ r, Lp w_ l r ∧ r.state ≠ .busy ∧ r.pending = some .ret) ∧ Df w_ D ∧ Blk w_ gz 95 (bv (V at_))) ?_ ?_ ?_ ?_ wl ?_).mono ?_
    · exact fun x hx => (hI.good x hx).1
    · omega
    · exact fun i w_ h => ⟨hg.chg0 h.1, hr.chg0 h.1⟩
    ·
      rintro i wi hi ⟨hci, hLi, hDi, hJ⟩
      rw [hR] at hLi
      refine rounds_rec hLi haF rfl rfl ?_
      have hb := hb.chg0 hci
      have hm := hm.chg0 hci
      have hr := hr.chg0 hci
      have ha := ha.chg0 hci
      have hz := hz.chg0 hci
      have hg := hg.chg0 hci
      have hCs := hC.size
      have hZ := hci
      simp only [params]
      have hlp : pend[i].2.length = 512 := (hI.good _ (List.getElem_mem hi)).1
      refine TE.region ?_
      have hrlt := hr.lt
      refine OL.alloc Tryd.zeroValue97 rfl ?_
      intro g6 w3 h6 hc3 hg_g6
      have lt_d_g6 : d < g6 := by have := hb.lt; omega
      have lt_ga_g6 : ga < g6 := by have := ha.lt; omega
      have lt_gz_g6 : gz < g6 := by have := hz.lt; omega
      have lt_gb_g6 : gb < g6 := by have := hg.lt; omega
      have ge_g6 : wb.heap.size ≤ g6 := by have := hZ.size; omega
      replace hb := hb.chg0 hc3
      replace hm := hm.chg0 hc3
      replace hr := hr.chg0 hc3
      replace ha := ha.chg0 hc3
      replace hz := hz.chg0 hc3
      replace hg := hg.chg0 hc3
      replace hLi := hLi.chg0 hc3
      replace hDi := hDi.chg0 hc3
      replace hZ := hZ.then_ hc3
      refine OL.storeRow (vs := prow pend[i]) rfl rfl (by rw [prow_len hlp]; rfl) (by simp [prow, bv, Value.oneCell']) h6 (by rw [prow_len hlp]; exact Nat.le_refl 513) ?_
      intro w4 hb4 hc4
      replace hb := hb.chg hc4 (by simpa using hb.ne h6 (by decide))
      replace hm := hm.chg hc4 (by simpa using hm.ne h6)
      replace hr := hr.chg hc4 (fun k_ hk_ hm_ => by have := hrlt k_ hk_; simp at hm_; omega)
      replace ha := ha.chg hc4 (by simpa using ha.ne h6 (by decide))
      replace hz := hz.chg hc4 (by simpa using hz.ne h6 (by decide))
      replace hg := hg.chg hc4 (by simpa using hg.ne h6 (by decide))
      replace hLi := hLi.chg hc4 (by simpa using hLi.ne h6)
      replace hDi := hDi.chg hc4 (by simpa using hDi.ne h6)
      replace hZ := hZ.trans1 hc4 (by first | exact .inr (by omega) | exact .inl (by simp))
      replace h6 := hb4
      replace h6 := h6.all (by rw [prow_len hlp]; rfl)
      refine OL.nil ?_
      refine TE.beginRound' hLi rfl ?_
      intro w5 hL2 hc5
      replace hb := hb.chg hc5 (by simpa using (hLi.ne hb).symm)
      replace hm := hm.chg hc5 (by simpa using hm.neL hLi)
      replace hr := hr.chg hc5 (hLi.apart hr)
      replace ha := ha.chg hc5 (by simpa using (hLi.ne ha).symm)
      replace hz := hz.chg hc5 (by simpa using (hLi.ne hz).symm)
      replace hg := hg.chg hc5 (by simpa using (hLi.ne hg).symm)
      replace hDi := hDi.chg hc5 (by simpa using hDi.neL hLi)
      replace h6 := h6.chg hc5 (by simpa using (hLi.ne h6).symm)
      replace hZ := hZ.trans1 hc5 (.inr hgl)
      replace hLi := hL2
      refine TE.block ?_
      refine TE.seq ?_
      refine TE.region ?_
      refine OL.pure (Pure.fieldAddr (r := 0) Tryd.runUnderlying97 rfl Tryd.sizeOf3 rfl rfl) rfl ?_
      refine OL.val (Run.load (i := 0) rfl Tryd.isAgg3 h6 (by omega) rfl) rfl ?_
      refine OL.val (Run.load (i := 0) rfl Tryd.isAgg3 ha (by omega) rfl) rfl ?_
      refine OL.pure (Pure.eql rfl rfl) rfl ?_
      refine OL.nil ?_
      refine TE.ite rfl (fun hat => ?_) (fun hat => ?_)
      ·
        have hat2 : pend[i].1 = at_ := by omega
        replace hZ := hZ.mono (bad' := [gz]) (by simp)
        refine TE.seq ?_
        refine TE.region ?_
        refine OL.pure (Pure.fieldAddr (r := 1) Tryd.runUnderlying97 rfl Tryd.sizeOf95 rfl rfl) rfl ?_
        refine OL.val (Run.loadRow (i := 1) (vs := bv pend[i].2) rfl Tryd.underlying95 rfl (by rw [bv_len, hlp]; rfl) h6 (by omega) (by simp [prow])) rfl ?_
        refine OL.storeRow (vs := bv pend[i].2) rfl rfl (by rw [bv_len, hlp]; rfl) (by simp [bv, Value.oneCell']) hz (by rw [bv_len, hlp]; exact Nat.le_refl 512) ?_
        intro w6 hb6 hc6
        replace hb := hb.chg hc6 (by simpa using hb.ne hz (by decide))
        replace hm := hm.chg hc6 (by simpa using hm.ne hz)
        replace hr := hr.chg hc6 (hr.apart hz (by decide))
        replace ha := ha.chg hc6 (by simpa using ha.ne hz (by decide))
        replace hg := hg.chg hc6 (by simpa using hg.ne hz (by decide))
        replace hLi := hLi.chg hc6 (by simpa using hLi.ne hz)
        replace hDi := hDi.chg hc6 (by simpa using hDi.ne hz)
        replace h6 := h6.chg hc6 (by simpa using h6.ne hz (by decide))
        replace hZ := hZ.trans1 hc6 (by first | exact .inr (by omega) | exact .inl (by simp))
        replace hz := hb6
        replace hz := hz.all (by rw [bv_len, bv_len, hlp]; rfl)
        have hvat : V at_ = pend[i].2 := by rw [hV]; exact vis_last hi hat2 hJ
        rw [← hvat] at hz
        refine OL.nil ?_
        refine TE.roundRet' hLi ?_
        intro w7 hL2 hc7
        replace hb := hb.chg hc7 (by simpa using (hLi.ne hb).symm)
        replace hm := hm.chg hc7 (by simpa using hm.neL hLi)
        replace hr := hr.chg hc7 (hLi.apart hr)
        replace ha := ha.chg hc7 (by simpa using (hLi.ne ha).symm)
        replace hz := hz.chg hc7 (by simpa using (hLi.ne hz).symm)
        replace hg := hg.chg hc7 (by simpa using (hLi.ne hg).symm)
        replace hDi := hDi.chg hc7 (by simpa using hDi.neL hLi)
        replace h6 := h6.chg hc7 (by simpa using (hLi.ne h6).symm)
        replace hZ := hZ.trans1 hc7 (.inr hgl)
        replace hLi := hL2
        rw [if_neg (by simp)]
        exact ⟨hZ, ⟨_, hLi, by simp, rfl⟩, hDi, hz⟩
      ·
        refine TE.skip ?_
        refine TE.inBlock ?_
        refine TE.roundEnd' hLi ?_
        intro w8 hL2 hc8
        replace hb := hb.chg hc8 (by simpa using (hLi.ne hb).symm)
        replace hm := hm.chg hc8 (by simpa using hm.neL hLi)
        replace hr := hr.chg hc8 (hLi.apart hr)
        replace ha := ha.chg hc8 (by simpa using (hLi.ne ha).symm)
        replace hz := hz.chg hc8 (by simpa using (hLi.ne hz).symm)
        replace hg := hg.chg hc8 (by simpa using (hLi.ne hg).symm)
        replace hDi := hDi.chg hc8 (by simpa using hDi.neL hLi)
        replace h6 := h6.chg hc8 (by simpa using (hLi.ne h6).symm)
        replace hZ := hZ.trans1 hc8 (.inr hgl)
        replace hLi := hL2
        rw [if_pos rfl]
        exact ⟨hZ, by rw [hR]; exact hLi, hDi, none_below hi hJ (by omega)⟩
    · exact ⟨hch, hL, hDf, fun j hj hij => absurd hj (by omega)⟩
    · rintro e w2 ⟨rfl, h⟩; rcases h with ⟨h1, h2, h3, h4⟩ | ⟨h1, ⟨r, h2, h3, h4⟩, h5, h6⟩; exact ⟨r0, rfl, h2, by rw [hR]; simp [rec0], h3, .inl ⟨by rw [hR]; rfl, h1, fun j hj => h4 j hj (Nat.zero_le _)⟩⟩; exact ⟨r, rfl, h2, h3, h5, .inr ⟨h4, h1, h6⟩⟩
  ·
    rintro D l a e w2 hgD hgl ⟨r, rfl, hL, hnb, hDf, h⟩
    replace hgl := Nat.le_trans hC.size hgl; replace hgD := Nat.le_trans hC.size hgD
    refine ⟨_, r, rfl, hL, hnb, ?_⟩
    intro w3 hL3 hc3
    have hDf3 := hDf.chg hc3 (by simpa using hDf.neL hL)
    have hlw : ∀ g t cs, Blk w2 g t cs → Blk w3 g t cs := fun g t cs h => h.chg hc3 (by simpa using (hL.ne h).symm)
    rcases h with ⟨hpn, hcw, hJ⟩ | ⟨hpn, hcw, hz⟩
    ·
      rw [hpn]; simp only [Option.map_none, Option.toList_none, List.nil_append]
      replace hm := (hm.chg0 hcw).chg hc3 (by simpa using (hm.chg0 hcw).neL hL)
      replace hb := hlw _ _ _ (hb.chg0 hcw)
      replace ha := hlw _ _ _ (ha.chg0 hcw)
      replace hz := hlw _ _ _ (hz.chg0 hcw)
      replace hC := (hC.then_ hcw).trans1 hc3 (.inr hgl)
      refine TE.inBlock ?_
      refine TE.seq ?_
      refine TE.plan 5 (.cons (0, true) (.cons (1, true) (.cons (2, true) (.cons (3, true) (.cons (4, true) .nil))))) (fun w_ => Chg [] w3 w_) rfl (by kernel_rfl) rfl ?_
      have hS9 : Chg [] w3 w3.drew := Chg.drew _ _
      refine PL.takeP rfl (Pure.move rfl) rfl hS9 ?_
      refine PL.takeP rfl (Pure.nilCheck rfl) rfl hS9 ?_
      refine PL.takeP rfl (Pure.fieldAddr (r := 1) Tryd.runUnderlying93 rfl Tryd.sizeOf90 rfl rfl) rfl hS9 ?_
      refine PL.take rfl (fun w_ h_ => Run.load (i := 1) rfl Tryd.isAgg90 (hb.chg0 h_) (by omega) rfl) rfl hS9 ?_
      refine PL.take rfl (fun w_ h_ => Run.load (i := 0) rfl Tryd.isAgg3 (ha.chg0 h_) (by omega) rfl) rfl hS9 ?_
      refine PL.nilTail ?_
      replace hb := hb.chg0 hS9
      replace hm := hm.chg0 hS9
      replace ha := ha.chg0 hS9
      replace hz := hz.chg0 hS9
      replace hDf3 := hDf3.chg0 hS9
      replace hC := hC.then_ hS9
      refine OL.lookup rfl rfl Tryd.underlying90 Tryd.underlying3 (fun w_ => (Tryd.zeroValue95 w_).trans rfl) hm (by rfl) ?_
      have hda := hI.len at_
      refine OL.storeRow (vs := bv (dur at_)) rfl rfl (by rw [bv_len, hda]; rfl) (by simp [bv, Value.oneCell']) hz (by rw [bv_len, hda]; exact Nat.le_refl 512) ?_
      intro w10 hb10 hc10
      replace hb := hb.chg hc10 (by simpa using hb.ne hz (by decide))
      replace hm := hm.chg hc10 (by simpa using hm.ne hz)
      replace ha := ha.chg hc10 (by simpa using ha.ne hz (by decide))
      replace hDf3 := hDf3.chg hc10 (by simpa using hDf3.ne hz)
      replace hC := hC.trans1 hc10 (by first | exact .inr (by omega) | exact .inl (by simp))
      replace hz := hb10
      replace hz := hz.all (by rw [bv_len, bv_len, hda]; rfl)
      have hvat : V at_ = dur at_ := by rw [hV]; exact vis_other (fun x hx => by obtain ⟨j, hj, rfl⟩ := List.getElem_of_mem hx; have := hJ j hj; omega)
      rw [← hvat] at hz
      refine OL.nil ?_
      refine TE.retU (fun a_ ha_ => ?_)
      refine Unw.mark' hDf3 (fun wz hcz => ?_)
      replace hz := hz.chg hcz (by simpa using (hDf3.ne hz).symm)
      have hlz : (V at_).length = 512 := by rw [hV]; exact vis_len (fun x hx => (hI.good x hx).1) hI.len _
      exact Unw.done (vs := [bval (V at_)]) ha_ Tryd.results50 ⟨⟨_, rfl, loadRow_at Tryd.underlying95 rfl (by rw [bv_len, hlz]; rfl) hz (by rw [List.drop_zero, List.take_length])⟩, trivial⟩ ⟨rfl, hC.trans1 hcz (.inr hgD)⟩
    ·
      rw [hpn]; simp only [Option.map_some, Option.toList_some, List.singleton_append]
      replace hz := hlw _ _ _ hz
      replace hC := (hC.trans1 hcw (.inr ge_gz)).trans1 hc3 (.inr hgl)
      refine TE.retU (fun a_ ha_ => ?_)
      refine Unw.mark' hDf3 (fun wz hcz => ?_)
      replace hz := hz.chg hcz (by simpa using (hDf3.ne hz).symm)
      have hlz : (V at_).length = 512 := by rw [hV]; exact vis_len (fun x hx => (hI.good x hx).1) hI.len _
      exact Unw.done (vs := [bval (V at_)]) ha_ Tryd.results50 ⟨⟨_, rfl, loadRow_at Tryd.underlying95 rfl (by rw [bv_len, hlz]; rfl) hz (by rw [List.drop_zero, List.take_length])⟩, trivial⟩ ⟨rfl, hC.trans1 hcz (.inr hgD)⟩

end Go.Proofs.YtcologcjhenmkaaDoor
/- Read, walked -/
set_option linter.unusedVariables false
set_option maxRecDepth 4000
namespace Go.Proofs.YtcologcjhenmkaaDoor
open Go.V
theorem dread_any {V : Int → List UInt8} {ks : List Nat} (d n c at_ : Nat) (h : at_ < n) (hc0 : c ≤ 1073741824) (w : World) (hD : Dk 93 97 w d n (V) (c) false ks) : Calls Tryd.prog 28 #[.pointer (some ⟨d, 0, none⟩), .int .i64 (at_ : Int)] w (fun e w_ => ∃ g, e = .returned (.tuple #[.slice (some ⟨g, 0, none⟩) 512 512, .int .i64 0]) ∧ Blk w_ g 95 (bv (V at_)) ∧ Chg [] w w_ ∧ w.heap.size ≤ g) := by
  refine calls_of_TE (vs := [.pointer (some ⟨d, 0, none⟩), .int .i64 (at_ : Int)]) Tryd.func28 Tryd.ntmps28 rfl (by simp) ?_
  have hC : Chg [] w w := Chg.refl _ _
  refine TE.seq ?_
  refine TE.region ?_
  refine OL.pure (Pure.assign rfl) rfl ?_
  refine OL.pure (Pure.assign rfl) rfl ?_
  refine OL.nil ?_
  refine TE.seq ?_
  refine TE.seq ?_
  refine TE.region ?_
  refine OL.pure (Pure.move rfl) rfl ?_
  refine OL.pure (Pure.move rfl) rfl ?_
  refine OL.call rfl Tryd.call48 rfl (reach_any d n c at_ h _ hD) ?_
  rintro _ _ ⟨rfl, rfl⟩
  refine ⟨_, rfl, ?_⟩
  refine OL.pure (Pure.assign rfl) rfl ?_
  refine OL.nil ?_
  refine TE.seq ?_
  refine TE.region ?_
  refine OL.pure (Pure.move rfl) rfl ?_
  refine OL.pure (Pure.neq rfl rfl) rfl ?_
  refine OL.cast (.bool false) 12 rfl (rfl) ?_
  refine OL.nil ?_
  refine TE.condF rfl rfl ?_
  refine TE.skip ?_
  refine TE.seq ?_
  refine TE.region ?_
  refine OL.pure (Pure.move rfl) rfl ?_
  refine OL.pure (Pure.move rfl) rfl ?_
  refine OL.call rfl Tryd.call50 rfl (visible_any d n c at_ hc0 _ hD) ?_
  rintro _ w1 ⟨rfl, hc1⟩
  replace hD := hD.chg0 hc1
  replace hC := hC.then_ hc1
  refine ⟨_, rfl, ?_⟩
  have hl := hD.len at_
  refine OL.alloc Tryd.zeroValue95 rfl ?_
  intro g w2 hg hc2 hg_g
  have ge_g : w.heap.size ≤ g := by have := hC.size; omega
  replace hD := hD.chg0 hc2
  replace hC := hC.then_ hc2
  have hg : Blk w2 g 95 (bv zb) := hg
  refine OL.storeRow (vs := bv (V at_)) rfl rfl (by rw [bv_len, hl]; rfl) (by simp [bv, Value.oneCell']) hg (by rw [bv_len, hl]; exact Nat.le_refl 512) ?_
  intro w3 hb3 hc3
  replace hD := hD.chg hc3 (hD.apart hg (by decide) (by decide))
  replace hC := hC.trans1 hc3 (by first | exact .inr (by omega) | exact .inl (by simp))
  replace hg := hb3
  replace hg := hg.all (by rw [bv_len, bv_len, hl]; rfl)
  refine OL.nil ?_
  refine TE.seq ?_
  refine TE.region ?_
  refine OL.val (Pure.sliceArr Tryd.runUnderlying95 Tryd.sizeOf5 rfl _) rfl ?_
  refine OL.pure (Pure.assign rfl) rfl ?_
  refine OL.pure (Pure.assign rfl) rfl ?_
  refine OL.nil ?_
  exact TE.ret (vs := [.slice (some ⟨g, 0, none⟩) 512 512, .int .i64 0]) Tryd.results28 (⟨rfl, rfl, trivial⟩) ⟨g, rfl, hg, hC, ge_g⟩

end Go.Proofs.YtcologcjhenmkaaDoor
/- Write, walked -/
set_option linter.unusedVariables false
set_option maxRecDepth 4000
namespace Go.Proofs.YtcologcjhenmkaaDoor
open Go.V
theorem info97 : Tryd.prog.info? 97 = some Tryd.t97 := by kernel_rfl
theorem built_prow (at_ : Nat) (bs : List UInt8) (hl : bs.length = 512) : Tryd.prog.built 97 [(0, .int .i64 (at_ : Int)), (1, bval bs)] = some (prow (at_, bs)).toArray := by
  rw [built_struct (places := [(0, 1), (1, 512)]) info97 Tryd.underlying97 rfl (by kernel_rfl)]
  have hz : ∃ cs : List Value, (Value.agg (List.replicate 1 (Value.int .i64 0) ++ bv zb).toArray).cells = cs.toArray ∧ cs.length = 512 + 1 := ⟨_, rfl, by simp [bv, zb]⟩
  obtain ⟨cs, hcs, hlen⟩ := hz
  have h1 := fill_cons (place := (([(0, 1), (1, 512)] : List (Nat × Nat)).toArray[·]?)) (cs := cs) (vs := [.int .i64 (at_ : Int)]) (i := 0) (off := 0) (v := .int .i64 (at_ : Int)) (rest := [(1, bval bs)]) rfl rfl (by simp; omega)
  have h2 := fill_cons (place := (([(0, 1), (1, 512)] : List (Nat × Nat)).toArray[·]?)) (cs := lay cs 0 [.int .i64 (at_ : Int)]) (vs := bv bs) (i := 1) (off := 1) (v := bval bs) (rest := []) (by rw [bv_len, hl]; rfl) rfl (by rw [lay_len (by simp; omega), bv_len]; omega)
  refine Eq.trans (?_ : _ = Instr.fill (([(0, 1), (1, 512)] : List (Nat × Nat)).toArray[·]?) cs.toArray [(0, .int .i64 (at_ : Int)), (1, bval bs)]) ?_
  · rw [← hcs]; rfl
  · rw [h1, h2, lay_two hlen (by rw [bv_len, hl])]; rfl
set_option maxHeartbeats 1000000 in
theorem dwrite_any {V : Int → List UInt8} {ks : List Nat} {tb : TypeId} (d n c at_ g cap : Nat) (bs : List UInt8) (h : at_ < n) (hc0 : c ≤ 1073741824) (hl : bs.length = 512) (htD : tb ≠ 93) (htP : tb ≠ 97) (w : World) (hD : Dk 93 97 w d n (V) (c) false ks) (hg : Blk w g tb (bv bs)) : Calls Tryd.prog 27 #[.pointer (some ⟨d, 0, none⟩), .int .i64 (at_ : Int), .slice (some ⟨g, 0, none⟩) 512 cap] w (fun e w_ => ∃ ks_, e = .returned (.int .i64 0) ∧ Dk 93 97 w_ d n (upd V at_ bs) (c + 1) false ks_ ∧ Chg ks w w_ ∧ Grew ks ks_ w) := by
  refine calls_of_TE (vs := [.pointer (some ⟨d, 0, none⟩), .int .i64 (at_ : Int), .slice (some ⟨g, 0, none⟩) 512 cap]) Tryd.func27 Tryd.ntmps27 rfl (by simp) ?_
  refine TE.seq ?_
  refine TE.region ?_
  refine OL.pure (Pure.assign rfl) rfl ?_
  refine OL.nil ?_
  refine TE.seq ?_
  refine TE.seq ?_
  refine TE.region ?_
  refine OL.pure (Pure.move rfl) rfl ?_
  refine OL.pure (Pure.move rfl) rfl ?_
  refine OL.call rfl Tryd.call48 rfl (reach_any d n c at_ h _ hD) ?_
  rintro _ _ ⟨rfl, rfl⟩
  refine ⟨_, rfl, ?_⟩
  obtain ⟨mb, pv, pend, dur, o, hI, hV, hcn, rfl⟩ := hD
  have hb := hI.blk; have hm := hI.map; have hr := hI.row; have hn0 := hI.n0; have hn1 := hI.n1
  have hgp : g ∉ own pv := hr.notin hg (Ne.symm htP)
  have hC : Chg (d :: mb :: own pv) w w := Chg.refl _ _
  refine OL.pure (Pure.assign rfl) rfl ?_
  refine OL.nil ?_
  refine TE.seq ?_
  refine TE.region ?_
  refine OL.pure (Pure.move rfl) rfl ?_
  refine OL.pure (Pure.neq rfl rfl) rfl ?_
  refine OL.cast (.bool false) 13 rfl (rfl) ?_
  refine OL.nil ?_
  refine TE.condF rfl rfl ?_
  refine TE.skip ?_
  refine TE.seq ?_
  refine TE.seq ?_
  refine TE.region ?_
  refine OL.pure (Pure.move rfl) rfl ?_
  refine OL.pure (Pure.lenSlice Tryd.runUnderlying34 rfl) rfl ?_
  refine OL.pure (Pure.neq rfl rfl) rfl ?_
  refine OL.cast (.bool false) 17 rfl (rfl) ?_
  refine OL.nil ?_
  refine TE.condF rfl rfl ?_
  refine TE.skip ?_
  refine TE.seq ?_
  refine TE.seq ?_
  refine TE.region ?_
  refine OL.pure (Pure.move rfl) rfl ?_
  refine OL.call rfl Tryd.call49 rfl (operate_any d n mb pv o _ hb) ?_
  rintro _ w1 ⟨rfl, hc1, hb1⟩
  replace hm := hm.chg hc1 (by simpa using hm.ne hb)
  replace hr := hr.chg hc1 (hr.apart hb (by decide))
  replace hg := hg.chg hc1 (by simpa using hg.ne hb htD)
  replace hC := hC.trans1 hc1 (by first | exact .inr (by omega) | exact .inl (by simp))
  replace hb := hb1
  refine ⟨_, rfl, ?_⟩
  refine OL.pure (Pure.assign rfl) rfl ?_
  refine OL.nil ?_
  refine TE.seq ?_
  refine TE.region ?_
  refine OL.pure (Pure.move rfl) rfl ?_
  refine OL.pure (Pure.neq rfl rfl) rfl ?_
  refine OL.cast (.bool false) 21 rfl (rfl) ?_
  refine OL.nil ?_
  refine TE.condF rfl rfl ?_
  refine TE.skip ?_
  refine TE.seq ?_
  refine TE.plan 14 (.cons (0, true) (.cons (1, true) (.cons (2, true) (.cons (3, true) (.cons (4, true) (.cons (5, true) (.cons (6, true) (.cons (7, true) (.cons (8, true) (.cons (9, true) (.cons (10, false) (.cons (11, false) (.cons (12, true) (.cons (13, true) .nil)))))))))))))) (fun w_ => Blk w_ d 93 ([.int .i64 (n : Int), .map (some mb), pv, .int .i64 (IntKind.i64.wrap (o + 1)), .int .i64 (-1), .bool false]) ∧ Blk w_ g tb (bv bs)) rfl (by kernel_rfl) rfl ?_
  have hS1 : Chg [] w1 w1.drew := Chg.drew _ _
  replace hb := hb.chg0 hS1
  replace hm := hm.chg0 hS1
  replace hr := hr.chg0 hS1
  replace hg := hg.chg0 hS1
  replace hC := hC.then_ hS1
  refine PL.takeP rfl (Pure.move rfl) rfl ⟨hb, hg⟩ ?_
  refine PL.takeP rfl (Pure.move rfl) rfl ⟨hb, hg⟩ ?_
  refine PL.takeP rfl (Pure.nilCheck rfl) rfl ⟨hb, hg⟩ ?_
  refine PL.takeP rfl (Pure.fieldAddr (r := 2) Tryd.runUnderlying93 rfl Tryd.sizeOf91 rfl rfl) rfl ⟨hb, hg⟩ ?_
  refine PL.take rfl (fun w_ h_ => Run.load (i := 2) rfl Tryd.isAgg91 h_.1 (by omega) rfl) rfl ⟨hb, hg⟩ ?_
  refine PL.takeP rfl (Pure.move rfl) rfl ⟨hb, hg⟩ ?_
  refine PL.takeP rfl (Pure.move rfl) rfl ⟨hb, hg⟩ ?_
  refine PL.takeP rfl (Pure.arrayAt Tryd.underlying95 rfl (by decide)) rfl ⟨hb, hg⟩ ?_
  refine PL.take rfl (fun w_ h_ => Run.loadAll rfl Tryd.underlying95 rfl h_.2 (by rw [bv_len, hl]; rfl)) rfl ⟨hb, hg⟩ ?_
  refine PL.takeP rfl (Pure.build (cs := prow (at_, bs)) rfl (built_prow at_ bs hl)) rfl ⟨hb, hg⟩ ?_
  have hrlt := hr.lt
  have hglt := hg.lt
  refine PL.buildSliceC (cs := prow (at_, bs)) rfl rfl Tryd.runUnderlying91 Tryd.sizeOf97 Tryd.zeroValue97 (by decide) (by decide) (fill_one (by simp) rfl (prow_len hl)) rfl (fun w_ h_ => ⟨hb.chg0 h_, hg.chg0 h_⟩) ?_
  intro q w2 hq hc2 hg_q
  have lt_d_q : d < q := by have := hb.lt; omega
  have lt_g_q : g < q := by have := hg.lt; omega
  have ge_q : w.heap.size ≤ q := by have := hC.size; omega
  replace hb := hb.chg0 hc2
  replace hm := hm.chg0 hc2
  replace hr := hr.chg0 hc2
  replace hg := hg.chg0 hc2
  replace hC := hC.then_ hc2
  have hCs := hC.size
  refine PL.appendC (size := 513) (v := pv) rfl rfl rfl Tryd.underlying91 (.inl Tryd.underlying91) info97 rfl rfl rfl (by decide) rfl hr ((Src.of_blk (m := 1) (news := prow (at_, bs)) hq (prow_len (x := (at_, bs)) hl) (by rw [List.drop_zero]; exact List.take_of_length_le (Nat.le_of_eq (prow_len (x := (at_, bs)) hl))))) (prow_one) (by show _ * 520 ≤ _; have := hcn; omega) (fun w_ h_ => ⟨hb.chg h_ (hr.notin hb (by decide)), hg.chg h_ hgp⟩) ?_
  intro pv2 w3 hr2 hc3 ho_pv2
  have hm_pv2 := MineIn.step (show MineIn (d :: mb :: own pv) w.heap.size pv from fun k hk => .inl (List.mem_cons_of_mem _ (List.mem_cons_of_mem _ hk))) (by have := hC.size; omega) ho_pv2
  replace hb := hb.chg hc3 (hr.notin hb (by decide))
  replace hm := hm.chg hc3 (hm.notin hr)
  replace hg := hg.chg hc3 hgp
  replace hC := hC.ownIn hc3 (show MineIn (d :: mb :: own pv) w.heap.size pv from fun k hk => .inl (List.mem_cons_of_mem _ (List.mem_cons_of_mem _ hk)))
  rw [← flat_snoc] at hr2
  refine PL.takeP rfl (Pure.nilCheck rfl) rfl ⟨hb, hg⟩ ?_
  refine PL.takeP rfl (Pure.fieldAddr (r := 2) Tryd.runUnderlying93 rfl Tryd.sizeOf91 rfl rfl) rfl ⟨hb, hg⟩ ?_
  refine PL.nilTail ?_
  have hr2one := hr2.oneCell
  refine OL.store (j := 2) rfl rfl Tryd.sizeOf91 hr2one hb (by omega) (rfl) ?_
  intro w4 hb4 hc4
  replace hm := hm.chg hc4 (by simpa using hm.ne hb)
  replace hg := hg.chg hc4 (by simpa using hg.ne hb htD)
  replace hr2 := hr2.chg hc4 (hr2.apart hb (by decide))
  replace hC := hC.trans1 hc4 (by first | exact .inr (by omega) | exact .inl (by simp))
  replace hb := hb4
  refine OL.nil ?_
  refine TE.seq ?_
  refine TE.region ?_
  refine OL.pure (Pure.assign rfl) rfl ?_
  refine OL.nil ?_
  exact TE.ret (vs := [.int .i64 0]) Tryd.results27 (⟨rfl, trivial⟩) ⟨d :: mb :: own pv2, rfl, ⟨mb, pv2, pend ++ [(at_, bs)], dur, _, ⟨hb, hm, by rw [List.length_append]; exact hr2, fun x hx => by rcases List.mem_append.1 hx with hx | hx; exact hI.good x hx; simp at hx; subst hx; exact ⟨hl, h⟩, hI.len, hn0, hn1⟩, fun k => by rw [vis_snoc]; simp only [upd]; split; rfl; exact hV k, by rw [List.length_append]; exact Nat.add_le_add_right hcn 1, rfl⟩, hC, fun k hk => by rcases List.mem_cons.1 hk with rfl | hk; exact .inl (by simp); rcases List.mem_cons.1 hk with rfl | hk; exact .inl (by simp); rcases ho_pv2 k hk with h1 | h1; exact .inl (by simp [h1]); exact .inr (by omega)⟩

end Go.Proofs.YtcologcjhenmkaaDoor
/- Flush and Restart, walked -/
set_option linter.unusedVariables false
set_option maxRecDepth 4000
namespace Go.Proofs.YtcologcjhenmkaaDoor
open Go.V
set_option maxHeartbeats 1000000 in
theorem dflush_any {V : Int → List UInt8} {ks : List Nat} (d n c : Nat) (hc0 : c ≤ 1073741824) (w : World) (hD : Dk 93 97 w d n (V) (c) false ks) : Calls Tryd.prog 42 #[.pointer (some ⟨d, 0, none⟩)] w (fun e w_ => ∃ ks_, e = .returned (.int .i64 0) ∧ Dk 93 97 w_ d n (V) (0) false ks_ ∧ Chg ks w w_ ∧ Grew ks ks_ w) := by
  refine calls_of_TE (vs := [.pointer (some ⟨d, 0, none⟩)]) Tryd.func42 Tryd.ntmps42 rfl (by simp) ?_
  have hn0 := hD.n0
  refine TE.seq ?_
  refine TE.region ?_
  refine OL.pure (Pure.assign rfl) rfl ?_
  refine OL.nil ?_
  refine TE.seq ?_
  refine TE.seq ?_
  refine TE.region ?_
  refine OL.pure (Pure.move rfl) rfl ?_
  refine OL.call rfl Tryd.call48 rfl (reach_any d n c 0 (by omega) _ hD) ?_
  rintro _ _ ⟨rfl, rfl⟩
  refine ⟨_, rfl, ?_⟩
  obtain ⟨mb, pv, pend, dur, o, hI, hV, hcn, rfl⟩ := hD
  have hb := hI.blk; have hm := hI.map; have hr := hI.row; have hn0 := hI.n0; have hn1 := hI.n1
  have hC : Chg (d :: mb :: own pv) w w := Chg.refl _ _
  refine OL.pure (Pure.assign rfl) rfl ?_
  refine OL.nil ?_
  refine TE.seq ?_
  refine TE.region ?_
  refine OL.pure (Pure.move rfl) rfl ?_
  refine OL.pure (Pure.neq rfl rfl) rfl ?_
  refine OL.cast (.bool false) 10 rfl (rfl) ?_
  refine OL.nil ?_
  refine TE.condF rfl rfl ?_
  refine TE.skip ?_
  refine TE.seq ?_
  refine TE.seq ?_
  refine TE.region ?_
  refine OL.pure (Pure.move rfl) rfl ?_
  refine OL.call rfl Tryd.call49 rfl (operate_any d n mb pv o _ hb) ?_
  rintro _ w1 ⟨rfl, hc1, hb1⟩
  replace hm := hm.chg hc1 (by simpa using hm.ne hb)
  replace hr := hr.chg hc1 (hr.apart hb (by decide))
  replace hC := hC.trans1 hc1 (by first | exact .inr (by omega) | exact .inl (by simp))
  replace hb := hb1
  refine ⟨_, rfl, ?_⟩
  refine OL.pure (Pure.assign rfl) rfl ?_
  refine OL.nil ?_
  refine TE.seq ?_
  refine TE.region ?_
  refine OL.pure (Pure.move rfl) rfl ?_
  refine OL.pure (Pure.neq rfl rfl) rfl ?_
  refine OL.cast (.bool false) 15 rfl (rfl) ?_
  refine OL.nil ?_
  refine TE.condF rfl rfl ?_
  refine TE.skip ?_
  refine TE.seq ?_
  refine TE.seq ?_
  refine TE.region ?_
  refine OL.pure (Pure.move rfl) rfl ?_
  refine OL.pure (Pure.nilCheck rfl) rfl ?_
  refine OL.pure (Pure.fieldAddr (r := 2) Tryd.runUnderlying93 rfl Tryd.sizeOf91 rfl rfl) rfl ?_
  refine OL.val (Run.load (i := 2) rfl Tryd.isAgg91 hb (by omega) rfl) rfl ?_
  refine OL.pure (Pure.lenRow Tryd.runUnderlying91 rfl hr) rfl ?_
  refine OL.pure (Pure.move rfl) rfl ?_
  refine OL.nil ?_
  refine TE.block ?_
  refine TE.loopInv (σ := Nat) [0, 20, 21, 22] (fun s_ w_ => s_ ≤ pend.length ∧ Blk w_ d 93 [.int .i64 (n : Int), .map (some mb), pv, .int .i64 (IntKind.i64.wrap (o + 1)), .int .i64 (-1), .bool false] ∧ Mp w_ mb zval (fun k => bval (vis (pend.take s_) dur k)) ∧ Row w_ 97 513 pv pend.length (flat pend) ∧ Chg (d :: mb :: own pv) w w_) (fun s_ => [(0, .pointer (some ⟨d, 0, none⟩)), (20, pv), (21, .int .i64 (↑pend.length)), (22, .int .i64 (s_ : Int))]) (fun s_ => pend.length - s_) 0 ⟨Nat.zero_le _, hb, hm, hr, hC⟩ rfl ?_
  rintro i w1 ⟨hi0, hb, hm, hr, hC⟩ ih1
  refine TE.seq ?_
  refine TE.region ?_
  refine OL.pure (Pure.lss rfl rfl) rfl ?_
  refine OL.nil ?_
  refine TE.seq ?_
  refine TE.ite rfl (fun hi => ?_) (fun hi => ?_)
  ·
    replace hi : i < pend.length := by omega
    obtain ⟨gp, cap, cs, hpv, hblk, hcap, hcl, htk⟩ := hr.form (by omega)
    have hlp : pend[i].2.length = 512 := (hI.good _ (List.getElem_mem hi)).1
    have hrow : (cs.drop (513 * i)).take (prow pend[i]).length = prow pend[i] := by
      rw [prow_len hlp, ← flat_at hi (fun x hx => (hI.good x hx).1), ← htk, Nat.mul_comm 513 i, List.drop_take, List.take_take, Nat.min_eq_left (by omega)]
    refine TE.cast (.slice (some ⟨gp, 0, none⟩) pend.length cap) 20 rfl (hpv) ?_
    refine TE.skip ?_
    refine TE.seq ?_
    refine TE.block ?_
    refine TE.seq ?_
    refine TE.region ?_
    refine OL.pure (Pure.indexAddrS (r := 513 * i) Tryd.runUnderlying91 Tryd.sizeOf97 rfl rfl (by omega) (by omega) (by omega)) rfl ?_
    refine OL.val (Run.loadRow (i := 513 * i) (vs := prow pend[i]) rfl Tryd.underlying97 rfl (by rw [prow_len hlp]; rfl) hblk (by omega) hrow) rfl ?_
    have hrlt := hr.lt
    refine OL.alloc Tryd.zeroValue97 rfl ?_
    intro g6 w2 h6 hc2 hg_g6
    have lt_d_g6 : d < g6 := by have := hb.lt; omega
    have ge_g6 : w.heap.size ≤ g6 := by have := hC.size; omega
    replace hb := hb.chg0 hc2
    replace hm := hm.chg0 hc2
    replace hr := hr.chg0 hc2
    replace hC := hC.then_ hc2
    refine OL.storeRow (vs := prow pend[i]) rfl rfl (by rw [prow_len hlp]; rfl) (prow_one) h6 (by rw [prow_len hlp]; exact Nat.le_refl 513) ?_
    intro w3 hb3 hc3
    replace hb := hb.chg hc3 (by simpa using hb.ne h6 (by decide))
    replace hm := hm.chg hc3 (by simpa using hm.ne h6)
    replace hr := hr.chg hc3 (fun k_ hk_ hm_ => by have := hrlt k_ hk_; simp at hm_; omega)
    replace hC := hC.trans1 hc3 (by first | exact .inr (by omega) | exact .inl (by simp))
    replace h6 := hb3
    replace h6 := h6.all (by rw [prow_len hlp]; rfl)
    refine OL.nil ?_
    refine TE.region ?_
    refine OL.pure (Pure.move rfl) rfl ?_
    refine OL.pure (Pure.fieldAddr (r := 0) Tryd.runUnderlying97 rfl Tryd.sizeOf3 rfl rfl) rfl ?_
    refine OL.val (Run.load (i := 0) rfl Tryd.isAgg3 h6 (by omega) rfl) rfl ?_
    refine OL.pure (Pure.fieldAddr (r := 1) Tryd.runUnderlying97 rfl Tryd.sizeOf95 rfl rfl) rfl ?_
    refine OL.val (Run.loadRow (i := 1) (vs := bv pend[i].2) rfl Tryd.underlying95 rfl (by rw [bv_len, hlp]; rfl) h6 (by omega) (by simp [prow])) rfl ?_
    refine OL.call rfl Tryd.call43 rfl (keep_any d n mb pv _ pend[i].1 pend[i].2 hlp _ hb hm) ?_
    rintro _ w9 ⟨rfl, hm9, hc9⟩
    replace hb := hb.chg hc9 (by simpa using (hm.ne hb).symm)
    replace hr := hr.chg hc9 (hm.apart hr)
    replace hC := hC.trans1 hc9 (.inl (by simp))
    replace hm := hm9
    refine ⟨_, rfl, ?_⟩
    rw [← vis_take hi] at hm
    refine OL.nil ?_
    refine TE.inBlock ?_
    refine TE.region ?_
    refine OL.pure (Pure.add rfl rfl (i64 (by omega) (by omega))) rfl ?_
    refine OL.pure (Pure.move rfl) rfl ?_
    refine OL.nil ?_
    refine TE.cast (pv) 20 rfl (hpv.symm) ?_
    exact TE.sub [0, 20, 21, 22] rfl (ih1 (i + 1) _ ⟨by omega, hb, hm, hr, hC⟩ (by omega))
  ·
    obtain rfl : i = pend.length := by omega
    rw [List.take_length] at hm
    refine TE.exit rfl ?_
    refine TE.seq ?_
    refine TE.region ?_
    refine OL.pure (Pure.move rfl) rfl ?_
    refine OL.pure (Pure.nilCheck rfl) rfl ?_
    refine OL.pure (Pure.fieldAddr (r := 2) Tryd.runUnderlying93 rfl Tryd.sizeOf91 rfl rfl) rfl ?_
    refine OL.store (j := 2) rfl rfl Tryd.sizeOf91 rfl hb (by omega) (rfl) ?_
    intro w4 hb4 hc4
    replace hm := hm.chg hc4 (by simpa using hm.ne hb)
    replace hr := hr.chg hc4 (hr.apart hb (by decide))
    replace hC := hC.trans1 hc4 (by first | exact .inr (by omega) | exact .inl (by simp))
    replace hb := hb4
    refine OL.nil ?_
    refine TE.seq ?_
    refine TE.region ?_
    refine OL.pure (Pure.assign rfl) rfl ?_
    refine OL.nil ?_
    exact TE.ret (vs := [.int .i64 0]) Tryd.results42 (⟨rfl, trivial⟩) ⟨[d, mb], rfl, ⟨mb, .slice none 0 0, [], vis pend dur, _, ⟨hb, hm, Row.nil _ _ _, fun x hx => (by cases hx), fun k => vis_len (fun x hx => (hI.good x hx).1) hI.len k, hn0, hn1⟩, hV, Nat.le_refl _, rfl⟩, hC, fun k hk => .inl (by simp at hk ⊢; rcases hk with rfl | rfl <;> simp)⟩

theorem drestart_any {V : Int → List UInt8} {ks : List Nat} (d n : Nat) (w : World) (hD : Dk 93 97 w d n (V) (0) true ks) : Calls Tryd.prog 22 #[.pointer (some ⟨d, 0, none⟩), .slice none 0 0] w (fun e w_ => ∃ ks_, e = .returned (.int .i64 0) ∧ Dk 93 97 w_ d n (V) (0) false ks_ ∧ Chg ks w w_ ∧ Grew ks ks_ w) := by
  refine calls_of_TE (vs := [.pointer (some ⟨d, 0, none⟩), .slice none 0 0]) Tryd.func22 Tryd.ntmps22 rfl (by simp) ?_
  obtain ⟨mb, pv, pend, dur, o, hI, hV, hcn, rfl⟩ := hD
  have hb := hI.blk; have hm := hI.map; have hr := hI.row; have hn0 := hI.n0; have hn1 := hI.n1
  obtain rfl : pend = [] := List.eq_nil_of_length_eq_zero (by omega)
  have hC : Chg (d :: mb :: own pv) w w := Chg.refl _ _
  refine TE.seq ?_
  refine TE.region ?_
  refine OL.pure (Pure.assign rfl) rfl ?_
  refine OL.nil ?_
  refine TE.seq ?_
  refine TE.block ?_
  refine TE.seq ?_
  refine TE.region ?_
  refine OL.pure (Pure.move rfl) rfl ?_
  refine OL.pure (Pure.eqlNil Tryd.underlying26 rfl rfl) rfl ?_
  refine OL.pure (Pure.assign rfl) rfl ?_
  refine OL.nil ?_
  refine TE.condF rfl rfl ?_
  refine TE.seq ?_
  refine TE.region ?_
  refine OL.pure (Pure.move rfl) rfl ?_
  refine OL.pure (Pure.nilCheck rfl) rfl ?_
  refine OL.pure (Pure.fieldAddr (r := 5) Tryd.runUnderlying93 rfl Tryd.sizeOf4 rfl rfl) rfl ?_
  refine OL.val (Run.load (i := 5) rfl Tryd.isAgg4 hb (by omega) rfl) rfl ?_
  refine OL.pure (Pure.not rfl) rfl ?_
  refine OL.pure (Pure.assign rfl) rfl ?_
  refine OL.nil ?_
  refine TE.condF rfl rfl ?_
  refine TE.skip ?_
  refine TE.inBlock ?_
  refine TE.seq ?_
  refine TE.seq ?_
  refine TE.region ?_
  refine OL.pure (Pure.move rfl) rfl ?_
  refine OL.pure (Pure.nilCheck rfl) rfl ?_
  refine OL.pure (Pure.fieldAddr (r := 2) Tryd.runUnderlying93 rfl Tryd.sizeOf91 rfl rfl) rfl ?_
  refine OL.val (Run.load (i := 2) rfl Tryd.isAgg91 hb (by omega) rfl) rfl ?_
  refine OL.pure (Pure.lenRow Tryd.runUnderlying91 rfl hr) rfl ?_
  refine OL.pure (Pure.move rfl) rfl ?_
  refine OL.nil ?_
  refine TE.block ?_
  refine TE.loopInv (σ := Unit) [0, 21, 22] (fun s_ w_ => Blk w_ d 93 [.int .i64 (n : Int), .map (some mb), pv, .int .i64 (o), .int .i64 (-1), .bool true] ∧ Mp w_ mb zval (fun k => bval (dur k)) ∧ Chg (d :: mb :: own pv) w w_) (fun s_ => [(0, .pointer (some ⟨d, 0, none⟩)), (21, .int .i64 (0)), (22, .int .i64 (0))]) (fun s_ => 0) () ⟨hb, hm, hC⟩ rfl ?_
  rintro _ w1 ⟨hb, hm, hC⟩ ih1
  refine TE.seq ?_
  refine TE.region ?_
  refine OL.pure (Pure.lss rfl rfl) rfl ?_
  refine OL.cast (.bool false) 23 rfl (congrArg Value.bool (decide_eq_false (by simp))) ?_
  refine OL.nil ?_
  refine TE.seq ?_
  refine TE.condF rfl rfl ?_
  refine TE.exit rfl ?_
  refine TE.seq ?_
  refine TE.region ?_
  refine OL.pure (Pure.move rfl) rfl ?_
  refine OL.pure (Pure.move rfl) rfl ?_
  refine OL.pure (Pure.move rfl) rfl ?_
  refine OL.pure (Pure.nilCheck rfl) rfl ?_
  refine OL.pure (Pure.fieldAddr (r := 2) Tryd.runUnderlying93 rfl Tryd.sizeOf91 rfl rfl) rfl ?_
  refine OL.store (j := 2) rfl rfl Tryd.sizeOf91 rfl hb (by omega) (rfl) ?_
  intro w2 hb2 hc2
  replace hm := hm.chg hc2 (by simpa using hm.ne hb)
  replace hC := hC.trans1 hc2 (by first | exact .inr (by omega) | exact .inl (by simp))
  replace hb := hb2
  refine OL.pure (Pure.nilCheck rfl) rfl ?_
  refine OL.pure (Pure.fieldAddr (r := 4) Tryd.runUnderlying93 rfl Tryd.sizeOf3 rfl rfl) rfl ?_
  refine OL.store (j := 4) rfl rfl Tryd.sizeOf3 rfl hb (by omega) (rfl) ?_
  intro w3 hb3 hc3
  replace hm := hm.chg hc3 (by simpa using hm.ne hb)
  replace hC := hC.trans1 hc3 (by first | exact .inr (by omega) | exact .inl (by simp))
  replace hb := hb3
  refine OL.pure (Pure.nilCheck rfl) rfl ?_
  refine OL.pure (Pure.fieldAddr (r := 5) Tryd.runUnderlying93 rfl Tryd.sizeOf4 rfl rfl) rfl ?_
  refine OL.store (j := 5) rfl rfl Tryd.sizeOf4 rfl hb (by omega) (rfl) ?_
  intro w4 hb4 hc4
  replace hm := hm.chg hc4 (by simpa using hm.ne hb)
  replace hC := hC.trans1 hc4 (by first | exact .inr (by omega) | exact .inl (by simp))
  replace hb := hb4
  refine OL.nil ?_
  refine TE.seq ?_
  refine TE.region ?_
  refine OL.pure (Pure.assign rfl) rfl ?_
  refine OL.nil ?_
  exact TE.ret (vs := [.int .i64 0]) Tryd.results22 (⟨rfl, trivial⟩) ⟨[d, mb], rfl, ⟨mb, .slice none 0 0, [], dur, _, ⟨hb, hm, Row.nil _ _ _, fun x hx => (by cases hx), hI.len, hn0, hn1⟩, hV, Nat.le_refl _, rfl⟩, hC, fun k hk => .inl (by simp at hk ⊢; rcases hk with rfl | rfl <;> simp)⟩

end Go.Proofs.YtcologcjhenmkaaDoor
