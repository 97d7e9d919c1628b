/- The law of clones of Readers, walked -/
import Derived.Test.YtigjmemoaapmgaaDoorProg
import Derived.Test.YtigjmemoaapmgaaDoorEng6
import Derived.Test.YtigjmemoaapmgaaDoorFrameSpec2
import Derived.Test.YtigjmemoaapmgaaDoorFrm1
import Derived.Test.YtigjmemoaapmgaaDoorFrm2
import Derived.Test.YtigjmemoaapmgaaDoorFrm3
import Derived.Test.YtigjmemoaapmgaaDoorFrm4
import Derived.Test.YtigjmemoaapmgaaDoorFrm5
import Derived.Test.YtigjmemoaapmgaaDoorFrm6
import Derived.Test.YtigjmemoaapmgaaDoorFrm11
import Derived.Test.YtigjmemoaapmgaaDoorFrm13
import Derived.Test.YtigjmemoaapmgaaDoorFrm18
set_option linter.unusedVariables false
set_option maxRecDepth 4000
namespace Go.Proofs.YtigjmemoaapmgaaDoor
open Go.V Go.Sha Go.Frm
set_option maxHeartbeats 2000000 in
theorem clones_law_any {tK tF : TypeId} (st nb : Int) (A T B : Option Addr) (ca ct cb cut : Nat) (L : List (List UInt8)) (b a : List UInt8) (ts : List Int) (cs : List UInt8) (hts : ∀ z, z ∈ ts → 0 ≤ z ∧ z ≤ 65535) (hcut : cut ≤ 65535) (n : Nat) (hn : n ≤ 65535) (m0 : List UInt8) (w : World) (hK : Blk w 1 tK (iv .u32 K)) (hF : Blk w 0 tF (iv .i64 fldL)) (hA : Cells w A L) (hT : CellsI w .u16 T ts) (hB : CellsB w B cs) : Calls Tryd.prog 11 #[.agg (runCells st nb (.slice A L.length ca) b a (.slice T ts.length ct) (.slice B cs.length cb) cut).toArray, .int .u16 (n : Int), .string (str m0)] w (RetC (.bool true) w) := by
  refine calls_of_TE (vs := [.agg (runCells st nb (.slice A L.length ca) b a (.slice T ts.length ct) (.slice B cs.length cb) cut).toArray, .int .u16 (n : Int), .string (str m0)]) Tryd.func11 Tryd.ntmps11 rfl (by simp) ?_
  have hC : Chg [] w w := Chg.refl _ _
  have h0w : 1 < w.heap.size := hK.lt
  have h1w : 0 < w.heap.size := hF.lt
  refine TE.seq ?_
  refine TE.region ?_
  refine OL.box rfl rfl ?_
  intro g3 w1 h3 hc1 hg_g3
  have lt_1_g3 : 1 < g3 := by have := hK.lt; omega
  have lt_0_g3 : 0 < g3 := by have := hF.lt; omega
  have ge_g3 : w.heap.size ≤ g3 := by have := hC.size; omega
  replace hK := hK.chg0 hc1
  replace hF := hF.chg0 hc1
  replace hC := hC.then_ hc1
  have h3 : Blk w1 g3 27 (runCells st nb (.slice A L.length ca) b a (.slice T ts.length ct) (.slice B cs.length cb) cut) := h3
  obtain ⟨m, hm⟩ : ∃ m, m = m0.take (min m0.length 50) := ⟨_, rfl⟩
  have hml : m.length ≤ 50 := by rw [hm]; simp; omega
  refine OL.pure (Pure.assign rfl) rfl ?_
  refine OL.nil ?_
  refine TE.seq ?_
  refine TE.planAll (.cons (0, true) (.cons (2, true) (.cons (3, true) (.cons (4, true) (.cons (5, true) (.cons (6, true) (.cons (1, false) (.cons (7, true) (.cons (8, true) .nil))))))))) (fun w_ => Chg [] w1 w_) rfl (by kernel_rfl) ?_
  have hS2 : Chg [] w1 w1.drew := Chg.drew _ _
  replace hK := hK.chg0 hS2
  replace hF := hF.chg0 hS2
  replace h3 := h3.chg0 hS2
  replace hC := hC.then_ hS2
  refine PL.takeS (fun w_ => Chg [] w1.drew w_) (fun _ h_ => hS2.then_ h_) rfl (fun w_ h_ => Run.loadAll rfl Tryd.underlying27 rfl (h3.chg0 h_) (rfl)) rfl (Chg.refl _ _) ?_
  have hP3 : Chg [] w1.drew w1.drew := Chg.refl _ _
  refine PL.takeP rfl (Pure.move rfl) rfl hP3 ?_
  refine PL.takeP rfl (Pure.move rfl) rfl hP3 ?_
  refine PL.takeP rfl (Pure.lenStr Tryd.runUnderlying9 rfl) rfl hP3 ?_
  refine PL.takeP rfl (Pure.min rfl rfl) rfl hP3 ?_
  refine PL.takeP rfl (Pure.sliceTo (l := m0) (q := min m0.length 50) Tryd.underlying9 rfl rfl (by omega) (by omega)) rfl hP3 ?_
  refine PL.cast (.string (str m)) 23 rfl (by rw [hm]) ?_
  have hA2 := hA.chg0 hC
  have hT2 := CellsI.chg0 hT hC
  have hB2 := CellsB.chg0 hB hC
  refine PL.call rfl rfl Tryd.call12 rfl (bytes_any st nb A T B ca ct cb cut L b a ts cs hts hcut _ hA2 hT2 hB2) ?_
  rintro _ w4 ⟨s, rfl, hsl, hplain, hc4⟩
  have hc4s := hP3.then_ hc4
  replace hK := hK.chg0 hc4
  replace hF := hF.chg0 hc4
  replace h3 := h3.chg0 hc4
  replace hC := hC.then_ hc4
  refine ⟨_, rfl, hc4s, ?_⟩
  refine PL.takeP rfl (Pure.assign rfl) rfl hc4s ?_
  refine PL.takeP rfl (Pure.assign rfl) rfl hc4s ?_
  refine PL.nil ?_
  refine TE.seq ?_
  refine TE.region ?_
  refine OL.call rfl Tryd.call32 rfl (newreader_any 1 5 (by decide) _) ?_
  rintro _ w5 ⟨g, rfl, hb, hc5, hg_g⟩
  have lt_1_g : 1 < g := by have := hK.lt; omega
  have lt_0_g : 0 < g := by have := hF.lt; omega
  have ge_g : w.heap.size ≤ g := by have := hC.size; omega
  replace hK := hK.chg0 hc5
  replace hF := hF.chg0 hc5
  replace hC := hC.then_ hc5
  refine ⟨_, rfl, ?_⟩
  have ge_g : w.heap.size ≤ g := by have := hC.size; omega
  replace hb : Blk w5 g 97 (Rd.cells (⟨1, 5, [], 0⟩ : Rd)) := hb
  refine OL.pure (Pure.move rfl) rfl ?_
  refine OL.pure (Pure.extract (vs := [.pointer (some ⟨g, 0, none⟩), .int .i64 0]) (i := 0) rfl rfl) rfl ?_
  refine OL.pure (Pure.extract (vs := [.pointer (some ⟨g, 0, none⟩), .int .i64 0]) (i := 1) rfl rfl) rfl ?_
  refine OL.pure (Pure.assign rfl) rfl ?_
  refine OL.pure (Pure.assign rfl) rfl ?_
  refine OL.nil ?_
  refine TE.seq ?_
  refine TE.region ?_
  refine OL.pure (Pure.assign rfl) rfl ?_
  refine OL.nil ?_
  refine TE.seq ?_
  refine TE.region ?_
  refine OL.pure (Pure.move rfl) rfl ?_
  refine OL.pure (Pure.move rfl) rfl ?_
  refine OL.call rfl Tryd.call33 rfl (feed_nil m _) ?_
  rintro _ _ ⟨rfl, rfl⟩
  refine ⟨_, rfl, ?_⟩
  refine OL.pure (Pure.move rfl) rfl ?_
  refine OL.pure (Pure.extract (vs := [.slice none 0 0, .int .i64 1]) (i := 0) rfl rfl) rfl ?_
  refine OL.pure (Pure.extract (vs := [.slice none 0 0, .int .i64 1]) (i := 1) rfl rfl) rfl ?_
  refine OL.pure (Pure.assign rfl) rfl ?_
  refine OL.pure (Pure.assign rfl) rfl ?_
  refine OL.nil ?_
  refine TE.seq ?_
  refine TE.seq ?_
  refine TE.region ?_
  refine OL.call rfl Tryd.call15 rfl (known_any _ hK hF) ?_
  rintro _ w6 ⟨rfl, hc6⟩
  replace hK := hK.chg0 hc6
  replace hF := hF.chg0 hc6
  replace hb := hb.chg0 hc6
  replace hC := hC.then_ hc6
  refine ⟨_, rfl, ?_⟩
  refine OL.pure (Pure.not rfl) rfl ?_
  refine OL.pure (Pure.move rfl) rfl ?_
  refine OL.want rfl rfl rfl (Pure.move rfl _) rfl ?_
  refine OL.want rfl rfl rfl (Pure.neq rfl rfl _) rfl ?_
  refine OL.cast (.bool false) 38 rfl (rfl) ?_
  refine OL.pure (Pure.pickF rfl rfl) rfl ?_
  refine OL.pure (Pure.move rfl) rfl ?_
  refine OL.want rfl rfl rfl (Pure.move rfl _) rfl ?_
  refine OL.want rfl rfl rfl (Pure.eqlNil Tryd.underlying76 rfl rfl _) rfl ?_
  refine OL.pure (Pure.pickF rfl rfl) rfl ?_
  refine OL.pure (Pure.move rfl) rfl ?_
  refine OL.want rfl rfl rfl (Pure.move rfl _) rfl ?_
  refine OL.want rfl rfl rfl (Pure.lenSlice Tryd.runUnderlying68 rfl _) rfl ?_
  refine OL.want rfl rfl rfl (Pure.neq rfl rfl _) rfl ?_
  refine OL.cast (.bool false) 47 rfl (rfl) ?_
  refine OL.pure (Pure.pickF rfl rfl) rfl ?_
  refine OL.pure (Pure.move rfl) rfl ?_
  refine OL.want rfl rfl rfl (Pure.move rfl _) rfl ?_
  refine OL.want rfl rfl rfl (Pure.neq rfl rfl _) rfl ?_
  refine OL.cast (.bool false) 51 rfl (rfl) ?_
  refine OL.pure (Pure.pickF rfl rfl) rfl ?_
  refine OL.pure (Pure.move rfl) rfl ?_
  refine OL.want rfl rfl rfl (Pure.move rfl _) rfl ?_
  refine OL.callG rfl rfl rfl rfl Tryd.call34 rfl (next_nil _) ?_
  rintro _ _ ⟨rfl, rfl⟩
  refine ⟨_, rfl, ?_⟩
  refine OL.want rfl rfl rfl (Pure.move rfl _) rfl ?_
  refine OL.callG rfl rfl rfl rfl Tryd.call35 rfl (pending_nil _) ?_
  rintro _ _ ⟨rfl, rfl⟩
  refine ⟨_, rfl, ?_⟩
  refine OL.want rfl rfl rfl (Pure.add rfl rfl (i64 (by omega) (by omega)) _) rfl ?_
  refine OL.want rfl rfl rfl (Pure.neq rfl rfl _) rfl ?_
  refine OL.cast (.bool false) 59 rfl (rfl) ?_
  refine OL.pure (Pure.pickF rfl rfl) rfl ?_
  refine OL.pure (Pure.move rfl) rfl ?_
  refine OL.want rfl rfl rfl (Pure.move rfl _) rfl ?_
  refine OL.callG rfl rfl rfl rfl Tryd.call36 rfl (failed_nil _) ?_
  rintro _ _ ⟨rfl, rfl⟩
  refine ⟨_, rfl, ?_⟩
  refine OL.want rfl rfl rfl (Pure.neq rfl rfl _) rfl ?_
  refine OL.cast (.bool false) 64 rfl (rfl) ?_
  refine OL.pure (Pure.pickF rfl rfl) rfl ?_
  refine OL.pure (Pure.move rfl) rfl ?_
  refine OL.want rfl rfl rfl (Pure.move rfl _) rfl ?_
  refine OL.callG rfl rfl rfl rfl Tryd.call37 rfl (rclone_nil _) ?_
  rintro _ _ ⟨rfl, rfl⟩
  refine ⟨_, rfl, ?_⟩
  refine OL.want rfl rfl rfl (Pure.neqNil Tryd.underlying76 rfl rfl _) rfl ?_
  refine OL.pure (Pure.pickF rfl rfl) rfl ?_
  refine OL.pure (Pure.move rfl) rfl ?_
  refine OL.want rfl rfl rfl (Pure.move rfl _) rfl ?_
  refine OL.callG rfl rfl rfl rfl Tryd.call38 rfl (requal_nil _) ?_
  rintro _ _ ⟨rfl, rfl⟩
  refine ⟨_, rfl, ?_⟩
  refine OL.want rfl rfl rfl (Pure.not rfl _) rfl ?_
  refine OL.pure (Pure.pickF rfl rfl) rfl ?_
  refine OL.pure (Pure.move rfl) rfl ?_
  refine OL.want rfl rfl rfl (Pure.move rfl _) rfl ?_
  refine OL.want rfl rfl rfl (Pure.move rfl _) rfl ?_
  refine OL.callG rfl rfl rfl rfl Tryd.call38 rfl (requal_nil1 g _) ?_
  rintro _ _ ⟨rfl, rfl⟩
  refine ⟨_, rfl, ?_⟩
  refine OL.pure (Pure.pickF rfl rfl) rfl ?_
  refine OL.pure (Pure.move rfl) rfl ?_
  refine OL.want rfl rfl rfl (Pure.move rfl _) rfl ?_
  refine OL.want rfl rfl rfl (Pure.move rfl _) rfl ?_
  refine OL.callG rfl rfl rfl rfl Tryd.call38 rfl (requal_nil2 g _) ?_
  rintro _ _ ⟨rfl, rfl⟩
  refine ⟨_, rfl, ?_⟩
  refine OL.pure (Pure.pickF rfl rfl) rfl ?_
  refine OL.nil ?_
  refine TE.condF rfl rfl ?_
  refine TE.skip ?_
  refine TE.seq ?_
  refine TE.region ?_
  refine OL.pure (Pure.move rfl) rfl ?_
  refine OL.pure (Pure.move rfl) rfl ?_
  refine OL.pure (Pure.move rfl) rfl ?_
  refine OL.pure (Pure.conv Tryd.runUnderlying25 Tryd.runUnderlying3 rfl (i64in (by omega) (by omega))) rfl ?_
  refine OL.pure (Pure.move rfl) rfl ?_
  refine OL.pure (Pure.lenStr Tryd.runUnderlying9 rfl) rfl ?_
  refine OL.pure (Pure.min rfl rfl) rfl ?_
  obtain ⟨k, hk⟩ : ∃ k : Nat, k = min n s.length := ⟨_, rfl⟩
  refine OL.cast (.int .i64 (k : Int)) 92 rfl (congrArg (Value.int .i64) (by omega)) ?_
  have hk1 : (s.take k).length ≤ 1000 := by simp; omega
  obtain ⟨R, hR⟩ : ∃ R, R = Rd.feed (⟨1, 5, [], 0⟩ : Rd) (s.take k) := ⟨_, rfl⟩
  have hbd := Rd.feed_bd (⟨1, 5, [], 0⟩ : Rd) (s.take k)
  have hcalm := Rd.calm_feed (⟨1, 5, [], 0⟩ : Rd) (s.take k) rfl
  rw [← hR] at hbd hcalm
  obtain ⟨hw1, hw2, hw3, hw4⟩ := hbd
  simp only [List.length_nil, Nat.zero_add] at hw1 hw2 hw3
  have hgK : 1 < g := by omega
  have hgF : 0 < g := by omega
  refine OL.pure (Pure.sliceTo (l := s) (q := k) Tryd.underlying9 rfl rfl (by omega) (by omega)) rfl ?_
  refine OL.call rfl Tryd.call33 rfl (feed_any (⟨1, 5, [], 0⟩ : Rd) (s.take k) g hgK hgF (by simp only [List.length_nil]; omega) (by decide) _ hK hF hb) ?_
  rintro _ w7 ⟨_, _, rfl, hc7, hx_hc7⟩
  replace hK := hK.chg hc7 (by simp; omega)
  replace hF := hF.chg hc7 (by simp; omega)
  replace hC := hC.trans1 hc7 (by first | exact .inr (by omega) | exact .inl (by simp))
  replace hb : Blk w7 g 97 (Rd.cells (Rd.feed (⟨1, 5, [], 0⟩ : Rd) (s.take k))) := hx_hc7
  refine ⟨_, rfl, ?_⟩
  rw [← hR] at hb
  refine OL.nil ?_
  refine TE.seq ?_
  refine TE.region ?_
  refine OL.pure (Pure.move rfl) rfl ?_
  refine OL.call rfl Tryd.call37 rfl (rclone_any R g _ hb) ?_
  rintro _ w8 ⟨gc, rfl, hc, hc8, hg_gc⟩
  have lt_1_gc : 1 < gc := by have := hK.lt; omega
  have lt_0_gc : 0 < gc := by have := hF.lt; omega
  have lt_g_gc : g < gc := by have := hb.lt; omega
  have ge_gc : w.heap.size ≤ gc := by have := hC.size; omega
  replace hK := hK.chg0 hc8
  replace hF := hF.chg0 hc8
  replace hb := hb.chg0 hc8
  replace hC := hC.then_ hc8
  refine ⟨_, rfl, ?_⟩
  have ge_gc : w.heap.size ≤ gc := by have := hC.size; omega
  refine OL.pure (Pure.assign rfl) rfl ?_
  refine OL.nil ?_
  refine TE.seq ?_
  refine TE.seq ?_
  refine TE.region ?_
  refine OL.pure (Pure.move rfl) rfl ?_
  refine OL.pure (Pure.eqlNil Tryd.underlying76 rfl rfl) rfl ?_
  refine OL.pure (Pure.move rfl) rfl ?_
  refine OL.want rfl rfl rfl (Pure.move rfl _) rfl ?_
  refine OL.want rfl rfl rfl (Pure.move rfl _) rfl ?_
  refine OL.callG rfl rfl rfl rfl Tryd.call38 rfl (requal_any R R gc g _ hc hb) ?_
  rintro _ w9 ⟨rfl, hc9⟩
  replace hK := hK.chg0 hc9
  replace hF := hF.chg0 hc9
  replace hb := hb.chg0 hc9
  replace hc := hc.chg0 hc9
  replace hC := hC.then_ hc9
  refine ⟨_, rfl, ?_⟩
  refine OL.cast (.bool true) 102 rfl (congrArg Value.bool (rdSame_self R)) ?_
  refine OL.want rfl rfl rfl (Pure.not rfl _) rfl ?_
  refine OL.pure (Pure.pickF rfl rfl) rfl ?_
  refine OL.nil ?_
  refine TE.condF rfl rfl ?_
  refine TE.skip ?_
  refine TE.seq ?_
  refine TE.region ?_
  refine OL.pure (Pure.move rfl) rfl ?_
  refine OL.call rfl Tryd.call34 rfl (next_any R g _ hb) ?_
  rintro _ _ ⟨rfl, rfl⟩
  refine ⟨_, rfl, ?_⟩
  refine OL.pure (Pure.move rfl) rfl ?_
  refine OL.call rfl Tryd.call35 rfl (pending_any R g _ hb) ?_
  rintro _ _ ⟨rfl, rfl⟩
  refine ⟨_, rfl, ?_⟩
  refine OL.pure (Pure.move rfl) rfl ?_
  refine OL.call rfl Tryd.call36 rfl (failed_any R g _ hb) ?_
  rintro _ _ ⟨rfl, rfl⟩
  refine ⟨_, rfl, ?_⟩
  refine OL.pure (Pure.assign rfl) rfl ?_
  refine OL.pure (Pure.assign rfl) rfl ?_
  refine OL.pure (Pure.assign rfl) rfl ?_
  refine OL.nil ?_
  refine TE.seq ?_
  refine TE.region ?_
  refine OL.pure (Pure.move rfl) rfl ?_
  refine OL.pure (Pure.move rfl) rfl ?_
  refine OL.call rfl Tryd.call33 rfl (feed_any R m gc (by omega) (by omega) (by omega) (by omega) _ hK hF hc) ?_
  rintro _ w10 ⟨_, _, rfl, hc10, hx_hc10⟩
  replace hK := hK.chg hc10 (by simp; omega)
  replace hF := hF.chg hc10 (by simp; omega)
  replace hb := hb.chg hc10 (by simp; omega)
  replace hC := hC.trans1 hc10 (by first | exact .inr (by omega) | exact .inl (by simp))
  replace hc : Blk w10 gc 97 (Rd.cells (R.feed m)) := hx_hc10
  refine ⟨_, rfl, ?_⟩
  refine OL.nil ?_
  refine TE.seq ?_
  refine TE.seq ?_
  refine TE.region ?_
  refine OL.pure (Pure.move rfl) rfl ?_
  refine OL.call rfl Tryd.call34 rfl (next_any R g _ hb) ?_
  rintro _ _ ⟨rfl, rfl⟩
  refine ⟨_, rfl, ?_⟩
  refine OL.pure (Pure.move rfl) rfl ?_
  refine OL.pure (Pure.neq rfl rfl) rfl ?_
  refine OL.cast (.bool false) 117 rfl (congrArg Value.bool (decide_eq_false (fun h => h rfl))) ?_
  refine OL.pure (Pure.move rfl) rfl ?_
  refine OL.want rfl rfl rfl (Pure.move rfl _) rfl ?_
  refine OL.callG rfl rfl rfl rfl Tryd.call35 rfl (pending_any R g _ hb) ?_
  rintro _ _ ⟨rfl, rfl⟩
  refine ⟨_, rfl, ?_⟩
  refine OL.want rfl rfl rfl (Pure.move rfl _) rfl ?_
  refine OL.want rfl rfl rfl (Pure.neq rfl rfl _) rfl ?_
  refine OL.cast (.bool false) 122 rfl (congrArg Value.bool (decide_eq_false (fun h => h rfl))) ?_
  refine OL.pure (Pure.pickF rfl rfl) rfl ?_
  refine OL.pure (Pure.move rfl) rfl ?_
  refine OL.want rfl rfl rfl (Pure.move rfl _) rfl ?_
  refine OL.callG rfl rfl rfl rfl Tryd.call36 rfl (failed_any R g _ hb) ?_
  rintro _ _ ⟨rfl, rfl⟩
  refine ⟨_, rfl, ?_⟩
  refine OL.want rfl rfl rfl (Pure.move rfl _) rfl ?_
  refine OL.want rfl rfl rfl (Pure.neq rfl rfl _) rfl ?_
  refine OL.cast (.bool false) 128 rfl (congrArg Value.bool (decide_eq_false (fun h => h rfl))) ?_
  refine OL.pure (Pure.pickF rfl rfl) rfl ?_
  refine OL.nil ?_
  refine TE.condF rfl rfl ?_
  refine TE.skip ?_
  refine TE.seq ?_
  refine TE.region ?_
  refine OL.pure (Pure.move rfl) rfl ?_
  refine OL.pure (Pure.move rfl) rfl ?_
  refine OL.call rfl Tryd.call38 rfl (requal_any (R.feed m) R gc g _ hc hb) ?_
  rintro _ w11 ⟨rfl, hc11⟩
  replace hK := hK.chg0 hc11
  replace hF := hF.chg0 hc11
  replace hb := hb.chg0 hc11
  replace hc := hc.chg0 hc11
  replace hC := hC.then_ hc11
  refine ⟨_, rfl, ?_⟩
  have hfs := Rd.feed_same hcalm m
  refine OL.pure (Pure.move rfl) rfl ?_
  refine OL.pure (Pure.strEql (l := m) (m := []) rfl rfl) rfl ?_
  by_cases hm0 : m = []
  ·
    refine OL.cast (.bool true) 134 rfl (congrArg Value.bool (decide_eq_true hm0)) ?_
    refine OL.pure (Pure.move rfl) rfl ?_
    refine OL.pass rfl rfl rfl rfl rfl ?_
    refine OL.pass rfl rfl rfl rfl rfl ?_
    refine OL.pure (Pure.pickT rfl rfl) rfl ?_
    refine OL.pure (Pure.eqlBool' Tryd.underlying4 rfl rfl) rfl ?_
    refine OL.cast (.bool true) 139 rfl (by rw [(rdSame_iff _ _).2 (hfs.2 (.inl hm0))]; rfl) ?_
    refine OL.pure (Pure.move rfl) rfl ?_
    refine OL.want rfl rfl rfl (Pure.move rfl _) rfl ?_
    refine OL.want rfl rfl rfl (Pure.move rfl _) rfl ?_
    refine OL.callG rfl rfl rfl rfl Tryd.call38 rfl (requal_any R (R.feed m) g gc _ hb hc) ?_
    rintro _ w12 ⟨rfl, hc12⟩
    replace hK := hK.chg0 hc12
    replace hF := hF.chg0 hc12
    replace hb := hb.chg0 hc12
    replace hc := hc.chg0 hc12
    replace hC := hC.then_ hc12
    refine ⟨_, rfl, ?_⟩
    refine OL.want rfl rfl rfl (Pure.move rfl _) rfl ?_
    refine OL.want rfl rfl rfl (Pure.move rfl _) rfl ?_
    refine OL.callG rfl rfl rfl rfl Tryd.call38 rfl (requal_any (R.feed m) R gc g _ hc hb) ?_
    rintro _ w13 ⟨rfl, hc13⟩
    replace hK := hK.chg0 hc13
    replace hF := hF.chg0 hc13
    replace hb := hb.chg0 hc13
    replace hc := hc.chg0 hc13
    replace hC := hC.then_ hc13
    refine ⟨_, rfl, ?_⟩
    refine OL.want rfl rfl rfl (Pure.eqlBool' Tryd.underlying4 rfl rfl _) rfl ?_
    refine OL.cast (.bool true) 147 rfl (congrArg Value.bool (by rw [rdSame_comm]; simp)) ?_
    refine OL.pure (Pure.pickT rfl rfl) rfl ?_
    refine OL.pure (Pure.assign rfl) rfl ?_
    refine OL.nil ?_
    exact TE.ret (vs := [.bool true]) Tryd.results11 (⟨rfl, trivial⟩) ⟨rfl, hC⟩
  ·
    refine OL.cast (.bool false) 134 rfl (congrArg Value.bool (decide_eq_false hm0)) ?_
    by_cases hf0 : R.fl ≠ 0
    ·
      refine OL.pure (Pure.move rfl) rfl ?_
      refine OL.want rfl rfl rfl (Pure.move rfl _) rfl ?_
      refine OL.want rfl rfl rfl (Pure.neq rfl rfl _) rfl ?_
      refine OL.cast (.bool true) 137 rfl (congrArg Value.bool (decide_eq_true (hf0))) ?_
      refine OL.pure (Pure.pickF rfl rfl) rfl ?_
      refine OL.pure (Pure.eqlBool' Tryd.underlying4 rfl rfl) rfl ?_
      refine OL.cast (.bool true) 139 rfl (by rw [(rdSame_iff _ _).2 (hfs.2 (.inr hf0))]; rfl) ?_
      refine OL.pure (Pure.move rfl) rfl ?_
      refine OL.want rfl rfl rfl (Pure.move rfl _) rfl ?_
      refine OL.want rfl rfl rfl (Pure.move rfl _) rfl ?_
      refine OL.callG rfl rfl rfl rfl Tryd.call38 rfl (requal_any R (R.feed m) g gc _ hb hc) ?_
      rintro _ w14 ⟨rfl, hc14⟩
      replace hK := hK.chg0 hc14
      replace hF := hF.chg0 hc14
      replace hb := hb.chg0 hc14
      replace hc := hc.chg0 hc14
      replace hC := hC.then_ hc14
      refine ⟨_, rfl, ?_⟩
      refine OL.want rfl rfl rfl (Pure.move rfl _) rfl ?_
      refine OL.want rfl rfl rfl (Pure.move rfl _) rfl ?_
      refine OL.callG rfl rfl rfl rfl Tryd.call38 rfl (requal_any (R.feed m) R gc g _ hc hb) ?_
      rintro _ w15 ⟨rfl, hc15⟩
      replace hK := hK.chg0 hc15
      replace hF := hF.chg0 hc15
      replace hb := hb.chg0 hc15
      replace hc := hc.chg0 hc15
      replace hC := hC.then_ hc15
      refine ⟨_, rfl, ?_⟩
      refine OL.want rfl rfl rfl (Pure.eqlBool' Tryd.underlying4 rfl rfl _) rfl ?_
      refine OL.cast (.bool true) 147 rfl (congrArg Value.bool (by rw [rdSame_comm]; simp)) ?_
      refine OL.pure (Pure.pickT rfl rfl) rfl ?_
      refine OL.pure (Pure.assign rfl) rfl ?_
      refine OL.nil ?_
      exact TE.ret (vs := [.bool true]) Tryd.results11 (⟨rfl, trivial⟩) ⟨rfl, hC⟩
    ·
      have hne : rdSame (R.feed m) R = false := Bool.eq_false_iff.2 (fun h => by rcases hfs.1 ((rdSame_iff _ _).1 h) with h | h; exact hm0 h; exact hf0 h)
      refine OL.pure (Pure.move rfl) rfl ?_
      refine OL.want rfl rfl rfl (Pure.move rfl _) rfl ?_
      refine OL.want rfl rfl rfl (Pure.neq rfl rfl _) rfl ?_
      refine OL.cast (.bool false) 137 rfl (congrArg Value.bool (decide_eq_false (hf0))) ?_
      refine OL.pure (Pure.pickF rfl rfl) rfl ?_
      refine OL.pure (Pure.eqlBool' Tryd.underlying4 rfl rfl) rfl ?_
      refine OL.cast (.bool true) 139 rfl (by rw [hne]; rfl) ?_
      refine OL.pure (Pure.move rfl) rfl ?_
      refine OL.want rfl rfl rfl (Pure.move rfl _) rfl ?_
      refine OL.want rfl rfl rfl (Pure.move rfl _) rfl ?_
      refine OL.callG rfl rfl rfl rfl Tryd.call38 rfl (requal_any R (R.feed m) g gc _ hb hc) ?_
      rintro _ w16 ⟨rfl, hc16⟩
      replace hK := hK.chg0 hc16
      replace hF := hF.chg0 hc16
      replace hb := hb.chg0 hc16
      replace hc := hc.chg0 hc16
      replace hC := hC.then_ hc16
      refine ⟨_, rfl, ?_⟩
      refine OL.want rfl rfl rfl (Pure.move rfl _) rfl ?_
      refine OL.want rfl rfl rfl (Pure.move rfl _) rfl ?_
      refine OL.callG rfl rfl rfl rfl Tryd.call38 rfl (requal_any (R.feed m) R gc g _ hc hb) ?_
      rintro _ w17 ⟨rfl, hc17⟩
      replace hK := hK.chg0 hc17
      replace hF := hF.chg0 hc17
      replace hb := hb.chg0 hc17
      replace hc := hc.chg0 hc17
      replace hC := hC.then_ hc17
      refine ⟨_, rfl, ?_⟩
      refine OL.want rfl rfl rfl (Pure.eqlBool' Tryd.underlying4 rfl rfl _) rfl ?_
      refine OL.cast (.bool true) 147 rfl (congrArg Value.bool (by rw [rdSame_comm]; simp)) ?_
      refine OL.pure (Pure.pickT rfl rfl) rfl ?_
      refine OL.pure (Pure.assign rfl) rfl ?_
      refine OL.nil ?_
      exact TE.ret (vs := [.bool true]) Tryd.results11 (⟨rfl, trivial⟩) ⟨rfl, hC⟩

end Go.Proofs.YtigjmemoaapmgaaDoor
