/- The law of headers, walked -/
import Derived.Test.YtigjmemoaapmgaaDoorProg
import Derived.Test.YtigjmemoaapmgaaDoorEng6
import Derived.Test.YtigjmemoaapmgaaDoorFrameSpec2
import Derived.Test.YtigjmemoaapmgaaDoorFrm1
import Derived.Test.YtigjmemoaapmgaaDoorFrm2
import Derived.Test.YtigjmemoaapmgaaDoorFrm3
import Derived.Test.YtigjmemoaapmgaaDoorFrm4
import Derived.Test.YtigjmemoaapmgaaDoorFrm5
import Derived.Test.YtigjmemoaapmgaaDoorFrm6
set_option linter.unusedVariables false
set_option maxRecDepth 4000
namespace Go.Proofs.YtigjmemoaapmgaaDoor
open Go.V Go.Sha Go.Frm
set_option maxHeartbeats 1000000 in
theorem headers_law_any {tK tF : TypeId} (zs : List Int) (hz : zs.length = 17) (hzb : ∀ x, x ∈ zs → 0 ≤ x ∧ x ≤ 255) (r : List UInt8) (w : World) (hK : Blk w 1 tK (iv .u32 K)) (hF : Blk w 0 tF (iv .i64 fldL)) : Calls Tryd.prog 4 #[.agg (iv .u8 zs).toArray, .string (str r)] w (RetC (.bool true) w) := by
  refine calls_of_TE (vs := [.agg (iv .u8 zs).toArray, .string (str r)]) Tryd.func4 Tryd.ntmps4 rfl (by simp) ?_
  have hC : Chg [] w w := Chg.refl _ _
  have h0w : 1 < w.heap.size := hK.lt
  have h1w : 0 < w.heap.size := hF.lt
  refine TE.seq ?_
  refine TE.region ?_
  refine OL.box rfl rfl ?_
  intro gz w1 hzk hc1 hg_gz
  have lt_1_gz : 1 < gz := by have := hK.lt; omega
  have lt_0_gz : 0 < gz := by have := hF.lt; omega
  have ge_gz : w.heap.size ≤ gz := by have := hC.size; omega
  replace hK := hK.chg0 hc1
  replace hF := hF.chg0 hc1
  replace hC := hC.then_ hc1
  have hzk : Blk w1 gz 40 (iv .u8 zs) := hzk
  refine OL.pure (Pure.assign rfl) rfl ?_
  refine OL.nil ?_
  refine TE.seq ?_
  refine TE.region ?_
  refine OL.pure (Pure.move rfl) rfl ?_
  refine OL.pure (Pure.move rfl) rfl ?_
  refine OL.pure (Pure.lenStr Tryd.runUnderlying9 rfl) rfl ?_
  refine OL.pure (Pure.min rfl rfl) rfl ?_
  refine OL.pure (Pure.sliceTo (l := r) (q := min r.length 100) Tryd.underlying9 rfl rfl (by omega) (by omega)) rfl ?_
  refine OL.pure (Pure.assign rfl) rfl ?_
  refine OL.nil ?_
  refine TE.seq ?_
  refine TE.region ?_
  refine OL.pure (Pure.sliceArr Tryd.runUnderlying40 Tryd.sizeOf5 rfl) rfl ?_
  refine OL.val (Run.toStr (bs := bytesOf zs) Tryd.underlying24 Tryd.underlying5 Tryd.underlying9 rfl hzk (by simp [bytesOf, hz]) (bytesOf_all hzb (by omega))) rfl ?_
  have hbl : (bytesOf zs).length = 17 := by simp [bytesOf, hz]
  have hfl8 := first_len ([245] ++ bytesOf zs)
  refine OL.pure (Pure.strAdd (l := [245]) (m := (bytesOf zs)) rfl rfl (by simp; omega)) rfl ?_
  refine OL.cast (.string (str (245 :: bytesOf zs))) 20 rfl (rfl) ?_
  obtain ⟨h, hh⟩ : ∃ h, h = 245 :: bytesOf zs := ⟨_, rfl⟩
  have hhl : h.length = 18 := by rw [hh]; simp [hbl]
  have hfl := first_len h
  refine OL.cast (.string (str h)) 20 rfl (by rw [hh]) ?_
  refine OL.pure (Pure.assign rfl) rfl ?_
  refine OL.nil ?_
  refine TE.seq ?_
  refine TE.region ?_
  refine OL.pure (Pure.move rfl) rfl ?_
  refine OL.pure (Pure.move rfl) rfl ?_
  refine OL.call rfl Tryd.call17 rfl (rfirst_any h (by omega) _) ?_
  rintro _ w2 ⟨rfl, hc2⟩
  replace hK := hK.chg0 hc2
  replace hF := hF.chg0 hc2
  replace hzk := hzk.chg0 hc2
  replace hC := hC.then_ hc2
  refine ⟨_, rfl, ?_⟩
  refine OL.pure (Pure.strAdd (l := h) (m := (first h)) rfl rfl (by omega)) rfl ?_
  refine OL.pure (Pure.move rfl) rfl ?_
  refine OL.pure (Pure.strAdd (l := (h ++ (first h))) (m := (r.take (min r.length 100))) rfl rfl (by first | omega | (simp only [List.length_append]; omega) | (simp; omega))) rfl ?_
  obtain ⟨s, hs⟩ : ∃ s, s = (h ++ first h) ++ r.take (min r.length 100) := ⟨_, rfl⟩
  refine OL.cast (.string (str s)) 26 rfl (by rw [hs]) ?_
  have hsl : s.length ≤ 126 := by rw [hs]; simp; omega
  obtain ⟨d, m, e, hd⟩ : ∃ d m e, Frm.decode s = (d, m, e) := ⟨_, _, _, rfl⟩
  refine OL.pure (Pure.assign rfl) rfl ?_
  refine OL.nil ?_
  refine TE.seq ?_
  refine TE.region ?_
  refine OL.pure (Pure.move rfl) rfl ?_
  refine OL.call rfl Tryd.call13 rfl (decode_any s (by omega) d m e hd _ hK hF) ?_
  rintro _ w3 ⟨rfl, hc3⟩
  replace hK := hK.chg0 hc3
  replace hF := hF.chg0 hc3
  replace hzk := hzk.chg0 hc3
  replace hC := hC.then_ hc3
  refine ⟨_, rfl, ?_⟩
  refine OL.pure (Pure.move rfl) rfl ?_
  refine OL.pure (Pure.extract (vs := [.agg (d).cells.toArray, .int .i64 ((m : Nat) : Int), .int .i64 e]) (i := 0) rfl rfl) rfl ?_
  refine OL.pure (Pure.extract (vs := [.agg (d).cells.toArray, .int .i64 ((m : Nat) : Int), .int .i64 e]) (i := 1) rfl rfl) rfl ?_
  refine OL.pure (Pure.extract (vs := [.agg (d).cells.toArray, .int .i64 ((m : Nat) : Int), .int .i64 e]) (i := 2) rfl rfl) rfl ?_
  refine OL.alloc Tryd.zeroValue30 rfl ?_
  intro g7 w4 h7 hc4 hg_g7
  have lt_1_g7 : 1 < g7 := by have := hK.lt; omega
  have lt_0_g7 : 0 < g7 := by have := hF.lt; omega
  have lt_gz_g7 : gz < g7 := by have := hzk.lt; omega
  have ge_g7 : w.heap.size ≤ g7 := by have := hC.size; omega
  replace hK := hK.chg0 hc4
  replace hF := hF.chg0 hc4
  replace hzk := hzk.chg0 hc4
  replace hC := hC.then_ hc4
  have h7 : Blk w4 g7 30 (Fr.zero.cells) := h7
  refine OL.storeRow (vs := (d).cells) rfl rfl (rfl) (by simp [Fr.cells, Value.oneCell']) h7 (Nat.le_refl 4) ?_
  intro w5 hb5 hc5
  replace hK := hK.chg hc5 (by simp; omega)
  replace hF := hF.chg hc5 (by simp; omega)
  replace hzk := hzk.chg hc5 (by simpa using hzk.ne h7 (by decide))
  replace hC := hC.trans1 hc5 (by first | exact .inr (by omega) | exact .inl (by simp))
  replace h7 := hb5
  replace h7 := h7.all rfl
  refine OL.pure (Pure.assign rfl) rfl ?_
  refine OL.pure (Pure.assign rfl) rfl ?_
  refine OL.nil ?_
  refine TE.seq ?_
  refine TE.region ?_
  refine OL.pure (Pure.move rfl) rfl ?_
  refine OL.call rfl Tryd.call14 rfl (rdecode_any s (by omega) d m e hd _) ?_
  rintro _ w6 ⟨rfl, hc6⟩
  replace hK := hK.chg0 hc6
  replace hF := hF.chg0 hc6
  replace hzk := hzk.chg0 hc6
  replace h7 := h7.chg0 hc6
  replace hC := hC.then_ hc6
  refine ⟨_, rfl, ?_⟩
  refine OL.pure (Pure.move rfl) rfl ?_
  refine OL.pure (Pure.extract (vs := [.agg (d).cells.toArray, .int .i64 ((m : Nat) : Int), .int .i64 e]) (i := 0) rfl rfl) rfl ?_
  refine OL.pure (Pure.extract (vs := [.agg (d).cells.toArray, .int .i64 ((m : Nat) : Int), .int .i64 e]) (i := 1) rfl rfl) rfl ?_
  refine OL.pure (Pure.extract (vs := [.agg (d).cells.toArray, .int .i64 ((m : Nat) : Int), .int .i64 e]) (i := 2) rfl rfl) rfl ?_
  refine OL.alloc Tryd.zeroValue34 rfl ?_
  intro g10 w7 h10 hc7 hg_g10
  have lt_1_g10 : 1 < g10 := by have := hK.lt; omega
  have lt_0_g10 : 0 < g10 := by have := hF.lt; omega
  have lt_gz_g10 : gz < g10 := by have := hzk.lt; omega
  have lt_g7_g10 : g7 < g10 := by have := h7.lt; omega
  have ge_g10 : w.heap.size ≤ g10 := by have := hC.size; omega
  replace hK := hK.chg0 hc7
  replace hF := hF.chg0 hc7
  replace hzk := hzk.chg0 hc7
  replace h7 := h7.chg0 hc7
  replace hC := hC.then_ hc7
  have h10 : Blk w7 g10 34 (Fr.zero.cells) := h10
  refine OL.storeRow (vs := (d).cells) rfl rfl (rfl) (by simp [Fr.cells, Value.oneCell']) h10 (Nat.le_refl 4) ?_
  intro w8 hb8 hc8
  replace hK := hK.chg hc8 (by simp; omega)
  replace hF := hF.chg hc8 (by simp; omega)
  replace hzk := hzk.chg hc8 (by simpa using hzk.ne h10 (by decide))
  replace h7 := h7.chg hc8 (by simpa using h7.ne h10 (by decide))
  replace hC := hC.trans1 hc8 (by first | exact .inr (by omega) | exact .inl (by simp))
  replace h10 := hb8
  replace h10 := h10.all rfl
  refine OL.pure (Pure.assign rfl) rfl ?_
  refine OL.pure (Pure.assign rfl) rfl ?_
  refine OL.nil ?_
  refine TE.seq ?_
  refine TE.planAll (.cons (0, false) (.cons (1, true) (.cons (2, true) (.cons (4, true) (.cons (3, false) (.cons (5, true) (.cons (6, true) (.cons (7, true) (.cons (8, true) (.cons (9, true) (.cons (10, true) (.cons (11, true) (.cons (12, true) (.cons (13, true) (.cons (14, true) (.cons (15, true) (.cons (16, true) (.cons (17, true) .nil)))))))))))))))))) (fun w_ => Chg [] w8 w_) rfl (by kernel_rfl) ?_
  have hS9 : Chg [] w8 w8.drew := Chg.drew _ _
  replace hK := hK.chg0 hS9
  replace hF := hF.chg0 hS9
  replace h7 := h7.chg0 hS9
  replace h10 := h10.chg0 hS9
  replace hC := hC.then_ hS9
  refine PL.call rfl rfl Tryd.call15 rfl (known_any _ hK hF) ?_
  rintro _ w10 ⟨rfl, hc10⟩
  have hc10s := hS9.then_ hc10
  replace hK := hK.chg0 hc10
  replace hF := hF.chg0 hc10
  replace h7 := h7.chg0 hc10
  replace h10 := h10.chg0 hc10
  replace hC := hC.then_ hc10
  refine ⟨_, rfl, hc10s, ?_⟩
  refine PL.takeP rfl (Pure.move rfl) rfl hc10s ?_
  refine PL.takeG (fun w_ => Chg [] w10 w_) (fun _ h_ => hc10s.then_ h_) rfl rfl rfl rfl (fun w_ h_ => Run.loadAll rfl Tryd.underlying30 rfl (h7.chg0 h_) (rfl)) rfl (Chg.refl _ _) ?_
  have hP11 : Chg [] w10 w10 := Chg.refl _ _
  refine PL.takeG (fun w_ => Chg [] w10 w_) (fun _ h_ => hP11.then_ h_) rfl rfl rfl rfl (fun w_ h_ => Run.loadAll rfl Tryd.underlying34 rfl (h10.chg0 h_) (rfl)) rfl (Chg.refl _ _) ?_
  have hP12 : Chg [] w10 w10 := Chg.refl _ _
  refine PL.callG rfl rfl rfl rfl rfl Tryd.call16 rfl (back_any d _) ?_
  rintro _ w13 ⟨rfl, hc13⟩
  have hc13s := hP12.then_ hc13
  replace hK := hK.chg0 hc13
  replace hF := hF.chg0 hc13
  replace h7 := h7.chg0 hc13
  replace h10 := h10.chg0 hc13
  replace hC := hC.then_ hc13
  refine ⟨_, rfl, hc13s, ?_⟩
  refine PL.takeG (fun w_ => Chg [] w13 w_) (fun _ h_ => hc13s.then_ h_) rfl rfl rfl rfl (fun w_ h_ => Pure.eqlStruct (t := 34) (by kernel_rfl) (by kernel_rfl) (by kernel_rfl) rfl rfl (ref_eq d d) _) rfl (Chg.refl _ _) ?_
  have hP14 : Chg [] w13 w13 := Chg.refl _ _
  refine PL.cast (.bool true) 44 rfl (congrArg Value.bool (frSame_self d)) ?_
  refine PL.takeP rfl (Pure.pickT rfl rfl) rfl hP14 ?_
  refine PL.takeP rfl (Pure.move rfl) rfl hP14 ?_
  refine PL.takeG (fun w_ => Chg [] w13 w_) (fun _ h_ => hP14.then_ h_) rfl rfl rfl rfl (fun w_ h_ => Pure.move rfl _) rfl (Chg.refl _ _) ?_
  have hP15 : Chg [] w13 w13 := Chg.refl _ _
  refine PL.takeG (fun w_ => Chg [] w13 w_) (fun _ h_ => hP15.then_ h_) rfl rfl rfl rfl (fun w_ h_ => Pure.move rfl _) rfl (Chg.refl _ _) ?_
  have hP16 : Chg [] w13 w13 := Chg.refl _ _
  refine PL.takeG (fun w_ => Chg [] w13 w_) (fun _ h_ => hP16.then_ h_) rfl rfl rfl rfl (fun w_ h_ => Pure.eql rfl rfl _) rfl (Chg.refl _ _) ?_
  have hP17 : Chg [] w13 w13 := Chg.refl _ _
  refine PL.cast (.bool true) 49 rfl (congrArg Value.bool (decide_eq_true (rfl))) ?_
  refine PL.takeP rfl (Pure.pickT rfl rfl) rfl hP17 ?_
  refine PL.takeP rfl (Pure.move rfl) rfl hP17 ?_
  refine PL.takeG (fun w_ => Chg [] w13 w_) (fun _ h_ => hP17.then_ h_) rfl rfl rfl rfl (fun w_ h_ => Pure.move rfl _) rfl (Chg.refl _ _) ?_
  have hP18 : Chg [] w13 w13 := Chg.refl _ _
  refine PL.takeG (fun w_ => Chg [] w13 w_) (fun _ h_ => hP18.then_ h_) rfl rfl rfl rfl (fun w_ h_ => Pure.move rfl _) rfl (Chg.refl _ _) ?_
  have hP19 : Chg [] w13 w13 := Chg.refl _ _
  refine PL.takeG (fun w_ => Chg [] w13 w_) (fun _ h_ => hP19.then_ h_) rfl rfl rfl rfl (fun w_ h_ => Pure.eql rfl rfl _) rfl (Chg.refl _ _) ?_
  have hP20 : Chg [] w13 w13 := Chg.refl _ _
  refine PL.cast (.bool true) 54 rfl (congrArg Value.bool (decide_eq_true (rfl))) ?_
  refine PL.takeP rfl (Pure.pickT rfl rfl) rfl hP20 ?_
  refine PL.takeP rfl (Pure.assign rfl) rfl hP20 ?_
  refine PL.nil ?_
  exact TE.ret (vs := [.bool true]) Tryd.results4 (⟨rfl, trivial⟩) ⟨rfl, hC⟩

end Go.Proofs.YtigjmemoaapmgaaDoor
