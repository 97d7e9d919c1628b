/- Open, walked -/
import Derived.Test.YtcologcjhenmkaaDoorProg
import Derived.Test.YtcologcjhenmkaaDoorSpecB
import Derived.Test.YtcologcjhenmkaaDoorRngA
import Derived.Test.YtcologcjhenmkaaDoorRngB
import Derived.Test.YtcologcjhenmkaaDoorCod
set_option linter.unusedVariables false
set_option maxRecDepth 4000
namespace Go.Proofs.YtcologcjhenmkaaDoor
open Go.V Go.Rg Go.Frm Go.Sha
theorem info49 : Tryd.prog.info? 49 = some Tryd.t49 := by kernel_rfl
set_option maxHeartbeats 4000000 in
theorem open_none {tK tF : TypeId} {V : Int → List UInt8} {ks : List Nat} (d n c a P : Nat) (haP : a + 2 + P ≤ n) (hn : n ≤ 8192) (hP2 : 2 ≤ P) (hc0 : c ≤ 1073741822) (hk0 : 1 ∉ ks) (hk1 : 0 ∉ ks) (hcur : curHead V a P = none) (w : World) (hD : Dk 93 97 w d n (V) (c) false ks) (hK : Blk w 1 tK (iv .u32 K)) (hF : Blk w 0 tF (iv .i64 fldL)) : Calls Tryd.prog 14 #[.pointer (some ⟨d, 0, none⟩), .int .i64 (a : Int), .int .i64 ((P + 2 : Nat) : Int)] w (RetC (.tuple #[.pointer none, .slice none 0 0, .int .i64 3]) w) := by
  refine calls_of_TU (vs := [.pointer (some ⟨d, 0, none⟩), .int .i64 (a : Int), .int .i64 ((P + 2 : Nat) : Int)]) Tryd.func14 Tryd.ntmps14 rfl (by simp) ?_
  have hC : Chg [] w w := Chg.refl _ _
  have hgr : Grew ks ks w := Grew.refl _ _
  have hCz : w.heap.size ≤ w.heap.size := Nat.le_refl _
  have h0w : 1 < w.heap.size := hK.lt
  have h1w : 0 < w.heap.size := hF.lt
  have hP : 0 < P := by omega
  have hV : Full V := hD.len
  have hP8 : P ≤ 8192 := by omega
  refine TE.seq ?_
  refine TE.region ?_
  refine OL.alloc Tryd.zeroValue27 rfl ?_
  intro g6 w1 h6 hc1 hg_g6
  have lt_1_g6 : 1 < g6 := by have := hK.lt; omega
  have lt_0_g6 : 0 < g6 := by have := hF.lt; omega
  have ge_g6 : w.heap.size ≤ g6 := by have := hC.size; omega
  replace hD := hD.chg0 hc1
  replace hK := hK.chg0 hc1
  replace hF := hF.chg0 hc1
  replace hC := hC.then_ hc1
  have h6 : Blk w1 g6 27 ([.pointer none]) := h6
  refine OL.alloc Tryd.zeroValue38 rfl ?_
  intro g7 w2 h7 hc2 hg_g7
  have lt_1_g7 : 1 < g7 := by have := hK.lt; omega
  have lt_0_g7 : 0 < g7 := by have := hF.lt; omega
  have lt_g6_g7 : g6 < g7 := by have := h6.lt; omega
  have ge_g7 : w.heap.size ≤ g7 := by have := hC.size; omega
  replace hD := hD.chg0 hc2
  replace hK := hK.chg0 hc2
  replace hF := hF.chg0 hc2
  replace h6 := h6.chg0 hc2
  replace hC := hC.then_ hc2
  have h7 : Blk w2 g7 38 ([.slice none 0 0]) := h7
  refine OL.alloc Tryd.zeroValue31 rfl ?_
  intro g8 w3 h8 hc3 hg_g8
  have lt_1_g8 : 1 < g8 := by have := hK.lt; omega
  have lt_0_g8 : 0 < g8 := by have := hF.lt; omega
  have lt_g6_g8 : g6 < g8 := by have := h6.lt; omega
  have lt_g7_g8 : g7 < g8 := by have := h7.lt; omega
  have ge_g8 : w.heap.size ≤ g8 := by have := hC.size; omega
  replace hD := hD.chg0 hc3
  replace hK := hK.chg0 hc3
  replace hF := hF.chg0 hc3
  replace h6 := h6.chg0 hc3
  replace h7 := h7.chg0 hc3
  replace hC := hC.then_ hc3
  have h8 : Blk w3 g8 31 ([.int .i64 0]) := h8
  refine OL.nil ?_
  refine TE.seq ?_
  refine TE.region ?_
  refine OL.pure (Pure.move rfl) rfl ?_
  refine OL.pure (Pure.move rfl) rfl ?_
  refine OL.pure (Pure.move rfl) rfl ?_
  refine OL.call rfl Tryd.call32 rfl (check_ok d n c a P haP hn hP2 _ hD) ?_
  rintro _ w4 ⟨rfl, hc4⟩
  replace hD := hD.chg0 hc4
  replace hK := hK.chg0 hc4
  replace hF := hF.chg0 hc4
  replace h6 := h6.chg0 hc4
  replace h7 := h7.chg0 hc4
  replace h8 := h8.chg0 hc4
  replace hC := hC.then_ hc4
  refine ⟨_, rfl, ?_⟩
  refine OL.pure (Pure.move rfl) rfl ?_
  refine OL.pure (Pure.extract (vs := [.agg (arv d a P).toArray, .int .i64 0]) (i := 0) rfl rfl) rfl ?_
  refine OL.pure (Pure.extract (vs := [.agg (arv d a P).toArray, .int .i64 0]) (i := 1) rfl rfl) rfl ?_
  refine OL.alloc Tryd.zeroValue66 rfl ?_
  intro g9 w5 h9 hc5 hg_g9
  have lt_1_g9 : 1 < g9 := by have := hK.lt; omega
  have lt_0_g9 : 0 < g9 := by have := hF.lt; omega
  have lt_g6_g9 : g6 < g9 := by have := h6.lt; omega
  have lt_g7_g9 : g7 < g9 := by have := h7.lt; omega
  have lt_g8_g9 : g8 < g9 := by have := h8.lt; omega
  have ge_g9 : w.heap.size ≤ g9 := by have := hC.size; omega
  replace hD := hD.chg0 hc5
  replace hK := hK.chg0 hc5
  replace hF := hF.chg0 hc5
  replace h6 := h6.chg0 hc5
  replace h7 := h7.chg0 hc5
  replace h8 := h8.chg0 hc5
  replace hC := hC.then_ hc5
  refine OL.storeRow (vs := arv d a P) rfl rfl (rfl) (by simp [arv, Value.oneCell']) h9 (Nat.le_refl 3) ?_
  intro w6 hb6 hc6
  replace hD := hD.chg hc6 (hD.apart h9 (by decide) (by decide))
  replace hK := hK.chg hc6 (by simp; omega)
  replace hF := hF.chg hc6 (by simp; omega)
  replace h6 := h6.chg hc6 (by simpa using h6.ne h9 (by decide))
  replace h7 := h7.chg hc6 (by simpa using h7.ne h9 (by decide))
  replace h8 := h8.chg hc6 (by simpa using h8.ne h9 (by decide))
  replace hC := hC.trans1 hc6 (by first | exact .inr (by omega) | exact .inl (by simp))
  replace h9 := hb6
  replace h9 := h9.all rfl
  refine OL.pure (Pure.assign rfl) rfl ?_
  refine OL.nil ?_
  refine TE.seq ?_
  refine TE.seq ?_
  refine TE.region ?_
  refine OL.pure (Pure.move rfl) rfl ?_
  refine OL.pure (Pure.neq rfl rfl) rfl ?_
  refine OL.cast (.bool false) 35 rfl (rfl) ?_
  refine OL.nil ?_
  refine TE.condF rfl rfl ?_
  refine TE.skip ?_
  refine TE.seq ?_
  refine TE.region ?_
  refine OL.alloc Tryd.zeroValue70 rfl ?_
  intro g11 w7 h11 hc7 hg_g11
  have lt_1_g11 : 1 < g11 := by have := hK.lt; omega
  have lt_0_g11 : 0 < g11 := by have := hF.lt; omega
  have lt_g6_g11 : g6 < g11 := by have := h6.lt; omega
  have lt_g7_g11 : g7 < g11 := by have := h7.lt; omega
  have lt_g8_g11 : g8 < g11 := by have := h8.lt; omega
  have lt_g9_g11 : g9 < g11 := by have := h9.lt; omega
  have ge_g11 : w.heap.size ≤ g11 := by have := hC.size; omega
  replace hD := hD.chg0 hc7
  replace hK := hK.chg0 hc7
  replace hF := hF.chg0 hc7
  replace h6 := h6.chg0 hc7
  replace h7 := h7.chg0 hc7
  replace h8 := h8.chg0 hc7
  replace h9 := h9.chg0 hc7
  replace hC := hC.then_ hc7
  have h11 : Blk w7 g11 70 (Hd.zero.cells) := h11
  refine OL.nil ?_
  refine TE.seq ?_
  refine TE.region ?_
  refine OL.pure (Pure.assign rfl) rfl ?_
  refine OL.nil ?_
  refine TE.seq ?_
  refine TE.seq ?_
  refine TE.region ?_
  refine OL.pure (Pure.move rfl) rfl ?_
  refine OL.nil ?_
  refine TE.block ?_
  refine TE.loopInv (σ := Nat × Hd) [6, 7, 8, 9, 11, 12, 37] (fun s_ w_ => match s_ with | (i, x) => i ≤ 2 ∧ (∀ y, curTo V a P i = some y → x = y) ∧ Chg [] w w_ ∧ Dk 93 97 w_ d n (V) (c) false ks ∧ Blk w_ 1 tK (iv .u32 K) ∧ Blk w_ 0 tF (iv .i64 fldL) ∧ Blk w_ g6 27 [.pointer none] ∧ Blk w_ g7 38 [.slice none 0 0] ∧ Blk w_ g8 31 [.int .i64 0] ∧ Blk w_ g9 66 (arv d a P) ∧ Blk w_ g11 70 x.cells) (fun s_ => [(6, .pointer (some ⟨g6, 0, none⟩)), (7, .pointer (some ⟨g7, 0, none⟩)), (8, .pointer (some ⟨g8, 0, none⟩)), (9, .pointer (some ⟨g9, 0, none⟩)), (11, .pointer (some ⟨g11, 0, none⟩)), (12, .bool (curTo V a P s_.1).isSome), (37, .int .i64 (s_.1 : Int))]) (fun s_ => 2 - s_.1) (0, Hd.zero) ⟨by omega, (fun y hy => by cases hy), hC, hD, hK, hF, h6, h7, h8, h9, h11⟩ rfl ?_
  rintro ⟨i, x⟩ w8 ⟨hi, hx, hC, hD, hK, hF, h6, h7, h8, h9, h11⟩ ih8
  try dsimp only
  refine TE.seq ?_
  refine TE.region ?_
  refine OL.pure (Pure.lss rfl rfl) rfl ?_
  refine OL.nil ?_
  refine TE.seq ?_
  refine TE.ite rfl (fun hlt => ?_) (fun hlt => ?_)
  ·
    replace hlt : i < 2 := by omega
    refine TE.skip ?_
    refine TE.seq ?_
    refine TE.block ?_
    refine TE.seq ?_
    refine TE.region ?_
    refine OL.pure (Pure.move rfl) rfl ?_
    refine OL.pure (Pure.assign rfl) rfl ?_
    refine OL.nil ?_
    refine TE.seq ?_
    refine TE.region ?_
    refine OL.val (Run.loadAll rfl Tryd.underlying66 rfl h9 (rfl)) rfl ?_
    refine OL.pure (Pure.move rfl) rfl ?_
    refine OL.call rfl Tryd.call33 rfl (readhead_any d n c a P i hP haP hn hlt (by omega) _ hD hK hF) ?_
    rintro _ wr ⟨z, rfl, hz, hcr⟩
    replace hD := hD.chg0 hcr
    replace hK := hK.chg0 hcr
    replace hF := hF.chg0 hcr
    replace h6 := h6.chg0 hcr
    replace h7 := h7.chg0 hcr
    replace h8 := h8.chg0 hcr
    replace h9 := h9.chg0 hcr
    replace h11 := h11.chg0 hcr
    replace hC := hC.then_ hcr
    refine ⟨_, rfl, ?_⟩
    refine OL.pure (Pure.move rfl) rfl ?_
    refine OL.pure (Pure.extract (vs := [.agg z.cells.toArray, .bool (rdHead (V ((a + i : Nat) : Int)) P i).isSome, .int .i64 0]) (i := 0) rfl rfl) rfl ?_
    refine OL.pure (Pure.extract (vs := [.agg z.cells.toArray, .bool (rdHead (V ((a + i : Nat) : Int)) P i).isSome, .int .i64 0]) (i := 1) rfl rfl) rfl ?_
    refine OL.pure (Pure.extract (vs := [.agg z.cells.toArray, .bool (rdHead (V ((a + i : Nat) : Int)) P i).isSome, .int .i64 0]) (i := 2) rfl rfl) rfl ?_
    refine OL.alloc Tryd.zeroValue70 rfl ?_
    intro g14 w9 h14 hc9 hg_g14
    have lt_1_g14 : 1 < g14 := by have := hK.lt; omega
    have lt_0_g14 : 0 < g14 := by have := hF.lt; omega
    have lt_g6_g14 : g6 < g14 := by have := h6.lt; omega
    have lt_g7_g14 : g7 < g14 := by have := h7.lt; omega
    have lt_g8_g14 : g8 < g14 := by have := h8.lt; omega
    have lt_g9_g14 : g9 < g14 := by have := h9.lt; omega
    have lt_g11_g14 : g11 < g14 := by have := h11.lt; omega
    have ge_g14 : w.heap.size ≤ g14 := by have := hC.size; omega
    replace hD := hD.chg0 hc9
    replace hK := hK.chg0 hc9
    replace hF := hF.chg0 hc9
    replace h6 := h6.chg0 hc9
    replace h7 := h7.chg0 hc9
    replace h8 := h8.chg0 hc9
    replace h9 := h9.chg0 hc9
    replace h11 := h11.chg0 hc9
    replace hC := hC.then_ hc9
    have h14 : Blk w9 g14 70 (Hd.zero.cells) := h14
    refine OL.storeRow (vs := z.cells) rfl rfl (rfl) (by simp [Hd.cells, Value.oneCell']) h14 (Nat.le_refl 4) ?_
    intro w10 hb10 hc10
    replace hD := hD.chg hc10 (hD.apart h14 (by decide) (by decide))
    replace hK := hK.chg hc10 (by simp; omega)
    replace hF := hF.chg hc10 (by simp; omega)
    replace h6 := h6.chg hc10 (by simpa using h6.ne h14 (by decide))
    replace h7 := h7.chg hc10 (by simpa using h7.ne h14 (by decide))
    replace h8 := h8.chg hc10 (by simpa using h8.ne h14 (by decide))
    replace h9 := h9.chg hc10 (by simpa using h9.ne h14 (by decide))
    replace h11 := h11.chg hc10 (by simp; omega)
    replace hC := hC.trans1 hc10 (by first | exact .inr (by omega) | exact .inl (by simp))
    replace h14 := hb10
    replace h14 := h14.all rfl
    refine OL.pure (Pure.assign rfl) rfl ?_
    cases hrd : rdHead (V ((a + i : Nat) : Int)) P i with
    | none =>
      refine OL.cast (.bool false) 15 rfl (rfl) ?_
      have hcn : curTo V a P (i + 1) = curTo V a P i := by simp only [curTo, hrd]; cases curTo V a P i <;> rfl
      refine OL.pure (Pure.assign rfl) rfl ?_
      refine OL.nil ?_
      refine TE.seq ?_
      refine TE.seq ?_
      refine TE.region ?_
      refine OL.pure (Pure.move rfl) rfl ?_
      refine OL.pure (Pure.neq rfl rfl) rfl ?_
      refine OL.cast (.bool false) 48 rfl (rfl) ?_
      refine OL.nil ?_
      refine TE.condF rfl rfl ?_
      refine TE.skip ?_
      refine TE.seq ?_
      refine TE.region ?_
      refine OL.pure (Pure.move rfl) rfl ?_
      refine OL.pure (Pure.move rfl) rfl ?_
      refine OL.pass rfl rfl rfl rfl rfl ?_
      refine OL.pass rfl rfl rfl rfl rfl ?_
      refine OL.pass rfl rfl rfl rfl rfl ?_
      refine OL.pass rfl rfl rfl rfl rfl ?_
      refine OL.pass rfl rfl rfl rfl rfl ?_
      refine OL.pass rfl rfl rfl rfl rfl ?_
      refine OL.pass rfl rfl rfl rfl rfl ?_
      refine OL.pass rfl rfl rfl rfl rfl ?_
      refine OL.pass rfl rfl rfl rfl rfl ?_
      refine OL.pure (Pure.pickF rfl rfl) rfl ?_
      refine OL.nil ?_
      refine TE.condF rfl rfl ?_
      refine TE.skip ?_
      refine TE.inBlock ?_
      refine TE.region ?_
      refine OL.pure (Pure.add rfl rfl (i64 (by omega) (by omega))) rfl ?_
      refine OL.pure (Pure.move rfl) rfl ?_
      refine OL.nil ?_
      refine TE.cast (.bool (curTo V a P (i + 1)).isSome) 12 rfl (by rw [hcn]) ?_
      exact TE.sub [6, 7, 8, 9, 11, 12, 37] rfl (ih8 (i + 1, x) _ ⟨by omega, (fun y hy => hx y (by rw [← hcn]; exact hy)), hC, hD, hK, hF, h6, h7, h8, h9, h11⟩ (by omega))
    | some y =>
      refine OL.cast (.bool true) 15 rfl (rfl) ?_
      obtain rfl := hz y hrd
      cases hct : curTo V a P i with
      | none =>
        refine OL.cast (.bool false) 12 rfl (rfl) ?_
        have hcn : curTo V a P (i + 1) = some z := by simp only [curTo, hrd, hct]; rfl
        refine OL.pure (Pure.assign rfl) rfl ?_
        refine OL.nil ?_
        refine TE.seq ?_
        refine TE.seq ?_
        refine TE.region ?_
        refine OL.pure (Pure.move rfl) rfl ?_
        refine OL.pure (Pure.neq rfl rfl) rfl ?_
        refine OL.cast (.bool false) 48 rfl (rfl) ?_
        refine OL.nil ?_
        refine TE.condF rfl rfl ?_
        refine TE.skip ?_
        refine TE.seq ?_
        refine TE.region ?_
        refine OL.pure (Pure.move rfl) rfl ?_
        refine OL.pure (Pure.move rfl) rfl ?_
        refine OL.want rfl rfl rfl (Pure.move rfl _) rfl ?_
        refine OL.want rfl rfl rfl (Pure.not rfl _) rfl ?_
        refine OL.want rfl rfl rfl (Pure.move rfl _) rfl ?_
        refine OL.pass rfl rfl rfl rfl rfl ?_
        refine OL.pass rfl rfl rfl rfl rfl ?_
        refine OL.pass rfl rfl rfl rfl rfl ?_
        refine OL.pass rfl rfl rfl rfl rfl ?_
        refine OL.pass rfl rfl rfl rfl rfl ?_
        refine OL.want rfl rfl rfl (Pure.pickT rfl rfl _) rfl ?_
        refine OL.pure (Pure.pickT rfl rfl) rfl ?_
        refine OL.nil ?_
        refine TE.condT rfl rfl ?_
        refine TE.region ?_
        refine OL.val (Run.loadAll rfl Tryd.underlying70 rfl h14 (rfl)) rfl ?_
        refine OL.storeRow (vs := z.cells) rfl rfl (rfl) (by simp [Hd.cells, Value.oneCell']) h11 (Nat.le_refl 4) ?_
        intro w11 hb11 hc11
        replace hD := hD.chg hc11 (hD.apart h11 (by decide) (by decide))
        replace hK := hK.chg hc11 (by simp; omega)
        replace hF := hF.chg hc11 (by simp; omega)
        replace h6 := h6.chg hc11 (by simpa using h6.ne h11 (by decide))
        replace h7 := h7.chg hc11 (by simpa using h7.ne h11 (by decide))
        replace h8 := h8.chg hc11 (by simpa using h8.ne h11 (by decide))
        replace h9 := h9.chg hc11 (by simpa using h9.ne h11 (by decide))
        replace h14 := h14.chg hc11 (by simp; omega)
        replace hC := hC.trans1 hc11 (by first | exact .inr (by omega) | exact .inl (by simp))
        replace h11 := hb11
        replace h11 := h11.all rfl
        refine OL.pure (Pure.assign rfl) rfl ?_
        refine OL.nil ?_
        refine TE.inBlock ?_
        refine TE.region ?_
        refine OL.pure (Pure.add rfl rfl (i64 (by omega) (by omega))) rfl ?_
        refine OL.pure (Pure.move rfl) rfl ?_
        refine OL.nil ?_
        refine TE.cast (.bool (curTo V a P (i + 1)).isSome) 12 rfl (by rw [hcn]; rfl) ?_
        exact TE.sub [6, 7, 8, 9, 11, 12, 37] rfl (ih8 (i + 1, z) _ ⟨by omega, (fun y hy => by rw [hcn] at hy; cases hy; rfl), hC, hD, hK, hF, h6, h7, h8, h9, h11⟩ (by omega))
      | some y2 =>
        refine OL.cast (.bool true) 12 rfl (rfl) ?_
        obtain rfl := hx y2 hct
        by_cases hgt : x.gen < z.gen
        ·
          have hcn : curTo V a P (i + 1) = some z := by simp only [curTo, hrd, hct, newer]; rw [if_pos hgt]
          refine OL.pure (Pure.assign rfl) rfl ?_
          refine OL.nil ?_
          refine TE.seq ?_
          refine TE.seq ?_
          refine TE.region ?_
          refine OL.pure (Pure.move rfl) rfl ?_
          refine OL.pure (Pure.neq rfl rfl) rfl ?_
          refine OL.cast (.bool false) 48 rfl (rfl) ?_
          refine OL.nil ?_
          refine TE.condF rfl rfl ?_
          refine TE.skip ?_
          refine TE.seq ?_
          refine TE.region ?_
          refine OL.pure (Pure.move rfl) rfl ?_
          refine OL.pure (Pure.move rfl) rfl ?_
          refine OL.want rfl rfl rfl (Pure.move rfl _) rfl ?_
          refine OL.want rfl rfl rfl (Pure.not rfl _) rfl ?_
          refine OL.want rfl rfl rfl (Pure.move rfl _) rfl ?_
          refine OL.want rfl rfl rfl (Pure.fieldAddr (r := 0) Tryd.runUnderlying70 rfl Tryd.sizeOf3 rfl rfl _) rfl ?_
          refine OL.want rfl rfl rfl (Run.load (i := 0) rfl Tryd.isAgg3 h14 (by omega) rfl) rfl ?_
          refine OL.want rfl rfl rfl (Pure.fieldAddr (r := 0) Tryd.runUnderlying70 rfl Tryd.sizeOf3 rfl rfl _) rfl ?_
          refine OL.want rfl rfl rfl (Run.load (i := 0) rfl Tryd.isAgg3 h11 (by omega) rfl) rfl ?_
          refine OL.want rfl rfl rfl (Pure.gtr rfl rfl _) rfl ?_
          refine OL.cast (.bool true) 59 rfl (congrArg Value.bool (decide_eq_true (by omega))) ?_
          refine OL.want rfl rfl rfl (Pure.pickF rfl rfl _) rfl ?_
          refine OL.pure (Pure.pickT rfl rfl) rfl ?_
          refine OL.nil ?_
          refine TE.condT rfl rfl ?_
          refine TE.region ?_
          refine OL.val (Run.loadAll rfl Tryd.underlying70 rfl h14 (rfl)) rfl ?_
          refine OL.storeRow (vs := z.cells) rfl rfl (rfl) (by simp [Hd.cells, Value.oneCell']) h11 (Nat.le_refl 4) ?_
          intro w12 hb12 hc12
          replace hD := hD.chg hc12 (hD.apart h11 (by decide) (by decide))
          replace hK := hK.chg hc12 (by simp; omega)
          replace hF := hF.chg hc12 (by simp; omega)
          replace h6 := h6.chg hc12 (by simpa using h6.ne h11 (by decide))
          replace h7 := h7.chg hc12 (by simpa using h7.ne h11 (by decide))
          replace h8 := h8.chg hc12 (by simpa using h8.ne h11 (by decide))
          replace h9 := h9.chg hc12 (by simpa using h9.ne h11 (by decide))
          replace h14 := h14.chg hc12 (by simp; omega)
          replace hC := hC.trans1 hc12 (by first | exact .inr (by omega) | exact .inl (by simp))
          replace h11 := hb12
          replace h11 := h11.all rfl
          refine OL.pure (Pure.assign rfl) rfl ?_
          refine OL.nil ?_
          refine TE.inBlock ?_
          refine TE.region ?_
          refine OL.pure (Pure.add rfl rfl (i64 (by omega) (by omega))) rfl ?_
          refine OL.pure (Pure.move rfl) rfl ?_
          refine OL.nil ?_
          refine TE.cast (.bool (curTo V a P (i + 1)).isSome) 12 rfl (by rw [hcn]; rfl) ?_
          exact TE.sub [6, 7, 8, 9, 11, 12, 37] rfl (ih8 (i + 1, z) _ ⟨by omega, (fun y hy => by rw [hcn] at hy; cases hy; rfl), hC, hD, hK, hF, h6, h7, h8, h9, h11⟩ (by omega))
        ·
          have hcn : curTo V a P (i + 1) = some x := by simp only [curTo, hrd, hct, newer]; rw [if_neg hgt]
          refine OL.pure (Pure.assign rfl) rfl ?_
          refine OL.nil ?_
          refine TE.seq ?_
          refine TE.seq ?_
          refine TE.region ?_
          refine OL.pure (Pure.move rfl) rfl ?_
          refine OL.pure (Pure.neq rfl rfl) rfl ?_
          refine OL.cast (.bool false) 48 rfl (rfl) ?_
          refine OL.nil ?_
          refine TE.condF rfl rfl ?_
          refine TE.skip ?_
          refine TE.seq ?_
          refine TE.region ?_
          refine OL.pure (Pure.move rfl) rfl ?_
          refine OL.pure (Pure.move rfl) rfl ?_
          refine OL.want rfl rfl rfl (Pure.move rfl _) rfl ?_
          refine OL.want rfl rfl rfl (Pure.not rfl _) rfl ?_
          refine OL.want rfl rfl rfl (Pure.move rfl _) rfl ?_
          refine OL.want rfl rfl rfl (Pure.fieldAddr (r := 0) Tryd.runUnderlying70 rfl Tryd.sizeOf3 rfl rfl _) rfl ?_
          refine OL.want rfl rfl rfl (Run.load (i := 0) rfl Tryd.isAgg3 h14 (by omega) rfl) rfl ?_
          refine OL.want rfl rfl rfl (Pure.fieldAddr (r := 0) Tryd.runUnderlying70 rfl Tryd.sizeOf3 rfl rfl _) rfl ?_
          refine OL.want rfl rfl rfl (Run.load (i := 0) rfl Tryd.isAgg3 h11 (by omega) rfl) rfl ?_
          refine OL.want rfl rfl rfl (Pure.gtr rfl rfl _) rfl ?_
          refine OL.cast (.bool false) 59 rfl (congrArg Value.bool (decide_eq_false (by omega))) ?_
          refine OL.want rfl rfl rfl (Pure.pickF rfl rfl _) rfl ?_
          refine OL.pure (Pure.pickT rfl rfl) rfl ?_
          refine OL.nil ?_
          refine TE.condF rfl rfl ?_
          refine TE.skip ?_
          refine TE.inBlock ?_
          refine TE.region ?_
          refine OL.pure (Pure.add rfl rfl (i64 (by omega) (by omega))) rfl ?_
          refine OL.pure (Pure.move rfl) rfl ?_
          refine OL.nil ?_
          refine TE.cast (.bool (curTo V a P (i + 1)).isSome) 12 rfl (by rw [hcn]; rfl) ?_
          exact TE.sub [6, 7, 8, 9, 11, 12, 37] rfl (ih8 (i + 1, x) _ ⟨by omega, (fun y hy => by rw [hcn] at hy; cases hy; rfl), hC, hD, hK, hF, h6, h7, h8, h9, h11⟩ (by omega))
  ·
    obtain rfl : i = 2 := by omega
    rw [curTo_two] at hx
    refine TE.cast (.bool false) 12 rfl (by rw [curTo_two, hcur]; rfl) ?_
    refine TE.exit rfl ?_
    refine TE.seq ?_
    refine TE.seq ?_
    refine TE.region ?_
    refine OL.pure (Pure.move rfl) rfl ?_
    refine OL.pure (Pure.not rfl) rfl ?_
    refine OL.nil ?_
    refine TE.condT rfl rfl ?_
    refine TE.seq ?_
    refine TE.region ?_
    refine OL.store (j := 0) rfl rfl Tryd.sizeOf27 rfl h6 (by omega) (rfl) ?_
    intro w13 hb13 hc13
    replace hD := hD.chg hc13 (hD.apart h6 (by decide) (by decide))
    replace hK := hK.chg hc13 (by simp; omega)
    replace hF := hF.chg hc13 (by simp; omega)
    replace h7 := h7.chg hc13 (by simpa using h7.ne h6 (by decide))
    replace h8 := h8.chg hc13 (by simpa using h8.ne h6 (by decide))
    replace h9 := h9.chg hc13 (by simpa using h9.ne h6 (by decide))
    replace h11 := h11.chg hc13 (by simpa using h11.ne h6 (by decide))
    replace hC := hC.trans1 hc13 (by first | exact .inr (by omega) | exact .inl (by simp))
    replace h6 := hb13
    refine OL.store (j := 0) rfl rfl Tryd.sizeOf38 rfl h7 (by omega) (rfl) ?_
    intro w14 hb14 hc14
    replace hD := hD.chg hc14 (hD.apart h7 (by decide) (by decide))
    replace hK := hK.chg hc14 (by simp; omega)
    replace hF := hF.chg hc14 (by simp; omega)
    replace h6 := h6.chg hc14 (by simpa using h6.ne h7 (by decide))
    replace h8 := h8.chg hc14 (by simpa using h8.ne h7 (by decide))
    replace h9 := h9.chg hc14 (by simpa using h9.ne h7 (by decide))
    replace h11 := h11.chg hc14 (by simpa using h11.ne h7 (by decide))
    replace hC := hC.trans1 hc14 (by first | exact .inr (by omega) | exact .inl (by simp))
    replace h7 := hb14
    refine OL.store (j := 0) rfl rfl Tryd.sizeOf31 rfl h8 (by omega) (rfl) ?_
    intro w15 hb15 hc15
    replace hD := hD.chg hc15 (hD.apart h8 (by decide) (by decide))
    replace hK := hK.chg hc15 (by simp; omega)
    replace hF := hF.chg hc15 (by simp; omega)
    replace h6 := h6.chg hc15 (by simpa using h6.ne h8 (by decide))
    replace h7 := h7.chg hc15 (by simpa using h7.ne h8 (by decide))
    replace h9 := h9.chg hc15 (by simpa using h9.ne h8 (by decide))
    replace h11 := h11.chg hc15 (by simpa using h11.ne h8 (by decide))
    replace hC := hC.trans1 hc15 (by first | exact .inr (by omega) | exact .inl (by simp))
    replace h8 := hb15
    refine OL.nil ?_
    refine TE.retU (fun a_ ha_ => ?_)
    exact Unw.done (vs := [.pointer none, .slice none 0 0, .int .i64 3]) ha_ Tryd.results14 ⟨⟨_, rfl, loadCell_at Tryd.isAgg27 h6 rfl⟩, ⟨_, rfl, loadCell_at Tryd.isAgg38 h7 rfl⟩, ⟨_, rfl, loadCell_at Tryd.isAgg31 h8 rfl⟩, trivial⟩ ⟨rfl, hC⟩

set_option maxHeartbeats 4000000 in
theorem open_max {tK tF : TypeId} {V : Int → List UInt8} {ks : List Nat} (d n c a P : Nat) (haP : a + 2 + P ≤ n) (hn : n ≤ 8192) (hP2 : 2 ≤ P) (hc0 : c ≤ 1073741822) (hk0 : 1 ∉ ks) (hk1 : 0 ∉ ks) (h : Hd) (hcur : curHead V a P = some h) (hmax : h.gen = 2147483647) (w : World) (hD : Dk 93 97 w d n (V) (c) false ks) (hK : Blk w 1 tK (iv .u32 K)) (hF : Blk w 0 tF (iv .i64 fldL)) : Calls Tryd.prog 14 #[.pointer (some ⟨d, 0, none⟩), .int .i64 (a : Int), .int .i64 ((P + 2 : Nat) : Int)] w (RetC (.tuple #[.pointer none, .slice none 0 0, .int .i64 9]) w) := by
  refine calls_of_TU (vs := [.pointer (some ⟨d, 0, none⟩), .int .i64 (a : Int), .int .i64 ((P + 2 : Nat) : Int)]) Tryd.func14 Tryd.ntmps14 rfl (by simp) ?_
  have hC : Chg [] w w := Chg.refl _ _
  have hgr : Grew ks ks w := Grew.refl _ _
  have hCz : w.heap.size ≤ w.heap.size := Nat.le_refl _
  have h0w : 1 < w.heap.size := hK.lt
  have h1w : 0 < w.heap.size := hF.lt
  have hP : 0 < P := by omega
  have hV : Full V := hD.len
  have hP8 : P ≤ 8192 := by omega
  refine TE.seq ?_
  refine TE.region ?_
  refine OL.alloc Tryd.zeroValue27 rfl ?_
  intro g6 w1 h6 hc1 hg_g6
  have lt_1_g6 : 1 < g6 := by have := hK.lt; omega
  have lt_0_g6 : 0 < g6 := by have := hF.lt; omega
  have ge_g6 : w.heap.size ≤ g6 := by have := hC.size; omega
  replace hD := hD.chg0 hc1
  replace hK := hK.chg0 hc1
  replace hF := hF.chg0 hc1
  replace hC := hC.then_ hc1
  have h6 : Blk w1 g6 27 ([.pointer none]) := h6
  refine OL.alloc Tryd.zeroValue38 rfl ?_
  intro g7 w2 h7 hc2 hg_g7
  have lt_1_g7 : 1 < g7 := by have := hK.lt; omega
  have lt_0_g7 : 0 < g7 := by have := hF.lt; omega
  have lt_g6_g7 : g6 < g7 := by have := h6.lt; omega
  have ge_g7 : w.heap.size ≤ g7 := by have := hC.size; omega
  replace hD := hD.chg0 hc2
  replace hK := hK.chg0 hc2
  replace hF := hF.chg0 hc2
  replace h6 := h6.chg0 hc2
  replace hC := hC.then_ hc2
  have h7 : Blk w2 g7 38 ([.slice none 0 0]) := h7
  refine OL.alloc Tryd.zeroValue31 rfl ?_
  intro g8 w3 h8 hc3 hg_g8
  have lt_1_g8 : 1 < g8 := by have := hK.lt; omega
  have lt_0_g8 : 0 < g8 := by have := hF.lt; omega
  have lt_g6_g8 : g6 < g8 := by have := h6.lt; omega
  have lt_g7_g8 : g7 < g8 := by have := h7.lt; omega
  have ge_g8 : w.heap.size ≤ g8 := by have := hC.size; omega
  replace hD := hD.chg0 hc3
  replace hK := hK.chg0 hc3
  replace hF := hF.chg0 hc3
  replace h6 := h6.chg0 hc3
  replace h7 := h7.chg0 hc3
  replace hC := hC.then_ hc3
  have h8 : Blk w3 g8 31 ([.int .i64 0]) := h8
  refine OL.nil ?_
  refine TE.seq ?_
  refine TE.region ?_
  refine OL.pure (Pure.move rfl) rfl ?_
  refine OL.pure (Pure.move rfl) rfl ?_
  refine OL.pure (Pure.move rfl) rfl ?_
  refine OL.call rfl Tryd.call32 rfl (check_ok d n c a P haP hn hP2 _ hD) ?_
  rintro _ w4 ⟨rfl, hc4⟩
  replace hD := hD.chg0 hc4
  replace hK := hK.chg0 hc4
  replace hF := hF.chg0 hc4
  replace h6 := h6.chg0 hc4
  replace h7 := h7.chg0 hc4
  replace h8 := h8.chg0 hc4
  replace hC := hC.then_ hc4
  refine ⟨_, rfl, ?_⟩
  refine OL.pure (Pure.move rfl) rfl ?_
  refine OL.pure (Pure.extract (vs := [.agg (arv d a P).toArray, .int .i64 0]) (i := 0) rfl rfl) rfl ?_
  refine OL.pure (Pure.extract (vs := [.agg (arv d a P).toArray, .int .i64 0]) (i := 1) rfl rfl) rfl ?_
  refine OL.alloc Tryd.zeroValue66 rfl ?_
  intro g9 w5 h9 hc5 hg_g9
  have lt_1_g9 : 1 < g9 := by have := hK.lt; omega
  have lt_0_g9 : 0 < g9 := by have := hF.lt; omega
  have lt_g6_g9 : g6 < g9 := by have := h6.lt; omega
  have lt_g7_g9 : g7 < g9 := by have := h7.lt; omega
  have lt_g8_g9 : g8 < g9 := by have := h8.lt; omega
  have ge_g9 : w.heap.size ≤ g9 := by have := hC.size; omega
  replace hD := hD.chg0 hc5
  replace hK := hK.chg0 hc5
  replace hF := hF.chg0 hc5
  replace h6 := h6.chg0 hc5
  replace h7 := h7.chg0 hc5
  replace h8 := h8.chg0 hc5
  replace hC := hC.then_ hc5
  refine OL.storeRow (vs := arv d a P) rfl rfl (rfl) (by simp [arv, Value.oneCell']) h9 (Nat.le_refl 3) ?_
  intro w6 hb6 hc6
  replace hD := hD.chg hc6 (hD.apart h9 (by decide) (by decide))
  replace hK := hK.chg hc6 (by simp; omega)
  replace hF := hF.chg hc6 (by simp; omega)
  replace h6 := h6.chg hc6 (by simpa using h6.ne h9 (by decide))
  replace h7 := h7.chg hc6 (by simpa using h7.ne h9 (by decide))
  replace h8 := h8.chg hc6 (by simpa using h8.ne h9 (by decide))
  replace hC := hC.trans1 hc6 (by first | exact .inr (by omega) | exact .inl (by simp))
  replace h9 := hb6
  replace h9 := h9.all rfl
  refine OL.pure (Pure.assign rfl) rfl ?_
  refine OL.nil ?_
  refine TE.seq ?_
  refine TE.seq ?_
  refine TE.region ?_
  refine OL.pure (Pure.move rfl) rfl ?_
  refine OL.pure (Pure.neq rfl rfl) rfl ?_
  refine OL.cast (.bool false) 35 rfl (rfl) ?_
  refine OL.nil ?_
  refine TE.condF rfl rfl ?_
  refine TE.skip ?_
  refine TE.seq ?_
  refine TE.region ?_
  refine OL.alloc Tryd.zeroValue70 rfl ?_
  intro g11 w7 h11 hc7 hg_g11
  have lt_1_g11 : 1 < g11 := by have := hK.lt; omega
  have lt_0_g11 : 0 < g11 := by have := hF.lt; omega
  have lt_g6_g11 : g6 < g11 := by have := h6.lt; omega
  have lt_g7_g11 : g7 < g11 := by have := h7.lt; omega
  have lt_g8_g11 : g8 < g11 := by have := h8.lt; omega
  have lt_g9_g11 : g9 < g11 := by have := h9.lt; omega
  have ge_g11 : w.heap.size ≤ g11 := by have := hC.size; omega
  replace hD := hD.chg0 hc7
  replace hK := hK.chg0 hc7
  replace hF := hF.chg0 hc7
  replace h6 := h6.chg0 hc7
  replace h7 := h7.chg0 hc7
  replace h8 := h8.chg0 hc7
  replace h9 := h9.chg0 hc7
  replace hC := hC.then_ hc7
  have h11 : Blk w7 g11 70 (Hd.zero.cells) := h11
  refine OL.nil ?_
  refine TE.seq ?_
  refine TE.region ?_
  refine OL.pure (Pure.assign rfl) rfl ?_
  refine OL.nil ?_
  refine TE.seq ?_
  refine TE.seq ?_
  refine TE.region ?_
  refine OL.pure (Pure.move rfl) rfl ?_
  refine OL.nil ?_
  refine TE.block ?_
  refine TE.loopInv (σ := Nat × Hd) [6, 7, 8, 9, 11, 12, 37] (fun s_ w_ => match s_ with | (i, x) => i ≤ 2 ∧ (∀ y, curTo V a P i = some y → x = y) ∧ Chg [] w w_ ∧ Dk 93 97 w_ d n (V) (c) false ks ∧ Blk w_ 1 tK (iv .u32 K) ∧ Blk w_ 0 tF (iv .i64 fldL) ∧ Blk w_ g6 27 [.pointer none] ∧ Blk w_ g7 38 [.slice none 0 0] ∧ Blk w_ g8 31 [.int .i64 0] ∧ Blk w_ g9 66 (arv d a P) ∧ Blk w_ g11 70 x.cells) (fun s_ => [(6, .pointer (some ⟨g6, 0, none⟩)), (7, .pointer (some ⟨g7, 0, none⟩)), (8, .pointer (some ⟨g8, 0, none⟩)), (9, .pointer (some ⟨g9, 0, none⟩)), (11, .pointer (some ⟨g11, 0, none⟩)), (12, .bool (curTo V a P s_.1).isSome), (37, .int .i64 (s_.1 : Int))]) (fun s_ => 2 - s_.1) (0, Hd.zero) ⟨by omega, (fun y hy => by cases hy), hC, hD, hK, hF, h6, h7, h8, h9, h11⟩ rfl ?_
  rintro ⟨i, x⟩ w8 ⟨hi, hx, hC, hD, hK, hF, h6, h7, h8, h9, h11⟩ ih8
  try dsimp only
  refine TE.seq ?_
  refine TE.region ?_
  refine OL.pure (Pure.lss rfl rfl) rfl ?_
  refine OL.nil ?_
  refine TE.seq ?_
  refine TE.ite rfl (fun hlt => ?_) (fun hlt => ?_)
  ·
    replace hlt : i < 2 := by omega
    refine TE.skip ?_
    refine TE.seq ?_
    refine TE.block ?_
    refine TE.seq ?_
    refine TE.region ?_
    refine OL.pure (Pure.move rfl) rfl ?_
    refine OL.pure (Pure.assign rfl) rfl ?_
    refine OL.nil ?_
    refine TE.seq ?_
    refine TE.region ?_
    refine OL.val (Run.loadAll rfl Tryd.underlying66 rfl h9 (rfl)) rfl ?_
    refine OL.pure (Pure.move rfl) rfl ?_
    refine OL.call rfl Tryd.call33 rfl (readhead_any d n c a P i hP haP hn hlt (by omega) _ hD hK hF) ?_
    rintro _ wr ⟨z, rfl, hz, hcr⟩
    replace hD := hD.chg0 hcr
    replace hK := hK.chg0 hcr
    replace hF := hF.chg0 hcr
    replace h6 := h6.chg0 hcr
    replace h7 := h7.chg0 hcr
    replace h8 := h8.chg0 hcr
    replace h9 := h9.chg0 hcr
    replace h11 := h11.chg0 hcr
    replace hC := hC.then_ hcr
    refine ⟨_, rfl, ?_⟩
    refine OL.pure (Pure.move rfl) rfl ?_
    refine OL.pure (Pure.extract (vs := [.agg z.cells.toArray, .bool (rdHead (V ((a + i : Nat) : Int)) P i).isSome, .int .i64 0]) (i := 0) rfl rfl) rfl ?_
    refine OL.pure (Pure.extract (vs := [.agg z.cells.toArray, .bool (rdHead (V ((a + i : Nat) : Int)) P i).isSome, .int .i64 0]) (i := 1) rfl rfl) rfl ?_
    refine OL.pure (Pure.extract (vs := [.agg z.cells.toArray, .bool (rdHead (V ((a + i : Nat) : Int)) P i).isSome, .int .i64 0]) (i := 2) rfl rfl) rfl ?_
    refine OL.alloc Tryd.zeroValue70 rfl ?_
    intro g14 w9 h14 hc9 hg_g14
    have lt_1_g14 : 1 < g14 := by have := hK.lt; omega
    have lt_0_g14 : 0 < g14 := by have := hF.lt; omega
    have lt_g6_g14 : g6 < g14 := by have := h6.lt; omega
    have lt_g7_g14 : g7 < g14 := by have := h7.lt; omega
    have lt_g8_g14 : g8 < g14 := by have := h8.lt; omega
    have lt_g9_g14 : g9 < g14 := by have := h9.lt; omega
    have lt_g11_g14 : g11 < g14 := by have := h11.lt; omega
    have ge_g14 : w.heap.size ≤ g14 := by have := hC.size; omega
    replace hD := hD.chg0 hc9
    replace hK := hK.chg0 hc9
    replace hF := hF.chg0 hc9
    replace h6 := h6.chg0 hc9
    replace h7 := h7.chg0 hc9
    replace h8 := h8.chg0 hc9
    replace h9 := h9.chg0 hc9
    replace h11 := h11.chg0 hc9
    replace hC := hC.then_ hc9
    have h14 : Blk w9 g14 70 (Hd.zero.cells) := h14
    refine OL.storeRow (vs := z.cells) rfl rfl (rfl) (by simp [Hd.cells, Value.oneCell']) h14 (Nat.le_refl 4) ?_
    intro w10 hb10 hc10
    replace hD := hD.chg hc10 (hD.apart h14 (by decide) (by decide))
    replace hK := hK.chg hc10 (by simp; omega)
    replace hF := hF.chg hc10 (by simp; omega)
    replace h6 := h6.chg hc10 (by simpa using h6.ne h14 (by decide))
    replace h7 := h7.chg hc10 (by simpa using h7.ne h14 (by decide))
    replace h8 := h8.chg hc10 (by simpa using h8.ne h14 (by decide))
    replace h9 := h9.chg hc10 (by simpa using h9.ne h14 (by decide))
    replace h11 := h11.chg hc10 (by simp; omega)
    replace hC := hC.trans1 hc10 (by first | exact .inr (by omega) | exact .inl (by simp))
    replace h14 := hb10
    replace h14 := h14.all rfl
    refine OL.pure (Pure.assign rfl) rfl ?_
    cases hrd : rdHead (V ((a + i : Nat) : Int)) P i with
    | none =>
      refine OL.cast (.bool false) 15 rfl (rfl) ?_
      have hcn : curTo V a P (i + 1) = curTo V a P i := by simp only [curTo, hrd]; cases curTo V a P i <;> rfl
      refine OL.pure (Pure.assign rfl) rfl ?_
      refine OL.nil ?_
      refine TE.seq ?_
      refine TE.seq ?_
      refine TE.region ?_
      refine OL.pure (Pure.move rfl) rfl ?_
      refine OL.pure (Pure.neq rfl rfl) rfl ?_
      refine OL.cast (.bool false) 48 rfl (rfl) ?_
      refine OL.nil ?_
      refine TE.condF rfl rfl ?_
      refine TE.skip ?_
      refine TE.seq ?_
      refine TE.region ?_
      refine OL.pure (Pure.move rfl) rfl ?_
      refine OL.pure (Pure.move rfl) rfl ?_
      refine OL.pass rfl rfl rfl rfl rfl ?_
      refine OL.pass rfl rfl rfl rfl rfl ?_
      refine OL.pass rfl rfl rfl rfl rfl ?_
      refine OL.pass rfl rfl rfl rfl rfl ?_
      refine OL.pass rfl rfl rfl rfl rfl ?_
      refine OL.pass rfl rfl rfl rfl rfl ?_
      refine OL.pass rfl rfl rfl rfl rfl ?_
      refine OL.pass rfl rfl rfl rfl rfl ?_
      refine OL.pass rfl rfl rfl rfl rfl ?_
      refine OL.pure (Pure.pickF rfl rfl) rfl ?_
      refine OL.nil ?_
      refine TE.condF rfl rfl ?_
      refine TE.skip ?_
      refine TE.inBlock ?_
      refine TE.region ?_
      refine OL.pure (Pure.add rfl rfl (i64 (by omega) (by omega))) rfl ?_
      refine OL.pure (Pure.move rfl) rfl ?_
      refine OL.nil ?_
      refine TE.cast (.bool (curTo V a P (i + 1)).isSome) 12 rfl (by rw [hcn]) ?_
      exact TE.sub [6, 7, 8, 9, 11, 12, 37] rfl (ih8 (i + 1, x) _ ⟨by omega, (fun y hy => hx y (by rw [← hcn]; exact hy)), hC, hD, hK, hF, h6, h7, h8, h9, h11⟩ (by omega))
    | some y =>
      refine OL.cast (.bool true) 15 rfl (rfl) ?_
      obtain rfl := hz y hrd
      cases hct : curTo V a P i with
      | none =>
        refine OL.cast (.bool false) 12 rfl (rfl) ?_
        have hcn : curTo V a P (i + 1) = some z := by simp only [curTo, hrd, hct]; rfl
        refine OL.pure (Pure.assign rfl) rfl ?_
        refine OL.nil ?_
        refine TE.seq ?_
        refine TE.seq ?_
        refine TE.region ?_
        refine OL.pure (Pure.move rfl) rfl ?_
        refine OL.pure (Pure.neq rfl rfl) rfl ?_
        refine OL.cast (.bool false) 48 rfl (rfl) ?_
        refine OL.nil ?_
        refine TE.condF rfl rfl ?_
        refine TE.skip ?_
        refine TE.seq ?_
        refine TE.region ?_
        refine OL.pure (Pure.move rfl) rfl ?_
        refine OL.pure (Pure.move rfl) rfl ?_
        refine OL.want rfl rfl rfl (Pure.move rfl _) rfl ?_
        refine OL.want rfl rfl rfl (Pure.not rfl _) rfl ?_
        refine OL.want rfl rfl rfl (Pure.move rfl _) rfl ?_
        refine OL.pass rfl rfl rfl rfl rfl ?_
        refine OL.pass rfl rfl rfl rfl rfl ?_
        refine OL.pass rfl rfl rfl rfl rfl ?_
        refine OL.pass rfl rfl rfl rfl rfl ?_
        refine OL.pass rfl rfl rfl rfl rfl ?_
        refine OL.want rfl rfl rfl (Pure.pickT rfl rfl _) rfl ?_
        refine OL.pure (Pure.pickT rfl rfl) rfl ?_
        refine OL.nil ?_
        refine TE.condT rfl rfl ?_
        refine TE.region ?_
        refine OL.val (Run.loadAll rfl Tryd.underlying70 rfl h14 (rfl)) rfl ?_
        refine OL.storeRow (vs := z.cells) rfl rfl (rfl) (by simp [Hd.cells, Value.oneCell']) h11 (Nat.le_refl 4) ?_
        intro w11 hb11 hc11
        replace hD := hD.chg hc11 (hD.apart h11 (by decide) (by decide))
        replace hK := hK.chg hc11 (by simp; omega)
        replace hF := hF.chg hc11 (by simp; omega)
        replace h6 := h6.chg hc11 (by simpa using h6.ne h11 (by decide))
        replace h7 := h7.chg hc11 (by simpa using h7.ne h11 (by decide))
        replace h8 := h8.chg hc11 (by simpa using h8.ne h11 (by decide))
        replace h9 := h9.chg hc11 (by simpa using h9.ne h11 (by decide))
        replace h14 := h14.chg hc11 (by simp; omega)
        replace hC := hC.trans1 hc11 (by first | exact .inr (by omega) | exact .inl (by simp))
        replace h11 := hb11
        replace h11 := h11.all rfl
        refine OL.pure (Pure.assign rfl) rfl ?_
        refine OL.nil ?_
        refine TE.inBlock ?_
        refine TE.region ?_
        refine OL.pure (Pure.add rfl rfl (i64 (by omega) (by omega))) rfl ?_
        refine OL.pure (Pure.move rfl) rfl ?_
        refine OL.nil ?_
        refine TE.cast (.bool (curTo V a P (i + 1)).isSome) 12 rfl (by rw [hcn]; rfl) ?_
        exact TE.sub [6, 7, 8, 9, 11, 12, 37] rfl (ih8 (i + 1, z) _ ⟨by omega, (fun y hy => by rw [hcn] at hy; cases hy; rfl), hC, hD, hK, hF, h6, h7, h8, h9, h11⟩ (by omega))
      | some y2 =>
        refine OL.cast (.bool true) 12 rfl (rfl) ?_
        obtain rfl := hx y2 hct
        by_cases hgt : x.gen < z.gen
        ·
          have hcn : curTo V a P (i + 1) = some z := by simp only [curTo, hrd, hct, newer]; rw [if_pos hgt]
          refine OL.pure (Pure.assign rfl) rfl ?_
          refine OL.nil ?_
          refine TE.seq ?_
          refine TE.seq ?_
          refine TE.region ?_
          refine OL.pure (Pure.move rfl) rfl ?_
          refine OL.pure (Pure.neq rfl rfl) rfl ?_
          refine OL.cast (.bool false) 48 rfl (rfl) ?_
          refine OL.nil ?_
          refine TE.condF rfl rfl ?_
          refine TE.skip ?_
          refine TE.seq ?_
          refine TE.region ?_
          refine OL.pure (Pure.move rfl) rfl ?_
          refine OL.pure (Pure.move rfl) rfl ?_
          refine OL.want rfl rfl rfl (Pure.move rfl _) rfl ?_
          refine OL.want rfl rfl rfl (Pure.not rfl _) rfl ?_
          refine OL.want rfl rfl rfl (Pure.move rfl _) rfl ?_
          refine OL.want rfl rfl rfl (Pure.fieldAddr (r := 0) Tryd.runUnderlying70 rfl Tryd.sizeOf3 rfl rfl _) rfl ?_
          refine OL.want rfl rfl rfl (Run.load (i := 0) rfl Tryd.isAgg3 h14 (by omega) rfl) rfl ?_
          refine OL.want rfl rfl rfl (Pure.fieldAddr (r := 0) Tryd.runUnderlying70 rfl Tryd.sizeOf3 rfl rfl _) rfl ?_
          refine OL.want rfl rfl rfl (Run.load (i := 0) rfl Tryd.isAgg3 h11 (by omega) rfl) rfl ?_
          refine OL.want rfl rfl rfl (Pure.gtr rfl rfl _) rfl ?_
          refine OL.cast (.bool true) 59 rfl (congrArg Value.bool (decide_eq_true (by omega))) ?_
          refine OL.want rfl rfl rfl (Pure.pickF rfl rfl _) rfl ?_
          refine OL.pure (Pure.pickT rfl rfl) rfl ?_
          refine OL.nil ?_
          refine TE.condT rfl rfl ?_
          refine TE.region ?_
          refine OL.val (Run.loadAll rfl Tryd.underlying70 rfl h14 (rfl)) rfl ?_
          refine OL.storeRow (vs := z.cells) rfl rfl (rfl) (by simp [Hd.cells, Value.oneCell']) h11 (Nat.le_refl 4) ?_
          intro w12 hb12 hc12
          replace hD := hD.chg hc12 (hD.apart h11 (by decide) (by decide))
          replace hK := hK.chg hc12 (by simp; omega)
          replace hF := hF.chg hc12 (by simp; omega)
          replace h6 := h6.chg hc12 (by simpa using h6.ne h11 (by decide))
          replace h7 := h7.chg hc12 (by simpa using h7.ne h11 (by decide))
          replace h8 := h8.chg hc12 (by simpa using h8.ne h11 (by decide))
          replace h9 := h9.chg hc12 (by simpa using h9.ne h11 (by decide))
          replace h14 := h14.chg hc12 (by simp; omega)
          replace hC := hC.trans1 hc12 (by first | exact .inr (by omega) | exact .inl (by simp))
          replace h11 := hb12
          replace h11 := h11.all rfl
          refine OL.pure (Pure.assign rfl) rfl ?_
          refine OL.nil ?_
          refine TE.inBlock ?_
          refine TE.region ?_
          refine OL.pure (Pure.add rfl rfl (i64 (by omega) (by omega))) rfl ?_
          refine OL.pure (Pure.move rfl) rfl ?_
          refine OL.nil ?_
          refine TE.cast (.bool (curTo V a P (i + 1)).isSome) 12 rfl (by rw [hcn]; rfl) ?_
          exact TE.sub [6, 7, 8, 9, 11, 12, 37] rfl (ih8 (i + 1, z) _ ⟨by omega, (fun y hy => by rw [hcn] at hy; cases hy; rfl), hC, hD, hK, hF, h6, h7, h8, h9, h11⟩ (by omega))
        ·
          have hcn : curTo V a P (i + 1) = some x := by simp only [curTo, hrd, hct, newer]; rw [if_neg hgt]
          refine OL.pure (Pure.assign rfl) rfl ?_
          refine OL.nil ?_
          refine TE.seq ?_
          refine TE.seq ?_
          refine TE.region ?_
          refine OL.pure (Pure.move rfl) rfl ?_
          refine OL.pure (Pure.neq rfl rfl) rfl ?_
          refine OL.cast (.bool false) 48 rfl (rfl) ?_
          refine OL.nil ?_
          refine TE.condF rfl rfl ?_
          refine TE.skip ?_
          refine TE.seq ?_
          refine TE.region ?_
          refine OL.pure (Pure.move rfl) rfl ?_
          refine OL.pure (Pure.move rfl) rfl ?_
          refine OL.want rfl rfl rfl (Pure.move rfl _) rfl ?_
          refine OL.want rfl rfl rfl (Pure.not rfl _) rfl ?_
          refine OL.want rfl rfl rfl (Pure.move rfl _) rfl ?_
          refine OL.want rfl rfl rfl (Pure.fieldAddr (r := 0) Tryd.runUnderlying70 rfl Tryd.sizeOf3 rfl rfl _) rfl ?_
          refine OL.want rfl rfl rfl (Run.load (i := 0) rfl Tryd.isAgg3 h14 (by omega) rfl) rfl ?_
          refine OL.want rfl rfl rfl (Pure.fieldAddr (r := 0) Tryd.runUnderlying70 rfl Tryd.sizeOf3 rfl rfl _) rfl ?_
          refine OL.want rfl rfl rfl (Run.load (i := 0) rfl Tryd.isAgg3 h11 (by omega) rfl) rfl ?_
          refine OL.want rfl rfl rfl (Pure.gtr rfl rfl _) rfl ?_
          refine OL.cast (.bool false) 59 rfl (congrArg Value.bool (decide_eq_false (by omega))) ?_
          refine OL.want rfl rfl rfl (Pure.pickF rfl rfl _) rfl ?_
          refine OL.pure (Pure.pickT rfl rfl) rfl ?_
          refine OL.nil ?_
          refine TE.condF rfl rfl ?_
          refine TE.skip ?_
          refine TE.inBlock ?_
          refine TE.region ?_
          refine OL.pure (Pure.add rfl rfl (i64 (by omega) (by omega))) rfl ?_
          refine OL.pure (Pure.move rfl) rfl ?_
          refine OL.nil ?_
          refine TE.cast (.bool (curTo V a P (i + 1)).isSome) 12 rfl (by rw [hcn]; rfl) ?_
          exact TE.sub [6, 7, 8, 9, 11, 12, 37] rfl (ih8 (i + 1, x) _ ⟨by omega, (fun y hy => by rw [hcn] at hy; cases hy; rfl), hC, hD, hK, hF, h6, h7, h8, h9, h11⟩ (by omega))
  ·
    obtain rfl : i = 2 := by omega
    rw [curTo_two] at hx
    refine TE.cast (.bool true) 12 rfl (by rw [curTo_two, hcur]; rfl) ?_
    have hxe := hx h hcur
    rw [hxe] at h11
    refine TE.exit rfl ?_
    refine TE.seq ?_
    refine TE.seq ?_
    refine TE.region ?_
    refine OL.pure (Pure.move rfl) rfl ?_
    refine OL.pure (Pure.not rfl) rfl ?_
    refine OL.nil ?_
    refine TE.condF rfl rfl ?_
    refine TE.skip ?_
    refine TE.seq ?_
    refine TE.seq ?_
    refine TE.region ?_
    refine OL.pure (Pure.fieldAddr (r := 0) Tryd.runUnderlying70 rfl Tryd.sizeOf3 rfl rfl) rfl ?_
    refine OL.val (Run.load (i := 0) rfl Tryd.isAgg3 h11 (by omega) rfl) rfl ?_
    refine OL.pure (Pure.eql rfl rfl) rfl ?_
    refine OL.cast (.bool true) 68 rfl (congrArg Value.bool (decide_eq_true (by omega))) ?_
    refine OL.nil ?_
    refine TE.condT rfl rfl ?_
    refine TE.seq ?_
    refine TE.region ?_
    refine OL.store (j := 0) rfl rfl Tryd.sizeOf27 rfl h6 (by omega) (rfl) ?_
    intro w13 hb13 hc13
    replace hD := hD.chg hc13 (hD.apart h6 (by decide) (by decide))
    replace hK := hK.chg hc13 (by simp; omega)
    replace hF := hF.chg hc13 (by simp; omega)
    replace h7 := h7.chg hc13 (by simpa using h7.ne h6 (by decide))
    replace h8 := h8.chg hc13 (by simpa using h8.ne h6 (by decide))
    replace h9 := h9.chg hc13 (by simpa using h9.ne h6 (by decide))
    replace h11 := h11.chg hc13 (by simpa using h11.ne h6 (by decide))
    replace hC := hC.trans1 hc13 (by first | exact .inr (by omega) | exact .inl (by simp))
    replace h6 := hb13
    refine OL.store (j := 0) rfl rfl Tryd.sizeOf38 rfl h7 (by omega) (rfl) ?_
    intro w14 hb14 hc14
    replace hD := hD.chg hc14 (hD.apart h7 (by decide) (by decide))
    replace hK := hK.chg hc14 (by simp; omega)
    replace hF := hF.chg hc14 (by simp; omega)
    replace h6 := h6.chg hc14 (by simpa using h6.ne h7 (by decide))
    replace h8 := h8.chg hc14 (by simpa using h8.ne h7 (by decide))
    replace h9 := h9.chg hc14 (by simpa using h9.ne h7 (by decide))
    replace h11 := h11.chg hc14 (by simpa using h11.ne h7 (by decide))
    replace hC := hC.trans1 hc14 (by first | exact .inr (by omega) | exact .inl (by simp))
    replace h7 := hb14
    refine OL.store (j := 0) rfl rfl Tryd.sizeOf31 rfl h8 (by omega) (rfl) ?_
    intro w15 hb15 hc15
    replace hD := hD.chg hc15 (hD.apart h8 (by decide) (by decide))
    replace hK := hK.chg hc15 (by simp; omega)
    replace hF := hF.chg hc15 (by simp; omega)
    replace h6 := h6.chg hc15 (by simpa using h6.ne h8 (by decide))
    replace h7 := h7.chg hc15 (by simpa using h7.ne h8 (by decide))
    replace h9 := h9.chg hc15 (by simpa using h9.ne h8 (by decide))
    replace h11 := h11.chg hc15 (by simpa using h11.ne h8 (by decide))
    replace hC := hC.trans1 hc15 (by first | exact .inr (by omega) | exact .inl (by simp))
    replace h8 := hb15
    refine OL.nil ?_
    refine TE.retU (fun a_ ha_ => ?_)
    exact Unw.done (vs := [.pointer none, .slice none 0 0, .int .i64 9]) ha_ Tryd.results14 ⟨⟨_, rfl, loadCell_at Tryd.isAgg27 h6 rfl⟩, ⟨_, rfl, loadCell_at Tryd.isAgg38 h7 rfl⟩, ⟨_, rfl, loadCell_at Tryd.isAgg31 h8 rfl⟩, trivial⟩ ⟨rfl, hC⟩

set_option maxHeartbeats 4000000 in
theorem open_ok {tK tF : TypeId} {V : Int → List UInt8} {ks : List Nat} (d n c a P : Nat) (haP : a + 2 + P ≤ n) (hn : n ≤ 8192) (hP2 : 2 ≤ P) (hc0 : c ≤ 1073741822) (hk0 : 1 ∉ ks) (hk1 : 0 ∉ ks) (h : Hd) (hcur : curHead V a P = some h) (hgm : h.gen < 2147483647) (w : World) (hD : Dk 93 97 w d n (V) (c) false ks) (hK : Blk w 1 tK (iv .u32 K)) (hF : Blk w 0 tF (iv .i64 fldL)) : Calls Tryd.prog 14 #[.pointer (some ⟨d, 0, none⟩), .int .i64 (a : Int), .int .i64 ((P + 2 : Nat) : Int)] w (fun e w_ => ∃ ks_ r rs_ v, e = .returned (.tuple #[.pointer (some ⟨r, 0, none⟩), v, .int .i64 0]) ∧ Dk 93 97 w_ d n (openV V a P ⟨h, (scan V a P h.gen h.place P h.first h.base)⟩) (0) false ks_ ∧ RgK 80 85 w_ r d a P (openS ⟨h, (scan V a P h.gen h.place P h.first h.base)⟩) rs_ ∧ Row w_ 49 2 v (scan V a P h.gen h.place P h.first h.base).length (entC h.first (scan V a P h.gen h.place P h.first h.base)) ∧ Chg ks w w_ ∧ Grew ks ks_ w ∧ (∀ k ∈ rs_, w.heap.size ≤ k) ∧ Mine w.heap.size v) := by
  refine calls_of_TU (vs := [.pointer (some ⟨d, 0, none⟩), .int .i64 (a : Int), .int .i64 ((P + 2 : Nat) : Int)]) Tryd.func14 Tryd.ntmps14 rfl (by simp) ?_
  have hC : Chg ks w w := Chg.refl _ _
  have hgr : Grew ks ks w := Grew.refl _ _
  have hCz : w.heap.size ≤ w.heap.size := Nat.le_refl _
  have h0w : 1 < w.heap.size := hK.lt
  have h1w : 0 < w.heap.size := hF.lt
  have hP : 0 < P := by omega
  have hV : Full V := hD.len
  have hP8 : P ≤ 8192 := by omega
  refine TE.seq ?_
  refine TE.region ?_
  refine OL.alloc Tryd.zeroValue27 rfl ?_
  intro g6 w1 h6 hc1 hg_g6
  have lt_1_g6 : 1 < g6 := by have := hK.lt; omega
  have lt_0_g6 : 0 < g6 := by have := hF.lt; omega
  have ge_g6 : w.heap.size ≤ g6 := by have := hC.size; omega
  replace hD := hD.chg0 hc1
  replace hK := hK.chg0 hc1
  replace hF := hF.chg0 hc1
  replace hC := hC.then_ hc1
  have h6 : Blk w1 g6 27 ([.pointer none]) := h6
  refine OL.alloc Tryd.zeroValue38 rfl ?_
  intro g7 w2 h7 hc2 hg_g7
  have lt_1_g7 : 1 < g7 := by have := hK.lt; omega
  have lt_0_g7 : 0 < g7 := by have := hF.lt; omega
  have lt_g6_g7 : g6 < g7 := by have := h6.lt; omega
  have ge_g7 : w.heap.size ≤ g7 := by have := hC.size; omega
  replace hD := hD.chg0 hc2
  replace hK := hK.chg0 hc2
  replace hF := hF.chg0 hc2
  replace h6 := h6.chg0 hc2
  replace hC := hC.then_ hc2
  have h7 : Blk w2 g7 38 ([.slice none 0 0]) := h7
  refine OL.alloc Tryd.zeroValue31 rfl ?_
  intro g8 w3 h8 hc3 hg_g8
  have lt_1_g8 : 1 < g8 := by have := hK.lt; omega
  have lt_0_g8 : 0 < g8 := by have := hF.lt; omega
  have lt_g6_g8 : g6 < g8 := by have := h6.lt; omega
  have lt_g7_g8 : g7 < g8 := by have := h7.lt; omega
  have ge_g8 : w.heap.size ≤ g8 := by have := hC.size; omega
  replace hD := hD.chg0 hc3
  replace hK := hK.chg0 hc3
  replace hF := hF.chg0 hc3
  replace h6 := h6.chg0 hc3
  replace h7 := h7.chg0 hc3
  replace hC := hC.then_ hc3
  have h8 : Blk w3 g8 31 ([.int .i64 0]) := h8
  refine OL.nil ?_
  refine TE.seq ?_
  refine TE.region ?_
  refine OL.pure (Pure.move rfl) rfl ?_
  refine OL.pure (Pure.move rfl) rfl ?_
  refine OL.pure (Pure.move rfl) rfl ?_
  refine OL.call rfl Tryd.call32 rfl (check_ok d n c a P haP hn hP2 _ hD) ?_
  rintro _ w4 ⟨rfl, hc4⟩
  replace hD := hD.chg0 hc4
  replace hK := hK.chg0 hc4
  replace hF := hF.chg0 hc4
  replace h6 := h6.chg0 hc4
  replace h7 := h7.chg0 hc4
  replace h8 := h8.chg0 hc4
  replace hC := hC.then_ hc4
  refine ⟨_, rfl, ?_⟩
  refine OL.pure (Pure.move rfl) rfl ?_
  refine OL.pure (Pure.extract (vs := [.agg (arv d a P).toArray, .int .i64 0]) (i := 0) rfl rfl) rfl ?_
  refine OL.pure (Pure.extract (vs := [.agg (arv d a P).toArray, .int .i64 0]) (i := 1) rfl rfl) rfl ?_
  refine OL.alloc Tryd.zeroValue66 rfl ?_
  intro g9 w5 h9 hc5 hg_g9
  have lt_1_g9 : 1 < g9 := by have := hK.lt; omega
  have lt_0_g9 : 0 < g9 := by have := hF.lt; omega
  have lt_g6_g9 : g6 < g9 := by have := h6.lt; omega
  have lt_g7_g9 : g7 < g9 := by have := h7.lt; omega
  have lt_g8_g9 : g8 < g9 := by have := h8.lt; omega
  have ge_g9 : w.heap.size ≤ g9 := by have := hC.size; omega
  replace hD := hD.chg0 hc5
  replace hK := hK.chg0 hc5
  replace hF := hF.chg0 hc5
  replace h6 := h6.chg0 hc5
  replace h7 := h7.chg0 hc5
  replace h8 := h8.chg0 hc5
  replace hC := hC.then_ hc5
  refine OL.storeRow (vs := arv d a P) rfl rfl (rfl) (by simp [arv, Value.oneCell']) h9 (Nat.le_refl 3) ?_
  intro w6 hb6 hc6
  replace hD := hD.chg hc6 (hD.apart h9 (by decide) (by decide))
  replace hK := hK.chg hc6 (by simp; omega)
  replace hF := hF.chg hc6 (by simp; omega)
  replace h6 := h6.chg hc6 (by simpa using h6.ne h9 (by decide))
  replace h7 := h7.chg hc6 (by simpa using h7.ne h9 (by decide))
  replace h8 := h8.chg hc6 (by simpa using h8.ne h9 (by decide))
  replace hC := hC.trans1 hc6 (by first | exact .inr (by omega) | exact .inl (by simp))
  replace h9 := hb6
  replace h9 := h9.all rfl
  refine OL.pure (Pure.assign rfl) rfl ?_
  refine OL.nil ?_
  refine TE.seq ?_
  refine TE.seq ?_
  refine TE.region ?_
  refine OL.pure (Pure.move rfl) rfl ?_
  refine OL.pure (Pure.neq rfl rfl) rfl ?_
  refine OL.cast (.bool false) 35 rfl (rfl) ?_
  refine OL.nil ?_
  refine TE.condF rfl rfl ?_
  refine TE.skip ?_
  refine TE.seq ?_
  refine TE.region ?_
  refine OL.alloc Tryd.zeroValue70 rfl ?_
  intro g11 w7 h11 hc7 hg_g11
  have lt_1_g11 : 1 < g11 := by have := hK.lt; omega
  have lt_0_g11 : 0 < g11 := by have := hF.lt; omega
  have lt_g6_g11 : g6 < g11 := by have := h6.lt; omega
  have lt_g7_g11 : g7 < g11 := by have := h7.lt; omega
  have lt_g8_g11 : g8 < g11 := by have := h8.lt; omega
  have lt_g9_g11 : g9 < g11 := by have := h9.lt; omega
  have ge_g11 : w.heap.size ≤ g11 := by have := hC.size; omega
  replace hD := hD.chg0 hc7
  replace hK := hK.chg0 hc7
  replace hF := hF.chg0 hc7
  replace h6 := h6.chg0 hc7
  replace h7 := h7.chg0 hc7
  replace h8 := h8.chg0 hc7
  replace h9 := h9.chg0 hc7
  replace hC := hC.then_ hc7
  have h11 : Blk w7 g11 70 (Hd.zero.cells) := h11
  refine OL.nil ?_
  refine TE.seq ?_
  refine TE.region ?_
  refine OL.pure (Pure.assign rfl) rfl ?_
  refine OL.nil ?_
  refine TE.seq ?_
  refine TE.seq ?_
  refine TE.region ?_
  refine OL.pure (Pure.move rfl) rfl ?_
  refine OL.nil ?_
  refine TE.block ?_
  refine TE.loopInv (σ := Nat × Hd) [6, 7, 8, 9, 11, 12, 37] (fun s_ w_ => match s_ with | (i, x) => i ≤ 2 ∧ (∀ y, curTo V a P i = some y → x = y) ∧ Chg ks w w_ ∧ Dk 93 97 w_ d n (V) (c) false ks ∧ Blk w_ 1 tK (iv .u32 K) ∧ Blk w_ 0 tF (iv .i64 fldL) ∧ Blk w_ g6 27 [.pointer none] ∧ Blk w_ g7 38 [.slice none 0 0] ∧ Blk w_ g8 31 [.int .i64 0] ∧ Blk w_ g9 66 (arv d a P) ∧ Blk w_ g11 70 x.cells) (fun s_ => [(6, .pointer (some ⟨g6, 0, none⟩)), (7, .pointer (some ⟨g7, 0, none⟩)), (8, .pointer (some ⟨g8, 0, none⟩)), (9, .pointer (some ⟨g9, 0, none⟩)), (11, .pointer (some ⟨g11, 0, none⟩)), (12, .bool (curTo V a P s_.1).isSome), (37, .int .i64 (s_.1 : Int))]) (fun s_ => 2 - s_.1) (0, Hd.zero) ⟨by omega, (fun y hy => by cases hy), hC, hD, hK, hF, h6, h7, h8, h9, h11⟩ rfl ?_
  rintro ⟨i, x⟩ w8 ⟨hi, hx, hC, hD, hK, hF, h6, h7, h8, h9, h11⟩ ih8
  try dsimp only
  refine TE.seq ?_
  refine TE.region ?_
  refine OL.pure (Pure.lss rfl rfl) rfl ?_
  refine OL.nil ?_
  refine TE.seq ?_
  refine TE.ite rfl (fun hlt => ?_) (fun hlt => ?_)
  ·
    replace hlt : i < 2 := by omega
    refine TE.skip ?_
    refine TE.seq ?_
    refine TE.block ?_
    refine TE.seq ?_
    refine TE.region ?_
    refine OL.pure (Pure.move rfl) rfl ?_
    refine OL.pure (Pure.assign rfl) rfl ?_
    refine OL.nil ?_
    refine TE.seq ?_
    refine TE.region ?_
    refine OL.val (Run.loadAll rfl Tryd.underlying66 rfl h9 (rfl)) rfl ?_
    refine OL.pure (Pure.move rfl) rfl ?_
    refine OL.call rfl Tryd.call33 rfl (readhead_any d n c a P i hP haP hn hlt (by omega) _ hD hK hF) ?_
    rintro _ wr ⟨z, rfl, hz, hcr⟩
    replace hD := hD.chg0 hcr
    replace hK := hK.chg0 hcr
    replace hF := hF.chg0 hcr
    replace h6 := h6.chg0 hcr
    replace h7 := h7.chg0 hcr
    replace h8 := h8.chg0 hcr
    replace h9 := h9.chg0 hcr
    replace h11 := h11.chg0 hcr
    replace hC := hC.then_ hcr
    refine ⟨_, rfl, ?_⟩
    refine OL.pure (Pure.move rfl) rfl ?_
    refine OL.pure (Pure.extract (vs := [.agg z.cells.toArray, .bool (rdHead (V ((a + i : Nat) : Int)) P i).isSome, .int .i64 0]) (i := 0) rfl rfl) rfl ?_
    refine OL.pure (Pure.extract (vs := [.agg z.cells.toArray, .bool (rdHead (V ((a + i : Nat) : Int)) P i).isSome, .int .i64 0]) (i := 1) rfl rfl) rfl ?_
    refine OL.pure (Pure.extract (vs := [.agg z.cells.toArray, .bool (rdHead (V ((a + i : Nat) : Int)) P i).isSome, .int .i64 0]) (i := 2) rfl rfl) rfl ?_
    refine OL.alloc Tryd.zeroValue70 rfl ?_
    intro g14 w9 h14 hc9 hg_g14
    have lt_1_g14 : 1 < g14 := by have := hK.lt; omega
    have lt_0_g14 : 0 < g14 := by have := hF.lt; omega
    have lt_g6_g14 : g6 < g14 := by have := h6.lt; omega
    have lt_g7_g14 : g7 < g14 := by have := h7.lt; omega
    have lt_g8_g14 : g8 < g14 := by have := h8.lt; omega
    have lt_g9_g14 : g9 < g14 := by have := h9.lt; omega
    have lt_g11_g14 : g11 < g14 := by have := h11.lt; omega
    have ge_g14 : w.heap.size ≤ g14 := by have := hC.size; omega
    replace hD := hD.chg0 hc9
    replace hK := hK.chg0 hc9
    replace hF := hF.chg0 hc9
    replace h6 := h6.chg0 hc9
    replace h7 := h7.chg0 hc9
    replace h8 := h8.chg0 hc9
    replace h9 := h9.chg0 hc9
    replace h11 := h11.chg0 hc9
    replace hC := hC.then_ hc9
    have h14 : Blk w9 g14 70 (Hd.zero.cells) := h14
    refine OL.storeRow (vs := z.cells) rfl rfl (rfl) (by simp [Hd.cells, Value.oneCell']) h14 (Nat.le_refl 4) ?_
    intro w10 hb10 hc10
    replace hD := hD.chg hc10 (hD.apart h14 (by decide) (by decide))
    replace hK := hK.chg hc10 (by simp; omega)
    replace hF := hF.chg hc10 (by simp; omega)
    replace h6 := h6.chg hc10 (by simpa using h6.ne h14 (by decide))
    replace h7 := h7.chg hc10 (by simpa using h7.ne h14 (by decide))
    replace h8 := h8.chg hc10 (by simpa using h8.ne h14 (by decide))
    replace h9 := h9.chg hc10 (by simpa using h9.ne h14 (by decide))
    replace h11 := h11.chg hc10 (by simp; omega)
    replace hC := hC.trans1 hc10 (by first | exact .inr (by omega) | exact .inl (by simp))
    replace h14 := hb10
    replace h14 := h14.all rfl
    refine OL.pure (Pure.assign rfl) rfl ?_
    cases hrd : rdHead (V ((a + i : Nat) : Int)) P i with
    | none =>
      refine OL.cast (.bool false) 15 rfl (rfl) ?_
      have hcn : curTo V a P (i + 1) = curTo V a P i := by simp only [curTo, hrd]; cases curTo V a P i <;> rfl
      refine OL.pure (Pure.assign rfl) rfl ?_
      refine OL.nil ?_
      refine TE.seq ?_
      refine TE.seq ?_
      refine TE.region ?_
      refine OL.pure (Pure.move rfl) rfl ?_
      refine OL.pure (Pure.neq rfl rfl) rfl ?_
      refine OL.cast (.bool false) 48 rfl (rfl) ?_
      refine OL.nil ?_
      refine TE.condF rfl rfl ?_
      refine TE.skip ?_
      refine TE.seq ?_
      refine TE.region ?_
      refine OL.pure (Pure.move rfl) rfl ?_
      refine OL.pure (Pure.move rfl) rfl ?_
      refine OL.pass rfl rfl rfl rfl rfl ?_
      refine OL.pass rfl rfl rfl rfl rfl ?_
      refine OL.pass rfl rfl rfl rfl rfl ?_
      refine OL.pass rfl rfl rfl rfl rfl ?_
      refine OL.pass rfl rfl rfl rfl rfl ?_
      refine OL.pass rfl rfl rfl rfl rfl ?_
      refine OL.pass rfl rfl rfl rfl rfl ?_
      refine OL.pass rfl rfl rfl rfl rfl ?_
      refine OL.pass rfl rfl rfl rfl rfl ?_
      refine OL.pure (Pure.pickF rfl rfl) rfl ?_
      refine OL.nil ?_
      refine TE.condF rfl rfl ?_
      refine TE.skip ?_
      refine TE.inBlock ?_
      refine TE.region ?_
      refine OL.pure (Pure.add rfl rfl (i64 (by omega) (by omega))) rfl ?_
      refine OL.pure (Pure.move rfl) rfl ?_
      refine OL.nil ?_
      refine TE.cast (.bool (curTo V a P (i + 1)).isSome) 12 rfl (by rw [hcn]) ?_
      exact TE.sub [6, 7, 8, 9, 11, 12, 37] rfl (ih8 (i + 1, x) _ ⟨by omega, (fun y hy => hx y (by rw [← hcn]; exact hy)), hC, hD, hK, hF, h6, h7, h8, h9, h11⟩ (by omega))
    | some y =>
      refine OL.cast (.bool true) 15 rfl (rfl) ?_
      obtain rfl := hz y hrd
      cases hct : curTo V a P i with
      | none =>
        refine OL.cast (.bool false) 12 rfl (rfl) ?_
        have hcn : curTo V a P (i + 1) = some z := by simp only [curTo, hrd, hct]; rfl
        refine OL.pure (Pure.assign rfl) rfl ?_
        refine OL.nil ?_
        refine TE.seq ?_
        refine TE.seq ?_
        refine TE.region ?_
        refine OL.pure (Pure.move rfl) rfl ?_
        refine OL.pure (Pure.neq rfl rfl) rfl ?_
        refine OL.cast (.bool false) 48 rfl (rfl) ?_
        refine OL.nil ?_
        refine TE.condF rfl rfl ?_
        refine TE.skip ?_
        refine TE.seq ?_
        refine TE.region ?_
        refine OL.pure (Pure.move rfl) rfl ?_
        refine OL.pure (Pure.move rfl) rfl ?_
        refine OL.want rfl rfl rfl (Pure.move rfl _) rfl ?_
        refine OL.want rfl rfl rfl (Pure.not rfl _) rfl ?_
        refine OL.want rfl rfl rfl (Pure.move rfl _) rfl ?_
        refine OL.pass rfl rfl rfl rfl rfl ?_
        refine OL.pass rfl rfl rfl rfl rfl ?_
        refine OL.pass rfl rfl rfl rfl rfl ?_
        refine OL.pass rfl rfl rfl rfl rfl ?_
        refine OL.pass rfl rfl rfl rfl rfl ?_
        refine OL.want rfl rfl rfl (Pure.pickT rfl rfl _) rfl ?_
        refine OL.pure (Pure.pickT rfl rfl) rfl ?_
        refine OL.nil ?_
        refine TE.condT rfl rfl ?_
        refine TE.region ?_
        refine OL.val (Run.loadAll rfl Tryd.underlying70 rfl h14 (rfl)) rfl ?_
        refine OL.storeRow (vs := z.cells) rfl rfl (rfl) (by simp [Hd.cells, Value.oneCell']) h11 (Nat.le_refl 4) ?_
        intro w11 hb11 hc11
        replace hD := hD.chg hc11 (hD.apart h11 (by decide) (by decide))
        replace hK := hK.chg hc11 (by simp; omega)
        replace hF := hF.chg hc11 (by simp; omega)
        replace h6 := h6.chg hc11 (by simpa using h6.ne h11 (by decide))
        replace h7 := h7.chg hc11 (by simpa using h7.ne h11 (by decide))
        replace h8 := h8.chg hc11 (by simpa using h8.ne h11 (by decide))
        replace h9 := h9.chg hc11 (by simpa using h9.ne h11 (by decide))
        replace h14 := h14.chg hc11 (by simp; omega)
        replace hC := hC.trans1 hc11 (by first | exact .inr (by omega) | exact .inl (by simp))
        replace h11 := hb11
        replace h11 := h11.all rfl
        refine OL.pure (Pure.assign rfl) rfl ?_
        refine OL.nil ?_
        refine TE.inBlock ?_
        refine TE.region ?_
        refine OL.pure (Pure.add rfl rfl (i64 (by omega) (by omega))) rfl ?_
        refine OL.pure (Pure.move rfl) rfl ?_
        refine OL.nil ?_
        refine TE.cast (.bool (curTo V a P (i + 1)).isSome) 12 rfl (by rw [hcn]; rfl) ?_
        exact TE.sub [6, 7, 8, 9, 11, 12, 37] rfl (ih8 (i + 1, z) _ ⟨by omega, (fun y hy => by rw [hcn] at hy; cases hy; rfl), hC, hD, hK, hF, h6, h7, h8, h9, h11⟩ (by omega))
      | some y2 =>
        refine OL.cast (.bool true) 12 rfl (rfl) ?_
        obtain rfl := hx y2 hct
        by_cases hgt : x.gen < z.gen
        ·
          have hcn : curTo V a P (i + 1) = some z := by simp only [curTo, hrd, hct, newer]; rw [if_pos hgt]
          refine OL.pure (Pure.assign rfl) rfl ?_
          refine OL.nil ?_
          refine TE.seq ?_
          refine TE.seq ?_
          refine TE.region ?_
          refine OL.pure (Pure.move rfl) rfl ?_
          refine OL.pure (Pure.neq rfl rfl) rfl ?_
          refine OL.cast (.bool false) 48 rfl (rfl) ?_
          refine OL.nil ?_
          refine TE.condF rfl rfl ?_
          refine TE.skip ?_
          refine TE.seq ?_
          refine TE.region ?_
          refine OL.pure (Pure.move rfl) rfl ?_
          refine OL.pure (Pure.move rfl) rfl ?_
          refine OL.want rfl rfl rfl (Pure.move rfl _) rfl ?_
          refine OL.want rfl rfl rfl (Pure.not rfl _) rfl ?_
          refine OL.want rfl rfl rfl (Pure.move rfl _) rfl ?_
          refine OL.want rfl rfl rfl (Pure.fieldAddr (r := 0) Tryd.runUnderlying70 rfl Tryd.sizeOf3 rfl rfl _) rfl ?_
          refine OL.want rfl rfl rfl (Run.load (i := 0) rfl Tryd.isAgg3 h14 (by omega) rfl) rfl ?_
          refine OL.want rfl rfl rfl (Pure.fieldAddr (r := 0) Tryd.runUnderlying70 rfl Tryd.sizeOf3 rfl rfl _) rfl ?_
          refine OL.want rfl rfl rfl (Run.load (i := 0) rfl Tryd.isAgg3 h11 (by omega) rfl) rfl ?_
          refine OL.want rfl rfl rfl (Pure.gtr rfl rfl _) rfl ?_
          refine OL.cast (.bool true) 59 rfl (congrArg Value.bool (decide_eq_true (by omega))) ?_
          refine OL.want rfl rfl rfl (Pure.pickF rfl rfl _) rfl ?_
          refine OL.pure (Pure.pickT rfl rfl) rfl ?_
          refine OL.nil ?_
          refine TE.condT rfl rfl ?_
          refine TE.region ?_
          refine OL.val (Run.loadAll rfl Tryd.underlying70 rfl h14 (rfl)) rfl ?_
          refine OL.storeRow (vs := z.cells) rfl rfl (rfl) (by simp [Hd.cells, Value.oneCell']) h11 (Nat.le_refl 4) ?_
          intro w12 hb12 hc12
          replace hD := hD.chg hc12 (hD.apart h11 (by decide) (by decide))
          replace hK := hK.chg hc12 (by simp; omega)
          replace hF := hF.chg hc12 (by simp; omega)
          replace h6 := h6.chg hc12 (by simpa using h6.ne h11 (by decide))
          replace h7 := h7.chg hc12 (by simpa using h7.ne h11 (by decide))
          replace h8 := h8.chg hc12 (by simpa using h8.ne h11 (by decide))
          replace h9 := h9.chg hc12 (by simpa using h9.ne h11 (by decide))
          replace h14 := h14.chg hc12 (by simp; omega)
          replace hC := hC.trans1 hc12 (by first | exact .inr (by omega) | exact .inl (by simp))
          replace h11 := hb12
          replace h11 := h11.all rfl
          refine OL.pure (Pure.assign rfl) rfl ?_
          refine OL.nil ?_
          refine TE.inBlock ?_
          refine TE.region ?_
          refine OL.pure (Pure.add rfl rfl (i64 (by omega) (by omega))) rfl ?_
          refine OL.pure (Pure.move rfl) rfl ?_
          refine OL.nil ?_
          refine TE.cast (.bool (curTo V a P (i + 1)).isSome) 12 rfl (by rw [hcn]; rfl) ?_
          exact TE.sub [6, 7, 8, 9, 11, 12, 37] rfl (ih8 (i + 1, z) _ ⟨by omega, (fun y hy => by rw [hcn] at hy; cases hy; rfl), hC, hD, hK, hF, h6, h7, h8, h9, h11⟩ (by omega))
        ·
          have hcn : curTo V a P (i + 1) = some x := by simp only [curTo, hrd, hct, newer]; rw [if_neg hgt]
          refine OL.pure (Pure.assign rfl) rfl ?_
          refine OL.nil ?_
          refine TE.seq ?_
          refine TE.seq ?_
          refine TE.region ?_
          refine OL.pure (Pure.move rfl) rfl ?_
          refine OL.pure (Pure.neq rfl rfl) rfl ?_
          refine OL.cast (.bool false) 48 rfl (rfl) ?_
          refine OL.nil ?_
          refine TE.condF rfl rfl ?_
          refine TE.skip ?_
          refine TE.seq ?_
          refine TE.region ?_
          refine OL.pure (Pure.move rfl) rfl ?_
          refine OL.pure (Pure.move rfl) rfl ?_
          refine OL.want rfl rfl rfl (Pure.move rfl _) rfl ?_
          refine OL.want rfl rfl rfl (Pure.not rfl _) rfl ?_
          refine OL.want rfl rfl rfl (Pure.move rfl _) rfl ?_
          refine OL.want rfl rfl rfl (Pure.fieldAddr (r := 0) Tryd.runUnderlying70 rfl Tryd.sizeOf3 rfl rfl _) rfl ?_
          refine OL.want rfl rfl rfl (Run.load (i := 0) rfl Tryd.isAgg3 h14 (by omega) rfl) rfl ?_
          refine OL.want rfl rfl rfl (Pure.fieldAddr (r := 0) Tryd.runUnderlying70 rfl Tryd.sizeOf3 rfl rfl _) rfl ?_
          refine OL.want rfl rfl rfl (Run.load (i := 0) rfl Tryd.isAgg3 h11 (by omega) rfl) rfl ?_
          refine OL.want rfl rfl rfl (Pure.gtr rfl rfl _) rfl ?_
          refine OL.cast (.bool false) 59 rfl (congrArg Value.bool (decide_eq_false (by omega))) ?_
          refine OL.want rfl rfl rfl (Pure.pickF rfl rfl _) rfl ?_
          refine OL.pure (Pure.pickT rfl rfl) rfl ?_
          refine OL.nil ?_
          refine TE.condF rfl rfl ?_
          refine TE.skip ?_
          refine TE.inBlock ?_
          refine TE.region ?_
          refine OL.pure (Pure.add rfl rfl (i64 (by omega) (by omega))) rfl ?_
          refine OL.pure (Pure.move rfl) rfl ?_
          refine OL.nil ?_
          refine TE.cast (.bool (curTo V a P (i + 1)).isSome) 12 rfl (by rw [hcn]; rfl) ?_
          exact TE.sub [6, 7, 8, 9, 11, 12, 37] rfl (ih8 (i + 1, x) _ ⟨by omega, (fun y hy => by rw [hcn] at hy; cases hy; rfl), hC, hD, hK, hF, h6, h7, h8, h9, h11⟩ (by omega))
  ·
    obtain rfl : i = 2 := by omega
    rw [curTo_two] at hx
    refine TE.cast (.bool true) 12 rfl (by rw [curTo_two, hcur]; rfl) ?_
    have hxe := hx h hcur
    rw [hxe] at h11
    have hk := curHead_ok hP hcur
    have hkf := hk.first; have hkp := hk.place; have hkb := hk.base
    refine TE.exit rfl ?_
    refine TE.seq ?_
    refine TE.seq ?_
    refine TE.region ?_
    refine OL.pure (Pure.move rfl) rfl ?_
    refine OL.pure (Pure.not rfl) rfl ?_
    refine OL.nil ?_
    refine TE.condF rfl rfl ?_
    refine TE.skip ?_
    refine TE.seq ?_
    refine TE.seq ?_
    refine TE.region ?_
    refine OL.pure (Pure.fieldAddr (r := 0) Tryd.runUnderlying70 rfl Tryd.sizeOf3 rfl rfl) rfl ?_
    refine OL.val (Run.load (i := 0) rfl Tryd.isAgg3 h11 (by omega) rfl) rfl ?_
    refine OL.pure (Pure.eql rfl rfl) rfl ?_
    refine OL.cast (.bool false) 68 rfl (congrArg Value.bool (decide_eq_false (by omega))) ?_
    refine OL.nil ?_
    refine TE.condF rfl rfl ?_
    refine TE.skip ?_
    refine TE.seq ?_
    refine TE.region ?_
    refine OL.val (Run.loadAll rfl Tryd.underlying66 rfl h9 (rfl)) rfl ?_
    refine OL.val (Run.loadAll rfl Tryd.underlying70 rfl h11 (rfl)) rfl ?_
    refine OL.pure (Pure.fieldAddr (r := 1) Tryd.runUnderlying70 rfl Tryd.sizeOf3 rfl rfl) rfl ?_
    refine OL.val (Run.load (i := 1) rfl Tryd.isAgg3 h11 (by omega) rfl) rfl ?_
    refine OL.pure (Pure.fieldAddr (r := 2) Tryd.runUnderlying70 rfl Tryd.sizeOf3 rfl rfl) rfl ?_
    refine OL.val (Run.load (i := 2) rfl Tryd.isAgg3 h11 (by omega) rfl) rfl ?_
    refine OL.pure (Pure.build (cs := (rcv d a P h (.slice none 0 0) h.first h.place 0)) rfl (by kernel_rfl)) rfl ?_
    refine OL.box rfl rfl ?_
    intro r w13 hr hc13 hg_r
    have lt_1_r : 1 < r := by have := hK.lt; omega
    have lt_0_r : 0 < r := by have := hF.lt; omega
    have lt_g6_r : g6 < r := by have := h6.lt; omega
    have lt_g7_r : g7 < r := by have := h7.lt; omega
    have lt_g8_r : g8 < r := by have := h8.lt; omega
    have lt_g9_r : g9 < r := by have := h9.lt; omega
    have lt_g11_r : g11 < r := by have := h11.lt; omega
    have ge_r : w.heap.size ≤ r := by have := hC.size; omega
    replace hD := hD.chg0 hc13
    replace hK := hK.chg0 hc13
    replace hF := hF.chg0 hc13
    replace h6 := h6.chg0 hc13
    replace h7 := h7.chg0 hc13
    replace h8 := h8.chg0 hc13
    replace h9 := h9.chg0 hc13
    replace h11 := h11.chg0 hc13
    replace hC := hC.then_ hc13
    have hr : Blk w13 r 80 ((rcv d a P h (.slice none 0 0) h.first h.place 0)) := hr
    refine OL.pure (Pure.assign rfl) rfl ?_
    refine OL.nil ?_
    refine TE.seq ?_
    refine TE.region ?_
    refine OL.pure (Pure.assign rfl) rfl ?_
    refine OL.nil ?_
    refine TE.seq ?_
    refine TE.seq ?_
    refine TE.region ?_
    refine OL.pure (Pure.fieldAddr (r := 3) Tryd.runUnderlying70 rfl Tryd.sizeOf3 rfl rfl) rfl ?_
    refine OL.val (Run.load (i := 3) rfl Tryd.isAgg3 h11 (by omega) rfl) rfl ?_
    refine OL.pure (Pure.assign rfl) rfl ?_
    refine OL.nil ?_
    refine TE.block ?_
    replace hr : Blk w13 r 80 (rcv d a P h (.slice none 0 0) (h.first + ([] : List Rg.Ent).length) ((h.place + used []) % P) 0) := by simp only [used, Nat.add_zero, List.length_nil, Nat.mod_eq_of_lt hkp]; exact hr
    have hs0 : RowO w13 85 3 (.slice none 0 0) ([] : List Rg.Ent).length (spotCells P h.place []) := RowO.nil _ _ _
    have hv0 : Row w13 49 2 (.slice none 0 0) ([] : List Rg.Ent).length (entC h.first []) := Row.nil _ _ _
    refine TE.loopInv (σ := List Rg.Ent × Value × Value) [6, 7, 8, 9, 11, 17, 18, 19] (fun s_ w_ => match s_ with | (acc, pv, v) => Scan V a P h acc ∧ Chg ks w w_ ∧ Dk 93 97 w_ d n (V) (c) false ks ∧ Blk w_ 1 tK (iv .u32 K) ∧ Blk w_ 0 tF (iv .i64 fldL) ∧ Blk w_ g6 27 [.pointer none] ∧ Blk w_ g7 38 [.slice none 0 0] ∧ Blk w_ g8 31 [.int .i64 0] ∧ Blk w_ g9 66 (arv d a P) ∧ Blk w_ g11 70 h.cells ∧ Blk w_ r 80 (rcv d a P h pv (h.first + acc.length) ((h.place + used acc) % P) 0) ∧ RowO w_ 85 3 pv acc.length (spotCells P h.place acc) ∧ Mine w.heap.size pv ∧ Row w_ 49 2 v acc.length (entC h.first acc) ∧ Mine w.heap.size v) (fun s_ => [(6, .pointer (some ⟨g6, 0, none⟩)), (7, .pointer (some ⟨g7, 0, none⟩)), (8, .pointer (some ⟨g8, 0, none⟩)), (9, .pointer (some ⟨g9, 0, none⟩)), (11, .pointer (some ⟨g11, 0, none⟩)), (17, .pointer (some ⟨r, 0, none⟩)), (18, s_.2.2), (19, .int .i64 (lastS h.base s_.1 : Int))]) (fun s_ => P - used s_.1) ([], .slice none 0 0, .slice none 0 0) ⟨Scan.start hk, hC, hD, hK, hF, h6, h7, h8, h9, h11, hr, hs0, Mine.nil _, hv0, Mine.nil _⟩ rfl ?_
    rintro ⟨acc, pv, v⟩ w14 ⟨hsc, hC, hD, hK, hF, h6, h7, h8, h9, h11, hr, hs, hm_pv, hv, hm_v⟩ ih14
    try dsimp only
    have hroom := hsc.room; have hlen := hsc.len; have hlast := hsc.last
    obtain ⟨q, hq⟩ : ∃ q, q = (h.place + used acc) % P := ⟨_, rfl⟩
    obtain ⟨fr, hfr⟩ : ∃ x, x = P - used acc := ⟨_, rfl⟩
    have hqP : q < P := by rw [hq]; exact Nat.mod_lt _ hP
    rw [← hq] at hr
    refine TE.block ?_
    refine TE.seq ?_
    have hr6 := h6.lt; have hr7 := h7.lt; have hr8 := h8.lt; have hr9 := h9.lt; have hr11 := h11.lt; have hrr := hr.lt; have hCs := hC.size
    refine TE.meet (σ := Nat) [6, 7, 8, 9, 11, 17, 18, 19, 20, 21, 22, 23] (fun s_ w_ => (w.heap.size ≤ s_ ∧ g6 < s_ ∧ g7 < s_ ∧ g8 < s_ ∧ g9 < s_ ∧ g11 < s_ ∧ r < s_ ∧ 1 < s_ ∧ 0 < s_) ∧ Chg ks w w_ ∧ Dk 93 97 w_ d n (V) (c) false ks ∧ Blk w_ 1 tK (iv .u32 K) ∧ Blk w_ 0 tF (iv .i64 fldL) ∧ Blk w_ g6 27 [.pointer none] ∧ Blk w_ g7 38 [.slice none 0 0] ∧ Blk w_ g8 31 [.int .i64 0] ∧ Blk w_ g9 66 (arv d a P) ∧ Blk w_ g11 70 h.cells ∧ Blk w_ r 80 (rcv d a P h pv (h.first + acc.length) q 0) ∧ RowO w_ 85 3 pv acc.length (spotCells P h.place acc) ∧ Row w_ 49 2 v acc.length (entC h.first acc) ∧ Blk w_ s_ 74 (find V a P q fr).1.cells) (fun s_ => [(6, .pointer (some ⟨g6, 0, none⟩)), (7, .pointer (some ⟨g7, 0, none⟩)), (8, .pointer (some ⟨g8, 0, none⟩)), (9, .pointer (some ⟨g9, 0, none⟩)), (11, .pointer (some ⟨g11, 0, none⟩)), (17, .pointer (some ⟨r, 0, none⟩)), (18, v), (19, .int .i64 (↑(lastS h.base acc))), (20, .pointer (some ⟨s_, 0, none⟩)), (21, .int .i64 ((find V a P q fr).2.1 : Int)), (22, .bool (find V a P q fr).2.2), (23, .int .i64 0)]) (fun hj15 => ?_) (fun s_ w_ h_ => ?_)
    ·
      refine TE.planAll (.cons (0, true) (.cons (1, true) (.cons (2, true) (.cons (3, true) (.cons (4, true) (.cons (5, true) (.br 6 13 (.br 7 13 (.cons (8, true) (.cons (9, true) (.cons (10, true) (.cons (11, true) (.cons (12, true) (.cons (13, false) (.cons (14, false) (.cons (15, true) (.cons (16, true) (.cons (17, true) .nil)))))))))) (.cons (7, false) (.cons (8, true) (.cons (9, true) (.cons (10, true) (.cons (11, true) (.cons (12, true) (.cons (14, false) (.cons (15, true) (.cons (16, true) (.cons (17, true) .nil))))))))))) (.cons (6, false) (.cons (7, false) (.cons (8, true) (.cons (9, true) (.cons (10, true) (.cons (11, true) (.cons (12, true) (.cons (14, false) (.cons (15, true) (.cons (16, true) (.cons (17, true) .nil)))))))))))))))))) (fun w_ => Blk w_ g9 66 (arv d a P) ∧ Blk w_ r 80 (rcv d a P h pv (h.first + acc.length) q 0)) rfl (by kernel_rfl) ?_
      have hS16 : Chg [] w14 w14.drew := Chg.drew _ _
      replace hD := hD.chg0 hS16
      replace hK := hK.chg0 hS16
      replace hF := hF.chg0 hS16
      replace h6 := h6.chg0 hS16
      replace h7 := h7.chg0 hS16
      replace h8 := h8.chg0 hS16
      replace h9 := h9.chg0 hS16
      replace h11 := h11.chg0 hS16
      replace hr := hr.chg0 hS16
      replace hs := hs.chg0 hS16
      replace hv := hv.chg0 hS16
      replace hC := hC.then_ hS16
      refine PL.take rfl (fun w_ h_ => Run.loadAll rfl Tryd.underlying66 rfl h_.1 (rfl)) rfl ⟨h9, hr⟩ ?_
      refine PL.takeP rfl (Pure.move rfl) rfl ⟨h9, hr⟩ ?_
      refine PL.takeP rfl (Pure.nilCheck rfl) rfl ⟨h9, hr⟩ ?_
      refine PL.takeP rfl (Pure.fieldAddr (r := 9) Tryd.runUnderlying80 rfl Tryd.sizeOf3 rfl rfl) rfl ⟨h9, hr⟩ ?_
      refine PL.take rfl (fun w_ h_ => Run.load (i := 9) rfl Tryd.isAgg3 h_.2 (by omega) rfl) rfl ⟨h9, hr⟩ ?_
      refine PL.takeP rfl (Pure.move rfl) rfl ⟨h9, hr⟩ ?_
      refine PL.br ?_ ?_
      ·
        refine PL.call rfl rfl Tryd.call17 rfl (free_any d a P r h pv (h.first + acc.length) q 0 acc (by omega) (by omega) hkp (by omega) _ hr hs) ?_
        rintro _ w17 ⟨rfl, hc17⟩
        replace hD := hD.chg0 hc17
        replace hK := hK.chg0 hc17
        replace hF := hF.chg0 hc17
        replace h6 := h6.chg0 hc17
        replace h7 := h7.chg0 hc17
        replace h8 := h8.chg0 hc17
        replace h9 := h9.chg0 hc17
        replace h11 := h11.chg0 hc17
        replace hr := hr.chg0 hc17
        replace hs := hs.chg0 hc17
        replace hv := hv.chg0 hc17
        replace hC := hC.then_ hc17
        refine ⟨_, rfl, ⟨h9, hr⟩, ?_⟩
        refine PL.cast (.int .i64 (fr : Int)) 86 rfl (congrArg (fun x : Nat => Value.int .i64 (x : Int)) hfr.symm) ?_
        refine PL.br ?_ ?_
        ·
          refine PL.call rfl rfl Tryd.call34 rfl (find_any d n c a P q fr hP haP hn hqP (by omega) (by omega) _ hD hK hF) ?_
          rintro _ w18 ⟨rfl, hc18⟩
          replace hD := hD.chg0 hc18
          replace hK := hK.chg0 hc18
          replace hF := hF.chg0 hc18
          replace h6 := h6.chg0 hc18
          replace h7 := h7.chg0 hc18
          replace h8 := h8.chg0 hc18
          replace h9 := h9.chg0 hc18
          replace h11 := h11.chg0 hc18
          replace hr := hr.chg0 hc18
          replace hs := hs.chg0 hc18
          replace hv := hv.chg0 hc18
          replace hC := hC.then_ hc18
          refine ⟨_, rfl, ⟨h9, hr⟩, ?_⟩
          refine PL.takeP rfl (Pure.move rfl) rfl ⟨h9, hr⟩ ?_
          refine PL.takeP rfl (Pure.extract (vs := [.agg (find V a P q fr).1.cells.toArray, .int .i64 ((find V a P q fr).2.1 : Int), .bool (find V a P q fr).2.2, .int .i64 0]) (i := 0) rfl rfl) rfl ⟨h9, hr⟩ ?_
          refine PL.takeP rfl (Pure.extract (vs := [.agg (find V a P q fr).1.cells.toArray, .int .i64 ((find V a P q fr).2.1 : Int), .bool (find V a P q fr).2.2, .int .i64 0]) (i := 1) rfl rfl) rfl ⟨h9, hr⟩ ?_
          refine PL.takeP rfl (Pure.extract (vs := [.agg (find V a P q fr).1.cells.toArray, .int .i64 ((find V a P q fr).2.1 : Int), .bool (find V a P q fr).2.2, .int .i64 0]) (i := 2) rfl rfl) rfl ⟨h9, hr⟩ ?_
          refine PL.takeP rfl (Pure.extract (vs := [.agg (find V a P q fr).1.cells.toArray, .int .i64 ((find V a P q fr).2.1 : Int), .bool (find V a P q fr).2.2, .int .i64 0]) (i := 3) rfl rfl) rfl ⟨h9, hr⟩ ?_
          refine PL.alloc rfl Tryd.zeroValue74 rfl (fun w_ h_ => ⟨h9.chg0 h_, hr.chg0 h_⟩) ?_
          intro g20 w19 h20 hc19 hg_g20
          have lt_1_g20 : 1 < g20 := by have := hK.lt; omega
          have lt_0_g20 : 0 < g20 := by have := hF.lt; omega
          have lt_g6_g20 : g6 < g20 := by have := h6.lt; omega
          have lt_g7_g20 : g7 < g20 := by have := h7.lt; omega
          have lt_g8_g20 : g8 < g20 := by have := h8.lt; omega
          have lt_g9_g20 : g9 < g20 := by have := h9.lt; omega
          have lt_g11_g20 : g11 < g20 := by have := h11.lt; omega
          have lt_r_g20 : r < g20 := by have := hr.lt; omega
          have ge_g20 : w.heap.size ≤ g20 := by have := hC.size; omega
          replace hD := hD.chg0 hc19
          replace hK := hK.chg0 hc19
          replace hF := hF.chg0 hc19
          replace h6 := h6.chg0 hc19
          replace h7 := h7.chg0 hc19
          replace h8 := h8.chg0 hc19
          replace h9 := h9.chg0 hc19
          replace h11 := h11.chg0 hc19
          replace hr := hr.chg0 hc19
          replace hs := hs.chg0 hc19
          replace hv := hv.chg0 hc19
          replace hC := hC.then_ hc19
          have h20 : Blk w19 g20 74 (Fr.zero.cells) := h20
          refine PL.storeRowS (vs := (find V a P q fr).1.cells) rfl rfl rfl (rfl) (by simp [Fr.cells, Value.oneCell']) h20 (Nat.le_refl 4) (fun w_ h_ c_ => ⟨h9.chg c_ (by simp; omega), hr.chg c_ (by simp; omega)⟩) ?_
          intro w20 hb20 hc20
          replace hD := hD.chg hc20 (hD.apart h20 (by decide) (by decide))
          replace hK := hK.chg hc20 (by simp; omega)
          replace hF := hF.chg hc20 (by simp; omega)
          replace h6 := h6.chg hc20 (by simpa using h6.ne h20 (by decide))
          replace h7 := h7.chg hc20 (by simpa using h7.ne h20 (by decide))
          replace h8 := h8.chg hc20 (by simpa using h8.ne h20 (by decide))
          replace h9 := h9.chg hc20 (by simpa using h9.ne h20 (by decide))
          replace h11 := h11.chg hc20 (by simpa using h11.ne h20 (by decide))
          replace hr := hr.chg hc20 (by simpa using hr.ne h20 (by decide))
          replace hs := hs.chg hc20 (hs.apart h20 (by decide))
          replace hv := hv.chg hc20 (hv.apart h20 (by decide))
          replace hC := hC.trans1 hc20 (by first | exact .inr (by omega) | exact .inl (by simp))
          replace h20 := hb20
          replace h20 := h20.all rfl
          refine PL.takeP rfl (Pure.assign rfl) rfl ⟨h9, hr⟩ ?_
          refine PL.takeP rfl (Pure.assign rfl) rfl ⟨h9, hr⟩ ?_
          refine PL.takeP rfl (Pure.assign rfl) rfl ⟨h9, hr⟩ ?_
          refine PL.nil ?_
          exact hj15 g20 _ ⟨⟨by omega, by omega, by omega, by omega, by omega, by omega, by omega, by omega, by omega⟩, hC, hD, hK, hF, h6, h7, h8, h9, h11, hr, hs, hv, h20⟩ _ rfl
        ·
          refine PL.alloc rfl Tryd.zeroValue74 rfl (fun w_ h_ => ⟨h9.chg0 h_, hr.chg0 h_⟩) ?_
          intro g20 w21 h20 hc21 hg_g20
          have lt_1_g20 : 1 < g20 := by have := hK.lt; omega
          have lt_0_g20 : 0 < g20 := by have := hF.lt; omega
          have lt_g6_g20 : g6 < g20 := by have := h6.lt; omega
          have lt_g7_g20 : g7 < g20 := by have := h7.lt; omega
          have lt_g8_g20 : g8 < g20 := by have := h8.lt; omega
          have lt_g9_g20 : g9 < g20 := by have := h9.lt; omega
          have lt_g11_g20 : g11 < g20 := by have := h11.lt; omega
          have lt_r_g20 : r < g20 := by have := hr.lt; omega
          have ge_g20 : w.heap.size ≤ g20 := by have := hC.size; omega
          replace hD := hD.chg0 hc21
          replace hK := hK.chg0 hc21
          replace hF := hF.chg0 hc21
          replace h6 := h6.chg0 hc21
          replace h7 := h7.chg0 hc21
          replace h8 := h8.chg0 hc21
          replace h9 := h9.chg0 hc21
          replace h11 := h11.chg0 hc21
          replace hr := hr.chg0 hc21
          replace hs := hs.chg0 hc21
          replace hv := hv.chg0 hc21
          replace hC := hC.then_ hc21
          have h20 : Blk w21 g20 74 (Fr.zero.cells) := h20
          refine PL.call rfl rfl Tryd.call34 rfl (find_any d n c a P q fr hP haP hn hqP (by omega) (by omega) _ hD hK hF) ?_
          rintro _ w22 ⟨rfl, hc22⟩
          replace hD := hD.chg0 hc22
          replace hK := hK.chg0 hc22
          replace hF := hF.chg0 hc22
          replace h6 := h6.chg0 hc22
          replace h7 := h7.chg0 hc22
          replace h8 := h8.chg0 hc22
          replace h9 := h9.chg0 hc22
          replace h11 := h11.chg0 hc22
          replace hr := hr.chg0 hc22
          replace hs := hs.chg0 hc22
          replace hv := hv.chg0 hc22
          replace h20 := h20.chg0 hc22
          replace hC := hC.then_ hc22
          refine ⟨_, rfl, ⟨h9, hr⟩, ?_⟩
          refine PL.takeP rfl (Pure.move rfl) rfl ⟨h9, hr⟩ ?_
          refine PL.takeP rfl (Pure.extract (vs := [.agg (find V a P q fr).1.cells.toArray, .int .i64 ((find V a P q fr).2.1 : Int), .bool (find V a P q fr).2.2, .int .i64 0]) (i := 0) rfl rfl) rfl ⟨h9, hr⟩ ?_
          refine PL.takeP rfl (Pure.extract (vs := [.agg (find V a P q fr).1.cells.toArray, .int .i64 ((find V a P q fr).2.1 : Int), .bool (find V a P q fr).2.2, .int .i64 0]) (i := 1) rfl rfl) rfl ⟨h9, hr⟩ ?_
          refine PL.takeP rfl (Pure.extract (vs := [.agg (find V a P q fr).1.cells.toArray, .int .i64 ((find V a P q fr).2.1 : Int), .bool (find V a P q fr).2.2, .int .i64 0]) (i := 2) rfl rfl) rfl ⟨h9, hr⟩ ?_
          refine PL.takeP rfl (Pure.extract (vs := [.agg (find V a P q fr).1.cells.toArray, .int .i64 ((find V a P q fr).2.1 : Int), .bool (find V a P q fr).2.2, .int .i64 0]) (i := 3) rfl rfl) rfl ⟨h9, hr⟩ ?_
          refine PL.storeRowS (vs := (find V a P q fr).1.cells) rfl rfl rfl (rfl) (by simp [Fr.cells, Value.oneCell']) h20 (Nat.le_refl 4) (fun w_ h_ c_ => ⟨h9.chg c_ (by simp; omega), hr.chg c_ (by simp; omega)⟩) ?_
          intro w23 hb23 hc23
          replace hD := hD.chg hc23 (hD.apart h20 (by decide) (by decide))
          replace hK := hK.chg hc23 (by simp; omega)
          replace hF := hF.chg hc23 (by simp; omega)
          replace h6 := h6.chg hc23 (by simpa using h6.ne h20 (by decide))
          replace h7 := h7.chg hc23 (by simpa using h7.ne h20 (by decide))
          replace h8 := h8.chg hc23 (by simpa using h8.ne h20 (by decide))
          replace h9 := h9.chg hc23 (by simpa using h9.ne h20 (by decide))
          replace h11 := h11.chg hc23 (by simpa using h11.ne h20 (by decide))
          replace hr := hr.chg hc23 (by simpa using hr.ne h20 (by decide))
          replace hs := hs.chg hc23 (hs.apart h20 (by decide))
          replace hv := hv.chg hc23 (hv.apart h20 (by decide))
          replace hC := hC.trans1 hc23 (by first | exact .inr (by omega) | exact .inl (by simp))
          replace h20 := hb23
          replace h20 := h20.all rfl
          refine PL.takeP rfl (Pure.assign rfl) rfl ⟨h9, hr⟩ ?_
          refine PL.takeP rfl (Pure.assign rfl) rfl ⟨h9, hr⟩ ?_
          refine PL.takeP rfl (Pure.assign rfl) rfl ⟨h9, hr⟩ ?_
          refine PL.nil ?_
          exact hj15 g20 _ ⟨⟨by omega, by omega, by omega, by omega, by omega, by omega, by omega, by omega, by omega⟩, hC, hD, hK, hF, h6, h7, h8, h9, h11, hr, hs, hv, h20⟩ _ rfl
      ·
        refine PL.alloc rfl Tryd.zeroValue74 rfl (fun w_ h_ => ⟨h9.chg0 h_, hr.chg0 h_⟩) ?_
        intro g20 w24 h20 hc24 hg_g20
        have lt_1_g20 : 1 < g20 := by have := hK.lt; omega
        have lt_0_g20 : 0 < g20 := by have := hF.lt; omega
        have lt_g6_g20 : g6 < g20 := by have := h6.lt; omega
        have lt_g7_g20 : g7 < g20 := by have := h7.lt; omega
        have lt_g8_g20 : g8 < g20 := by have := h8.lt; omega
        have lt_g9_g20 : g9 < g20 := by have := h9.lt; omega
        have lt_g11_g20 : g11 < g20 := by have := h11.lt; omega
        have lt_r_g20 : r < g20 := by have := hr.lt; omega
        have ge_g20 : w.heap.size ≤ g20 := by have := hC.size; omega
        replace hD := hD.chg0 hc24
        replace hK := hK.chg0 hc24
        replace hF := hF.chg0 hc24
        replace h6 := h6.chg0 hc24
        replace h7 := h7.chg0 hc24
        replace h8 := h8.chg0 hc24
        replace h9 := h9.chg0 hc24
        replace h11 := h11.chg0 hc24
        replace hr := hr.chg0 hc24
        replace hs := hs.chg0 hc24
        replace hv := hv.chg0 hc24
        replace hC := hC.then_ hc24
        have h20 : Blk w24 g20 74 (Fr.zero.cells) := h20
        refine PL.call rfl rfl Tryd.call17 rfl (free_any d a P r h pv (h.first + acc.length) q 0 acc (by omega) (by omega) hkp (by omega) _ hr hs) ?_
        rintro _ w25 ⟨rfl, hc25⟩
        replace hD := hD.chg0 hc25
        replace hK := hK.chg0 hc25
        replace hF := hF.chg0 hc25
        replace h6 := h6.chg0 hc25
        replace h7 := h7.chg0 hc25
        replace h8 := h8.chg0 hc25
        replace h9 := h9.chg0 hc25
        replace h11 := h11.chg0 hc25
        replace hr := hr.chg0 hc25
        replace hs := hs.chg0 hc25
        replace hv := hv.chg0 hc25
        replace h20 := h20.chg0 hc25
        replace hC := hC.then_ hc25
        refine ⟨_, rfl, ⟨h9, hr⟩, ?_⟩
        refine PL.cast (.int .i64 (fr : Int)) 86 rfl (congrArg (fun x : Nat => Value.int .i64 (x : Int)) hfr.symm) ?_
        refine PL.call rfl rfl Tryd.call34 rfl (find_any d n c a P q fr hP haP hn hqP (by omega) (by omega) _ hD hK hF) ?_
        rintro _ w26 ⟨rfl, hc26⟩
        replace hD := hD.chg0 hc26
        replace hK := hK.chg0 hc26
        replace hF := hF.chg0 hc26
        replace h6 := h6.chg0 hc26
        replace h7 := h7.chg0 hc26
        replace h8 := h8.chg0 hc26
        replace h9 := h9.chg0 hc26
        replace h11 := h11.chg0 hc26
        replace hr := hr.chg0 hc26
        replace hs := hs.chg0 hc26
        replace hv := hv.chg0 hc26
        replace h20 := h20.chg0 hc26
        replace hC := hC.then_ hc26
        refine ⟨_, rfl, ⟨h9, hr⟩, ?_⟩
        refine PL.takeP rfl (Pure.move rfl) rfl ⟨h9, hr⟩ ?_
        refine PL.takeP rfl (Pure.extract (vs := [.agg (find V a P q fr).1.cells.toArray, .int .i64 ((find V a P q fr).2.1 : Int), .bool (find V a P q fr).2.2, .int .i64 0]) (i := 0) rfl rfl) rfl ⟨h9, hr⟩ ?_
        refine PL.takeP rfl (Pure.extract (vs := [.agg (find V a P q fr).1.cells.toArray, .int .i64 ((find V a P q fr).2.1 : Int), .bool (find V a P q fr).2.2, .int .i64 0]) (i := 1) rfl rfl) rfl ⟨h9, hr⟩ ?_
        refine PL.takeP rfl (Pure.extract (vs := [.agg (find V a P q fr).1.cells.toArray, .int .i64 ((find V a P q fr).2.1 : Int), .bool (find V a P q fr).2.2, .int .i64 0]) (i := 2) rfl rfl) rfl ⟨h9, hr⟩ ?_
        refine PL.takeP rfl (Pure.extract (vs := [.agg (find V a P q fr).1.cells.toArray, .int .i64 ((find V a P q fr).2.1 : Int), .bool (find V a P q fr).2.2, .int .i64 0]) (i := 3) rfl rfl) rfl ⟨h9, hr⟩ ?_
        refine PL.storeRowS (vs := (find V a P q fr).1.cells) rfl rfl rfl (rfl) (by simp [Fr.cells, Value.oneCell']) h20 (Nat.le_refl 4) (fun w_ h_ c_ => ⟨h9.chg c_ (by simp; omega), hr.chg c_ (by simp; omega)⟩) ?_
        intro w27 hb27 hc27
        replace hD := hD.chg hc27 (hD.apart h20 (by decide) (by decide))
        replace hK := hK.chg hc27 (by simp; omega)
        replace hF := hF.chg hc27 (by simp; omega)
        replace h6 := h6.chg hc27 (by simpa using h6.ne h20 (by decide))
        replace h7 := h7.chg hc27 (by simpa using h7.ne h20 (by decide))
        replace h8 := h8.chg hc27 (by simpa using h8.ne h20 (by decide))
        replace h9 := h9.chg hc27 (by simpa using h9.ne h20 (by decide))
        replace h11 := h11.chg hc27 (by simpa using h11.ne h20 (by decide))
        replace hr := hr.chg hc27 (by simpa using hr.ne h20 (by decide))
        replace hs := hs.chg hc27 (hs.apart h20 (by decide))
        replace hv := hv.chg hc27 (hv.apart h20 (by decide))
        replace hC := hC.trans1 hc27 (by first | exact .inr (by omega) | exact .inl (by simp))
        replace h20 := hb27
        replace h20 := h20.all rfl
        refine PL.takeP rfl (Pure.assign rfl) rfl ⟨h9, hr⟩ ?_
        refine PL.takeP rfl (Pure.assign rfl) rfl ⟨h9, hr⟩ ?_
        refine PL.takeP rfl (Pure.assign rfl) rfl ⟨h9, hr⟩ ?_
        refine PL.nil ?_
        exact hj15 g20 _ ⟨⟨by omega, by omega, by omega, by omega, by omega, by omega, by omega, by omega, by omega⟩, hC, hD, hK, hF, h6, h7, h8, h9, h11, hr, hs, hv, h20⟩ _ rfl
    ·
      revert s_ w_ h_
      rintro g20 w15 ⟨hg20, hC, hD, hK, hF, h6, h7, h8, h9, h11, hr, hs, hv, h20⟩
      refine TE.seq ?_
      refine TE.seq ?_
      refine TE.region ?_
      refine OL.pure (Pure.move rfl) rfl ?_
      refine OL.pure (Pure.neq rfl rfl) rfl ?_
      refine OL.cast (.bool false) 93 rfl (rfl) ?_
      refine OL.nil ?_
      refine TE.condF rfl rfl ?_
      refine TE.skip ?_
      refine TE.seq ?_
      refine TE.seq ?_
      refine TE.meet (σ := Unit) [6, 7, 8, 9, 11, 17, 18, 19, 20, 21, 124] (fun s_ w_ => Chg ks w w_ ∧ Dk 93 97 w_ d n (V) (c) false ks ∧ Blk w_ 1 tK (iv .u32 K) ∧ Blk w_ 0 tF (iv .i64 fldL) ∧ Blk w_ g6 27 [.pointer none] ∧ Blk w_ g7 38 [.slice none 0 0] ∧ Blk w_ g8 31 [.int .i64 0] ∧ Blk w_ g9 66 (arv d a P) ∧ Blk w_ g11 70 h.cells ∧ Blk w_ r 80 (rcv d a P h pv (h.first + acc.length) q 0) ∧ RowO w_ 85 3 pv acc.length (spotCells P h.place acc) ∧ Row w_ 49 2 v acc.length (entC h.first acc) ∧ Blk w_ g20 74 (find V a P q fr).1.cells) (fun s_ => [(6, .pointer (some ⟨g6, 0, none⟩)), (7, .pointer (some ⟨g7, 0, none⟩)), (8, .pointer (some ⟨g8, 0, none⟩)), (9, .pointer (some ⟨g9, 0, none⟩)), (11, .pointer (some ⟨g11, 0, none⟩)), (17, .pointer (some ⟨r, 0, none⟩)), (18, v), (19, .int .i64 (↑(lastS h.base acc))), (20, .pointer (some ⟨g20, 0, none⟩)), (21, .int .i64 (↑((find V a P q fr).2.1))), (124, .bool (decide (stops V a P h.gen q fr (h.first + acc.length) (lastS h.base acc))))]) (fun hj28 => ?_) (fun s_ w_ h_ => ?_)
      ·
        cases hf : (find V a P q fr).2.2 with
        | false =>
          refine TE.cast (.bool false) 22 rfl (rfl) ?_
          refine TE.planAll (.cons (0, true) (.cons (1, true) (.cons (2, true) (.cons (3, true) (.cons (4, true) (.cons (5, false) (.cons (6, true) (.cons (7, true) (.cons (8, true) (.cons (9, true) (.cons (10, true) (.cons (11, true) (.cons (12, true) (.cons (13, true) (.cons (14, true) (.cons (15, true) (.cons (16, true) (.cons (17, true) (.cons (18, true) (.cons (19, true) (.cons (20, true) (.cons (21, true) (.cons (22, true) (.cons (23, true) (.cons (24, true) (.cons (25, true) (.cons (26, true) (.cons (27, true) (.cons (28, true) (.cons (29, true) .nil)))))))))))))))))))))))))))))) (fun w_ => Chg [] w15 w_) rfl (by kernel_rfl) ?_
          have hS29 : Chg [] w15 w15.drew := Chg.drew _ _
          refine PL.takeP rfl (Pure.move rfl) rfl hS29 ?_
          refine PL.takeP rfl (Pure.not rfl) rfl hS29 ?_
          refine PL.takeP rfl (Pure.move rfl) rfl hS29 ?_
          refine PL.takeNo rfl rfl rfl rfl rfl rfl hS29 ?_
          refine PL.takeNo rfl rfl rfl rfl rfl rfl hS29 ?_
          refine PL.valNo rfl rfl rfl rfl rfl rfl hS29 ?_
          refine PL.takeNo rfl rfl rfl rfl rfl rfl hS29 ?_
          refine PL.takeP rfl (Pure.pickT rfl rfl) rfl hS29 ?_
          refine PL.takeP rfl (Pure.move rfl) rfl hS29 ?_
          refine PL.takeNo rfl rfl rfl rfl rfl rfl hS29 ?_
          refine PL.takeNo rfl rfl rfl rfl rfl rfl hS29 ?_
          refine PL.takeNo rfl rfl rfl rfl rfl rfl hS29 ?_
          refine PL.takeNo rfl rfl rfl rfl rfl rfl hS29 ?_
          refine PL.takeNo rfl rfl rfl rfl rfl rfl hS29 ?_
          refine PL.takeNo rfl rfl rfl rfl rfl rfl hS29 ?_
          refine PL.takeNo rfl rfl rfl rfl rfl rfl hS29 ?_
          refine PL.takeP rfl (Pure.pickT rfl rfl) rfl hS29 ?_
          refine PL.takeP rfl (Pure.move rfl) rfl hS29 ?_
          refine PL.takeNo rfl rfl rfl rfl rfl rfl hS29 ?_
          refine PL.takeNo rfl rfl rfl rfl rfl rfl hS29 ?_
          refine PL.takeNo rfl rfl rfl rfl rfl rfl hS29 ?_
          refine PL.takeNo rfl rfl rfl rfl rfl rfl hS29 ?_
          refine PL.takeP rfl (Pure.pickT rfl rfl) rfl hS29 ?_
          refine PL.takeP rfl (Pure.move rfl) rfl hS29 ?_
          refine PL.takeNo rfl rfl rfl rfl rfl rfl hS29 ?_
          refine PL.takeNo rfl rfl rfl rfl rfl rfl hS29 ?_
          refine PL.takeNo rfl rfl rfl rfl rfl rfl hS29 ?_
          refine PL.takeNo rfl rfl rfl rfl rfl rfl hS29 ?_
          refine PL.takeNo rfl rfl rfl rfl rfl rfl hS29 ?_
          refine PL.takeP rfl (Pure.pickT rfl rfl) rfl hS29 ?_
          refine PL.nil ?_
          replace hD := hD.chg0 hS29
          replace hK := hK.chg0 hS29
          replace hF := hF.chg0 hS29
          replace h6 := h6.chg0 hS29
          replace h7 := h7.chg0 hS29
          replace h8 := h8.chg0 hS29
          replace h9 := h9.chg0 hS29
          replace h11 := h11.chg0 hS29
          replace hr := hr.chg0 hS29
          replace hs := hs.chg0 hS29
          replace hv := hv.chg0 hS29
          replace h20 := h20.chg0 hS29
          replace hC := hC.then_ hS29
          refine TE.cast (.bool (decide (stops V a P h.gen q fr (h.first + acc.length) (lastS h.base acc)))) 124 rfl (congrArg Value.bool (decide_eq_true (.inl hf)).symm) ?_
          exact hj28 () _ ⟨hC, hD, hK, hF, h6, h7, h8, h9, h11, hr, hs, hv, h20⟩ _ rfl
        | true =>
          refine TE.cast (.bool true) 22 rfl (rfl) ?_
          by_cases hb0 : fr < (find V a P q fr).2.1
          ·
            refine TE.planAll (.cons (0, true) (.cons (1, true) (.cons (2, true) (.cons (3, true) (.cons (4, true) (.cons (5, false) (.cons (6, true) (.cons (7, true) (.cons (8, true) (.cons (9, true) (.cons (10, true) (.cons (11, true) (.cons (12, true) (.cons (13, true) (.cons (14, true) (.cons (15, true) (.cons (16, true) (.cons (17, true) (.cons (18, true) (.cons (19, true) (.cons (20, true) (.cons (21, true) (.cons (22, true) (.cons (23, true) (.cons (24, true) (.cons (25, true) (.cons (26, true) (.cons (27, true) (.cons (28, true) (.cons (29, true) .nil)))))))))))))))))))))))))))))) (fun w_ => Chg [] w15 w_) rfl (by kernel_rfl) ?_
            have hS30 : Chg [] w15 w15.drew := Chg.drew _ _
            refine PL.takeP rfl (Pure.move rfl) rfl hS30 ?_
            refine PL.takeP rfl (Pure.not rfl) rfl hS30 ?_
            refine PL.takeP rfl (Pure.move rfl) rfl hS30 ?_
            refine PL.takeG _ (fun _ h_ => h_) rfl rfl rfl rfl (fun w_ h_ => Pure.move rfl _) rfl hS30 ?_
            refine PL.takeG _ (fun _ h_ => h_) rfl rfl rfl rfl (fun w_ h_ => Pure.move rfl _) rfl hS30 ?_
            refine PL.callG rfl rfl rfl rfl rfl Tryd.call17 rfl (free_any d a P r h pv (h.first + acc.length) q 0 acc (by omega) (by omega) hkp (by omega) _ hr hs) ?_
            rintro _ w31 ⟨rfl, hc31⟩
            have hS32 := hS30.then_ hc31
            refine ⟨_, rfl, hS32, ?_⟩
            refine PL.cast (.int .i64 (fr : Int)) 100 rfl (congrArg (fun x : Nat => Value.int .i64 (x : Int)) hfr.symm) ?_
            refine PL.takeG _ (fun _ h_ => h_) rfl rfl rfl rfl (fun w_ h_ => Pure.gtr rfl rfl _) rfl hS32 ?_
            refine PL.cast (.bool true) 101 rfl (congrArg Value.bool (decide_eq_true (by omega))) ?_
            refine PL.takeP rfl (Pure.pickF rfl rfl) rfl hS32 ?_
            refine PL.takeP rfl (Pure.move rfl) rfl hS32 ?_
            refine PL.takeNo rfl rfl rfl rfl rfl rfl hS32 ?_
            refine PL.takeNo rfl rfl rfl rfl rfl rfl hS32 ?_
            refine PL.takeNo rfl rfl rfl rfl rfl rfl hS32 ?_
            refine PL.takeNo rfl rfl rfl rfl rfl rfl hS32 ?_
            refine PL.takeNo rfl rfl rfl rfl rfl rfl hS32 ?_
            refine PL.takeNo rfl rfl rfl rfl rfl rfl hS32 ?_
            refine PL.takeNo rfl rfl rfl rfl rfl rfl hS32 ?_
            refine PL.takeP rfl (Pure.pickT rfl rfl) rfl hS32 ?_
            refine PL.takeP rfl (Pure.move rfl) rfl hS32 ?_
            refine PL.takeNo rfl rfl rfl rfl rfl rfl hS32 ?_
            refine PL.takeNo rfl rfl rfl rfl rfl rfl hS32 ?_
            refine PL.takeNo rfl rfl rfl rfl rfl rfl hS32 ?_
            refine PL.takeNo rfl rfl rfl rfl rfl rfl hS32 ?_
            refine PL.takeP rfl (Pure.pickT rfl rfl) rfl hS32 ?_
            refine PL.takeP rfl (Pure.move rfl) rfl hS32 ?_
            refine PL.takeNo rfl rfl rfl rfl rfl rfl hS32 ?_
            refine PL.takeNo rfl rfl rfl rfl rfl rfl hS32 ?_
            refine PL.takeNo rfl rfl rfl rfl rfl rfl hS32 ?_
            refine PL.takeNo rfl rfl rfl rfl rfl rfl hS32 ?_
            refine PL.takeNo rfl rfl rfl rfl rfl rfl hS32 ?_
            refine PL.takeP rfl (Pure.pickT rfl rfl) rfl hS32 ?_
            refine PL.nil ?_
            replace hD := hD.chg0 hS32
            replace hK := hK.chg0 hS32
            replace hF := hF.chg0 hS32
            replace h6 := h6.chg0 hS32
            replace h7 := h7.chg0 hS32
            replace h8 := h8.chg0 hS32
            replace h9 := h9.chg0 hS32
            replace h11 := h11.chg0 hS32
            replace hr := hr.chg0 hS32
            replace hs := hs.chg0 hS32
            replace hv := hv.chg0 hS32
            replace h20 := h20.chg0 hS32
            replace hC := hC.then_ hS32
            refine TE.cast (.bool (decide (stops V a P h.gen q fr (h.first + acc.length) (lastS h.base acc)))) 124 rfl (congrArg Value.bool (decide_eq_true (.inr (.inl hb0))).symm) ?_
            exact hj28 () _ ⟨hC, hD, hK, hF, h6, h7, h8, h9, h11, hr, hs, hv, h20⟩ _ rfl
          ·
            by_cases hb1 : (find V a P q fr).1.number ≠ ((h.first + acc.length : Nat) : Int)
            ·
              refine TE.planAll (.cons (0, true) (.cons (1, true) (.cons (2, true) (.cons (3, true) (.cons (4, true) (.cons (5, false) (.cons (6, true) (.cons (7, true) (.cons (8, true) (.cons (9, true) (.cons (10, true) (.cons (11, true) (.cons (12, true) (.cons (13, true) (.cons (14, true) (.cons (15, true) (.cons (16, true) (.cons (17, true) (.cons (18, true) (.cons (19, true) (.cons (20, true) (.cons (21, true) (.cons (22, true) (.cons (23, true) (.cons (24, true) (.cons (25, true) (.cons (26, true) (.cons (27, true) (.cons (28, true) (.cons (29, true) .nil)))))))))))))))))))))))))))))) (fun w_ => Chg [] w15 w_) rfl (by kernel_rfl) ?_
              have hS33 : Chg [] w15 w15.drew := Chg.drew _ _
              refine PL.takeP rfl (Pure.move rfl) rfl hS33 ?_
              refine PL.takeP rfl (Pure.not rfl) rfl hS33 ?_
              refine PL.takeP rfl (Pure.move rfl) rfl hS33 ?_
              refine PL.takeG _ (fun _ h_ => h_) rfl rfl rfl rfl (fun w_ h_ => Pure.move rfl _) rfl hS33 ?_
              refine PL.takeG _ (fun _ h_ => h_) rfl rfl rfl rfl (fun w_ h_ => Pure.move rfl _) rfl hS33 ?_
              refine PL.callG rfl rfl rfl rfl rfl Tryd.call17 rfl (free_any d a P r h pv (h.first + acc.length) q 0 acc (by omega) (by omega) hkp (by omega) _ hr hs) ?_
              rintro _ w34 ⟨rfl, hc34⟩
              have hS35 := hS33.then_ hc34
              refine ⟨_, rfl, hS35, ?_⟩
              refine PL.cast (.int .i64 (fr : Int)) 100 rfl (congrArg (fun x : Nat => Value.int .i64 (x : Int)) hfr.symm) ?_
              refine PL.takeG _ (fun _ h_ => h_) rfl rfl rfl rfl (fun w_ h_ => Pure.gtr rfl rfl _) rfl hS35 ?_
              refine PL.cast (.bool false) 101 rfl (congrArg Value.bool (decide_eq_false (by omega))) ?_
              refine PL.takeP rfl (Pure.pickF rfl rfl) rfl hS35 ?_
              refine PL.takeP rfl (Pure.move rfl) rfl hS35 ?_
              refine PL.takeG _ (fun _ h_ => h_) rfl rfl rfl rfl (fun w_ h_ => Pure.fieldAddr (r := 2) Tryd.runUnderlying74 rfl Tryd.sizeOf3 rfl rfl _) rfl hS35 ?_
              refine PL.takeG _ (fun _ h_ => h_) rfl rfl rfl rfl (fun w_ h_ => Run.load (i := 2) rfl Tryd.isAgg3 (h20.chg0 h_) (by omega) rfl) rfl hS35 ?_
              refine PL.takeG _ (fun _ h_ => h_) rfl rfl rfl rfl (fun w_ h_ => Pure.move rfl _) rfl hS35 ?_
              refine PL.takeG _ (fun _ h_ => h_) rfl rfl rfl rfl (fun w_ h_ => Pure.nilCheck rfl _) rfl hS35 ?_
              refine PL.takeG _ (fun _ h_ => h_) rfl rfl rfl rfl (fun w_ h_ => Pure.fieldAddr (r := 8) Tryd.runUnderlying80 rfl Tryd.sizeOf3 rfl rfl _) rfl hS35 ?_
              refine PL.takeG _ (fun _ h_ => h_) rfl rfl rfl rfl (fun w_ h_ => Run.load (i := 8) rfl Tryd.isAgg3 (hr.chg0 h_) (by omega) rfl) rfl hS35 ?_
              refine PL.takeG _ (fun _ h_ => h_) rfl rfl rfl rfl (fun w_ h_ => Pure.neq rfl rfl _) rfl hS35 ?_
              refine PL.cast (.bool true) 110 rfl (congrArg Value.bool (decide_eq_true (by omega))) ?_
              refine PL.takeP rfl (Pure.pickF rfl rfl) rfl hS35 ?_
              refine PL.takeP rfl (Pure.move rfl) rfl hS35 ?_
              refine PL.takeNo rfl rfl rfl rfl rfl rfl hS35 ?_
              refine PL.takeNo rfl rfl rfl rfl rfl rfl hS35 ?_
              refine PL.takeNo rfl rfl rfl rfl rfl rfl hS35 ?_
              refine PL.takeNo rfl rfl rfl rfl rfl rfl hS35 ?_
              refine PL.takeP rfl (Pure.pickT rfl rfl) rfl hS35 ?_
              refine PL.takeP rfl (Pure.move rfl) rfl hS35 ?_
              refine PL.takeNo rfl rfl rfl rfl rfl rfl hS35 ?_
              refine PL.takeNo rfl rfl rfl rfl rfl rfl hS35 ?_
              refine PL.takeNo rfl rfl rfl rfl rfl rfl hS35 ?_
              refine PL.takeNo rfl rfl rfl rfl rfl rfl hS35 ?_
              refine PL.takeNo rfl rfl rfl rfl rfl rfl hS35 ?_
              refine PL.takeP rfl (Pure.pickT rfl rfl) rfl hS35 ?_
              refine PL.nil ?_
              replace hD := hD.chg0 hS35
              replace hK := hK.chg0 hS35
              replace hF := hF.chg0 hS35
              replace h6 := h6.chg0 hS35
              replace h7 := h7.chg0 hS35
              replace h8 := h8.chg0 hS35
              replace h9 := h9.chg0 hS35
              replace h11 := h11.chg0 hS35
              replace hr := hr.chg0 hS35
              replace hs := hs.chg0 hS35
              replace hv := hv.chg0 hS35
              replace h20 := h20.chg0 hS35
              replace hC := hC.then_ hS35
              refine TE.cast (.bool (decide (stops V a P h.gen q fr (h.first + acc.length) (lastS h.base acc)))) 124 rfl (congrArg Value.bool (decide_eq_true (.inr (.inr (.inl hb1)))).symm) ?_
              exact hj28 () _ ⟨hC, hD, hK, hF, h6, h7, h8, h9, h11, hr, hs, hv, h20⟩ _ rfl
            ·
              by_cases hb2 : (find V a P q fr).1.stream < ((lastS h.base acc : Nat) : Int)
              ·
                refine TE.planAll (.cons (0, true) (.cons (1, true) (.cons (2, true) (.cons (3, true) (.cons (4, true) (.cons (5, false) (.cons (6, true) (.cons (7, true) (.cons (8, true) (.cons (9, true) (.cons (10, true) (.cons (11, true) (.cons (12, true) (.cons (13, true) (.cons (14, true) (.cons (15, true) (.cons (16, true) (.cons (17, true) (.cons (18, true) (.cons (19, true) (.cons (20, true) (.cons (21, true) (.cons (22, true) (.cons (23, true) (.cons (24, true) (.cons (25, true) (.cons (26, true) (.cons (27, true) (.cons (28, true) (.cons (29, true) .nil)))))))))))))))))))))))))))))) (fun w_ => Chg [] w15 w_) rfl (by kernel_rfl) ?_
                have hS36 : Chg [] w15 w15.drew := Chg.drew _ _
                refine PL.takeP rfl (Pure.move rfl) rfl hS36 ?_
                refine PL.takeP rfl (Pure.not rfl) rfl hS36 ?_
                refine PL.takeP rfl (Pure.move rfl) rfl hS36 ?_
                refine PL.takeG _ (fun _ h_ => h_) rfl rfl rfl rfl (fun w_ h_ => Pure.move rfl _) rfl hS36 ?_
                refine PL.takeG _ (fun _ h_ => h_) rfl rfl rfl rfl (fun w_ h_ => Pure.move rfl _) rfl hS36 ?_
                refine PL.callG rfl rfl rfl rfl rfl Tryd.call17 rfl (free_any d a P r h pv (h.first + acc.length) q 0 acc (by omega) (by omega) hkp (by omega) _ hr hs) ?_
                rintro _ w37 ⟨rfl, hc37⟩
                have hS38 := hS36.then_ hc37
                refine ⟨_, rfl, hS38, ?_⟩
                refine PL.cast (.int .i64 (fr : Int)) 100 rfl (congrArg (fun x : Nat => Value.int .i64 (x : Int)) hfr.symm) ?_
                refine PL.takeG _ (fun _ h_ => h_) rfl rfl rfl rfl (fun w_ h_ => Pure.gtr rfl rfl _) rfl hS38 ?_
                refine PL.cast (.bool false) 101 rfl (congrArg Value.bool (decide_eq_false (by omega))) ?_
                refine PL.takeP rfl (Pure.pickF rfl rfl) rfl hS38 ?_
                refine PL.takeP rfl (Pure.move rfl) rfl hS38 ?_
                refine PL.takeG _ (fun _ h_ => h_) rfl rfl rfl rfl (fun w_ h_ => Pure.fieldAddr (r := 2) Tryd.runUnderlying74 rfl Tryd.sizeOf3 rfl rfl _) rfl hS38 ?_
                refine PL.takeG _ (fun _ h_ => h_) rfl rfl rfl rfl (fun w_ h_ => Run.load (i := 2) rfl Tryd.isAgg3 (h20.chg0 h_) (by omega) rfl) rfl hS38 ?_
                refine PL.takeG _ (fun _ h_ => h_) rfl rfl rfl rfl (fun w_ h_ => Pure.move rfl _) rfl hS38 ?_
                refine PL.takeG _ (fun _ h_ => h_) rfl rfl rfl rfl (fun w_ h_ => Pure.nilCheck rfl _) rfl hS38 ?_
                refine PL.takeG _ (fun _ h_ => h_) rfl rfl rfl rfl (fun w_ h_ => Pure.fieldAddr (r := 8) Tryd.runUnderlying80 rfl Tryd.sizeOf3 rfl rfl _) rfl hS38 ?_
                refine PL.takeG _ (fun _ h_ => h_) rfl rfl rfl rfl (fun w_ h_ => Run.load (i := 8) rfl Tryd.isAgg3 (hr.chg0 h_) (by omega) rfl) rfl hS38 ?_
                refine PL.takeG _ (fun _ h_ => h_) rfl rfl rfl rfl (fun w_ h_ => Pure.neq rfl rfl _) rfl hS38 ?_
                refine PL.cast (.bool false) 110 rfl (congrArg Value.bool (decide_eq_false (by omega))) ?_
                refine PL.takeP rfl (Pure.pickF rfl rfl) rfl hS38 ?_
                refine PL.takeP rfl (Pure.move rfl) rfl hS38 ?_
                refine PL.takeG _ (fun _ h_ => h_) rfl rfl rfl rfl (fun w_ h_ => Pure.fieldAddr (r := 1) Tryd.runUnderlying74 rfl Tryd.sizeOf3 rfl rfl _) rfl hS38 ?_
                refine PL.takeG _ (fun _ h_ => h_) rfl rfl rfl rfl (fun w_ h_ => Run.load (i := 1) rfl Tryd.isAgg3 (h20.chg0 h_) (by omega) rfl) rfl hS38 ?_
                refine PL.takeG _ (fun _ h_ => h_) rfl rfl rfl rfl (fun w_ h_ => Pure.move rfl _) rfl hS38 ?_
                refine PL.takeG _ (fun _ h_ => h_) rfl rfl rfl rfl (fun w_ h_ => Pure.lss rfl rfl _) rfl hS38 ?_
                refine PL.cast (.bool true) 116 rfl (congrArg Value.bool (decide_eq_true (by omega))) ?_
                refine PL.takeP rfl (Pure.pickF rfl rfl) rfl hS38 ?_
                refine PL.takeP rfl (Pure.move rfl) rfl hS38 ?_
                refine PL.takeNo rfl rfl rfl rfl rfl rfl hS38 ?_
                refine PL.takeNo rfl rfl rfl rfl rfl rfl hS38 ?_
                refine PL.takeNo rfl rfl rfl rfl rfl rfl hS38 ?_
                refine PL.takeNo rfl rfl rfl rfl rfl rfl hS38 ?_
                refine PL.takeNo rfl rfl rfl rfl rfl rfl hS38 ?_
                refine PL.takeP rfl (Pure.pickT rfl rfl) rfl hS38 ?_
                refine PL.nil ?_
                replace hD := hD.chg0 hS38
                replace hK := hK.chg0 hS38
                replace hF := hF.chg0 hS38
                replace h6 := h6.chg0 hS38
                replace h7 := h7.chg0 hS38
                replace h8 := h8.chg0 hS38
                replace h9 := h9.chg0 hS38
                replace h11 := h11.chg0 hS38
                replace hr := hr.chg0 hS38
                replace hs := hs.chg0 hS38
                replace hv := hv.chg0 hS38
                replace h20 := h20.chg0 hS38
                replace hC := hC.then_ hS38
                refine TE.cast (.bool (decide (stops V a P h.gen q fr (h.first + acc.length) (lastS h.base acc)))) 124 rfl (congrArg Value.bool (decide_eq_true (.inr (.inr (.inr (.inl hb2))))).symm) ?_
                exact hj28 () _ ⟨hC, hD, hK, hF, h6, h7, h8, h9, h11, hr, hs, hv, h20⟩ _ rfl
              ·
                by_cases hb3 : ((h.gen : Nat) : Int) < (find V a P q fr).1.stream
                ·
                  refine TE.planAll (.cons (0, true) (.cons (1, true) (.cons (2, true) (.cons (3, true) (.cons (4, true) (.cons (5, false) (.cons (6, true) (.cons (7, true) (.cons (8, true) (.cons (9, true) (.cons (10, true) (.cons (11, true) (.cons (12, true) (.cons (13, true) (.cons (14, true) (.cons (15, true) (.cons (16, true) (.cons (17, true) (.cons (18, true) (.cons (19, true) (.cons (20, true) (.cons (21, true) (.cons (22, true) (.cons (23, true) (.cons (24, true) (.cons (25, true) (.cons (26, true) (.cons (27, true) (.cons (28, true) (.cons (29, true) .nil)))))))))))))))))))))))))))))) (fun w_ => Chg [] w15 w_) rfl (by kernel_rfl) ?_
                  have hS39 : Chg [] w15 w15.drew := Chg.drew _ _
                  refine PL.takeP rfl (Pure.move rfl) rfl hS39 ?_
                  refine PL.takeP rfl (Pure.not rfl) rfl hS39 ?_
                  refine PL.takeP rfl (Pure.move rfl) rfl hS39 ?_
                  refine PL.takeG _ (fun _ h_ => h_) rfl rfl rfl rfl (fun w_ h_ => Pure.move rfl _) rfl hS39 ?_
                  refine PL.takeG _ (fun _ h_ => h_) rfl rfl rfl rfl (fun w_ h_ => Pure.move rfl _) rfl hS39 ?_
                  refine PL.callG rfl rfl rfl rfl rfl Tryd.call17 rfl (free_any d a P r h pv (h.first + acc.length) q 0 acc (by omega) (by omega) hkp (by omega) _ hr hs) ?_
                  rintro _ w40 ⟨rfl, hc40⟩
                  have hS41 := hS39.then_ hc40
                  refine ⟨_, rfl, hS41, ?_⟩
                  refine PL.cast (.int .i64 (fr : Int)) 100 rfl (congrArg (fun x : Nat => Value.int .i64 (x : Int)) hfr.symm) ?_
                  refine PL.takeG _ (fun _ h_ => h_) rfl rfl rfl rfl (fun w_ h_ => Pure.gtr rfl rfl _) rfl hS41 ?_
                  refine PL.cast (.bool false) 101 rfl (congrArg Value.bool (decide_eq_false (by omega))) ?_
                  refine PL.takeP rfl (Pure.pickF rfl rfl) rfl hS41 ?_
                  refine PL.takeP rfl (Pure.move rfl) rfl hS41 ?_
                  refine PL.takeG _ (fun _ h_ => h_) rfl rfl rfl rfl (fun w_ h_ => Pure.fieldAddr (r := 2) Tryd.runUnderlying74 rfl Tryd.sizeOf3 rfl rfl _) rfl hS41 ?_
                  refine PL.takeG _ (fun _ h_ => h_) rfl rfl rfl rfl (fun w_ h_ => Run.load (i := 2) rfl Tryd.isAgg3 (h20.chg0 h_) (by omega) rfl) rfl hS41 ?_
                  refine PL.takeG _ (fun _ h_ => h_) rfl rfl rfl rfl (fun w_ h_ => Pure.move rfl _) rfl hS41 ?_
                  refine PL.takeG _ (fun _ h_ => h_) rfl rfl rfl rfl (fun w_ h_ => Pure.nilCheck rfl _) rfl hS41 ?_
                  refine PL.takeG _ (fun _ h_ => h_) rfl rfl rfl rfl (fun w_ h_ => Pure.fieldAddr (r := 8) Tryd.runUnderlying80 rfl Tryd.sizeOf3 rfl rfl _) rfl hS41 ?_
                  refine PL.takeG _ (fun _ h_ => h_) rfl rfl rfl rfl (fun w_ h_ => Run.load (i := 8) rfl Tryd.isAgg3 (hr.chg0 h_) (by omega) rfl) rfl hS41 ?_
                  refine PL.takeG _ (fun _ h_ => h_) rfl rfl rfl rfl (fun w_ h_ => Pure.neq rfl rfl _) rfl hS41 ?_
                  refine PL.cast (.bool false) 110 rfl (congrArg Value.bool (decide_eq_false (by omega))) ?_
                  refine PL.takeP rfl (Pure.pickF rfl rfl) rfl hS41 ?_
                  refine PL.takeP rfl (Pure.move rfl) rfl hS41 ?_
                  refine PL.takeG _ (fun _ h_ => h_) rfl rfl rfl rfl (fun w_ h_ => Pure.fieldAddr (r := 1) Tryd.runUnderlying74 rfl Tryd.sizeOf3 rfl rfl _) rfl hS41 ?_
                  refine PL.takeG _ (fun _ h_ => h_) rfl rfl rfl rfl (fun w_ h_ => Run.load (i := 1) rfl Tryd.isAgg3 (h20.chg0 h_) (by omega) rfl) rfl hS41 ?_
                  refine PL.takeG _ (fun _ h_ => h_) rfl rfl rfl rfl (fun w_ h_ => Pure.move rfl _) rfl hS41 ?_
                  refine PL.takeG _ (fun _ h_ => h_) rfl rfl rfl rfl (fun w_ h_ => Pure.lss rfl rfl _) rfl hS41 ?_
                  refine PL.cast (.bool false) 116 rfl (congrArg Value.bool (decide_eq_false (by omega))) ?_
                  refine PL.takeP rfl (Pure.pickF rfl rfl) rfl hS41 ?_
                  refine PL.takeP rfl (Pure.move rfl) rfl hS41 ?_
                  refine PL.takeG _ (fun _ h_ => h_) rfl rfl rfl rfl (fun w_ h_ => Pure.fieldAddr (r := 1) Tryd.runUnderlying74 rfl Tryd.sizeOf3 rfl rfl _) rfl hS41 ?_
                  refine PL.takeG _ (fun _ h_ => h_) rfl rfl rfl rfl (fun w_ h_ => Run.load (i := 1) rfl Tryd.isAgg3 (h20.chg0 h_) (by omega) rfl) rfl hS41 ?_
                  refine PL.takeG _ (fun _ h_ => h_) rfl rfl rfl rfl (fun w_ h_ => Pure.fieldAddr (r := 0) Tryd.runUnderlying70 rfl Tryd.sizeOf3 rfl rfl _) rfl hS41 ?_
                  refine PL.takeG _ (fun _ h_ => h_) rfl rfl rfl rfl (fun w_ h_ => Run.load (i := 0) rfl Tryd.isAgg3 (h11.chg0 h_) (by omega) rfl) rfl hS41 ?_
                  refine PL.takeG _ (fun _ h_ => h_) rfl rfl rfl rfl (fun w_ h_ => Pure.gtr rfl rfl _) rfl hS41 ?_
                  refine PL.cast (.bool true) 123 rfl (congrArg Value.bool (decide_eq_true (by omega))) ?_
                  refine PL.takeP rfl (Pure.pickF rfl rfl) rfl hS41 ?_
                  refine PL.nil ?_
                  replace hD := hD.chg0 hS41
                  replace hK := hK.chg0 hS41
                  replace hF := hF.chg0 hS41
                  replace h6 := h6.chg0 hS41
                  replace h7 := h7.chg0 hS41
                  replace h8 := h8.chg0 hS41
                  replace h9 := h9.chg0 hS41
                  replace h11 := h11.chg0 hS41
                  replace hr := hr.chg0 hS41
                  replace hs := hs.chg0 hS41
                  replace hv := hv.chg0 hS41
                  replace h20 := h20.chg0 hS41
                  replace hC := hC.then_ hS41
                  refine TE.cast (.bool (decide (stops V a P h.gen q fr (h.first + acc.length) (lastS h.base acc)))) 124 rfl (congrArg Value.bool (decide_eq_true (.inr (.inr (.inr (.inr hb3))))).symm) ?_
                  exact hj28 () _ ⟨hC, hD, hK, hF, h6, h7, h8, h9, h11, hr, hs, hv, h20⟩ _ rfl
                ·
                  refine TE.planAll (.cons (0, true) (.cons (1, true) (.cons (2, true) (.cons (3, true) (.cons (4, true) (.cons (5, false) (.cons (6, true) (.cons (7, true) (.cons (8, true) (.cons (9, true) (.cons (10, true) (.cons (11, true) (.cons (12, true) (.cons (13, true) (.cons (14, true) (.cons (15, true) (.cons (16, true) (.cons (17, true) (.cons (18, true) (.cons (19, true) (.cons (20, true) (.cons (21, true) (.cons (22, true) (.cons (23, true) (.cons (24, true) (.cons (25, true) (.cons (26, true) (.cons (27, true) (.cons (28, true) (.cons (29, true) .nil)))))))))))))))))))))))))))))) (fun w_ => Chg [] w15 w_) rfl (by kernel_rfl) ?_
                  have hS42 : Chg [] w15 w15.drew := Chg.drew _ _
                  refine PL.takeP rfl (Pure.move rfl) rfl hS42 ?_
                  refine PL.takeP rfl (Pure.not rfl) rfl hS42 ?_
                  refine PL.takeP rfl (Pure.move rfl) rfl hS42 ?_
                  refine PL.takeG _ (fun _ h_ => h_) rfl rfl rfl rfl (fun w_ h_ => Pure.move rfl _) rfl hS42 ?_
                  refine PL.takeG _ (fun _ h_ => h_) rfl rfl rfl rfl (fun w_ h_ => Pure.move rfl _) rfl hS42 ?_
                  refine PL.callG rfl rfl rfl rfl rfl Tryd.call17 rfl (free_any d a P r h pv (h.first + acc.length) q 0 acc (by omega) (by omega) hkp (by omega) _ hr hs) ?_
                  rintro _ w43 ⟨rfl, hc43⟩
                  have hS44 := hS42.then_ hc43
                  refine ⟨_, rfl, hS44, ?_⟩
                  refine PL.cast (.int .i64 (fr : Int)) 100 rfl (congrArg (fun x : Nat => Value.int .i64 (x : Int)) hfr.symm) ?_
                  refine PL.takeG _ (fun _ h_ => h_) rfl rfl rfl rfl (fun w_ h_ => Pure.gtr rfl rfl _) rfl hS44 ?_
                  refine PL.cast (.bool false) 101 rfl (congrArg Value.bool (decide_eq_false (by omega))) ?_
                  refine PL.takeP rfl (Pure.pickF rfl rfl) rfl hS44 ?_
                  refine PL.takeP rfl (Pure.move rfl) rfl hS44 ?_
                  refine PL.takeG _ (fun _ h_ => h_) rfl rfl rfl rfl (fun w_ h_ => Pure.fieldAddr (r := 2) Tryd.runUnderlying74 rfl Tryd.sizeOf3 rfl rfl _) rfl hS44 ?_
                  refine PL.takeG _ (fun _ h_ => h_) rfl rfl rfl rfl (fun w_ h_ => Run.load (i := 2) rfl Tryd.isAgg3 (h20.chg0 h_) (by omega) rfl) rfl hS44 ?_
                  refine PL.takeG _ (fun _ h_ => h_) rfl rfl rfl rfl (fun w_ h_ => Pure.move rfl _) rfl hS44 ?_
                  refine PL.takeG _ (fun _ h_ => h_) rfl rfl rfl rfl (fun w_ h_ => Pure.nilCheck rfl _) rfl hS44 ?_
                  refine PL.takeG _ (fun _ h_ => h_) rfl rfl rfl rfl (fun w_ h_ => Pure.fieldAddr (r := 8) Tryd.runUnderlying80 rfl Tryd.sizeOf3 rfl rfl _) rfl hS44 ?_
                  refine PL.takeG _ (fun _ h_ => h_) rfl rfl rfl rfl (fun w_ h_ => Run.load (i := 8) rfl Tryd.isAgg3 (hr.chg0 h_) (by omega) rfl) rfl hS44 ?_
                  refine PL.takeG _ (fun _ h_ => h_) rfl rfl rfl rfl (fun w_ h_ => Pure.neq rfl rfl _) rfl hS44 ?_
                  refine PL.cast (.bool false) 110 rfl (congrArg Value.bool (decide_eq_false (by omega))) ?_
                  refine PL.takeP rfl (Pure.pickF rfl rfl) rfl hS44 ?_
                  refine PL.takeP rfl (Pure.move rfl) rfl hS44 ?_
                  refine PL.takeG _ (fun _ h_ => h_) rfl rfl rfl rfl (fun w_ h_ => Pure.fieldAddr (r := 1) Tryd.runUnderlying74 rfl Tryd.sizeOf3 rfl rfl _) rfl hS44 ?_
                  refine PL.takeG _ (fun _ h_ => h_) rfl rfl rfl rfl (fun w_ h_ => Run.load (i := 1) rfl Tryd.isAgg3 (h20.chg0 h_) (by omega) rfl) rfl hS44 ?_
                  refine PL.takeG _ (fun _ h_ => h_) rfl rfl rfl rfl (fun w_ h_ => Pure.move rfl _) rfl hS44 ?_
                  refine PL.takeG _ (fun _ h_ => h_) rfl rfl rfl rfl (fun w_ h_ => Pure.lss rfl rfl _) rfl hS44 ?_
                  refine PL.cast (.bool false) 116 rfl (congrArg Value.bool (decide_eq_false (by omega))) ?_
                  refine PL.takeP rfl (Pure.pickF rfl rfl) rfl hS44 ?_
                  refine PL.takeP rfl (Pure.move rfl) rfl hS44 ?_
                  refine PL.takeG _ (fun _ h_ => h_) rfl rfl rfl rfl (fun w_ h_ => Pure.fieldAddr (r := 1) Tryd.runUnderlying74 rfl Tryd.sizeOf3 rfl rfl _) rfl hS44 ?_
                  refine PL.takeG _ (fun _ h_ => h_) rfl rfl rfl rfl (fun w_ h_ => Run.load (i := 1) rfl Tryd.isAgg3 (h20.chg0 h_) (by omega) rfl) rfl hS44 ?_
                  refine PL.takeG _ (fun _ h_ => h_) rfl rfl rfl rfl (fun w_ h_ => Pure.fieldAddr (r := 0) Tryd.runUnderlying70 rfl Tryd.sizeOf3 rfl rfl _) rfl hS44 ?_
                  refine PL.takeG _ (fun _ h_ => h_) rfl rfl rfl rfl (fun w_ h_ => Run.load (i := 0) rfl Tryd.isAgg3 (h11.chg0 h_) (by omega) rfl) rfl hS44 ?_
                  refine PL.takeG _ (fun _ h_ => h_) rfl rfl rfl rfl (fun w_ h_ => Pure.gtr rfl rfl _) rfl hS44 ?_
                  refine PL.cast (.bool false) 123 rfl (congrArg Value.bool (decide_eq_false (by omega))) ?_
                  refine PL.takeP rfl (Pure.pickF rfl rfl) rfl hS44 ?_
                  refine PL.nil ?_
                  replace hD := hD.chg0 hS44
                  replace hK := hK.chg0 hS44
                  replace hF := hF.chg0 hS44
                  replace h6 := h6.chg0 hS44
                  replace h7 := h7.chg0 hS44
                  replace h8 := h8.chg0 hS44
                  replace h9 := h9.chg0 hS44
                  replace h11 := h11.chg0 hS44
                  replace hr := hr.chg0 hS44
                  replace hs := hs.chg0 hS44
                  replace hv := hv.chg0 hS44
                  replace h20 := h20.chg0 hS44
                  replace hC := hC.then_ hS44
                  refine TE.cast (.bool (decide (stops V a P h.gen q fr (h.first + acc.length) (lastS h.base acc)))) 124 rfl (congrArg Value.bool (decide_eq_false (fun hh => by rcases hh with hh | hh | hh | hh | hh; rw [hf] at hh; cases hh; exact hb0 hh; exact hb1 hh; exact hb2 hh; exact hb3 hh)).symm) ?_
                  exact hj28 () _ ⟨hC, hD, hK, hF, h6, h7, h8, h9, h11, hr, hs, hv, h20⟩ _ rfl
      ·
        revert s_ w_ h_
        rintro _ w28 ⟨hC, hD, hK, hF, h6, h7, h8, h9, h11, hr, hs, hv, h20⟩
        refine TE.ite rfl (fun hst => ?_) (fun hst => ?_)
        ·
          have hae : acc = (scan V a P h.gen h.place P h.first h.base) := hsc.stop (by rw [← hq, ← hfr]; exact hst)
          refine TE.exit rfl ?_
          refine TE.seq ?_
          refine TE.seq ?_
          refine TE.region ?_
          refine OL.pure (Pure.move rfl) rfl ?_
          refine OL.call rfl Tryd.call17 rfl (free_any d a P r h pv (h.first + acc.length) q 0 acc (by omega) (by omega) hkp (by omega) _ hr hs) ?_
          rintro _ w45 ⟨rfl, hc45⟩
          replace hD := hD.chg0 hc45
          replace hK := hK.chg0 hc45
          replace hF := hF.chg0 hc45
          replace h6 := h6.chg0 hc45
          replace h7 := h7.chg0 hc45
          replace h8 := h8.chg0 hc45
          replace h9 := h9.chg0 hc45
          replace h11 := h11.chg0 hc45
          replace hr := hr.chg0 hc45
          replace hs := hs.chg0 hc45
          replace hv := hv.chg0 hc45
          replace hC := hC.then_ hc45
          refine ⟨_, rfl, ?_⟩
          refine OL.pure (Pure.gtr rfl rfl) rfl ?_
          refine OL.nil ?_
          refine TE.ite rfl (fun hfree => ?_) (fun hfree => ?_)
          ·
            have hfp : used acc < P := by omega
            refine TE.seq ?_
            refine TE.plan 5 (.cons (0, true) (.cons (1, true) (.cons (2, true) (.cons (3, true) (.cons (4, true) .nil))))) (fun w_ => Chg [] w45 w_) rfl (by kernel_rfl) rfl ?_
            have hS46 : Chg [] w45 w45.drew := Chg.drew _ _
            refine PL.take rfl (fun w_ h_ => Run.loadAll rfl Tryd.underlying66 rfl (h9.chg0 h_) (rfl)) rfl hS46 ?_
            refine PL.takeP rfl (Pure.move rfl) rfl hS46 ?_
            refine PL.takeP rfl (Pure.nilCheck rfl) rfl hS46 ?_
            refine PL.takeP rfl (Pure.fieldAddr (r := 9) Tryd.runUnderlying80 rfl Tryd.sizeOf3 rfl rfl) rfl hS46 ?_
            refine PL.take rfl (fun w_ h_ => Run.load (i := 9) rfl Tryd.isAgg3 (hr.chg0 h_) (by omega) rfl) rfl hS46 ?_
            refine PL.nilTail ?_
            replace hD := hD.chg0 hS46
            replace hK := hK.chg0 hS46
            replace hF := hF.chg0 hS46
            replace h6 := h6.chg0 hS46
            replace h7 := h7.chg0 hS46
            replace h8 := h8.chg0 hS46
            replace h9 := h9.chg0 hS46
            replace h11 := h11.chg0 hS46
            replace hr := hr.chg0 hS46
            replace hs := hs.chg0 hS46
            replace hv := hv.chg0 hS46
            replace hC := hC.then_ hS46
            refine OL.call rfl Tryd.call37 rfl (circle_any d a P q 1 _) ?_
            rintro _ wb ⟨gn, ga, gp, rfl, ⟨hgn, hga, hgp⟩, hcb, hgen, hgea, hgep⟩
            have lt_1_gn : 1 < gn := by have := hK.lt; omega
            have lt_1_ga : 1 < ga := by have := hK.lt; omega
            have lt_1_gp : 1 < gp := by have := hK.lt; omega
            have lt_0_gn : 0 < gn := by have := hF.lt; omega
            have lt_0_ga : 0 < ga := by have := hF.lt; omega
            have lt_0_gp : 0 < gp := by have := hF.lt; omega
            have lt_g6_gn : g6 < gn := by have := h6.lt; omega
            have lt_g6_ga : g6 < ga := by have := h6.lt; omega
            have lt_g6_gp : g6 < gp := by have := h6.lt; omega
            have lt_g7_gn : g7 < gn := by have := h7.lt; omega
            have lt_g7_ga : g7 < ga := by have := h7.lt; omega
            have lt_g7_gp : g7 < gp := by have := h7.lt; omega
            have lt_g8_gn : g8 < gn := by have := h8.lt; omega
            have lt_g8_ga : g8 < ga := by have := h8.lt; omega
            have lt_g8_gp : g8 < gp := by have := h8.lt; omega
            have lt_g9_gn : g9 < gn := by have := h9.lt; omega
            have lt_g9_ga : g9 < ga := by have := h9.lt; omega
            have lt_g9_gp : g9 < gp := by have := h9.lt; omega
            have lt_g11_gn : g11 < gn := by have := h11.lt; omega
            have lt_g11_ga : g11 < ga := by have := h11.lt; omega
            have lt_g11_gp : g11 < gp := by have := h11.lt; omega
            have lt_r_gn : r < gn := by have := hr.lt; omega
            have lt_r_ga : r < ga := by have := hr.lt; omega
            have lt_r_gp : r < gp := by have := hr.lt; omega
            replace hD := hD.chg0 hcb
            replace hK := hK.chg0 hcb
            replace hF := hF.chg0 hcb
            replace h6 := h6.chg0 hcb
            replace h7 := h7.chg0 hcb
            replace h8 := h8.chg0 hcb
            replace h9 := h9.chg0 hcb
            replace h11 := h11.chg0 hcb
            replace hr := hr.chg0 hcb
            replace hs := hs.chg0 hcb
            replace hv := hv.chg0 hcb
            replace hC := hC.then_ hcb
            refine ⟨_, rfl, ?_⟩
            refine OL.nil ?_
            refine TE.block ?_
            have hCz2 := hC.size
            refine TE.rangeFunc' (fun D l a_ e w2 => e = .returned (.tuple #[]) ∧ ∃ r, Lp w2 l r ∧ r.state ≠ .busy ∧ r.pending = none ∧ Df w2 D ∧ Chg ks wb w2 ∧ (∃ ki, Dk 93 97 w2 d n ((if 1 = 0 then V else upd V (bk a P q) zb)) (c + 1) false ki ∧ Grew ks ki wb)) rfl Tryd.call61 ?_ ?_
            ·
              intro D l wl aF haF hch hgD hgl hDf hLp
              obtain ⟨r0, hR, hL⟩ := hLp.gen
              clear hLp
              refine (circle_iter gn ga gp l d a P q 1 n hP haP hn hqP (by omega) (fun i w_ => Chg (ks) wb w_ ∧ Lp w_ l r0 ∧ Df w_ D ∧ (∃ ki, Dk 93 97 w_ d n ((if i = 0 then V else upd V (bk a P q) zb)) (c + i) false ki ∧ Grew ks ki wb)) (fun w_ => False) ?_ ?_ ?_ wl ?_).mono ?_
              · exact fun i w_ h => ⟨hgn.chg h.1 (hD.notin hgn (by decide) (by decide)), hga.chg h.1 (hD.notin hga (by decide) (by decide)), hgp.chg h.1 (hD.notin hgp (by decide) (by decide))⟩
              · exact fun i w_ w2 h hc => ⟨h.1.then_ hc, h.2.1.chg0 hc, h.2.2.1.chg0 hc, by obtain ⟨ki, k3, k4⟩ := h.2.2.2; exact ⟨ki, k3.chg0 hc, k4⟩⟩
              ·
                rintro i wi hi ⟨hci, hLi, hDi, hJ⟩
                rw [hR] at hLi
                refine rounds_rec hLi haF rfl rfl ?_
                have h9 := h9.chg hci (hD.notin h9 (by decide) (by decide))
                have hCs := hC.size
                obtain ⟨ki, hD, hgz⟩ := hJ
                have hZ := hci
                simp only [params]
                obtain rfl : i = 0 := by omega
                have hzc := hci.size
                replace hD : Dk 93 97 wi d n (V) (c) false ki := by simpa using hD
                refine TE.region ?_
                refine OL.pure (Pure.assign rfl) rfl ?_
                refine OL.nil ?_
                refine TE.beginRound' hLi rfl ?_
                intro w47 hL2 hc47
                replace hD := hD.chg hc47 (hD.apartL hLi)
                replace h9 := h9.chg hc47 (by simpa using (hLi.ne h9).symm)
                replace hDi := hDi.chg hc47 (by simpa using hDi.neL hLi)
                replace hZ := hZ.trans1 hc47 (.inr hgl)
                replace hLi := hL2
                refine TE.block ?_
                refine TE.seq ?_
                refine TE.planAll (.cons (0, true) (.cons (1, true) (.cons (2, true) (.cons (3, false) (.cons (4, false) (.cons (5, true) .nil)))))) (fun w_ => Blk w_ g9 66 (arv d a P)) rfl (by kernel_rfl) ?_
                have hS48 : Chg [] w47 w47.drew := Chg.drew _ _
                replace hD := hD.chg0 hS48
                replace h9 := h9.chg0 hS48
                replace hLi := hLi.chg0 hS48
                replace hDi := hDi.chg0 hS48
                replace hZ := hZ.then_ hS48
                refine PL.takeP rfl (Pure.fieldAddr (r := 0) Tryd.runUnderlying66 rfl Tryd.sizeOf26 rfl rfl) rfl h9 ?_
                refine PL.take rfl (fun w_ h_ => Run.load (i := 0) rfl Tryd.isAgg26 h_ (by omega) rfl) rfl h9 ?_
                refine PL.takeP rfl (Pure.move rfl) rfl h9 ?_
                refine PL.makeSlice (m := 512) (c := 512) (v := .int .u8 0) rfl rfl rfl Tryd.underlying34 info5 rfl rfl rfl (by decide) (by decide) (by decide) rfl (fun w_ h_ => h9.chg0 h_) ?_
                intro gb w49 hb hc49 hg_gb
                have lt_g9_gb : g9 < gb := by have := h9.lt; omega
                have ge_gb : wb.heap.size ≤ gb := by have := hZ.size; omega
                replace hD := hD.chg0 hc49
                replace h9 := h9.chg0 hc49
                replace hLi := hLi.chg0 hc49
                replace hDi := hDi.chg0 hc49
                replace hZ := hZ.then_ hc49
                have hb2 : Blk w49 gb 5 (bv zb) := by rw [show zb = List.replicate 512 0 from rfl, bv_zeros]; exact hb
                have hzd := hZ.size
                have hmx := Nat.mod_lt (q + 0) hP
                refine PL.call rfl rfl Tryd.call27 rfl (dwrite_any d n c (a + 2 + (q + 0) % P) gb 512 zb (by omega) (by omega) zb_len (by decide) (by decide) _ hD hb2) ?_
                rintro _ w9 ⟨k9, rfl, hD9, hc9, hg9⟩
                have h9_ := h9.chg hc9 (hD.notin h9 (by decide) (by decide))
                have hLi_ := hLi.chg hc9 (hD.notinL hLi)
                have hDi_ := hDi.chg hc9 (hD.notinD hDi)
                have hb2_ := hb2.chg hc9 (hD.notin hb2 (by decide) (by decide))
                replace h9 := h9_; clear h9_
                replace hLi := hLi_; clear hLi_
                replace hDi := hDi_; clear hDi_
                replace hb2 := hb2_; clear hb2_
                replace hzd := hZ.size
                replace hZ := hZ.trans hc9 hgz
                replace hgz := hgz.trans hg9 hzd
                replace hD := hD9
                refine ⟨_, rfl, h9, ?_⟩
                refine PL.takeP rfl (Pure.assign rfl) rfl h9 ?_
                refine PL.nil ?_
                refine TE.seq ?_
                refine TE.region ?_
                refine OL.pure (Pure.move rfl) rfl ?_
                refine OL.pure (Pure.neq rfl rfl) rfl ?_
                refine OL.cast (.bool false) 158 rfl (rfl) ?_
                refine OL.nil ?_
                refine TE.condF rfl rfl ?_
                refine TE.skip ?_
                refine TE.inBlock ?_
                refine TE.roundEnd' hLi ?_
                intro w50 hL2 hc50
                replace hD := hD.chg hc50 (hD.apartL hLi)
                replace h9 := h9.chg hc50 (by simpa using (hLi.ne h9).symm)
                replace hDi := hDi.chg hc50 (by simpa using hDi.neL hLi)
                replace hb2 := hb2.chg hc50 (by simpa using (hLi.ne hb2).symm)
                replace hZ := hZ.trans1 hc50 (.inr hgl)
                replace hLi := hL2
                rw [if_pos rfl]
                exact ⟨hZ, by rw [hR]; exact hLi, hDi, k9, by rw [if_neg (by omega)]; exact hD, hgz⟩
              · exact ⟨hch.mono (fun _ h_ => by cases h_), hL, hDf, ks, by rw [if_pos rfl]; exact hD.chg0 hch, Grew.refl _ _⟩
              · rintro e w2 ⟨rfl, h⟩; rcases h with ⟨h1, h2, h3, h4⟩ | h; exact ⟨rfl, r0, h2, by rw [hR]; simp [rec0], by rw [hR]; rfl, h3, h1, h4⟩; exact h.elim
            ·
              rintro D l a_ e w2 hgD hgl ⟨rfl, r_, hL, hnb, hpn, hDf, hcw, ki, hDx, hgz⟩
              rw [if_neg (by omega)] at hDx
              have hK_ := hK.chg hcw hk0
              have hF_ := hF.chg hcw hk1
              have h6_ := h6.chg hcw (hD.notin h6 (by decide) (by decide))
              have h7_ := h7.chg hcw (hD.notin h7 (by decide) (by decide))
              have h8_ := h8.chg hcw (hD.notin h8 (by decide) (by decide))
              have h9_ := h9.chg hcw (hD.notin h9 (by decide) (by decide))
              have h11_ := h11.chg hcw (hD.notin h11 (by decide) (by decide))
              have hr_ := hr.chg hcw (hD.notin hr (by decide) (by decide))
              have hs_ := hs.chg hcw (fun k_ hk_ hm_ => (hD.apartRO hs (by decide) (by decide) k_ hk_ hm_))
              have hv_ := hv.chg hcw (fun k_ hk_ hm_ => (hD.apartR hv (by decide) (by decide) k_ hk_ hm_))
              have hk0n := Grew.out hgz hk0 hK.lt; have hk1n := Grew.out hgz hk1 hF.lt; replace hk0 := hk0n; replace hk1 := hk1n
              replace hK := hK_; clear hK_
              replace hF := hF_; clear hF_
              replace h6 := h6_; clear h6_
              replace h7 := h7_; clear h7_
              replace h8 := h8_; clear h8_
              replace h9 := h9_; clear h9_
              replace h11 := h11_; clear h11_
              replace hr := hr_; clear hr_
              replace hs := hs_; clear hs_
              replace hv := hv_; clear hv_
              replace hgl := Nat.le_trans hC.size hgl; replace hgD := Nat.le_trans hC.size hgD
              replace hgr := hgr.trans hgz hCz2
              replace hC := hC.trans hcw (fun k_ hk_ => .inl hk_)
              replace hD := hDx
              refine ⟨_, r_, rfl, hL, hnb, ?_⟩
              intro w3 hL3 hc3
              replace hD := hD.chg hc3 (hD.apartL hL)
              replace hK := hK.chg hc3 (by simpa using (hL.ne hK).symm)
              replace hF := hF.chg hc3 (by simpa using (hL.ne hF).symm)
              replace h6 := h6.chg hc3 (by simpa using (hL.ne h6).symm)
              replace h7 := h7.chg hc3 (by simpa using (hL.ne h7).symm)
              replace h8 := h8.chg hc3 (by simpa using (hL.ne h8).symm)
              replace h9 := h9.chg hc3 (by simpa using (hL.ne h9).symm)
              replace h11 := h11.chg hc3 (by simpa using (hL.ne h11).symm)
              replace hr := hr.chg hc3 (by simpa using (hL.ne hr).symm)
              replace hs := hs.chg hc3 (hL.apartO hs)
              replace hv := hv.chg hc3 (hL.apart hv)
              replace hDf := hDf.chg hc3 (by simpa using hDf.neL hL)
              replace hC := hC.trans1 hc3 (.inr hgl)
              rw [hpn]; simp only [Option.map_none, Option.toList_none, List.nil_append]
              have hOV : openV V a P ⟨h, acc⟩ = wrHead (upd V (bk a P q) zb) a (⟨h.gen + 1, h.first, h.place, h.base⟩ : Hd) := by unfold openV; simp only []; rw [if_pos hfp, hq]; simp only [bk, Nat.mod_mod]
              refine TE.inBlock ?_
              refine TE.seq ?_
              refine TE.region ?_
              refine OL.pure (Pure.move rfl) rfl ?_
              refine OL.pure (Pure.nilCheck rfl) rfl ?_
              refine OL.pure (Pure.fieldAddr (r := 3) Tryd.runUnderlying80 rfl Tryd.sizeOf70 rfl rfl) rfl ?_
              refine OL.pure (Pure.fieldAddr (r := 3) Tryd.runUnderlying70 rfl Tryd.sizeOf3 rfl rfl) rfl ?_
              refine OL.val (Run.load (i := 3) rfl Tryd.isAgg3 hr (by omega) rfl) rfl ?_
              refine OL.pure (Pure.add rfl rfl (i64 (by omega) (by omega))) rfl ?_
              refine OL.cast (.int .i64 ((h.gen + 1 : Nat) : Int)) 165 rfl (congrArg (Value.int .i64) (by omega)) ?_
              refine OL.pure (Pure.nilCheck rfl) rfl ?_
              refine OL.pure (Pure.fieldAddr (r := 3) Tryd.runUnderlying80 rfl Tryd.sizeOf70 rfl rfl) rfl ?_
              refine OL.pure (Pure.fieldAddr (r := 3) Tryd.runUnderlying70 rfl Tryd.sizeOf3 rfl rfl) rfl ?_
              refine OL.store (j := 3) rfl rfl Tryd.sizeOf3 rfl hr (by omega) (rfl) ?_
              intro w51 hb51 hc51
              replace hD := hD.chg hc51 (hD.apart hr (by decide) (by decide))
              replace hK := hK.chg hc51 (by simp; omega)
              replace hF := hF.chg hc51 (by simp; omega)
              replace h6 := h6.chg hc51 (by simpa using h6.ne hr (by decide))
              replace h7 := h7.chg hc51 (by simpa using h7.ne hr (by decide))
              replace h8 := h8.chg hc51 (by simpa using h8.ne hr (by decide))
              replace h9 := h9.chg hc51 (by simpa using h9.ne hr (by decide))
              replace h11 := h11.chg hc51 (by simpa using h11.ne hr (by decide))
              replace hs := hs.chg hc51 (hs.apart hr (by decide))
              replace hv := hv.chg hc51 (hv.apart hr (by decide))
              replace hDf := hDf.chg hc51 (by simpa using hDf.ne hr)
              replace hC := hC.trans1 hc51 (by first | exact .inr (by omega) | exact .inl (by simp))
              replace hr := hb51
              replace hr : Blk w51 r 80 (rcv d a P (⟨h.gen + 1, h.first, h.place, h.base⟩ : Hd) pv (h.first + acc.length) q 0) := hr
              have hk2 : HdOk P (⟨h.gen + 1, h.first, h.place, h.base⟩ : Hd) := ⟨by show h.gen + 1 ≤ _; omega, hkf, hkp, by show h.base ≤ h.gen + 1; omega⟩
              refine OL.nil ?_
              refine TE.seq ?_
              refine TE.seq ?_
              refine TE.planAll (.cons (0, true) (.cons (1, true) (.cons (2, true) (.cons (3, true) (.cons (4, true) (.cons (5, false) (.cons (6, true) .nil))))))) (fun w_ => Blk w_ g9 66 (arv d a P) ∧ Blk w_ r 80 (rcv d a P (⟨h.gen + 1, h.first, h.place, h.base⟩ : Hd) pv (h.first + acc.length) q 0)) rfl (by kernel_rfl) ?_
              have hS52 : Chg [] w51 w51.drew := Chg.drew _ _
              replace hD := hD.chg0 hS52
              replace hK := hK.chg0 hS52
              replace hF := hF.chg0 hS52
              replace h6 := h6.chg0 hS52
              replace h7 := h7.chg0 hS52
              replace h8 := h8.chg0 hS52
              replace h9 := h9.chg0 hS52
              replace h11 := h11.chg0 hS52
              replace hr := hr.chg0 hS52
              replace hs := hs.chg0 hS52
              replace hv := hv.chg0 hS52
              replace hDf := hDf.chg0 hS52
              replace hC := hC.then_ hS52
              refine PL.take rfl (fun w_ h_ => Run.loadAll rfl Tryd.underlying66 rfl h_.1 (rfl)) rfl ⟨h9, hr⟩ ?_
              refine PL.takeP rfl (Pure.move rfl) rfl ⟨h9, hr⟩ ?_
              refine PL.takeP rfl (Pure.nilCheck rfl) rfl ⟨h9, hr⟩ ?_
              refine PL.takeP rfl (Pure.fieldAddr (r := 3) Tryd.runUnderlying80 rfl Tryd.sizeOf70 rfl rfl) rfl ⟨h9, hr⟩ ?_
              refine PL.take rfl (fun w_ h_ => Run.loadRow (i := 3) (vs := ((⟨h.gen + 1, h.first, h.place, h.base⟩ : Hd)).cells) rfl Tryd.underlying70 rfl rfl h_.2 (by omega) rfl) rfl ⟨h9, hr⟩ ?_
              refine PL.call rfl rfl Tryd.call35 rfl (writehead_any d n _ a P (⟨h.gen + 1, h.first, h.place, h.base⟩ : Hd) hP haP hn hk2 (by omega) hk0 hk1 _ hD hK hF) ?_
              rintro _ w53 ⟨ks53, rfl, hD53, hc53, hgr53⟩
              have hK_ := hK.chg hc53 hk0
              have hF_ := hF.chg hc53 hk1
              have h6_ := h6.chg hc53 (hD.notin h6 (by decide) (by decide))
              have h7_ := h7.chg hc53 (hD.notin h7 (by decide) (by decide))
              have h8_ := h8.chg hc53 (hD.notin h8 (by decide) (by decide))
              have h9_ := h9.chg hc53 (hD.notin h9 (by decide) (by decide))
              have h11_ := h11.chg hc53 (hD.notin h11 (by decide) (by decide))
              have hr_ := hr.chg hc53 (hD.notin hr (by decide) (by decide))
              have hs_ := hs.chg hc53 (hD.apartRO hs (by decide) (by decide))
              have hv_ := hv.chg hc53 (hD.apartR hv (by decide) (by decide))
              have hDf_ := hDf.chg hc53 (hD.notinD hDf)
              replace hk0 := Grew.out hgr53 hk0 hK.lt; replace hk1 := Grew.out hgr53 hk1 hF.lt
              replace hK := hK_; clear hK_
              replace hF := hF_; clear hF_
              replace h6 := h6_; clear h6_
              replace h7 := h7_; clear h7_
              replace h8 := h8_; clear h8_
              replace h9 := h9_; clear h9_
              replace h11 := h11_; clear h11_
              replace hr := hr_; clear hr_
              replace hs := hs_; clear hs_
              replace hv := hv_; clear hv_
              replace hDf := hDf_; clear hDf_
              replace hCz := hC.size
              replace hC := hC.trans hc53 hgr
              replace hgr := hgr.trans hgr53 hCz
              replace hD := hD53
              replace hCz := hC.size
              refine ⟨_, rfl, ⟨h9, hr⟩, ?_⟩
              refine PL.takeP rfl (Pure.assign rfl) rfl ⟨h9, hr⟩ ?_
              refine PL.nil ?_
              refine TE.seq ?_
              refine TE.region ?_
              refine OL.pure (Pure.move rfl) rfl ?_
              refine OL.pure (Pure.neq rfl rfl) rfl ?_
              refine OL.cast (.bool false) 176 rfl (rfl) ?_
              refine OL.nil ?_
              refine TE.condF rfl rfl ?_
              refine TE.skip ?_
              refine TE.seq ?_
              refine TE.region ?_
              refine OL.pure (Pure.move rfl) rfl ?_
              refine OL.pure (Pure.move rfl) rfl ?_
              refine OL.pure (Pure.nilCheck rfl) rfl ?_
              refine OL.pure (Pure.fieldAddr (r := 8) Tryd.runUnderlying80 rfl Tryd.sizeOf3 rfl rfl) rfl ?_
              refine OL.val (Run.load (i := 8) rfl Tryd.isAgg3 hr (by omega) rfl) rfl ?_
              refine OL.pure (Pure.nilCheck rfl) rfl ?_
              refine OL.pure (Pure.fieldAddr (r := 10) Tryd.runUnderlying80 rfl Tryd.sizeOf3 rfl rfl) rfl ?_
              refine OL.store (j := 10) rfl rfl Tryd.sizeOf3 rfl hr (by omega) (rfl) ?_
              intro w54 hb54 hc54
              replace hD := hD.chg hc54 (hD.apart hr (by decide) (by decide))
              replace hK := hK.chg hc54 (by simp; omega)
              replace hF := hF.chg hc54 (by simp; omega)
              replace h6 := h6.chg hc54 (by simpa using h6.ne hr (by decide))
              replace h7 := h7.chg hc54 (by simpa using h7.ne hr (by decide))
              replace h8 := h8.chg hc54 (by simpa using h8.ne hr (by decide))
              replace h9 := h9.chg hc54 (by simpa using h9.ne hr (by decide))
              replace h11 := h11.chg hc54 (by simpa using h11.ne hr (by decide))
              replace hs := hs.chg hc54 (hs.apart hr (by decide))
              replace hv := hv.chg hc54 (hv.apart hr (by decide))
              replace hDf := hDf.chg hc54 (by simpa using hDf.ne hr)
              replace hC := hC.trans1 hc54 (by first | exact .inr (by omega) | exact .inl (by simp))
              replace hr := hb54
              refine OL.nil ?_
              refine TE.seq ?_
              refine TE.region ?_
              refine OL.pure (Pure.move rfl) rfl ?_
              refine OL.pure (Pure.move rfl) rfl ?_
              refine OL.store (j := 0) rfl rfl Tryd.sizeOf27 rfl h6 (by omega) (rfl) ?_
              intro w55 hb55 hc55
              replace hD := hD.chg hc55 (hD.apart h6 (by decide) (by decide))
              replace hK := hK.chg hc55 (by simp; omega)
              replace hF := hF.chg hc55 (by simp; omega)
              replace h7 := h7.chg hc55 (by simpa using h7.ne h6 (by decide))
              replace h8 := h8.chg hc55 (by simpa using h8.ne h6 (by decide))
              replace h9 := h9.chg hc55 (by simpa using h9.ne h6 (by decide))
              replace h11 := h11.chg hc55 (by simpa using h11.ne h6 (by decide))
              replace hr := hr.chg hc55 (by simpa using hr.ne h6 (by decide))
              replace hs := hs.chg hc55 (hs.apart h6 (by decide))
              replace hv := hv.chg hc55 (hv.apart h6 (by decide))
              replace hDf := hDf.chg hc55 (by simpa using hDf.ne h6)
              replace hC := hC.trans1 hc55 (by first | exact .inr (by omega) | exact .inl (by simp))
              replace h6 := hb55
              have hvone := hv.oneCell
              refine OL.store (j := 0) rfl rfl Tryd.sizeOf38 hvone h7 (by omega) (rfl) ?_
              intro w56 hb56 hc56
              replace hD := hD.chg hc56 (hD.apart h7 (by decide) (by decide))
              replace hK := hK.chg hc56 (by simp; omega)
              replace hF := hF.chg hc56 (by simp; omega)
              replace h6 := h6.chg hc56 (by simpa using h6.ne h7 (by decide))
              replace h8 := h8.chg hc56 (by simpa using h8.ne h7 (by decide))
              replace h9 := h9.chg hc56 (by simpa using h9.ne h7 (by decide))
              replace h11 := h11.chg hc56 (by simpa using h11.ne h7 (by decide))
              replace hr := hr.chg hc56 (by simpa using hr.ne h7 (by decide))
              replace hs := hs.chg hc56 (hs.apart h7 (by decide))
              replace hv := hv.chg hc56 (hv.apart h7 (by decide))
              replace hDf := hDf.chg hc56 (by simpa using hDf.ne h7)
              replace hC := hC.trans1 hc56 (by first | exact .inr (by omega) | exact .inl (by simp))
              replace h7 := hb56
              refine OL.store (j := 0) rfl rfl Tryd.sizeOf31 rfl h8 (by omega) (rfl) ?_
              intro w57 hb57 hc57
              replace hD := hD.chg hc57 (hD.apart h8 (by decide) (by decide))
              replace hK := hK.chg hc57 (by simp; omega)
              replace hF := hF.chg hc57 (by simp; omega)
              replace h6 := h6.chg hc57 (by simpa using h6.ne h8 (by decide))
              replace h7 := h7.chg hc57 (by simpa using h7.ne h8 (by decide))
              replace h9 := h9.chg hc57 (by simpa using h9.ne h8 (by decide))
              replace h11 := h11.chg hc57 (by simpa using h11.ne h8 (by decide))
              replace hr := hr.chg hc57 (by simpa using hr.ne h8 (by decide))
              replace hs := hs.chg hc57 (hs.apart h8 (by decide))
              replace hv := hv.chg hc57 (hv.apart h8 (by decide))
              replace hDf := hDf.chg hc57 (by simpa using hDf.ne h8)
              replace hC := hC.trans1 hc57 (by first | exact .inr (by omega) | exact .inl (by simp))
              replace h8 := hb57
              refine OL.nil ?_
              refine TE.retU (fun a_ ha_ => ?_)
              refine Unw.mark' hDf (fun wz hcz => ?_)
              replace hD := hD.chg hcz (hD.apartD hDf)
              replace hK := hK.chg hcz (by simpa using (hDf.ne hK).symm)
              replace hF := hF.chg hcz (by simpa using (hDf.ne hF).symm)
              replace h6 := h6.chg hcz (by simpa using (hDf.ne h6).symm)
              replace h7 := h7.chg hcz (by simpa using (hDf.ne h7).symm)
              replace h8 := h8.chg hcz (by simpa using (hDf.ne h8).symm)
              replace h9 := h9.chg hcz (by simpa using (hDf.ne h9).symm)
              replace h11 := h11.chg hcz (by simpa using (hDf.ne h11).symm)
              replace hr := hr.chg hcz (by simpa using (hDf.ne hr).symm)
              replace hs := hs.chg hcz (hDf.apartO hs)
              replace hv := hv.chg hcz (hDf.apart hv)
              replace hC := hC.trans1 hcz (.inr hgD)
              have hR2 : RgK 80 85 wz r d a P (openS ⟨h, acc⟩) (r :: own pv) := ⟨pv, h.first + acc.length, by rw [show ((openS ⟨h, acc⟩).hd.place + used (openS ⟨h, acc⟩).ents) % P = q from hq.symm]; exact hr, hs, rfl⟩
              exact Unw.done (vs := [.pointer (some ⟨r, 0, none⟩), v, .int .i64 0]) ha_ Tryd.results14 ⟨⟨_, rfl, loadCell_at Tryd.isAgg27 h6 rfl⟩, ⟨_, rfl, loadCell_at Tryd.isAgg38 h7 rfl⟩, ⟨_, rfl, loadCell_at Tryd.isAgg31 h8 rfl⟩, trivial⟩ (by rw [← hae]; exact ⟨_, r, _, v, rfl, by rw [hOV]; exact hD, hR2, hv, hC, hgr, (fun k_ hk_ => (List.mem_cons.1 hk_).elim (fun e_ => by rw [e_]; exact ge_r) (hm_pv k_)), hm_v⟩)
          ·
            have hOV : openV V a P ⟨h, acc⟩ = wrHead V a (⟨h.gen + 1, h.first, h.place, h.base⟩ : Hd) := by unfold openV; simp only []; rw [if_neg (by omega)]
            refine TE.skip ?_
            refine TE.seq ?_
            refine TE.region ?_
            refine OL.pure (Pure.move rfl) rfl ?_
            refine OL.pure (Pure.nilCheck rfl) rfl ?_
            refine OL.pure (Pure.fieldAddr (r := 3) Tryd.runUnderlying80 rfl Tryd.sizeOf70 rfl rfl) rfl ?_
            refine OL.pure (Pure.fieldAddr (r := 3) Tryd.runUnderlying70 rfl Tryd.sizeOf3 rfl rfl) rfl ?_
            refine OL.val (Run.load (i := 3) rfl Tryd.isAgg3 hr (by omega) rfl) rfl ?_
            refine OL.pure (Pure.add rfl rfl (i64 (by omega) (by omega))) rfl ?_
            refine OL.cast (.int .i64 ((h.gen + 1 : Nat) : Int)) 165 rfl (congrArg (Value.int .i64) (by omega)) ?_
            refine OL.pure (Pure.nilCheck rfl) rfl ?_
            refine OL.pure (Pure.fieldAddr (r := 3) Tryd.runUnderlying80 rfl Tryd.sizeOf70 rfl rfl) rfl ?_
            refine OL.pure (Pure.fieldAddr (r := 3) Tryd.runUnderlying70 rfl Tryd.sizeOf3 rfl rfl) rfl ?_
            refine OL.store (j := 3) rfl rfl Tryd.sizeOf3 rfl hr (by omega) (rfl) ?_
            intro w58 hb58 hc58
            replace hD := hD.chg hc58 (hD.apart hr (by decide) (by decide))
            replace hK := hK.chg hc58 (by simp; omega)
            replace hF := hF.chg hc58 (by simp; omega)
            replace h6 := h6.chg hc58 (by simpa using h6.ne hr (by decide))
            replace h7 := h7.chg hc58 (by simpa using h7.ne hr (by decide))
            replace h8 := h8.chg hc58 (by simpa using h8.ne hr (by decide))
            replace h9 := h9.chg hc58 (by simpa using h9.ne hr (by decide))
            replace h11 := h11.chg hc58 (by simpa using h11.ne hr (by decide))
            replace hs := hs.chg hc58 (hs.apart hr (by decide))
            replace hv := hv.chg hc58 (hv.apart hr (by decide))
            replace hC := hC.trans1 hc58 (by first | exact .inr (by omega) | exact .inl (by simp))
            replace hr := hb58
            replace hr : Blk w58 r 80 (rcv d a P (⟨h.gen + 1, h.first, h.place, h.base⟩ : Hd) pv (h.first + acc.length) q 0) := hr
            have hk2 : HdOk P (⟨h.gen + 1, h.first, h.place, h.base⟩ : Hd) := ⟨by show h.gen + 1 ≤ _; omega, hkf, hkp, by show h.base ≤ h.gen + 1; omega⟩
            refine OL.nil ?_
            refine TE.seq ?_
            refine TE.seq ?_
            refine TE.planAll (.cons (0, true) (.cons (1, true) (.cons (2, true) (.cons (3, true) (.cons (4, true) (.cons (5, false) (.cons (6, true) .nil))))))) (fun w_ => Blk w_ g9 66 (arv d a P) ∧ Blk w_ r 80 (rcv d a P (⟨h.gen + 1, h.first, h.place, h.base⟩ : Hd) pv (h.first + acc.length) q 0)) rfl (by kernel_rfl) ?_
            have hS59 : Chg [] w58 w58.drew := Chg.drew _ _
            replace hD := hD.chg0 hS59
            replace hK := hK.chg0 hS59
            replace hF := hF.chg0 hS59
            replace h6 := h6.chg0 hS59
            replace h7 := h7.chg0 hS59
            replace h8 := h8.chg0 hS59
            replace h9 := h9.chg0 hS59
            replace h11 := h11.chg0 hS59
            replace hr := hr.chg0 hS59
            replace hs := hs.chg0 hS59
            replace hv := hv.chg0 hS59
            replace hC := hC.then_ hS59
            refine PL.take rfl (fun w_ h_ => Run.loadAll rfl Tryd.underlying66 rfl h_.1 (rfl)) rfl ⟨h9, hr⟩ ?_
            refine PL.takeP rfl (Pure.move rfl) rfl ⟨h9, hr⟩ ?_
            refine PL.takeP rfl (Pure.nilCheck rfl) rfl ⟨h9, hr⟩ ?_
            refine PL.takeP rfl (Pure.fieldAddr (r := 3) Tryd.runUnderlying80 rfl Tryd.sizeOf70 rfl rfl) rfl ⟨h9, hr⟩ ?_
            refine PL.take rfl (fun w_ h_ => Run.loadRow (i := 3) (vs := ((⟨h.gen + 1, h.first, h.place, h.base⟩ : Hd)).cells) rfl Tryd.underlying70 rfl rfl h_.2 (by omega) rfl) rfl ⟨h9, hr⟩ ?_
            refine PL.call rfl rfl Tryd.call35 rfl (writehead_any d n _ a P (⟨h.gen + 1, h.first, h.place, h.base⟩ : Hd) hP haP hn hk2 (by omega) hk0 hk1 _ hD hK hF) ?_
            rintro _ w60 ⟨ks60, rfl, hD60, hc60, hgr60⟩
            have hK_ := hK.chg hc60 hk0
            have hF_ := hF.chg hc60 hk1
            have h6_ := h6.chg hc60 (hD.notin h6 (by decide) (by decide))
            have h7_ := h7.chg hc60 (hD.notin h7 (by decide) (by decide))
            have h8_ := h8.chg hc60 (hD.notin h8 (by decide) (by decide))
            have h9_ := h9.chg hc60 (hD.notin h9 (by decide) (by decide))
            have h11_ := h11.chg hc60 (hD.notin h11 (by decide) (by decide))
            have hr_ := hr.chg hc60 (hD.notin hr (by decide) (by decide))
            have hs_ := hs.chg hc60 (hD.apartRO hs (by decide) (by decide))
            have hv_ := hv.chg hc60 (hD.apartR hv (by decide) (by decide))
            replace hk0 := Grew.out hgr60 hk0 hK.lt; replace hk1 := Grew.out hgr60 hk1 hF.lt
            replace hK := hK_; clear hK_
            replace hF := hF_; clear hF_
            replace h6 := h6_; clear h6_
            replace h7 := h7_; clear h7_
            replace h8 := h8_; clear h8_
            replace h9 := h9_; clear h9_
            replace h11 := h11_; clear h11_
            replace hr := hr_; clear hr_
            replace hs := hs_; clear hs_
            replace hv := hv_; clear hv_
            replace hCz := hC.size
            replace hC := hC.trans hc60 hgr
            replace hgr := hgr.trans hgr60 hCz
            replace hD := hD60
            replace hCz := hC.size
            refine ⟨_, rfl, ⟨h9, hr⟩, ?_⟩
            refine PL.takeP rfl (Pure.assign rfl) rfl ⟨h9, hr⟩ ?_
            refine PL.nil ?_
            refine TE.seq ?_
            refine TE.region ?_
            refine OL.pure (Pure.move rfl) rfl ?_
            refine OL.pure (Pure.neq rfl rfl) rfl ?_
            refine OL.cast (.bool false) 176 rfl (rfl) ?_
            refine OL.nil ?_
            refine TE.condF rfl rfl ?_
            refine TE.skip ?_
            refine TE.seq ?_
            refine TE.region ?_
            refine OL.pure (Pure.move rfl) rfl ?_
            refine OL.pure (Pure.move rfl) rfl ?_
            refine OL.pure (Pure.nilCheck rfl) rfl ?_
            refine OL.pure (Pure.fieldAddr (r := 8) Tryd.runUnderlying80 rfl Tryd.sizeOf3 rfl rfl) rfl ?_
            refine OL.val (Run.load (i := 8) rfl Tryd.isAgg3 hr (by omega) rfl) rfl ?_
            refine OL.pure (Pure.nilCheck rfl) rfl ?_
            refine OL.pure (Pure.fieldAddr (r := 10) Tryd.runUnderlying80 rfl Tryd.sizeOf3 rfl rfl) rfl ?_
            refine OL.store (j := 10) rfl rfl Tryd.sizeOf3 rfl hr (by omega) (rfl) ?_
            intro w61 hb61 hc61
            replace hD := hD.chg hc61 (hD.apart hr (by decide) (by decide))
            replace hK := hK.chg hc61 (by simp; omega)
            replace hF := hF.chg hc61 (by simp; omega)
            replace h6 := h6.chg hc61 (by simpa using h6.ne hr (by decide))
            replace h7 := h7.chg hc61 (by simpa using h7.ne hr (by decide))
            replace h8 := h8.chg hc61 (by simpa using h8.ne hr (by decide))
            replace h9 := h9.chg hc61 (by simpa using h9.ne hr (by decide))
            replace h11 := h11.chg hc61 (by simpa using h11.ne hr (by decide))
            replace hs := hs.chg hc61 (hs.apart hr (by decide))
            replace hv := hv.chg hc61 (hv.apart hr (by decide))
            replace hC := hC.trans1 hc61 (by first | exact .inr (by omega) | exact .inl (by simp))
            replace hr := hb61
            refine OL.nil ?_
            refine TE.seq ?_
            refine TE.region ?_
            refine OL.pure (Pure.move rfl) rfl ?_
            refine OL.pure (Pure.move rfl) rfl ?_
            refine OL.store (j := 0) rfl rfl Tryd.sizeOf27 rfl h6 (by omega) (rfl) ?_
            intro w62 hb62 hc62
            replace hD := hD.chg hc62 (hD.apart h6 (by decide) (by decide))
            replace hK := hK.chg hc62 (by simp; omega)
            replace hF := hF.chg hc62 (by simp; omega)
            replace h7 := h7.chg hc62 (by simpa using h7.ne h6 (by decide))
            replace h8 := h8.chg hc62 (by simpa using h8.ne h6 (by decide))
            replace h9 := h9.chg hc62 (by simpa using h9.ne h6 (by decide))
            replace h11 := h11.chg hc62 (by simpa using h11.ne h6 (by decide))
            replace hr := hr.chg hc62 (by simpa using hr.ne h6 (by decide))
            replace hs := hs.chg hc62 (hs.apart h6 (by decide))
            replace hv := hv.chg hc62 (hv.apart h6 (by decide))
            replace hC := hC.trans1 hc62 (by first | exact .inr (by omega) | exact .inl (by simp))
            replace h6 := hb62
            have hvone := hv.oneCell
            refine OL.store (j := 0) rfl rfl Tryd.sizeOf38 hvone h7 (by omega) (rfl) ?_
            intro w63 hb63 hc63
            replace hD := hD.chg hc63 (hD.apart h7 (by decide) (by decide))
            replace hK := hK.chg hc63 (by simp; omega)
            replace hF := hF.chg hc63 (by simp; omega)
            replace h6 := h6.chg hc63 (by simpa using h6.ne h7 (by decide))
            replace h8 := h8.chg hc63 (by simpa using h8.ne h7 (by decide))
            replace h9 := h9.chg hc63 (by simpa using h9.ne h7 (by decide))
            replace h11 := h11.chg hc63 (by simpa using h11.ne h7 (by decide))
            replace hr := hr.chg hc63 (by simpa using hr.ne h7 (by decide))
            replace hs := hs.chg hc63 (hs.apart h7 (by decide))
            replace hv := hv.chg hc63 (hv.apart h7 (by decide))
            replace hC := hC.trans1 hc63 (by first | exact .inr (by omega) | exact .inl (by simp))
            replace h7 := hb63
            refine OL.store (j := 0) rfl rfl Tryd.sizeOf31 rfl h8 (by omega) (rfl) ?_
            intro w64 hb64 hc64
            replace hD := hD.chg hc64 (hD.apart h8 (by decide) (by decide))
            replace hK := hK.chg hc64 (by simp; omega)
            replace hF := hF.chg hc64 (by simp; omega)
            replace h6 := h6.chg hc64 (by simpa using h6.ne h8 (by decide))
            replace h7 := h7.chg hc64 (by simpa using h7.ne h8 (by decide))
            replace h9 := h9.chg hc64 (by simpa using h9.ne h8 (by decide))
            replace h11 := h11.chg hc64 (by simpa using h11.ne h8 (by decide))
            replace hr := hr.chg hc64 (by simpa using hr.ne h8 (by decide))
            replace hs := hs.chg hc64 (hs.apart h8 (by decide))
            replace hv := hv.chg hc64 (hv.apart h8 (by decide))
            replace hC := hC.trans1 hc64 (by first | exact .inr (by omega) | exact .inl (by simp))
            replace h8 := hb64
            refine OL.nil ?_
            refine TE.retU (fun a_ ha_ => ?_)
            have hR2 : RgK 80 85 w64 r d a P (openS ⟨h, acc⟩) (r :: own pv) := ⟨pv, h.first + acc.length, by rw [show ((openS ⟨h, acc⟩).hd.place + used (openS ⟨h, acc⟩).ents) % P = q from hq.symm]; exact hr, hs, rfl⟩
            exact Unw.done (vs := [.pointer (some ⟨r, 0, none⟩), v, .int .i64 0]) ha_ Tryd.results14 ⟨⟨_, rfl, loadCell_at Tryd.isAgg27 h6 rfl⟩, ⟨_, rfl, loadCell_at Tryd.isAgg38 h7 rfl⟩, ⟨_, rfl, loadCell_at Tryd.isAgg31 h8 rfl⟩, trivial⟩ (by rw [← hae]; exact ⟨_, r, _, v, rfl, by rw [hOV]; exact hD, hR2, hv, hC, hgr, (fun k_ hk_ => (List.mem_cons.1 hk_).elim (fun e_ => by rw [e_]; exact ge_r) (hm_pv k_)), hm_v⟩)
        ·
          obtain ⟨hgo, hb1, hbf, hst0, hstm⟩ := hsc.go hV (by rw [← hq, ← hfr]; exact hst)
          rw [← hq, ← hfr] at hgo hb1 hbf hst0 hstm
          refine TE.skip ?_
          refine TE.seq ?_
          refine TE.planAll (.cons (0, true) (.cons (1, true) (.cons (2, true) (.cons (3, true) (.cons (4, true) (.cons (5, true) (.cons (6, true) (.cons (7, true) (.cons (8, false) (.cons (9, false) (.cons (10, true) .nil))))))))))) (fun w_ => Blk w_ r 80 (rcv d a P h pv (h.first + acc.length) q 0) ∧ Blk w_ g20 74 ((find V a P q fr).1.cells)) rfl (by kernel_rfl) ?_
          have hS65 : Chg [] w28 w28.drew := Chg.drew _ _
          replace hD := hD.chg0 hS65
          replace hK := hK.chg0 hS65
          replace hF := hF.chg0 hS65
          replace h6 := h6.chg0 hS65
          replace h7 := h7.chg0 hS65
          replace h8 := h8.chg0 hS65
          replace h9 := h9.chg0 hS65
          replace h11 := h11.chg0 hS65
          replace hr := hr.chg0 hS65
          replace hs := hs.chg0 hS65
          replace hv := hv.chg0 hS65
          replace h20 := h20.chg0 hS65
          replace hC := hC.then_ hS65
          refine PL.takeP rfl (Pure.move rfl) rfl ⟨hr, h20⟩ ?_
          refine PL.takeP rfl (Pure.move rfl) rfl ⟨hr, h20⟩ ?_
          refine PL.takeP rfl (Pure.nilCheck rfl) rfl ⟨hr, h20⟩ ?_
          refine PL.takeP rfl (Pure.fieldAddr (r := 8) Tryd.runUnderlying80 rfl Tryd.sizeOf3 rfl rfl) rfl ⟨hr, h20⟩ ?_
          refine PL.take rfl (fun w_ h_ => Run.load (i := 8) rfl Tryd.isAgg3 h_.1 (by omega) rfl) rfl ⟨hr, h20⟩ ?_
          refine PL.takeP rfl (Pure.fieldAddr (r := 3) Tryd.runUnderlying74 rfl Tryd.sizeOf9 rfl rfl) rfl ⟨hr, h20⟩ ?_
          refine PL.take rfl (fun w_ h_ => Run.load (i := 3) rfl Tryd.isAgg9 h_.2 (by omega) rfl) rfl ⟨hr, h20⟩ ?_
          refine PL.takeP rfl (Pure.build (cs := [.int .i64 ((h.first + acc.length : Nat) : Int), .string (str (find V a P q fr).1.payload)]) rfl (by kernel_rfl)) rfl ⟨hr, h20⟩ ?_
          have hvlt := hv.lt; have hslt2 := hs.lt
          refine PL.buildSliceC (cs := [.int .i64 ((h.first + acc.length : Nat) : Int), .string (str (find V a P q fr).1.payload)]) rfl rfl Tryd.runUnderlying38 Tryd.sizeOf49 Tryd.zeroValue49 (by decide) (by decide) (fill_one (by simp) rfl rfl) rfl (fun w_ h_ => ⟨hr.chg0 h_, h20.chg0 h_⟩) ?_
          intro qb w66 hqb hc66 hg_qb
          have lt_1_qb : 1 < qb := by have := hK.lt; omega
          have lt_0_qb : 0 < qb := by have := hF.lt; omega
          have lt_g6_qb : g6 < qb := by have := h6.lt; omega
          have lt_g7_qb : g7 < qb := by have := h7.lt; omega
          have lt_g8_qb : g8 < qb := by have := h8.lt; omega
          have lt_g9_qb : g9 < qb := by have := h9.lt; omega
          have lt_g11_qb : g11 < qb := by have := h11.lt; omega
          have lt_r_qb : r < qb := by have := hr.lt; omega
          have lt_g20_qb : g20 < qb := by have := h20.lt; omega
          have ge_qb : w.heap.size ≤ qb := by have := hC.size; omega
          replace hD := hD.chg0 hc66
          replace hK := hK.chg0 hc66
          replace hF := hF.chg0 hc66
          replace h6 := h6.chg0 hc66
          replace h7 := h7.chg0 hc66
          replace h8 := h8.chg0 hc66
          replace h9 := h9.chg0 hc66
          replace h11 := h11.chg0 hc66
          replace hr := hr.chg0 hc66
          replace hs := hs.chg0 hc66
          replace hv := hv.chg0 hc66
          replace h20 := h20.chg0 hc66
          replace hC := hC.then_ hc66
          refine PL.appendC (size := 2) (news := [.int .i64 ((h.first + acc.length : Nat) : Int), .string (str (find V a P q fr).1.payload)]) (v := v) rfl rfl rfl Tryd.underlying38 (.inl Tryd.underlying38) info49 rfl rfl rfl (by decide) rfl hv ((Src.of_blk (m := 1) (news := [.int .i64 ((h.first + acc.length : Nat) : Int), .string (str (find V a P q fr).1.payload)]) hqb rfl rfl)) (by simp [Value.oneCell']) (by show _ * 24 ≤ _; omega) (fun w_ h_ => ⟨hr.chg h_ (hv.notin hr (by decide)), h20.chg h_ (hv.notin h20 (by decide))⟩) ?_
          intro v2 w67 hv2 hc67 ho_v2
          have hm_v2 : Mine w.heap.size v2 := Mine.step hm_v (by have := hC.size; omega) ho_v2
          replace hD := hD.chg hc67 (hD.apartR' hv (by decide) (by decide))
          replace hK := hK.chg hc67 (fun h_ => absurd (hm_v _ h_) (by omega))
          replace hF := hF.chg hc67 (fun h_ => absurd (hm_v _ h_) (by omega))
          replace h6 := h6.chg hc67 (hv.notin h6 (by decide))
          replace h7 := h7.chg hc67 (hv.notin h7 (by decide))
          replace h8 := h8.chg hc67 (hv.notin h8 (by decide))
          replace h9 := h9.chg hc67 (hv.notin h9 (by decide))
          replace h11 := h11.chg hc67 (hv.notin h11 (by decide))
          replace hr := hr.chg hc67 (hv.notin hr (by decide))
          replace hs := hs.chg hc67 (hs.disjR hv (by decide))
          replace h20 := h20.chg hc67 (hv.notin h20 (by decide))
          replace hC := hC.own hc67 hm_v
          replace hv2 : Row w67 49 2 v2 (acc.length + 1) (entC h.first (acc ++ [entAt V a P q fr])) := by rw [entC_snoc]; exact hv2
          refine PL.takeP rfl (Pure.assign rfl) rfl ⟨hr, h20⟩ ?_
          refine PL.nil ?_
          refine TE.seq ?_
          refine TE.region ?_
          refine OL.pure (Pure.move rfl) rfl ?_
          refine OL.pure (Pure.move rfl) rfl ?_
          refine OL.pure (Pure.fieldAddr (r := 1) Tryd.runUnderlying74 rfl Tryd.sizeOf3 rfl rfl) rfl ?_
          refine OL.val (Run.load (i := 1) rfl Tryd.isAgg3 h20 (by omega) rfl) rfl ?_
          refine OL.cast (.int .i64 ((find V a P q fr).1.stream.toNat : Int)) 138 rfl (congrArg (Value.int .i64) (by omega)) ?_
          refine OL.call rfl Tryd.call36 rfl (add_any d a P r h pv 0 (find V a P q fr).2.1 (find V a P q fr).1.stream.toNat (find V a P q fr).1.payload acc (by omega) hkp (by omega) (by omega) (by omega) (by omega) _ (by rw [← hq]; exact hr) hs) ?_
          rintro _ w9 ⟨pv2, rfl, hr9, hs9, hc9, ho9⟩
          have hD_ := hD.chg hc9 (fun k_ hk_ hm_ => (List.mem_cons.1 hm_).elim (fun e_ => hD.notin hr (by decide) (by decide) (e_ ▸ hk_)) (fun h_ => hD.apartRO hs (by decide) (by decide) _ h_ hk_))
          have hK_ := hK.chg hc9 (notin_cons (by omega) (fun h_ => absurd (hm_pv _ h_) (by omega)))
          have hF_ := hF.chg hc9 (notin_cons (by omega) (fun h_ => absurd (hm_pv _ h_) (by omega)))
          have h6_ := h6.chg hc9 (notin_cons (by omega) (hs.notin h6 (by decide)))
          have h7_ := h7.chg hc9 (notin_cons (by omega) (hs.notin h7 (by decide)))
          have h8_ := h8.chg hc9 (notin_cons (by omega) (hs.notin h8 (by decide)))
          have h9_ := h9.chg hc9 (notin_cons (by omega) (hs.notin h9 (by decide)))
          have h11_ := h11.chg hc9 (notin_cons (by omega) (hs.notin h11 (by decide)))
          have h20_ := h20.chg hc9 (notin_cons (by omega) (hs.notin h20 (by decide)))
          have hv2_ := hv2.chg hc9 (fun k_ hk_ hm_ => (List.mem_cons.1 hm_).elim (fun e_ => hv2.notin hr (by decide) (e_ ▸ hk_)) (fun h_ => hs.disjR hv2 (by decide) _ h_ hk_))
          replace hD := hD_; clear hD_
          replace hK := hK_; clear hK_
          replace hF := hF_; clear hF_
          replace h6 := h6_; clear h6_
          replace h7 := h7_; clear h7_
          replace h8 := h8_; clear h8_
          replace h9 := h9_; clear h9_
          replace h11 := h11_; clear h11_
          replace h20 := h20_; clear h20_
          replace hv2 := hv2_; clear hv2_
          have hmp2 : Mine w.heap.size pv2 := fun k_ hk_ => (ho9 k_ hk_).elim (hm_pv k_) (fun h_ => Nat.le_trans hC.size h_)
          replace hC := hC.trans hc9 (fun k_ hk_ => .inr ((List.mem_cons.1 hk_).elim (fun e_ => by rw [e_]; exact ge_r) (hm_pv k_)))
          replace hr := hr9; replace hs := hs9
          refine ⟨_, rfl, ?_⟩
          refine OL.nil ?_
          refine TE.region ?_
          refine OL.pure (Pure.fieldAddr (r := 1) Tryd.runUnderlying74 rfl Tryd.sizeOf3 rfl rfl) rfl ?_
          refine OL.val (Run.load (i := 1) rfl Tryd.isAgg3 h20 (by omega) rfl) rfl ?_
          refine OL.pure (Pure.assign rfl) rfl ?_
          refine OL.nil ?_
          refine TE.inBlock ?_
          refine TE.cast (.int .i64 (lastS h.base (acc ++ [entAt V a P q fr]) : Int)) 19 rfl (congrArg (Value.int .i64) (by rw [lastS_snoc]; show _ = ((find V a P q fr).1.stream.toNat : Int); omega)) ?_
          have huu : used (acc ++ [entAt V a P q fr]) = used acc + (find V a P q fr).2.1 := by rw [used_append]; rfl
          have hll : (acc ++ [entAt V a P q fr]).length = acc.length + 1 := by simp
          replace hr : Blk w9 r 80 (rcv d a P h pv2 (h.first + (acc ++ [entAt V a P q fr]).length) ((h.place + used (acc ++ [entAt V a P q fr])) % P) 0) := by rw [huu, hll, ← Nat.add_assoc, ← Nat.add_assoc]; exact hr
          rw [← hll] at hv2
          exact TE.sub [6, 7, 8, 9, 11, 17, 18, 19] rfl (ih14 (acc ++ [entAt V a P q fr], pv2, v2) _ ⟨hgo, hC, hD, hK, hF, h6, h7, h8, h9, h11, hr, hs, hmp2, hv2, hm_v2⟩ (by simp only []; rw [huu]; omega))

end Go.Proofs.YtcologcjhenmkaaDoor
