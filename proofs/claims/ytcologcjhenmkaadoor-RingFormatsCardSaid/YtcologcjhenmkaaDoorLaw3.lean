/- The law of Format, walked -/
import Derived.Test.YtcologcjhenmkaaDoorProg
import Derived.Test.YtcologcjhenmkaaDoorSpecB
import Derived.Test.YtcologcjhenmkaaDoorRnl
set_option linter.unusedVariables false
set_option maxRecDepth 4000
namespace Go.Proofs.YtcologcjhenmkaaDoor
open Go.V Go.Rg Go.Frm Go.Sha
theorem info9 : Tryd.prog.info? 9 = some Tryd.t9 := by kernel_rfl
set_option maxHeartbeats 4000000 in
theorem formats_law_any {tK tF : TypeId} (n0 : Nat) (hn0 : n0 ≤ 255) (A : Option Addr) (cap : Nat) (L : List Opr) (hL : ∀ o ∈ L, o.k ≤ 255 ∧ o.N ≤ 65535 ∧ o.B ≤ 255) (hLl : L.length ≤ 9223372036854775807) (B : Option Addr) (cap2 : Nat) (ts : List Int) (hts : ∀ z ∈ ts, 0 ≤ z ∧ z ≤ 65535) (htl : ts.length ≤ 9223372036854775807) (w : World) (hK : Blk w 1 tK (iv .u32 K)) (hF : Blk w 0 tF (iv .i64 fldL)) (hA : CellsOp w A L) (hB : CellsI w .u16 B ts) : Calls Tryd.prog 3 #[.int .u8 (n0 : Int), .slice A L.length cap, .slice B ts.length cap2] w (RetC (.bool true) w) := by
  refine calls_of_TE (vs := [.int .u8 (n0 : Int), .slice A L.length cap, .slice B ts.length cap2]) Tryd.func3 Tryd.ntmps3 rfl (by simp) ?_
  have hC : Chg [] w w := Chg.refl _ _
  have h0w : 1 < w.heap.size := hK.lt
  have h1w : 0 < w.heap.size := hF.lt
  obtain ⟨P, hPd⟩ : ∃ P, P = 2 + n0 % 14 := ⟨_, rfl⟩
  have hP2 : 2 ≤ P := by omega
  have hP15 : P ≤ 15 := by omega
  have hP : 0 < P := by omega
  have hP8 : P ≤ 8192 := by omega
  have haP : 3 + 2 + P ≤ 20 := by omega
  refine TE.seq ?_
  refine TE.region ?_
  refine OL.pure (Pure.assign rfl) rfl ?_
  refine OL.nil ?_
  refine TE.seq ?_
  refine TE.seq ?_
  refine TE.region ?_
  refine OL.call rfl Tryd.call8 rfl (known_any _ (hK.chg0 hC) (hF.chg0 hC)) ?_
  rintro _ w1 ⟨rfl, hc1⟩
  replace hC := hC.then_ hc1
  refine ⟨_, rfl, ?_⟩
  refine OL.pure (Pure.not rfl) rfl ?_
  refine OL.pure (Pure.move rfl) rfl ?_
  refine OL.want rfl rfl rfl (Pure.move rfl _) rfl ?_
  refine OL.callG rfl rfl rfl rfl Tryd.call9 rfl (fits_any A cap L hLl _ (hA.chg0 hC)) ?_
  rintro _ _ ⟨b, rfl, hfit, rfl⟩
  refine ⟨_, rfl, ?_⟩
  cases b with
  | false =>
    refine OL.want rfl rfl rfl (Pure.not rfl _) rfl ?_
    refine OL.pure (Pure.pickF rfl rfl) rfl ?_
    refine OL.pure (Pure.move rfl) rfl ?_
    refine OL.pass rfl rfl rfl rfl rfl ?_
    refine OL.pass rfl rfl rfl rfl rfl ?_
    refine OL.pass rfl rfl rfl rfl rfl ?_
    refine OL.pure (Pure.pickT rfl rfl) rfl ?_
    refine OL.nil ?_
    refine TE.condT rfl rfl ?_
    refine TE.seq ?_
    refine TE.region ?_
    refine OL.call rfl Tryd.call8 rfl (known_any _ (hK.chg0 hC) (hF.chg0 hC)) ?_
    rintro _ w2 ⟨rfl, hc2⟩
    replace hC := hC.then_ hc2
    refine ⟨_, rfl, ?_⟩
    refine OL.pure (Pure.assign rfl) rfl ?_
    refine OL.nil ?_
    exact TE.ret (vs := [.bool true]) Tryd.results3 (⟨rfl, trivial⟩) ⟨rfl, hC⟩
  | true =>
    replace hfit := hfit rfl
    by_cases hm5 : 5 < ts.length
    ·
      refine OL.want rfl rfl rfl (Pure.not rfl _) rfl ?_
      refine OL.pure (Pure.pickF rfl rfl) rfl ?_
      refine OL.pure (Pure.move rfl) rfl ?_
      refine OL.want rfl rfl rfl (Pure.move rfl _) rfl ?_
      refine OL.want rfl rfl rfl (Pure.lenSlice Tryd.runUnderlying23 rfl _) rfl ?_
      refine OL.want rfl rfl rfl (Pure.gtr rfl rfl _) rfl ?_
      refine OL.cast (.bool true) 33 rfl (congrArg Value.bool (decide_eq_true (by omega))) ?_
      refine OL.pure (Pure.pickF rfl rfl) rfl ?_
      refine OL.nil ?_
      refine TE.condT rfl rfl ?_
      refine TE.seq ?_
      refine TE.region ?_
      refine OL.call rfl Tryd.call8 rfl (known_any _ (hK.chg0 hC) (hF.chg0 hC)) ?_
      rintro _ w3 ⟨rfl, hc3⟩
      replace hC := hC.then_ hc3
      refine ⟨_, rfl, ?_⟩
      refine OL.pure (Pure.assign rfl) rfl ?_
      refine OL.nil ?_
      exact TE.ret (vs := [.bool true]) Tryd.results3 (⟨rfl, trivial⟩) ⟨rfl, hC⟩
    ·
      refine OL.want rfl rfl rfl (Pure.not rfl _) rfl ?_
      refine OL.pure (Pure.pickF rfl rfl) rfl ?_
      refine OL.pure (Pure.move rfl) rfl ?_
      refine OL.want rfl rfl rfl (Pure.move rfl _) rfl ?_
      refine OL.want rfl rfl rfl (Pure.lenSlice Tryd.runUnderlying23 rfl _) rfl ?_
      refine OL.want rfl rfl rfl (Pure.gtr rfl rfl _) rfl ?_
      refine OL.cast (.bool false) 33 rfl (congrArg Value.bool (decide_eq_false (by omega))) ?_
      refine OL.pure (Pure.pickF rfl rfl) rfl ?_
      refine OL.nil ?_
      refine TE.condF rfl rfl ?_
      refine TE.skip ?_
      refine TE.seq ?_
      refine TE.region ?_
      refine OL.pure (Pure.move rfl) rfl ?_
      refine OL.call rfl Tryd.call11 rfl (size_any n0 hn0 _) ?_
      rintro _ _ ⟨rfl, rfl⟩
      refine ⟨_, rfl, ?_⟩
      refine OL.cast (.int .i64 ((P + 2 : Nat) : Int)) 38 rfl (by rw [hPd]) ?_
      refine OL.call rfl Tryd.call10 rfl (fresh_any P hP2 hP15 _ (hK.chg0 hC) (hF.chg0 hC)) ?_
      rintro _ w4 ⟨V4, ks4, rs4, d, r, rfl, hD, hR, hI, hc4, hkk, hrr⟩
      have hks : ∀ k_ ∈ ks4, w.heap.size ≤ k_ := fun k_ hk_ => Nat.le_trans hC.size (hkk k_ hk_)
      have hrs : ∀ k_ ∈ rs4, w.heap.size ≤ k_ := fun k_ hk_ => Nat.le_trans hC.size (hrr k_ hk_)
      replace hC := hC.then_ hc4
      refine ⟨_, rfl, ?_⟩
      refine OL.pure (Pure.move rfl) rfl ?_
      refine OL.pure (Pure.extract (vs := [.pointer (some ⟨d, 0, none⟩), .pointer (some ⟨r, 0, none⟩), .bool true]) (i := 0) rfl rfl) rfl ?_
      refine OL.pure (Pure.extract (vs := [.pointer (some ⟨d, 0, none⟩), .pointer (some ⟨r, 0, none⟩), .bool true]) (i := 1) rfl rfl) rfl ?_
      refine OL.pure (Pure.extract (vs := [.pointer (some ⟨d, 0, none⟩), .pointer (some ⟨r, 0, none⟩), .bool true]) (i := 2) rfl rfl) rfl ?_
      refine OL.pure (Pure.assign rfl) rfl ?_
      refine OL.pure (Pure.assign rfl) rfl ?_
      refine OL.pure (Pure.assign rfl) rfl ?_
      refine OL.nil ?_
      refine TE.seq ?_
      refine TE.seq ?_
      refine TE.region ?_
      refine OL.pure (Pure.move rfl) rfl ?_
      refine OL.pure (Pure.not rfl) rfl ?_
      refine OL.nil ?_
      refine TE.condF rfl rfl ?_
      refine TE.skip ?_
      refine TE.seq ?_
      refine TE.seq ?_
      refine TE.region ?_
      refine OL.pure (Pure.assign rfl) rfl ?_
      refine OL.nil ?_
      refine TE.block ?_
      refine TE.loopInv (σ := Nat × (Int → List UInt8) × Nat × Rs × List Nat × List Nat) [0, 1, 2, 7, 8, 10] (fun s_ w_ => match s_ with | (i, V, c, S, ks, rs) => i ≤ L.length ∧ Dk 93 97 w_ d 20 (V) (c) false ks ∧ RgK 80 85 w_ r d 3 P (S) rs ∧ Inv V 3 P S ∧ (∀ k_ ∈ ks, w.heap.size ≤ k_) ∧ (∀ k_ ∈ rs, w.heap.size ≤ k_) ∧ Chg [] w w_ ∧ S.hd.gen ≤ 1 + i ∧ S.next ≤ i ∧ c ≤ 17 * i) (fun s_ => [(0, .int .u8 (↑n0)), (1, .slice A L.length cap), (2, .slice B ts.length cap2), (7, .pointer (some ⟨d, 0, none⟩)), (8, .pointer (some ⟨r, 0, none⟩)), (10, .int .i64 (s_.1 : Int))]) (fun s_ => L.length - s_.1) (0, V4, 0, S1, ks4, rs4) ⟨Nat.zero_le _, hD, hR, hI, hks, hrs, hC, by decide, by decide, by omega⟩ rfl ?_
      rintro ⟨i, V, c, S, ks, rs⟩ w5 ⟨hi, hD, hR, hI, hks, hrs, hC, hgen, hnext, hcc⟩ ih5
      try dsimp only
      refine TE.seq ?_
      refine TE.seq ?_
      refine TE.region ?_
      refine OL.pure (Pure.move rfl) rfl ?_
      refine OL.pure (Pure.move rfl) rfl ?_
      refine OL.pure (Pure.lenSlice Tryd.runUnderlying22 rfl) rfl ?_
      refine OL.pure (Pure.lss rfl rfl) rfl ?_
      refine OL.nil ?_
      refine TE.ite rfl (fun hlt => ?_) (fun hlt => ?_)
      ·
        replace hlt : i < L.length := by omega
        obtain ⟨g_op, o_op, hAe, hra⟩ := hA i hlt
        obtain ⟨op, hop_op⟩ : ∃ x, x = L.getD i Opr.zero := ⟨_, rfl⟩
        rw [← hop_op] at hra
        have hob_op := hL op (by rw [hop_op]; exact getD_op_mem hlt)
        obtain ⟨hb1, hb2, hb3⟩ := hob_op
        replace hra := rangeAt_chg hra hC
        refine TE.cast (.slice (some ⟨g_op, o_op, none⟩) L.length cap) 1 rfl (by rw [hAe]) ?_
        refine TE.skip ?_
        refine TE.seq ?_
        refine TE.block ?_
        refine TE.region ?_
        refine OL.pure (Pure.move rfl) rfl ?_
        refine OL.pure (Pure.move rfl) rfl ?_
        refine OL.pure (Pure.move rfl) rfl ?_
        refine OL.pure (Pure.indexAddrS (r := o_op + 4 * i) Tryd.runUnderlying22 Tryd.sizeOf36 rfl rfl (by omega) (by omega) (by omega)) rfl ?_
        refine OL.val (Run.loadRange rfl Tryd.underlying36 rfl rfl hra) rfl ?_
        refine OL.call rfl Tryd.call12 rfl (step_any d 20 c 3 P r op.k op.N op.B op.m op.c op.X hP haP (by decide) hb1 hb2 hb3 hI (by omega) (by omega) (by omega) (fun h_ => absurd (hks _ h_) (by omega)) (fun h_ => absurd (hks _ h_) (by omega)) (fun h_ => absurd (hrs _ h_) (by omega)) (fun h_ => absurd (hrs _ h_) (by omega)) _ hD hR (hK.chg0 hC) (hF.chg0 hC)) ?_
        rintro _ w6 ⟨V6, c6, S6, ks6, rs6, er6, rfl, hD6, hR6, hc6, hg6, hgr6, hI6, hst6, hout6, hcb6⟩
        have hksn : ∀ k_ ∈ ks6, w.heap.size ≤ k_ := fun k_ hk_ => (hg6 k_ hk_).elim (hks k_) (fun h_ => Nat.le_trans hC.size h_)
        have hrsn : ∀ k_ ∈ rs6, w.heap.size ≤ k_ := fun k_ hk_ => (hgr6 k_ hk_).elim (hrs k_) (fun h_ => Nat.le_trans hC.size h_)
        replace hC := hC.trans hc6 (fun k_ hk_ => .inr ((List.mem_append.1 hk_).elim (hrs k_) (hks k_)))
        have hks := hksn; have hD := hD6
        have hrs := hrsn; have hR := hR6
        refine ⟨_, rfl, ?_⟩
        have hsg := hst6.gen; have hsn := hst6.next.1
        refine OL.nil ?_
        refine TE.inBlock ?_
        refine TE.region ?_
        refine OL.pure (Pure.move rfl) rfl ?_
        refine OL.pure (Pure.add rfl rfl (i64 (by omega) (by omega))) rfl ?_
        refine OL.pure (Pure.assign rfl) rfl ?_
        refine OL.nil ?_
        refine TE.cast (.slice A L.length cap) 1 rfl (by rw [hAe]) ?_
        exact TE.sub [0, 1, 2, 7, 8, 10] rfl (ih5 (i + 1, V6, c6, S6, ks6, rs6) _ ⟨by omega, hD, hR, hI6, hks, hrs, hC, by omega, by omega, by omega⟩ (by simp only []; omega))
      ·
        have hV := hD.len; have hfo := fmt_over hV hI; have hIf := inv_over hV hI hP8 (by omega)
        obtain ⟨H, hH⟩ : ∃ H, H = fmtHd V 3 P := ⟨_, rfl⟩
        have hHg : H.gen ≤ 40 := by rw [hH]; show fmtGen V 3 P ≤ 40; omega
        have hHf : H.first = 0 := by rw [hH]; rfl
        rw [← hH] at hIf
        refine TE.exit rfl ?_
        refine TE.seq ?_
        refine TE.seq ?_
        refine TE.region ?_
        refine OL.pure (Pure.move rfl) rfl ?_
        refine OL.pure (Pure.move rfl) rfl ?_
        refine OL.call rfl Tryd.call11 rfl (size_any n0 hn0 _) ?_
        rintro _ _ ⟨rfl, rfl⟩
        refine ⟨_, rfl, ?_⟩
        refine OL.cast (.int .i64 ((P + 2 : Nat) : Int)) 59 rfl (by rw [hPd]) ?_
        refine OL.call rfl Tryd.call13 rfl (format_any d 20 c 3 P haP (by decide) hP2 (by omega) (by omega) (fun h_ => absurd (hks _ h_) (by omega)) (fun h_ => absurd (hks _ h_) (by omega)) _ hD (hK.chg0 hC) (hF.chg0 hC)) ?_
        rintro _ w7 ⟨ks7, rfl, hD7, hc7, hg7⟩
        have hksn : ∀ k_ ∈ ks7, w.heap.size ≤ k_ := fun k_ hk_ => (hg7 k_ hk_).elim (hks k_) (fun h_ => Nat.le_trans hC.size h_)
        replace hC := hC.trans hc7 (fun k_ hk_ => .inr (hks k_ hk_))
        have hks := hksn; have hD := hD7
        refine ⟨_, rfl, ?_⟩
        rw [← hH] at hD
        refine OL.pure (Pure.neq rfl rfl) rfl ?_
        refine OL.cast (.bool false) 61 rfl (rfl) ?_
        refine OL.nil ?_
        refine TE.condF rfl rfl ?_
        refine TE.skip ?_
        refine TE.seq ?_
        refine TE.region ?_
        refine OL.pure (Pure.move rfl) rfl ?_
        refine OL.pure (Pure.move rfl) rfl ?_
        refine OL.call rfl Tryd.call11 rfl (size_any n0 hn0 _) ?_
        rintro _ _ ⟨rfl, rfl⟩
        refine ⟨_, rfl, ?_⟩
        refine OL.cast (.int .i64 ((P + 2 : Nat) : Int)) 65 rfl (by rw [hPd]) ?_
        refine OL.call rfl Tryd.call14 rfl (open_inv d 20 0 3 P hIf haP (by decide) hP2 (by decide) (fun h_ => absurd (hks _ h_) (by omega)) (fun h_ => absurd (hks _ h_) (by omega)) (by show H.gen < _; omega) _ hD (hK.chg0 hC) (hF.chg0 hC)) ?_
        rintro _ w8 ⟨ks8, r8, rs8, v8, rfl, hD8, hR8, hv8, hc8, hg8, hrs8, hmv8⟩
        have hksn : ∀ k_ ∈ ks8, w.heap.size ≤ k_ := fun k_ hk_ => (hg8 k_ hk_).elim (hks k_) (fun h_ => Nat.le_trans hC.size h_)
        have hrsn : ∀ k_ ∈ rs8, w.heap.size ≤ k_ := fun k_ hk_ => Nat.le_trans hC.size (hrs8 k_ hk_)
        replace hC := hC.trans hc8 (fun k_ hk_ => .inr (hks k_ hk_))
        have hks := hksn; have hD := hD8
        have hrs := hrsn; have hR := hR8
        refine ⟨_, rfl, ?_⟩
        have hI := hIf.open_ hP8 (by show H.gen < _; omega)
        obtain ⟨S0, hS0⟩ : ∃ S, S = openS ⟨H, []⟩ := ⟨_, rfl⟩
        rw [← hS0] at hI hR
        have hS0f : S0.hd.first = 0 := by rw [hS0]; exact hHf
        have hS0n : S0.next = 0 := by rw [hS0]; show H.first + 0 = 0; omega
        have hS0u : used S0.ents = 0 := by rw [hS0]; rfl
        have hS0g : S0.hd.gen ≤ 41 := by rw [hS0]; show H.gen + 1 ≤ 41; omega
        have hS0t : txts S0 = [] := by rw [hS0]; rfl
        refine OL.pure (Pure.move rfl) rfl ?_
        refine OL.pure (Pure.extract (vs := [.pointer (some ⟨r8, 0, none⟩), v8, .int .i64 0]) (i := 0) rfl rfl) rfl ?_
        refine OL.pure (Pure.extract (vs := [.pointer (some ⟨r8, 0, none⟩), v8, .int .i64 0]) (i := 1) rfl rfl) rfl ?_
        refine OL.pure (Pure.extract (vs := [.pointer (some ⟨r8, 0, none⟩), v8, .int .i64 0]) (i := 2) rfl rfl) rfl ?_
        refine OL.pure (Pure.assign rfl) rfl ?_
        refine OL.pure (Pure.assign rfl) rfl ?_
        refine OL.pure (Pure.assign rfl) rfl ?_
        refine OL.nil ?_
        refine TE.seq ?_
        refine TE.seq ?_
        refine TE.region ?_
        refine OL.pure (Pure.move rfl) rfl ?_
        refine OL.pure (Pure.neq rfl rfl) rfl ?_
        refine OL.cast (.bool false) 71 rfl (rfl) ?_
        refine OL.pure (Pure.move rfl) rfl ?_
        refine OL.want rfl rfl rfl (Pure.move rfl _) rfl ?_
        refine OL.want rfl rfl rfl (Pure.lenRow Tryd.runUnderlying38 rfl hv8 _) rfl ?_
        refine OL.want rfl rfl rfl (Pure.neq rfl rfl _) rfl ?_
        refine OL.cast (.bool false) 75 rfl (rfl) ?_
        refine OL.pure (Pure.pickF rfl rfl) rfl ?_
        refine OL.pure (Pure.move rfl) rfl ?_
        refine OL.want rfl rfl rfl (Pure.move rfl _) rfl ?_
        refine OL.callG rfl rfl rfl rfl Tryd.call15 rfl (First_of d 3 P r8 S0 _ _ hR) ?_
        rintro _ _ ⟨rfl, rfl⟩
        refine ⟨_, rfl, ?_⟩
        refine OL.cast (.int .i64 0) 79 rfl (congrArg (fun x : Nat => Value.int .i64 (x : Int)) hS0f) ?_
        refine OL.want rfl rfl rfl (Pure.neq rfl rfl _) rfl ?_
        refine OL.cast (.bool false) 80 rfl (rfl) ?_
        refine OL.pure (Pure.pickF rfl rfl) rfl ?_
        refine OL.pure (Pure.move rfl) rfl ?_
        refine OL.want rfl rfl rfl (Pure.move rfl _) rfl ?_
        refine OL.callG rfl rfl rfl rfl Tryd.call16 rfl (Next_of d 3 P r8 S0 _ _ hR) ?_
        rintro _ _ ⟨rfl, rfl⟩
        refine ⟨_, rfl, ?_⟩
        refine OL.cast (.int .i64 0) 84 rfl (congrArg (fun x : Nat => Value.int .i64 (x : Int)) hS0n) ?_
        refine OL.want rfl rfl rfl (Pure.neq rfl rfl _) rfl ?_
        refine OL.cast (.bool false) 85 rfl (rfl) ?_
        refine OL.pure (Pure.pickF rfl rfl) rfl ?_
        refine OL.pure (Pure.move rfl) rfl ?_
        refine OL.want rfl rfl rfl (Pure.move rfl _) rfl ?_
        refine OL.callG rfl rfl rfl rfl Tryd.call17 rfl (Free_of d 3 P r8 S0 _ (by omega) hP8 hI.ok.place (by omega) _ hR) ?_
        rintro _ w9 ⟨rfl, hc9⟩
        replace hD := hD.chg0 hc9
        replace hR := hR.chg0 hc9
        replace hC := hC.then_ hc9
        refine ⟨_, rfl, ?_⟩
        refine OL.cast (.int .i64 (P : Int)) 89 rfl (congrArg (fun x : Nat => Value.int .i64 (x : Int)) (by omega)) ?_
        refine OL.want rfl rfl rfl (Pure.move rfl _) rfl ?_
        refine OL.callG rfl rfl rfl rfl Tryd.call11 rfl (size_any n0 hn0 _) ?_
        rintro _ _ ⟨rfl, rfl⟩
        refine ⟨_, rfl, ?_⟩
        refine OL.cast (.int .i64 ((P + 2 : Nat) : Int)) 91 rfl (by rw [hPd]) ?_
        refine OL.want rfl rfl rfl (Pure.sub rfl rfl (i64 (by omega) (by omega)) _) rfl ?_
        refine OL.want rfl rfl rfl (Pure.neq rfl rfl _) rfl ?_
        refine OL.cast (.bool false) 93 rfl (congrArg Value.bool (decide_eq_false (by omega))) ?_
        refine OL.pure (Pure.pickF rfl rfl) rfl ?_
        refine OL.nil ?_
        refine TE.condF rfl rfl ?_
        refine TE.skip ?_
        refine TE.seq ?_
        refine TE.region ?_
        refine OL.pure (Pure.assign rfl) rfl ?_
        refine OL.nil ?_
        refine TE.seq ?_
        refine TE.seq ?_
        refine TE.region ?_
        refine OL.pure (Pure.assign rfl) rfl ?_
        refine OL.nil ?_
        refine TE.block ?_
        refine TE.loopInv (σ := Nat × (Int → List UInt8) × Nat × Rs × List Nat × List Nat × Value) [0, 2, 7, 11, 14, 15] (fun s_ w_ => match s_ with | (j, V, c, S, ks, rs, v) => j ≤ ts.length ∧ Dk 93 97 w_ d 20 (V) (c) false ks ∧ RgK 80 85 w_ r8 d 3 P (S) rs ∧ Inv V 3 P S ∧ (∀ k_ ∈ ks, w.heap.size ≤ k_) ∧ (∀ k_ ∈ rs, w.heap.size ≤ k_) ∧ Chg [] w w_ ∧ S.hd.first = 0 ∧ S.hd.gen ≤ 41 ∧ S.next ≤ j ∧ c ≤ 17 * j ∧ Row w_ 9 1 v (txts S).length (tv (txts S)) ∧ Mine w.heap.size v) (fun s_ => [(0, .int .u8 (↑n0)), (2, .slice B ts.length cap2), (7, .pointer (some ⟨d, 0, none⟩)), (11, .pointer (some ⟨r8, 0, none⟩)), (14, s_.2.2.2.2.2.2), (15, .int .i64 (s_.1 : Int))]) (fun s_ => ts.length - s_.1) (0, _, 0, S0, _, _, .slice none 0 0) ⟨Nat.zero_le _, hD, hR, hI, hks, hrs, hC, hS0f, hS0g, by omega, by omega, by rw [hS0t]; exact Row.nil _ _ _, Mine.nil _⟩ rfl ?_
        rintro ⟨j, V, c, S, ks, rs, v⟩ w10 ⟨hj, hD, hR, hI, hks, hrs, hC, hSf, hSg, hSn, hcc, hv, hm_v⟩ ih10
        try dsimp only
        refine TE.seq ?_
        refine TE.seq ?_
        refine TE.region ?_
        refine OL.pure (Pure.move rfl) rfl ?_
        refine OL.pure (Pure.move rfl) rfl ?_
        refine OL.pure (Pure.lenSlice Tryd.runUnderlying23 rfl) rfl ?_
        refine OL.pure (Pure.lss rfl rfl) rfl ?_
        refine OL.nil ?_
        refine TE.ite rfl (fun hlt => ?_) (fun hlt => ?_)
        ·
          replace hlt : j < ts.length := by omega
          obtain ⟨gB, oB, hBe, hcell⟩ := hB j hlt
          replace hcell := cell_chg hcell hC (by simp)
          obtain ⟨hz0, hz1⟩ := hts (ts.getD j 0) (getD_int_mem hlt)
          obtain ⟨Nt, hNt⟩ : ∃ n : Nat, ts.getD j 0 = (n : Int) := ⟨(ts.getD j 0).toNat, by omega⟩
          rw [hNt] at hcell
          refine TE.cast (.slice (some ⟨gB, oB, none⟩) ts.length cap2) 2 rfl (by rw [hBe]) ?_
          refine TE.skip ?_
          refine TE.seq ?_
          refine TE.block ?_
          refine TE.seq ?_
          refine TE.region ?_
          refine OL.pure (Pure.move rfl) rfl ?_
          refine OL.pure (Pure.move rfl) rfl ?_
          refine OL.pure (Pure.indexAddrS (r := oB + j) Tryd.runUnderlying23 Tryd.sizeOf33 rfl rfl (by omega) (by omega) (by omega)) rfl ?_
          refine OL.val (Run.loadCell rfl Tryd.isAgg33 hcell) rfl ?_
          refine OL.pure (Pure.move rfl) rfl ?_
          refine OL.pure (Pure.conv Tryd.runUnderlying3 Tryd.runUnderlying5 rfl (u8w _)) rfl ?_
          refine OL.cast (.int .u8 ((j % 256 : Nat) : Int)) 106 rfl (congrArg (Value.int .u8) (by omega)) ?_
          refine OL.call rfl Tryd.call18 rfl (text_any Nt (j % 256) (by omega) (by omega) _) ?_
          rintro _ w11 ⟨rfl, hc11⟩
          replace hD := hD.chg0 hc11
          replace hR := hR.chg0 hc11
          replace hv := hv.chg0 hc11
          replace hC := hC.then_ hc11
          refine ⟨_, rfl, ?_⟩
          have htxl := txt_len Nt (j % 256); have htm : Nt % 1600 < 1600 := Nat.mod_lt _ (by omega); have hroom := hI.room; have hpl := hI.ok.place; have hV := hD.len
          by_cases hfits : used S.ents + need (42 + (txt Nt (j % 256)).length) ≤ P
          ·
            refine OL.pure (Pure.assign rfl) rfl ?_
            refine OL.nil ?_
            refine TE.seq ?_
            refine TE.region ?_
            refine OL.pure (Pure.move rfl) rfl ?_
            refine OL.pure (Pure.move rfl) rfl ?_
            refine OL.call rfl Tryd.call19 rfl (app_ok d 20 c 3 P r8 hP haP (by decide) hpl (by omega) (txt Nt (j % 256)) (by omega) hfits (by omega) (by omega) (by omega) (fun h_ => absurd (hks _ h_) (by omega)) (fun h_ => absurd (hks _ h_) (by omega)) (fun h_ => absurd (hrs _ h_) (by omega)) (fun h_ => absurd (hrs _ h_) (by omega)) _ hD hR (hK.chg0 hC) (hF.chg0 hC)) ?_
            rintro _ w12 ⟨ks12, rs12, rfl, hD12, hR12, hc12, hg12, hgr12⟩
            have hv_ := hv.chg hc12 (fun k_ hk_ hm_ => (List.mem_append.1 hm_).elim (hR.apartRow hv (by decide) (by decide) k_ hk_) (hD.apartR hv (by decide) (by decide) k_ hk_))
            replace hv := hv_; clear hv_
            have hksn : ∀ k_ ∈ ks12, w.heap.size ≤ k_ := fun k_ hk_ => (hg12 k_ hk_).elim (hks k_) (fun h_ => Nat.le_trans hC.size h_)
            have hrsn : ∀ k_ ∈ rs12, w.heap.size ≤ k_ := fun k_ hk_ => (hgr12 k_ hk_).elim (hrs k_) (fun h_ => Nat.le_trans hC.size h_)
            replace hC := hC.trans hc12 (fun k_ hk_ => .inr ((List.mem_append.1 hk_).elim (hrs k_) (hks k_)))
            have hks := hksn; have hD := hD12
            have hrs := hrsn; have hR := hR12
            refine ⟨_, rfl, ?_⟩
            refine OL.pure (Pure.move rfl) rfl ?_
            refine OL.pure (Pure.extract (vs := [.int .i64 (S.next : Int), .int .i64 0]) (i := 0) rfl rfl) rfl ?_
            refine OL.pure (Pure.extract (vs := [.int .i64 (S.next : Int), .int .i64 0]) (i := 1) rfl rfl) rfl ?_
            refine OL.pure (Pure.assign rfl) rfl ?_
            refine OL.pure (Pure.assign rfl) rfl ?_
            refine OL.nil ?_
            refine TE.seq ?_
            refine TE.region ?_
            refine OL.pure (Pure.move rfl) rfl ?_
            refine OL.pure (Pure.eql rfl rfl) rfl ?_
            refine OL.cast (.bool true) 115 rfl (rfl) ?_
            refine OL.nil ?_
            refine TE.condT rfl rfl ?_
            refine TE.region ?_
            refine OL.pure (Pure.move rfl) rfl ?_
            refine OL.pure (Pure.move rfl) rfl ?_
            refine OL.buildSlice (cs := [.string (str (txt Nt (j % 256)))]) rfl Tryd.runUnderlying42 Tryd.sizeOf9 Tryd.zeroValue9 (by decide) (by decide) (by kernel_rfl) rfl ?_
            intro q w13 hq hc13 hg_q
            have ge_q : w.heap.size ≤ q := by have := hC.size; omega
            replace hD := hD.chg0 hc13
            replace hR := hR.chg0 hc13
            replace hv := hv.chg0 hc13
            replace hC := hC.then_ hc13
            have htn := txts_len S; have hSne : S.next = S.hd.first + S.ents.length := rfl
            refine OL.append (size := 1) (news := [.string (str (txt Nt (j % 256)))]) (v := v) rfl rfl Tryd.underlying42 (.inl Tryd.underlying42) info9 rfl rfl rfl (by decide) rfl hv ((Src.of_blk hq rfl rfl)) (by simp [Value.oneCell']) (by show _ * 16 ≤ _; omega) ?_
            intro v2 w14 hv2 hc14 ho_v2
            have hm_v2 : Mine w.heap.size v2 := Mine.step hm_v (by have := hC.size; omega) ho_v2
            replace hD := hD.chg hc14 (hD.apartR' hv (by decide) (by decide))
            replace hR := hR.chg hc14 (fun k_ hk_ hm_ => hR.apartRow hv (by decide) (by decide) k_ hm_ hk_)
            replace hC := hC.own hc14 hm_v
            replace hv2 : Row w14 9 1 v2 (txts (appS S (txt Nt (j % 256)))).length (tv (txts (appS S (txt Nt (j % 256))))) := by rw [txts_app, List.length_append, ← tv_snoc]; exact hv2
            have hsn := app_next S (txt Nt (j % 256))
            refine OL.pure (Pure.assign rfl) rfl ?_
            refine OL.nil ?_
            refine TE.inBlock ?_
            refine TE.region ?_
            refine OL.pure (Pure.move rfl) rfl ?_
            refine OL.pure (Pure.add rfl rfl (i64 (by omega) (by omega))) rfl ?_
            refine OL.pure (Pure.assign rfl) rfl ?_
            refine OL.nil ?_
            refine TE.cast (.slice B ts.length cap2) 2 rfl (by rw [hBe]) ?_
            exact TE.sub [0, 2, 7, 11, 14, 15] rfl (ih10 (j + 1, _, _, appS S (txt Nt (j % 256)), _, _, v2) _ ⟨by omega, hD, hR, hI.append hV hP8 (by omega) (by omega) hfits, hks, hrs, hC, hSf, hSg, by omega, by have := need_le hfits; omega, hv2, hm_v2⟩ (by simp only []; omega))
          ·
            refine OL.pure (Pure.assign rfl) rfl ?_
            refine OL.nil ?_
            refine TE.seq ?_
            refine TE.region ?_
            refine OL.pure (Pure.move rfl) rfl ?_
            refine OL.pure (Pure.move rfl) rfl ?_
            refine OL.call rfl Tryd.call19 rfl (app_full d 20 c 3 P r8 hP haP (by decide) hpl (by omega) (txt Nt (j % 256)) (by omega) hroom (by omega) _ hD hR (hK.chg0 hC) (hF.chg0 hC)) ?_
            rintro _ w15 ⟨rfl, hc15⟩
            replace hD := hD.chg0 hc15
            replace hR := hR.chg0 hc15
            replace hv := hv.chg0 hc15
            replace hC := hC.then_ hc15
            refine ⟨_, rfl, ?_⟩
            refine OL.pure (Pure.move rfl) rfl ?_
            refine OL.pure (Pure.extract (vs := [.int .i64 0, .int .i64 26]) (i := 0) rfl rfl) rfl ?_
            refine OL.pure (Pure.extract (vs := [.int .i64 0, .int .i64 26]) (i := 1) rfl rfl) rfl ?_
            refine OL.pure (Pure.assign rfl) rfl ?_
            refine OL.pure (Pure.assign rfl) rfl ?_
            refine OL.nil ?_
            refine TE.seq ?_
            refine TE.region ?_
            refine OL.pure (Pure.move rfl) rfl ?_
            refine OL.pure (Pure.eql rfl rfl) rfl ?_
            refine OL.cast (.bool false) 115 rfl (rfl) ?_
            refine OL.nil ?_
            refine TE.condF rfl rfl ?_
            refine TE.skip ?_
            refine TE.inBlock ?_
            refine TE.region ?_
            refine OL.pure (Pure.move rfl) rfl ?_
            refine OL.pure (Pure.add rfl rfl (i64 (by omega) (by omega))) rfl ?_
            refine OL.pure (Pure.assign rfl) rfl ?_
            refine OL.nil ?_
            refine TE.cast (.slice B ts.length cap2) 2 rfl (by rw [hBe]) ?_
            exact TE.sub [0, 2, 7, 11, 14, 15] rfl (ih10 (j + 1, V, c, S, ks, rs, v) _ ⟨by omega, hD, hR, hI, hks, hrs, hC, hSf, hSg, by omega, by omega, hv, hm_v⟩ (by simp only []; omega))
        ·
          have hpl := hI.ok.place
          refine TE.exit rfl ?_
          refine TE.seq ?_
          refine TE.seq ?_
          refine TE.region ?_
          refine OL.pure (Pure.move rfl) rfl ?_
          refine OL.call rfl Tryd.call20 rfl (sync_any d 20 c 3 P r8 hP haP (by decide) hpl (by omega) (by omega) _ hD hR) ?_
          rintro _ w16 ⟨ks16, rs16, rfl, hD16, hR16, hc16, hg16, hgr16⟩
          have hv_ := hv.chg hc16 (fun k_ hk_ hm_ => (List.mem_append.1 hm_).elim (hR.apartRow hv (by decide) (by decide) k_ hk_) (hD.apartR hv (by decide) (by decide) k_ hk_))
          replace hv := hv_; clear hv_
          have hksn : ∀ k_ ∈ ks16, w.heap.size ≤ k_ := fun k_ hk_ => (hg16 k_ hk_).elim (hks k_) (fun h_ => Nat.le_trans hC.size h_)
          have hrsn : ∀ k_ ∈ rs16, w.heap.size ≤ k_ := fun k_ hk_ => (hgr16 k_ hk_).elim (hrs k_) (fun h_ => Nat.le_trans hC.size h_)
          replace hC := hC.trans hc16 (fun k_ hk_ => .inr ((List.mem_append.1 hk_).elim (hrs k_) (hks k_)))
          have hks := hksn; have hD := hD16
          have hrs := hrsn; have hR := hR16
          refine ⟨_, rfl, ?_⟩
          refine OL.pure (Pure.neq rfl rfl) rfl ?_
          refine OL.cast (.bool false) 122 rfl (rfl) ?_
          refine OL.nil ?_
          refine TE.condF rfl rfl ?_
          refine TE.skip ?_
          refine TE.seq ?_
          refine TE.region ?_
          refine OL.pure (Pure.move rfl) rfl ?_
          refine OL.call rfl Tryd.call21 rfl (dfail_law d 20 0 _ hD) ?_
          rintro _ w17 ⟨ks17, rfl, hD17, hc17, hg17⟩
          have hv_ := hv.chg hc17 (hD.apartR hv (by decide) (by decide))
          replace hv := hv_; clear hv_
          have hksn : ∀ k_ ∈ ks17, w.heap.size ≤ k_ := fun k_ hk_ => (hg17 k_ hk_).elim (hks k_) (fun h_ => Nat.le_trans hC.size h_)
          replace hC := hC.trans hc17 (fun k_ hk_ => .inr (hks k_ hk_))
          have hks := hksn; have hD := hD17
          refine ⟨_, rfl, ?_⟩
          refine OL.nil ?_
          refine TE.seq ?_
          refine TE.seq ?_
          refine TE.region ?_
          refine OL.pure (Pure.move rfl) rfl ?_
          refine OL.call rfl Tryd.call22 rfl (drestart_any d 20 _ hD) ?_
          rintro _ w18 ⟨ks18, rfl, hD18, hc18, hg18⟩
          have hv_ := hv.chg hc18 (hD.apartR hv (by decide) (by decide))
          replace hv := hv_; clear hv_
          have hksn : ∀ k_ ∈ ks18, w.heap.size ≤ k_ := fun k_ hk_ => (hg18 k_ hk_).elim (hks k_) (fun h_ => Nat.le_trans hC.size h_)
          replace hC := hC.trans hc18 (fun k_ hk_ => .inr (hks k_ hk_))
          have hks := hksn; have hD := hD18
          refine ⟨_, rfl, ?_⟩
          refine OL.pure (Pure.neq rfl rfl) rfl ?_
          refine OL.cast (.bool false) 127 rfl (rfl) ?_
          refine OL.nil ?_
          refine TE.condF rfl rfl ?_
          refine TE.skip ?_
          refine TE.seq ?_
          refine TE.region ?_
          refine OL.pure (Pure.move rfl) rfl ?_
          refine OL.pure (Pure.move rfl) rfl ?_
          refine OL.call rfl Tryd.call11 rfl (size_any n0 hn0 _) ?_
          rintro _ _ ⟨rfl, rfl⟩
          refine ⟨_, rfl, ?_⟩
          refine OL.cast (.int .i64 ((P + 2 : Nat) : Int)) 131 rfl (by rw [hPd]) ?_
          refine OL.call rfl Tryd.call14 rfl (open_inv d 20 0 3 P hI haP (by decide) hP2 (by decide) (fun h_ => absurd (hks _ h_) (by omega)) (fun h_ => absurd (hks _ h_) (by omega)) (by omega) _ hD (hK.chg0 hC) (hF.chg0 hC)) ?_
          rintro _ w19 ⟨ks19, r19, rs19, v19, rfl, hD19, hR19, hv19, hc19, hg19, hrs19, hmv19⟩
          have hv_ := hv.chg hc19 (hD.apartR hv (by decide) (by decide))
          replace hv := hv_; clear hv_
          have hksn : ∀ k_ ∈ ks19, w.heap.size ≤ k_ := fun k_ hk_ => (hg19 k_ hk_).elim (hks k_) (fun h_ => Nat.le_trans hC.size h_)
          have hrsn : ∀ k_ ∈ rs19, w.heap.size ≤ k_ := fun k_ hk_ => Nat.le_trans hC.size (hrs19 k_ hk_)
          replace hC := hC.trans hc19 (fun k_ hk_ => .inr (hks k_ hk_))
          have hks := hksn; have hD := hD19
          have hrs := hrsn; have hR := hR19
          refine ⟨_, rfl, ?_⟩
          rw [hSf] at hv19
          have htn := txts_len S
          have hSne2 : S.next = S.hd.first + S.ents.length := rfl
          refine OL.pure (Pure.move rfl) rfl ?_
          refine OL.pure (Pure.extract (vs := [.pointer (some ⟨r19, 0, none⟩), v19, .int .i64 0]) (i := 0) rfl rfl) rfl ?_
          refine OL.pure (Pure.extract (vs := [.pointer (some ⟨r19, 0, none⟩), v19, .int .i64 0]) (i := 1) rfl rfl) rfl ?_
          refine OL.pure (Pure.extract (vs := [.pointer (some ⟨r19, 0, none⟩), v19, .int .i64 0]) (i := 2) rfl rfl) rfl ?_
          refine OL.pure (Pure.assign rfl) rfl ?_
          refine OL.pure (Pure.assign rfl) rfl ?_
          refine OL.pure (Pure.assign rfl) rfl ?_
          refine OL.nil ?_
          refine TE.seq ?_
          refine TE.seq ?_
          refine TE.region ?_
          refine OL.pure (Pure.move rfl) rfl ?_
          refine OL.pure (Pure.neq rfl rfl) rfl ?_
          refine OL.cast (.bool false) 137 rfl (rfl) ?_
          refine OL.pure (Pure.move rfl) rfl ?_
          refine OL.want rfl rfl rfl (Pure.move rfl _) rfl ?_
          refine OL.want rfl rfl rfl (Pure.lenRow Tryd.runUnderlying38 rfl hv19 _) rfl ?_
          refine OL.want rfl rfl rfl (Pure.move rfl _) rfl ?_
          refine OL.want rfl rfl rfl (Pure.lenRow Tryd.runUnderlying42 rfl hv _) rfl ?_
          refine OL.want rfl rfl rfl (Pure.neq rfl rfl _) rfl ?_
          refine OL.cast (.bool false) 143 rfl (congrArg Value.bool (decide_eq_false (by omega))) ?_
          refine OL.pure (Pure.pickF rfl rfl) rfl ?_
          refine OL.nil ?_
          refine TE.condF rfl rfl ?_
          refine TE.skip ?_
          refine TE.seq ?_
          refine TE.seq ?_
          refine TE.region ?_
          refine OL.pure (Pure.assign rfl) rfl ?_
          refine OL.nil ?_
          refine TE.block ?_
          refine TE.loopInv (σ := Nat) [14, 20, 22] (fun s_ w_ => s_ ≤ S.ents.length ∧ Chg [] w19 w_) (fun s_ => [(14, v), (20, v19), (22, .int .i64 (s_ : Int))]) (fun s_ => S.ents.length - s_) 0 ⟨Nat.zero_le _, Chg.refl _ _⟩ rfl ?_
          rintro i w20 ⟨hi, hcl⟩ ih20
          have hv := hv.chg0 hcl
          have hv19 := hv19.chg0 hcl
          refine TE.seq ?_
          refine TE.seq ?_
          refine TE.region ?_
          refine OL.pure (Pure.move rfl) rfl ?_
          refine OL.pure (Pure.move rfl) rfl ?_
          refine OL.pure (Pure.lenRow Tryd.runUnderlying38 rfl hv19) rfl ?_
          refine OL.pure (Pure.lss rfl rfl) rfl ?_
          refine OL.nil ?_
          refine TE.ite rfl (fun hlt => ?_) (fun hlt => ?_)
          ·
            replace hlt : i < S.ents.length := by omega
            obtain ⟨gy, capy, csy, hvf, hby, hcy, hly, hty⟩ := hv19.form (by omega)
            obtain ⟨ga, capa, csa, hvg, hba, hca, hla, hta⟩ := hv.form (by rw [txts_len]; omega)
            refine TE.cast (.slice (some ⟨gy, 0, none⟩) S.ents.length capy) 20 rfl (hvf) ?_
            refine TE.cast (.slice (some ⟨ga, 0, none⟩) (txts S).length capa) 14 rfl (hvg) ?_
            have htn_ := txts_len S
            refine TE.skip ?_
            refine TE.seq ?_
            refine TE.block ?_
            refine TE.seq ?_
            refine TE.planAll (.cons (0, true) (.cons (1, true) (.cons (2, true) (.cons (3, true) (.cons (4, true) (.cons (5, true) (.cons (6, true) (.cons (7, true) (.cons (8, true) (.cons (9, true) (.cons (10, true) (.cons (11, true) (.cons (12, true) (.cons (13, true) (.cons (14, true) (.cons (15, true) (.cons (16, true) (.cons (17, true) (.cons (18, true) .nil))))))))))))))))))) (fun w_ => Chg [] w20 w_) rfl (by kernel_rfl) ?_
            have hS21 : Chg [] w20 w20.drew := Chg.drew _ _
            refine PL.takeP rfl (Pure.move rfl) rfl hS21 ?_
            refine PL.takeP rfl (Pure.move rfl) rfl hS21 ?_
            refine PL.takeP rfl (Pure.indexAddrS (r := 2 * i) Tryd.runUnderlying38 Tryd.sizeOf49 rfl rfl (by omega) (by omega) (by omega)) rfl hS21 ?_
            refine PL.takeP rfl (Pure.fieldAddr (r := 2 * i) Tryd.runUnderlying49 rfl Tryd.sizeOf3 rfl rfl) rfl hS21 ?_
            refine PL.take rfl (fun w_ h_ => Run.load (i := 2 * i) rfl Tryd.isAgg3 (hby.chg0 h_) (by omega) (entC_num hty rfl hlt)) rfl hS21 ?_
            refine PL.takeP rfl (Pure.move rfl) rfl hS21 ?_
            refine PL.takeP rfl (Pure.neq rfl rfl) rfl hS21 ?_
            refine PL.cast (.bool false) 157 rfl (congrArg Value.bool (decide_eq_false (by omega))) ?_
            refine PL.takeP rfl (Pure.move rfl) rfl hS21 ?_
            refine PL.takeG _ (fun _ h_ => h_) rfl rfl rfl rfl (fun w_ h_ => Pure.move rfl _) rfl hS21 ?_
            refine PL.takeG _ (fun _ h_ => h_) rfl rfl rfl rfl (fun w_ h_ => Pure.move rfl _) rfl hS21 ?_
            refine PL.takeG _ (fun _ h_ => h_) rfl rfl rfl rfl (fun w_ h_ => Pure.indexAddrS (r := 2 * i) Tryd.runUnderlying38 Tryd.sizeOf49 rfl rfl (by omega) (by omega) (by omega) _) rfl hS21 ?_
            refine PL.takeG _ (fun _ h_ => h_) rfl rfl rfl rfl (fun w_ h_ => Pure.fieldAddr (r := 2 * i + 1) Tryd.runUnderlying49 rfl Tryd.sizeOf9 rfl rfl _) rfl hS21 ?_
            refine PL.takeG _ (fun _ h_ => h_) rfl rfl rfl rfl (fun w_ h_ => Run.load (i := 2 * i + 1) rfl Tryd.isAgg9 (hby.chg0 h_) (by omega) (entC_txt hty rfl hlt)) rfl hS21 ?_
            refine PL.takeG _ (fun _ h_ => h_) rfl rfl rfl rfl (fun w_ h_ => Pure.move rfl _) rfl hS21 ?_
            refine PL.takeG _ (fun _ h_ => h_) rfl rfl rfl rfl (fun w_ h_ => Pure.move rfl _) rfl hS21 ?_
            refine PL.takeG _ (fun _ h_ => h_) rfl rfl rfl rfl (fun w_ h_ => Pure.indexAddrS (r := i) Tryd.runUnderlying42 Tryd.sizeOf9 rfl rfl (by omega) (by omega) (by omega) _) rfl hS21 ?_
            refine PL.takeG _ (fun _ h_ => h_) rfl rfl rfl rfl (fun w_ h_ => Run.load (i := i) rfl Tryd.isAgg9 (hba.chg0 h_) (by omega) (tv_cell hta rfl (by rw [txts_len]; exact hlt))) rfl hS21 ?_
            refine PL.takeG _ (fun _ h_ => h_) rfl rfl rfl rfl (fun w_ h_ => Pure.strNeq (l := ((txts S).getD i [])) (m := ((txts S).getD i [])) rfl rfl _) rfl hS21 ?_
            refine PL.cast (.bool false) 168 rfl (congrArg Value.bool (decide_eq_false (fun h => h rfl))) ?_
            refine PL.takeP rfl (Pure.pickF rfl rfl) rfl hS21 ?_
            refine PL.nil ?_
            replace hv := hv.chg0 hS21
            replace hv19 := hv19.chg0 hS21
            replace hby := hby.chg0 hS21
            replace hba := hba.chg0 hS21
            replace hcl := hcl.then_ hS21
            refine TE.condF rfl rfl ?_
            refine TE.skip ?_
            refine TE.inBlock ?_
            refine TE.region ?_
            refine OL.pure (Pure.move rfl) rfl ?_
            refine OL.pure (Pure.add rfl rfl (i64 (by omega) (by omega))) rfl ?_
            refine OL.pure (Pure.assign rfl) rfl ?_
            refine OL.nil ?_
            refine TE.cast (v19) 20 rfl (hvf.symm) ?_
            refine TE.cast (v) 14 rfl (hvg.symm) ?_
            exact TE.sub [14, 20, 22] rfl (ih20 (i + 1) _ ⟨by omega, hcl⟩ (by omega))
          ·
            refine TE.exit rfl ?_
            refine TE.seq ?_
            refine TE.region ?_
            refine OL.pure (Pure.assign rfl) rfl ?_
            refine OL.nil ?_
            exact TE.ret (vs := [.bool true]) Tryd.results3 (⟨rfl, trivial⟩) ⟨rfl, hC.then_ hcl⟩

end Go.Proofs.YtcologcjhenmkaaDoor
