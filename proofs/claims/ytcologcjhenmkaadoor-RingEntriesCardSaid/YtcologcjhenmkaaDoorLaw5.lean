/- What the laws of rings do, continued. Conditions: none of its own. -/
import Derived.Test.YtcologcjhenmkaaDoorSpecB
import Derived.Test.YtcologcjhenmkaaDoorProg
import Derived.Test.YtcologcjhenmkaaDoorRnl
set_option linter.unusedVariables false
namespace Go.Rg
open Go Go.V Go.Frm
theorem drop_getD {T : List (List UInt8)} {k i : Nat} : (T.drop k).getD i [] = T.getD (k + i) [] := by
  simp [List.getD_eq_getElem?_getD]
theorem txts_trim {P : Nat} {S : Rs} {k : Nat} : txts (trimS P S k) = (txts S).drop k := by simp [txts, trimS]
theorem used_nil_of {E : List Ent} (h : E.length = 0) : used E = 0 := by
  rw [List.eq_nil_of_length_eq_zero h]; rfl
end Go.Rg
namespace Go.Rg
open Go Go.V Go.Frm
def updT (f : Int → List UInt8) (n : Int) (t : List UInt8) : Int → List UInt8 := fun j => if j = n then t else f j
/-- The map of a law has the texts of the entries. -/
def Maps (S : Rs) (f : Int → List UInt8) : Prop := ∀ j, j < S.ents.length → (txts S).getD j [] = f ((S.hd.first + j : Nat) : Int)
theorem Maps.app {S : Rs} {f : Int → List UInt8} {t : List UInt8} (h : Maps S f) : Maps (appS S t) (updT f (S.next : Int) t) := by
  intro j hj
  have hl : (txts S).length = S.ents.length := txts_len S
  have hj' : j < S.ents.length + 1 := by simpa [appS] using hj
  have hn : S.next = S.hd.first + S.ents.length := rfl
  rw [txts_app]
  show _ = updT f (S.next : Int) t ((S.hd.first + j : Nat) : Int)
  by_cases e : j = S.ents.length
  · subst e
    rw [updT, if_pos (by omega), ← hl]
    simp [List.getD_eq_getElem?_getD]
  · rw [updT, if_neg (by omega), ← h j (by omega)]
    simp [List.getD_eq_getElem?_getD, List.getElem?_append_left (show j < (txts S).length by omega)]
theorem Maps.trim {P : Nat} {S : Rs} {f : Int → List UInt8} {k : Nat} (h : Maps S f) : Maps (trimS P S k) f := by
  intro j hj
  have hj' : j < S.ents.length - k := by simpa [trimS] using hj
  rw [txts_trim, Rg.drop_getD, h (k + j) (by omega)]
  show f ((S.hd.first + (k + j) : Nat) : Int) = f ((S.hd.first + k + j : Nat) : Int)
  rw [Nat.add_assoc]
theorem Maps.nil (f : Int → List UInt8) : Maps S1 f := fun j hj => by simp [S1] at hj
theorem Maps.ext {S : Rs} {f g : Int → List UInt8} (h : Maps S f) (e : S = S) : Maps S f := h
end Go.Rg
/- The law that a ring opened again returns all entries, walked -/
set_option linter.unusedVariables false
set_option maxRecDepth 4000
namespace Go.Proofs.YtcologcjhenmkaaDoor
open Go.V Go.Rg Go.Frm Go.Sha
set_option maxHeartbeats 4000000 in
theorem entries_law_any {tK tF : TypeId} (n0 : Nat) (hn0 : n0 ≤ 255) (A : Option Addr) (cap : Nat) (L : List Opr) (hL : ∀ o ∈ L, o.k ≤ 255 ∧ o.N ≤ 65535 ∧ o.B ≤ 255) (hLl : L.length ≤ 9223372036854775807) (w : World) (hK : Blk w 1 tK (iv .u32 K)) (hF : Blk w 0 tF (iv .i64 fldL)) (hA : CellsOp w A L) : Calls Tryd.prog 5 #[.int .u8 (n0 : Int), .slice A L.length cap] w (RetC (.bool true) w) := by
  refine calls_of_TE (vs := [.int .u8 (n0 : Int), .slice A L.length cap]) Tryd.func5 Tryd.ntmps5 rfl (by simp) ?_
  have hC : Chg [] w w := Chg.refl _ _
  have h0w : 1 < w.heap.size := hK.lt
  have h1w : 0 < w.heap.size := hF.lt
  obtain ⟨P, hPd⟩ : ∃ P, P = 2 + n0 % 14 := ⟨_, rfl⟩
  have hP2 : 2 ≤ P := by omega
  have hP15 : P ≤ 15 := by omega
  have hP : 0 < P := by omega
  have hP8 : P ≤ 8192 := by omega
  have haP : 3 + 2 + P ≤ 20 := by omega
  refine TE.seq ?_
  refine TE.region ?_
  refine OL.pure (Pure.assign rfl) rfl ?_
  refine OL.nil ?_
  refine TE.seq ?_
  refine TE.seq ?_
  refine TE.region ?_
  refine OL.call rfl Tryd.call8 rfl (known_any _ (hK.chg0 hC) (hF.chg0 hC)) ?_
  rintro _ w1 ⟨rfl, hc1⟩
  replace hC := hC.then_ hc1
  refine ⟨_, rfl, ?_⟩
  refine OL.pure (Pure.not rfl) rfl ?_
  refine OL.pure (Pure.move rfl) rfl ?_
  refine OL.want rfl rfl rfl (Pure.move rfl _) rfl ?_
  refine OL.callG rfl rfl rfl rfl Tryd.call9 rfl (fits_any A cap L hLl _ (hA.chg0 hC)) ?_
  rintro _ _ ⟨b, rfl, hfit, rfl⟩
  refine ⟨_, rfl, ?_⟩
  cases b with
  | false =>
    refine OL.want rfl rfl rfl (Pure.not rfl _) rfl ?_
    refine OL.pure (Pure.pickF rfl rfl) rfl ?_
    refine OL.nil ?_
    refine TE.condT rfl rfl ?_
    refine TE.seq ?_
    refine TE.region ?_
    refine OL.call rfl Tryd.call8 rfl (known_any _ (hK.chg0 hC) (hF.chg0 hC)) ?_
    rintro _ w2 ⟨rfl, hc2⟩
    replace hC := hC.then_ hc2
    refine ⟨_, rfl, ?_⟩
    refine OL.pure (Pure.assign rfl) rfl ?_
    refine OL.nil ?_
    exact TE.ret (vs := [.bool true]) Tryd.results5 (⟨rfl, trivial⟩) ⟨rfl, hC⟩
  | true =>
    replace hfit := hfit rfl
    refine OL.want rfl rfl rfl (Pure.not rfl _) rfl ?_
    refine OL.pure (Pure.pickF rfl rfl) rfl ?_
    refine OL.nil ?_
    refine TE.condF rfl rfl ?_
    refine TE.skip ?_
    refine TE.seq ?_
    refine TE.region ?_
    refine OL.pure (Pure.move rfl) rfl ?_
    refine OL.call rfl Tryd.call11 rfl (size_any n0 hn0 _) ?_
    rintro _ _ ⟨rfl, rfl⟩
    refine ⟨_, rfl, ?_⟩
    refine OL.cast (.int .i64 ((P + 2 : Nat) : Int)) 26 rfl (by rw [hPd]) ?_
    refine OL.call rfl Tryd.call10 rfl (fresh_any P hP2 hP15 _ (hK.chg0 hC) (hF.chg0 hC)) ?_
    rintro _ w3 ⟨V3, ks3, rs3, d, r, rfl, hD, hR, hI, hc3, hkk, hrr⟩
    have hks : ∀ k_ ∈ ks3, w.heap.size ≤ k_ := fun k_ hk_ => Nat.le_trans hC.size (hkk k_ hk_)
    have hrs : ∀ k_ ∈ rs3, w.heap.size ≤ k_ := fun k_ hk_ => Nat.le_trans hC.size (hrr k_ hk_)
    replace hC := hC.then_ hc3
    refine ⟨_, rfl, ?_⟩
    refine OL.pure (Pure.move rfl) rfl ?_
    refine OL.pure (Pure.extract (vs := [.pointer (some ⟨d, 0, none⟩), .pointer (some ⟨r, 0, none⟩), .bool true]) (i := 0) rfl rfl) rfl ?_
    refine OL.pure (Pure.extract (vs := [.pointer (some ⟨d, 0, none⟩), .pointer (some ⟨r, 0, none⟩), .bool true]) (i := 1) rfl rfl) rfl ?_
    refine OL.pure (Pure.extract (vs := [.pointer (some ⟨d, 0, none⟩), .pointer (some ⟨r, 0, none⟩), .bool true]) (i := 2) rfl rfl) rfl ?_
    refine OL.pure (Pure.assign rfl) rfl ?_
    refine OL.pure (Pure.assign rfl) rfl ?_
    refine OL.pure (Pure.assign rfl) rfl ?_
    refine OL.nil ?_
    refine TE.seq ?_
    refine TE.seq ?_
    refine TE.region ?_
    refine OL.pure (Pure.move rfl) rfl ?_
    refine OL.pure (Pure.not rfl) rfl ?_
    refine OL.nil ?_
    refine TE.condF rfl rfl ?_
    refine TE.skip ?_
    refine TE.seq ?_
    refine TE.region ?_
    have hDlt := hD.lt; have hRlt := hR.lt
    refine OL.makeMap (.string (str [])) rfl ?_
    intro mb w1m hm hcm hgm
    replace hD := hD.chg0 hcm
    replace hR := hR.chg0 hcm
    replace hC := hC.then_ hcm
    have hmk : mb ∉ ks3 := fun h_ => by have := hDlt _ h_; omega
    have hmr : mb ∉ rs3 := fun h_ => by have := hRlt _ h_; omega
    have ge_mb : w.heap.size ≤ mb := by have := hDlt _ hD.mem; have := hks _ hD.mem; omega
    replace hm : Mp w1m mb (.string (str [])) (fun k_ => .string (str ((fun _ => []) k_))) := hm
    refine OL.pure (Pure.assign rfl) rfl ?_
    refine OL.nil ?_
    refine TE.seq ?_
    refine TE.seq ?_
    refine TE.region ?_
    refine OL.pure (Pure.assign rfl) rfl ?_
    refine OL.nil ?_
    refine TE.block ?_
    refine TE.loopInv (σ := Nat × (Int → List UInt8) × Nat × Rs × List Nat × List Nat × (Int → List UInt8)) [0, 1, 5, 6, 8, 9] (fun s_ w_ => match s_ with | (i, V, c, S, ks, rs, f) => i ≤ L.length ∧ S.hd.gen ≤ 1 + i ∧ S.next ≤ i ∧ c ≤ 17 * i ∧ Dk 93 97 w_ d 20 (V) (c) false ks ∧ RgK 80 85 w_ r d 3 P (S) rs ∧ Inv V 3 P S ∧ (∀ k_ ∈ ks, w.heap.size ≤ k_) ∧ (∀ k_ ∈ rs, w.heap.size ≤ k_) ∧ Chg [] w w_ ∧ mb ∉ ks ∧ mb ∉ rs ∧ Mp w_ mb (.string (str [])) (fun k_ => .string (str (f k_))) ∧ Maps S f) (fun s_ => [(0, .int .u8 (↑n0)), (1, .slice A L.length cap), (5, .pointer (some ⟨d, 0, none⟩)), (6, .pointer (some ⟨r, 0, none⟩)), (8, .map (some mb)), (9, .int .i64 (s_.1 : Int))]) (fun s_ => L.length - s_.1) (0, V3, 0, S1, ks3, rs3, fun _ => []) ⟨Nat.zero_le _, by decide, by decide, Nat.zero_le _, hD, hR, hI, hks, hrs, hC, hmk, hmr, hm, Maps.nil _⟩ rfl ?_
    rintro ⟨i, V, c, S, ks, rs, f⟩ w4 ⟨hi, hgen, hnext, hcc, hD, hR, hI, hks, hrs, hC, hmk, hmr, hm, hmap⟩ ih4
    try dsimp only
    refine TE.seq ?_
    refine TE.seq ?_
    refine TE.region ?_
    refine OL.pure (Pure.move rfl) rfl ?_
    refine OL.pure (Pure.move rfl) rfl ?_
    refine OL.pure (Pure.lenSlice Tryd.runUnderlying22 rfl) rfl ?_
    refine OL.pure (Pure.lss rfl rfl) rfl ?_
    refine OL.nil ?_
    refine TE.ite rfl (fun hlt => ?_) (fun hlt => ?_)
    ·
      replace hlt : i < L.length := by omega
      refine TE.skip ?_
      refine TE.seq ?_
      refine TE.block ?_
      refine TE.seq ?_
      refine TE.region ?_
      refine OL.pure (Pure.move rfl) rfl ?_
      refine OL.call rfl Tryd.call16 rfl (Next_of d 3 P r S _ _ hR) ?_
      rintro _ _ ⟨rfl, rfl⟩
      refine ⟨_, rfl, ?_⟩
      obtain ⟨g_op, o_op, hAe, hra0⟩ := hA i hlt
      obtain ⟨op, hop⟩ : ∃ x, x = L.getD i Opr.zero := ⟨_, rfl⟩
      rw [← hop] at hra0
      obtain ⟨hb1, hb2, hb3⟩ := hL op (by rw [hop]; exact getD_op_mem hlt)
      have hra := rangeAt_chg hra0 hC
      refine OL.pure (Pure.assign rfl) rfl ?_
      refine OL.nil ?_
      refine TE.seq ?_
      refine TE.region ?_
      refine OL.pure (Pure.move rfl) rfl ?_
      refine OL.cast (.slice (some ⟨g_op, o_op, none⟩) L.length cap) 1 rfl (by rw [hAe]) ?_
      refine OL.pure (Pure.move rfl) rfl ?_
      refine OL.pure (Pure.move rfl) rfl ?_
      refine OL.pure (Pure.indexAddrS (r := o_op + 4 * i) Tryd.runUnderlying22 Tryd.sizeOf36 rfl rfl (by omega) (by omega) (by omega)) rfl ?_
      refine OL.val (Run.loadRange rfl Tryd.underlying36 rfl rfl hra) rfl ?_
      refine OL.call rfl Tryd.call12 rfl (step_any d 20 c 3 P r op.k op.N op.B op.m op.c op.X hP haP (by decide) hb1 hb2 hb3 hI (by omega) (by omega) (by omega) (fun h_ => absurd (hks _ h_) (by omega)) (fun h_ => absurd (hks _ h_) (by omega)) (fun h_ => absurd (hrs _ h_) (by omega)) (fun h_ => absurd (hrs _ h_) (by omega)) _ hD hR (hK.chg0 hC) (hF.chg0 hC)) ?_
      rintro _ w5 ⟨V5, c5, S5, ks5, rs5, er5, rfl, hD5, hR5, hc5, hg5, hgr5, hI5, hst5, hout5, hcb5⟩
      have hmlt := hm.lt
      have hm_ := hm.chg hc5 (fun hm_ => (List.mem_append.1 hm_).elim hmr hmk)
      replace hm := hm_; clear hm_
      have hmkn := Grew.out hg5 hmk hmlt
      have hmrn := Grew.out hgr5 hmr hmlt; replace hmr := hmrn
      replace hmk := hmkn
      have hksn : ∀ k_ ∈ ks5, w.heap.size ≤ k_ := fun k_ hk_ => (hg5 k_ hk_).elim (hks k_) (fun h_ => Nat.le_trans hC.size h_)
      have hrsn : ∀ k_ ∈ rs5, w.heap.size ≤ k_ := fun k_ hk_ => (hgr5 k_ hk_).elim (hrs k_) (fun h_ => Nat.le_trans hC.size h_)
      replace hC := hC.trans hc5 (fun k_ hk_ => .inr ((List.mem_append.1 hk_).elim (hrs k_) (hks k_)))
      have hks := hksn; have hD := hD5
      have hrs := hrsn; have hR := hR5
      refine ⟨_, rfl, ?_⟩
      have hsg := hst5.gen; have hsn := hst5.next.1; have hra := rangeAt_chg hra0 hC
      rcases hst5 with ⟨hk3, ⟨he, hS2⟩ | ⟨he, hS2⟩⟩ | ⟨hk3, he, hS2⟩ | ⟨hk3, ⟨he, j, hj0, hjl, hS2⟩ | hS2⟩
      ·
        refine OL.pure (Pure.assign rfl) rfl ?_
        refine OL.nil ?_
        refine TE.seq ?_
        refine TE.region ?_
        refine OL.pure (Pure.move rfl) rfl ?_
        refine OL.pure (Pure.eql rfl rfl) rfl ?_
        refine OL.cast (.bool true) 49 rfl (congrArg Value.bool (decide_eq_true (he))) ?_
        refine OL.pure (Pure.move rfl) rfl ?_
        refine OL.want rfl rfl rfl (Pure.move rfl _) rfl ?_
        refine OL.want rfl rfl rfl (Pure.move rfl _) rfl ?_
        refine OL.want rfl rfl rfl (Pure.indexAddrS (r := o_op + 4 * i) Tryd.runUnderlying22 Tryd.sizeOf36 rfl rfl (by omega) (by omega) (by omega) _) rfl ?_
        refine OL.want rfl rfl rfl (Pure.fieldAddr (r := o_op + 4 * i) Tryd.runUnderlying36 rfl Tryd.sizeOf5 rfl rfl _) rfl ?_
        refine OL.want rfl rfl rfl (Run.loadCell rfl Tryd.isAgg5 (show _ = some (Value.int .u8 (op.k : Int)) from hra 0 _ rfl)) rfl ?_
        refine OL.want rfl rfl rfl (Pure.rem rfl rfl (by omega) (by omega) _) rfl ?_
        refine OL.want rfl rfl rfl (Pure.eql rfl rfl _) rfl ?_
        refine OL.cast (.bool true) 57 rfl (congrArg Value.bool (decide_eq_true (by omega))) ?_
        refine OL.pure (Pure.pickT rfl rfl) rfl ?_
        refine OL.nil ?_
        refine TE.condT rfl rfl ?_
        refine TE.plan 13 (.cons (0, true) (.cons (1, true) (.cons (2, true) (.cons (3, true) (.cons (4, true) (.cons (5, true) (.cons (6, true) (.cons (7, true) (.cons (8, true) (.cons (9, true) (.cons (10, true) (.cons (11, true) (.cons (12, false) .nil))))))))))))) (fun w_ => Chg [] w5 w_) rfl (by kernel_rfl) rfl ?_
        have hS6 : Chg [] w5 w5.drew := Chg.drew _ _
        refine PL.takeP rfl (Pure.move rfl) rfl hS6 ?_
        refine PL.takeP rfl (Pure.move rfl) rfl hS6 ?_
        refine PL.takeP rfl (Pure.move rfl) rfl hS6 ?_
        refine PL.takeP rfl (Pure.move rfl) rfl hS6 ?_
        refine PL.takeP rfl (Pure.indexAddrS (r := o_op + 4 * i) Tryd.runUnderlying22 Tryd.sizeOf36 rfl rfl (by omega) (by omega) (by omega)) rfl hS6 ?_
        refine PL.takeP rfl (Pure.fieldAddr (r := o_op + 4 * i + 1) Tryd.runUnderlying36 rfl Tryd.sizeOf33 rfl rfl) rfl hS6 ?_
        refine PL.take rfl (fun w_ h_ => Run.loadCell rfl Tryd.isAgg33 (show _ = some (Value.int .u16 (op.N : Int)) from cell_chg (hra 1 _ rfl) h_ (by simp))) rfl hS6 ?_
        refine PL.takeP rfl (Pure.move rfl) rfl hS6 ?_
        refine PL.takeP rfl (Pure.move rfl) rfl hS6 ?_
        refine PL.takeP rfl (Pure.indexAddrS (r := o_op + 4 * i) Tryd.runUnderlying22 Tryd.sizeOf36 rfl rfl (by omega) (by omega) (by omega)) rfl hS6 ?_
        refine PL.takeP rfl (Pure.fieldAddr (r := o_op + 4 * i + 2) Tryd.runUnderlying36 rfl Tryd.sizeOf5 rfl rfl) rfl hS6 ?_
        refine PL.take rfl (fun w_ h_ => Run.loadCell rfl Tryd.isAgg5 (show _ = some (Value.int .u8 (op.B : Int)) from cell_chg (hra 2 _ rfl) h_ (by simp))) rfl hS6 ?_
        refine PL.call rfl rfl Tryd.call18 rfl (text_any op.N op.B hb2 hb3 _) ?_
        rintro _ w7 ⟨rfl, hc7⟩
        have hS8 := hS6.then_ hc7
        refine ⟨_, rfl, hS8, ?_⟩
        refine PL.nilTail ?_
        replace hD := hD.chg0 hS8
        replace hR := hR.chg0 hS8
        replace hm := hm.chg0 hS8
        replace hC := hC.then_ hS8
        refine OL.mapUpdate rfl rfl rfl Tryd.underlying55 Tryd.underlying3 hm ?_
        intro wu hm2 hcu
        replace hD := hD.chg hcu (fun k_ hk_ hx_ => hmk (by simp at hx_; rw [← hx_]; exact hk_))
        replace hR := hR.chg hcu (fun k_ hk_ hx_ => hmr (by simp at hx_; rw [← hx_]; exact hk_))
        replace hC := hC.trans1 hcu (.inr ge_mb)
        replace hm : Mp wu mb (.string (str [])) (fun k_ => .string (str ((updT f (S.next : Int) (txt op.N op.B)) k_))) := hm2.eq (fun k_ => by simp only [updT]; split <;> rfl)
        refine OL.nil ?_
        refine TE.inBlock ?_
        refine TE.region ?_
        refine OL.pure (Pure.move rfl) rfl ?_
        refine OL.pure (Pure.add rfl rfl (i64 (by omega) (by omega))) rfl ?_
        refine OL.pure (Pure.assign rfl) rfl ?_
        refine OL.nil ?_
        refine TE.cast (.slice A L.length cap) 1 rfl (by rw [hAe]) ?_
        exact TE.sub [0, 1, 5, 6, 8, 9] rfl (ih4 (i + 1, V5, c5, S5, ks5, rs5, updT f (S.next : Int) (txt op.N op.B)) _ ⟨by omega, by omega, by omega, by omega, hD, hR, hI5, hks, hrs, hC, hmk, hmr, hm, by rw [hS2]; exact hmap.app⟩ (by simp only []; omega))
      ·
        refine OL.pure (Pure.assign rfl) rfl ?_
        refine OL.nil ?_
        refine TE.seq ?_
        refine TE.region ?_
        refine OL.pure (Pure.move rfl) rfl ?_
        refine OL.pure (Pure.eql rfl rfl) rfl ?_
        refine OL.cast (.bool false) 49 rfl (congrArg Value.bool (decide_eq_false (by omega))) ?_
        refine OL.pure (Pure.move rfl) rfl ?_
        refine OL.pass rfl rfl rfl rfl rfl ?_
        refine OL.pass rfl rfl rfl rfl rfl ?_
        refine OL.pass rfl rfl rfl rfl rfl ?_
        refine OL.pass rfl rfl rfl rfl rfl ?_
        refine OL.pass rfl rfl rfl rfl rfl ?_
        refine OL.pass rfl rfl rfl rfl rfl ?_
        refine OL.pass rfl rfl rfl rfl rfl ?_
        refine OL.pure (Pure.pickF rfl rfl) rfl ?_
        refine OL.nil ?_
        refine TE.condF rfl rfl ?_
        refine TE.skip ?_
        refine TE.inBlock ?_
        refine TE.region ?_
        refine OL.pure (Pure.move rfl) rfl ?_
        refine OL.pure (Pure.add rfl rfl (i64 (by omega) (by omega))) rfl ?_
        refine OL.pure (Pure.assign rfl) rfl ?_
        refine OL.nil ?_
        refine TE.cast (.slice A L.length cap) 1 rfl (by rw [hAe]) ?_
        exact TE.sub [0, 1, 5, 6, 8, 9] rfl (ih4 (i + 1, V5, c5, S5, ks5, rs5, f) _ ⟨by omega, by omega, by omega, by omega, hD, hR, hI5, hks, hrs, hC, hmk, hmr, hm, by rw [hS2]; exact hmap⟩ (by simp only []; omega))
      ·
        refine OL.pure (Pure.assign rfl) rfl ?_
        refine OL.nil ?_
        refine TE.seq ?_
        refine TE.region ?_
        refine OL.pure (Pure.move rfl) rfl ?_
        refine OL.pure (Pure.eql rfl rfl) rfl ?_
        refine OL.cast (.bool true) 49 rfl (congrArg Value.bool (decide_eq_true (he))) ?_
        refine OL.pure (Pure.move rfl) rfl ?_
        refine OL.want rfl rfl rfl (Pure.move rfl _) rfl ?_
        refine OL.want rfl rfl rfl (Pure.move rfl _) rfl ?_
        refine OL.want rfl rfl rfl (Pure.indexAddrS (r := o_op + 4 * i) Tryd.runUnderlying22 Tryd.sizeOf36 rfl rfl (by omega) (by omega) (by omega) _) rfl ?_
        refine OL.want rfl rfl rfl (Pure.fieldAddr (r := o_op + 4 * i) Tryd.runUnderlying36 rfl Tryd.sizeOf5 rfl rfl _) rfl ?_
        refine OL.want rfl rfl rfl (Run.loadCell rfl Tryd.isAgg5 (show _ = some (Value.int .u8 (op.k : Int)) from hra 0 _ rfl)) rfl ?_
        refine OL.want rfl rfl rfl (Pure.rem rfl rfl (by omega) (by omega) _) rfl ?_
        refine OL.want rfl rfl rfl (Pure.eql rfl rfl _) rfl ?_
        refine OL.cast (.bool false) 57 rfl (congrArg Value.bool (decide_eq_false (by omega))) ?_
        refine OL.pure (Pure.pickT rfl rfl) rfl ?_
        refine OL.nil ?_
        refine TE.condF rfl rfl ?_
        refine TE.skip ?_
        refine TE.inBlock ?_
        refine TE.region ?_
        refine OL.pure (Pure.move rfl) rfl ?_
        refine OL.pure (Pure.add rfl rfl (i64 (by omega) (by omega))) rfl ?_
        refine OL.pure (Pure.assign rfl) rfl ?_
        refine OL.nil ?_
        refine TE.cast (.slice A L.length cap) 1 rfl (by rw [hAe]) ?_
        exact TE.sub [0, 1, 5, 6, 8, 9] rfl (ih4 (i + 1, V5, c5, S5, ks5, rs5, f) _ ⟨by omega, by omega, by omega, by omega, hD, hR, hI5, hks, hrs, hC, hmk, hmr, hm, by rw [hS2]; exact hmap⟩ (by simp only []; omega))
      ·
        refine OL.pure (Pure.assign rfl) rfl ?_
        refine OL.nil ?_
        refine TE.seq ?_
        refine TE.region ?_
        refine OL.pure (Pure.move rfl) rfl ?_
        refine OL.pure (Pure.eql rfl rfl) rfl ?_
        refine OL.cast (.bool true) 49 rfl (congrArg Value.bool (decide_eq_true (he))) ?_
        refine OL.pure (Pure.move rfl) rfl ?_
        refine OL.want rfl rfl rfl (Pure.move rfl _) rfl ?_
        refine OL.want rfl rfl rfl (Pure.move rfl _) rfl ?_
        refine OL.want rfl rfl rfl (Pure.indexAddrS (r := o_op + 4 * i) Tryd.runUnderlying22 Tryd.sizeOf36 rfl rfl (by omega) (by omega) (by omega) _) rfl ?_
        refine OL.want rfl rfl rfl (Pure.fieldAddr (r := o_op + 4 * i) Tryd.runUnderlying36 rfl Tryd.sizeOf5 rfl rfl _) rfl ?_
        refine OL.want rfl rfl rfl (Run.loadCell rfl Tryd.isAgg5 (show _ = some (Value.int .u8 (op.k : Int)) from hra 0 _ rfl)) rfl ?_
        refine OL.want rfl rfl rfl (Pure.rem rfl rfl (by omega) (by omega) _) rfl ?_
        refine OL.want rfl rfl rfl (Pure.eql rfl rfl _) rfl ?_
        refine OL.cast (.bool false) 57 rfl (congrArg Value.bool (decide_eq_false (by omega))) ?_
        refine OL.pure (Pure.pickT rfl rfl) rfl ?_
        refine OL.nil ?_
        refine TE.condF rfl rfl ?_
        refine TE.skip ?_
        refine TE.inBlock ?_
        refine TE.region ?_
        refine OL.pure (Pure.move rfl) rfl ?_
        refine OL.pure (Pure.add rfl rfl (i64 (by omega) (by omega))) rfl ?_
        refine OL.pure (Pure.assign rfl) rfl ?_
        refine OL.nil ?_
        refine TE.cast (.slice A L.length cap) 1 rfl (by rw [hAe]) ?_
        exact TE.sub [0, 1, 5, 6, 8, 9] rfl (ih4 (i + 1, V5, c5, S5, ks5, rs5, f) _ ⟨by omega, by omega, by omega, by omega, hD, hR, hI5, hks, hrs, hC, hmk, hmr, hm, by rw [hS2]; exact hmap.trim⟩ (by simp only []; omega))
      ·
        by_cases he : er5 = 0
        ·
          refine OL.pure (Pure.assign rfl) rfl ?_
          refine OL.nil ?_
          refine TE.seq ?_
          refine TE.region ?_
          refine OL.pure (Pure.move rfl) rfl ?_
          refine OL.pure (Pure.eql rfl rfl) rfl ?_
          refine OL.cast (.bool true) 49 rfl (congrArg Value.bool (decide_eq_true (he))) ?_
          refine OL.pure (Pure.move rfl) rfl ?_
          refine OL.want rfl rfl rfl (Pure.move rfl _) rfl ?_
          refine OL.want rfl rfl rfl (Pure.move rfl _) rfl ?_
          refine OL.want rfl rfl rfl (Pure.indexAddrS (r := o_op + 4 * i) Tryd.runUnderlying22 Tryd.sizeOf36 rfl rfl (by omega) (by omega) (by omega) _) rfl ?_
          refine OL.want rfl rfl rfl (Pure.fieldAddr (r := o_op + 4 * i) Tryd.runUnderlying36 rfl Tryd.sizeOf5 rfl rfl _) rfl ?_
          refine OL.want rfl rfl rfl (Run.loadCell rfl Tryd.isAgg5 (show _ = some (Value.int .u8 (op.k : Int)) from hra 0 _ rfl)) rfl ?_
          refine OL.want rfl rfl rfl (Pure.rem rfl rfl (by omega) (by omega) _) rfl ?_
          refine OL.want rfl rfl rfl (Pure.eql rfl rfl _) rfl ?_
          refine OL.cast (.bool false) 57 rfl (congrArg Value.bool (decide_eq_false (by omega))) ?_
          refine OL.pure (Pure.pickT rfl rfl) rfl ?_
          refine OL.nil ?_
          refine TE.condF rfl rfl ?_
          refine TE.skip ?_
          refine TE.inBlock ?_
          refine TE.region ?_
          refine OL.pure (Pure.move rfl) rfl ?_
          refine OL.pure (Pure.add rfl rfl (i64 (by omega) (by omega))) rfl ?_
          refine OL.pure (Pure.assign rfl) rfl ?_
          refine OL.nil ?_
          refine TE.cast (.slice A L.length cap) 1 rfl (by rw [hAe]) ?_
          exact TE.sub [0, 1, 5, 6, 8, 9] rfl (ih4 (i + 1, V5, c5, S5, ks5, rs5, f) _ ⟨by omega, by omega, by omega, by omega, hD, hR, hI5, hks, hrs, hC, hmk, hmr, hm, by rw [hS2]; exact hmap⟩ (by simp only []; omega))
        ·
          refine OL.pure (Pure.assign rfl) rfl ?_
          refine OL.nil ?_
          refine TE.seq ?_
          refine TE.region ?_
          refine OL.pure (Pure.move rfl) rfl ?_
          refine OL.pure (Pure.eql rfl rfl) rfl ?_
          refine OL.cast (.bool false) 49 rfl (congrArg Value.bool (decide_eq_false (he))) ?_
          refine OL.pure (Pure.move rfl) rfl ?_
          refine OL.pass rfl rfl rfl rfl rfl ?_
          refine OL.pass rfl rfl rfl rfl rfl ?_
          refine OL.pass rfl rfl rfl rfl rfl ?_
          refine OL.pass rfl rfl rfl rfl rfl ?_
          refine OL.pass rfl rfl rfl rfl rfl ?_
          refine OL.pass rfl rfl rfl rfl rfl ?_
          refine OL.pass rfl rfl rfl rfl rfl ?_
          refine OL.pure (Pure.pickF rfl rfl) rfl ?_
          refine OL.nil ?_
          refine TE.condF rfl rfl ?_
          refine TE.skip ?_
          refine TE.inBlock ?_
          refine TE.region ?_
          refine OL.pure (Pure.move rfl) rfl ?_
          refine OL.pure (Pure.add rfl rfl (i64 (by omega) (by omega))) rfl ?_
          refine OL.pure (Pure.assign rfl) rfl ?_
          refine OL.nil ?_
          refine TE.cast (.slice A L.length cap) 1 rfl (by rw [hAe]) ?_
          exact TE.sub [0, 1, 5, 6, 8, 9] rfl (ih4 (i + 1, V5, c5, S5, ks5, rs5, f) _ ⟨by omega, by omega, by omega, by omega, hD, hR, hI5, hks, hrs, hC, hmk, hmr, hm, by rw [hS2]; exact hmap⟩ (by simp only []; omega))
    ·
      refine TE.exit rfl ?_
      refine TE.seq ?_
      refine TE.region ?_
      refine OL.pure (Pure.move rfl) rfl ?_
      refine OL.pure (Pure.move rfl) rfl ?_
      refine OL.call rfl Tryd.call11 rfl (size_any n0 hn0 _) ?_
      rintro _ _ ⟨rfl, rfl⟩
      refine ⟨_, rfl, ?_⟩
      refine OL.cast (.int .i64 ((P + 2 : Nat) : Int)) 75 rfl (by rw [hPd]) ?_
      have hQ := hR; have hpl := hI.ok.place; have hfn : S.next = S.hd.first + S.ents.length := rfl; have hroom := hI.room
      refine OL.call rfl Tryd.call14 rfl (open_inv d 20 c 3 P hI haP (by decide) hP2 (by omega) (fun h_ => absurd (hks _ h_) (by omega)) (fun h_ => absurd (hks _ h_) (by omega)) (by omega) _ hD (hK.chg0 hC) (hF.chg0 hC)) ?_
      rintro _ w9 ⟨ks9, r9, rs9, v9, rfl, hD9, hR9, hv9, hc9, hg9, hrs9, hmv9⟩
      have hmlt := hm.lt
      have hm_ := hm.chg hc9 hmk
      have hQ_ := hQ.chg hc9 (hQ.apartD hD (by decide) (by decide) (by decide) (by decide))
      replace hm := hm_; clear hm_
      replace hQ := hQ_; clear hQ_
      have hmkn := Grew.out hg9 hmk hmlt
      replace hmk := hmkn
      have hksn : ∀ k_ ∈ ks9, w.heap.size ≤ k_ := fun k_ hk_ => (hg9 k_ hk_).elim (hks k_) (fun h_ => Nat.le_trans hC.size h_)
      have hrsn : ∀ k_ ∈ rs9, w.heap.size ≤ k_ := fun k_ hk_ => Nat.le_trans hC.size (hrs9 k_ hk_)
      replace hC := hC.trans hc9 (fun k_ hk_ => .inr (hks k_ hk_))
      have hks := hksn; have hD := hD9
      have hrs := hrsn; have hR := hR9
      refine ⟨_, rfl, ?_⟩
      refine OL.pure (Pure.move rfl) rfl ?_
      refine OL.pure (Pure.extract (vs := [.pointer (some ⟨r9, 0, none⟩), v9, .int .i64 0]) (i := 0) rfl rfl) rfl ?_
      refine OL.pure (Pure.extract (vs := [.pointer (some ⟨r9, 0, none⟩), v9, .int .i64 0]) (i := 1) rfl rfl) rfl ?_
      refine OL.pure (Pure.extract (vs := [.pointer (some ⟨r9, 0, none⟩), v9, .int .i64 0]) (i := 2) rfl rfl) rfl ?_
      refine OL.pure (Pure.assign rfl) rfl ?_
      refine OL.pure (Pure.assign rfl) rfl ?_
      refine OL.pure (Pure.assign rfl) rfl ?_
      refine OL.nil ?_
      refine TE.seq ?_
      refine TE.seq ?_
      refine TE.region ?_
      refine OL.pure (Pure.move rfl) rfl ?_
      refine OL.pure (Pure.neq rfl rfl) rfl ?_
      refine OL.cast (.bool false) 81 rfl (rfl) ?_
      refine OL.pure (Pure.move rfl) rfl ?_
      refine OL.want rfl rfl rfl (Pure.move rfl _) rfl ?_
      refine OL.callG rfl rfl rfl rfl Tryd.call15 rfl (First_of d 3 P r9 (openS S) _ _ hR) ?_
      rintro _ _ ⟨rfl, rfl⟩
      refine ⟨_, rfl, ?_⟩
      refine OL.cast (.int .i64 (S.hd.first : Int)) 84 rfl (rfl) ?_
      refine OL.want rfl rfl rfl (Pure.move rfl _) rfl ?_
      refine OL.callG rfl rfl rfl rfl Tryd.call15 rfl (First_of d 3 P r S _ _ hQ) ?_
      rintro _ _ ⟨rfl, rfl⟩
      refine ⟨_, rfl, ?_⟩
      refine OL.cast (.int .i64 (S.hd.first : Int)) 86 rfl (rfl) ?_
      refine OL.want rfl rfl rfl (Pure.neq rfl rfl _) rfl ?_
      refine OL.cast (.bool false) 87 rfl (congrArg Value.bool (decide_eq_false (by omega))) ?_
      refine OL.pure (Pure.pickF rfl rfl) rfl ?_
      refine OL.pure (Pure.move rfl) rfl ?_
      refine OL.want rfl rfl rfl (Pure.move rfl _) rfl ?_
      refine OL.callG rfl rfl rfl rfl Tryd.call16 rfl (Next_of d 3 P r9 (openS S) _ _ hR) ?_
      rintro _ _ ⟨rfl, rfl⟩
      refine ⟨_, rfl, ?_⟩
      refine OL.cast (.int .i64 (S.next : Int)) 91 rfl (rfl) ?_
      refine OL.want rfl rfl rfl (Pure.move rfl _) rfl ?_
      refine OL.callG rfl rfl rfl rfl Tryd.call16 rfl (Next_of d 3 P r S _ _ hQ) ?_
      rintro _ _ ⟨rfl, rfl⟩
      refine ⟨_, rfl, ?_⟩
      refine OL.cast (.int .i64 (S.next : Int)) 93 rfl (rfl) ?_
      refine OL.want rfl rfl rfl (Pure.neq rfl rfl _) rfl ?_
      refine OL.cast (.bool false) 94 rfl (congrArg Value.bool (decide_eq_false (by omega))) ?_
      refine OL.pure (Pure.pickF rfl rfl) rfl ?_
      refine OL.pure (Pure.move rfl) rfl ?_
      refine OL.want rfl rfl rfl (Pure.move rfl _) rfl ?_
      refine OL.want rfl rfl rfl (Pure.lenRow Tryd.runUnderlying38 rfl hv9 _) rfl ?_
      refine OL.want rfl rfl rfl (Pure.move rfl _) rfl ?_
      refine OL.callG rfl rfl rfl rfl Tryd.call16 rfl (Next_of d 3 P r S _ _ hQ) ?_
      rintro _ _ ⟨rfl, rfl⟩
      refine ⟨_, rfl, ?_⟩
      refine OL.cast (.int .i64 (S.next : Int)) 100 rfl (rfl) ?_
      refine OL.want rfl rfl rfl (Pure.move rfl _) rfl ?_
      refine OL.callG rfl rfl rfl rfl Tryd.call15 rfl (First_of d 3 P r S _ _ hQ) ?_
      rintro _ _ ⟨rfl, rfl⟩
      refine ⟨_, rfl, ?_⟩
      refine OL.cast (.int .i64 (S.hd.first : Int)) 102 rfl (rfl) ?_
      refine OL.want rfl rfl rfl (Pure.sub rfl rfl (i64 (by omega) (by omega)) _) rfl ?_
      refine OL.want rfl rfl rfl (Pure.neq rfl rfl _) rfl ?_
      refine OL.cast (.bool false) 104 rfl (congrArg Value.bool (decide_eq_false (by omega))) ?_
      refine OL.pure (Pure.pickF rfl rfl) rfl ?_
      refine OL.pure (Pure.move rfl) rfl ?_
      refine OL.want rfl rfl rfl (Pure.move rfl _) rfl ?_
      refine OL.callG rfl rfl rfl rfl Tryd.call17 rfl (Free_of d 3 P r9 (openS S) _ (by show used S.ents ≤ _; omega) hP8 (by show S.hd.place < _; omega) (by show S.hd.first + S.ents.length ≤ _; omega) _ hR) ?_
      rintro _ w10 ⟨rfl, hc10⟩
      replace hD := hD.chg0 hc10
      replace hm := hm.chg0 hc10
      replace hQ := hQ.chg0 hc10
      replace hR := hR.chg0 hc10
      replace hv9 := hv9.chg0 hc10
      replace hC := hC.then_ hc10
      refine ⟨_, rfl, ?_⟩
      refine OL.cast (.int .i64 ((P - used S.ents : Nat) : Int)) 108 rfl (rfl) ?_
      refine OL.want rfl rfl rfl (Pure.move rfl _) rfl ?_
      refine OL.callG rfl rfl rfl rfl Tryd.call17 rfl (Free_of d 3 P r S _ (by omega) hP8 (by omega) (by omega) _ hQ) ?_
      rintro _ w11 ⟨rfl, hc11⟩
      replace hD := hD.chg0 hc11
      replace hm := hm.chg0 hc11
      replace hQ := hQ.chg0 hc11
      replace hR := hR.chg0 hc11
      replace hv9 := hv9.chg0 hc11
      replace hC := hC.then_ hc11
      refine ⟨_, rfl, ?_⟩
      refine OL.cast (.int .i64 ((P - used S.ents : Nat) : Int)) 110 rfl (rfl) ?_
      refine OL.want rfl rfl rfl (Pure.neq rfl rfl _) rfl ?_
      refine OL.cast (.bool false) 111 rfl (congrArg Value.bool (decide_eq_false (by omega))) ?_
      refine OL.pure (Pure.pickF rfl rfl) rfl ?_
      refine OL.nil ?_
      refine TE.condF rfl rfl ?_
      refine TE.skip ?_
      refine TE.seq ?_
      refine TE.seq ?_
      refine TE.region ?_
      refine OL.pure (Pure.assign rfl) rfl ?_
      refine OL.nil ?_
      refine TE.block ?_
      refine TE.loopInv (σ := Nat) [6, 8, 13, 15] (fun s_ w_ => s_ ≤ S.ents.length ∧ Chg [] w11 w_) (fun s_ => [(6, .pointer (some ⟨r, 0, none⟩)), (8, .map (some mb)), (13, v9), (15, .int .i64 (s_ : Int))]) (fun s_ => S.ents.length - s_) 0 ⟨Nat.zero_le _, Chg.refl _ _⟩ rfl ?_
      rintro i w12 ⟨hi, hcl⟩ ih12
      have hm := hm.chg0 hcl
      have hv9 := hv9.chg0 hcl
      have hQ := hQ.chg0 hcl
      refine TE.seq ?_
      refine TE.seq ?_
      refine TE.region ?_
      refine OL.pure (Pure.move rfl) rfl ?_
      refine OL.pure (Pure.move rfl) rfl ?_
      refine OL.pure (Pure.lenRow Tryd.runUnderlying38 rfl hv9) rfl ?_
      refine OL.pure (Pure.lss rfl rfl) rfl ?_
      refine OL.nil ?_
      refine TE.ite rfl (fun hlt => ?_) (fun hlt => ?_)
      ·
        replace hlt : i < S.ents.length := by omega
        obtain ⟨gy, capy, csy, hvf, hby, hcy, hly, hty⟩ := hv9.form (by omega)
        refine TE.cast (.slice (some ⟨gy, 0, none⟩) S.ents.length capy) 13 rfl (hvf) ?_
        refine TE.skip ?_
        refine TE.seq ?_
        refine TE.block ?_
        refine TE.seq ?_
        refine TE.planAll (.cons (0, true) (.cons (1, true) (.cons (2, true) (.cons (3, true) (.cons (4, true) (.cons (5, true) (.cons (7, true) (.cons (6, false) (.cons (8, true) (.cons (9, true) (.cons (10, true) (.cons (11, true) (.cons (12, true) (.cons (13, true) (.cons (14, true) (.cons (15, true) (.cons (16, true) (.cons (17, true) (.cons (18, true) (.cons (19, true) (.cons (20, true) (.cons (21, true) (.cons (22, false) (.cons (23, true) (.cons (24, true) .nil))))))))))))))))))))))))) (fun w_ => Chg [] w12 w_) rfl (by kernel_rfl) ?_
        have hS13 : Chg [] w12 w12.drew := Chg.drew _ _
        refine PL.takeP rfl (Pure.move rfl) rfl hS13 ?_
        refine PL.takeP rfl (Pure.move rfl) rfl hS13 ?_
        refine PL.takeP rfl (Pure.indexAddrS (r := 2 * i) Tryd.runUnderlying38 Tryd.sizeOf49 rfl rfl (by omega) (by omega) (by omega)) rfl hS13 ?_
        refine PL.takeP rfl (Pure.fieldAddr (r := 2 * i) Tryd.runUnderlying49 rfl Tryd.sizeOf3 rfl rfl) rfl hS13 ?_
        refine PL.take rfl (fun w_ h_ => Run.load (i := 2 * i) rfl Tryd.isAgg3 (hby.chg0 h_) (by omega) (entC_num hty rfl hlt)) rfl hS13 ?_
        refine PL.takeP rfl (Pure.move rfl) rfl hS13 ?_
        refine PL.takeP rfl (Pure.move rfl) rfl hS13 ?_
        refine PL.call rfl rfl Tryd.call15 rfl (First_of d 3 P r S _ _ hQ) ?_
        rintro _ _ ⟨rfl, rfl⟩
        refine ⟨_, rfl, hS13, ?_⟩
        refine PL.takeP rfl (Pure.add rfl rfl (i64 (by omega) (by omega))) rfl hS13 ?_
        refine PL.takeP rfl (Pure.neq rfl rfl) rfl hS13 ?_
        refine PL.cast (.bool false) 128 rfl (congrArg Value.bool (decide_eq_false (by omega))) ?_
        refine PL.takeP rfl (Pure.move rfl) rfl hS13 ?_
        refine PL.takeG _ (fun _ h_ => h_) rfl rfl rfl rfl (fun w_ h_ => Pure.move rfl _) rfl hS13 ?_
        refine PL.takeG _ (fun _ h_ => h_) rfl rfl rfl rfl (fun w_ h_ => Pure.move rfl _) rfl hS13 ?_
        refine PL.takeG _ (fun _ h_ => h_) rfl rfl rfl rfl (fun w_ h_ => Pure.indexAddrS (r := 2 * i) Tryd.runUnderlying38 Tryd.sizeOf49 rfl rfl (by omega) (by omega) (by omega) _) rfl hS13 ?_
        refine PL.takeG _ (fun _ h_ => h_) rfl rfl rfl rfl (fun w_ h_ => Pure.fieldAddr (r := 2 * i + 1) Tryd.runUnderlying49 rfl Tryd.sizeOf9 rfl rfl _) rfl hS13 ?_
        refine PL.takeG _ (fun _ h_ => h_) rfl rfl rfl rfl (fun w_ h_ => Run.load (i := 2 * i + 1) rfl Tryd.isAgg9 (hby.chg0 h_) (by omega) (entC_txt hty rfl hlt)) rfl hS13 ?_
        refine PL.takeG _ (fun _ h_ => h_) rfl rfl rfl rfl (fun w_ h_ => Pure.move rfl _) rfl hS13 ?_
        refine PL.takeG _ (fun _ h_ => h_) rfl rfl rfl rfl (fun w_ h_ => Pure.move rfl _) rfl hS13 ?_
        refine PL.takeG _ (fun _ h_ => h_) rfl rfl rfl rfl (fun w_ h_ => Pure.move rfl _) rfl hS13 ?_
        refine PL.takeG _ (fun _ h_ => h_) rfl rfl rfl rfl (fun w_ h_ => Pure.indexAddrS (r := 2 * i) Tryd.runUnderlying38 Tryd.sizeOf49 rfl rfl (by omega) (by omega) (by omega) _) rfl hS13 ?_
        refine PL.takeG _ (fun _ h_ => h_) rfl rfl rfl rfl (fun w_ h_ => Pure.fieldAddr (r := 2 * i) Tryd.runUnderlying49 rfl Tryd.sizeOf3 rfl rfl _) rfl hS13 ?_
        refine PL.takeG _ (fun _ h_ => h_) rfl rfl rfl rfl (fun w_ h_ => Run.load (i := 2 * i) rfl Tryd.isAgg3 (hby.chg0 h_) (by omega) (entC_num hty rfl hlt)) rfl hS13 ?_
        refine PL.valG rfl rfl rfl rfl (Run.lookup rfl rfl Tryd.underlying55 Tryd.underlying3 (fun w_ => (Tryd.zeroValue9 w_).trans rfl) (hm.chg0 hS13)) rfl hS13 ?_
        refine PL.cast (.string (str ((txts S).getD i []))) 141 rfl (by rw [hmap i hlt]) ?_
        refine PL.takeG _ (fun _ h_ => h_) rfl rfl rfl rfl (fun w_ h_ => Pure.strNeq (l := ((txts S).getD i [])) (m := ((txts S).getD i [])) rfl rfl _) rfl hS13 ?_
        refine PL.cast (.bool false) 142 rfl (congrArg Value.bool (decide_eq_false (fun h => h rfl))) ?_
        refine PL.takeP rfl (Pure.pickF rfl rfl) rfl hS13 ?_
        refine PL.nil ?_
        replace hm := hm.chg0 hS13
        replace hv9 := hv9.chg0 hS13
        replace hQ := hQ.chg0 hS13
        replace hby := hby.chg0 hS13
        replace hcl := hcl.then_ hS13
        refine TE.condF rfl rfl ?_
        refine TE.skip ?_
        refine TE.inBlock ?_
        refine TE.region ?_
        refine OL.pure (Pure.move rfl) rfl ?_
        refine OL.pure (Pure.add rfl rfl (i64 (by omega) (by omega))) rfl ?_
        refine OL.pure (Pure.assign rfl) rfl ?_
        refine OL.nil ?_
        refine TE.cast (v9) 13 rfl (hvf.symm) ?_
        exact TE.sub [6, 8, 13, 15] rfl (ih12 (i + 1) _ ⟨by omega, hcl⟩ (by omega))
      ·
        refine TE.exit rfl ?_
        refine TE.seq ?_
        refine TE.region ?_
        refine OL.pure (Pure.assign rfl) rfl ?_
        refine OL.nil ?_
        exact TE.ret (vs := [.bool true]) Tryd.results5 (⟨rfl, trivial⟩) ⟨rfl, hC.then_ hcl⟩

end Go.Proofs.YtcologcjhenmkaaDoor
