/- What the laws of rings do, continued. Conditions: none of its own. -/
import Derived.Test.YtcologcjhenmkaaDoorSpecB
import Derived.Test.YtcologcjhenmkaaDoorProg
import Derived.Test.YtcologcjhenmkaaDoorRnl
set_option linter.unusedVariables false
namespace Go.Rg
open Go Go.V Go.Frm
theorem drop_getD {T : List (List UInt8)} {k i : Nat} : (T.drop k).getD i [] = T.getD (k + i) [] := by
  simp [List.getD_eq_getElem?_getD]
theorem txts_trim {P : Nat} {S : Rs} {k : Nat} : txts (trimS P S k) = (txts S).drop k := by simp [txts, trimS]
theorem used_nil_of {E : List Ent} (h : E.length = 0) : used E = 0 := by
  rw [List.eq_nil_of_length_eq_zero h]; rfl
end Go.Rg
namespace Go.Rg
open Go Go.V Go.Frm
def updT (f : Int → List UInt8) (n : Int) (t : List UInt8) : Int → List UInt8 := fun j => if j = n then t else f j
/-- The map of a law has the texts of the entries. -/
def Maps (S : Rs) (f : Int → List UInt8) : Prop := ∀ j, j < S.ents.length → (txts S).getD j [] = f ((S.hd.first + j : Nat) : Int)
theorem Maps.app {S : Rs} {f : Int → List UInt8} {t : List UInt8} (h : Maps S f) : Maps (appS S t) (updT f (S.next : Int) t) := by
  intro j hj
  have hl : (txts S).length = S.ents.length := txts_len S
  have hj' : j < S.ents.length + 1 := by simpa [appS] using hj
  have hn : S.next = S.hd.first + S.ents.length := rfl
  rw [txts_app]
  show _ = updT f (S.next : Int) t ((S.hd.first + j : Nat) : Int)
  by_cases e : j = S.ents.length
  · subst e
    rw [updT, if_pos (by omega), ← hl]
    simp [List.getD_eq_getElem?_getD]
  · rw [updT, if_neg (by omega), ← h j (by omega)]
    simp [List.getD_eq_getElem?_getD, List.getElem?_append_left (show j < (txts S).length by omega)]
theorem Maps.trim {P : Nat} {S : Rs} {f : Int → List UInt8} {k : Nat} (h : Maps S f) : Maps (trimS P S k) f := by
  intro j hj
  have hj' : j < S.ents.length - k := by simpa [trimS] using hj
  rw [txts_trim, Rg.drop_getD, h (k + j) (by omega)]
  show f ((S.hd.first + (k + j) : Nat) : Int) = f ((S.hd.first + k + j : Nat) : Int)
  rw [Nat.add_assoc]
theorem Maps.nil (f : Int → List UInt8) : Maps S1 f := fun j hj => by simp [S1] at hj
theorem Maps.ext {S : Rs} {f g : Int → List UInt8} (h : Maps S f) (e : S = S) : Maps S f := h
end Go.Rg
/- The law of entries that go round, walked -/
set_option linter.unusedVariables false
set_option maxRecDepth 4000
namespace Go.Proofs.YtcologcjhenmkaaDoor
open Go.V Go.Rg Go.Frm Go.Sha
theorem info9 : Tryd.prog.info? 9 = some Tryd.t9 := by kernel_rfl
theorem rspan_any (n : Nat) (h : n ≤ 1099511627776) (w : World) : Calls Tryd.prog 47 #[.int .i64 (n : Int)] w (Ret (.int .i64 (need n : Int)) w) := by
  refine calls_of_TE (vs := [.int .i64 (n : Int)]) Tryd.func47 Tryd.ntmps47 rfl (by simp) ?_
  by_cases hs : n ≤ 512
  ·
    refine TE.seq ?_
    refine TE.region ?_
    refine OL.pure (Pure.assign rfl) rfl ?_
    refine OL.nil ?_
    refine TE.seq ?_
    refine TE.seq ?_
    refine TE.region ?_
    refine OL.pure (Pure.move rfl) rfl ?_
    refine OL.pure (Pure.leq rfl rfl) rfl ?_
    refine OL.cast (.bool true) 4 rfl (congrArg Value.bool (decide_eq_true (by omega))) ?_
    refine OL.nil ?_
    refine TE.condT rfl rfl ?_
    refine TE.seq ?_
    refine TE.region ?_
    refine OL.pure (Pure.assign rfl) rfl ?_
    refine OL.nil ?_
    exact TE.ret (vs := [.int .i64 (need n : Int)]) Tryd.results47 (⟨congrArg (fun x : Nat => some (Value.int .i64 (x : Int))) (by unfold need; omega : (1 : Nat) = need n), trivial⟩) ⟨rfl, rfl⟩
  ·
    refine TE.seq ?_
    refine TE.region ?_
    refine OL.pure (Pure.assign rfl) rfl ?_
    refine OL.nil ?_
    refine TE.seq ?_
    refine TE.seq ?_
    refine TE.region ?_
    refine OL.pure (Pure.move rfl) rfl ?_
    refine OL.pure (Pure.leq rfl rfl) rfl ?_
    refine OL.cast (.bool false) 4 rfl (congrArg Value.bool (decide_eq_false (by omega))) ?_
    refine OL.nil ?_
    refine TE.condF rfl rfl ?_
    refine TE.skip ?_
    refine TE.seq ?_
    refine TE.region ?_
    refine OL.pure (Pure.move rfl) rfl ?_
    refine OL.pure (Pure.sub rfl rfl (i64 (by omega) (by omega))) rfl ?_
    refine OL.pure (Pure.add rfl rfl (i64 (by omega) (by omega))) rfl ?_
    refine OL.pure (Pure.sub rfl rfl (i64 (by omega) (by omega))) rfl ?_
    refine OL.pure (Pure.quo rfl rfl (by omega) (by omega) (i64in (by omega) (by omega))) rfl ?_
    refine OL.pure (Pure.add rfl rfl (i64 (by omega) (by omega))) rfl ?_
    refine OL.cast (.int .i64 (need n : Int)) 10 rfl (congrArg (Value.int .i64) (by unfold need; omega)) ?_
    refine OL.pure (Pure.assign rfl) rfl ?_
    refine OL.nil ?_
    exact TE.ret (vs := [.int .i64 (need n : Int)]) Tryd.results47 (⟨rfl, trivial⟩) ⟨rfl, rfl⟩

theorem refneed_any (n : Nat) (h : n ≤ 1099511627000) (w : World) : Calls Tryd.prog 24 #[.int .i64 (n : Int)] w (Ret (.int .i64 (need (42 + n) : Int)) w) := by
  refine calls_of_TE (vs := [.int .i64 (n : Int)]) Tryd.func24 Tryd.ntmps24 rfl (by simp) ?_
  refine TE.seq ?_
  refine TE.region ?_
  refine OL.pure (Pure.assign rfl) rfl ?_
  refine OL.nil ?_
  refine TE.seq ?_
  refine TE.region ?_
  refine OL.pure (Pure.move rfl) rfl ?_
  refine OL.pure (Pure.add rfl rfl (i64 (by omega) (by omega))) rfl ?_
  refine OL.pure (Pure.add rfl rfl (i64 (by omega) (by omega))) rfl ?_
  refine OL.cast (.int .i64 ((42 + n : Nat) : Int)) 5 rfl (congrArg (Value.int .i64) (by omega)) ?_
  refine OL.call rfl Tryd.call47 rfl (rspan_any (42 + n) (by omega) _) ?_
  rintro _ _ ⟨rfl, rfl⟩
  refine ⟨_, rfl, ?_⟩
  refine OL.pure (Pure.assign rfl) rfl ?_
  refine OL.nil ?_
  exact TE.ret (vs := [.int .i64 (need (42 + n) : Int)]) Tryd.results24 (⟨rfl, trivial⟩) ⟨rfl, rfl⟩

set_option maxHeartbeats 4000000 in
theorem turns_law_any {tK tF : TypeId} (n0 : Nat) (hn0 : n0 ≤ 255) (B : Option Addr) (cap2 : Nat) (ts : List Int) (hts : ∀ z ∈ ts, 0 ≤ z ∧ z ≤ 65535) (htl : ts.length ≤ 9223372036854775807) (w : World) (hK : Blk w 1 tK (iv .u32 K)) (hF : Blk w 0 tF (iv .i64 fldL)) (hB : CellsI w .u16 B ts) : Calls Tryd.prog 4 #[.int .u8 (n0 : Int), .slice B ts.length cap2] w (RetC (.bool true) w) := by
  refine calls_of_TE (vs := [.int .u8 (n0 : Int), .slice B ts.length cap2]) Tryd.func4 Tryd.ntmps4 rfl (by simp) ?_
  have hC : Chg [] w w := Chg.refl _ _
  have h0w : 1 < w.heap.size := hK.lt
  have h1w : 0 < w.heap.size := hF.lt
  obtain ⟨P, hPd⟩ : ∃ P, P = 2 + n0 % 14 := ⟨_, rfl⟩
  have hP2 : 2 ≤ P := by omega
  have hP15 : P ≤ 15 := by omega
  have hP : 0 < P := by omega
  have hP8 : P ≤ 8192 := by omega
  have haP : 3 + 2 + P ≤ 20 := by omega
  refine TE.seq ?_
  refine TE.region ?_
  refine OL.pure (Pure.assign rfl) rfl ?_
  refine OL.nil ?_
  refine TE.seq ?_
  refine TE.seq ?_
  refine TE.region ?_
  refine OL.call rfl Tryd.call8 rfl (known_any _ (hK.chg0 hC) (hF.chg0 hC)) ?_
  rintro _ w1 ⟨rfl, hc1⟩
  replace hC := hC.then_ hc1
  refine ⟨_, rfl, ?_⟩
  by_cases hm5 : 40 < ts.length
  ·
    refine OL.pure (Pure.not rfl) rfl ?_
    refine OL.pure (Pure.move rfl) rfl ?_
    refine OL.want rfl rfl rfl (Pure.move rfl _) rfl ?_
    refine OL.want rfl rfl rfl (Pure.lenSlice Tryd.runUnderlying23 rfl _) rfl ?_
    refine OL.want rfl rfl rfl (Pure.gtr rfl rfl _) rfl ?_
    refine OL.cast (.bool true) 27 rfl (congrArg Value.bool (decide_eq_true (by omega))) ?_
    refine OL.pure (Pure.pickF rfl rfl) rfl ?_
    refine OL.nil ?_
    refine TE.condT rfl rfl ?_
    refine TE.seq ?_
    refine TE.region ?_
    refine OL.call rfl Tryd.call8 rfl (known_any _ (hK.chg0 hC) (hF.chg0 hC)) ?_
    rintro _ w2 ⟨rfl, hc2⟩
    replace hC := hC.then_ hc2
    refine ⟨_, rfl, ?_⟩
    refine OL.pure (Pure.assign rfl) rfl ?_
    refine OL.nil ?_
    exact TE.ret (vs := [.bool true]) Tryd.results4 (⟨rfl, trivial⟩) ⟨rfl, hC⟩
  ·
    refine OL.pure (Pure.not rfl) rfl ?_
    refine OL.pure (Pure.move rfl) rfl ?_
    refine OL.want rfl rfl rfl (Pure.move rfl _) rfl ?_
    refine OL.want rfl rfl rfl (Pure.lenSlice Tryd.runUnderlying23 rfl _) rfl ?_
    refine OL.want rfl rfl rfl (Pure.gtr rfl rfl _) rfl ?_
    refine OL.cast (.bool false) 27 rfl (congrArg Value.bool (decide_eq_false (by omega))) ?_
    refine OL.pure (Pure.pickF rfl rfl) rfl ?_
    refine OL.nil ?_
    refine TE.condF rfl rfl ?_
    refine TE.skip ?_
    refine TE.seq ?_
    refine TE.region ?_
    refine OL.pure (Pure.move rfl) rfl ?_
    refine OL.call rfl Tryd.call11 rfl (size_any n0 hn0 _) ?_
    rintro _ _ ⟨rfl, rfl⟩
    refine ⟨_, rfl, ?_⟩
    refine OL.cast (.int .i64 ((P + 2 : Nat) : Int)) 32 rfl (by rw [hPd]) ?_
    refine OL.call rfl Tryd.call10 rfl (fresh_any P hP2 hP15 _ (hK.chg0 hC) (hF.chg0 hC)) ?_
    rintro _ w3 ⟨V3, ks3, rs3, d, r, rfl, hD, hR, hI, hc3, hkk, hrr⟩
    have hks : ∀ k_ ∈ ks3, w.heap.size ≤ k_ := fun k_ hk_ => Nat.le_trans hC.size (hkk k_ hk_)
    have hrs : ∀ k_ ∈ rs3, w.heap.size ≤ k_ := fun k_ hk_ => Nat.le_trans hC.size (hrr k_ hk_)
    replace hC := hC.then_ hc3
    refine ⟨_, rfl, ?_⟩
    refine OL.pure (Pure.move rfl) rfl ?_
    refine OL.pure (Pure.extract (vs := [.pointer (some ⟨d, 0, none⟩), .pointer (some ⟨r, 0, none⟩), .bool true]) (i := 0) rfl rfl) rfl ?_
    refine OL.pure (Pure.extract (vs := [.pointer (some ⟨d, 0, none⟩), .pointer (some ⟨r, 0, none⟩), .bool true]) (i := 1) rfl rfl) rfl ?_
    refine OL.pure (Pure.extract (vs := [.pointer (some ⟨d, 0, none⟩), .pointer (some ⟨r, 0, none⟩), .bool true]) (i := 2) rfl rfl) rfl ?_
    refine OL.pure (Pure.assign rfl) rfl ?_
    refine OL.pure (Pure.assign rfl) rfl ?_
    refine OL.pure (Pure.assign rfl) rfl ?_
    refine OL.nil ?_
    refine TE.seq ?_
    refine TE.seq ?_
    refine TE.region ?_
    refine OL.pure (Pure.move rfl) rfl ?_
    refine OL.pure (Pure.not rfl) rfl ?_
    refine OL.nil ?_
    refine TE.condF rfl rfl ?_
    refine TE.skip ?_
    refine TE.seq ?_
    refine TE.region ?_
    refine OL.pure (Pure.assign rfl) rfl ?_
    refine OL.nil ?_
    refine TE.seq ?_
    refine TE.region ?_
    refine OL.pure (Pure.assign rfl) rfl ?_
    refine OL.nil ?_
    refine TE.seq ?_
    refine TE.seq ?_
    refine TE.region ?_
    refine OL.pure (Pure.assign rfl) rfl ?_
    refine OL.nil ?_
    refine TE.block ?_
    refine TE.loopInv (σ := Nat × (Int → List UInt8) × Nat × Rs × List Nat × List Nat × Value × List (List UInt8)) [0, 1, 5, 6, 8, 9, 10] (fun s_ w_ => match s_ with | (i, V, c, S, ks, rs, v, Tx) => i ≤ ts.length ∧ Tx.length ≤ i ∧ c ≤ 17 * i ∧ Mine w.heap.size v ∧ Dk 93 97 w_ d 20 (V) (c) false ks ∧ RgK 80 85 w_ r d 3 P (S) rs ∧ Inv V 3 P S ∧ (∀ k_ ∈ ks, w.heap.size ≤ k_) ∧ (∀ k_ ∈ rs, w.heap.size ≤ k_) ∧ Chg [] w w_ ∧ S.hd.gen ≤ 1 + S.hd.first ∧ S.next = Tx.length ∧ txts S = Tx.drop S.hd.first ∧ Row w_ 9 1 v Tx.length (tv Tx)) (fun s_ => [(0, .int .u8 (↑n0)), (1, .slice B ts.length cap2), (5, .pointer (some ⟨d, 0, none⟩)), (6, .pointer (some ⟨r, 0, none⟩)), (8, s_.2.2.2.2.2.2.1), (9, .int .i64 (s_.2.2.2.1.hd.first : Int)), (10, .int .i64 (s_.1 : Int))]) (fun s_ => ts.length - s_.1) (0, V3, 0, S1, ks3, rs3, .slice none 0 0, []) ⟨Nat.zero_le _, Nat.zero_le _, Nat.zero_le _, Mine.nil _, hD, hR, hI, hks, hrs, hC, by decide, by decide, rfl, Row.nil _ _ _⟩ rfl ?_
    rintro ⟨i, V, c, S, ks, rs, v, Tx⟩ w4 ⟨hi, hTi, hcc, hm_v, hD, hR, hI, hks, hrs, hC, hgen, hnext, htx, hv⟩ ih4
    try dsimp only
    refine TE.seq ?_
    refine TE.seq ?_
    refine TE.region ?_
    refine OL.pure (Pure.move rfl) rfl ?_
    refine OL.pure (Pure.move rfl) rfl ?_
    refine OL.pure (Pure.lenSlice Tryd.runUnderlying23 rfl) rfl ?_
    refine OL.pure (Pure.lss rfl rfl) rfl ?_
    refine OL.nil ?_
    refine TE.ite rfl (fun hlt => ?_) (fun hlt => ?_)
    ·
      replace hlt : i < ts.length := by omega
      obtain ⟨gB, oB, hBe, hcell⟩ := hB i hlt
      replace hcell := cell_chg hcell hC (by simp)
      obtain ⟨hz0, hz1⟩ := hts (ts.getD i 0) (getD_int_mem hlt)
      obtain ⟨Nt, hNt⟩ : ∃ n : Nat, ts.getD i 0 = (n : Int) := ⟨(ts.getD i 0).toNat, by omega⟩
      rw [hNt] at hcell
      refine TE.cast (.slice (some ⟨gB, oB, none⟩) ts.length cap2) 1 rfl (by rw [hBe]) ?_
      refine TE.skip ?_
      refine TE.seq ?_
      refine TE.block ?_
      refine TE.seq ?_
      refine TE.region ?_
      refine OL.pure (Pure.move rfl) rfl ?_
      refine OL.pure (Pure.move rfl) rfl ?_
      refine OL.pure (Pure.indexAddrS (r := oB + i) Tryd.runUnderlying23 Tryd.sizeOf33 rfl rfl (by omega) (by omega) (by omega)) rfl ?_
      refine OL.val (Run.loadCell rfl Tryd.isAgg33 hcell) rfl ?_
      refine OL.pure (Pure.move rfl) rfl ?_
      refine OL.pure (Pure.conv Tryd.runUnderlying3 Tryd.runUnderlying5 rfl (u8w _)) rfl ?_
      refine OL.cast (.int .u8 ((i % 256 : Nat) : Int)) 50 rfl (congrArg (Value.int .u8) (by omega)) ?_
      refine OL.call rfl Tryd.call18 rfl (text_any Nt (i % 256) (by omega) (by omega) _) ?_
      rintro _ w5 ⟨rfl, hc5⟩
      replace hD := hD.chg0 hc5
      replace hR := hR.chg0 hc5
      replace hv := hv.chg0 hc5
      replace hC := hC.then_ hc5
      refine ⟨_, rfl, ?_⟩
      have htxl := txt_len Nt (i % 256)
      have htm : Nt % 1600 < 1600 := Nat.mod_lt _ (by omega)
      obtain ⟨t, ht⟩ : ∃ t, t = (txt Nt (i % 256)) := ⟨_, rfl⟩
      rw [← ht] at htxl
      refine OL.pure (Pure.assign rfl) rfl ?_
      refine OL.cast (.string (str t)) 11 rfl (by rw [← ht]) ?_
      refine OL.nil ?_
      refine TE.seq ?_
      refine TE.region ?_
      refine OL.pure (Pure.move rfl) rfl ?_
      refine OL.pure (Pure.lenStr Tryd.runUnderlying9 rfl) rfl ?_
      refine OL.call rfl Tryd.call23 rfl (rneed_ok t.length (by omega) _) ?_
      rintro _ _ ⟨rfl, rfl⟩
      refine ⟨_, rfl, ?_⟩
      refine OL.pure (Pure.move rfl) rfl ?_
      refine OL.pure (Pure.extract (vs := [.int .i64 (need (42 + t.length) : Int), .int .i64 0]) (i := 0) rfl rfl) rfl ?_
      refine OL.pure (Pure.extract (vs := [.int .i64 (need (42 + t.length) : Int), .int .i64 0]) (i := 1) rfl rfl) rfl ?_
      refine OL.pure (Pure.assign rfl) rfl ?_
      refine OL.pure (Pure.assign rfl) rfl ?_
      refine OL.nil ?_
      refine TE.seq ?_
      refine TE.seq ?_
      refine TE.region ?_
      refine OL.pure (Pure.move rfl) rfl ?_
      refine OL.pure (Pure.neq rfl rfl) rfl ?_
      refine OL.cast (.bool false) 59 rfl (rfl) ?_
      refine OL.pure (Pure.move rfl) rfl ?_
      refine OL.want rfl rfl rfl (Pure.move rfl _) rfl ?_
      refine OL.want rfl rfl rfl (Pure.move rfl _) rfl ?_
      refine OL.want rfl rfl rfl (Pure.lenStr Tryd.runUnderlying9 rfl _) rfl ?_
      refine OL.callG rfl rfl rfl rfl Tryd.call24 rfl (refneed_any t.length (by omega) _) ?_
      rintro _ _ ⟨rfl, rfl⟩
      refine ⟨_, rfl, ?_⟩
      refine OL.want rfl rfl rfl (Pure.neq rfl rfl _) rfl ?_
      refine OL.cast (.bool false) 65 rfl (congrArg Value.bool (decide_eq_false (fun h => h rfl))) ?_
      refine OL.pure (Pure.pickF rfl rfl) rfl ?_
      refine OL.nil ?_
      refine TE.condF rfl rfl ?_
      refine TE.skip ?_
      refine TE.seq ?_
      refine TE.seq ?_
      refine TE.region ?_
      refine OL.pure (Pure.move rfl) rfl ?_
      refine OL.pure (Pure.move rfl) rfl ?_
      refine OL.call rfl Tryd.call11 rfl (size_any n0 hn0 _) ?_
      rintro _ _ ⟨rfl, rfl⟩
      refine ⟨_, rfl, ?_⟩
      refine OL.cast (.int .i64 ((P + 2 : Nat) : Int)) 69 rfl (by rw [hPd]) ?_
      have hroom := hI.room; have hpl := hI.ok.place
      have hfn : S.next = S.hd.first + S.ents.length := rfl
      refine OL.pure (Pure.sub rfl rfl (i64 (by omega) (by omega))) rfl ?_
      refine OL.pure (Pure.gtr rfl rfl) rfl ?_
      refine OL.nil ?_
      refine TE.ite rfl (fun hbig => ?_) (fun hbig => ?_)
      ·
        refine TE.seq ?_
        refine TE.seq ?_
        refine TE.region ?_
        refine OL.pure (Pure.move rfl) rfl ?_
        refine OL.pure (Pure.move rfl) rfl ?_
        refine OL.call rfl Tryd.call19 rfl (app_full d 20 c 3 P r hP haP (by decide) hpl (by omega) t (by omega) hroom (by omega) _ hD hR (hK.chg0 hC) (hF.chg0 hC)) ?_
        rintro _ w6 ⟨rfl, hc6⟩
        replace hD := hD.chg0 hc6
        replace hR := hR.chg0 hc6
        replace hv := hv.chg0 hc6
        replace hC := hC.then_ hc6
        refine ⟨_, rfl, ?_⟩
        refine OL.pure (Pure.move rfl) rfl ?_
        refine OL.pure (Pure.extract (vs := [.int .i64 0, .int .i64 26]) (i := 0) rfl rfl) rfl ?_
        refine OL.pure (Pure.extract (vs := [.int .i64 0, .int .i64 26]) (i := 1) rfl rfl) rfl ?_
        refine OL.pure (Pure.assign rfl) rfl ?_
        refine OL.pure (Pure.assign rfl) rfl ?_
        refine OL.nil ?_
        refine TE.seq ?_
        refine TE.region ?_
        refine OL.pure (Pure.move rfl) rfl ?_
        refine OL.pure (Pure.neq rfl rfl) rfl ?_
        refine OL.cast (.bool false) 79 rfl (rfl) ?_
        refine OL.nil ?_
        refine TE.condF rfl rfl ?_
        refine TE.skip ?_
        refine TE.exit rfl ?_
        refine TE.region ?_
        refine OL.pure (Pure.move rfl) rfl ?_
        refine OL.pure (Pure.add rfl rfl (i64 (by omega) (by omega))) rfl ?_
        refine OL.pure (Pure.assign rfl) rfl ?_
        refine OL.nil ?_
        refine TE.cast (.slice B ts.length cap2) 1 rfl (by rw [hBe]) ?_
        exact TE.sub [0, 1, 5, 6, 8, 9, 10] rfl (ih4 (i + 1, V, c, S, ks, rs, v, Tx) _ ⟨by omega, by omega, by omega, hm_v, hD, hR, hI, hks, hrs, hC, hgen, hnext, htx, hv⟩ (by simp only []; omega))
      ·
        have hnb : need (42 + t.length) ≤ P := by omega
        refine TE.skip ?_
        refine TE.seq ?_
        refine TE.block ?_
        refine TE.loopInv (σ := (Int → List UInt8) × Nat × Rs × List Nat × List Nat) [0, 1, 5, 6, 8, 9, 10, 11, 12] (fun s_ w_ => match s_ with | (V, c, S, ks, rs) => c ≤ 17 * i ∧ Dk 93 97 w_ d 20 (V) (c) false ks ∧ RgK 80 85 w_ r d 3 P (S) rs ∧ Inv V 3 P S ∧ (∀ k_ ∈ ks, w.heap.size ≤ k_) ∧ (∀ k_ ∈ rs, w.heap.size ≤ k_) ∧ Chg [] w w_ ∧ S.hd.gen ≤ 1 + S.hd.first ∧ S.next = Tx.length ∧ txts S = Tx.drop S.hd.first ∧ Row w_ 9 1 v Tx.length (tv Tx)) (fun s_ => [(0, .int .u8 (↑n0)), (1, .slice (some ⟨gB, oB, none⟩) ts.length cap2), (5, .pointer (some ⟨d, 0, none⟩)), (6, .pointer (some ⟨r, 0, none⟩)), (8, v), (9, .int .i64 (s_.2.2.1.hd.first : Int)), (10, .int .i64 (↑i)), (11, .string (str t)), (12, .int .i64 (↑(need (42 + t.length))))]) (fun s_ => Tx.length - s_.2.2.1.hd.first) (V, c, S, ks, rs) ⟨hcc, hD, hR, hI, hks, hrs, hC, hgen, hnext, htx, hv⟩ rfl ?_
        rintro ⟨V, c, S, ks, rs⟩ w7 ⟨hcc, hD, hR, hI, hks, hrs, hC, hgen, hnext, htx, hv⟩ ih7
        try dsimp only
        have hroom := hI.room; have hpl := hI.ok.place; have hfn : S.next = S.hd.first + S.ents.length := rfl
        refine TE.seq ?_
        refine TE.seq ?_
        refine TE.region ?_
        refine OL.pure (Pure.move rfl) rfl ?_
        refine OL.call rfl Tryd.call17 rfl (Free_of d 3 P r S _ (by omega) hP8 hpl (by omega) _ hR) ?_
        rintro _ w8 ⟨rfl, hc8⟩
        replace hD := hD.chg0 hc8
        replace hR := hR.chg0 hc8
        replace hv := hv.chg0 hc8
        replace hC := hC.then_ hc8
        refine ⟨_, rfl, ?_⟩
        by_cases hfr : P - used S.ents < need (42 + t.length)
        ·
          have hlen : S.hd.first < Tx.length := by
            rcases Nat.lt_or_ge S.hd.first Tx.length with h | h
            · exact h
            · exfalso; have := used_nil_of (E := S.ents) (by omega); omega
          refine OL.pure (Pure.move rfl) rfl ?_
          refine OL.pure (Pure.lss rfl rfl) rfl ?_
          refine OL.cast (.bool true) 83 rfl (congrArg Value.bool (decide_eq_true (by omega))) ?_
          refine OL.pure (Pure.move rfl) rfl ?_
          refine OL.want rfl rfl rfl (Pure.move rfl _) rfl ?_
          refine OL.want rfl rfl rfl (Pure.move rfl _) rfl ?_
          refine OL.want rfl rfl rfl (Pure.lenRow Tryd.runUnderlying42 rfl hv _) rfl ?_
          refine OL.want rfl rfl rfl (Pure.lss rfl rfl _) rfl ?_
          refine OL.cast (.bool true) 88 rfl (congrArg Value.bool (decide_eq_true (by omega))) ?_
          refine OL.pure (Pure.pickT rfl rfl) rfl ?_
          refine OL.nil ?_
          refine TE.condT rfl rfl ?_
          refine TE.skip ?_
          refine TE.block ?_
          refine TE.seq ?_
          refine TE.region ?_
          refine OL.pure (Pure.move rfl) rfl ?_
          refine OL.pure (Pure.add rfl rfl (i64 (by omega) (by omega))) rfl ?_
          refine OL.cast (.int .i64 ((S.hd.first + 1 : Nat) : Int)) 91 rfl (congrArg (Value.int .i64) (by omega)) ?_
          refine OL.pure (Pure.assign rfl) rfl ?_
          refine OL.nil ?_
          refine TE.seq ?_
          refine TE.region ?_
          refine OL.pure (Pure.move rfl) rfl ?_
          refine OL.pure (Pure.move rfl) rfl ?_
          have hV := hD.len
          refine OL.call rfl Tryd.call25 rfl (trim_ok d 20 c 3 P r hP haP (by decide) hpl (by omega) 1 (by decide) (by omega) (trim_ok_hd hI (by omega) (by decide) (by omega) (by omega)) (by omega) (by omega) (fun h_ => absurd (hks _ h_) (by omega)) (fun h_ => absurd (hks _ h_) (by omega)) (fun h_ => absurd (hrs _ h_) (by omega)) (fun h_ => absurd (hrs _ h_) (by omega)) _ hD hR (hK.chg0 hC) (hF.chg0 hC)) ?_
          rintro _ w9 ⟨ks9, rs9, rfl, hD9, hR9, hc9, hg9, hgr9⟩
          have hv_ := hv.chg hc9 (fun k_ hk_ hm_ => (List.mem_append.1 hm_).elim (hR.apartRow hv (by decide) (by decide) k_ hk_) (hD.apartR hv (by decide) (by decide) k_ hk_))
          replace hv := hv_; clear hv_
          have hksn : ∀ k_ ∈ ks9, w.heap.size ≤ k_ := fun k_ hk_ => (hg9 k_ hk_).elim (hks k_) (fun h_ => Nat.le_trans hC.size h_)
          have hrsn : ∀ k_ ∈ rs9, w.heap.size ≤ k_ := fun k_ hk_ => (hgr9 k_ hk_).elim (hrs k_) (fun h_ => Nat.le_trans hC.size h_)
          replace hC := hC.trans hc9 (fun k_ hk_ => .inr ((List.mem_append.1 hk_).elim (hrs k_) (hks k_)))
          have hks := hksn; have hD := hD9
          have hrs := hrsn; have hR := hR9
          refine ⟨_, rfl, ?_⟩
          have hel1 : 1 ≤ S.ents.length := by omega
          have htn1 : (trimS P S 1).next = S.next := trim_next hel1
          refine OL.pure (Pure.neq rfl rfl) rfl ?_
          refine OL.cast (.bool false) 95 rfl (rfl) ?_
          refine OL.nil ?_
          refine TE.condF rfl rfl ?_
          refine TE.skip ?_
          refine TE.inBlock ?_
          exact TE.sub [0, 1, 5, 6, 8, 9, 10, 11, 12] rfl (ih7 (_, 0, trimS P S 1, _, _) _ ⟨Nat.zero_le _, hD, hR, hI.trim hP8 (by omega) (by decide) (by omega) (by omega), hks, hrs, hC, by show S.hd.gen + 1 ≤ 1 + (S.hd.first + 1); omega, by rw [htn1]; exact hnext, by rw [txts_trim, htx, List.drop_drop]; rfl, hv⟩ (by show Tx.length - (S.hd.first + 1) < Tx.length - S.hd.first; omega))
        ·
          refine OL.pure (Pure.move rfl) rfl ?_
          refine OL.pure (Pure.lss rfl rfl) rfl ?_
          refine OL.cast (.bool false) 83 rfl (congrArg Value.bool (decide_eq_false (by omega))) ?_
          refine OL.pure (Pure.move rfl) rfl ?_
          refine OL.pass rfl rfl rfl rfl rfl ?_
          refine OL.pass rfl rfl rfl rfl rfl ?_
          refine OL.pass rfl rfl rfl rfl rfl ?_
          refine OL.pass rfl rfl rfl rfl rfl ?_
          refine OL.pure (Pure.pickF rfl rfl) rfl ?_
          refine OL.nil ?_
          refine TE.condF rfl rfl ?_
          refine TE.exit rfl ?_
          refine TE.seq ?_
          refine TE.region ?_
          refine OL.pure (Pure.move rfl) rfl ?_
          refine OL.pure (Pure.move rfl) rfl ?_
          have hV := hD.len
          refine OL.call rfl Tryd.call19 rfl (app_ok d 20 c 3 P r hP haP (by decide) hpl (by omega) t (by omega) (by omega) (by omega) (by omega) (by omega) (fun h_ => absurd (hks _ h_) (by omega)) (fun h_ => absurd (hks _ h_) (by omega)) (fun h_ => absurd (hrs _ h_) (by omega)) (fun h_ => absurd (hrs _ h_) (by omega)) _ hD hR (hK.chg0 hC) (hF.chg0 hC)) ?_
          rintro _ w10 ⟨ks10, rs10, rfl, hD10, hR10, hc10, hg10, hgr10⟩
          have hv_ := hv.chg hc10 (fun k_ hk_ hm_ => (List.mem_append.1 hm_).elim (hR.apartRow hv (by decide) (by decide) k_ hk_) (hD.apartR hv (by decide) (by decide) k_ hk_))
          replace hv := hv_; clear hv_
          have hksn : ∀ k_ ∈ ks10, w.heap.size ≤ k_ := fun k_ hk_ => (hg10 k_ hk_).elim (hks k_) (fun h_ => Nat.le_trans hC.size h_)
          have hrsn : ∀ k_ ∈ rs10, w.heap.size ≤ k_ := fun k_ hk_ => (hgr10 k_ hk_).elim (hrs k_) (fun h_ => Nat.le_trans hC.size h_)
          replace hC := hC.trans hc10 (fun k_ hk_ => .inr ((List.mem_append.1 hk_).elim (hrs k_) (hks k_)))
          have hks := hksn; have hD := hD10
          have hrs := hrsn; have hR := hR10
          refine ⟨_, rfl, ?_⟩
          refine OL.pure (Pure.move rfl) rfl ?_
          refine OL.pure (Pure.extract (vs := [.int .i64 (S.next : Int), .int .i64 0]) (i := 0) rfl rfl) rfl ?_
          refine OL.pure (Pure.extract (vs := [.int .i64 (S.next : Int), .int .i64 0]) (i := 1) rfl rfl) rfl ?_
          refine OL.pure (Pure.assign rfl) rfl ?_
          refine OL.pure (Pure.assign rfl) rfl ?_
          refine OL.nil ?_
          refine TE.seq ?_
          refine TE.seq ?_
          refine TE.region ?_
          refine OL.pure (Pure.move rfl) rfl ?_
          refine OL.pure (Pure.neq rfl rfl) rfl ?_
          refine OL.cast (.bool false) 103 rfl (rfl) ?_
          refine OL.pure (Pure.move rfl) rfl ?_
          refine OL.want rfl rfl rfl (Pure.move rfl _) rfl ?_
          refine OL.want rfl rfl rfl (Pure.move rfl _) rfl ?_
          refine OL.want rfl rfl rfl (Pure.lenRow Tryd.runUnderlying42 rfl hv _) rfl ?_
          refine OL.want rfl rfl rfl (Pure.neq rfl rfl _) rfl ?_
          refine OL.cast (.bool false) 108 rfl (congrArg Value.bool (decide_eq_false (by omega))) ?_
          refine OL.pure (Pure.pickF rfl rfl) rfl ?_
          refine OL.nil ?_
          refine TE.condF rfl rfl ?_
          refine TE.skip ?_
          refine TE.region ?_
          refine OL.pure (Pure.move rfl) rfl ?_
          refine OL.pure (Pure.move rfl) rfl ?_
          refine OL.buildSlice (cs := [.string (str t)]) rfl Tryd.runUnderlying42 Tryd.sizeOf9 Tryd.zeroValue9 (by decide) (by decide) (by kernel_rfl) rfl ?_
          intro q w11 hq hc11 hg_q
          have ge_q : w.heap.size ≤ q := by have := hC.size; omega
          replace hD := hD.chg0 hc11
          replace hR := hR.chg0 hc11
          replace hv := hv.chg0 hc11
          replace hC := hC.then_ hc11
          refine OL.append (size := 1) (news := [.string (str t)]) (v := v) rfl rfl Tryd.underlying42 (.inl Tryd.underlying42) info9 rfl rfl rfl (by decide) rfl hv ((Src.of_blk hq rfl rfl)) (by simp [Value.oneCell']) (by show _ * 16 ≤ _; omega) ?_
          intro v2 w12 hv2 hc12 ho_v2
          have hm_v2 : Mine w.heap.size v2 := Mine.step hm_v (by have := hC.size; omega) ho_v2
          replace hD := hD.chg hc12 (hD.apartR' hv (by decide) (by decide))
          replace hR := hR.chg hc12 (fun k_ hk_ hm_ => hR.apartRow hv (by decide) (by decide) k_ hm_ hk_)
          replace hC := hC.own hc12 hm_v
          replace hv2 : Row w12 9 1 v2 (Tx ++ [t]).length (tv (Tx ++ [t])) := by rw [List.length_append, ← tv_snoc]; exact hv2
          have hsn := app_next S t
          have hll : (Tx ++ [t]).length = Tx.length + 1 := by simp
          refine OL.pure (Pure.assign rfl) rfl ?_
          refine OL.nil ?_
          refine TE.inBlock ?_
          refine TE.region ?_
          refine OL.pure (Pure.move rfl) rfl ?_
          refine OL.pure (Pure.add rfl rfl (i64 (by omega) (by omega))) rfl ?_
          refine OL.pure (Pure.assign rfl) rfl ?_
          refine OL.nil ?_
          refine TE.cast (.slice B ts.length cap2) 1 rfl (by rw [hBe]) ?_
          exact TE.sub [0, 1, 5, 6, 8, 9, 10] rfl (ih4 (i + 1, _, _, appS S t, _, _, v2, Tx ++ [t]) _ ⟨by omega, by omega, by have := need_le (u := used S.ents) (n := need (42 + t.length)) (P := P) (by omega); omega, hm_v2, hD, hR, hI.append hV hP8 (by omega) (by omega) (by omega), hks, hrs, hC, hgen, by omega, by rw [txts_app, htx, List.drop_append_of_le_length (by show S.hd.first ≤ _; omega)]; rfl, hv2⟩ (by simp only []; omega))
    ·
      have hpl := hI.ok.place; have hfn : S.next = S.hd.first + S.ents.length := rfl; have hroom := hI.room
      refine TE.exit rfl ?_
      refine TE.seq ?_
      refine TE.region ?_
      refine OL.pure (Pure.move rfl) rfl ?_
      refine OL.pure (Pure.move rfl) rfl ?_
      refine OL.call rfl Tryd.call11 rfl (size_any n0 hn0 _) ?_
      rintro _ _ ⟨rfl, rfl⟩
      refine ⟨_, rfl, ?_⟩
      refine OL.cast (.int .i64 ((P + 2 : Nat) : Int)) 117 rfl (by rw [hPd]) ?_
      refine OL.call rfl Tryd.call14 rfl (open_inv d 20 c 3 P hI haP (by decide) hP2 (by omega) (fun h_ => absurd (hks _ h_) (by omega)) (fun h_ => absurd (hks _ h_) (by omega)) (by omega) _ hD (hK.chg0 hC) (hF.chg0 hC)) ?_
      rintro _ w13 ⟨ks13, r13, rs13, v13, rfl, hD13, hR13, hv13, hc13, hg13, hrs13, hmv13⟩
      have hv_ := hv.chg hc13 (hD.apartR hv (by decide) (by decide))
      replace hv := hv_; clear hv_
      have hksn : ∀ k_ ∈ ks13, w.heap.size ≤ k_ := fun k_ hk_ => (hg13 k_ hk_).elim (hks k_) (fun h_ => Nat.le_trans hC.size h_)
      have hrsn : ∀ k_ ∈ rs13, w.heap.size ≤ k_ := fun k_ hk_ => Nat.le_trans hC.size (hrs13 k_ hk_)
      replace hC := hC.trans hc13 (fun k_ hk_ => .inr (hks k_ hk_))
      have hks := hksn; have hD := hD13
      have hrs := hrsn; have hR := hR13
      refine ⟨_, rfl, ?_⟩
      refine OL.pure (Pure.move rfl) rfl ?_
      refine OL.pure (Pure.extract (vs := [.pointer (some ⟨r13, 0, none⟩), v13, .int .i64 0]) (i := 0) rfl rfl) rfl ?_
      refine OL.pure (Pure.extract (vs := [.pointer (some ⟨r13, 0, none⟩), v13, .int .i64 0]) (i := 1) rfl rfl) rfl ?_
      refine OL.pure (Pure.extract (vs := [.pointer (some ⟨r13, 0, none⟩), v13, .int .i64 0]) (i := 2) rfl rfl) rfl ?_
      refine OL.pure (Pure.assign rfl) rfl ?_
      refine OL.pure (Pure.assign rfl) rfl ?_
      refine OL.pure (Pure.assign rfl) rfl ?_
      refine OL.nil ?_
      refine TE.seq ?_
      refine TE.seq ?_
      refine TE.region ?_
      refine OL.pure (Pure.move rfl) rfl ?_
      refine OL.pure (Pure.neq rfl rfl) rfl ?_
      refine OL.cast (.bool false) 123 rfl (rfl) ?_
      refine OL.pure (Pure.move rfl) rfl ?_
      refine OL.want rfl rfl rfl (Pure.move rfl _) rfl ?_
      refine OL.want rfl rfl rfl (Pure.lenRow Tryd.runUnderlying38 rfl hv13 _) rfl ?_
      refine OL.want rfl rfl rfl (Pure.move rfl _) rfl ?_
      refine OL.want rfl rfl rfl (Pure.lenRow Tryd.runUnderlying42 rfl hv _) rfl ?_
      refine OL.want rfl rfl rfl (Pure.move rfl _) rfl ?_
      refine OL.want rfl rfl rfl (Pure.sub rfl rfl (i64 (by omega) (by omega)) _) rfl ?_
      refine OL.want rfl rfl rfl (Pure.neq rfl rfl _) rfl ?_
      refine OL.cast (.bool false) 131 rfl (congrArg Value.bool (decide_eq_false (by omega))) ?_
      refine OL.pure (Pure.pickF rfl rfl) rfl ?_
      refine OL.nil ?_
      refine TE.condF rfl rfl ?_
      refine TE.skip ?_
      refine TE.seq ?_
      refine TE.seq ?_
      refine TE.region ?_
      refine OL.pure (Pure.assign rfl) rfl ?_
      refine OL.nil ?_
      refine TE.block ?_
      refine TE.loopInv (σ := Nat) [8, 9, 19, 21] (fun s_ w_ => s_ ≤ S.ents.length ∧ Chg [] w13 w_) (fun s_ => [(8, v), (9, .int .i64 (↑S.hd.first)), (19, v13), (21, .int .i64 (s_ : Int))]) (fun s_ => S.ents.length - s_) 0 ⟨Nat.zero_le _, Chg.refl _ _⟩ rfl ?_
      rintro i w14 ⟨hi, hcl⟩ ih14
      have hv := hv.chg0 hcl
      have hv13 := hv13.chg0 hcl
      refine TE.seq ?_
      refine TE.seq ?_
      refine TE.region ?_
      refine OL.pure (Pure.move rfl) rfl ?_
      refine OL.pure (Pure.move rfl) rfl ?_
      refine OL.pure (Pure.lenRow Tryd.runUnderlying38 rfl hv13) rfl ?_
      refine OL.pure (Pure.lss rfl rfl) rfl ?_
      refine OL.nil ?_
      refine TE.ite rfl (fun hlt => ?_) (fun hlt => ?_)
      ·
        replace hlt : i < S.ents.length := by omega
        obtain ⟨gy, capy, csy, hvf, hby, hcy, hly, hty⟩ := hv13.form (by omega)
        obtain ⟨ga, capa, csa, hvg, hba, hca, hla, hta⟩ := hv.form (by omega)
        refine TE.cast (.slice (some ⟨gy, 0, none⟩) S.ents.length capy) 19 rfl (hvf) ?_
        refine TE.cast (.slice (some ⟨ga, 0, none⟩) Tx.length capa) 8 rfl (hvg) ?_
        refine TE.skip ?_
        refine TE.seq ?_
        refine TE.block ?_
        refine TE.seq ?_
        refine TE.planAll (.cons (0, true) (.cons (1, true) (.cons (2, true) (.cons (3, true) (.cons (4, true) (.cons (5, true) (.cons (6, true) (.cons (7, true) (.cons (8, true) (.cons (9, true) (.cons (10, true) (.cons (11, true) (.cons (12, true) (.cons (13, true) (.cons (14, true) (.cons (15, true) (.cons (16, true) (.cons (17, true) (.cons (18, true) (.cons (19, true) (.cons (20, true) (.cons (21, true) (.cons (22, true) .nil))))))))))))))))))))))) (fun w_ => Chg [] w14 w_) rfl (by kernel_rfl) ?_
        have hS15 : Chg [] w14 w14.drew := Chg.drew _ _
        refine PL.takeP rfl (Pure.move rfl) rfl hS15 ?_
        refine PL.takeP rfl (Pure.move rfl) rfl hS15 ?_
        refine PL.takeP rfl (Pure.indexAddrS (r := 2 * i) Tryd.runUnderlying38 Tryd.sizeOf49 rfl rfl (by omega) (by omega) (by omega)) rfl hS15 ?_
        refine PL.takeP rfl (Pure.fieldAddr (r := 2 * i) Tryd.runUnderlying49 rfl Tryd.sizeOf3 rfl rfl) rfl hS15 ?_
        refine PL.take rfl (fun w_ h_ => Run.load (i := 2 * i) rfl Tryd.isAgg3 (hby.chg0 h_) (by omega) (entC_num hty rfl hlt)) rfl hS15 ?_
        refine PL.takeP rfl (Pure.move rfl) rfl hS15 ?_
        refine PL.takeP rfl (Pure.move rfl) rfl hS15 ?_
        refine PL.takeP rfl (Pure.add rfl rfl (i64 (by omega) (by omega))) rfl hS15 ?_
        refine PL.takeP rfl (Pure.neq rfl rfl) rfl hS15 ?_
        refine PL.cast (.bool false) 147 rfl (congrArg Value.bool (decide_eq_false (by omega))) ?_
        refine PL.takeP rfl (Pure.move rfl) rfl hS15 ?_
        refine PL.takeG _ (fun _ h_ => h_) rfl rfl rfl rfl (fun w_ h_ => Pure.move rfl _) rfl hS15 ?_
        refine PL.takeG _ (fun _ h_ => h_) rfl rfl rfl rfl (fun w_ h_ => Pure.move rfl _) rfl hS15 ?_
        refine PL.takeG _ (fun _ h_ => h_) rfl rfl rfl rfl (fun w_ h_ => Pure.indexAddrS (r := 2 * i) Tryd.runUnderlying38 Tryd.sizeOf49 rfl rfl (by omega) (by omega) (by omega) _) rfl hS15 ?_
        refine PL.takeG _ (fun _ h_ => h_) rfl rfl rfl rfl (fun w_ h_ => Pure.fieldAddr (r := 2 * i + 1) Tryd.runUnderlying49 rfl Tryd.sizeOf9 rfl rfl _) rfl hS15 ?_
        refine PL.takeG _ (fun _ h_ => h_) rfl rfl rfl rfl (fun w_ h_ => Run.load (i := 2 * i + 1) rfl Tryd.isAgg9 (hby.chg0 h_) (by omega) (entC_txt hty rfl hlt)) rfl hS15 ?_
        refine PL.takeG _ (fun _ h_ => h_) rfl rfl rfl rfl (fun w_ h_ => Pure.move rfl _) rfl hS15 ?_
        refine PL.takeG _ (fun _ h_ => h_) rfl rfl rfl rfl (fun w_ h_ => Pure.move rfl _) rfl hS15 ?_
        refine PL.takeG _ (fun _ h_ => h_) rfl rfl rfl rfl (fun w_ h_ => Pure.move rfl _) rfl hS15 ?_
        refine PL.takeG _ (fun _ h_ => h_) rfl rfl rfl rfl (fun w_ h_ => Pure.add rfl rfl (i64 (by omega) (by omega)) _) rfl hS15 ?_
        refine PL.takeG _ (fun _ h_ => h_) rfl rfl rfl rfl (fun w_ h_ => Pure.indexAddrS (r := S.hd.first + i) Tryd.runUnderlying42 Tryd.sizeOf9 rfl rfl (by omega) (by omega) (by omega) _) rfl hS15 ?_
        refine PL.takeG _ (fun _ h_ => h_) rfl rfl rfl rfl (fun w_ h_ => Run.load (i := S.hd.first + i) rfl Tryd.isAgg9 (hba.chg0 h_) (by omega) (show _ = some (Value.string (str ((txts S).getD i []))) from by rw [htx, Rg.drop_getD]; exact tv_cell hta rfl (by omega))) rfl hS15 ?_
        refine PL.takeG _ (fun _ h_ => h_) rfl rfl rfl rfl (fun w_ h_ => Pure.strNeq (l := ((txts S).getD i [])) (m := ((txts S).getD i [])) rfl rfl _) rfl hS15 ?_
        refine PL.cast (.bool false) 160 rfl (congrArg Value.bool (decide_eq_false (fun h => h rfl))) ?_
        refine PL.takeP rfl (Pure.pickF rfl rfl) rfl hS15 ?_
        refine PL.nil ?_
        replace hv := hv.chg0 hS15
        replace hv13 := hv13.chg0 hS15
        replace hby := hby.chg0 hS15
        replace hba := hba.chg0 hS15
        replace hcl := hcl.then_ hS15
        refine TE.condF rfl rfl ?_
        refine TE.skip ?_
        refine TE.inBlock ?_
        refine TE.region ?_
        refine OL.pure (Pure.move rfl) rfl ?_
        refine OL.pure (Pure.add rfl rfl (i64 (by omega) (by omega))) rfl ?_
        refine OL.pure (Pure.assign rfl) rfl ?_
        refine OL.nil ?_
        refine TE.cast (v13) 19 rfl (hvf.symm) ?_
        refine TE.cast (v) 8 rfl (hvg.symm) ?_
        exact TE.sub [8, 9, 19, 21] rfl (ih14 (i + 1) _ ⟨by omega, hcl⟩ (by omega))
      ·
        refine TE.exit rfl ?_
        refine TE.seq ?_
        refine TE.region ?_
        refine OL.pure (Pure.assign rfl) rfl ?_
        refine OL.nil ?_
        exact TE.ret (vs := [.bool true]) Tryd.results4 (⟨rfl, trivial⟩) ⟨rfl, hC.then_ hcl⟩

end Go.Proofs.YtcologcjhenmkaaDoor
