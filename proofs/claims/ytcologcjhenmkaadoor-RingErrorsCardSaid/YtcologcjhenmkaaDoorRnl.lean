/- What the laws of rings use, walked -/
import Derived.Test.YtcologcjhenmkaaDoorProg
import Derived.Test.YtcologcjhenmkaaDoorSpecB
import Derived.Test.YtcologcjhenmkaaDoorRngB
import Derived.Test.YtcologcjhenmkaaDoorRngC
set_option linter.unusedVariables false
set_option maxRecDepth 4000
namespace Go.Proofs.YtcologcjhenmkaaDoor
open Go.V Go.Rg Go.Frm Go.Sha
theorem size_any (k : Nat) (hk : k ≤ 255) (w : World) : Calls Tryd.prog 11 #[.int .u8 (k : Int)] w (Ret (.int .i64 ((2 + k % 14 + 2 : Nat) : Int)) w) := by
  refine calls_of_TE (vs := [.int .u8 (k : Int)]) Tryd.func11 Tryd.ntmps11 rfl (by simp) ?_
  refine TE.seq ?_
  refine TE.region ?_
  refine OL.pure (Pure.assign rfl) rfl ?_
  refine OL.nil ?_
  refine TE.seq ?_
  refine TE.region ?_
  refine OL.pure (Pure.move rfl) rfl ?_
  refine OL.pure (Pure.rem rfl rfl (by omega) (by omega)) rfl ?_
  refine OL.cast (.int .u8 ((k % 14 : Nat) : Int)) 4 rfl (congrArg (Value.int .u8) (by omega)) ?_
  refine OL.pure (Pure.conv Tryd.runUnderlying5 Tryd.runUnderlying3 rfl (i64in (by omega) (by omega))) rfl ?_
  refine OL.pure (Pure.add rfl rfl (i64 (by omega) (by omega))) rfl ?_
  refine OL.cast (.int .i64 ((2 + k % 14 + 2 : Nat) : Int)) 6 rfl (congrArg (Value.int .i64) (by omega)) ?_
  refine OL.pure (Pure.assign rfl) rfl ?_
  refine OL.nil ?_
  exact TE.ret (vs := [.int .i64 ((2 + k % 14 + 2 : Nat) : Int)]) Tryd.results11 (⟨rfl, trivial⟩) ⟨rfl, rfl⟩

theorem text_any (N B : Nat) (hN : N ≤ 65535) (hB : B ≤ 255) (w : World) : Calls Tryd.prog 18 #[.int .u16 (N : Int), .int .u8 (B : Int)] w (RetC (.string (str (txt N B))) w) := by
  refine calls_of_TE (vs := [.int .u16 (N : Int), .int .u8 (B : Int)]) Tryd.func18 Tryd.ntmps18 rfl (by simp) ?_
  have hC : Chg [] w w := Chg.refl _ _
  obtain ⟨m, hm⟩ : ∃ m, m = N % 1600 := ⟨_, rfl⟩
  refine TE.seq ?_
  refine TE.region ?_
  refine OL.pure (Pure.assign rfl) rfl ?_
  refine OL.nil ?_
  refine TE.seq ?_
  refine TE.region ?_
  refine OL.pure (Pure.move rfl) rfl ?_
  refine OL.pure (Pure.rem rfl rfl (by omega) (by omega)) rfl ?_
  refine OL.cast (.int .u16 (m : Int)) 8 rfl (congrArg (Value.int .u16) (by omega)) ?_
  refine OL.pure (Pure.conv Tryd.runUnderlying33 Tryd.runUnderlying3 rfl (i64in (by omega) (by omega))) rfl ?_
  refine OL.makeSlice (m := m) (c := m) (v := .int .u8 0) rfl rfl Tryd.underlying34 info5 rfl rfl rfl (Nat.le_refl _) (by show 1 * m ≤ _; omega) (by omega) rfl ?_
  intro gb w1 hb hc1 hg_gb
  have ge_gb : w.heap.size ≤ gb := by have := hC.size; omega
  replace hC := hC.then_ hc1
  replace hb : Blk w1 gb 5 (bv (txtTo N B 0)) := by rw [txtTo_zero, bv_zeros, ← hm]; exact hb
  refine OL.pure (Pure.assign rfl) rfl ?_
  refine OL.nil ?_
  refine TE.seq ?_
  refine TE.seq ?_
  refine TE.region ?_
  refine OL.pure (Pure.assign rfl) rfl ?_
  refine OL.nil ?_
  refine TE.block ?_
  refine TE.loopInv (σ := Nat) [0, 1, 5, 6] (fun s_ w_ => s_ ≤ m ∧ Chg [] w w_ ∧ Blk w_ gb 5 (bv (txtTo N B s_))) (fun s_ => [(0, .int .u16 (↑N)), (1, .int .u8 (↑B)), (5, .slice (some ⟨gb, 0, none⟩) m m), (6, .int .i64 (s_ : Int))]) (fun s_ => m - s_) 0 ⟨Nat.zero_le _, hC, hb⟩ rfl ?_
  rintro i w2 ⟨hi, hC, hb⟩ ih2
  refine TE.seq ?_
  refine TE.seq ?_
  refine TE.region ?_
  refine OL.pure (Pure.move rfl) rfl ?_
  refine OL.pure (Pure.move rfl) rfl ?_
  refine OL.pure (Pure.lenSlice Tryd.runUnderlying34 rfl) rfl ?_
  refine OL.pure (Pure.lss rfl rfl) rfl ?_
  refine OL.nil ?_
  refine TE.ite rfl (fun hlt => ?_) (fun hlt => ?_)
  ·
    have hlen := txtTo_len (N := N) (B := B) (i := i) (by omega)
    have hlt2 : i < m := by omega
    refine TE.skip ?_
    refine TE.seq ?_
    refine TE.block ?_
    refine TE.region ?_
    refine OL.pure (Pure.move rfl) rfl ?_
    refine OL.pure (Pure.move rfl) rfl ?_
    refine OL.pure (Pure.move rfl) rfl ?_
    refine OL.pure (Pure.move rfl) rfl ?_
    refine OL.pure (Pure.conv Tryd.runUnderlying3 Tryd.runUnderlying5 rfl (u8w _)) rfl ?_
    refine OL.pure (Pure.mul rfl rfl (u8w _)) rfl ?_
    refine OL.pure (Pure.add rfl rfl (u8w _)) rfl ?_
    refine OL.cast (.int .u8 (((UInt8.ofNat (B + i * 5)).toNat : Nat) : Int)) 23 rfl (congrArg (Value.int .u8) (byte_five B i)) ?_
    refine OL.pure (Pure.indexAddrS (r := i) Tryd.runUnderlying34 Tryd.sizeOf5 rfl rfl (by omega) (by omega) (by omega)) rfl ?_
    refine OL.store (j := i) rfl rfl Tryd.sizeOf5 rfl hb (by omega) (List.getElem?_eq_getElem (by rw [bv_len, hlen]; omega)) ?_
    intro w3 hb3 hc3
    replace hC := hC.trans1 hc3 (by first | exact .inr (by omega) | exact .inl (by simp))
    replace hb := hb3
    rw [txtTo_set (by omega)] at hb
    refine OL.nil ?_
    refine TE.inBlock ?_
    refine TE.region ?_
    refine OL.pure (Pure.move rfl) rfl ?_
    refine OL.pure (Pure.add rfl rfl (i64 (by omega) (by omega))) rfl ?_
    refine OL.pure (Pure.assign rfl) rfl ?_
    refine OL.nil ?_
    exact TE.sub [0, 1, 5, 6] rfl (ih2 (i + 1) _ ⟨by omega, hC, hb⟩ (by omega))
  ·
    obtain rfl : i = m := by omega
    rw [hm, txtTo_all] at hb
    refine TE.exit rfl ?_
    refine TE.seq ?_
    refine TE.region ?_
    refine OL.pure (Pure.move rfl) rfl ?_
    refine OL.val (Run.toStr (bs := txt N B) Tryd.underlying34 Tryd.underlying5 Tryd.underlying9 rfl hb (by rw [txt_len, hm]) (by rw [List.drop_zero]; exact List.take_of_length_le (by rw [bv_len, txt_len, hm]; exact Nat.le_refl _))) rfl ?_
    refine OL.pure (Pure.assign rfl) rfl ?_
    refine OL.nil ?_
    exact TE.ret (vs := [.string (str (txt N B))]) Tryd.results18 (⟨rfl, trivial⟩) ⟨rfl, hC⟩

theorem fits_any (A : Option Addr) (cap : Nat) (L : List Opr) (hlen : L.length ≤ 9223372036854775807) (w : World) (hA : CellsOp w A L) : Calls Tryd.prog 9 #[.slice A L.length cap] w (fun e w_ => ∃ b, e = .returned (.bool b) ∧ (b = true → L.length ≤ 25) ∧ w = w_) := by
  refine calls_of_TE (vs := [.slice A L.length cap]) Tryd.func9 Tryd.ntmps9 rfl (by simp) ?_
  refine TE.seq ?_
  refine TE.region ?_
  refine OL.pure (Pure.assign rfl) rfl ?_
  refine OL.nil ?_
  refine TE.seq ?_
  refine TE.seq ?_
  refine TE.region ?_
  refine OL.pure (Pure.assign rfl) rfl ?_
  refine OL.nil ?_
  refine TE.block ?_
  refine TE.loopInv (σ := Nat) [0, 3] (fun s_ w_ => s_ ≤ L.length ∧ w = w_) (fun s_ => [(0, .slice A L.length cap), (3, .int .i64 (s_ : Int))]) (fun s_ => L.length - s_) 0 ⟨Nat.zero_le _, rfl⟩ rfl ?_
  rintro i w1 ⟨hi, rfl⟩ ih1
  refine TE.seq ?_
  refine TE.seq ?_
  refine TE.region ?_
  refine OL.pure (Pure.move rfl) rfl ?_
  refine OL.pure (Pure.move rfl) rfl ?_
  refine OL.pure (Pure.lenSlice Tryd.runUnderlying22 rfl) rfl ?_
  refine OL.pure (Pure.lss rfl rfl) rfl ?_
  refine OL.nil ?_
  refine TE.ite rfl (fun hlt => ?_) (fun hlt => ?_)
  ·
    replace hlt : i < L.length := by omega
    obtain ⟨g, o, hAe, hr⟩ := hA i hlt
    have hA3 := hr 3 _ rfl
    refine TE.cast (.slice (some ⟨g, o, none⟩) L.length cap) 0 rfl (by rw [hAe]) ?_
    refine TE.skip ?_
    refine TE.seq ?_
    refine TE.block ?_
    refine TE.seq ?_
    refine TE.region ?_
    refine OL.pure (Pure.move rfl) rfl ?_
    refine OL.pure (Pure.move rfl) rfl ?_
    refine OL.pure (Pure.indexAddrS (r := o + 4 * i) Tryd.runUnderlying22 Tryd.sizeOf36 rfl rfl (by omega) (by omega) (by omega)) rfl ?_
    refine OL.pure (Pure.fieldAddr (r := o + 4 * i + 3) Tryd.runUnderlying36 rfl Tryd.sizeOf34 rfl rfl) rfl ?_
    refine OL.val (Run.loadCell rfl Tryd.isAgg34 hA3) rfl ?_
    refine OL.pure (Pure.lenSlice Tryd.runUnderlying34 rfl) rfl ?_
    refine OL.pure (Pure.gtr rfl rfl) rfl ?_
    refine OL.nil ?_
    refine TE.ite rfl (fun hm => ?_) (fun hm => ?_)
    ·
      refine TE.seq ?_
      refine TE.region ?_
      refine OL.pure (Pure.assign rfl) rfl ?_
      refine OL.nil ?_
      exact TE.ret (vs := [.bool false]) Tryd.results9 (⟨rfl, trivial⟩) ⟨false, rfl, (fun h => by cases h), rfl⟩
    ·
      refine TE.skip ?_
      refine TE.inBlock ?_
      refine TE.region ?_
      refine OL.pure (Pure.move rfl) rfl ?_
      refine OL.pure (Pure.add rfl rfl (i64 (by omega) (by omega))) rfl ?_
      refine OL.pure (Pure.assign rfl) rfl ?_
      refine OL.nil ?_
      refine TE.cast (.slice A L.length cap) 0 rfl (by rw [hAe]) ?_
      exact TE.sub [0, 3] rfl (ih1 (i + 1) _ ⟨by omega, rfl⟩ (by omega))
  ·
    refine TE.exit rfl ?_
    refine TE.seq ?_
    refine TE.region ?_
    refine OL.pure (Pure.move rfl) rfl ?_
    refine OL.pure (Pure.lenSlice Tryd.runUnderlying22 rfl) rfl ?_
    refine OL.pure (Pure.leq rfl rfl) rfl ?_
    refine OL.pure (Pure.assign rfl) rfl ?_
    refine OL.nil ?_
    exact TE.ret (vs := [.bool (decide ((L.length : Int) ≤ 25))]) Tryd.results9 (⟨rfl, trivial⟩) ⟨_, rfl, (fun h => by have := of_decide_eq_true h; omega), rfl⟩

theorem open_inv {tK tF : TypeId} {V : Int → List UInt8} {ks : List Nat} {S : Rs} (d n c a P : Nat) (hI : Inv V a P S) (haP : a + 2 + P ≤ n) (hn : n ≤ 8192) (hP2 : 2 ≤ P) (hc0 : c ≤ 1073741822) (hk0 : 1 ∉ ks) (hk1 : 0 ∉ ks) (hgm : S.hd.gen < 2147483647) (w : World) (hD : Dk 93 97 w d n (V) (c) false ks) (hK : Blk w 1 tK (iv .u32 K)) (hF : Blk w 0 tF (iv .i64 fldL)) :
    Calls Tryd.prog 14 #[.pointer (some ⟨d, 0, none⟩), .int .i64 (a : Int), .int .i64 ((P + 2 : Nat) : Int)] w (fun e w_ => ∃ ks_ r rs_ v, e = .returned (.tuple #[.pointer (some ⟨r, 0, none⟩), v, .int .i64 0]) ∧ Dk 93 97 w_ d n (openV V a P S) (0) false ks_ ∧ RgK 80 85 w_ r d a P (openS S) rs_ ∧ Row w_ 49 2 v S.ents.length (entC S.hd.first S.ents) ∧ Chg ks w w_ ∧ Grew ks ks_ w ∧ (∀ k ∈ rs_, w.heap.size ≤ k) ∧ Mine w.heap.size v) := by
  have h := open_ok d n c a P haP hn hP2 hc0 hk0 hk1 S.hd (cur_of hI) hgm w hD hK hF
  rw [scan_inv hD.len hI] at h
  exact h
theorem First_of (d a P r : Nat) (S : Rs) (rs : List Nat) (w : World) (hR : RgK 80 85 w r d a P (S) rs) : Calls Tryd.prog 15 #[.pointer (some ⟨r, 0, none⟩)] w (Ret (.int .i64 (S.hd.first : Int)) w) := by
  obtain ⟨pv, sy, hr, hs, _⟩ := hR
  exact First_any d a P r S.hd pv _ _ sy _ hr
theorem Next_of (d a P r : Nat) (S : Rs) (rs : List Nat) (w : World) (hR : RgK 80 85 w r d a P (S) rs) : Calls Tryd.prog 16 #[.pointer (some ⟨r, 0, none⟩)] w (Ret (.int .i64 (S.next : Int)) w) := by
  obtain ⟨pv, sy, hr, hs, _⟩ := hR
  exact next_any d a P r S.hd pv _ _ sy _ hr
theorem Gen_of (d a P r : Nat) (S : Rs) (rs : List Nat) (w : World) (hR : RgK 80 85 w r d a P (S) rs) : Calls Tryd.prog 31 #[.pointer (some ⟨r, 0, none⟩)] w (Ret (.int .i64 (S.hd.gen : Int)) w) := by
  obtain ⟨pv, sy, hr, hs, _⟩ := hR
  exact generation_any d a P r S.hd pv _ _ sy _ hr
theorem Free_of (d a P r : Nat) (S : Rs) (rs : List Nat) (hu : used S.ents ≤ P) (hP : P ≤ 8192) (hp : S.hd.place < P) (hn : S.next ≤ 1099511627775) (w : World) (hR : RgK 80 85 w r d a P (S) rs) : Calls Tryd.prog 17 #[.pointer (some ⟨r, 0, none⟩)] w (RetC (.int .i64 ((P - used S.ents : Nat) : Int)) w) := by
  obtain ⟨pv, sy, hr, hs, _⟩ := hR
  have : S.next = S.hd.first + S.ents.length := rfl
  exact free_any d a P r S.hd pv _ _ sy S.ents hu hP hp (by omega) _ hr hs
set_option maxHeartbeats 2000000 in
theorem step_any {tK tF : TypeId} {V : Int → List UInt8} {ks rs : List Nat} {S : Rs} (d n c a P r k N B m cp : Nat) (X : Option Addr) (hP : 0 < P) (haP : a + 2 + P ≤ n) (hn : n ≤ 8192) (hk : k ≤ 255) (hN : N ≤ 65535) (hB : B ≤ 255) (hI : Inv V a P S) (hgm : S.hd.gen ≤ 1000000) (hnx : S.next ≤ 1000000) (hc0 : c ≤ 1000000000) (hk0 : 1 ∉ ks) (hk1 : 0 ∉ ks) (hq0 : 1 ∉ rs) (hq1 : 0 ∉ rs) (w : World) (hD : Dk 93 97 w d n (V) (c) false ks) (hR : RgK 80 85 w r d a P (S) rs) (hK : Blk w 1 tK (iv .u32 K)) (hF : Blk w 0 tF (iv .i64 fldL)) : Calls Tryd.prog 12 #[.pointer (some ⟨r, 0, none⟩), .agg (Opr.cells ⟨k, N, B, X, m, cp⟩).toArray] w (fun e w_ => ∃ V2 c2 S2 ks_ rs_ er, e = .returned (.int .i64 er) ∧ Dk 93 97 w_ d n (V2) (c2) false ks_ ∧ RgK 80 85 w_ r d a P (S2) rs_ ∧ Chg (rs ++ ks) w w_ ∧ Grew ks ks_ w ∧ Grew rs rs_ w ∧ Inv V2 a P S2 ∧ StepR P k N B S S2 er ∧ (∀ j : Int, (j < a ∨ (a : Int) + 2 + P ≤ j) → V2 j = V j) ∧ c2 ≤ c + P) := by
  refine calls_of_TE (vs := [.pointer (some ⟨r, 0, none⟩), .agg (Opr.cells ⟨k, N, B, X, m, cp⟩).toArray]) Tryd.func12 Tryd.ntmps12 rfl (by simp) ?_
  have hC : Chg [] w w := Chg.refl _ _
  have h0w : 1 < w.heap.size := hK.lt
  have h1w : 0 < w.heap.size := hF.lt
  have hV : Full V := hD.len
  have hpl := hI.ok.place; have hroom := hI.room; have hP8 : P ≤ 8192 := by omega
  have htl := txt_len N B
  have htm : N % 1600 < 1600 := Nat.mod_lt _ (by omega)
  have hfn : S.hd.first ≤ S.next := Nat.le_add_right _ _
  have hnl : S.next = S.hd.first + S.ents.length := rfl
  refine TE.seq ?_
  refine TE.region ?_
  refine OL.box rfl rfl ?_
  intro g3 w1 h3 hc1 hg_g3
  have lt_1_g3 : 1 < g3 := by have := hK.lt; omega
  have lt_0_g3 : 0 < g3 := by have := hF.lt; omega
  have ge_g3 : w.heap.size ≤ g3 := by have := hC.size; omega
  replace hD := hD.chg0 hc1
  replace hR := hR.chg0 hc1
  replace hK := hK.chg0 hc1
  replace hF := hF.chg0 hc1
  replace hC := hC.then_ hc1
  have h3 : Blk w1 g3 36 ((Opr.cells ⟨k, N, B, X, m, cp⟩)) := h3
  refine OL.pure (Pure.assign rfl) rfl ?_
  refine OL.nil ?_
  refine TE.seq ?_
  refine TE.seq ?_
  refine TE.region ?_
  refine OL.pure (Pure.fieldAddr (r := 0) Tryd.runUnderlying36 rfl Tryd.sizeOf5 rfl rfl) rfl ?_
  refine OL.val (Run.load (i := 0) rfl Tryd.isAgg5 h3 (by omega) (show _ = some (Value.int .u8 (k : Int)) from rfl)) rfl ?_
  refine OL.pure (Pure.rem rfl rfl (by omega) (by omega)) rfl ?_
  refine OL.cast (.int .u8 ((k % 3 : Nat) : Int)) 9 rfl (congrArg (Value.int .u8) (by omega)) ?_
  have hCz : w.heap.size ≤ w1.heap.size := hC.size
  refine OL.nil ?_
  refine TE.block ?_
  refine TE.seq ?_
  refine TE.region ?_
  refine OL.pure (Pure.eql rfl rfl) rfl ?_
  refine OL.pure (Pure.assign rfl) rfl ?_
  refine OL.nil ?_
  refine TE.ite rfl (fun hk3 => ?_) (fun hk3 => ?_)
  ·
    replace hk3 : k % 3 = 0 := by omega
    refine TE.seq ?_
    refine TE.region ?_
    refine OL.pure (Pure.move rfl) rfl ?_
    refine OL.pure (Pure.fieldAddr (r := 1) Tryd.runUnderlying36 rfl Tryd.sizeOf33 rfl rfl) rfl ?_
    refine OL.val (Run.load (i := 1) rfl Tryd.isAgg33 h3 (by omega) (show _ = some (Value.int .u16 (N : Int)) from rfl)) rfl ?_
    refine OL.pure (Pure.fieldAddr (r := 2) Tryd.runUnderlying36 rfl Tryd.sizeOf5 rfl rfl) rfl ?_
    refine OL.val (Run.load (i := 2) rfl Tryd.isAgg5 h3 (by omega) (show _ = some (Value.int .u8 (B : Int)) from rfl)) rfl ?_
    refine OL.call rfl Tryd.call18 rfl (text_any N B hN hB _) ?_
    rintro _ w2 ⟨rfl, hc2⟩
    replace hD := hD.chg0 hc2
    replace hR := hR.chg0 hc2
    replace hK := hK.chg0 hc2
    replace hF := hF.chg0 hc2
    replace h3 := h3.chg0 hc2
    replace hC := hC.then_ hc2
    refine ⟨_, rfl, ?_⟩
    replace hCz := hC.size
    by_cases hfit : used S.ents + need (42 + (txt N B).length) ≤ P
    ·
      refine OL.call rfl Tryd.call19 rfl (app_ok d n c a P r hP haP hn hpl (by omega) (txt N B) (by omega) hfit (by omega) (by omega) (by omega) hk0 hk1 hq0 hq1 _ hD hR hK hF) ?_
      rintro _ w9 ⟨ks9, rs9, rfl, hD9, hR9, hc9, hg9, hgr9⟩
      replace hC := (hC.mono (bad' := rs ++ ks) (fun _ h_ => by cases h_)).trans hc9 (fun _ h_ => .inl h_)
      replace hg9 := (Grew.refl ks w).trans hg9 hCz; replace hgr9 := (Grew.refl rs w).trans hgr9 hCz
      refine ⟨_, rfl, ?_⟩
      refine OL.pure (Pure.move rfl) rfl ?_
      refine OL.pure (Pure.extract (vs := [.int .i64 (S.next : Int), .int .i64 0]) (i := 0) rfl rfl) rfl ?_
      refine OL.pure (Pure.extract (vs := [.int .i64 (S.next : Int), .int .i64 0]) (i := 1) rfl rfl) rfl ?_
      refine OL.pure (Pure.assign rfl) rfl ?_
      refine OL.pure (Pure.assign rfl) rfl ?_
      refine OL.nil ?_
      refine TE.seq ?_
      refine TE.region ?_
      refine OL.pure (Pure.move rfl) rfl ?_
      refine OL.pure (Pure.assign rfl) rfl ?_
      refine OL.nil ?_
      exact TE.ret (vs := [.int .i64 0]) Tryd.results12 (⟨rfl, trivial⟩) ⟨appV V a P S (txt N B), (c + need (42 + (txt N B).length)), appS S (txt N B), ks9, rs9, 0, rfl, hD9, hR9, hC, hg9, hgr9, hI.append hV hP8 (by omega) (by omega) hfit, .inl ⟨hk3, .inl ⟨rfl, rfl⟩⟩, fun j hj => appV_out hP hj, by omega⟩
    ·
      refine OL.call rfl Tryd.call19 rfl (app_full d n c a P r hP haP hn hpl (by omega) (txt N B) (by omega) hroom (by omega) _ hD hR hK hF) ?_
      rintro _ w3 ⟨rfl, hc3⟩
      replace hD := hD.chg0 hc3
      replace hR := hR.chg0 hc3
      replace hK := hK.chg0 hc3
      replace hF := hF.chg0 hc3
      replace h3 := h3.chg0 hc3
      replace hC := hC.then_ hc3
      refine ⟨_, rfl, ?_⟩
      refine OL.pure (Pure.move rfl) rfl ?_
      refine OL.pure (Pure.extract (vs := [.int .i64 0, .int .i64 26]) (i := 0) rfl rfl) rfl ?_
      refine OL.pure (Pure.extract (vs := [.int .i64 0, .int .i64 26]) (i := 1) rfl rfl) rfl ?_
      refine OL.pure (Pure.assign rfl) rfl ?_
      refine OL.pure (Pure.assign rfl) rfl ?_
      refine OL.nil ?_
      refine TE.seq ?_
      refine TE.region ?_
      refine OL.pure (Pure.move rfl) rfl ?_
      refine OL.pure (Pure.assign rfl) rfl ?_
      refine OL.nil ?_
      exact TE.ret (vs := [.int .i64 26]) Tryd.results12 (⟨rfl, trivial⟩) ⟨V, c, S, ks, rs, 26, rfl, hD, hR, hC.mono (fun _ h_ => by cases h_), Grew.refl _ _, Grew.refl _ _, hI, .inl ⟨hk3, .inr ⟨rfl, rfl⟩⟩, fun _ _ => rfl, by omega⟩
  ·
    refine TE.seq ?_
    refine TE.region ?_
    refine OL.pure (Pure.eql rfl rfl) rfl ?_
    refine OL.pure (Pure.assign rfl) rfl ?_
    refine OL.nil ?_
    refine TE.ite rfl (fun hk3b => ?_) (fun hk3b => ?_)
    ·
      replace hk3b : k % 3 = 1 := by omega
      refine TE.seq ?_
      refine TE.region ?_
      refine OL.pure (Pure.move rfl) rfl ?_
      refine OL.call rfl Tryd.call20 rfl (sync_any d n c a P r hP haP hn hpl (by omega) (by omega) _ hD hR) ?_
      rintro _ w9 ⟨ks9, rs9, rfl, hD9, hR9, hc9, hg9, hgr9⟩
      replace hC := (hC.mono (bad' := rs ++ ks) (fun _ h_ => by cases h_)).trans hc9 (fun _ h_ => .inl h_)
      replace hg9 := (Grew.refl ks w).trans hg9 hCz; replace hgr9 := (Grew.refl rs w).trans hgr9 hCz
      refine ⟨_, rfl, ?_⟩
      refine OL.pure (Pure.assign rfl) rfl ?_
      refine OL.nil ?_
      exact TE.ret (vs := [.int .i64 0]) Tryd.results12 (⟨rfl, trivial⟩) ⟨V, 0, S, ks9, rs9, 0, rfl, hD9, hR9, hC, hg9, hgr9, hI, .inr (.inl ⟨hk3b, rfl, rfl⟩), fun _ _ => rfl, by omega⟩
    ·
      have hk3c : k % 3 = 2 := by omega
      obtain ⟨b, hb⟩ : ∃ b : Int, b = (S.hd.first : Int) + ((N % 9 : Nat) : Int) - 2 := ⟨_, rfl⟩
      refine TE.skip ?_
      refine TE.inBlock ?_
      refine TE.seq ?_
      refine TE.plan 9 (.cons (0, true) (.cons (1, true) (.cons (3, true) (.cons (4, true) (.cons (5, true) (.cons (6, true) (.cons (2, false) (.cons (7, true) (.cons (8, true) .nil))))))))) (fun w_ => Blk w_ g3 36 ((Opr.cells ⟨k, N, B, X, m, cp⟩))) rfl (by kernel_rfl) rfl ?_
      have hS4 : Chg [] w1 w1.drew := Chg.drew _ _
      replace hD := hD.chg0 hS4
      replace hR := hR.chg0 hS4
      replace hK := hK.chg0 hS4
      replace hF := hF.chg0 hS4
      replace h3 := h3.chg0 hS4
      replace hC := hC.then_ hS4
      refine PL.takeP rfl (Pure.move rfl) rfl h3 ?_
      refine PL.takeP rfl (Pure.move rfl) rfl h3 ?_
      refine PL.takeP rfl (Pure.fieldAddr (r := 1) Tryd.runUnderlying36 rfl Tryd.sizeOf33 rfl rfl) rfl h3 ?_
      refine PL.take rfl (fun w_ h_ => Run.load (i := 1) rfl Tryd.isAgg33 h_ (by omega) (show _ = some (Value.int .u16 (N : Int)) from rfl)) rfl h3 ?_
      refine PL.takeP rfl (Pure.rem rfl rfl (by omega) (by omega)) rfl h3 ?_
      refine PL.cast (.int .u16 ((N % 9 : Nat) : Int)) 32 rfl (congrArg (Value.int .u16) (by omega)) ?_
      refine PL.takeP rfl (Pure.conv Tryd.runUnderlying33 Tryd.runUnderlying3 rfl (i64in (by omega) (by omega))) rfl h3 ?_
      refine PL.call rfl rfl Tryd.call15 rfl (First_of d a P r S rs _ hR) ?_
      rintro _ _ ⟨rfl, rfl⟩
      refine ⟨_, rfl, h3, ?_⟩
      refine PL.takeP rfl (Pure.add rfl rfl (i64 (by omega) (by omega))) rfl h3 ?_
      refine PL.takeP rfl (Pure.sub rfl rfl (i64 (by omega) (by omega))) rfl h3 ?_
      refine PL.cast (.int .i64 b) 35 rfl (congrArg (Value.int .i64) (by rw [hb]; try omega)) ?_
      refine PL.nilTail ?_
      have hm9 : N % 9 < 9 := Nat.mod_lt _ (by omega)
      replace hCz := hC.size
      by_cases hout : b < S.hd.first ∨ (S.next : Int) < b
      ·
        refine OL.call rfl Tryd.call25 rfl (trim_range d n c a P r hP haP hn hpl (by omega) b hout _ hD hR hK hF) ?_
        rintro _ w5 ⟨rfl, hc5⟩
        replace hD := hD.chg0 hc5
        replace hR := hR.chg0 hc5
        replace hK := hK.chg0 hc5
        replace hF := hF.chg0 hc5
        replace h3 := h3.chg0 hc5
        replace hC := hC.then_ hc5
        refine ⟨_, rfl, ?_⟩
        refine OL.pure (Pure.assign rfl) rfl ?_
        refine OL.nil ?_
        exact TE.ret (vs := [.int .i64 2]) Tryd.results12 (⟨rfl, trivial⟩) ⟨V, c, S, ks, rs, 2, rfl, hD, hR, hC.mono (fun _ h_ => by cases h_), Grew.refl _ _, Grew.refl _ _, hI, .inr (.inr ⟨hk3c, .inr rfl⟩), fun _ _ => rfl, by omega⟩
      ·
        by_cases hsame : b = S.hd.first
        ·
          refine OL.cast (.int .i64 (S.hd.first : Int)) 35 rfl (congrArg (Value.int .i64) hsame) ?_
          refine OL.call rfl Tryd.call25 rfl (trim_same d n c a P r hP haP hn hpl (by omega) _ hD hR hK hF) ?_
          rintro _ w6 ⟨rfl, hc6⟩
          replace hD := hD.chg0 hc6
          replace hR := hR.chg0 hc6
          replace hK := hK.chg0 hc6
          replace hF := hF.chg0 hc6
          replace h3 := h3.chg0 hc6
          replace hC := hC.then_ hc6
          refine ⟨_, rfl, ?_⟩
          refine OL.pure (Pure.assign rfl) rfl ?_
          refine OL.nil ?_
          exact TE.ret (vs := [.int .i64 0]) Tryd.results12 (⟨rfl, trivial⟩) ⟨V, c, S, ks, rs, 0, rfl, hD, hR, hC.mono (fun _ h_ => by cases h_), Grew.refl _ _, Grew.refl _ _, hI, .inr (.inr ⟨hk3c, .inr rfl⟩), fun _ _ => rfl, by omega⟩
        ·
          obtain ⟨j, hj⟩ : ∃ j : Nat, (j : Int) = b - S.hd.first := ⟨(b - S.hd.first).toNat, by omega⟩
          have hj0 : 0 < j := by omega
          have hjl : j ≤ S.ents.length := by omega
          refine OL.cast (.int .i64 ((S.hd.first + j : Nat) : Int)) 35 rfl (congrArg (Value.int .i64) (by omega)) ?_
          refine OL.call rfl Tryd.call25 rfl (trim_ok d n c a P r hP haP hn hpl (by omega) j hj0 hjl (trim_ok_hd hI (by omega) hj0 hjl (by omega)) (by omega) (by omega) hk0 hk1 hq0 hq1 _ hD hR hK hF) ?_
          rintro _ w9 ⟨ks9, rs9, rfl, hD9, hR9, hc9, hg9, hgr9⟩
          replace hC := (hC.mono (bad' := rs ++ ks) (fun _ h_ => by cases h_)).trans hc9 (fun _ h_ => .inl h_)
          replace hg9 := (Grew.refl ks w).trans hg9 hCz; replace hgr9 := (Grew.refl rs w).trans hgr9 hCz
          refine ⟨_, rfl, ?_⟩
          refine OL.pure (Pure.assign rfl) rfl ?_
          refine OL.nil ?_
          exact TE.ret (vs := [.int .i64 0]) Tryd.results12 (⟨rfl, trivial⟩) ⟨trimV V a P S j, 0, trimS P S j, ks9, rs9, 0, rfl, hD9, hR9, hC, hg9, hgr9, hI.trim hP8 (by omega) hj0 hjl (by omega), .inr (.inr ⟨hk3c, .inl ⟨rfl, j, hj0, hjl, rfl⟩⟩), fun i hi => wrHead_out (by omega), by omega⟩

theorem dfail_law {V : Int → List UInt8} {ks : List Nat} (d n c : Nat) (w : World) (hD : Dk 93 97 w d n (V) (c) false ks) : Calls Tryd.prog 21 #[.pointer (some ⟨d, 0, none⟩)] w (fun e w_ => ∃ ks_, e = .returned (.tuple #[]) ∧ Dk 93 97 w_ d n (V) (c) true ks_ ∧ Chg ks w w_ ∧ Grew ks ks_ w) :=
  Calls.mono (dfail_any d n c w hD) fun e w' h => ⟨ks, h.1, h.2.1, h.2.2.mono (fun k hk => by simp at hk; subst hk; exact hD.mem), Grew.refl _ _⟩
end Go.Proofs.YtcologcjhenmkaaDoor
/- fresh and known, walked -/
set_option linter.unusedVariables false
set_option maxRecDepth 4000
namespace Go.Proofs.YtcologcjhenmkaaDoor
open Go.V Go.Rg Go.Frm Go.Sha
set_option maxHeartbeats 1000000 in
theorem fresh_any {tK tF : TypeId} (P : Nat) (hP2 : 2 ≤ P) (hP15 : P ≤ 15) (w : World) (hK : Blk w 1 tK (iv .u32 K)) (hF : Blk w 0 tF (iv .i64 fldL)) : Calls Tryd.prog 10 #[.int .i64 ((P + 2 : Nat) : Int)] w (fun e w_ => ∃ V ks rs d r, e = .returned (.tuple #[.pointer (some ⟨d, 0, none⟩), .pointer (some ⟨r, 0, none⟩), .bool true]) ∧ Dk 93 97 w_ d 20 (V) (0) false ks ∧ RgK 80 85 w_ r d 3 P (S1) rs ∧ Inv V 3 P S1 ∧ Chg [] w w_ ∧ (∀ k ∈ ks, w.heap.size ≤ k) ∧ (∀ k ∈ rs, w.heap.size ≤ k)) := by
  refine calls_of_TE (vs := [.int .i64 ((P + 2 : Nat) : Int)]) Tryd.func10 Tryd.ntmps10 rfl (by simp) ?_
  have hC : Chg [] w w := Chg.refl _ _
  have h0w : 1 < w.heap.size := hK.lt
  have h1w : 0 < w.heap.size := hF.lt
  refine TE.seq ?_
  refine TE.region ?_
  refine OL.pure (Pure.assign rfl) rfl ?_
  refine OL.pure (Pure.assign rfl) rfl ?_
  refine OL.pure (Pure.assign rfl) rfl ?_
  refine OL.nil ?_
  refine TE.seq ?_
  refine TE.region ?_
  refine OL.call rfl Tryd.call26 rfl (dnew_any 20 (by decide) (by decide) _) ?_
  rintro _ w1 ⟨d, ks1, rfl, hD, hc1, hk1⟩
  have hks : ∀ k_ ∈ ks1, w.heap.size ≤ k_ := fun k_ hk_ => Nat.le_trans hC.size (hk1 k_ hk_)
  replace hC := hC.then_ hc1
  refine ⟨_, rfl, ?_⟩
  have hfz : fmtGen (fun _ => zb) 3 P = 0 := fmt_fl zb_full (fun _ _ _ => rfl) (by omega)
  have hI0 := inv_fl zb_full (a := 3) (P := P) (b := 0) (fun _ _ _ => rfl) (by omega) (by omega)
  refine OL.pure (Pure.move rfl) rfl ?_
  refine OL.pure (Pure.extract (vs := [.pointer (some ⟨d, 0, none⟩), .int .i64 0]) (i := 0) rfl rfl) rfl ?_
  refine OL.pure (Pure.extract (vs := [.pointer (some ⟨d, 0, none⟩), .int .i64 0]) (i := 1) rfl rfl) rfl ?_
  refine OL.pure (Pure.assign rfl) rfl ?_
  refine OL.pure (Pure.assign rfl) rfl ?_
  refine OL.nil ?_
  refine TE.seq ?_
  refine TE.seq ?_
  refine TE.region ?_
  refine OL.pure (Pure.move rfl) rfl ?_
  refine OL.pure (Pure.neq rfl rfl) rfl ?_
  refine OL.cast (.bool false) 15 rfl (rfl) ?_
  refine OL.pure (Pure.move rfl) rfl ?_
  refine OL.want rfl rfl rfl (Pure.move rfl _) rfl ?_
  refine OL.want rfl rfl rfl (Pure.move rfl _) rfl ?_
  refine OL.callG rfl rfl rfl rfl Tryd.call13 rfl (format_any d 20 0 3 P (by omega) (by decide) hP2 (by rw [hfz]; decide) (by decide) (fun h_ => absurd (hks _ h_) (by omega)) (fun h_ => absurd (hks _ h_) (by omega)) _ hD (hK.chg0 hC) (hF.chg0 hC)) ?_
  rintro _ w2 ⟨ks2, rfl, hD2, hc2, hg2⟩
  have hksn : ∀ k_ ∈ ks2, w.heap.size ≤ k_ := fun k_ hk_ => (hg2 k_ hk_).elim (hks k_) (fun h_ => Nat.le_trans hC.size h_)
  replace hC := hC.trans hc2 (fun k_ hk_ => .inr (hks k_ hk_))
  have hks := hksn; have hD := hD2
  refine ⟨_, rfl, ?_⟩
  refine OL.want rfl rfl rfl (Pure.neq rfl rfl _) rfl ?_
  refine OL.cast (.bool false) 20 rfl (rfl) ?_
  refine OL.pure (Pure.pickF rfl rfl) rfl ?_
  refine OL.nil ?_
  refine TE.condF rfl rfl ?_
  refine TE.skip ?_
  refine TE.seq ?_
  refine TE.region ?_
  refine OL.pure (Pure.move rfl) rfl ?_
  refine OL.pure (Pure.move rfl) rfl ?_
  refine OL.call rfl Tryd.call14 rfl (open_inv d 20 0 3 P hI0 (by omega) (by decide) hP2 (by decide) (fun h_ => absurd (hks _ h_) (by omega)) (fun h_ => absurd (hks _ h_) (by omega)) (by decide) _ hD (hK.chg0 hC) (hF.chg0 hC)) ?_
  rintro _ w3 ⟨ks3, r3, rs3, v3, rfl, hD3, hR3, hv3, hc3, hg3, hrs3, hmv3⟩
  have hksn : ∀ k_ ∈ ks3, w.heap.size ≤ k_ := fun k_ hk_ => (hg3 k_ hk_).elim (hks k_) (fun h_ => Nat.le_trans hC.size h_)
  have hrsn : ∀ k_ ∈ rs3, w.heap.size ≤ k_ := fun k_ hk_ => Nat.le_trans hC.size (hrs3 k_ hk_)
  replace hC := hC.trans hc3 (fun k_ hk_ => .inr (hks k_ hk_))
  have hks := hksn; have hD := hD3
  have hrs := hrsn; have hR := hR3
  refine ⟨_, rfl, ?_⟩
  have hI := hI0.open_ (by omega) (by decide)
  refine OL.pure (Pure.move rfl) rfl ?_
  refine OL.pure (Pure.extract (vs := [.pointer (some ⟨r3, 0, none⟩), v3, .int .i64 0]) (i := 0) rfl rfl) rfl ?_
  refine OL.pure (Pure.extract (vs := [.pointer (some ⟨r3, 0, none⟩), v3, .int .i64 0]) (i := 1) rfl rfl) rfl ?_
  refine OL.pure (Pure.extract (vs := [.pointer (some ⟨r3, 0, none⟩), v3, .int .i64 0]) (i := 2) rfl rfl) rfl ?_
  refine OL.pure (Pure.assign rfl) rfl ?_
  refine OL.pure (Pure.assign rfl) rfl ?_
  refine OL.pure (Pure.assign rfl) rfl ?_
  refine OL.nil ?_
  refine TE.seq ?_
  refine TE.region ?_
  refine OL.pure (Pure.move rfl) rfl ?_
  refine OL.pure (Pure.move rfl) rfl ?_
  refine OL.pure (Pure.move rfl) rfl ?_
  refine OL.pure (Pure.eql rfl rfl) rfl ?_
  refine OL.cast (.bool true) 32 rfl (rfl) ?_
  refine OL.pure (Pure.move rfl) rfl ?_
  refine OL.want rfl rfl rfl (Pure.move rfl _) rfl ?_
  refine OL.want rfl rfl rfl (Pure.neqNil Tryd.underlying27 rfl rfl _) rfl ?_
  refine OL.pure (Pure.pickT rfl rfl) rfl ?_
  refine OL.pure (Pure.assign rfl) rfl ?_
  refine OL.pure (Pure.assign rfl) rfl ?_
  refine OL.pure (Pure.assign rfl) rfl ?_
  refine OL.nil ?_
  exact TE.ret (vs := [.pointer (some ⟨d, 0, none⟩), .pointer (some ⟨r3, 0, none⟩), .bool true]) Tryd.results10 (⟨rfl, rfl, rfl, trivial⟩) ⟨_, _, _, d, r3, rfl, hD, hR, hI, hC, hks, hrs⟩

set_option maxHeartbeats 2000000 in
theorem known_any {tK tF : TypeId} (w : World) (hK : Blk w 1 tK (iv .u32 K)) (hF : Blk w 0 tF (iv .i64 fldL)) : Calls Tryd.prog 8 #[] w (RetC (.bool true) w) := by
  refine calls_of_TE (vs := []) Tryd.func8 Tryd.ntmps8 rfl (by simp) ?_
  have hC : Chg [] w w := Chg.refl _ _
  have h0w : 1 < w.heap.size := hK.lt
  have h1w : 0 < w.heap.size := hF.lt
  refine TE.seq ?_
  refine TE.region ?_
  refine OL.pure (Pure.assign rfl) rfl ?_
  refine OL.nil ?_
  refine TE.seq ?_
  refine TE.region ?_
  refine OL.call rfl Tryd.call26 rfl (dnew_any 6 (by decide) (by decide) _) ?_
  rintro _ w1 ⟨d, ks1, rfl, hD, hc1, hk1⟩
  have hks : ∀ k_ ∈ ks1, w.heap.size ≤ k_ := fun k_ hk_ => Nat.le_trans hC.size (hk1 k_ hk_)
  replace hC := hC.then_ hc1
  refine ⟨_, rfl, ?_⟩
  have hfz : fmtGen (fun _ => zb) 0 4 = 0 := fmt_fl zb_full (fun _ _ _ => rfl) (by omega)
  have hI0 := inv_fl zb_full (a := 0) (P := 4) (b := 0) (fun _ _ _ => rfl) (by omega) (by omega)
  refine OL.pure (Pure.move rfl) rfl ?_
  refine OL.pure (Pure.extract (vs := [.pointer (some ⟨d, 0, none⟩), .int .i64 0]) (i := 0) rfl rfl) rfl ?_
  refine OL.pure (Pure.extract (vs := [.pointer (some ⟨d, 0, none⟩), .int .i64 0]) (i := 1) rfl rfl) rfl ?_
  refine OL.pure (Pure.assign rfl) rfl ?_
  refine OL.pure (Pure.assign rfl) rfl ?_
  refine OL.nil ?_
  refine TE.seq ?_
  refine TE.seq ?_
  refine TE.region ?_
  refine OL.pure (Pure.move rfl) rfl ?_
  refine OL.pure (Pure.neq rfl rfl) rfl ?_
  refine OL.cast (.bool false) 19 rfl (rfl) ?_
  refine OL.pure (Pure.move rfl) rfl ?_
  refine OL.want rfl rfl rfl (Pure.move rfl _) rfl ?_
  refine OL.callG rfl rfl rfl rfl Tryd.call13 rfl (format_any d 6 0 0 4 (by decide) (by decide) (by decide) (by rw [hfz]; decide) (by decide) (fun h_ => absurd (hks _ h_) (by omega)) (fun h_ => absurd (hks _ h_) (by omega)) _ hD (hK.chg0 hC) (hF.chg0 hC)) ?_
  rintro _ w2 ⟨ks2, rfl, hD2, hc2, hg2⟩
  have hksn : ∀ k_ ∈ ks2, w.heap.size ≤ k_ := fun k_ hk_ => (hg2 k_ hk_).elim (hks k_) (fun h_ => Nat.le_trans hC.size h_)
  replace hC := hC.trans hc2 (fun k_ hk_ => .inr (hks k_ hk_))
  have hks := hksn; have hD := hD2
  refine ⟨_, rfl, ?_⟩
  refine OL.want rfl rfl rfl (Pure.neq rfl rfl _) rfl ?_
  refine OL.cast (.bool false) 23 rfl (rfl) ?_
  refine OL.pure (Pure.pickF rfl rfl) rfl ?_
  refine OL.nil ?_
  refine TE.condF rfl rfl ?_
  refine TE.skip ?_
  refine TE.seq ?_
  refine TE.region ?_
  refine OL.pure (Pure.move rfl) rfl ?_
  refine OL.call rfl Tryd.call14 rfl (open_inv d 6 0 0 4 hI0 (by decide) (by decide) (by decide) (by decide) (fun h_ => absurd (hks _ h_) (by omega)) (fun h_ => absurd (hks _ h_) (by omega)) (by decide) _ hD (hK.chg0 hC) (hF.chg0 hC)) ?_
  rintro _ w3 ⟨ks3, r3, rs3, v3, rfl, hD3, hR3, hv3, hc3, hg3, hrs3, hmv3⟩
  have hksn : ∀ k_ ∈ ks3, w.heap.size ≤ k_ := fun k_ hk_ => (hg3 k_ hk_).elim (hks k_) (fun h_ => Nat.le_trans hC.size h_)
  have hrsn : ∀ k_ ∈ rs3, w.heap.size ≤ k_ := fun k_ hk_ => Nat.le_trans hC.size (hrs3 k_ hk_)
  replace hC := hC.trans hc3 (fun k_ hk_ => .inr (hks k_ hk_))
  have hks := hksn; have hD := hD3
  have hrs := hrsn; have hR := hR3
  refine ⟨_, rfl, ?_⟩
  have hI := hI0.open_ (by omega) (by decide)
  have hkn := k_next; have hkl := k_len; have hkg := k_gen; have hkf := k_first; have u1 := k1_used; have u2 := k2_used; have u3 := k3_used; have u4 := k4_used; have n1 := n100; have n2 := n500 2; have n3 := n500 3
  have l1 := txt_len 100 1; have l2 := txt_len 500 2; have l3 := txt_len 500 3
  replace hR : RgK 80 85 w3 r3 d 0 4 (S1) rs3 := hR
  replace hI : Inv _ 0 4 S1 := hI
  refine OL.pure (Pure.move rfl) rfl ?_
  refine OL.pure (Pure.extract (vs := [.pointer (some ⟨r3, 0, none⟩), v3, .int .i64 0]) (i := 0) rfl rfl) rfl ?_
  refine OL.pure (Pure.extract (vs := [.pointer (some ⟨r3, 0, none⟩), v3, .int .i64 0]) (i := 1) rfl rfl) rfl ?_
  refine OL.pure (Pure.extract (vs := [.pointer (some ⟨r3, 0, none⟩), v3, .int .i64 0]) (i := 2) rfl rfl) rfl ?_
  refine OL.pure (Pure.assign rfl) rfl ?_
  refine OL.pure (Pure.assign rfl) rfl ?_
  refine OL.pure (Pure.assign rfl) rfl ?_
  refine OL.nil ?_
  refine TE.seq ?_
  refine TE.seq ?_
  refine TE.region ?_
  refine OL.pure (Pure.move rfl) rfl ?_
  refine OL.pure (Pure.neq rfl rfl) rfl ?_
  refine OL.cast (.bool false) 32 rfl (rfl) ?_
  refine OL.pure (Pure.move rfl) rfl ?_
  refine OL.want rfl rfl rfl (Pure.move rfl _) rfl ?_
  refine OL.want rfl rfl rfl (Pure.lenRow Tryd.runUnderlying38 rfl hv3 _) rfl ?_
  refine OL.want rfl rfl rfl (Pure.neq rfl rfl _) rfl ?_
  refine OL.cast (.bool false) 36 rfl (rfl) ?_
  refine OL.pure (Pure.pickF rfl rfl) rfl ?_
  refine OL.pure (Pure.move rfl) rfl ?_
  refine OL.want rfl rfl rfl (Pure.move rfl _) rfl ?_
  refine OL.callG rfl rfl rfl rfl Tryd.call31 rfl (Gen_of d 0 4 r3 S1 _ _ hR) ?_
  rintro _ _ ⟨rfl, rfl⟩
  refine ⟨_, rfl, ?_⟩
  refine OL.want rfl rfl rfl (Pure.neq rfl rfl _) rfl ?_
  refine OL.cast (.bool false) 41 rfl (rfl) ?_
  refine OL.pure (Pure.pickF rfl rfl) rfl ?_
  refine OL.pure (Pure.move rfl) rfl ?_
  refine OL.want rfl rfl rfl (Pure.move rfl _) rfl ?_
  refine OL.callG rfl rfl rfl rfl Tryd.call17 rfl (Free_of d 0 4 r3 S1 _ (by have : used S1.ents = 0 := rfl; omega) (by decide) (by decide) (by have : S1.next = 0 := rfl; omega) _ hR) ?_
  rintro _ w4 ⟨rfl, hc4⟩
  replace hD := hD.chg0 hc4
  replace hR := hR.chg0 hc4
  replace hC := hC.then_ hc4
  refine ⟨_, rfl, ?_⟩
  refine OL.cast (.int .i64 4) 45 rfl (congrArg (fun x : Nat => Value.int .i64 (x : Int)) (show _ = 4 by have : used S1.ents = 0 := rfl; omega)) ?_
  refine OL.want rfl rfl rfl (Pure.neq rfl rfl _) rfl ?_
  refine OL.cast (.bool false) 46 rfl (rfl) ?_
  refine OL.pure (Pure.pickF rfl rfl) rfl ?_
  refine OL.nil ?_
  refine TE.condF rfl rfl ?_
  refine TE.skip ?_
  refine TE.seq ?_
  refine TE.region ?_
  refine OL.pure (Pure.move rfl) rfl ?_
  refine OL.call rfl Tryd.call18 rfl (text_any 100 1 (by decide) (by decide) _) ?_
  rintro _ w5 ⟨rfl, hc5⟩
  replace hD := hD.chg0 hc5
  replace hR := hR.chg0 hc5
  replace hC := hC.then_ hc5
  refine ⟨_, rfl, ?_⟩
  have hV := hD.len
  refine OL.call rfl Tryd.call19 rfl (app_ok d 6 _ 0 4 r3 (by decide) (by decide) (by decide) (by decide) (by have : S1.next = 0 := rfl; omega) (txt 100 1) (by omega) (by have : used S1.ents = 0 := rfl; omega) (by have : S1.next = 0 := rfl; omega) (by have : S1.hd.gen = 1 := rfl; omega) (by omega) (fun h_ => absurd (hks _ h_) (by omega)) (fun h_ => absurd (hks _ h_) (by omega)) (fun h_ => absurd (hrs _ h_) (by omega)) (fun h_ => absurd (hrs _ h_) (by omega)) _ hD hR (hK.chg0 hC) (hF.chg0 hC)) ?_
  rintro _ w6 ⟨ks6, rs6, rfl, hD6, hR6, hc6, hg6, hgr6⟩
  have hksn : ∀ k_ ∈ ks6, w.heap.size ≤ k_ := fun k_ hk_ => (hg6 k_ hk_).elim (hks k_) (fun h_ => Nat.le_trans hC.size h_)
  have hrsn : ∀ k_ ∈ rs6, w.heap.size ≤ k_ := fun k_ hk_ => (hgr6 k_ hk_).elim (hrs k_) (fun h_ => Nat.le_trans hC.size h_)
  replace hC := hC.trans hc6 (fun k_ hk_ => .inr ((List.mem_append.1 hk_).elim (hrs k_) (hks k_)))
  have hks := hksn; have hD := hD6
  have hrs := hrsn; have hR := hR6
  refine ⟨_, rfl, ?_⟩
  replace hI : Inv _ 0 4 K1 := hI.append hV (by decide) (by omega) (by have : S1.next = 0 := rfl; omega) (by have : used S1.ents = 0 := rfl; omega)
  replace hR : RgK 80 85 w6 r3 d 0 4 (K1) rs6 := hR
  refine OL.pure (Pure.move rfl) rfl ?_
  refine OL.pure (Pure.extract (vs := [.int .i64 (S1.next : Int), .int .i64 0]) (i := 0) rfl rfl) rfl ?_
  refine OL.pure (Pure.extract (vs := [.int .i64 (S1.next : Int), .int .i64 0]) (i := 1) rfl rfl) rfl ?_
  refine OL.pure (Pure.assign rfl) rfl ?_
  refine OL.cast (.int .i64 0) 6 rfl (rfl) ?_
  refine OL.pure (Pure.assign rfl) rfl ?_
  refine OL.nil ?_
  refine TE.seq ?_
  refine TE.region ?_
  refine OL.pure (Pure.move rfl) rfl ?_
  refine OL.call rfl Tryd.call18 rfl (text_any 500 2 (by decide) (by decide) _) ?_
  rintro _ w7 ⟨rfl, hc7⟩
  replace hD := hD.chg0 hc7
  replace hR := hR.chg0 hc7
  replace hC := hC.then_ hc7
  refine ⟨_, rfl, ?_⟩
  have hV := hD.len
  refine OL.call rfl Tryd.call19 rfl (app_ok d 6 _ 0 4 r3 (by decide) (by decide) (by decide) (by decide) (by have : S1.next = 0 := rfl; omega) (txt 500 2) (by omega) (by have : used S1.ents = 0 := rfl; omega) (by have : S1.next = 0 := rfl; omega) (by have : S1.hd.gen = 1 := rfl; omega) (by omega) (fun h_ => absurd (hks _ h_) (by omega)) (fun h_ => absurd (hks _ h_) (by omega)) (fun h_ => absurd (hrs _ h_) (by omega)) (fun h_ => absurd (hrs _ h_) (by omega)) _ hD hR (hK.chg0 hC) (hF.chg0 hC)) ?_
  rintro _ w8 ⟨ks8, rs8, rfl, hD8, hR8, hc8, hg8, hgr8⟩
  have hksn : ∀ k_ ∈ ks8, w.heap.size ≤ k_ := fun k_ hk_ => (hg8 k_ hk_).elim (hks k_) (fun h_ => Nat.le_trans hC.size h_)
  have hrsn : ∀ k_ ∈ rs8, w.heap.size ≤ k_ := fun k_ hk_ => (hgr8 k_ hk_).elim (hrs k_) (fun h_ => Nat.le_trans hC.size h_)
  replace hC := hC.trans hc8 (fun k_ hk_ => .inr ((List.mem_append.1 hk_).elim (hrs k_) (hks k_)))
  have hks := hksn; have hD := hD8
  have hrs := hrsn; have hR := hR8
  refine ⟨_, rfl, ?_⟩
  replace hI : Inv _ 0 4 K2 := hI.append hV (by decide) (by omega) (by have : S1.next = 0 := rfl; omega) (by have : used S1.ents = 0 := rfl; omega)
  replace hR : RgK 80 85 w8 r3 d 0 4 (K2) rs8 := hR
  refine OL.pure (Pure.move rfl) rfl ?_
  refine OL.pure (Pure.extract (vs := [.int .i64 (K1.next : Int), .int .i64 0]) (i := 0) rfl rfl) rfl ?_
  refine OL.pure (Pure.extract (vs := [.int .i64 (K1.next : Int), .int .i64 0]) (i := 1) rfl rfl) rfl ?_
  refine OL.pure (Pure.assign rfl) rfl ?_
  refine OL.cast (.int .i64 1) 8 rfl (congrArg (fun x : Nat => Value.int .i64 (x : Int)) (show K1.next = 1 by omega)) ?_
  refine OL.pure (Pure.assign rfl) rfl ?_
  refine OL.nil ?_
  refine TE.seq ?_
  refine TE.region ?_
  refine OL.pure (Pure.move rfl) rfl ?_
  refine OL.call rfl Tryd.call17 rfl (Free_of d 0 4 r3 K2 _ (by have : used S1.ents = 0 := rfl; omega) (by decide) (by decide) (by have : S1.next = 0 := rfl; omega) _ hR) ?_
  rintro _ w9 ⟨rfl, hc9⟩
  replace hD := hD.chg0 hc9
  replace hR := hR.chg0 hc9
  replace hC := hC.then_ hc9
  refine ⟨_, rfl, ?_⟩
  refine OL.cast (.int .i64 1) 61 rfl (congrArg (fun x : Nat => Value.int .i64 (x : Int)) (show _ = 1 by have : used S1.ents = 0 := rfl; omega)) ?_
  refine OL.pure (Pure.assign rfl) rfl ?_
  refine OL.nil ?_
  refine TE.seq ?_
  refine TE.region ?_
  refine OL.pure (Pure.move rfl) rfl ?_
  have htk := trim_ok_hd hI (k := 1) (by omega) (by omega) (by omega) (by omega)
  refine OL.call rfl Tryd.call25 rfl (trim_ok d 6 _ 0 4 r3 (by decide) (by decide) (by decide) (by decide) (by omega) 1 (by decide) (by omega) htk (by omega) (by omega) (fun h_ => absurd (hks _ h_) (by omega)) (fun h_ => absurd (hks _ h_) (by omega)) (fun h_ => absurd (hrs _ h_) (by omega)) (fun h_ => absurd (hrs _ h_) (by omega)) _ hD hR (hK.chg0 hC) (hF.chg0 hC)) ?_
  rintro _ w10 ⟨ks10, rs10, rfl, hD10, hR10, hc10, hg10, hgr10⟩
  have hksn : ∀ k_ ∈ ks10, w.heap.size ≤ k_ := fun k_ hk_ => (hg10 k_ hk_).elim (hks k_) (fun h_ => Nat.le_trans hC.size h_)
  have hrsn : ∀ k_ ∈ rs10, w.heap.size ≤ k_ := fun k_ hk_ => (hgr10 k_ hk_).elim (hrs k_) (fun h_ => Nat.le_trans hC.size h_)
  replace hC := hC.trans hc10 (fun k_ hk_ => .inr ((List.mem_append.1 hk_).elim (hrs k_) (hks k_)))
  have hks := hksn; have hD := hD10
  have hrs := hrsn; have hR := hR10
  refine ⟨_, rfl, ?_⟩
  replace hI : Inv _ 0 4 K3 := hI.trim (by decide) (by omega) (by decide) (by omega) (by omega)
  replace hR : RgK 80 85 w10 r3 d 0 4 (K3) rs10 := hR
  have hp3 : K3.hd.place < 4 := hI.ok.place
  refine OL.pure (Pure.assign rfl) rfl ?_
  refine OL.nil ?_
  refine TE.seq ?_
  refine TE.region ?_
  refine OL.pure (Pure.move rfl) rfl ?_
  refine OL.call rfl Tryd.call18 rfl (text_any 500 3 (by decide) (by decide) _) ?_
  rintro _ w11 ⟨rfl, hc11⟩
  replace hD := hD.chg0 hc11
  replace hR := hR.chg0 hc11
  replace hC := hC.then_ hc11
  refine ⟨_, rfl, ?_⟩
  have hV := hD.len
  refine OL.call rfl Tryd.call19 rfl (app_ok d 6 _ 0 4 r3 (by decide) (by decide) (by decide) hp3 (by omega) (txt 500 3) (by omega) (by omega) (by omega) (by omega) (by omega) (fun h_ => absurd (hks _ h_) (by omega)) (fun h_ => absurd (hks _ h_) (by omega)) (fun h_ => absurd (hrs _ h_) (by omega)) (fun h_ => absurd (hrs _ h_) (by omega)) _ hD hR (hK.chg0 hC) (hF.chg0 hC)) ?_
  rintro _ w12 ⟨ks12, rs12, rfl, hD12, hR12, hc12, hg12, hgr12⟩
  have hksn : ∀ k_ ∈ ks12, w.heap.size ≤ k_ := fun k_ hk_ => (hg12 k_ hk_).elim (hks k_) (fun h_ => Nat.le_trans hC.size h_)
  have hrsn : ∀ k_ ∈ rs12, w.heap.size ≤ k_ := fun k_ hk_ => (hgr12 k_ hk_).elim (hrs k_) (fun h_ => Nat.le_trans hC.size h_)
  replace hC := hC.trans hc12 (fun k_ hk_ => .inr ((List.mem_append.1 hk_).elim (hrs k_) (hks k_)))
  have hks := hksn; have hD := hD12
  have hrs := hrsn; have hR := hR12
  refine ⟨_, rfl, ?_⟩
  replace hR : RgK 80 85 w12 r3 d 0 4 (K4) rs12 := hR
  refine OL.pure (Pure.move rfl) rfl ?_
  refine OL.pure (Pure.extract (vs := [.int .i64 (K3.next : Int), .int .i64 0]) (i := 0) rfl rfl) rfl ?_
  refine OL.pure (Pure.extract (vs := [.int .i64 (K3.next : Int), .int .i64 0]) (i := 1) rfl rfl) rfl ?_
  refine OL.pure (Pure.assign rfl) rfl ?_
  refine OL.cast (.int .i64 2) 12 rfl (congrArg (fun x : Nat => Value.int .i64 (x : Int)) (show K3.next = 2 by omega)) ?_
  refine OL.pure (Pure.assign rfl) rfl ?_
  refine OL.nil ?_
  refine TE.seq ?_
  refine TE.region ?_
  refine OL.pure (Pure.move rfl) rfl ?_
  refine OL.pure (Pure.eql rfl rfl) rfl ?_
  refine OL.cast (.bool true) 71 rfl (rfl) ?_
  refine OL.pure (Pure.move rfl) rfl ?_
  refine OL.want rfl rfl rfl (Pure.move rfl _) rfl ?_
  refine OL.want rfl rfl rfl (Pure.eql rfl rfl _) rfl ?_
  refine OL.cast (.bool true) 74 rfl (rfl) ?_
  refine OL.pure (Pure.pickT rfl rfl) rfl ?_
  refine OL.pure (Pure.move rfl) rfl ?_
  refine OL.want rfl rfl rfl (Pure.move rfl _) rfl ?_
  refine OL.want rfl rfl rfl (Pure.eql rfl rfl _) rfl ?_
  refine OL.cast (.bool true) 78 rfl (rfl) ?_
  refine OL.pure (Pure.pickT rfl rfl) rfl ?_
  refine OL.pure (Pure.move rfl) rfl ?_
  refine OL.want rfl rfl rfl (Pure.move rfl _) rfl ?_
  refine OL.want rfl rfl rfl (Pure.eql rfl rfl _) rfl ?_
  refine OL.cast (.bool true) 82 rfl (rfl) ?_
  refine OL.pure (Pure.pickT rfl rfl) rfl ?_
  refine OL.pure (Pure.move rfl) rfl ?_
  refine OL.want rfl rfl rfl (Pure.move rfl _) rfl ?_
  refine OL.want rfl rfl rfl (Pure.eql rfl rfl _) rfl ?_
  refine OL.cast (.bool true) 86 rfl (rfl) ?_
  refine OL.pure (Pure.pickT rfl rfl) rfl ?_
  refine OL.pure (Pure.move rfl) rfl ?_
  refine OL.want rfl rfl rfl (Pure.move rfl _) rfl ?_
  refine OL.want rfl rfl rfl (Pure.eql rfl rfl _) rfl ?_
  refine OL.cast (.bool true) 90 rfl (rfl) ?_
  refine OL.pure (Pure.pickT rfl rfl) rfl ?_
  refine OL.pure (Pure.move rfl) rfl ?_
  refine OL.want rfl rfl rfl (Pure.move rfl _) rfl ?_
  refine OL.callG rfl rfl rfl rfl Tryd.call31 rfl (Gen_of d 0 4 r3 K4 _ _ hR) ?_
  rintro _ _ ⟨rfl, rfl⟩
  refine ⟨_, rfl, ?_⟩
  refine OL.cast (.int .i64 2) 94 rfl (rfl) ?_
  refine OL.want rfl rfl rfl (Pure.eql rfl rfl _) rfl ?_
  refine OL.cast (.bool true) 95 rfl (rfl) ?_
  refine OL.pure (Pure.pickT rfl rfl) rfl ?_
  refine OL.pure (Pure.move rfl) rfl ?_
  refine OL.want rfl rfl rfl (Pure.move rfl _) rfl ?_
  refine OL.want rfl rfl rfl (Pure.eql rfl rfl _) rfl ?_
  refine OL.cast (.bool true) 99 rfl (rfl) ?_
  refine OL.pure (Pure.pickT rfl rfl) rfl ?_
  refine OL.pure (Pure.move rfl) rfl ?_
  refine OL.want rfl rfl rfl (Pure.move rfl _) rfl ?_
  refine OL.want rfl rfl rfl (Pure.eql rfl rfl _) rfl ?_
  refine OL.cast (.bool true) 103 rfl (rfl) ?_
  refine OL.pure (Pure.pickT rfl rfl) rfl ?_
  refine OL.pure (Pure.move rfl) rfl ?_
  refine OL.want rfl rfl rfl (Pure.move rfl _) rfl ?_
  refine OL.callG rfl rfl rfl rfl Tryd.call17 rfl (Free_of d 0 4 r3 K4 _ (by omega) (by decide) hp3 (by omega) _ hR) ?_
  rintro _ w13 ⟨rfl, hc13⟩
  replace hD := hD.chg0 hc13
  replace hR := hR.chg0 hc13
  replace hC := hC.then_ hc13
  refine ⟨_, rfl, ?_⟩
  refine OL.cast (.int .i64 0) 107 rfl (congrArg (fun x : Nat => Value.int .i64 (x : Int)) (show _ = 0 by omega)) ?_
  refine OL.want rfl rfl rfl (Pure.eql rfl rfl _) rfl ?_
  refine OL.cast (.bool true) 108 rfl (rfl) ?_
  refine OL.pure (Pure.pickT rfl rfl) rfl ?_
  refine OL.pure (Pure.assign rfl) rfl ?_
  refine OL.nil ?_
  exact TE.ret (vs := [.bool true]) Tryd.results8 (⟨rfl, trivial⟩) ⟨rfl, hC⟩

end Go.Proofs.YtcologcjhenmkaaDoor
