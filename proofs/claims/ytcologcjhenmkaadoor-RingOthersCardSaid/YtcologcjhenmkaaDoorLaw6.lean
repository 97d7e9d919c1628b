/- What the laws of several rings and of errors do. Conditions: none of its own. -/
import Derived.Test.YtcologcjhenmkaaDoorSpecB
import Derived.Test.YtcologcjhenmkaaDoorProg
import Derived.Test.YtcologcjhenmkaaDoorRnl
set_option linter.unusedVariables false
namespace Go.Rg
open Go Go.V Go.Frm
def fillTo (b : UInt8) (i : Nat) : List UInt8 := List.replicate i b ++ List.replicate (512 - i) 0
theorem fillTo_zero (b : UInt8) : fillTo b 0 = List.replicate 512 0 := by simp only [fillTo, List.replicate_zero, List.nil_append, Nat.sub_zero]
theorem fillTo_all (b : UInt8) : fillTo b 512 = List.replicate 512 b := by simp only [fillTo, Nat.sub_self, List.replicate_zero, List.append_nil]
theorem fillTo_len {b : UInt8} {i : Nat} (h : i ≤ 512) : (fillTo b i).length = 512 := by simp only [fillTo, List.length_append, List.length_replicate]; omega
theorem fillTo_set {b : UInt8} {i : Nat} (h : i < 512) : (bv (fillTo b i)).set i (.int .u8 ((b.toNat : Nat) : Int)) = bv (fillTo b (i + 1)) := by
  have e : (fillTo b i).set i b = fillTo b (i + 1) := by
    obtain ⟨m, hm⟩ : ∃ m, 512 - i = m + 1 := ⟨512 - i - 1, by omega⟩
    unfold fillTo
    rw [hm, List.set_append_right _ _ (by rw [List.length_replicate]; exact Nat.le_refl _), List.length_replicate, Nat.sub_self, List.replicate_succ, List.set_cons_zero, show 512 - (i + 1) = m by omega, List.replicate_succ', List.append_assoc, List.singleton_append]
  rw [← e]
  simp [bv]
theorem fl_len (b : UInt8) : (List.replicate 512 b).length = 512 := List.length_replicate
end Go.Rg
/- The law of other blocks and other rings, walked -/
set_option linter.unusedVariables false
set_option maxRecDepth 4000
namespace Go.Proofs.YtcologcjhenmkaaDoor
open Go.V Go.Rg Go.Frm Go.Sha
set_option maxHeartbeats 8000000 in
theorem others_law_any {tK tF : TypeId} (A0 : Option Addr) (c0 : Nat) (L0 : List Opr) (hL0 : ∀ o ∈ L0, o.k ≤ 255 ∧ o.N ≤ 65535 ∧ o.B ≤ 255) (hl0 : L0.length ≤ 9223372036854775807) (A1 : Option Addr) (c1 : Nat) (L1 : List Opr) (hL1 : ∀ o ∈ L1, o.k ≤ 255 ∧ o.N ≤ 65535 ∧ o.B ≤ 255) (hl1 : L1.length ≤ 9223372036854775807) (fb : UInt8) (w : World) (hK : Blk w 1 tK (iv .u32 K)) (hF : Blk w 0 tF (iv .i64 fldL)) (hA0 : CellsOp w A0 L0) (hA1 : CellsOp w A1 L1) : Calls Tryd.prog 6 #[.slice A0 L0.length c0, .slice A1 L1.length c1, .int .u8 ((fb.toNat : Nat) : Int)] w (RetC (.bool true) w) := by
  refine calls_of_TE (vs := [.slice A0 L0.length c0, .slice A1 L1.length c1, .int .u8 ((fb.toNat : Nat) : Int)]) Tryd.func6 Tryd.ntmps6 rfl (by simp) ?_
  have hC : Chg [] w w := Chg.refl _ _
  have h0w : 1 < w.heap.size := hK.lt
  have h1w : 0 < w.heap.size := hF.lt
  refine TE.seq ?_
  refine TE.region ?_
  refine OL.pure (Pure.assign rfl) rfl ?_
  refine OL.nil ?_
  refine TE.seq ?_
  refine TE.seq ?_
  refine TE.region ?_
  refine OL.call rfl Tryd.call8 rfl (known_any _ (hK.chg0 hC) (hF.chg0 hC)) ?_
  rintro _ w1 ⟨rfl, hc1⟩
  replace hC := hC.then_ hc1
  refine ⟨_, rfl, ?_⟩
  refine OL.pure (Pure.not rfl) rfl ?_
  refine OL.pure (Pure.move rfl) rfl ?_
  refine OL.want rfl rfl rfl (Pure.move rfl _) rfl ?_
  refine OL.callG rfl rfl rfl rfl Tryd.call9 rfl (fits_any A0 c0 L0 hl0 _ (hA0.chg0 hC)) ?_
  rintro _ _ ⟨b, rfl, hf0, rfl⟩
  refine ⟨_, rfl, ?_⟩
  cases b with
  | false =>
    refine OL.want rfl rfl rfl (Pure.not rfl _) rfl ?_
    refine OL.pure (Pure.pickF rfl rfl) rfl ?_
    refine OL.pure (Pure.move rfl) rfl ?_
    refine OL.pass rfl rfl rfl rfl rfl ?_
    refine OL.pass rfl rfl rfl rfl rfl ?_
    refine OL.pass rfl rfl rfl rfl rfl ?_
    refine OL.pure (Pure.pickT rfl rfl) rfl ?_
    refine OL.nil ?_
    refine TE.condT rfl rfl ?_
    refine TE.seq ?_
    refine TE.region ?_
    refine OL.call rfl Tryd.call8 rfl (known_any _ (hK.chg0 hC) (hF.chg0 hC)) ?_
    rintro _ w2 ⟨rfl, hc2⟩
    replace hC := hC.then_ hc2
    refine ⟨_, rfl, ?_⟩
    refine OL.pure (Pure.assign rfl) rfl ?_
    refine OL.nil ?_
    exact TE.ret (vs := [.bool true]) Tryd.results6 (⟨rfl, trivial⟩) ⟨rfl, hC⟩
  | true =>
    replace hf0 := hf0 rfl
    refine OL.want rfl rfl rfl (Pure.not rfl _) rfl ?_
    refine OL.pure (Pure.pickF rfl rfl) rfl ?_
    refine OL.pure (Pure.move rfl) rfl ?_
    refine OL.want rfl rfl rfl (Pure.move rfl _) rfl ?_
    refine OL.callG rfl rfl rfl rfl Tryd.call9 rfl (fits_any A1 c1 L1 hl1 _ (hA1.chg0 hC)) ?_
    rintro _ _ ⟨b, rfl, hf1, rfl⟩
    refine ⟨_, rfl, ?_⟩
    cases b with
    | false =>
      refine OL.want rfl rfl rfl (Pure.not rfl _) rfl ?_
      refine OL.pure (Pure.pickF rfl rfl) rfl ?_
      refine OL.nil ?_
      refine TE.condT rfl rfl ?_
      refine TE.seq ?_
      refine TE.region ?_
      refine OL.call rfl Tryd.call8 rfl (known_any _ (hK.chg0 hC) (hF.chg0 hC)) ?_
      rintro _ w3 ⟨rfl, hc3⟩
      replace hC := hC.then_ hc3
      refine ⟨_, rfl, ?_⟩
      refine OL.pure (Pure.assign rfl) rfl ?_
      refine OL.nil ?_
      exact TE.ret (vs := [.bool true]) Tryd.results6 (⟨rfl, trivial⟩) ⟨rfl, hC⟩
    | true =>
      replace hf1 := hf1 rfl
      refine OL.want rfl rfl rfl (Pure.not rfl _) rfl ?_
      refine OL.pure (Pure.pickF rfl rfl) rfl ?_
      refine OL.nil ?_
      refine TE.condF rfl rfl ?_
      refine TE.skip ?_
      refine TE.seq ?_
      refine TE.region ?_
      refine OL.call rfl Tryd.call26 rfl (dnew_any 20 (by decide) (by decide) _) ?_
      rintro _ w4 ⟨d, ks4, rfl, hD, hc4, hk4⟩
      have hks : ∀ k_ ∈ ks4, w.heap.size ≤ k_ := fun k_ hk_ => Nat.le_trans hC.size (hk4 k_ hk_)
      replace hC := hC.then_ hc4
      refine ⟨_, rfl, ?_⟩
      refine OL.pure (Pure.move rfl) rfl ?_
      refine OL.pure (Pure.extract (vs := [.pointer (some ⟨d, 0, none⟩), .int .i64 0]) (i := 0) rfl rfl) rfl ?_
      refine OL.pure (Pure.extract (vs := [.pointer (some ⟨d, 0, none⟩), .int .i64 0]) (i := 1) rfl rfl) rfl ?_
      refine OL.pure (Pure.assign rfl) rfl ?_
      refine OL.pure (Pure.assign rfl) rfl ?_
      refine OL.nil ?_
      refine TE.seq ?_
      refine TE.seq ?_
      refine TE.region ?_
      refine OL.pure (Pure.move rfl) rfl ?_
      refine OL.pure (Pure.neq rfl rfl) rfl ?_
      refine OL.cast (.bool false) 45 rfl (rfl) ?_
      refine OL.nil ?_
      refine TE.condF rfl rfl ?_
      refine TE.skip ?_
      refine TE.seq ?_
      refine TE.region ?_
      refine OL.makeSlice (m := 512) (c := 512) (v := .int .u8 0) rfl rfl Tryd.underlying34 info5 rfl rfl rfl (by decide) (by decide) (by decide) rfl ?_
      intro gm w5 hq hc5 hg_gm
      have ge_gm : w.heap.size ≤ gm := by have := hC.size; omega
      replace hD := hD.chg0 hc5
      replace hC := hC.then_ hc5
      replace hq : Blk w5 gm 5 (bv (fillTo fb 0)) := by rw [fillTo_zero, bv_zeros]; exact hq
      refine OL.pure (Pure.assign rfl) rfl ?_
      refine OL.nil ?_
      refine TE.seq ?_
      refine TE.seq ?_
      refine TE.region ?_
      refine OL.pure (Pure.assign rfl) rfl ?_
      refine OL.nil ?_
      refine TE.block ?_
      refine TE.loopInv (σ := Nat) [0, 1, 2, 7, 9, 10] (fun s_ w_ => s_ ≤ 512 ∧ Chg [] w w_ ∧ Dk 93 97 w_ d 20 ((fun _ => zb)) (0) false ks4 ∧ Blk w_ gm 5 (bv (fillTo fb s_))) (fun s_ => [(0, .slice A0 L0.length c0), (1, .slice A1 L1.length c1), (2, .int .u8 ((fb.toNat : Nat) : Int)), (7, .pointer (some ⟨d, 0, none⟩)), (9, .slice (some ⟨gm, 0, none⟩) 512 512), (10, .int .i64 (s_ : Int))]) (fun s_ => 512 - s_) 0 ⟨Nat.zero_le _, hC, hD, hq⟩ rfl ?_
      rintro i w6 ⟨hi, hC, hD, hq⟩ ih6
      refine TE.seq ?_
      refine TE.seq ?_
      refine TE.region ?_
      refine OL.pure (Pure.move rfl) rfl ?_
      refine OL.pure (Pure.move rfl) rfl ?_
      refine OL.pure (Pure.lenSlice Tryd.runUnderlying34 rfl) rfl ?_
      refine OL.pure (Pure.lss rfl rfl) rfl ?_
      refine OL.nil ?_
      refine TE.ite rfl (fun hlt => ?_) (fun hlt => ?_)
      ·
        replace hlt : i < 512 := by omega
        have hfl := fillTo_len (b := fb) (i := i) (by omega)
        refine TE.skip ?_
        refine TE.seq ?_
        refine TE.block ?_
        refine TE.region ?_
        refine OL.pure (Pure.move rfl) rfl ?_
        refine OL.pure (Pure.move rfl) rfl ?_
        refine OL.pure (Pure.move rfl) rfl ?_
        refine OL.pure (Pure.indexAddrS (r := i) Tryd.runUnderlying34 Tryd.sizeOf5 rfl rfl (by omega) (by omega) (by omega)) rfl ?_
        refine OL.store (j := i) rfl rfl Tryd.sizeOf5 rfl hq (by omega) (List.getElem?_eq_getElem (by rw [bv_len, hfl]; exact hlt)) ?_
        intro w7 hb7 hc7
        replace hD := hD.chg hc7 (hD.apart hq (by decide) (by decide))
        replace hC := hC.trans1 hc7 (by first | exact .inr (by omega) | exact .inl (by simp))
        replace hq := hb7
        rw [fillTo_set hlt] at hq
        refine OL.nil ?_
        refine TE.inBlock ?_
        refine TE.region ?_
        refine OL.pure (Pure.move rfl) rfl ?_
        refine OL.pure (Pure.add rfl rfl (i64 (by omega) (by omega))) rfl ?_
        refine OL.pure (Pure.assign rfl) rfl ?_
        refine OL.nil ?_
        exact TE.sub [0, 1, 2, 7, 9, 10] rfl (ih6 (i + 1) _ ⟨by omega, hC, hD, hq⟩ (by omega))
      ·
        obtain rfl : i = 512 := by omega
        rw [fillTo_all] at hq
        refine TE.exit rfl ?_
        refine TE.seq ?_
        refine TE.seq ?_
        refine TE.region ?_
        refine OL.pure (Pure.assign rfl) rfl ?_
        refine OL.nil ?_
        refine TE.block ?_
        refine TE.loopInv (σ := Nat × (Int → List UInt8) × Nat × List Nat) [0, 1, 7, 9, 11] (fun s_ w_ => match s_ with | (i, V, c, ks) => i ≤ 20 ∧ c ≤ i ∧ Chg [] w w_ ∧ Dk 93 97 w_ d 20 (V) (c) false ks ∧ Blk w_ gm 5 (bv (List.replicate 512 fb)) ∧ (∀ k_ ∈ ks, w.heap.size ≤ k_) ∧ (∀ k_ : Int, 0 ≤ k_ → k_ < i → V k_ = (List.replicate 512 fb))) (fun s_ => [(0, .slice A0 L0.length c0), (1, .slice A1 L1.length c1), (7, .pointer (some ⟨d, 0, none⟩)), (9, .slice (some ⟨gm, 0, none⟩) 512 512), (11, .int .i64 (s_.1 : Int))]) (fun s_ => 20 - s_.1) (0, fun _ => zb, 0, ks4) ⟨Nat.zero_le _, Nat.le_refl _, hC, hD, hq, hks, fun k_ h1 h2 => absurd h2 (by simp; omega)⟩ rfl ?_
        rintro ⟨i, V, c, ks⟩ w8 ⟨hi, hcc, hC, hD, hq, hks, hVf⟩ ih8
        try dsimp only
        refine TE.seq ?_
        refine TE.seq ?_
        refine TE.region ?_
        refine OL.pure (Pure.move rfl) rfl ?_
        refine OL.pure (Pure.lss rfl rfl) rfl ?_
        refine OL.nil ?_
        refine TE.ite rfl (fun hlt => ?_) (fun hlt => ?_)
        ·
          replace hlt : i < 20 := by omega
          refine TE.skip ?_
          refine TE.seq ?_
          refine TE.block ?_
          refine TE.seq ?_
          refine TE.region ?_
          refine OL.pure (Pure.move rfl) rfl ?_
          refine OL.pure (Pure.move rfl) rfl ?_
          refine OL.pure (Pure.move rfl) rfl ?_
          refine OL.call rfl Tryd.call27 rfl (dwrite_any d 20 c i gm 512 (List.replicate 512 fb) hlt (by omega) (fl_len _) (by decide) (by decide) _ hD hq) ?_
          rintro _ w9 ⟨ks9, rfl, hD9, hc9, hg9⟩
          have hq_ := hq.chg hc9 (hD.notin hq (by decide) (by decide))
          replace hq := hq_; clear hq_
          have hksn : ∀ k_ ∈ ks9, w.heap.size ≤ k_ := fun k_ hk_ => (hg9 k_ hk_).elim (hks k_) (fun h_ => Nat.le_trans hC.size h_)
          replace hC := hC.trans hc9 (fun k_ hk_ => .inr (hks k_ hk_))
          have hks := hksn; have hD := hD9
          refine ⟨_, rfl, ?_⟩
          refine OL.pure (Pure.neq rfl rfl) rfl ?_
          refine OL.cast (.bool false) 65 rfl (rfl) ?_
          refine OL.nil ?_
          refine TE.condF rfl rfl ?_
          refine TE.skip ?_
          refine TE.inBlock ?_
          refine TE.region ?_
          refine OL.pure (Pure.move rfl) rfl ?_
          refine OL.pure (Pure.add rfl rfl (i64 (by omega) (by omega))) rfl ?_
          refine OL.pure (Pure.assign rfl) rfl ?_
          refine OL.nil ?_
          exact TE.sub [0, 1, 7, 9, 11] rfl (ih8 (i + 1, _, c + 1, _) _ ⟨by omega, by omega, hC, hD, hq, hks, fun k_ h1 h2 => by by_cases e_ : k_ = (i : Int); rw [e_]; exact upd_same _ _ _; rw [upd_other _ _ e_]; exact hVf k_ h1 (by omega)⟩ (by simp only []; omega))
        ·
          obtain rfl : i = 20 := by omega
          have hV := hD.len
          have hfa := fmt_fl (V := V) hV (a := 1) (P := 5) (b := fb) (fun k_ h1 h2 => hVf k_ (by omega) (by omega)) (by decide)
          have hIa := inv_fl (V := V) hV (a := 1) (P := 5) (b := fb) (fun k_ h1 h2 => hVf k_ (by omega) (by omega)) (by decide) (by decide)
          refine TE.exit rfl ?_
          refine TE.seq ?_
          refine TE.seq ?_
          refine TE.region ?_
          refine OL.pure (Pure.move rfl) rfl ?_
          refine OL.call rfl Tryd.call13 rfl (format_any d 20 c 1 5 (by decide) (by decide) (by decide) (by rw [hfa]; decide) (by omega) (fun h_ => absurd (hks _ h_) (by omega)) (fun h_ => absurd (hks _ h_) (by omega)) _ hD (hK.chg0 hC) (hF.chg0 hC)) ?_
          rintro _ w10 ⟨ks10, rfl, hD10, hc10, hg10⟩
          have hq_ := hq.chg hc10 (hD.notin hq (by decide) (by decide))
          replace hq := hq_; clear hq_
          have hksn : ∀ k_ ∈ ks10, w.heap.size ≤ k_ := fun k_ hk_ => (hg10 k_ hk_).elim (hks k_) (fun h_ => Nat.le_trans hC.size h_)
          replace hC := hC.trans hc10 (fun k_ hk_ => .inr (hks k_ hk_))
          have hks := hksn; have hD := hD10
          refine ⟨_, rfl, ?_⟩
          obtain ⟨V1, hV1⟩ : ∃ X, X = wrHead V 1 (fmtHd V 1 5) := ⟨_, rfl⟩
          rw [← hV1] at hD hIa
          have hV1f : ∀ k_ : Int, 3 ≤ k_ → k_ < 20 → V1 k_ = (List.replicate 512 fb) := fun k_ h1 h2 => by rw [hV1, wrHead_out (by omega)]; exact hVf k_ (by omega) (by omega)
          have hV10 : V1 0 = (List.replicate 512 fb) := by rw [hV1, wrHead_out (by omega)]; exact hVf 0 (by omega) (by omega)
          have hVl := hD.len
          have hfb := fmt_fl (V := V1) hVl (a := 9) (P := 8) (b := fb) (fun k_ h1 h2 => hV1f k_ (by omega) (by omega)) (by decide)
          have hIb := inv_fl (V := V1) hVl (a := 9) (P := 8) (b := fb) (fun k_ h1 h2 => hV1f k_ (by omega) (by omega)) (by decide) (by decide)
          refine OL.pure (Pure.neq rfl rfl) rfl ?_
          refine OL.cast (.bool false) 68 rfl (rfl) ?_
          refine OL.pure (Pure.move rfl) rfl ?_
          refine OL.want rfl rfl rfl (Pure.move rfl _) rfl ?_
          refine OL.callG rfl rfl rfl rfl Tryd.call13 rfl (format_any d 20 0 9 8 (by decide) (by decide) (by decide) (by rw [hfb]; decide) (by decide) (fun h_ => absurd (hks _ h_) (by omega)) (fun h_ => absurd (hks _ h_) (by omega)) _ hD (hK.chg0 hC) (hF.chg0 hC)) ?_
          rintro _ w11 ⟨ks11, rfl, hD11, hc11, hg11⟩
          have hq_ := hq.chg hc11 (hD.notin hq (by decide) (by decide))
          replace hq := hq_; clear hq_
          have hksn : ∀ k_ ∈ ks11, w.heap.size ≤ k_ := fun k_ hk_ => (hg11 k_ hk_).elim (hks k_) (fun h_ => Nat.le_trans hC.size h_)
          replace hC := hC.trans hc11 (fun k_ hk_ => .inr (hks k_ hk_))
          have hks := hksn; have hD := hD11
          refine ⟨_, rfl, ?_⟩
          obtain ⟨V2, hV2⟩ : ∃ X, X = wrHead V1 9 (fmtHd V1 9 8) := ⟨_, rfl⟩
          rw [← hV2] at hD hIb
          replace hIa : Inv V2 1 5 _ := hIa.congr (fun k_ h1 h2 => by rw [hV2, wrHead_out (by omega)])
          have hout : ∀ k_ : Int, (k_ = 0 ∨ k_ = 8 ∨ k_ = 19) → V2 k_ = (List.replicate 512 fb) := fun k_ h1 => by rw [hV2, wrHead_out (by omega)]; rcases h1 with rfl | rfl | rfl; exact hV10; exact hV1f _ (by omega) (by omega); exact hV1f _ (by omega) (by omega)
          refine OL.want rfl rfl rfl (Pure.neq rfl rfl _) rfl ?_
          refine OL.cast (.bool false) 72 rfl (rfl) ?_
          refine OL.pure (Pure.pickF rfl rfl) rfl ?_
          refine OL.nil ?_
          refine TE.condF rfl rfl ?_
          refine TE.skip ?_
          refine TE.seq ?_
          refine TE.region ?_
          refine OL.pure (Pure.move rfl) rfl ?_
          refine OL.call rfl Tryd.call14 rfl (open_inv d 20 0 1 5 hIa (by decide) (by decide) (by decide) (by decide) (fun h_ => absurd (hks _ h_) (by omega)) (fun h_ => absurd (hks _ h_) (by omega)) (by decide) _ hD (hK.chg0 hC) (hF.chg0 hC)) ?_
          rintro _ w12 ⟨ks12, r12, rs12, v12, rfl, hD12, hR12, hv12, hc12, hg12, hrs12, hmv12⟩
          have hq_ := hq.chg hc12 (hD.notin hq (by decide) (by decide))
          replace hq := hq_; clear hq_
          have hksn : ∀ k_ ∈ ks12, w.heap.size ≤ k_ := fun k_ hk_ => (hg12 k_ hk_).elim (hks k_) (fun h_ => Nat.le_trans hC.size h_)
          have hrsn : ∀ k_ ∈ rs12, w.heap.size ≤ k_ := fun k_ hk_ => Nat.le_trans hC.size (hrs12 k_ hk_)
          replace hC := hC.trans hc12 (fun k_ hk_ => .inr (hks k_ hk_))
          have hks := hksn; have hD := hD12
          have hrs := hrsn; have hR := hR12
          refine ⟨_, rfl, ?_⟩
          have hRa := hR; have hrsa := hrs
          replace hIb : Inv (openV V2 1 5 ⟨⟨0, 0, 0, 0⟩, []⟩) 9 8 _ := hIb.congr (fun k_ h1 h2 => (openV_out (V := V2) (a := 1) (P := 5) (S := ⟨⟨0, 0, 0, 0⟩, []⟩) (by decide) (.inr (by omega))).symm)
          replace hIa := hIa.open_ (by decide) (by decide)
          replace hout : ∀ k_ : Int, (k_ = 0 ∨ k_ = 8 ∨ k_ = 19) → openV V2 1 5 ⟨⟨0, 0, 0, 0⟩, []⟩ k_ = (List.replicate 512 fb) := fun k_ h1 => (openV_out (V := V2) (a := 1) (P := 5) (S := ⟨⟨0, 0, 0, 0⟩, []⟩) (by decide) (by omega)).trans (hout k_ h1)
          obtain ⟨V3, hV3⟩ : ∃ X, X = openV V2 1 5 ⟨⟨0, 0, 0, 0⟩, []⟩ := ⟨_, rfl⟩
          rw [← hV3] at hD hIa hIb
          replace hout : ∀ k_ : Int, (k_ = 0 ∨ k_ = 8 ∨ k_ = 19) → V3 k_ = (List.replicate 512 fb) := by rw [hV3]; exact hout
          have hal := hRa.lt
          refine OL.pure (Pure.move rfl) rfl ?_
          refine OL.pure (Pure.extract (vs := [.pointer (some ⟨r12, 0, none⟩), v12, .int .i64 0]) (i := 0) rfl rfl) rfl ?_
          refine OL.pure (Pure.extract (vs := [.pointer (some ⟨r12, 0, none⟩), v12, .int .i64 0]) (i := 1) rfl rfl) rfl ?_
          refine OL.pure (Pure.extract (vs := [.pointer (some ⟨r12, 0, none⟩), v12, .int .i64 0]) (i := 2) rfl rfl) rfl ?_
          refine OL.pure (Pure.assign rfl) rfl ?_
          refine OL.pure (Pure.assign rfl) rfl ?_
          refine OL.pure (Pure.assign rfl) rfl ?_
          refine OL.nil ?_
          refine TE.seq ?_
          refine TE.region ?_
          refine OL.pure (Pure.move rfl) rfl ?_
          refine OL.call rfl Tryd.call14 rfl (open_inv d 20 0 9 8 hIb (by decide) (by decide) (by decide) (by decide) (fun h_ => absurd (hks _ h_) (by omega)) (fun h_ => absurd (hks _ h_) (by omega)) (by decide) _ hD (hK.chg0 hC) (hF.chg0 hC)) ?_
          rintro _ w13 ⟨ks13, r13, rs13, v13, rfl, hD13, hR13, hv13, hc13, hg13, hrs13, hmv13⟩
          have hq_ := hq.chg hc13 (hD.notin hq (by decide) (by decide))
          have hRa_ := hRa.chg hc13 (hRa.apartD hD (by decide) (by decide) (by decide) (by decide))
          replace hq := hq_; clear hq_
          replace hRa := hRa_; clear hRa_
          have hksn : ∀ k_ ∈ ks13, w.heap.size ≤ k_ := fun k_ hk_ => (hg13 k_ hk_).elim (hks k_) (fun h_ => Nat.le_trans hC.size h_)
          have hrsn : ∀ k_ ∈ rs13, w.heap.size ≤ k_ := fun k_ hk_ => Nat.le_trans hC.size (hrs13 k_ hk_)
          replace hC := hC.trans hc13 (fun k_ hk_ => .inr (hks k_ hk_))
          have hks := hksn; have hD := hD13
          have hrs := hrsn; have hR := hR13
          refine ⟨_, rfl, ?_⟩
          have hRb := hR; have hrsb := hrs
          have hdis : ∀ k_ ∈ rs12, k_ ∉ rs13 := fun k_ h1 h2 => by have := hal k_ h1; have := hrs13 k_ h2; omega
          replace hIa : Inv (openV V3 9 8 ⟨⟨0, 0, 0, 0⟩, []⟩) 1 5 _ := hIa.congr (fun k_ h1 h2 => (openV_out (V := V3) (a := 9) (P := 8) (S := ⟨⟨0, 0, 0, 0⟩, []⟩) (by decide) (.inl (by omega))).symm)
          replace hIb := hIb.open_ (by decide) (by decide)
          replace hout : ∀ k_ : Int, (k_ = 0 ∨ k_ = 8 ∨ k_ = 19) → openV V3 9 8 ⟨⟨0, 0, 0, 0⟩, []⟩ k_ = (List.replicate 512 fb) := fun k_ h1 => (openV_out (V := V3) (a := 9) (P := 8) (S := ⟨⟨0, 0, 0, 0⟩, []⟩) (by decide) (by omega)).trans (hout k_ h1)
          refine OL.pure (Pure.move rfl) rfl ?_
          refine OL.pure (Pure.extract (vs := [.pointer (some ⟨r13, 0, none⟩), v13, .int .i64 0]) (i := 0) rfl rfl) rfl ?_
          refine OL.pure (Pure.extract (vs := [.pointer (some ⟨r13, 0, none⟩), v13, .int .i64 0]) (i := 1) rfl rfl) rfl ?_
          refine OL.pure (Pure.extract (vs := [.pointer (some ⟨r13, 0, none⟩), v13, .int .i64 0]) (i := 2) rfl rfl) rfl ?_
          refine OL.pure (Pure.assign rfl) rfl ?_
          refine OL.pure (Pure.assign rfl) rfl ?_
          refine OL.pure (Pure.assign rfl) rfl ?_
          refine OL.nil ?_
          refine TE.seq ?_
          refine TE.seq ?_
          refine TE.region ?_
          refine OL.pure (Pure.move rfl) rfl ?_
          refine OL.pure (Pure.neq rfl rfl) rfl ?_
          refine OL.cast (.bool false) 87 rfl (rfl) ?_
          refine OL.pure (Pure.move rfl) rfl ?_
          refine OL.want rfl rfl rfl (Pure.move rfl _) rfl ?_
          refine OL.want rfl rfl rfl (Pure.neq rfl rfl _) rfl ?_
          refine OL.cast (.bool false) 90 rfl (rfl) ?_
          refine OL.pure (Pure.pickF rfl rfl) rfl ?_
          refine OL.nil ?_
          refine TE.condF rfl rfl ?_
          refine TE.skip ?_
          refine TE.seq ?_
          refine TE.seq ?_
          refine TE.region ?_
          refine OL.pure (Pure.assign rfl) rfl ?_
          refine OL.nil ?_
          refine TE.block ?_
          refine TE.loopInv (σ := Nat × (Int → List UInt8) × Nat × Rs × Rs × List Nat × List Nat × List Nat) [0, 1, 7, 9, 12, 14, 17] (fun s_ w_ => match s_ with | (i, V, c, Sa, Sb, ks, rsa, rsb) => i ≤ 25 ∧ c ≤ 13 * i ∧ Sa.hd.gen ≤ 1 + i ∧ Sb.hd.gen ≤ 1 + i ∧ Sa.next ≤ i ∧ Sb.next ≤ i ∧ Dk 93 97 w_ d 20 (V) (c) false ks ∧ RgK 80 85 w_ r12 d 1 5 (Sa) rsa ∧ RgK 80 85 w_ r13 d 9 8 (Sb) rsb ∧ Blk w_ gm 5 (bv (List.replicate 512 fb)) ∧ Inv V 1 5 Sa ∧ Inv V 9 8 Sb ∧ (∀ k_ ∈ ks, w.heap.size ≤ k_) ∧ (∀ k_ ∈ rsa, w.heap.size ≤ k_) ∧ (∀ k_ ∈ rsb, w.heap.size ≤ k_) ∧ (∀ k_ ∈ rsa, k_ ∉ rsb) ∧ Chg [] w w_ ∧ (∀ k_ : Int, (k_ = 0 ∨ k_ = 8 ∨ k_ = 19) → V k_ = (List.replicate 512 fb))) (fun s_ => [(0, .slice A0 L0.length c0), (1, .slice A1 L1.length c1), (7, .pointer (some ⟨d, 0, none⟩)), (9, .slice (some ⟨gm, 0, none⟩) 512 512), (12, .pointer (some ⟨r12, 0, none⟩)), (14, .pointer (some ⟨r13, 0, none⟩)), (17, .int .i64 (s_.1 : Int))]) (fun s_ => 25 - s_.1) (0, _, 0, openS ⟨⟨0, 0, 0, 0⟩, []⟩, openS ⟨⟨0, 0, 0, 0⟩, []⟩, _, _, _) ⟨Nat.zero_le _, Nat.zero_le _, by decide, by decide, by decide, by decide, hD, hRa, hRb, hq, hIa, hIb, hks, hrsa, hrsb, hdis, hC, hout⟩ rfl ?_
          rintro ⟨i, V, c, Sa, Sb, ks, rsa, rsb⟩ w14 ⟨hi, hcc, hga, hgb, hna, hnb, hD, hRa, hRb, hq, hIa, hIb, hks, hrsa, hrsb, hdis, hC, hout⟩ ih14
          try dsimp only
          by_cases hlt0 : i < L0.length
          ·
            by_cases hlt1 : i < L1.length
            ·
              obtain ⟨g_op, o_op, hAe, hra0⟩ := hA0 i hlt0
              obtain ⟨op, hop⟩ : ∃ x, x = L0.getD i Opr.zero := ⟨_, rfl⟩
              rw [← hop] at hra0
              obtain ⟨hb1, hb2, hb3⟩ := hL0 op (by rw [hop]; exact getD_op_mem hlt0)
              have hra := rangeAt_chg hra0 hC
              refine TE.seq ?_
              refine TE.seq ?_
              refine TE.region ?_
              refine OL.pure (Pure.move rfl) rfl ?_
              refine OL.pure (Pure.move rfl) rfl ?_
              refine OL.pure (Pure.lenSlice Tryd.runUnderlying22 rfl) rfl ?_
              refine OL.pure (Pure.lss rfl rfl) rfl ?_
              refine OL.cast (.bool true) 95 rfl (congrArg Value.bool (decide_eq_true (by omega))) ?_
              refine OL.pure (Pure.move rfl) rfl ?_
              refine OL.pass rfl rfl rfl rfl rfl ?_
              refine OL.pass rfl rfl rfl rfl rfl ?_
              refine OL.pass rfl rfl rfl rfl rfl ?_
              refine OL.pass rfl rfl rfl rfl rfl ?_
              refine OL.pure (Pure.pickT rfl rfl) rfl ?_
              refine OL.nil ?_
              refine TE.condT rfl rfl ?_
              refine TE.skip ?_
              refine TE.seq ?_
              refine TE.block ?_
              refine TE.seq ?_
              refine TE.seq ?_
              refine TE.region ?_
              refine OL.pure (Pure.move rfl) rfl ?_
              refine OL.pure (Pure.move rfl) rfl ?_
              refine OL.pure (Pure.lenSlice Tryd.runUnderlying22 rfl) rfl ?_
              refine OL.pure (Pure.lss rfl rfl) rfl ?_
              refine OL.cast (.bool true) 107 rfl (congrArg Value.bool (decide_eq_true (by omega))) ?_
              refine OL.nil ?_
              refine TE.condT rfl rfl ?_
              refine TE.region ?_
              refine OL.pure (Pure.move rfl) rfl ?_
              refine OL.cast (.slice (some ⟨g_op, o_op, none⟩) L0.length c0) 0 rfl (by rw [hAe]) ?_
              have hR := hRa; have hrs := hrsa; have hol := hRb.lt
              refine OL.pure (Pure.move rfl) rfl ?_
              refine OL.pure (Pure.move rfl) rfl ?_
              refine OL.pure (Pure.indexAddrS (r := o_op + 4 * i) Tryd.runUnderlying22 Tryd.sizeOf36 rfl rfl (by omega) (by omega) (by omega)) rfl ?_
              refine OL.val (Run.loadRange rfl Tryd.underlying36 rfl rfl hra) rfl ?_
              refine OL.call rfl Tryd.call12 rfl (step_any d 20 c 1 5 r12 op.k op.N op.B op.m op.c op.X (by decide) (by decide) (by decide) hb1 hb2 hb3 hIa (by omega) (by omega) (by omega) (fun h_ => absurd (hks _ h_) (by omega)) (fun h_ => absurd (hks _ h_) (by omega)) (fun h_ => absurd (hrs _ h_) (by omega)) (fun h_ => absurd (hrs _ h_) (by omega)) _ hD hR (hK.chg0 hC) (hF.chg0 hC)) ?_
              rintro _ w15 ⟨V15, c15, S15, ks15, rs15, er15, rfl, hD15, hR15, hc15, hg15, hgr15, hI15, hst15, hout15, hcb15⟩
              have hq_ := hq.chg hc15 (fun hm_ => (List.mem_append.1 hm_).elim (hR.notin hq (by decide) (by decide)) (hD.notin hq (by decide) (by decide)))
              have hRb_ := hRb.chg hc15 (fun k_ hk_ hm_ => (List.mem_append.1 hm_).elim (fun h_ => hdis _ h_ hk_) (fun h_ => hRb.apartD hD (by decide) (by decide) (by decide) (by decide) k_ hk_ h_))
              replace hq := hq_; clear hq_
              replace hRb := hRb_; clear hRb_
              have hksn : ∀ k_ ∈ ks15, w.heap.size ≤ k_ := fun k_ hk_ => (hg15 k_ hk_).elim (hks k_) (fun h_ => Nat.le_trans hC.size h_)
              have hrsn : ∀ k_ ∈ rs15, w.heap.size ≤ k_ := fun k_ hk_ => (hgr15 k_ hk_).elim (hrs k_) (fun h_ => Nat.le_trans hC.size h_)
              replace hC := hC.trans hc15 (fun k_ hk_ => .inr ((List.mem_append.1 hk_).elim (hrs k_) (hks k_)))
              have hks := hksn; have hD := hD15
              have hrs := hrsn; have hR := hR15
              refine ⟨_, rfl, ?_⟩
              have hsga := hst15.gen; have hsna := hst15.next.1
              replace hRa := hR; replace hrsa := hrs; replace hIa := hI15; clear hR hrs
              replace hIb := hIb.congr (fun k_ h1 h2 => (hout15 k_ (by omega)).symm)
              replace hout : ∀ k_ : Int, (k_ = 0 ∨ k_ = 8 ∨ k_ = 19) → V15 k_ = (List.replicate 512 fb) := fun k_ h1 => (hout15 k_ (by omega)).trans (hout k_ h1)
              replace hdis := fun k_ h1 h2 => (hgr15 k_ h1).elim (fun h_ => hdis k_ h_ h2) (fun h_ => by have := hol k_ h2; omega)
              refine OL.cast (.slice A0 L0.length c0) 0 rfl (by rw [hAe]) ?_
              refine OL.nil ?_
              refine TE.cast (.slice A0 L0.length c0) 0 rfl (by rw [hAe]) ?_
              obtain ⟨g_op, o_op, hAe, hra0⟩ := hA1 i hlt1
              obtain ⟨op, hop⟩ : ∃ x, x = L1.getD i Opr.zero := ⟨_, rfl⟩
              rw [← hop] at hra0
              obtain ⟨hb1, hb2, hb3⟩ := hL1 op (by rw [hop]; exact getD_op_mem hlt1)
              have hra := rangeAt_chg hra0 hC
              refine TE.seq ?_
              refine TE.region ?_
              refine OL.pure (Pure.move rfl) rfl ?_
              refine OL.pure (Pure.move rfl) rfl ?_
              refine OL.pure (Pure.lenSlice Tryd.runUnderlying22 rfl) rfl ?_
              refine OL.pure (Pure.lss rfl rfl) rfl ?_
              refine OL.cast (.bool true) 117 rfl (congrArg Value.bool (decide_eq_true (by omega))) ?_
              refine OL.nil ?_
              refine TE.condT rfl rfl ?_
              refine TE.region ?_
              refine OL.pure (Pure.move rfl) rfl ?_
              refine OL.cast (.slice (some ⟨g_op, o_op, none⟩) L1.length c1) 1 rfl (by rw [hAe]) ?_
              have hR := hRb; have hrs := hrsb; have hol := hRa.lt
              refine OL.pure (Pure.move rfl) rfl ?_
              refine OL.pure (Pure.move rfl) rfl ?_
              refine OL.pure (Pure.indexAddrS (r := o_op + 4 * i) Tryd.runUnderlying22 Tryd.sizeOf36 rfl rfl (by omega) (by omega) (by omega)) rfl ?_
              refine OL.val (Run.loadRange rfl Tryd.underlying36 rfl rfl hra) rfl ?_
              refine OL.call rfl Tryd.call12 rfl (step_any d 20 c15 9 8 r13 op.k op.N op.B op.m op.c op.X (by decide) (by decide) (by decide) hb1 hb2 hb3 hIb (by omega) (by omega) (by omega) (fun h_ => absurd (hks _ h_) (by omega)) (fun h_ => absurd (hks _ h_) (by omega)) (fun h_ => absurd (hrs _ h_) (by omega)) (fun h_ => absurd (hrs _ h_) (by omega)) _ hD hR (hK.chg0 hC) (hF.chg0 hC)) ?_
              rintro _ w16 ⟨V16, c16, S16, ks16, rs16, er16, rfl, hD16, hR16, hc16, hg16, hgr16, hI16, hst16, hout16, hcb16⟩
              have hq_ := hq.chg hc16 (fun hm_ => (List.mem_append.1 hm_).elim (hR.notin hq (by decide) (by decide)) (hD.notin hq (by decide) (by decide)))
              have hRa_ := hRa.chg hc16 (fun k_ hk_ hm_ => (List.mem_append.1 hm_).elim (fun h_ => hdis _ hk_ h_) (fun h_ => hRa.apartD hD (by decide) (by decide) (by decide) (by decide) k_ hk_ h_))
              replace hq := hq_; clear hq_
              replace hRa := hRa_; clear hRa_
              have hksn : ∀ k_ ∈ ks16, w.heap.size ≤ k_ := fun k_ hk_ => (hg16 k_ hk_).elim (hks k_) (fun h_ => Nat.le_trans hC.size h_)
              have hrsn : ∀ k_ ∈ rs16, w.heap.size ≤ k_ := fun k_ hk_ => (hgr16 k_ hk_).elim (hrs k_) (fun h_ => Nat.le_trans hC.size h_)
              replace hC := hC.trans hc16 (fun k_ hk_ => .inr ((List.mem_append.1 hk_).elim (hrs k_) (hks k_)))
              have hks := hksn; have hD := hD16
              have hrs := hrsn; have hR := hR16
              refine ⟨_, rfl, ?_⟩
              have hsgb := hst16.gen; have hsnb := hst16.next.1
              replace hRb := hR; replace hrsb := hrs; replace hIb := hI16; clear hR hrs
              replace hIa := hIa.congr (fun k_ h1 h2 => (hout16 k_ (by omega)).symm)
              replace hout : ∀ k_ : Int, (k_ = 0 ∨ k_ = 8 ∨ k_ = 19) → V16 k_ = (List.replicate 512 fb) := fun k_ h1 => (hout16 k_ (by omega)).trans (hout k_ h1)
              replace hdis := fun k_ h1 h2 => (hgr16 k_ h2).elim (fun h_ => hdis k_ h1 h_) (fun h_ => by have := hol k_ h1; omega)
              refine OL.nil ?_
              refine TE.cast (.slice A1 L1.length c1) 1 rfl (by rw [hAe]) ?_
              refine TE.inBlock ?_
              refine TE.region ?_
              refine OL.pure (Pure.move rfl) rfl ?_
              refine OL.pure (Pure.add rfl rfl (i64 (by omega) (by omega))) rfl ?_
              refine OL.pure (Pure.assign rfl) rfl ?_
              refine OL.nil ?_
              exact TE.sub [0, 1, 7, 9, 12, 14, 17] rfl (ih14 (i + 1, V16, c16, S15, S16, ks16, rs15, rs16) _ ⟨by omega, by omega, by omega, by omega, by omega, by omega, hD, hRa, hRb, hq, hIa, hIb, hks, hrsa, hrsb, hdis, hC, hout⟩ (by simp only []; omega))
            ·
              obtain ⟨g_op, o_op, hAe, hra0⟩ := hA0 i hlt0
              obtain ⟨op, hop⟩ : ∃ x, x = L0.getD i Opr.zero := ⟨_, rfl⟩
              rw [← hop] at hra0
              obtain ⟨hb1, hb2, hb3⟩ := hL0 op (by rw [hop]; exact getD_op_mem hlt0)
              have hra := rangeAt_chg hra0 hC
              refine TE.seq ?_
              refine TE.seq ?_
              refine TE.region ?_
              refine OL.pure (Pure.move rfl) rfl ?_
              refine OL.pure (Pure.move rfl) rfl ?_
              refine OL.pure (Pure.lenSlice Tryd.runUnderlying22 rfl) rfl ?_
              refine OL.pure (Pure.lss rfl rfl) rfl ?_
              refine OL.cast (.bool true) 95 rfl (congrArg Value.bool (decide_eq_true (by omega))) ?_
              refine OL.pure (Pure.move rfl) rfl ?_
              refine OL.pass rfl rfl rfl rfl rfl ?_
              refine OL.pass rfl rfl rfl rfl rfl ?_
              refine OL.pass rfl rfl rfl rfl rfl ?_
              refine OL.pass rfl rfl rfl rfl rfl ?_
              refine OL.pure (Pure.pickT rfl rfl) rfl ?_
              refine OL.nil ?_
              refine TE.condT rfl rfl ?_
              refine TE.skip ?_
              refine TE.seq ?_
              refine TE.block ?_
              refine TE.seq ?_
              refine TE.seq ?_
              refine TE.region ?_
              refine OL.pure (Pure.move rfl) rfl ?_
              refine OL.pure (Pure.move rfl) rfl ?_
              refine OL.pure (Pure.lenSlice Tryd.runUnderlying22 rfl) rfl ?_
              refine OL.pure (Pure.lss rfl rfl) rfl ?_
              refine OL.cast (.bool true) 107 rfl (congrArg Value.bool (decide_eq_true (by omega))) ?_
              refine OL.nil ?_
              refine TE.condT rfl rfl ?_
              refine TE.region ?_
              refine OL.pure (Pure.move rfl) rfl ?_
              refine OL.cast (.slice (some ⟨g_op, o_op, none⟩) L0.length c0) 0 rfl (by rw [hAe]) ?_
              have hR := hRa; have hrs := hrsa; have hol := hRb.lt
              refine OL.pure (Pure.move rfl) rfl ?_
              refine OL.pure (Pure.move rfl) rfl ?_
              refine OL.pure (Pure.indexAddrS (r := o_op + 4 * i) Tryd.runUnderlying22 Tryd.sizeOf36 rfl rfl (by omega) (by omega) (by omega)) rfl ?_
              refine OL.val (Run.loadRange rfl Tryd.underlying36 rfl rfl hra) rfl ?_
              refine OL.call rfl Tryd.call12 rfl (step_any d 20 c 1 5 r12 op.k op.N op.B op.m op.c op.X (by decide) (by decide) (by decide) hb1 hb2 hb3 hIa (by omega) (by omega) (by omega) (fun h_ => absurd (hks _ h_) (by omega)) (fun h_ => absurd (hks _ h_) (by omega)) (fun h_ => absurd (hrs _ h_) (by omega)) (fun h_ => absurd (hrs _ h_) (by omega)) _ hD hR (hK.chg0 hC) (hF.chg0 hC)) ?_
              rintro _ w17 ⟨V17, c17, S17, ks17, rs17, er17, rfl, hD17, hR17, hc17, hg17, hgr17, hI17, hst17, hout17, hcb17⟩
              have hq_ := hq.chg hc17 (fun hm_ => (List.mem_append.1 hm_).elim (hR.notin hq (by decide) (by decide)) (hD.notin hq (by decide) (by decide)))
              have hRb_ := hRb.chg hc17 (fun k_ hk_ hm_ => (List.mem_append.1 hm_).elim (fun h_ => hdis _ h_ hk_) (fun h_ => hRb.apartD hD (by decide) (by decide) (by decide) (by decide) k_ hk_ h_))
              replace hq := hq_; clear hq_
              replace hRb := hRb_; clear hRb_
              have hksn : ∀ k_ ∈ ks17, w.heap.size ≤ k_ := fun k_ hk_ => (hg17 k_ hk_).elim (hks k_) (fun h_ => Nat.le_trans hC.size h_)
              have hrsn : ∀ k_ ∈ rs17, w.heap.size ≤ k_ := fun k_ hk_ => (hgr17 k_ hk_).elim (hrs k_) (fun h_ => Nat.le_trans hC.size h_)
              replace hC := hC.trans hc17 (fun k_ hk_ => .inr ((List.mem_append.1 hk_).elim (hrs k_) (hks k_)))
              have hks := hksn; have hD := hD17
              have hrs := hrsn; have hR := hR17
              refine ⟨_, rfl, ?_⟩
              have hsga := hst17.gen; have hsna := hst17.next.1
              replace hRa := hR; replace hrsa := hrs; replace hIa := hI17; clear hR hrs
              replace hIb := hIb.congr (fun k_ h1 h2 => (hout17 k_ (by omega)).symm)
              replace hout : ∀ k_ : Int, (k_ = 0 ∨ k_ = 8 ∨ k_ = 19) → V17 k_ = (List.replicate 512 fb) := fun k_ h1 => (hout17 k_ (by omega)).trans (hout k_ h1)
              replace hdis := fun k_ h1 h2 => (hgr17 k_ h1).elim (fun h_ => hdis k_ h_ h2) (fun h_ => by have := hol k_ h2; omega)
              refine OL.cast (.slice A0 L0.length c0) 0 rfl (by rw [hAe]) ?_
              refine OL.nil ?_
              refine TE.cast (.slice A0 L0.length c0) 0 rfl (by rw [hAe]) ?_
              refine TE.seq ?_
              refine TE.region ?_
              refine OL.pure (Pure.move rfl) rfl ?_
              refine OL.pure (Pure.move rfl) rfl ?_
              refine OL.pure (Pure.lenSlice Tryd.runUnderlying22 rfl) rfl ?_
              refine OL.pure (Pure.lss rfl rfl) rfl ?_
              refine OL.cast (.bool false) 117 rfl (congrArg Value.bool (decide_eq_false (by omega))) ?_
              refine OL.nil ?_
              refine TE.condF rfl rfl ?_
              refine TE.skip ?_
              refine TE.inBlock ?_
              refine TE.region ?_
              refine OL.pure (Pure.move rfl) rfl ?_
              refine OL.pure (Pure.add rfl rfl (i64 (by omega) (by omega))) rfl ?_
              refine OL.pure (Pure.assign rfl) rfl ?_
              refine OL.nil ?_
              exact TE.sub [0, 1, 7, 9, 12, 14, 17] rfl (ih14 (i + 1, V17, c17, S17, Sb, ks17, rs17, rsb) _ ⟨by omega, by omega, by omega, by omega, by omega, by omega, hD, hRa, hRb, hq, hIa, hIb, hks, hrsa, hrsb, hdis, hC, hout⟩ (by simp only []; omega))
          ·
            by_cases hlt1 : i < L1.length
            ·
              obtain ⟨g_op, o_op, hAe, hra0⟩ := hA1 i hlt1
              obtain ⟨op, hop⟩ : ∃ x, x = L1.getD i Opr.zero := ⟨_, rfl⟩
              rw [← hop] at hra0
              obtain ⟨hb1, hb2, hb3⟩ := hL1 op (by rw [hop]; exact getD_op_mem hlt1)
              have hra := rangeAt_chg hra0 hC
              refine TE.seq ?_
              refine TE.seq ?_
              refine TE.region ?_
              refine OL.pure (Pure.move rfl) rfl ?_
              refine OL.pure (Pure.move rfl) rfl ?_
              refine OL.pure (Pure.lenSlice Tryd.runUnderlying22 rfl) rfl ?_
              refine OL.pure (Pure.lss rfl rfl) rfl ?_
              refine OL.cast (.bool false) 95 rfl (congrArg Value.bool (decide_eq_false (by omega))) ?_
              refine OL.pure (Pure.move rfl) rfl ?_
              refine OL.want rfl rfl rfl (Pure.move rfl _) rfl ?_
              refine OL.want rfl rfl rfl (Pure.move rfl _) rfl ?_
              refine OL.want rfl rfl rfl (Pure.lenSlice Tryd.runUnderlying22 rfl _) rfl ?_
              refine OL.want rfl rfl rfl (Pure.lss rfl rfl _) rfl ?_
              refine OL.cast (.bool true) 100 rfl (congrArg Value.bool (decide_eq_true (by omega))) ?_
              refine OL.pure (Pure.pickF rfl rfl) rfl ?_
              refine OL.nil ?_
              refine TE.condT rfl rfl ?_
              refine TE.skip ?_
              refine TE.seq ?_
              refine TE.block ?_
              refine TE.seq ?_
              refine TE.seq ?_
              refine TE.region ?_
              refine OL.pure (Pure.move rfl) rfl ?_
              refine OL.pure (Pure.move rfl) rfl ?_
              refine OL.pure (Pure.lenSlice Tryd.runUnderlying22 rfl) rfl ?_
              refine OL.pure (Pure.lss rfl rfl) rfl ?_
              refine OL.cast (.bool false) 107 rfl (congrArg Value.bool (decide_eq_false (by omega))) ?_
              refine OL.nil ?_
              refine TE.condF rfl rfl ?_
              refine TE.skip ?_
              refine TE.seq ?_
              refine TE.region ?_
              refine OL.pure (Pure.move rfl) rfl ?_
              refine OL.pure (Pure.move rfl) rfl ?_
              refine OL.pure (Pure.lenSlice Tryd.runUnderlying22 rfl) rfl ?_
              refine OL.pure (Pure.lss rfl rfl) rfl ?_
              refine OL.cast (.bool true) 117 rfl (congrArg Value.bool (decide_eq_true (by omega))) ?_
              refine OL.nil ?_
              refine TE.condT rfl rfl ?_
              refine TE.region ?_
              refine OL.pure (Pure.move rfl) rfl ?_
              refine OL.cast (.slice (some ⟨g_op, o_op, none⟩) L1.length c1) 1 rfl (by rw [hAe]) ?_
              have hR := hRb; have hrs := hrsb; have hol := hRa.lt
              refine OL.pure (Pure.move rfl) rfl ?_
              refine OL.pure (Pure.move rfl) rfl ?_
              refine OL.pure (Pure.indexAddrS (r := o_op + 4 * i) Tryd.runUnderlying22 Tryd.sizeOf36 rfl rfl (by omega) (by omega) (by omega)) rfl ?_
              refine OL.val (Run.loadRange rfl Tryd.underlying36 rfl rfl hra) rfl ?_
              refine OL.call rfl Tryd.call12 rfl (step_any d 20 c 9 8 r13 op.k op.N op.B op.m op.c op.X (by decide) (by decide) (by decide) hb1 hb2 hb3 hIb (by omega) (by omega) (by omega) (fun h_ => absurd (hks _ h_) (by omega)) (fun h_ => absurd (hks _ h_) (by omega)) (fun h_ => absurd (hrs _ h_) (by omega)) (fun h_ => absurd (hrs _ h_) (by omega)) _ hD hR (hK.chg0 hC) (hF.chg0 hC)) ?_
              rintro _ w18 ⟨V18, c18, S18, ks18, rs18, er18, rfl, hD18, hR18, hc18, hg18, hgr18, hI18, hst18, hout18, hcb18⟩
              have hq_ := hq.chg hc18 (fun hm_ => (List.mem_append.1 hm_).elim (hR.notin hq (by decide) (by decide)) (hD.notin hq (by decide) (by decide)))
              have hRa_ := hRa.chg hc18 (fun k_ hk_ hm_ => (List.mem_append.1 hm_).elim (fun h_ => hdis _ hk_ h_) (fun h_ => hRa.apartD hD (by decide) (by decide) (by decide) (by decide) k_ hk_ h_))
              replace hq := hq_; clear hq_
              replace hRa := hRa_; clear hRa_
              have hksn : ∀ k_ ∈ ks18, w.heap.size ≤ k_ := fun k_ hk_ => (hg18 k_ hk_).elim (hks k_) (fun h_ => Nat.le_trans hC.size h_)
              have hrsn : ∀ k_ ∈ rs18, w.heap.size ≤ k_ := fun k_ hk_ => (hgr18 k_ hk_).elim (hrs k_) (fun h_ => Nat.le_trans hC.size h_)
              replace hC := hC.trans hc18 (fun k_ hk_ => .inr ((List.mem_append.1 hk_).elim (hrs k_) (hks k_)))
              have hks := hksn; have hD := hD18
              have hrs := hrsn; have hR := hR18
              refine ⟨_, rfl, ?_⟩
              have hsgb := hst18.gen; have hsnb := hst18.next.1
              replace hRb := hR; replace hrsb := hrs; replace hIb := hI18; clear hR hrs
              replace hIa := hIa.congr (fun k_ h1 h2 => (hout18 k_ (by omega)).symm)
              replace hout : ∀ k_ : Int, (k_ = 0 ∨ k_ = 8 ∨ k_ = 19) → V18 k_ = (List.replicate 512 fb) := fun k_ h1 => (hout18 k_ (by omega)).trans (hout k_ h1)
              replace hdis := fun k_ h1 h2 => (hgr18 k_ h2).elim (fun h_ => hdis k_ h1 h_) (fun h_ => by have := hol k_ h1; omega)
              refine OL.nil ?_
              refine TE.cast (.slice A1 L1.length c1) 1 rfl (by rw [hAe]) ?_
              refine TE.inBlock ?_
              refine TE.region ?_
              refine OL.pure (Pure.move rfl) rfl ?_
              refine OL.pure (Pure.add rfl rfl (i64 (by omega) (by omega))) rfl ?_
              refine OL.pure (Pure.assign rfl) rfl ?_
              refine OL.nil ?_
              exact TE.sub [0, 1, 7, 9, 12, 14, 17] rfl (ih14 (i + 1, V18, c18, Sa, S18, ks18, rsa, rs18) _ ⟨by omega, by omega, by omega, by omega, by omega, by omega, hD, hRa, hRb, hq, hIa, hIb, hks, hrsa, hrsb, hdis, hC, hout⟩ (by simp only []; omega))
            ·
              refine TE.seq ?_
              refine TE.seq ?_
              refine TE.region ?_
              refine OL.pure (Pure.move rfl) rfl ?_
              refine OL.pure (Pure.move rfl) rfl ?_
              refine OL.pure (Pure.lenSlice Tryd.runUnderlying22 rfl) rfl ?_
              refine OL.pure (Pure.lss rfl rfl) rfl ?_
              refine OL.cast (.bool false) 95 rfl (congrArg Value.bool (decide_eq_false (by omega))) ?_
              refine OL.pure (Pure.move rfl) rfl ?_
              refine OL.want rfl rfl rfl (Pure.move rfl _) rfl ?_
              refine OL.want rfl rfl rfl (Pure.move rfl _) rfl ?_
              refine OL.want rfl rfl rfl (Pure.lenSlice Tryd.runUnderlying22 rfl _) rfl ?_
              refine OL.want rfl rfl rfl (Pure.lss rfl rfl _) rfl ?_
              refine OL.cast (.bool false) 100 rfl (congrArg Value.bool (decide_eq_false (by omega))) ?_
              refine OL.pure (Pure.pickF rfl rfl) rfl ?_
              refine OL.nil ?_
              refine TE.condF rfl rfl ?_
              refine TE.exit rfl ?_
              refine TE.seq ?_
              refine TE.seq ?_
              refine TE.region ?_
              refine OL.pure (Pure.assign rfl) rfl ?_
              refine OL.nil ?_
              refine TE.block ?_
              refine TE.loopInv (σ := Nat) [7, 9, 12, 14, 18] (fun s_ w_ => s_ ≤ 20 ∧ Chg [] w14 w_) (fun s_ => [(7, .pointer (some ⟨d, 0, none⟩)), (9, .slice (some ⟨gm, 0, none⟩) 512 512), (12, .pointer (some ⟨r12, 0, none⟩)), (14, .pointer (some ⟨r13, 0, none⟩)), (18, .int .i64 (s_ : Int))]) (fun s_ => 20 - s_) 0 ⟨Nat.zero_le _, Chg.refl _ _⟩ rfl ?_
              rintro j w19 ⟨hj, hcl⟩ ih19
              have hD := hD.chg0 hcl
              have hq := hq.chg0 hcl
              have hRa := hRa.chg0 hcl
              have hRb := hRb.chg0 hcl
              refine TE.seq ?_
              refine TE.seq ?_
              refine TE.region ?_
              refine OL.pure (Pure.move rfl) rfl ?_
              refine OL.pure (Pure.lss rfl rfl) rfl ?_
              refine OL.nil ?_
              refine TE.ite rfl (fun hlt => ?_) (fun hlt => ?_)
              ·
                replace hlt : j < 20 := by omega
                by_cases b1 : 1 ≤ j
                ·
                  by_cases b2 : j < 8
                  ·
                    refine TE.skip ?_
                    refine TE.seq ?_
                    refine TE.block ?_
                    refine TE.seq ?_
                    refine TE.seq ?_
                    refine TE.region ?_
                    refine OL.pure (Pure.move rfl) rfl ?_
                    refine OL.pure (Pure.geq rfl rfl) rfl ?_
                    refine OL.cast (.bool true) 129 rfl (congrArg Value.bool (decide_eq_true (by omega))) ?_
                    refine OL.pure (Pure.move rfl) rfl ?_
                    refine OL.want rfl rfl rfl (Pure.move rfl _) rfl ?_
                    refine OL.want rfl rfl rfl (Pure.lss rfl rfl _) rfl ?_
                    refine OL.cast (.bool true) 132 rfl (congrArg Value.bool (decide_eq_true (by omega))) ?_
                    refine OL.pure (Pure.pickT rfl rfl) rfl ?_
                    refine OL.pure (Pure.move rfl) rfl ?_
                    refine OL.pass rfl rfl rfl rfl rfl ?_
                    refine OL.pass rfl rfl rfl rfl rfl ?_
                    refine OL.pass rfl rfl rfl rfl rfl ?_
                    refine OL.pass rfl rfl rfl rfl rfl ?_
                    refine OL.pass rfl rfl rfl rfl rfl ?_
                    refine OL.pass rfl rfl rfl rfl rfl ?_
                    refine OL.pure (Pure.pickT rfl rfl) rfl ?_
                    refine OL.nil ?_
                    refine TE.condT rfl rfl ?_
                    refine TE.exit rfl ?_
                    refine TE.region ?_
                    refine OL.pure (Pure.move rfl) rfl ?_
                    refine OL.pure (Pure.add rfl rfl (i64 (by omega) (by omega))) rfl ?_
                    refine OL.pure (Pure.assign rfl) rfl ?_
                    refine OL.nil ?_
                    exact TE.sub [7, 9, 12, 14, 18] rfl (ih19 (j + 1) _ ⟨by omega, hcl⟩ (by omega))
                  ·
                    by_cases b3 : 9 ≤ j
                    ·
                      by_cases b4 : j < 19
                      ·
                        refine TE.skip ?_
                        refine TE.seq ?_
                        refine TE.block ?_
                        refine TE.seq ?_
                        refine TE.seq ?_
                        refine TE.region ?_
                        refine OL.pure (Pure.move rfl) rfl ?_
                        refine OL.pure (Pure.geq rfl rfl) rfl ?_
                        refine OL.cast (.bool true) 129 rfl (congrArg Value.bool (decide_eq_true (by omega))) ?_
                        refine OL.pure (Pure.move rfl) rfl ?_
                        refine OL.want rfl rfl rfl (Pure.move rfl _) rfl ?_
                        refine OL.want rfl rfl rfl (Pure.lss rfl rfl _) rfl ?_
                        refine OL.cast (.bool false) 132 rfl (congrArg Value.bool (decide_eq_false (by omega))) ?_
                        refine OL.pure (Pure.pickT rfl rfl) rfl ?_
                        refine OL.pure (Pure.move rfl) rfl ?_
                        refine OL.want rfl rfl rfl (Pure.move rfl _) rfl ?_
                        refine OL.want rfl rfl rfl (Pure.geq rfl rfl _) rfl ?_
                        refine OL.cast (.bool true) 136 rfl (congrArg Value.bool (decide_eq_true (by omega))) ?_
                        refine OL.want rfl rfl rfl (Pure.move rfl _) rfl ?_
                        refine OL.want rfl rfl rfl (Pure.move rfl _) rfl ?_
                        refine OL.want rfl rfl rfl (Pure.lss rfl rfl _) rfl ?_
                        refine OL.cast (.bool true) 139 rfl (congrArg Value.bool (decide_eq_true (by omega))) ?_
                        refine OL.want rfl rfl rfl (Pure.pickT rfl rfl _) rfl ?_
                        refine OL.pure (Pure.pickF rfl rfl) rfl ?_
                        refine OL.nil ?_
                        refine TE.condT rfl rfl ?_
                        refine TE.exit rfl ?_
                        refine TE.region ?_
                        refine OL.pure (Pure.move rfl) rfl ?_
                        refine OL.pure (Pure.add rfl rfl (i64 (by omega) (by omega))) rfl ?_
                        refine OL.pure (Pure.assign rfl) rfl ?_
                        refine OL.nil ?_
                        exact TE.sub [7, 9, 12, 14, 18] rfl (ih19 (j + 1) _ ⟨by omega, hcl⟩ (by omega))
                      ·
                        have hVj : V (j : Int) = (List.replicate 512 fb) := hout _ (by omega)
                        refine TE.skip ?_
                        refine TE.seq ?_
                        refine TE.block ?_
                        refine TE.seq ?_
                        refine TE.seq ?_
                        refine TE.region ?_
                        refine OL.pure (Pure.move rfl) rfl ?_
                        refine OL.pure (Pure.geq rfl rfl) rfl ?_
                        refine OL.cast (.bool true) 129 rfl (congrArg Value.bool (decide_eq_true (by omega))) ?_
                        refine OL.pure (Pure.move rfl) rfl ?_
                        refine OL.want rfl rfl rfl (Pure.move rfl _) rfl ?_
                        refine OL.want rfl rfl rfl (Pure.lss rfl rfl _) rfl ?_
                        refine OL.cast (.bool false) 132 rfl (congrArg Value.bool (decide_eq_false (by omega))) ?_
                        refine OL.pure (Pure.pickT rfl rfl) rfl ?_
                        refine OL.pure (Pure.move rfl) rfl ?_
                        refine OL.want rfl rfl rfl (Pure.move rfl _) rfl ?_
                        refine OL.want rfl rfl rfl (Pure.geq rfl rfl _) rfl ?_
                        refine OL.cast (.bool true) 136 rfl (congrArg Value.bool (decide_eq_true (by omega))) ?_
                        refine OL.want rfl rfl rfl (Pure.move rfl _) rfl ?_
                        refine OL.want rfl rfl rfl (Pure.move rfl _) rfl ?_
                        refine OL.want rfl rfl rfl (Pure.lss rfl rfl _) rfl ?_
                        refine OL.cast (.bool false) 139 rfl (congrArg Value.bool (decide_eq_false (by omega))) ?_
                        refine OL.want rfl rfl rfl (Pure.pickT rfl rfl _) rfl ?_
                        refine OL.pure (Pure.pickF rfl rfl) rfl ?_
                        refine OL.nil ?_
                        refine TE.condF rfl rfl ?_
                        refine TE.skip ?_
                        refine TE.seq ?_
                        refine TE.region ?_
                        refine OL.pure (Pure.move rfl) rfl ?_
                        refine OL.pure (Pure.move rfl) rfl ?_
                        refine OL.call rfl Tryd.call28 rfl (dread_any d 20 c j hlt (by omega) _ hD) ?_
                        rintro _ w20 ⟨gb, rfl, hb, hc20, hgb⟩
                        replace hD := hD.chg0 hc20
                        replace hq := hq.chg0 hc20
                        replace hRa := hRa.chg0 hc20
                        replace hRb := hRb.chg0 hc20
                        replace hcl := hcl.then_ hc20
                        rw [hVj] at hb
                        refine ⟨_, rfl, ?_⟩
                        refine OL.pure (Pure.move rfl) rfl ?_
                        refine OL.pure (Pure.extract (vs := [.slice (some ⟨gb, 0, none⟩) 512 512, .int .i64 0]) (i := 0) rfl rfl) rfl ?_
                        refine OL.pure (Pure.extract (vs := [.slice (some ⟨gb, 0, none⟩) 512 512, .int .i64 0]) (i := 1) rfl rfl) rfl ?_
                        refine OL.pure (Pure.assign rfl) rfl ?_
                        refine OL.pure (Pure.assign rfl) rfl ?_
                        refine OL.nil ?_
                        refine TE.seq ?_
                        refine TE.region ?_
                        refine OL.pure (Pure.move rfl) rfl ?_
                        refine OL.pure (Pure.neq rfl rfl) rfl ?_
                        refine OL.cast (.bool false) 149 rfl (rfl) ?_
                        refine OL.pure (Pure.move rfl) rfl ?_
                        refine OL.want rfl rfl rfl (Pure.move rfl _) rfl ?_
                        refine OL.want rfl rfl rfl (Run.toStr (bs := (List.replicate 512 fb)) Tryd.underlying34 Tryd.underlying5 Tryd.underlying9 rfl hb (fl_len _) (by rw [List.drop_zero]; exact List.take_of_length_le (by rw [bv_len, fl_len]; exact Nat.le_refl _))) rfl ?_
                        refine OL.want rfl rfl rfl (Pure.move rfl _) rfl ?_
                        refine OL.want rfl rfl rfl (Run.toStr (bs := (List.replicate 512 fb)) Tryd.underlying34 Tryd.underlying5 Tryd.underlying9 rfl hq (fl_len _) (by rw [List.drop_zero]; exact List.take_of_length_le (by rw [bv_len, fl_len]; exact Nat.le_refl _))) rfl ?_
                        refine OL.want rfl rfl rfl (Pure.strNeq (l := (List.replicate 512 fb)) (m := (List.replicate 512 fb)) rfl rfl _) rfl ?_
                        refine OL.cast (.bool false) 155 rfl (congrArg Value.bool (decide_eq_false (fun h => h rfl))) ?_
                        refine OL.pure (Pure.pickF rfl rfl) rfl ?_
                        refine OL.nil ?_
                        refine TE.condF rfl rfl ?_
                        refine TE.skip ?_
                        refine TE.inBlock ?_
                        refine TE.region ?_
                        refine OL.pure (Pure.move rfl) rfl ?_
                        refine OL.pure (Pure.add rfl rfl (i64 (by omega) (by omega))) rfl ?_
                        refine OL.pure (Pure.assign rfl) rfl ?_
                        refine OL.nil ?_
                        exact TE.sub [7, 9, 12, 14, 18] rfl (ih19 (j + 1) _ ⟨by omega, hcl⟩ (by omega))
                    ·
                      have hVj : V (j : Int) = (List.replicate 512 fb) := hout _ (by omega)
                      refine TE.skip ?_
                      refine TE.seq ?_
                      refine TE.block ?_
                      refine TE.seq ?_
                      refine TE.seq ?_
                      refine TE.region ?_
                      refine OL.pure (Pure.move rfl) rfl ?_
                      refine OL.pure (Pure.geq rfl rfl) rfl ?_
                      refine OL.cast (.bool true) 129 rfl (congrArg Value.bool (decide_eq_true (by omega))) ?_
                      refine OL.pure (Pure.move rfl) rfl ?_
                      refine OL.want rfl rfl rfl (Pure.move rfl _) rfl ?_
                      refine OL.want rfl rfl rfl (Pure.lss rfl rfl _) rfl ?_
                      refine OL.cast (.bool false) 132 rfl (congrArg Value.bool (decide_eq_false (by omega))) ?_
                      refine OL.pure (Pure.pickT rfl rfl) rfl ?_
                      refine OL.pure (Pure.move rfl) rfl ?_
                      refine OL.want rfl rfl rfl (Pure.move rfl _) rfl ?_
                      refine OL.want rfl rfl rfl (Pure.geq rfl rfl _) rfl ?_
                      refine OL.cast (.bool false) 136 rfl (congrArg Value.bool (decide_eq_false (by omega))) ?_
                      refine OL.want rfl rfl rfl (Pure.move rfl _) rfl ?_
                      refine OL.pass rfl rfl rfl rfl rfl ?_
                      refine OL.pass rfl rfl rfl rfl rfl ?_
                      refine OL.want rfl rfl rfl (Pure.pickF rfl rfl _) rfl ?_
                      refine OL.pure (Pure.pickF rfl rfl) rfl ?_
                      refine OL.nil ?_
                      refine TE.condF rfl rfl ?_
                      refine TE.skip ?_
                      refine TE.seq ?_
                      refine TE.region ?_
                      refine OL.pure (Pure.move rfl) rfl ?_
                      refine OL.pure (Pure.move rfl) rfl ?_
                      refine OL.call rfl Tryd.call28 rfl (dread_any d 20 c j hlt (by omega) _ hD) ?_
                      rintro _ w21 ⟨gb, rfl, hb, hc21, hgb⟩
                      replace hD := hD.chg0 hc21
                      replace hq := hq.chg0 hc21
                      replace hRa := hRa.chg0 hc21
                      replace hRb := hRb.chg0 hc21
                      replace hcl := hcl.then_ hc21
                      rw [hVj] at hb
                      refine ⟨_, rfl, ?_⟩
                      refine OL.pure (Pure.move rfl) rfl ?_
                      refine OL.pure (Pure.extract (vs := [.slice (some ⟨gb, 0, none⟩) 512 512, .int .i64 0]) (i := 0) rfl rfl) rfl ?_
                      refine OL.pure (Pure.extract (vs := [.slice (some ⟨gb, 0, none⟩) 512 512, .int .i64 0]) (i := 1) rfl rfl) rfl ?_
                      refine OL.pure (Pure.assign rfl) rfl ?_
                      refine OL.pure (Pure.assign rfl) rfl ?_
                      refine OL.nil ?_
                      refine TE.seq ?_
                      refine TE.region ?_
                      refine OL.pure (Pure.move rfl) rfl ?_
                      refine OL.pure (Pure.neq rfl rfl) rfl ?_
                      refine OL.cast (.bool false) 149 rfl (rfl) ?_
                      refine OL.pure (Pure.move rfl) rfl ?_
                      refine OL.want rfl rfl rfl (Pure.move rfl _) rfl ?_
                      refine OL.want rfl rfl rfl (Run.toStr (bs := (List.replicate 512 fb)) Tryd.underlying34 Tryd.underlying5 Tryd.underlying9 rfl hb (fl_len _) (by rw [List.drop_zero]; exact List.take_of_length_le (by rw [bv_len, fl_len]; exact Nat.le_refl _))) rfl ?_
                      refine OL.want rfl rfl rfl (Pure.move rfl _) rfl ?_
                      refine OL.want rfl rfl rfl (Run.toStr (bs := (List.replicate 512 fb)) Tryd.underlying34 Tryd.underlying5 Tryd.underlying9 rfl hq (fl_len _) (by rw [List.drop_zero]; exact List.take_of_length_le (by rw [bv_len, fl_len]; exact Nat.le_refl _))) rfl ?_
                      refine OL.want rfl rfl rfl (Pure.strNeq (l := (List.replicate 512 fb)) (m := (List.replicate 512 fb)) rfl rfl _) rfl ?_
                      refine OL.cast (.bool false) 155 rfl (congrArg Value.bool (decide_eq_false (fun h => h rfl))) ?_
                      refine OL.pure (Pure.pickF rfl rfl) rfl ?_
                      refine OL.nil ?_
                      refine TE.condF rfl rfl ?_
                      refine TE.skip ?_
                      refine TE.inBlock ?_
                      refine TE.region ?_
                      refine OL.pure (Pure.move rfl) rfl ?_
                      refine OL.pure (Pure.add rfl rfl (i64 (by omega) (by omega))) rfl ?_
                      refine OL.pure (Pure.assign rfl) rfl ?_
                      refine OL.nil ?_
                      exact TE.sub [7, 9, 12, 14, 18] rfl (ih19 (j + 1) _ ⟨by omega, hcl⟩ (by omega))
                ·
                  have hVj : V (j : Int) = (List.replicate 512 fb) := hout _ (by omega)
                  refine TE.skip ?_
                  refine TE.seq ?_
                  refine TE.block ?_
                  refine TE.seq ?_
                  refine TE.seq ?_
                  refine TE.region ?_
                  refine OL.pure (Pure.move rfl) rfl ?_
                  refine OL.pure (Pure.geq rfl rfl) rfl ?_
                  refine OL.cast (.bool false) 129 rfl (congrArg Value.bool (decide_eq_false (by omega))) ?_
                  refine OL.pure (Pure.move rfl) rfl ?_
                  refine OL.pass rfl rfl rfl rfl rfl ?_
                  refine OL.pass rfl rfl rfl rfl rfl ?_
                  refine OL.pure (Pure.pickF rfl rfl) rfl ?_
                  refine OL.pure (Pure.move rfl) rfl ?_
                  refine OL.want rfl rfl rfl (Pure.move rfl _) rfl ?_
                  refine OL.want rfl rfl rfl (Pure.geq rfl rfl _) rfl ?_
                  refine OL.cast (.bool false) 136 rfl (congrArg Value.bool (decide_eq_false (by omega))) ?_
                  refine OL.want rfl rfl rfl (Pure.move rfl _) rfl ?_
                  refine OL.pass rfl rfl rfl rfl rfl ?_
                  refine OL.pass rfl rfl rfl rfl rfl ?_
                  refine OL.want rfl rfl rfl (Pure.pickF rfl rfl _) rfl ?_
                  refine OL.pure (Pure.pickF rfl rfl) rfl ?_
                  refine OL.nil ?_
                  refine TE.condF rfl rfl ?_
                  refine TE.skip ?_
                  refine TE.seq ?_
                  refine TE.region ?_
                  refine OL.pure (Pure.move rfl) rfl ?_
                  refine OL.pure (Pure.move rfl) rfl ?_
                  refine OL.call rfl Tryd.call28 rfl (dread_any d 20 c j hlt (by omega) _ hD) ?_
                  rintro _ w22 ⟨gb, rfl, hb, hc22, hgb⟩
                  replace hD := hD.chg0 hc22
                  replace hq := hq.chg0 hc22
                  replace hRa := hRa.chg0 hc22
                  replace hRb := hRb.chg0 hc22
                  replace hcl := hcl.then_ hc22
                  rw [hVj] at hb
                  refine ⟨_, rfl, ?_⟩
                  refine OL.pure (Pure.move rfl) rfl ?_
                  refine OL.pure (Pure.extract (vs := [.slice (some ⟨gb, 0, none⟩) 512 512, .int .i64 0]) (i := 0) rfl rfl) rfl ?_
                  refine OL.pure (Pure.extract (vs := [.slice (some ⟨gb, 0, none⟩) 512 512, .int .i64 0]) (i := 1) rfl rfl) rfl ?_
                  refine OL.pure (Pure.assign rfl) rfl ?_
                  refine OL.pure (Pure.assign rfl) rfl ?_
                  refine OL.nil ?_
                  refine TE.seq ?_
                  refine TE.region ?_
                  refine OL.pure (Pure.move rfl) rfl ?_
                  refine OL.pure (Pure.neq rfl rfl) rfl ?_
                  refine OL.cast (.bool false) 149 rfl (rfl) ?_
                  refine OL.pure (Pure.move rfl) rfl ?_
                  refine OL.want rfl rfl rfl (Pure.move rfl _) rfl ?_
                  refine OL.want rfl rfl rfl (Run.toStr (bs := (List.replicate 512 fb)) Tryd.underlying34 Tryd.underlying5 Tryd.underlying9 rfl hb (fl_len _) (by rw [List.drop_zero]; exact List.take_of_length_le (by rw [bv_len, fl_len]; exact Nat.le_refl _))) rfl ?_
                  refine OL.want rfl rfl rfl (Pure.move rfl _) rfl ?_
                  refine OL.want rfl rfl rfl (Run.toStr (bs := (List.replicate 512 fb)) Tryd.underlying34 Tryd.underlying5 Tryd.underlying9 rfl hq (fl_len _) (by rw [List.drop_zero]; exact List.take_of_length_le (by rw [bv_len, fl_len]; exact Nat.le_refl _))) rfl ?_
                  refine OL.want rfl rfl rfl (Pure.strNeq (l := (List.replicate 512 fb)) (m := (List.replicate 512 fb)) rfl rfl _) rfl ?_
                  refine OL.cast (.bool false) 155 rfl (congrArg Value.bool (decide_eq_false (fun h => h rfl))) ?_
                  refine OL.pure (Pure.pickF rfl rfl) rfl ?_
                  refine OL.nil ?_
                  refine TE.condF rfl rfl ?_
                  refine TE.skip ?_
                  refine TE.inBlock ?_
                  refine TE.region ?_
                  refine OL.pure (Pure.move rfl) rfl ?_
                  refine OL.pure (Pure.add rfl rfl (i64 (by omega) (by omega))) rfl ?_
                  refine OL.pure (Pure.assign rfl) rfl ?_
                  refine OL.nil ?_
                  exact TE.sub [7, 9, 12, 14, 18] rfl (ih19 (j + 1) _ ⟨by omega, hcl⟩ (by omega))
              ·
                replace hC := hC.then_ hcl
                have hqa : Sa.next = Sa.hd.first + Sa.ents.length := rfl; have hqb : Sb.next = Sb.hd.first + Sb.ents.length := rfl
                refine TE.exit rfl ?_
                refine TE.seq ?_
                refine TE.region ?_
                refine OL.pure (Pure.move rfl) rfl ?_
                refine OL.call rfl Tryd.call14 rfl (open_inv d 20 c 1 5 hIa (by decide) (by decide) (by decide) (by omega) (fun h_ => absurd (hks _ h_) (by omega)) (fun h_ => absurd (hks _ h_) (by omega)) (by omega) _ hD (hK.chg0 hC) (hF.chg0 hC)) ?_
                rintro _ w23 ⟨ks23, r23, rs23, v23, rfl, hD23, hR23, hv23, hc23, hg23, hrs23, hmv23⟩
                have hq_ := hq.chg hc23 (hD.notin hq (by decide) (by decide))
                have hRa_ := hRa.chg hc23 (hRa.apartD hD (by decide) (by decide) (by decide) (by decide))
                have hRb_ := hRb.chg hc23 (hRb.apartD hD (by decide) (by decide) (by decide) (by decide))
                replace hq := hq_; clear hq_
                replace hRa := hRa_; clear hRa_
                replace hRb := hRb_; clear hRb_
                have hksn : ∀ k_ ∈ ks23, w.heap.size ≤ k_ := fun k_ hk_ => (hg23 k_ hk_).elim (hks k_) (fun h_ => Nat.le_trans hC.size h_)
                have hrsn : ∀ k_ ∈ rs23, w.heap.size ≤ k_ := fun k_ hk_ => Nat.le_trans hC.size (hrs23 k_ hk_)
                replace hC := hC.trans hc23 (fun k_ hk_ => .inr (hks k_ hk_))
                have hks := hksn; have hD := hD23
                have hrs := hrsn; have hR := hR23
                refine ⟨_, rfl, ?_⟩
                have hRc := hR; have hx := hv23
                replace hIb : Inv (openV V 1 5 Sa) 9 8 Sb := hIb.congr (fun k_ h1 h2 => (openV_out (V := V) (a := 1) (P := 5) (S := Sa) (by decide) (.inr (by omega))).symm)
                refine OL.pure (Pure.move rfl) rfl ?_
                refine OL.pure (Pure.extract (vs := [.pointer (some ⟨r23, 0, none⟩), v23, .int .i64 0]) (i := 0) rfl rfl) rfl ?_
                refine OL.pure (Pure.extract (vs := [.pointer (some ⟨r23, 0, none⟩), v23, .int .i64 0]) (i := 1) rfl rfl) rfl ?_
                refine OL.pure (Pure.extract (vs := [.pointer (some ⟨r23, 0, none⟩), v23, .int .i64 0]) (i := 2) rfl rfl) rfl ?_
                refine OL.pure (Pure.assign rfl) rfl ?_
                refine OL.pure (Pure.assign rfl) rfl ?_
                refine OL.pure (Pure.assign rfl) rfl ?_
                refine OL.nil ?_
                refine TE.seq ?_
                refine TE.region ?_
                refine OL.pure (Pure.move rfl) rfl ?_
                refine OL.call rfl Tryd.call14 rfl (open_inv d 20 0 9 8 hIb (by decide) (by decide) (by decide) (by decide) (fun h_ => absurd (hks _ h_) (by omega)) (fun h_ => absurd (hks _ h_) (by omega)) (by omega) _ hD (hK.chg0 hC) (hF.chg0 hC)) ?_
                rintro _ w24 ⟨ks24, r24, rs24, v24, rfl, hD24, hR24, hv24, hc24, hg24, hrs24, hmv24⟩
                have hq_ := hq.chg hc24 (hD.notin hq (by decide) (by decide))
                have hRa_ := hRa.chg hc24 (hRa.apartD hD (by decide) (by decide) (by decide) (by decide))
                have hRb_ := hRb.chg hc24 (hRb.apartD hD (by decide) (by decide) (by decide) (by decide))
                have hRc_ := hRc.chg hc24 (hRc.apartD hD (by decide) (by decide) (by decide) (by decide))
                have hx_ := hx.chg hc24 (hD.apartR hx (by decide) (by decide))
                replace hq := hq_; clear hq_
                replace hRa := hRa_; clear hRa_
                replace hRb := hRb_; clear hRb_
                replace hRc := hRc_; clear hRc_
                replace hx := hx_; clear hx_
                have hksn : ∀ k_ ∈ ks24, w.heap.size ≤ k_ := fun k_ hk_ => (hg24 k_ hk_).elim (hks k_) (fun h_ => Nat.le_trans hC.size h_)
                have hrsn : ∀ k_ ∈ rs24, w.heap.size ≤ k_ := fun k_ hk_ => Nat.le_trans hC.size (hrs24 k_ hk_)
                replace hC := hC.trans hc24 (fun k_ hk_ => .inr (hks k_ hk_))
                have hks := hksn; have hD := hD24
                have hrs := hrsn; have hR := hR24
                refine ⟨_, rfl, ?_⟩
                have hy := hv24
                refine OL.pure (Pure.move rfl) rfl ?_
                refine OL.pure (Pure.extract (vs := [.pointer (some ⟨r24, 0, none⟩), v24, .int .i64 0]) (i := 0) rfl rfl) rfl ?_
                refine OL.pure (Pure.extract (vs := [.pointer (some ⟨r24, 0, none⟩), v24, .int .i64 0]) (i := 1) rfl rfl) rfl ?_
                refine OL.pure (Pure.extract (vs := [.pointer (some ⟨r24, 0, none⟩), v24, .int .i64 0]) (i := 2) rfl rfl) rfl ?_
                refine OL.pure (Pure.assign rfl) rfl ?_
                refine OL.pure (Pure.assign rfl) rfl ?_
                refine OL.pure (Pure.assign rfl) rfl ?_
                refine OL.nil ?_
                refine TE.seq ?_
                refine TE.region ?_
                refine OL.pure (Pure.move rfl) rfl ?_
                refine OL.pure (Pure.eql rfl rfl) rfl ?_
                refine OL.cast (.bool true) 170 rfl (rfl) ?_
                refine OL.pure (Pure.move rfl) rfl ?_
                refine OL.want rfl rfl rfl (Pure.move rfl _) rfl ?_
                refine OL.want rfl rfl rfl (Pure.eql rfl rfl _) rfl ?_
                refine OL.cast (.bool true) 173 rfl (rfl) ?_
                refine OL.pure (Pure.pickT rfl rfl) rfl ?_
                refine OL.pure (Pure.move rfl) rfl ?_
                refine OL.want rfl rfl rfl (Pure.move rfl _) rfl ?_
                refine OL.callG rfl rfl rfl rfl Tryd.call15 rfl (First_of d 1 5 r23 (openS Sa) _ _ hRc) ?_
                rintro _ _ ⟨rfl, rfl⟩
                refine ⟨_, rfl, ?_⟩
                refine OL.cast (.int .i64 (Sa.hd.first : Int)) 177 rfl (rfl) ?_
                refine OL.want rfl rfl rfl (Pure.move rfl _) rfl ?_
                refine OL.callG rfl rfl rfl rfl Tryd.call15 rfl (First_of d 1 5 r12 Sa _ _ hRa) ?_
                rintro _ _ ⟨rfl, rfl⟩
                refine ⟨_, rfl, ?_⟩
                refine OL.cast (.int .i64 (Sa.hd.first : Int)) 179 rfl (rfl) ?_
                refine OL.want rfl rfl rfl (Pure.eql rfl rfl _) rfl ?_
                refine OL.cast (.bool true) 180 rfl (congrArg Value.bool (decide_eq_true (by omega))) ?_
                refine OL.pure (Pure.pickT rfl rfl) rfl ?_
                refine OL.pure (Pure.move rfl) rfl ?_
                refine OL.want rfl rfl rfl (Pure.move rfl _) rfl ?_
                refine OL.want rfl rfl rfl (Pure.lenRow Tryd.runUnderlying38 rfl hx _) rfl ?_
                refine OL.want rfl rfl rfl (Pure.move rfl _) rfl ?_
                refine OL.callG rfl rfl rfl rfl Tryd.call16 rfl (Next_of d 1 5 r12 Sa _ _ hRa) ?_
                rintro _ _ ⟨rfl, rfl⟩
                refine ⟨_, rfl, ?_⟩
                refine OL.cast (.int .i64 (Sa.next : Int)) 186 rfl (rfl) ?_
                refine OL.want rfl rfl rfl (Pure.move rfl _) rfl ?_
                refine OL.callG rfl rfl rfl rfl Tryd.call15 rfl (First_of d 1 5 r12 Sa _ _ hRa) ?_
                rintro _ _ ⟨rfl, rfl⟩
                refine ⟨_, rfl, ?_⟩
                refine OL.cast (.int .i64 (Sa.hd.first : Int)) 188 rfl (rfl) ?_
                refine OL.want rfl rfl rfl (Pure.sub rfl rfl (i64 (by omega) (by omega)) _) rfl ?_
                refine OL.want rfl rfl rfl (Pure.eql rfl rfl _) rfl ?_
                refine OL.cast (.bool true) 190 rfl (congrArg Value.bool (decide_eq_true (by omega))) ?_
                refine OL.pure (Pure.pickT rfl rfl) rfl ?_
                refine OL.pure (Pure.move rfl) rfl ?_
                refine OL.want rfl rfl rfl (Pure.move rfl _) rfl ?_
                refine OL.callG rfl rfl rfl rfl Tryd.call15 rfl (First_of d 9 8 r24 (openS Sb) _ _ hR) ?_
                rintro _ _ ⟨rfl, rfl⟩
                refine ⟨_, rfl, ?_⟩
                refine OL.cast (.int .i64 (Sb.hd.first : Int)) 194 rfl (rfl) ?_
                refine OL.want rfl rfl rfl (Pure.move rfl _) rfl ?_
                refine OL.callG rfl rfl rfl rfl Tryd.call15 rfl (First_of d 9 8 r13 Sb _ _ hRb) ?_
                rintro _ _ ⟨rfl, rfl⟩
                refine ⟨_, rfl, ?_⟩
                refine OL.cast (.int .i64 (Sb.hd.first : Int)) 196 rfl (rfl) ?_
                refine OL.want rfl rfl rfl (Pure.eql rfl rfl _) rfl ?_
                refine OL.cast (.bool true) 197 rfl (congrArg Value.bool (decide_eq_true (by omega))) ?_
                refine OL.pure (Pure.pickT rfl rfl) rfl ?_
                refine OL.pure (Pure.move rfl) rfl ?_
                refine OL.want rfl rfl rfl (Pure.move rfl _) rfl ?_
                refine OL.want rfl rfl rfl (Pure.lenRow Tryd.runUnderlying38 rfl hy _) rfl ?_
                refine OL.want rfl rfl rfl (Pure.move rfl _) rfl ?_
                refine OL.callG rfl rfl rfl rfl Tryd.call16 rfl (Next_of d 9 8 r13 Sb _ _ hRb) ?_
                rintro _ _ ⟨rfl, rfl⟩
                refine ⟨_, rfl, ?_⟩
                refine OL.cast (.int .i64 (Sb.next : Int)) 203 rfl (rfl) ?_
                refine OL.want rfl rfl rfl (Pure.move rfl _) rfl ?_
                refine OL.callG rfl rfl rfl rfl Tryd.call15 rfl (First_of d 9 8 r13 Sb _ _ hRb) ?_
                rintro _ _ ⟨rfl, rfl⟩
                refine ⟨_, rfl, ?_⟩
                refine OL.cast (.int .i64 (Sb.hd.first : Int)) 205 rfl (rfl) ?_
                refine OL.want rfl rfl rfl (Pure.sub rfl rfl (i64 (by omega) (by omega)) _) rfl ?_
                refine OL.want rfl rfl rfl (Pure.eql rfl rfl _) rfl ?_
                refine OL.cast (.bool true) 207 rfl (congrArg Value.bool (decide_eq_true (by omega))) ?_
                refine OL.pure (Pure.pickT rfl rfl) rfl ?_
                refine OL.pure (Pure.assign rfl) rfl ?_
                refine OL.nil ?_
                exact TE.ret (vs := [.bool true]) Tryd.results6 (⟨rfl, trivial⟩) ⟨rfl, hC⟩

end Go.Proofs.YtcologcjhenmkaaDoor
