/- Parse, its reference, Text, IsZero, walked -/
import Derived.Test.YteghfhakdpcbaaaDoorProg
import Derived.Test.YteghfhakdpcbaaaDoorEng4
import Derived.Test.YteghfhakdpcbaaaDoorShaSpec5
import Derived.Test.YteghfhakdpcbaaaDoorSha5
set_option linter.unusedVariables false
set_option maxRecDepth 4000
namespace Go.Proofs.YteghfhakdpcbaaaDoor
open Go.V Go.Sha
theorem eq3 {x : List Int × Nat × Int} {d d' : List Int} {a a' : Nat} {e e' : Int} (h : x = (d, a, e)) (h' : x = (d', a', e')) : d' = d ∧ a' = a ∧ e' = e := by
  rw [h] at h'
  simp at h'
  exact ⟨h'.1.symm, h'.2.1.symm, h'.2.2.symm⟩
theorem digit_any (c : UInt8) (w : World) : Calls Tryd.prog 41 #[.int .u8 ((c.toNat : Nat) : Int)] w (Ret (.int .i64 (hv ((c.toNat : Nat) : Int))) w) := by
  refine calls_of_TE (vs := [.int .u8 ((c.toNat : Nat) : Int)]) Tryd.func41 Tryd.ntmps41 rfl (by simp) ?_
  refine TE.seq ?_
  refine TE.region ?_
  refine OL.pure (Pure.assign rfl) rfl ?_
  refine OL.nil ?_
  refine TE.seq ?_
  refine TE.seq ?_
  refine TE.region ?_
  refine OL.pure (Pure.assign rfl) rfl ?_
  refine OL.nil ?_
  refine TE.block ?_
  refine TE.loopInv (σ := Nat) [0, 3] (fun s_ w_ => s_ ≤ 16 ∧ (∀ i, i < s_ → (hex.getD i 0).toNat ≠ c.toNat) ∧ w = w_) (fun s_ => [(0, .int .u8 ((c.toNat : Nat) : Int)), (3, .int .i64 (↑s_))]) (fun s_ => 16 - s_) 0 ⟨by omega, fun i h => by omega, rfl⟩ rfl ?_
  rintro j w1 ⟨hj, hno, rfl⟩ ih1
  refine TE.seq ?_
  refine TE.seq ?_
  refine TE.region ?_
  refine OL.pure (Pure.move rfl) rfl ?_
  refine OL.pure (Pure.lss rfl rfl) rfl ?_
  refine OL.nil ?_
  refine TE.ite rfl (fun hlt => ?_) (fun hlt => ?_)
  ·
    refine TE.skip ?_
    refine TE.seq ?_
    refine TE.block ?_
    refine TE.seq ?_
    refine TE.region ?_
    refine OL.pure (Pure.move rfl) rfl ?_
    refine OL.pure (Pure.indexStr (l := hex) (j := j) Tryd.runUnderlying9 rfl rfl (by omega) (by show _ < 16; omega)) rfl ?_
    refine OL.pure (Pure.move rfl) rfl ?_
    refine OL.pure (Pure.eql rfl rfl) rfl ?_
    refine OL.nil ?_
    refine TE.ite rfl (fun he => ?_) (fun he => ?_)
    ·
      refine TE.seq ?_
      refine TE.region ?_
      refine OL.pure (Pure.move rfl) rfl ?_
      refine OL.pure (Pure.assign rfl) rfl ?_
      refine OL.nil ?_
      exact TE.ret (vs := [.int .i64 (hv ((c.toNat : Nat) : Int))]) Tryd.results41 (⟨by rw [hv_at (show j < 16 by omega) he]; rfl, trivial⟩) ⟨rfl, rfl⟩
    ·
      have hno2 : ∀ i, i < j + 1 → (hex.getD i 0).toNat ≠ c.toNat := by
        intro i hi h2
        by_cases e : i = j
        · subst e; exact he (congrArg (Nat.cast (R := Int)) h2)
        · exact hno i (by omega) h2
      refine TE.skip ?_
      refine TE.inBlock ?_
      refine TE.region ?_
      refine OL.pure (Pure.move rfl) rfl ?_
      refine OL.pure (Pure.add rfl rfl (i64 (by omega) (by omega))) rfl ?_
      refine OL.pure (Pure.assign rfl) rfl ?_
      refine OL.nil ?_
      exact TE.sub [0, 3] rfl (ih1 (j + 1) _ ⟨by omega, hno2, rfl⟩ (by omega))
  ·
    obtain rfl : j = 16 := by omega
    refine TE.exit rfl ?_
    refine TE.seq ?_
    refine TE.region ?_
    refine OL.pure (Pure.assign rfl) rfl ?_
    refine OL.nil ?_
    exact TE.ret (vs := [.int .i64 (hv ((c.toNat : Nat) : Int))]) Tryd.results41 (⟨by rw [hv_no hno]; rfl, trivial⟩) ⟨rfl, rfl⟩

theorem parse_any (l : List UInt8) (hl : l.length ≤ 4294967296) (d : List Int) (a : Nat) (e : Int) (hp : parse l = (d, a, e)) (w : World) : Calls Tryd.prog 32 #[.string (str l)] w (RetC (.tuple #[.agg (iv .u8 d).toArray, .int .i64 (a : Int), .int .i64 e]) w) := by
  refine calls_of_TE (vs := [.string (str l)]) Tryd.func32 Tryd.ntmps32 rfl (by simp) ?_
  have hC : Chg [] w w := Chg.refl _ _
  refine TE.seq ?_
  refine TE.region ?_
  refine OL.alloc Tryd.zeroValue25 rfl ?_
  intro gr w1 hr hc1 hg_gr
  have ge_gr : w.heap.size ≤ gr := by have := hC.size; omega
  replace hC := hC.then_ hc1
  have hr : Blk w1 gr 25 (iv .u8 zeros32) := hr
  refine OL.pure (Pure.assign rfl) rfl ?_
  refine OL.pure (Pure.assign rfl) rfl ?_
  refine OL.nil ?_
  refine TE.seq ?_
  refine TE.region ?_
  refine OL.alloc Tryd.zeroValue25 rfl ?_
  intro gd w2 hd hc2 hg_gd
  have lt_gr_gd : gr < gd := by have := hr.lt; omega
  have ge_gd : w.heap.size ≤ gd := by have := hC.size; omega
  replace hr := hr.chg0 hc2
  replace hC := hC.then_ hc2
  have hd : Blk w2 gd 25 (iv .u8 (pd l 0)) := hd
  obtain ⟨n, hn⟩ : ∃ n, n = min l.length 64 := ⟨_, rfl⟩
  refine OL.nil ?_
  refine TE.seq ?_
  refine TE.seq ?_
  refine TE.region ?_
  refine OL.pure (Pure.move rfl) rfl ?_
  refine OL.pure (Pure.lenStr Tryd.runUnderlying9 rfl) rfl ?_
  refine OL.pure (Pure.min rfl rfl) rfl ?_
  refine OL.cast (.int .i64 (n : Int)) 10 rfl (congrArg (Value.int .i64) (by omega)) ?_
  refine OL.pure (Pure.move rfl) rfl ?_
  refine OL.nil ?_
  refine TE.block ?_
  refine TE.loopInv (σ := Nat) [0, 2, 5, 10, 11] (fun s_ w_ => s_ ≤ n ∧ Ok l s_ ∧ Chg [] w w_ ∧ Blk w_ gr 25 (iv .u8 zeros32) ∧ Blk w_ gd 25 (iv .u8 (pd l s_))) (fun s_ => [(0, .string (str l)), (2, .pointer (some ⟨gr, 0, none⟩)), (5, .pointer (some ⟨gd, 0, none⟩)), (10, .int .i64 (↑n)), (11, .int .i64 (↑s_))]) (fun s_ => n - s_) 0 ⟨by omega, Ok.zero l, hC, hr, hd⟩ rfl ?_
  rintro j w3 ⟨hj, hok, hC, hr, hd⟩ ih3
  refine TE.seq ?_
  refine TE.region ?_
  refine OL.pure (Pure.lss rfl rfl) rfl ?_
  refine OL.nil ?_
  refine TE.seq ?_
  refine TE.ite rfl (fun hlt => ?_) (fun hlt => ?_)
  ·
    refine TE.skip ?_
    refine TE.seq ?_
    refine TE.block ?_
    refine TE.seq ?_
    refine TE.region ?_
    refine OL.pure (Pure.move rfl) rfl ?_
    refine OL.pure (Pure.assign rfl) rfl ?_
    refine OL.nil ?_
    refine TE.seq ?_
    refine TE.region ?_
    refine OL.pure (Pure.move rfl) rfl ?_
    refine OL.pure (Pure.move rfl) rfl ?_
    refine OL.pure (Pure.indexStr (j := j) Tryd.runUnderlying9 rfl rfl (by omega) (by omega)) rfl ?_
    obtain ⟨c, hc⟩ : ∃ c, c = bt l j := ⟨_, rfl⟩
    have hcb := bt_bd l j
    rw [← hc] at hcb
    refine OL.cast (.int .u8 c) 16 rfl (by rw [hc]) ?_
    have hx0 := (pd_dig l j).at_ (j / 2)
    have hvb := hv_bd c
    rcases (show c < 48 ∨ (48 ≤ c ∧ c ≤ 57) ∨ (57 < c ∧ c < 97) ∨ (97 ≤ c ∧ c ≤ 102) ∨ 102 < c by omega) with h | h | h | h | h
    ·
      refine OL.pure (Pure.assign rfl) rfl ?_
      refine OL.nil ?_
      refine TE.seq ?_
      refine TE.block ?_
      refine TE.seq ?_
      refine TE.region ?_
      refine OL.pure (Pure.move rfl) rfl ?_
      refine OL.pure (Pure.geq rfl rfl) rfl ?_
      refine OL.cast (.bool false) 21 rfl (congrArg Value.bool (decide_eq_false (by omega))) ?_
      refine OL.pure (Pure.move rfl) rfl ?_
      refine OL.pass rfl rfl rfl rfl rfl ?_
      refine OL.pass rfl rfl rfl rfl rfl ?_
      refine OL.pure (Pure.pickF rfl rfl) rfl ?_
      refine OL.pure (Pure.assign rfl) rfl ?_
      refine OL.nil ?_
      refine TE.condF rfl rfl ?_
      refine TE.seq ?_
      refine TE.region ?_
      refine OL.pure (Pure.move rfl) rfl ?_
      refine OL.pure (Pure.geq rfl rfl) rfl ?_
      refine OL.cast (.bool false) 30 rfl (congrArg Value.bool (decide_eq_false (by omega))) ?_
      refine OL.pure (Pure.move rfl) rfl ?_
      refine OL.pass rfl rfl rfl rfl rfl ?_
      refine OL.pass rfl rfl rfl rfl rfl ?_
      refine OL.pure (Pure.pickF rfl rfl) rfl ?_
      refine OL.pure (Pure.assign rfl) rfl ?_
      refine OL.nil ?_
      refine TE.condF rfl rfl ?_
      refine TE.seq ?_
      refine TE.region ?_
      refine OL.pure (Pure.build (cs := iv .u8 zeros32) rfl (by kernel_rfl)) rfl ?_
      refine OL.pure (Pure.move rfl) rfl ?_
      refine OL.storeRow (vs := iv .u8 zeros32) rfl rfl (rfl) (by simp only [iv, List.mem_map]; rintro _ ⟨x, _, rfl⟩; rfl) hr (Nat.le_refl 32) ?_
      intro w4 hb4 hc4
      replace hd := hd.chg hc4 (by simp; omega)
      replace hC := hC.trans1 hc4 (by first | exact .inr (by omega) | exact .inl (by simp))
      replace hr := hb4
      replace hr := hr.all rfl
      obtain ⟨e1, e2, e3⟩ := eq3 hp (parse_bad (l := l) (j := j) (by omega) hok (by rw [← hc]; exact hv_bad (by omega) (by omega)))
      subst e1
      subst e2
      subst e3
      refine OL.pure (Pure.assign rfl) rfl ?_
      refine OL.pure (Pure.assign rfl) rfl ?_
      refine OL.nil ?_
      exact TE.ret (vs := [.agg (iv .u8 (zeros32)).toArray, .int .i64 ((j : Nat) : Int), .int .i64 6]) Tryd.results32 (⟨⟨_, rfl, loadRow_at Tryd.underlying25 rfl (by rw [iv_len]; exact congrArg some (List.length_replicate).symm) hr (List.take_of_length_le (by rw [List.drop_zero]; exact Nat.le_refl _))⟩, rfl, rfl, trivial⟩) ⟨rfl, hC⟩
    ·
      refine OL.pure (Pure.assign rfl) rfl ?_
      refine OL.nil ?_
      refine TE.seq ?_
      refine TE.block ?_
      refine TE.seq ?_
      refine TE.region ?_
      refine OL.pure (Pure.move rfl) rfl ?_
      refine OL.pure (Pure.geq rfl rfl) rfl ?_
      refine OL.cast (.bool true) 21 rfl (congrArg Value.bool (decide_eq_true (by omega))) ?_
      refine OL.pure (Pure.move rfl) rfl ?_
      refine OL.want rfl rfl rfl (Pure.move rfl _) rfl ?_
      refine OL.want rfl rfl rfl (Pure.leq rfl rfl _) rfl ?_
      refine OL.cast (.bool true) 24 rfl (congrArg Value.bool (decide_eq_true (by omega))) ?_
      refine OL.pure (Pure.pickT rfl rfl) rfl ?_
      refine OL.pure (Pure.assign rfl) rfl ?_
      refine OL.nil ?_
      refine TE.condT rfl rfl ?_
      refine TE.region ?_
      refine OL.pure (Pure.move rfl) rfl ?_
      refine OL.pure (Pure.sub rfl rfl (u8in (by omega) (by omega))) rfl ?_
      refine OL.cast (.int .u8 (hv c)) 27 rfl (congrArg _ (hv_dig h)) ?_
      have hv0 : 0 ≤ hv c := by rw [← hv_dig h]; omega
      refine OL.pure (Pure.assign rfl) rfl ?_
      refine OL.nil ?_
      refine TE.inBlock ?_
      refine TE.region ?_
      refine OL.pure (Pure.move rfl) rfl ?_
      refine OL.pure (Pure.quo rfl rfl (by omega) (by omega) (i64in (by omega) (by omega))) rfl ?_
      refine OL.pure (Pure.move rfl) rfl ?_
      refine OL.pure (Pure.quo rfl rfl (by omega) (by omega) (i64in (by omega) (by omega))) rfl ?_
      refine OL.pure (Pure.indexAddrA (r := (j / 2)) Tryd.runUnderlying25 Tryd.sizeOf5 rfl rfl (by omega) (by omega) (by omega)) rfl ?_
      refine OL.val (Run.load (i := (j / 2)) rfl Tryd.isAgg5 hd (by omega) (iv_get (by rw [pd_len]; omega))) rfl ?_
      refine OL.pure (Pure.shl (p := 16) rfl rfl (by decide) (by decide) (u8w _)) rfl ?_
      refine OL.pure (Pure.move rfl) rfl ?_
      refine OL.pure (Pure.bits rfl rfl rfl) rfl ?_
      refine OL.pure (Pure.indexAddrA (r := (j / 2)) Tryd.runUnderlying25 Tryd.sizeOf5 rfl rfl (by omega) (by omega) (by omega)) rfl ?_
      refine OL.cast (.int .u8 ((((pd l j).getD (j / 2) 0) * 16 + hv (bt l j)) % 256)) 45 rfl (by rw [← hc]; exact congrArg _ (or_digit hx0.1 hv0 hvb.2)) ?_
      refine OL.store (j := (j / 2)) rfl rfl Tryd.sizeOf5 rfl hd (by omega) (iv_get (by rw [pd_len]; omega)) ?_
      intro w5 hb5 hc5
      replace hr := hr.chg hc5 (by simp; omega)
      replace hC := hC.trans1 hc5 (by first | exact .inr (by omega) | exact .inl (by simp))
      replace hd := hb5
      rw [iv_set] at hd
      replace hd : Blk w5 gd 25 (iv .u8 (pd l (j + 1))) := hd
      refine OL.nil ?_
      refine TE.inBlock ?_
      refine TE.region ?_
      refine OL.pure (Pure.add rfl rfl (i64 (by omega) (by omega))) rfl ?_
      refine OL.pure (Pure.move rfl) rfl ?_
      refine OL.nil ?_
      exact TE.sub [0, 2, 5, 10, 11] rfl (ih3 (j + 1) _ ⟨by omega, hok.succ (by rw [← hc]; omega), hC, hr, hd⟩ (by omega))
    ·
      refine OL.pure (Pure.assign rfl) rfl ?_
      refine OL.nil ?_
      refine TE.seq ?_
      refine TE.block ?_
      refine TE.seq ?_
      refine TE.region ?_
      refine OL.pure (Pure.move rfl) rfl ?_
      refine OL.pure (Pure.geq rfl rfl) rfl ?_
      refine OL.cast (.bool true) 21 rfl (congrArg Value.bool (decide_eq_true (by omega))) ?_
      refine OL.pure (Pure.move rfl) rfl ?_
      refine OL.want rfl rfl rfl (Pure.move rfl _) rfl ?_
      refine OL.want rfl rfl rfl (Pure.leq rfl rfl _) rfl ?_
      refine OL.cast (.bool false) 24 rfl (congrArg Value.bool (decide_eq_false (by omega))) ?_
      refine OL.pure (Pure.pickT rfl rfl) rfl ?_
      refine OL.pure (Pure.assign rfl) rfl ?_
      refine OL.nil ?_
      refine TE.condF rfl rfl ?_
      refine TE.seq ?_
      refine TE.region ?_
      refine OL.pure (Pure.move rfl) rfl ?_
      refine OL.pure (Pure.geq rfl rfl) rfl ?_
      refine OL.cast (.bool false) 30 rfl (congrArg Value.bool (decide_eq_false (by omega))) ?_
      refine OL.pure (Pure.move rfl) rfl ?_
      refine OL.pass rfl rfl rfl rfl rfl ?_
      refine OL.pass rfl rfl rfl rfl rfl ?_
      refine OL.pure (Pure.pickF rfl rfl) rfl ?_
      refine OL.pure (Pure.assign rfl) rfl ?_
      refine OL.nil ?_
      refine TE.condF rfl rfl ?_
      refine TE.seq ?_
      refine TE.region ?_
      refine OL.pure (Pure.build (cs := iv .u8 zeros32) rfl (by kernel_rfl)) rfl ?_
      refine OL.pure (Pure.move rfl) rfl ?_
      refine OL.storeRow (vs := iv .u8 zeros32) rfl rfl (rfl) (by simp only [iv, List.mem_map]; rintro _ ⟨x, _, rfl⟩; rfl) hr (Nat.le_refl 32) ?_
      intro w6 hb6 hc6
      replace hd := hd.chg hc6 (by simp; omega)
      replace hC := hC.trans1 hc6 (by first | exact .inr (by omega) | exact .inl (by simp))
      replace hr := hb6
      replace hr := hr.all rfl
      obtain ⟨e1, e2, e3⟩ := eq3 hp (parse_bad (l := l) (j := j) (by omega) hok (by rw [← hc]; exact hv_bad (by omega) (by omega)))
      subst e1
      subst e2
      subst e3
      refine OL.pure (Pure.assign rfl) rfl ?_
      refine OL.pure (Pure.assign rfl) rfl ?_
      refine OL.nil ?_
      exact TE.ret (vs := [.agg (iv .u8 (zeros32)).toArray, .int .i64 ((j : Nat) : Int), .int .i64 6]) Tryd.results32 (⟨⟨_, rfl, loadRow_at Tryd.underlying25 rfl (by rw [iv_len]; exact congrArg some (List.length_replicate).symm) hr (List.take_of_length_le (by rw [List.drop_zero]; exact Nat.le_refl _))⟩, rfl, rfl, trivial⟩) ⟨rfl, hC⟩
    ·
      refine OL.pure (Pure.assign rfl) rfl ?_
      refine OL.nil ?_
      refine TE.seq ?_
      refine TE.block ?_
      refine TE.seq ?_
      refine TE.region ?_
      refine OL.pure (Pure.move rfl) rfl ?_
      refine OL.pure (Pure.geq rfl rfl) rfl ?_
      refine OL.cast (.bool true) 21 rfl (congrArg Value.bool (decide_eq_true (by omega))) ?_
      refine OL.pure (Pure.move rfl) rfl ?_
      refine OL.want rfl rfl rfl (Pure.move rfl _) rfl ?_
      refine OL.want rfl rfl rfl (Pure.leq rfl rfl _) rfl ?_
      refine OL.cast (.bool false) 24 rfl (congrArg Value.bool (decide_eq_false (by omega))) ?_
      refine OL.pure (Pure.pickT rfl rfl) rfl ?_
      refine OL.pure (Pure.assign rfl) rfl ?_
      refine OL.nil ?_
      refine TE.condF rfl rfl ?_
      refine TE.seq ?_
      refine TE.region ?_
      refine OL.pure (Pure.move rfl) rfl ?_
      refine OL.pure (Pure.geq rfl rfl) rfl ?_
      refine OL.cast (.bool true) 30 rfl (congrArg Value.bool (decide_eq_true (by omega))) ?_
      refine OL.pure (Pure.move rfl) rfl ?_
      refine OL.want rfl rfl rfl (Pure.move rfl _) rfl ?_
      refine OL.want rfl rfl rfl (Pure.leq rfl rfl _) rfl ?_
      refine OL.cast (.bool true) 33 rfl (congrArg Value.bool (decide_eq_true (by omega))) ?_
      refine OL.pure (Pure.pickT rfl rfl) rfl ?_
      refine OL.pure (Pure.assign rfl) rfl ?_
      refine OL.nil ?_
      refine TE.condT rfl rfl ?_
      refine TE.region ?_
      refine OL.pure (Pure.move rfl) rfl ?_
      refine OL.pure (Pure.sub rfl rfl (u8in (by omega) (by omega))) rfl ?_
      refine OL.cast (.int .u8 (hv c)) 36 rfl (congrArg _ (hv_let h)) ?_
      have hv0 : 0 ≤ hv c := by rw [← hv_let h]; omega
      refine OL.pure (Pure.assign rfl) rfl ?_
      refine OL.nil ?_
      refine TE.inBlock ?_
      refine TE.region ?_
      refine OL.pure (Pure.move rfl) rfl ?_
      refine OL.pure (Pure.quo rfl rfl (by omega) (by omega) (i64in (by omega) (by omega))) rfl ?_
      refine OL.pure (Pure.move rfl) rfl ?_
      refine OL.pure (Pure.quo rfl rfl (by omega) (by omega) (i64in (by omega) (by omega))) rfl ?_
      refine OL.pure (Pure.indexAddrA (r := (j / 2)) Tryd.runUnderlying25 Tryd.sizeOf5 rfl rfl (by omega) (by omega) (by omega)) rfl ?_
      refine OL.val (Run.load (i := (j / 2)) rfl Tryd.isAgg5 hd (by omega) (iv_get (by rw [pd_len]; omega))) rfl ?_
      refine OL.pure (Pure.shl (p := 16) rfl rfl (by decide) (by decide) (u8w _)) rfl ?_
      refine OL.pure (Pure.move rfl) rfl ?_
      refine OL.pure (Pure.bits rfl rfl rfl) rfl ?_
      refine OL.pure (Pure.indexAddrA (r := (j / 2)) Tryd.runUnderlying25 Tryd.sizeOf5 rfl rfl (by omega) (by omega) (by omega)) rfl ?_
      refine OL.cast (.int .u8 ((((pd l j).getD (j / 2) 0) * 16 + hv (bt l j)) % 256)) 45 rfl (by rw [← hc]; exact congrArg _ (or_digit hx0.1 hv0 hvb.2)) ?_
      refine OL.store (j := (j / 2)) rfl rfl Tryd.sizeOf5 rfl hd (by omega) (iv_get (by rw [pd_len]; omega)) ?_
      intro w7 hb7 hc7
      replace hr := hr.chg hc7 (by simp; omega)
      replace hC := hC.trans1 hc7 (by first | exact .inr (by omega) | exact .inl (by simp))
      replace hd := hb7
      rw [iv_set] at hd
      replace hd : Blk w7 gd 25 (iv .u8 (pd l (j + 1))) := hd
      refine OL.nil ?_
      refine TE.inBlock ?_
      refine TE.region ?_
      refine OL.pure (Pure.add rfl rfl (i64 (by omega) (by omega))) rfl ?_
      refine OL.pure (Pure.move rfl) rfl ?_
      refine OL.nil ?_
      exact TE.sub [0, 2, 5, 10, 11] rfl (ih3 (j + 1) _ ⟨by omega, hok.succ (by rw [← hc]; omega), hC, hr, hd⟩ (by omega))
    ·
      refine OL.pure (Pure.assign rfl) rfl ?_
      refine OL.nil ?_
      refine TE.seq ?_
      refine TE.block ?_
      refine TE.seq ?_
      refine TE.region ?_
      refine OL.pure (Pure.move rfl) rfl ?_
      refine OL.pure (Pure.geq rfl rfl) rfl ?_
      refine OL.cast (.bool true) 21 rfl (congrArg Value.bool (decide_eq_true (by omega))) ?_
      refine OL.pure (Pure.move rfl) rfl ?_
      refine OL.want rfl rfl rfl (Pure.move rfl _) rfl ?_
      refine OL.want rfl rfl rfl (Pure.leq rfl rfl _) rfl ?_
      refine OL.cast (.bool false) 24 rfl (congrArg Value.bool (decide_eq_false (by omega))) ?_
      refine OL.pure (Pure.pickT rfl rfl) rfl ?_
      refine OL.pure (Pure.assign rfl) rfl ?_
      refine OL.nil ?_
      refine TE.condF rfl rfl ?_
      refine TE.seq ?_
      refine TE.region ?_
      refine OL.pure (Pure.move rfl) rfl ?_
      refine OL.pure (Pure.geq rfl rfl) rfl ?_
      refine OL.cast (.bool true) 30 rfl (congrArg Value.bool (decide_eq_true (by omega))) ?_
      refine OL.pure (Pure.move rfl) rfl ?_
      refine OL.want rfl rfl rfl (Pure.move rfl _) rfl ?_
      refine OL.want rfl rfl rfl (Pure.leq rfl rfl _) rfl ?_
      refine OL.cast (.bool false) 33 rfl (congrArg Value.bool (decide_eq_false (by omega))) ?_
      refine OL.pure (Pure.pickT rfl rfl) rfl ?_
      refine OL.pure (Pure.assign rfl) rfl ?_
      refine OL.nil ?_
      refine TE.condF rfl rfl ?_
      refine TE.seq ?_
      refine TE.region ?_
      refine OL.pure (Pure.build (cs := iv .u8 zeros32) rfl (by kernel_rfl)) rfl ?_
      refine OL.pure (Pure.move rfl) rfl ?_
      refine OL.storeRow (vs := iv .u8 zeros32) rfl rfl (rfl) (by simp only [iv, List.mem_map]; rintro _ ⟨x, _, rfl⟩; rfl) hr (Nat.le_refl 32) ?_
      intro w8 hb8 hc8
      replace hd := hd.chg hc8 (by simp; omega)
      replace hC := hC.trans1 hc8 (by first | exact .inr (by omega) | exact .inl (by simp))
      replace hr := hb8
      replace hr := hr.all rfl
      obtain ⟨e1, e2, e3⟩ := eq3 hp (parse_bad (l := l) (j := j) (by omega) hok (by rw [← hc]; exact hv_bad (by omega) (by omega)))
      subst e1
      subst e2
      subst e3
      refine OL.pure (Pure.assign rfl) rfl ?_
      refine OL.pure (Pure.assign rfl) rfl ?_
      refine OL.nil ?_
      exact TE.ret (vs := [.agg (iv .u8 (zeros32)).toArray, .int .i64 ((j : Nat) : Int), .int .i64 6]) Tryd.results32 (⟨⟨_, rfl, loadRow_at Tryd.underlying25 rfl (by rw [iv_len]; exact congrArg some (List.length_replicate).symm) hr (List.take_of_length_le (by rw [List.drop_zero]; exact Nat.le_refl _))⟩, rfl, rfl, trivial⟩) ⟨rfl, hC⟩
  ·
    obtain rfl : j = n := by omega
    have hok2 : Ok l (min l.length 64) := by rw [← hn]; exact hok
    refine TE.exit rfl ?_
    refine TE.seq ?_
    refine TE.seq ?_
    refine TE.region ?_
    refine OL.pure (Pure.move rfl) rfl ?_
    refine OL.pure (Pure.lenStr Tryd.runUnderlying9 rfl) rfl ?_
    refine OL.pure (Pure.lss rfl rfl) rfl ?_
    refine OL.nil ?_
    refine TE.ite rfl (fun hs => ?_) (fun hs => ?_)
    ·
      refine TE.seq ?_
      refine TE.region ?_
      refine OL.pure (Pure.build (cs := iv .u8 zeros32) rfl (by kernel_rfl)) rfl ?_
      refine OL.pure (Pure.move rfl) rfl ?_
      refine OL.pure (Pure.lenStr Tryd.runUnderlying9 rfl) rfl ?_
      refine OL.storeRow (vs := iv .u8 zeros32) rfl rfl (rfl) (by simp only [iv, List.mem_map]; rintro _ ⟨x, _, rfl⟩; rfl) hr (Nat.le_refl 32) ?_
      intro w9 hb9 hc9
      replace hd := hd.chg hc9 (by simp; omega)
      replace hC := hC.trans1 hc9 (by first | exact .inr (by omega) | exact .inl (by simp))
      replace hr := hb9
      replace hr := hr.all rfl
      obtain ⟨e1, e2, e3⟩ := eq3 hp (parse_short hok2 (by omega))
      subst e1
      subst e2
      subst e3
      refine OL.pure (Pure.assign rfl) rfl ?_
      refine OL.pure (Pure.assign rfl) rfl ?_
      refine OL.nil ?_
      exact TE.ret (vs := [.agg (iv .u8 (zeros32)).toArray, .int .i64 ((l.length : Nat) : Int), .int .i64 4]) Tryd.results32 (⟨⟨_, rfl, loadRow_at Tryd.underlying25 rfl (by rw [iv_len]; exact congrArg some (List.length_replicate).symm) hr (List.take_of_length_le (by rw [List.drop_zero]; exact Nat.le_refl _))⟩, rfl, rfl, trivial⟩) ⟨rfl, hC⟩
    ·
      refine TE.skip ?_
      refine TE.seq ?_
      refine TE.seq ?_
      refine TE.region ?_
      refine OL.pure (Pure.move rfl) rfl ?_
      refine OL.pure (Pure.lenStr Tryd.runUnderlying9 rfl) rfl ?_
      refine OL.pure (Pure.gtr rfl rfl) rfl ?_
      refine OL.nil ?_
      refine TE.ite rfl (fun hg => ?_) (fun hg => ?_)
      ·
        refine TE.seq ?_
        refine TE.region ?_
        refine OL.pure (Pure.build (cs := iv .u8 zeros32) rfl (by kernel_rfl)) rfl ?_
        refine OL.storeRow (vs := iv .u8 zeros32) rfl rfl (rfl) (by simp only [iv, List.mem_map]; rintro _ ⟨x, _, rfl⟩; rfl) hr (Nat.le_refl 32) ?_
        intro w10 hb10 hc10
        replace hd := hd.chg hc10 (by simp; omega)
        replace hC := hC.trans1 hc10 (by first | exact .inr (by omega) | exact .inl (by simp))
        replace hr := hb10
        replace hr := hr.all rfl
        obtain ⟨e1, e2, e3⟩ := eq3 hp (parse_long hok2 (by omega))
        subst e1
        subst e2
        subst e3
        refine OL.pure (Pure.assign rfl) rfl ?_
        refine OL.pure (Pure.assign rfl) rfl ?_
        refine OL.nil ?_
        exact TE.ret (vs := [.agg (iv .u8 (zeros32)).toArray, .int .i64 ((64 : Nat) : Int), .int .i64 5]) Tryd.results32 (⟨⟨_, rfl, loadRow_at Tryd.underlying25 rfl (by rw [iv_len]; exact congrArg some (List.length_replicate).symm) hr (List.take_of_length_le (by rw [List.drop_zero]; exact Nat.le_refl _))⟩, rfl, rfl, trivial⟩) ⟨rfl, hC⟩
      ·
        obtain rfl : j = 64 := by omega
        have hpl := pd_len l 64
        refine TE.skip ?_
        refine TE.seq ?_
        refine TE.region ?_
        refine OL.val (Run.loadAll rfl Tryd.underlying25 rfl hd (by rw [iv_len, pd_len]; rfl)) rfl ?_
        refine OL.storeRow (vs := iv .u8 (pd l 64)) rfl rfl (by rw [iv_len, hpl]; rfl) (by simp only [iv, List.mem_map]; rintro _ ⟨x, _, rfl⟩; rfl) hr (by rw [iv_len, hpl]; exact Nat.le_refl 32) ?_
        intro w11 hb11 hc11
        replace hd := hd.chg hc11 (by simp; omega)
        replace hC := hC.trans1 hc11 (by first | exact .inr (by omega) | exact .inl (by simp))
        replace hr := hb11
        replace hr := hr.all (by rw [iv_len, iv_len, hpl]; rfl)
        obtain ⟨e1, e2, e3⟩ := eq3 hp (parse_ok hok (by omega))
        subst e1
        subst e2
        subst e3
        refine OL.pure (Pure.assign rfl) rfl ?_
        refine OL.pure (Pure.assign rfl) rfl ?_
        refine OL.nil ?_
        exact TE.ret (vs := [.agg (iv .u8 (pd l 64)).toArray, .int .i64 ((0 : Nat) : Int), .int .i64 0]) Tryd.results32 (⟨⟨_, rfl, loadRow_at Tryd.underlying25 rfl (by rw [iv_len]; exact congrArg some (pd_len l 64).symm) hr (List.take_of_length_le (by rw [List.drop_zero]; exact Nat.le_refl _))⟩, rfl, rfl, trivial⟩) ⟨rfl, hC⟩

theorem rparse_any (l : List UInt8) (hl : l.length ≤ 4294967296) (d : List Int) (a : Nat) (e : Int) (hp : parse l = (d, a, e)) (w : World) : Calls Tryd.prog 33 #[.string (str l)] w (RetC (.tuple #[.agg (iv .u8 d).toArray, .int .i64 (a : Int), .int .i64 e]) w) := by
  refine calls_of_TE (vs := [.string (str l)]) Tryd.func33 Tryd.ntmps33 rfl (by simp) ?_
  have hC : Chg [] w w := Chg.refl _ _
  refine TE.seq ?_
  refine TE.region ?_
  refine OL.alloc Tryd.zeroValue24 rfl ?_
  intro gr w1 hr hc1 hg_gr
  have ge_gr : w.heap.size ≤ gr := by have := hC.size; omega
  replace hC := hC.then_ hc1
  have hr : Blk w1 gr 24 (iv .u8 zeros32) := hr
  refine OL.pure (Pure.assign rfl) rfl ?_
  refine OL.pure (Pure.assign rfl) rfl ?_
  refine OL.nil ?_
  refine TE.seq ?_
  refine TE.region ?_
  refine OL.alloc Tryd.zeroValue24 rfl ?_
  intro gd w2 hd hc2 hg_gd
  have lt_gr_gd : gr < gd := by have := hr.lt; omega
  have ge_gd : w.heap.size ≤ gd := by have := hC.size; omega
  replace hr := hr.chg0 hc2
  replace hC := hC.then_ hc2
  have hd : Blk w2 gd 24 (iv .u8 (pd l 0)) := hd
  obtain ⟨n, hn⟩ : ∃ n, n = min l.length 64 := ⟨_, rfl⟩
  refine OL.nil ?_
  refine TE.seq ?_
  refine TE.seq ?_
  refine TE.region ?_
  refine OL.pure (Pure.assign rfl) rfl ?_
  refine OL.nil ?_
  refine TE.block ?_
  refine TE.loopInv (σ := Nat) [0, 2, 5, 6] (fun s_ w_ => s_ ≤ n ∧ Ok l s_ ∧ Chg [] w w_ ∧ Blk w_ gr 24 (iv .u8 zeros32) ∧ Blk w_ gd 24 (iv .u8 (pd l s_))) (fun s_ => [(0, .string (str l)), (2, .pointer (some ⟨gr, 0, none⟩)), (5, .pointer (some ⟨gd, 0, none⟩)), (6, .int .i64 (↑s_))]) (fun s_ => n - s_) 0 ⟨by omega, Ok.zero l, hC, hr, hd⟩ rfl ?_
  rintro j w3 ⟨hj, hok, hC, hr, hd⟩ ih3
  by_cases hjl : j < l.length
  ·
    refine TE.seq ?_
    refine TE.seq ?_
    refine TE.region ?_
    refine OL.pure (Pure.move rfl) rfl ?_
    refine OL.pure (Pure.move rfl) rfl ?_
    refine OL.pure (Pure.lenStr Tryd.runUnderlying9 rfl) rfl ?_
    refine OL.pure (Pure.lss rfl rfl) rfl ?_
    refine OL.cast (.bool true) 11 rfl (congrArg Value.bool (decide_eq_true (by omega))) ?_
    refine OL.pure (Pure.move rfl) rfl ?_
    refine OL.want rfl rfl rfl (Pure.move rfl _) rfl ?_
    refine OL.want rfl rfl rfl (Pure.lss rfl rfl _) rfl ?_
    refine OL.pure (Pure.pickT rfl rfl) rfl ?_
    refine OL.nil ?_
    refine TE.ite rfl (fun h64 => ?_) (fun h64 => ?_)
    ·
      refine TE.skip ?_
      refine TE.seq ?_
      refine TE.block ?_
      refine TE.seq ?_
      refine TE.region ?_
      refine OL.pure (Pure.move rfl) rfl ?_
      refine OL.pure (Pure.move rfl) rfl ?_
      refine OL.pure (Pure.indexStr (j := j) Tryd.runUnderlying9 rfl rfl (by omega) (by omega)) rfl ?_
      refine OL.call rfl Tryd.call41 rfl (digit_any (l.getD j 0) _) ?_
      rintro _ _ ⟨rfl, rfl⟩
      refine ⟨_, rfl, ?_⟩
      refine OL.cast (.int .i64 (hv (bt l j))) 21 rfl (rfl) ?_
      refine OL.pure (Pure.assign rfl) rfl ?_
      refine OL.nil ?_
      refine TE.seq ?_
      refine TE.seq ?_
      refine TE.region ?_
      refine OL.pure (Pure.move rfl) rfl ?_
      refine OL.pure (Pure.lss rfl rfl) rfl ?_
      refine OL.nil ?_
      refine TE.ite rfl (fun hneg => ?_) (fun hneg => ?_)
      ·
        refine TE.seq ?_
        refine TE.region ?_
        refine OL.pure (Pure.build (cs := iv .u8 zeros32) rfl (by kernel_rfl)) rfl ?_
        refine OL.pure (Pure.move rfl) rfl ?_
        refine OL.storeRow (vs := iv .u8 zeros32) rfl rfl (rfl) (by simp only [iv, List.mem_map]; rintro _ ⟨x, _, rfl⟩; rfl) hr (Nat.le_refl 32) ?_
        intro w4 hb4 hc4
        replace hd := hd.chg hc4 (by simp; omega)
        replace hC := hC.trans1 hc4 (by first | exact .inr (by omega) | exact .inl (by simp))
        replace hr := hb4
        replace hr := hr.all rfl
        obtain ⟨e1, e2, e3⟩ := eq3 hp (parse_bad (l := l) (j := j) (by omega) hok hneg)
        subst e1
        subst e2
        subst e3
        refine OL.pure (Pure.assign rfl) rfl ?_
        refine OL.pure (Pure.assign rfl) rfl ?_
        refine OL.nil ?_
        exact TE.ret (vs := [.agg (iv .u8 (zeros32)).toArray, .int .i64 ((j : Nat) : Int), .int .i64 6]) Tryd.results33 (⟨⟨_, rfl, loadRow_at Tryd.underlying24 rfl (by rw [iv_len]; exact congrArg some (List.length_replicate).symm) hr (List.take_of_length_le (by rw [List.drop_zero]; exact Nat.le_refl _))⟩, rfl, rfl, trivial⟩) ⟨rfl, hC⟩
      ·
        refine TE.skip ?_
        refine TE.region ?_
        refine OL.pure (Pure.move rfl) rfl ?_
        refine OL.pure (Pure.quo rfl rfl (by omega) (by omega) (i64in (by omega) (by omega))) rfl ?_
        refine OL.pure (Pure.move rfl) rfl ?_
        refine OL.pure (Pure.quo rfl rfl (by omega) (by omega) (i64in (by omega) (by omega))) rfl ?_
        refine OL.pure (Pure.indexAddrA (r := (j / 2)) Tryd.runUnderlying24 Tryd.sizeOf5 rfl rfl (by omega) (by omega) (by omega)) rfl ?_
        refine OL.val (Run.load (i := (j / 2)) rfl Tryd.isAgg5 hd (by omega) (iv_get (by rw [pd_len]; omega))) rfl ?_
        refine OL.pure (Pure.mul rfl rfl (u8w _)) rfl ?_
        refine OL.pure (Pure.move rfl) rfl ?_
        refine OL.pure (Pure.conv Tryd.runUnderlying3 Tryd.runUnderlying5 rfl (u8w _)) rfl ?_
        refine OL.pure (Pure.add rfl rfl (u8w _)) rfl ?_
        refine OL.pure (Pure.indexAddrA (r := (j / 2)) Tryd.runUnderlying24 Tryd.sizeOf5 rfl rfl (by omega) (by omega) (by omega)) rfl ?_
        refine OL.cast (.int .u8 ((((pd l j).getD (j / 2) 0) * 16 + hv (bt l j)) % 256)) 35 rfl (congrArg (Value.int .u8) (by omega)) ?_
        refine OL.store (j := (j / 2)) rfl rfl Tryd.sizeOf5 rfl hd (by omega) (iv_get (by rw [pd_len]; omega)) ?_
        intro w5 hb5 hc5
        replace hr := hr.chg hc5 (by simp; omega)
        replace hC := hC.trans1 hc5 (by first | exact .inr (by omega) | exact .inl (by simp))
        replace hd := hb5
        rw [iv_set] at hd
        replace hd : Blk w5 gd 24 (iv .u8 (pd l (j + 1))) := hd
        refine OL.nil ?_
        refine TE.inBlock ?_
        refine TE.region ?_
        refine OL.pure (Pure.move rfl) rfl ?_
        refine OL.pure (Pure.add rfl rfl (i64 (by omega) (by omega))) rfl ?_
        refine OL.pure (Pure.assign rfl) rfl ?_
        refine OL.nil ?_
        exact TE.sub [0, 2, 5, 6] rfl (ih3 (j + 1) _ ⟨by omega, hok.succ (by omega), hC, hr, hd⟩ (by omega))
    ·
      obtain rfl : j = n := by omega
      have hok2 : Ok l (min l.length 64) := by rw [← hn]; exact hok
      refine TE.exit rfl ?_
      refine TE.seq ?_
      refine TE.seq ?_
      refine TE.region ?_
      refine OL.pure (Pure.move rfl) rfl ?_
      refine OL.pure (Pure.lenStr Tryd.runUnderlying9 rfl) rfl ?_
      refine OL.pure (Pure.lss rfl rfl) rfl ?_
      refine OL.nil ?_
      refine TE.ite rfl (fun hs => ?_) (fun hs => ?_)
      ·
        refine TE.seq ?_
        refine TE.region ?_
        refine OL.pure (Pure.build (cs := iv .u8 zeros32) rfl (by kernel_rfl)) rfl ?_
        refine OL.pure (Pure.move rfl) rfl ?_
        refine OL.pure (Pure.lenStr Tryd.runUnderlying9 rfl) rfl ?_
        refine OL.storeRow (vs := iv .u8 zeros32) rfl rfl (rfl) (by simp only [iv, List.mem_map]; rintro _ ⟨x, _, rfl⟩; rfl) hr (Nat.le_refl 32) ?_
        intro w6 hb6 hc6
        replace hd := hd.chg hc6 (by simp; omega)
        replace hC := hC.trans1 hc6 (by first | exact .inr (by omega) | exact .inl (by simp))
        replace hr := hb6
        replace hr := hr.all rfl
        obtain ⟨e1, e2, e3⟩ := eq3 hp (parse_short hok2 (by omega))
        subst e1
        subst e2
        subst e3
        refine OL.pure (Pure.assign rfl) rfl ?_
        refine OL.pure (Pure.assign rfl) rfl ?_
        refine OL.nil ?_
        exact TE.ret (vs := [.agg (iv .u8 (zeros32)).toArray, .int .i64 ((l.length : Nat) : Int), .int .i64 4]) Tryd.results33 (⟨⟨_, rfl, loadRow_at Tryd.underlying24 rfl (by rw [iv_len]; exact congrArg some (List.length_replicate).symm) hr (List.take_of_length_le (by rw [List.drop_zero]; exact Nat.le_refl _))⟩, rfl, rfl, trivial⟩) ⟨rfl, hC⟩
      ·
        refine TE.skip ?_
        refine TE.seq ?_
        refine TE.seq ?_
        refine TE.region ?_
        refine OL.pure (Pure.move rfl) rfl ?_
        refine OL.pure (Pure.lenStr Tryd.runUnderlying9 rfl) rfl ?_
        refine OL.pure (Pure.gtr rfl rfl) rfl ?_
        refine OL.nil ?_
        refine TE.ite rfl (fun hg => ?_) (fun hg => ?_)
        ·
          refine TE.seq ?_
          refine TE.region ?_
          refine OL.pure (Pure.build (cs := iv .u8 zeros32) rfl (by kernel_rfl)) rfl ?_
          refine OL.storeRow (vs := iv .u8 zeros32) rfl rfl (rfl) (by simp only [iv, List.mem_map]; rintro _ ⟨x, _, rfl⟩; rfl) hr (Nat.le_refl 32) ?_
          intro w7 hb7 hc7
          replace hd := hd.chg hc7 (by simp; omega)
          replace hC := hC.trans1 hc7 (by first | exact .inr (by omega) | exact .inl (by simp))
          replace hr := hb7
          replace hr := hr.all rfl
          obtain ⟨e1, e2, e3⟩ := eq3 hp (parse_long hok2 (by omega))
          subst e1
          subst e2
          subst e3
          refine OL.pure (Pure.assign rfl) rfl ?_
          refine OL.pure (Pure.assign rfl) rfl ?_
          refine OL.nil ?_
          exact TE.ret (vs := [.agg (iv .u8 (zeros32)).toArray, .int .i64 ((64 : Nat) : Int), .int .i64 5]) Tryd.results33 (⟨⟨_, rfl, loadRow_at Tryd.underlying24 rfl (by rw [iv_len]; exact congrArg some (List.length_replicate).symm) hr (List.take_of_length_le (by rw [List.drop_zero]; exact Nat.le_refl _))⟩, rfl, rfl, trivial⟩) ⟨rfl, hC⟩
        ·
          obtain rfl : j = 64 := by omega
          have hpl := pd_len l 64
          refine TE.skip ?_
          refine TE.seq ?_
          refine TE.region ?_
          refine OL.val (Run.loadAll rfl Tryd.underlying24 rfl hd (by rw [iv_len, pd_len]; rfl)) rfl ?_
          refine OL.storeRow (vs := iv .u8 (pd l 64)) rfl rfl (by rw [iv_len, hpl]; rfl) (by simp only [iv, List.mem_map]; rintro _ ⟨x, _, rfl⟩; rfl) hr (by rw [iv_len, hpl]; exact Nat.le_refl 32) ?_
          intro w8 hb8 hc8
          replace hd := hd.chg hc8 (by simp; omega)
          replace hC := hC.trans1 hc8 (by first | exact .inr (by omega) | exact .inl (by simp))
          replace hr := hb8
          replace hr := hr.all (by rw [iv_len, iv_len, hpl]; rfl)
          obtain ⟨e1, e2, e3⟩ := eq3 hp (parse_ok hok (by omega))
          subst e1
          subst e2
          subst e3
          refine OL.pure (Pure.assign rfl) rfl ?_
          refine OL.pure (Pure.assign rfl) rfl ?_
          refine OL.nil ?_
          exact TE.ret (vs := [.agg (iv .u8 (pd l 64)).toArray, .int .i64 ((0 : Nat) : Int), .int .i64 0]) Tryd.results33 (⟨⟨_, rfl, loadRow_at Tryd.underlying24 rfl (by rw [iv_len]; exact congrArg some (pd_len l 64).symm) hr (List.take_of_length_le (by rw [List.drop_zero]; exact Nat.le_refl _))⟩, rfl, rfl, trivial⟩) ⟨rfl, hC⟩
  ·
    obtain rfl : j = n := by omega
    have hok2 : Ok l (min l.length 64) := by rw [← hn]; exact hok
    refine TE.seq ?_
    refine TE.seq ?_
    refine TE.region ?_
    refine OL.pure (Pure.move rfl) rfl ?_
    refine OL.pure (Pure.move rfl) rfl ?_
    refine OL.pure (Pure.lenStr Tryd.runUnderlying9 rfl) rfl ?_
    refine OL.pure (Pure.lss rfl rfl) rfl ?_
    refine OL.cast (.bool false) 11 rfl (congrArg Value.bool (decide_eq_false (by omega))) ?_
    refine OL.pure (Pure.move rfl) rfl ?_
    refine OL.pass rfl rfl rfl rfl rfl ?_
    refine OL.pass rfl rfl rfl rfl rfl ?_
    refine OL.pure (Pure.pickF rfl rfl) rfl ?_
    refine OL.nil ?_
    refine TE.condF rfl rfl ?_
    refine TE.exit rfl ?_
    refine TE.seq ?_
    refine TE.seq ?_
    refine TE.region ?_
    refine OL.pure (Pure.move rfl) rfl ?_
    refine OL.pure (Pure.lenStr Tryd.runUnderlying9 rfl) rfl ?_
    refine OL.pure (Pure.lss rfl rfl) rfl ?_
    refine OL.nil ?_
    refine TE.ite rfl (fun hs => ?_) (fun hs => ?_)
    ·
      refine TE.seq ?_
      refine TE.region ?_
      refine OL.pure (Pure.build (cs := iv .u8 zeros32) rfl (by kernel_rfl)) rfl ?_
      refine OL.pure (Pure.move rfl) rfl ?_
      refine OL.pure (Pure.lenStr Tryd.runUnderlying9 rfl) rfl ?_
      refine OL.storeRow (vs := iv .u8 zeros32) rfl rfl (rfl) (by simp only [iv, List.mem_map]; rintro _ ⟨x, _, rfl⟩; rfl) hr (Nat.le_refl 32) ?_
      intro w9 hb9 hc9
      replace hd := hd.chg hc9 (by simp; omega)
      replace hC := hC.trans1 hc9 (by first | exact .inr (by omega) | exact .inl (by simp))
      replace hr := hb9
      replace hr := hr.all rfl
      obtain ⟨e1, e2, e3⟩ := eq3 hp (parse_short hok2 (by omega))
      subst e1
      subst e2
      subst e3
      refine OL.pure (Pure.assign rfl) rfl ?_
      refine OL.pure (Pure.assign rfl) rfl ?_
      refine OL.nil ?_
      exact TE.ret (vs := [.agg (iv .u8 (zeros32)).toArray, .int .i64 ((l.length : Nat) : Int), .int .i64 4]) Tryd.results33 (⟨⟨_, rfl, loadRow_at Tryd.underlying24 rfl (by rw [iv_len]; exact congrArg some (List.length_replicate).symm) hr (List.take_of_length_le (by rw [List.drop_zero]; exact Nat.le_refl _))⟩, rfl, rfl, trivial⟩) ⟨rfl, hC⟩
    ·
      refine TE.skip ?_
      refine TE.seq ?_
      refine TE.seq ?_
      refine TE.region ?_
      refine OL.pure (Pure.move rfl) rfl ?_
      refine OL.pure (Pure.lenStr Tryd.runUnderlying9 rfl) rfl ?_
      refine OL.pure (Pure.gtr rfl rfl) rfl ?_
      refine OL.nil ?_
      refine TE.ite rfl (fun hg => ?_) (fun hg => ?_)
      ·
        refine TE.seq ?_
        refine TE.region ?_
        refine OL.pure (Pure.build (cs := iv .u8 zeros32) rfl (by kernel_rfl)) rfl ?_
        refine OL.storeRow (vs := iv .u8 zeros32) rfl rfl (rfl) (by simp only [iv, List.mem_map]; rintro _ ⟨x, _, rfl⟩; rfl) hr (Nat.le_refl 32) ?_
        intro w10 hb10 hc10
        replace hd := hd.chg hc10 (by simp; omega)
        replace hC := hC.trans1 hc10 (by first | exact .inr (by omega) | exact .inl (by simp))
        replace hr := hb10
        replace hr := hr.all rfl
        obtain ⟨e1, e2, e3⟩ := eq3 hp (parse_long hok2 (by omega))
        subst e1
        subst e2
        subst e3
        refine OL.pure (Pure.assign rfl) rfl ?_
        refine OL.pure (Pure.assign rfl) rfl ?_
        refine OL.nil ?_
        exact TE.ret (vs := [.agg (iv .u8 (zeros32)).toArray, .int .i64 ((64 : Nat) : Int), .int .i64 5]) Tryd.results33 (⟨⟨_, rfl, loadRow_at Tryd.underlying24 rfl (by rw [iv_len]; exact congrArg some (List.length_replicate).symm) hr (List.take_of_length_le (by rw [List.drop_zero]; exact Nat.le_refl _))⟩, rfl, rfl, trivial⟩) ⟨rfl, hC⟩
      ·
        obtain rfl : j = 64 := by omega
        have hpl := pd_len l 64
        refine TE.skip ?_
        refine TE.seq ?_
        refine TE.region ?_
        refine OL.val (Run.loadAll rfl Tryd.underlying24 rfl hd (by rw [iv_len, pd_len]; rfl)) rfl ?_
        refine OL.storeRow (vs := iv .u8 (pd l 64)) rfl rfl (by rw [iv_len, hpl]; rfl) (by simp only [iv, List.mem_map]; rintro _ ⟨x, _, rfl⟩; rfl) hr (by rw [iv_len, hpl]; exact Nat.le_refl 32) ?_
        intro w11 hb11 hc11
        replace hd := hd.chg hc11 (by simp; omega)
        replace hC := hC.trans1 hc11 (by first | exact .inr (by omega) | exact .inl (by simp))
        replace hr := hb11
        replace hr := hr.all (by rw [iv_len, iv_len, hpl]; rfl)
        obtain ⟨e1, e2, e3⟩ := eq3 hp (parse_ok hok (by omega))
        subst e1
        subst e2
        subst e3
        refine OL.pure (Pure.assign rfl) rfl ?_
        refine OL.pure (Pure.assign rfl) rfl ?_
        refine OL.nil ?_
        exact TE.ret (vs := [.agg (iv .u8 (pd l 64)).toArray, .int .i64 ((0 : Nat) : Int), .int .i64 0]) Tryd.results33 (⟨⟨_, rfl, loadRow_at Tryd.underlying24 rfl (by rw [iv_len]; exact congrArg some (pd_len l 64).symm) hr (List.take_of_length_le (by rw [List.drop_zero]; exact Nat.le_refl _))⟩, rfl, rfl, trivial⟩) ⟨rfl, hC⟩

theorem text_any (d : List Int) (hd : Dig d) (w : World) : Calls Tryd.prog 34 #[.agg (iv .u8 d).toArray] w (RetC (.string (str (hexOf d))) w) := by
  refine calls_of_TE (vs := [.agg (iv .u8 d).toArray]) Tryd.func34 Tryd.ntmps34 rfl (by simp) ?_
  have hC : Chg [] w w := Chg.refl _ _
  have hdl := hd.1
  refine TE.seq ?_
  refine TE.region ?_
  refine OL.box rfl rfl ?_
  intro g1 w1 h1 hc1 hg_g1
  have ge_g1 : w.heap.size ≤ g1 := by have := hC.size; omega
  replace hC := hC.then_ hc1
  have h1 : Blk w1 g1 24 (iv .u8 d) := h1
  refine OL.pure (Pure.assign rfl) rfl ?_
  refine OL.nil ?_
  refine TE.seq ?_
  refine TE.region ?_
  refine OL.pure (Pure.assign rfl) rfl ?_
  refine OL.nil ?_
  refine TE.seq ?_
  refine TE.seq ?_
  refine TE.region ?_
  refine OL.pure (Pure.assign rfl) rfl ?_
  refine OL.nil ?_
  refine TE.block ?_
  refine TE.loopInv (σ := Nat × Value) [1, 3, 4] (fun s_ w_ => match s_ with | (t, v) => t ≤ 32 ∧ Row w_ 5 1 v (2 * t) (bv (hexOf (d.take t))) ∧ Mine w.heap.size v ∧ Chg [] w w_ ∧ Blk w_ g1 24 (iv .u8 d)) (fun s_ => [(1, .pointer (some ⟨g1, 0, none⟩)), (3, s_.2), (4, .int .i64 (↑s_.1))]) (fun s_ => 32 - s_.1) (0, .slice none 0 0) ⟨by omega, Row.nil _ _ _, Mine.nil _, hC, h1⟩ rfl ?_
  rintro ⟨t, v⟩ w2 ⟨ht, hv, hm_v, hC, h1⟩ ih2
  try dsimp only
  have hdt := hd.at_ t
  refine TE.seq ?_
  refine TE.seq ?_
  refine TE.region ?_
  refine OL.pure (Pure.move rfl) rfl ?_
  refine OL.pure (Pure.lss rfl rfl) rfl ?_
  refine OL.nil ?_
  refine TE.ite rfl (fun hlt => ?_) (fun hlt => ?_)
  ·
    refine TE.skip ?_
    refine TE.seq ?_
    refine TE.block ?_
    refine TE.planAll [(0, true), (1, true), (2, true), (3, true), (4, true), (5, true), (6, true), (7, true), (8, true), (9, true), (10, true), (11, false), (12, false), (13, true)] (fun w_ => Blk w_ g1 24 (iv .u8 d)) rfl (by kernel_rfl) ?_
    have hS3 : Chg [] w2 w2.drew := Chg.drew _ _
    replace h1 := h1.chg0 hS3
    replace hv := hv.chg0 hS3
    replace hC := hC.then_ hS3
    refine PL.takeP rfl (Pure.move rfl) rfl h1 ?_
    refine PL.takeP rfl (Pure.move rfl) rfl h1 ?_
    refine PL.takeP rfl (Pure.indexAddrA (r := t) Tryd.runUnderlying24 Tryd.sizeOf5 rfl rfl (by omega) (by omega) (by omega)) rfl h1 ?_
    refine PL.take rfl (fun w_ h_ => Run.load (i := t) rfl Tryd.isAgg5 h_ (by omega) (iv_get (by omega))) rfl h1 ?_
    refine PL.takeP rfl (Pure.quo rfl rfl (by omega) (by omega) (u8in (by omega) (by omega))) rfl h1 ?_
    refine PL.takeP rfl (Pure.indexStr (l := hex) (j := (d.getD t 0 / 16).toNat) Tryd.runUnderlying9 rfl rfl (by omega) (by show _ < 16; omega)) rfl h1 ?_
    refine PL.takeP rfl (Pure.move rfl) rfl h1 ?_
    refine PL.takeP rfl (Pure.indexAddrA (r := t) Tryd.runUnderlying24 Tryd.sizeOf5 rfl rfl (by omega) (by omega) (by omega)) rfl h1 ?_
    refine PL.take rfl (fun w_ h_ => Run.load (i := t) rfl Tryd.isAgg5 h_ (by omega) (iv_get (by omega))) rfl h1 ?_
    refine PL.takeP rfl (Pure.rem rfl rfl (by omega) (by omega)) rfl h1 ?_
    refine PL.takeP rfl (Pure.indexStr (l := hex) (j := (d.getD t 0 % 16).toNat) Tryd.runUnderlying9 rfl rfl (by omega) (by show _ < 16; omega)) rfl h1 ?_
    refine PL.buildSliceC (cs := bv (hex2 (d.getD t 0))) rfl rfl Tryd.runUnderlying29 Tryd.sizeOf5 Tryd.zeroValue5 (by decide) (by decide) (by kernel_rfl) rfl (fun w_ h_ => h1.chg0 h_) ?_
    intro q w4 hq hc4 hg_q
    have lt_g1_q : g1 < q := by have := h1.lt; omega
    have ge_q : w.heap.size ≤ q := by have := hC.size; omega
    replace h1 := h1.chg0 hc4
    replace hv := hv.chg0 hc4
    replace hC := hC.then_ hc4
    refine PL.appendC (size := 1) (news := bv (hex2 (d.getD t 0))) (v := v) rfl rfl rfl Tryd.underlying29 (.inl Tryd.underlying29) info5 rfl rfl rfl (by decide) rfl hv ((Src.of_blk hq rfl rfl)) (by intro u hu; simp only [bv, List.mem_map] at hu; obtain ⟨b, _, rfl⟩ := hu; rfl) (by show _ * 1 ≤ _; omega) (fun w_ h_ => h1.chg h_ (hv.notin h1 (by decide))) ?_
    intro v2 w5 hv2 hc5 ho_v2
    have hm_v2 : Mine w.heap.size v2 := Mine.step hm_v (by have := hC.size; omega) ho_v2
    replace h1 := h1.chg hc5 (hv.notin h1 (by decide))
    replace hC := hC.own hc5 hm_v
    replace hv2 : Row w5 5 1 v2 (2 * (t + 1)) (bv (hexOf (d.take (t + 1)))) := by rw [hexOf_succ (by omega), ← bv_append]; exact hv2
    refine PL.takeP rfl (Pure.assign rfl) rfl h1 ?_
    refine PL.nil ?_
    refine TE.inBlock ?_
    refine TE.region ?_
    refine OL.pure (Pure.move rfl) rfl ?_
    refine OL.pure (Pure.add rfl rfl (i64 (by omega) (by omega))) rfl ?_
    refine OL.pure (Pure.assign rfl) rfl ?_
    refine OL.nil ?_
    exact TE.sub [1, 3, 4] rfl (ih2 (t + 1, v2) _ ⟨by omega, hv2, hm_v2, hC, h1⟩ (by simp only []; omega))
  ·
    obtain rfl : t = 32 := by omega
    rw [List.take_of_length_le (by omega)] at hv
    refine TE.exit rfl ?_
    refine TE.seq ?_
    refine TE.region ?_
    refine OL.pure (Pure.move rfl) rfl ?_
    refine OL.val (Run.rowStr Tryd.underlying29 Tryd.underlying5 Tryd.underlying9 rfl hv) rfl ?_
    refine OL.pure (Pure.assign rfl) rfl ?_
    refine OL.nil ?_
    exact TE.ret (vs := [.string (str (hexOf d))]) Tryd.results34 (⟨rfl, trivial⟩) ⟨rfl, hC⟩

theorem iszero_any (d : List Int) (hd : Dig d) (w : World) : Calls Tryd.prog 35 #[.agg (iv .u8 d).toArray] w (RetC (.bool (decide (d = zeros32))) w) := by
  refine calls_of_TE (vs := [.agg (iv .u8 d).toArray]) Tryd.func35 Tryd.ntmps35 rfl (by simp) ?_
  have hC : Chg [] w w := Chg.refl _ _
  have hdl := hd.1
  refine TE.seq ?_
  refine TE.region ?_
  refine OL.box rfl rfl ?_
  intro g1 w1 h1 hc1 hg_g1
  have ge_g1 : w.heap.size ≤ g1 := by have := hC.size; omega
  replace hC := hC.then_ hc1
  have h1 : Blk w1 g1 25 (iv .u8 d) := h1
  refine OL.pure (Pure.assign rfl) rfl ?_
  refine OL.nil ?_
  refine TE.seq ?_
  refine TE.region ?_
  refine OL.val (Run.loadAll rfl Tryd.underlying25 rfl h1 (by rw [iv_len, hdl]; rfl)) rfl ?_
  refine OL.pure (Pure.build (cs := iv .u8 zeros32) rfl (by kernel_rfl)) rfl ?_
  refine OL.pure (Pure.eqlArr (xs := d) (ys := zeros32) Tryd.underlying25 Tryd.underlying5 info5 (by kernel_rfl) Tryd.eqGuardType25 rfl rfl (hdl) (rfl)) rfl ?_
  refine OL.pure (Pure.assign rfl) rfl ?_
  refine OL.nil ?_
  exact TE.ret (vs := [.bool (decide (d = zeros32))]) Tryd.results35 (⟨rfl, trivial⟩) ⟨rfl, hC⟩

end Go.Proofs.YteghfhakdpcbaaaDoor
