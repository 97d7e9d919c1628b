/- The law of sizes, walked -/
import Derived.Test.YtigjmemoaapmgaaDoorProg
import Derived.Test.YtigjmemoaapmgaaDoorEng6
import Derived.Test.YtigjmemoaapmgaaDoorFrameSpec2
import Derived.Test.YtigjmemoaapmgaaDoorFrm1
import Derived.Test.YtigjmemoaapmgaaDoorFrm2
import Derived.Test.YtigjmemoaapmgaaDoorFrm3
import Derived.Test.YtigjmemoaapmgaaDoorFrm4
import Derived.Test.YtigjmemoaapmgaaDoorFrm5
import Derived.Test.YtigjmemoaapmgaaDoorFrm6
import Derived.Test.YtigjmemoaapmgaaDoorEng7
set_option linter.unusedVariables false
set_option maxRecDepth 4000
namespace Go.Proofs.YtigjmemoaapmgaaDoor
open Go.V Go.Sha Go.Frm
set_option maxHeartbeats 1000000 in
theorem sizes_law_any {tK tF : TypeId} (n1 : Nat) (hn1 : n1 ≤ 255) (c : UInt8) (n : Int) (w : World) (hK : Blk w 1 tK (iv .u32 K)) (hF : Blk w 0 tF (iv .i64 fldL)) : Calls Tryd.prog 8 #[.int .u8 (n1 : Int), .int .u8 ((c.toNat : Nat) : Int), .int .i64 n] w (RetC (.bool true) w) := by
  refine calls_of_TE (vs := [.int .u8 (n1 : Int), .int .u8 ((c.toNat : Nat) : Int), .int .i64 n]) Tryd.func8 Tryd.ntmps8 rfl (by simp) ?_
  have hC : Chg [] w w := Chg.refl _ _
  have h0w : 1 < w.heap.size := hK.lt
  have h1w : 0 < w.heap.size := hF.lt
  obtain ⟨k, hk⟩ : ∃ k : Nat, k = 262147 - n1 % 8 := ⟨_, rfl⟩
  refine TE.seq ?_
  refine TE.region ?_
  refine OL.pure (Pure.assign rfl) rfl ?_
  refine OL.nil ?_
  refine TE.seq ?_
  refine TE.region ?_
  refine OL.pure (Pure.move rfl) rfl ?_
  refine OL.pure (Pure.conv Tryd.runUnderlying5 Tryd.runUnderlying3 rfl (i64in (by omega) (by omega))) rfl ?_
  refine OL.pure (Pure.rem rfl rfl (by omega) (by omega)) rfl ?_
  refine OL.pure (Pure.sub rfl rfl (i64 (by omega) (by omega))) rfl ?_
  refine OL.cast (.int .i64 (k : Int)) 20 rfl (congrArg (Value.int .i64) (by omega)) ?_
  refine OL.makeSlice (v := .int .u8 0) rfl rfl Tryd.underlying24 info5 rfl rfl rfl (Nat.le_refl _) (by show 1 * _ ≤ _; omega) (by omega) rfl ?_
  intro gb w1 hb hc1 hg_gb
  have lt_1_gb : 1 < gb := by have := hK.lt; omega
  have lt_0_gb : 0 < gb := by have := hF.lt; omega
  have ge_gb : w.heap.size ≤ gb := by have := hC.size; omega
  replace hK := hK.chg0 hc1
  replace hF := hF.chg0 hc1
  replace hC := hC.then_ hc1
  replace hb : Blk w1 gb 5 (bv (List.replicate k 0)) := by rw [show bv (List.replicate k 0) = List.replicate k (Value.int .u8 0) from by simp [bv]]; exact hb
  refine OL.pure (Pure.assign rfl) rfl ?_
  refine OL.nil ?_
  refine TE.seq ?_
  refine TE.seq ?_
  refine TE.region ?_
  refine OL.pure (Pure.assign rfl) rfl ?_
  refine OL.nil ?_
  refine TE.block ?_
  refine TE.loopInv (σ := Nat × List UInt8) [1, 2, 7, 8] (fun s_ w_ => match s_ with | (i, s) => i ≤ k + 97 ∧ s.length = k ∧ Chg [] w w_ ∧ Blk w_ 1 tK (iv .u32 K) ∧ Blk w_ 0 tF (iv .i64 fldL) ∧ Blk w_ gb 5 (bv s)) (fun s_ => [(1, .int .u8 ((c.toNat : Nat) : Int)), (2, .int .i64 n), (7, .slice (some ⟨gb, 0, none⟩) k k), (8, .int .i64 (↑s_.1))]) (fun s_ => k + 97 - s_.1) (0, List.replicate k 0) ⟨by omega, by simp, hC, hK, hF, hb⟩ rfl ?_
  rintro ⟨i, s⟩ w2 ⟨hi, hsl, hC, hK, hF, hb⟩ ih2
  try dsimp only
  refine TE.seq ?_
  refine TE.seq ?_
  refine TE.region ?_
  refine OL.pure (Pure.move rfl) rfl ?_
  refine OL.pure (Pure.move rfl) rfl ?_
  refine OL.pure (Pure.lenSlice Tryd.runUnderlying24 rfl) rfl ?_
  refine OL.pure (Pure.lss rfl rfl) rfl ?_
  refine OL.nil ?_
  refine TE.ite rfl (fun hlt => ?_) (fun hlt => ?_)
  ·
    refine TE.skip ?_
    refine TE.seq ?_
    refine TE.block ?_
    refine TE.region ?_
    refine OL.pure (Pure.move rfl) rfl ?_
    refine OL.pure (Pure.move rfl) rfl ?_
    refine OL.pure (Pure.move rfl) rfl ?_
    refine OL.pure (Pure.indexAddrS (r := i) Tryd.runUnderlying24 Tryd.sizeOf5 rfl rfl (by omega) (by omega) (by omega)) rfl ?_
    refine OL.store (j := i) rfl rfl Tryd.sizeOf5 rfl hb (by omega) (bv_get (by omega)) ?_
    intro w3 hb3 hc3
    replace hK := hK.chg hc3 (by simp; omega)
    replace hF := hF.chg hc3 (by simp; omega)
    replace hC := hC.trans1 hc3 (by first | exact .inr (by omega) | exact .inl (by simp))
    replace hb := hb3
    rw [bv_set] at hb
    refine OL.nil ?_
    refine TE.inBlock ?_
    refine TE.region ?_
    refine OL.pure (Pure.move rfl) rfl ?_
    refine OL.pure (Pure.add rfl rfl (i64 (by omega) (by omega))) rfl ?_
    refine OL.pure (Pure.assign rfl) rfl ?_
    refine OL.nil ?_
    exact TE.sub [1, 2, 7, 8] rfl (ih2 (i + 97, s.set i c) _ ⟨by omega, by rw [List.length_set]; exact hsl, hC, hK, hF, hb⟩ (by simp only []; omega))
  ·
    refine TE.exit rfl ?_
    refine TE.seq ?_
    refine TE.region ?_
    refine OL.pure (Pure.move rfl) rfl ?_
    refine OL.val (Run.toStr (bs := s) Tryd.underlying24 Tryd.underlying5 Tryd.underlying9 rfl hb hsl (by rw [List.drop_zero, ← hsl, ← bv_len]; exact List.take_length)) rfl ?_
    refine OL.pure (Pure.build (cs := Fr.cells ⟨255, 0, 0, s⟩) rfl (by kernel_rfl)) rfl ?_
    refine OL.alloc Tryd.zeroValue30 rfl ?_
    intro g9 w4 h9 hc4 hg_g9
    have lt_1_g9 : 1 < g9 := by have := hK.lt; omega
    have lt_0_g9 : 0 < g9 := by have := hF.lt; omega
    have ge_g9 : w.heap.size ≤ g9 := by have := hC.size; omega
    replace hK := hK.chg0 hc4
    replace hF := hF.chg0 hc4
    replace hC := hC.then_ hc4
    have h9 : Blk w4 g9 30 (Fr.zero.cells) := h9
    obtain ⟨f, hf⟩ : ∃ f : Fr, f = ⟨255, 0, 0, s⟩ := ⟨_, rfl⟩
    have hfp : f.payload = s := by rw [hf]
    have hfl : f.payload.length = k := by rw [hfp]; exact hsl
    refine OL.cast (.agg (f).cells.toArray) 34 rfl (by rw [hf]) ?_
    refine OL.storeRow (vs := (f).cells) rfl rfl (rfl) (by simp [Fr.cells, Value.oneCell']) h9 (Nat.le_refl 4) ?_
    intro w5 hb5 hc5
    replace hK := hK.chg hc5 (by simp; omega)
    replace hF := hF.chg hc5 (by simp; omega)
    replace hC := hC.trans1 hc5 (by first | exact .inr (by omega) | exact .inl (by simp))
    replace h9 := hb5
    replace h9 := h9.all rfl
    by_cases hbig : 262144 < k
    ·
      have hck : check f = 5 := by rw [hf]; unfold check; rw [if_neg (show ¬ ((255 : Int) < 0 ∨ (255 : Int) < 255) by decide), if_neg (fun h => h (show inside 0 0 by decide)), if_pos (show 262144 < s.length by omega)]
      have hq := fun w => encode_no f (by omega) (by rw [hck]; decide) w
      rw [hck] at hq
      refine OL.nil ?_
      refine TE.seq ?_
      refine TE.region ?_
      refine OL.val (Run.loadAll rfl Tryd.underlying30 rfl h9 (rfl)) rfl ?_
      refine OL.call rfl Tryd.call23 rfl (hq _) ?_
      rintro _ w6 ⟨rfl, hc6⟩
      replace hK := hK.chg0 hc6
      replace hF := hF.chg0 hc6
      replace h9 := h9.chg0 hc6
      replace hC := hC.then_ hc6
      refine ⟨_, rfl, ?_⟩
      by_cases hn : 0 ≤ n ∧ n ≤ 262144
      ·
        obtain ⟨m, rfl⟩ : ∃ m : Nat, n = (m : Int) := ⟨n.toNat, by omega⟩
        refine OL.pure (Pure.move rfl) rfl ?_
        refine OL.pure (Pure.extract (vs := [.string (str []), .int .i64 5]) (i := 0) rfl rfl) rfl ?_
        refine OL.pure (Pure.extract (vs := [.string (str []), .int .i64 5]) (i := 1) rfl rfl) rfl ?_
        refine OL.pure (Pure.assign rfl) rfl ?_
        refine OL.pure (Pure.assign rfl) rfl ?_
        refine OL.nil ?_
        refine TE.seq ?_
        refine TE.region ?_
        refine OL.pure (Pure.move rfl) rfl ?_
        refine OL.call rfl Tryd.call25 rfl (size_ok m (by omega) _) ?_
        rintro _ _ ⟨rfl, rfl⟩
        refine ⟨_, rfl, ?_⟩
        refine OL.pure (Pure.move rfl) rfl ?_
        refine OL.pure (Pure.extract (vs := [.int .i64 ((m : Int) + 42), .int .i64 0]) (i := 0) rfl rfl) rfl ?_
        refine OL.pure (Pure.extract (vs := [.int .i64 ((m : Int) + 42), .int .i64 0]) (i := 1) rfl rfl) rfl ?_
        refine OL.pure (Pure.assign rfl) rfl ?_
        refine OL.pure (Pure.assign rfl) rfl ?_
        refine OL.nil ?_
        refine TE.seq ?_
        refine TE.seq ?_
        refine TE.region ?_
        refine OL.call rfl Tryd.call15 rfl (known_any _ hK hF) ?_
        rintro _ w7 ⟨rfl, hc7⟩
        replace hK := hK.chg0 hc7
        replace hF := hF.chg0 hc7
        replace h9 := h9.chg0 hc7
        replace hC := hC.then_ hc7
        refine ⟨_, rfl, ?_⟩
        refine OL.pure (Pure.not rfl) rfl ?_
        refine OL.pure (Pure.move rfl) rfl ?_
        refine OL.want rfl rfl rfl (Pure.move rfl _) rfl ?_
        refine OL.want rfl rfl rfl (Pure.eql rfl rfl _) rfl ?_
        refine OL.cast (.bool true) 49 rfl (rfl) ?_
        refine OL.want rfl rfl rfl (Pure.move rfl _) rfl ?_
        refine OL.want rfl rfl rfl (Pure.geq rfl rfl _) rfl ?_
        refine OL.cast (.bool true) 51 rfl (congrArg Value.bool (decide_eq_true (by omega))) ?_
        refine OL.want rfl rfl rfl (Pure.move rfl _) rfl ?_
        refine OL.want rfl rfl rfl (Pure.move rfl _) rfl ?_
        refine OL.want rfl rfl rfl (Pure.leq rfl rfl _) rfl ?_
        refine OL.cast (.bool true) 54 rfl (congrArg Value.bool (decide_eq_true (by omega))) ?_
        refine OL.want rfl rfl rfl (Pure.pickT rfl rfl _) rfl ?_
        refine OL.want rfl rfl rfl (Pure.neqBool' Tryd.underlying4 rfl rfl _) rfl ?_
        refine OL.cast (.bool false) 56 rfl (rfl) ?_
        refine OL.pure (Pure.pickF rfl rfl) rfl ?_
        refine OL.pure (Pure.move rfl) rfl ?_
        refine OL.want rfl rfl rfl (Pure.move rfl _) rfl ?_
        refine OL.want rfl rfl rfl (Pure.eql rfl rfl _) rfl ?_
        refine OL.cast (.bool true) 60 rfl (rfl) ?_
        refine OL.want rfl rfl rfl (Pure.move rfl _) rfl ?_
        refine OL.want rfl rfl rfl (Pure.move rfl _) rfl ?_
        refine OL.want rfl rfl rfl (Pure.move rfl _) rfl ?_
        refine OL.want rfl rfl rfl (Pure.add rfl rfl (i64 (by omega) (by omega)) _) rfl ?_
        refine OL.want rfl rfl rfl (Pure.neq rfl rfl _) rfl ?_
        refine OL.cast (.bool false) 65 rfl (congrArg Value.bool (decide_eq_false (fun h => h (by omega)))) ?_
        refine OL.want rfl rfl rfl (Pure.pickT rfl rfl _) rfl ?_
        refine OL.pure (Pure.pickF rfl rfl) rfl ?_
        refine OL.pure (Pure.move rfl) rfl ?_
        refine OL.want rfl rfl rfl (Pure.move rfl _) rfl ?_
        refine OL.want rfl rfl rfl (Pure.neq rfl rfl _) rfl ?_
        refine OL.cast (.bool false) 70 rfl (rfl) ?_
        refine OL.want rfl rfl rfl (Pure.move rfl _) rfl ?_
        refine OL.pass rfl rfl rfl rfl rfl ?_
        refine OL.pass rfl rfl rfl rfl rfl ?_
        refine OL.pass rfl rfl rfl rfl rfl ?_
        refine OL.pass rfl rfl rfl rfl rfl ?_
        refine OL.pass rfl rfl rfl rfl rfl ?_
        refine OL.pass rfl rfl rfl rfl rfl ?_
        refine OL.want rfl rfl rfl (Pure.pickF rfl rfl _) rfl ?_
        refine OL.pure (Pure.pickF rfl rfl) rfl ?_
        refine OL.nil ?_
        refine TE.condF rfl rfl ?_
        refine TE.skip ?_
        refine TE.seq ?_
        refine TE.seq ?_
        refine TE.region ?_
        refine OL.pure (Pure.move rfl) rfl ?_
        refine OL.pure (Pure.lenSlice Tryd.runUnderlying24 rfl) rfl ?_
        refine OL.pure (Pure.gtr rfl rfl) rfl ?_
        refine OL.cast (.bool true) 82 rfl (congrArg Value.bool (decide_eq_true (by omega))) ?_
        refine OL.nil ?_
        refine TE.condT rfl rfl ?_
        refine TE.seq ?_
        refine TE.region ?_
        refine OL.pure (Pure.move rfl) rfl ?_
        refine OL.pure (Pure.eql rfl rfl) rfl ?_
        refine OL.cast (.bool true) 84 rfl (rfl) ?_
        refine OL.pure (Pure.move rfl) rfl ?_
        refine OL.want rfl rfl rfl (Pure.move rfl _) rfl ?_
        refine OL.want rfl rfl rfl (Pure.strEql (l := []) (m := []) rfl rfl _) rfl ?_
        refine OL.cast (.bool true) 87 rfl (congrArg Value.bool (decide_eq_true rfl)) ?_
        refine OL.pure (Pure.pickT rfl rfl) rfl ?_
        refine OL.pure (Pure.assign rfl) rfl ?_
        refine OL.nil ?_
        exact TE.ret (vs := [.bool true]) Tryd.results8 (⟨rfl, trivial⟩) ⟨rfl, hC⟩
      ·
        refine OL.pure (Pure.move rfl) rfl ?_
        refine OL.pure (Pure.extract (vs := [.string (str []), .int .i64 5]) (i := 0) rfl rfl) rfl ?_
        refine OL.pure (Pure.extract (vs := [.string (str []), .int .i64 5]) (i := 1) rfl rfl) rfl ?_
        refine OL.pure (Pure.assign rfl) rfl ?_
        refine OL.pure (Pure.assign rfl) rfl ?_
        refine OL.nil ?_
        refine TE.seq ?_
        refine TE.region ?_
        refine OL.pure (Pure.move rfl) rfl ?_
        refine OL.call rfl Tryd.call25 rfl (size_no n (by omega) _) ?_
        rintro _ _ ⟨rfl, rfl⟩
        refine ⟨_, rfl, ?_⟩
        by_cases hneg : n < 0
        ·
          refine OL.pure (Pure.move rfl) rfl ?_
          refine OL.pure (Pure.extract (vs := [.int .i64 0, .int .i64 2]) (i := 0) rfl rfl) rfl ?_
          refine OL.pure (Pure.extract (vs := [.int .i64 0, .int .i64 2]) (i := 1) rfl rfl) rfl ?_
          refine OL.pure (Pure.assign rfl) rfl ?_
          refine OL.pure (Pure.assign rfl) rfl ?_
          refine OL.nil ?_
          refine TE.seq ?_
          refine TE.seq ?_
          refine TE.region ?_
          refine OL.call rfl Tryd.call15 rfl (known_any _ hK hF) ?_
          rintro _ w8 ⟨rfl, hc8⟩
          replace hK := hK.chg0 hc8
          replace hF := hF.chg0 hc8
          replace h9 := h9.chg0 hc8
          replace hC := hC.then_ hc8
          refine ⟨_, rfl, ?_⟩
          refine OL.pure (Pure.not rfl) rfl ?_
          refine OL.pure (Pure.move rfl) rfl ?_
          refine OL.want rfl rfl rfl (Pure.move rfl _) rfl ?_
          refine OL.want rfl rfl rfl (Pure.eql rfl rfl _) rfl ?_
          refine OL.cast (.bool false) 49 rfl (rfl) ?_
          refine OL.want rfl rfl rfl (Pure.move rfl _) rfl ?_
          refine OL.want rfl rfl rfl (Pure.geq rfl rfl _) rfl ?_
          refine OL.cast (.bool false) 51 rfl (congrArg Value.bool (decide_eq_false (by omega))) ?_
          refine OL.want rfl rfl rfl (Pure.move rfl _) rfl ?_
          refine OL.pass rfl rfl rfl rfl rfl ?_
          refine OL.pass rfl rfl rfl rfl rfl ?_
          refine OL.want rfl rfl rfl (Pure.pickF rfl rfl _) rfl ?_
          refine OL.want rfl rfl rfl (Pure.neqBool' Tryd.underlying4 rfl rfl _) rfl ?_
          refine OL.cast (.bool false) 56 rfl (rfl) ?_
          refine OL.pure (Pure.pickF rfl rfl) rfl ?_
          refine OL.pure (Pure.move rfl) rfl ?_
          refine OL.want rfl rfl rfl (Pure.move rfl _) rfl ?_
          refine OL.want rfl rfl rfl (Pure.eql rfl rfl _) rfl ?_
          refine OL.cast (.bool false) 60 rfl (rfl) ?_
          refine OL.want rfl rfl rfl (Pure.move rfl _) rfl ?_
          refine OL.pass rfl rfl rfl rfl rfl ?_
          refine OL.pass rfl rfl rfl rfl rfl ?_
          refine OL.pass rfl rfl rfl rfl rfl ?_
          refine OL.pass rfl rfl rfl rfl rfl ?_
          refine OL.want rfl rfl rfl (Pure.pickF rfl rfl _) rfl ?_
          refine OL.pure (Pure.pickF rfl rfl) rfl ?_
          refine OL.pure (Pure.move rfl) rfl ?_
          refine OL.want rfl rfl rfl (Pure.move rfl _) rfl ?_
          refine OL.want rfl rfl rfl (Pure.neq rfl rfl _) rfl ?_
          refine OL.cast (.bool true) 70 rfl (rfl) ?_
          refine OL.want rfl rfl rfl (Pure.move rfl _) rfl ?_
          refine OL.want rfl rfl rfl (Pure.move rfl _) rfl ?_
          refine OL.want rfl rfl rfl (Pure.neq rfl rfl _) rfl ?_
          refine OL.cast (.bool false) 73 rfl (congrArg Value.bool (decide_eq_false (fun h => h rfl))) ?_
          refine OL.want rfl rfl rfl (Pure.move rfl _) rfl ?_
          refine OL.want rfl rfl rfl (Pure.move rfl _) rfl ?_
          refine OL.want rfl rfl rfl (Pure.neq rfl rfl _) rfl ?_
          refine OL.cast (.bool false) 76 rfl (rfl) ?_
          refine OL.want rfl rfl rfl (Pure.pickF rfl rfl _) rfl ?_
          refine OL.want rfl rfl rfl (Pure.pickT rfl rfl _) rfl ?_
          refine OL.pure (Pure.pickF rfl rfl) rfl ?_
          refine OL.nil ?_
          refine TE.condF rfl rfl ?_
          refine TE.skip ?_
          refine TE.seq ?_
          refine TE.seq ?_
          refine TE.region ?_
          refine OL.pure (Pure.move rfl) rfl ?_
          refine OL.pure (Pure.lenSlice Tryd.runUnderlying24 rfl) rfl ?_
          refine OL.pure (Pure.gtr rfl rfl) rfl ?_
          refine OL.cast (.bool true) 82 rfl (congrArg Value.bool (decide_eq_true (by omega))) ?_
          refine OL.nil ?_
          refine TE.condT rfl rfl ?_
          refine TE.seq ?_
          refine TE.region ?_
          refine OL.pure (Pure.move rfl) rfl ?_
          refine OL.pure (Pure.eql rfl rfl) rfl ?_
          refine OL.cast (.bool true) 84 rfl (rfl) ?_
          refine OL.pure (Pure.move rfl) rfl ?_
          refine OL.want rfl rfl rfl (Pure.move rfl _) rfl ?_
          refine OL.want rfl rfl rfl (Pure.strEql (l := []) (m := []) rfl rfl _) rfl ?_
          refine OL.cast (.bool true) 87 rfl (congrArg Value.bool (decide_eq_true rfl)) ?_
          refine OL.pure (Pure.pickT rfl rfl) rfl ?_
          refine OL.pure (Pure.assign rfl) rfl ?_
          refine OL.nil ?_
          exact TE.ret (vs := [.bool true]) Tryd.results8 (⟨rfl, trivial⟩) ⟨rfl, hC⟩
        ·
          refine OL.pure (Pure.move rfl) rfl ?_
          refine OL.pure (Pure.extract (vs := [.int .i64 0, .int .i64 2]) (i := 0) rfl rfl) rfl ?_
          refine OL.pure (Pure.extract (vs := [.int .i64 0, .int .i64 2]) (i := 1) rfl rfl) rfl ?_
          refine OL.pure (Pure.assign rfl) rfl ?_
          refine OL.pure (Pure.assign rfl) rfl ?_
          refine OL.nil ?_
          refine TE.seq ?_
          refine TE.seq ?_
          refine TE.region ?_
          refine OL.call rfl Tryd.call15 rfl (known_any _ hK hF) ?_
          rintro _ w9 ⟨rfl, hc9⟩
          replace hK := hK.chg0 hc9
          replace hF := hF.chg0 hc9
          replace h9 := h9.chg0 hc9
          replace hC := hC.then_ hc9
          refine ⟨_, rfl, ?_⟩
          refine OL.pure (Pure.not rfl) rfl ?_
          refine OL.pure (Pure.move rfl) rfl ?_
          refine OL.want rfl rfl rfl (Pure.move rfl _) rfl ?_
          refine OL.want rfl rfl rfl (Pure.eql rfl rfl _) rfl ?_
          refine OL.cast (.bool false) 49 rfl (rfl) ?_
          refine OL.want rfl rfl rfl (Pure.move rfl _) rfl ?_
          refine OL.want rfl rfl rfl (Pure.geq rfl rfl _) rfl ?_
          refine OL.cast (.bool true) 51 rfl (congrArg Value.bool (decide_eq_true (by omega))) ?_
          refine OL.want rfl rfl rfl (Pure.move rfl _) rfl ?_
          refine OL.want rfl rfl rfl (Pure.move rfl _) rfl ?_
          refine OL.want rfl rfl rfl (Pure.leq rfl rfl _) rfl ?_
          refine OL.cast (.bool false) 54 rfl (congrArg Value.bool (decide_eq_false (by omega))) ?_
          refine OL.want rfl rfl rfl (Pure.pickT rfl rfl _) rfl ?_
          refine OL.want rfl rfl rfl (Pure.neqBool' Tryd.underlying4 rfl rfl _) rfl ?_
          refine OL.cast (.bool false) 56 rfl (rfl) ?_
          refine OL.pure (Pure.pickF rfl rfl) rfl ?_
          refine OL.pure (Pure.move rfl) rfl ?_
          refine OL.want rfl rfl rfl (Pure.move rfl _) rfl ?_
          refine OL.want rfl rfl rfl (Pure.eql rfl rfl _) rfl ?_
          refine OL.cast (.bool false) 60 rfl (rfl) ?_
          refine OL.want rfl rfl rfl (Pure.move rfl _) rfl ?_
          refine OL.pass rfl rfl rfl rfl rfl ?_
          refine OL.pass rfl rfl rfl rfl rfl ?_
          refine OL.pass rfl rfl rfl rfl rfl ?_
          refine OL.pass rfl rfl rfl rfl rfl ?_
          refine OL.want rfl rfl rfl (Pure.pickF rfl rfl _) rfl ?_
          refine OL.pure (Pure.pickF rfl rfl) rfl ?_
          refine OL.pure (Pure.move rfl) rfl ?_
          refine OL.want rfl rfl rfl (Pure.move rfl _) rfl ?_
          refine OL.want rfl rfl rfl (Pure.neq rfl rfl _) rfl ?_
          refine OL.cast (.bool true) 70 rfl (rfl) ?_
          refine OL.want rfl rfl rfl (Pure.move rfl _) rfl ?_
          refine OL.want rfl rfl rfl (Pure.move rfl _) rfl ?_
          refine OL.want rfl rfl rfl (Pure.neq rfl rfl _) rfl ?_
          refine OL.cast (.bool false) 73 rfl (congrArg Value.bool (decide_eq_false (fun h => h rfl))) ?_
          refine OL.want rfl rfl rfl (Pure.move rfl _) rfl ?_
          refine OL.want rfl rfl rfl (Pure.move rfl _) rfl ?_
          refine OL.want rfl rfl rfl (Pure.neq rfl rfl _) rfl ?_
          refine OL.cast (.bool false) 76 rfl (rfl) ?_
          refine OL.want rfl rfl rfl (Pure.pickF rfl rfl _) rfl ?_
          refine OL.want rfl rfl rfl (Pure.pickT rfl rfl _) rfl ?_
          refine OL.pure (Pure.pickF rfl rfl) rfl ?_
          refine OL.nil ?_
          refine TE.condF rfl rfl ?_
          refine TE.skip ?_
          refine TE.seq ?_
          refine TE.seq ?_
          refine TE.region ?_
          refine OL.pure (Pure.move rfl) rfl ?_
          refine OL.pure (Pure.lenSlice Tryd.runUnderlying24 rfl) rfl ?_
          refine OL.pure (Pure.gtr rfl rfl) rfl ?_
          refine OL.cast (.bool true) 82 rfl (congrArg Value.bool (decide_eq_true (by omega))) ?_
          refine OL.nil ?_
          refine TE.condT rfl rfl ?_
          refine TE.seq ?_
          refine TE.region ?_
          refine OL.pure (Pure.move rfl) rfl ?_
          refine OL.pure (Pure.eql rfl rfl) rfl ?_
          refine OL.cast (.bool true) 84 rfl (rfl) ?_
          refine OL.pure (Pure.move rfl) rfl ?_
          refine OL.want rfl rfl rfl (Pure.move rfl _) rfl ?_
          refine OL.want rfl rfl rfl (Pure.strEql (l := []) (m := []) rfl rfl _) rfl ?_
          refine OL.cast (.bool true) 87 rfl (congrArg Value.bool (decide_eq_true rfl)) ?_
          refine OL.pure (Pure.pickT rfl rfl) rfl ?_
          refine OL.pure (Pure.assign rfl) rfl ?_
          refine OL.nil ?_
          exact TE.ret (vs := [.bool true]) Tryd.results8 (⟨rfl, trivial⟩) ⟨rfl, hC⟩
    ·
      have hok : check f = 0 := by rw [hf]; unfold check; rw [if_neg (show ¬ ((255 : Int) < 0 ∨ (255 : Int) < 255) by decide), if_neg (fun h => h (show inside 0 0 by decide)), if_neg (show ¬ 262144 < s.length by omega)]
      refine OL.nil ?_
      refine TE.seq ?_
      refine TE.region ?_
      refine OL.val (Run.loadAll rfl Tryd.underlying30 rfl h9 (rfl)) rfl ?_
      refine OL.call rfl Tryd.call23 rfl (encode_any f hok _ hK hF) ?_
      rintro _ w10 ⟨rfl, hc10⟩
      replace hK := hK.chg0 hc10
      replace hF := hF.chg0 hc10
      replace h9 := h9.chg0 hc10
      replace hC := hC.then_ hc10
      refine ⟨_, rfl, ?_⟩
      by_cases hn : 0 ≤ n ∧ n ≤ 262144
      ·
        obtain ⟨m, rfl⟩ : ∃ m : Nat, n = (m : Int) := ⟨n.toNat, by omega⟩
        refine OL.pure (Pure.move rfl) rfl ?_
        refine OL.pure (Pure.extract (vs := [.string (str (encode f)), .int .i64 0]) (i := 0) rfl rfl) rfl ?_
        refine OL.pure (Pure.extract (vs := [.string (str (encode f)), .int .i64 0]) (i := 1) rfl rfl) rfl ?_
        refine OL.pure (Pure.assign rfl) rfl ?_
        refine OL.pure (Pure.assign rfl) rfl ?_
        refine OL.nil ?_
        refine TE.seq ?_
        refine TE.region ?_
        refine OL.pure (Pure.move rfl) rfl ?_
        refine OL.call rfl Tryd.call25 rfl (size_ok m (by omega) _) ?_
        rintro _ _ ⟨rfl, rfl⟩
        refine ⟨_, rfl, ?_⟩
        refine OL.pure (Pure.move rfl) rfl ?_
        refine OL.pure (Pure.extract (vs := [.int .i64 ((m : Int) + 42), .int .i64 0]) (i := 0) rfl rfl) rfl ?_
        refine OL.pure (Pure.extract (vs := [.int .i64 ((m : Int) + 42), .int .i64 0]) (i := 1) rfl rfl) rfl ?_
        refine OL.pure (Pure.assign rfl) rfl ?_
        refine OL.pure (Pure.assign rfl) rfl ?_
        refine OL.nil ?_
        refine TE.seq ?_
        refine TE.seq ?_
        refine TE.region ?_
        refine OL.call rfl Tryd.call15 rfl (known_any _ hK hF) ?_
        rintro _ w11 ⟨rfl, hc11⟩
        replace hK := hK.chg0 hc11
        replace hF := hF.chg0 hc11
        replace h9 := h9.chg0 hc11
        replace hC := hC.then_ hc11
        refine ⟨_, rfl, ?_⟩
        have hel := encode_len f
        refine OL.pure (Pure.not rfl) rfl ?_
        refine OL.pure (Pure.move rfl) rfl ?_
        refine OL.want rfl rfl rfl (Pure.move rfl _) rfl ?_
        refine OL.want rfl rfl rfl (Pure.eql rfl rfl _) rfl ?_
        refine OL.cast (.bool true) 49 rfl (rfl) ?_
        refine OL.want rfl rfl rfl (Pure.move rfl _) rfl ?_
        refine OL.want rfl rfl rfl (Pure.geq rfl rfl _) rfl ?_
        refine OL.cast (.bool true) 51 rfl (congrArg Value.bool (decide_eq_true (by omega))) ?_
        refine OL.want rfl rfl rfl (Pure.move rfl _) rfl ?_
        refine OL.want rfl rfl rfl (Pure.move rfl _) rfl ?_
        refine OL.want rfl rfl rfl (Pure.leq rfl rfl _) rfl ?_
        refine OL.cast (.bool true) 54 rfl (congrArg Value.bool (decide_eq_true (by omega))) ?_
        refine OL.want rfl rfl rfl (Pure.pickT rfl rfl _) rfl ?_
        refine OL.want rfl rfl rfl (Pure.neqBool' Tryd.underlying4 rfl rfl _) rfl ?_
        refine OL.cast (.bool false) 56 rfl (rfl) ?_
        refine OL.pure (Pure.pickF rfl rfl) rfl ?_
        refine OL.pure (Pure.move rfl) rfl ?_
        refine OL.want rfl rfl rfl (Pure.move rfl _) rfl ?_
        refine OL.want rfl rfl rfl (Pure.eql rfl rfl _) rfl ?_
        refine OL.cast (.bool true) 60 rfl (rfl) ?_
        refine OL.want rfl rfl rfl (Pure.move rfl _) rfl ?_
        refine OL.want rfl rfl rfl (Pure.move rfl _) rfl ?_
        refine OL.want rfl rfl rfl (Pure.move rfl _) rfl ?_
        refine OL.want rfl rfl rfl (Pure.add rfl rfl (i64 (by omega) (by omega)) _) rfl ?_
        refine OL.want rfl rfl rfl (Pure.neq rfl rfl _) rfl ?_
        refine OL.cast (.bool false) 65 rfl (congrArg Value.bool (decide_eq_false (fun h => h (by omega)))) ?_
        refine OL.want rfl rfl rfl (Pure.pickT rfl rfl _) rfl ?_
        refine OL.pure (Pure.pickF rfl rfl) rfl ?_
        refine OL.pure (Pure.move rfl) rfl ?_
        refine OL.want rfl rfl rfl (Pure.move rfl _) rfl ?_
        refine OL.want rfl rfl rfl (Pure.neq rfl rfl _) rfl ?_
        refine OL.cast (.bool false) 70 rfl (rfl) ?_
        refine OL.want rfl rfl rfl (Pure.move rfl _) rfl ?_
        refine OL.pass rfl rfl rfl rfl rfl ?_
        refine OL.pass rfl rfl rfl rfl rfl ?_
        refine OL.pass rfl rfl rfl rfl rfl ?_
        refine OL.pass rfl rfl rfl rfl rfl ?_
        refine OL.pass rfl rfl rfl rfl rfl ?_
        refine OL.pass rfl rfl rfl rfl rfl ?_
        refine OL.want rfl rfl rfl (Pure.pickF rfl rfl _) rfl ?_
        refine OL.pure (Pure.pickF rfl rfl) rfl ?_
        refine OL.nil ?_
        refine TE.condF rfl rfl ?_
        refine TE.skip ?_
        refine TE.seq ?_
        refine TE.seq ?_
        refine TE.region ?_
        refine OL.pure (Pure.move rfl) rfl ?_
        refine OL.pure (Pure.lenSlice Tryd.runUnderlying24 rfl) rfl ?_
        refine OL.pure (Pure.gtr rfl rfl) rfl ?_
        refine OL.cast (.bool false) 82 rfl (congrArg Value.bool (decide_eq_false (by omega))) ?_
        refine OL.nil ?_
        refine TE.condF rfl rfl ?_
        refine TE.skip ?_
        refine TE.seq ?_
        refine TE.region ?_
        refine OL.pure (Pure.move rfl) rfl ?_
        refine OL.call rfl Tryd.call13 rfl (decode_any (encode f) (by omega) f (42 + f.payload.length) 0 (by have := decode_encode hok []; rwa [List.append_nil] at this) _ hK hF) ?_
        rintro _ w12 ⟨rfl, hc12⟩
        replace hK := hK.chg0 hc12
        replace hF := hF.chg0 hc12
        replace h9 := h9.chg0 hc12
        replace hC := hC.then_ hc12
        refine ⟨_, rfl, ?_⟩
        refine OL.pure (Pure.move rfl) rfl ?_
        refine OL.pure (Pure.extract (vs := [.agg (f).cells.toArray, .int .i64 ((42 + f.payload.length : Nat) : Int), .int .i64 0]) (i := 0) rfl rfl) rfl ?_
        refine OL.pure (Pure.extract (vs := [.agg (f).cells.toArray, .int .i64 ((42 + f.payload.length : Nat) : Int), .int .i64 0]) (i := 1) rfl rfl) rfl ?_
        refine OL.pure (Pure.extract (vs := [.agg (f).cells.toArray, .int .i64 ((42 + f.payload.length : Nat) : Int), .int .i64 0]) (i := 2) rfl rfl) rfl ?_
        refine OL.alloc Tryd.zeroValue30 rfl ?_
        intro g14 w13 h14 hc13 hg_g14
        have lt_1_g14 : 1 < g14 := by have := hK.lt; omega
        have lt_0_g14 : 0 < g14 := by have := hF.lt; omega
        have lt_g9_g14 : g9 < g14 := by have := h9.lt; omega
        have ge_g14 : w.heap.size ≤ g14 := by have := hC.size; omega
        replace hK := hK.chg0 hc13
        replace hF := hF.chg0 hc13
        replace h9 := h9.chg0 hc13
        replace hC := hC.then_ hc13
        have h14 : Blk w13 g14 30 (Fr.zero.cells) := h14
        refine OL.storeRow (vs := (f).cells) rfl rfl (rfl) (by simp [Fr.cells, Value.oneCell']) h14 (Nat.le_refl 4) ?_
        intro w14 hb14 hc14
        replace hK := hK.chg hc14 (by simp; omega)
        replace hF := hF.chg hc14 (by simp; omega)
        replace h9 := h9.chg hc14 (by simp; omega)
        replace hC := hC.trans1 hc14 (by first | exact .inr (by omega) | exact .inl (by simp))
        replace h14 := hb14
        replace h14 := h14.all rfl
        refine OL.pure (Pure.assign rfl) rfl ?_
        refine OL.pure (Pure.assign rfl) rfl ?_
        refine OL.nil ?_
        refine TE.seq ?_
        refine TE.region ?_
        refine OL.pure (Pure.move rfl) rfl ?_
        refine OL.pure (Pure.eql rfl rfl) rfl ?_
        refine OL.cast (.bool true) 96 rfl (rfl) ?_
        refine OL.pure (Pure.move rfl) rfl ?_
        refine OL.want rfl rfl rfl (Pure.move rfl _) rfl ?_
        refine OL.want rfl rfl rfl (Pure.eql rfl rfl _) rfl ?_
        refine OL.cast (.bool true) 99 rfl (rfl) ?_
        refine OL.pure (Pure.pickT rfl rfl) rfl ?_
        refine OL.pure (Pure.move rfl) rfl ?_
        refine OL.want rfl rfl rfl (Pure.move rfl _) rfl ?_
        refine OL.want rfl rfl rfl (Pure.move rfl _) rfl ?_
        refine OL.want rfl rfl rfl (Pure.lenSlice Tryd.runUnderlying24 rfl _) rfl ?_
        refine OL.want rfl rfl rfl (Pure.add rfl rfl (i64 (by omega) (by omega)) _) rfl ?_
        refine OL.want rfl rfl rfl (Pure.eql rfl rfl _) rfl ?_
        refine OL.cast (.bool true) 106 rfl (congrArg Value.bool (decide_eq_true (by push_cast; omega))) ?_
        refine OL.pure (Pure.pickT rfl rfl) rfl ?_
        refine OL.pure (Pure.move rfl) rfl ?_
        refine OL.want rfl rfl rfl (Run.loadAll rfl Tryd.underlying30 rfl h14 (rfl)) rfl ?_
        refine OL.want rfl rfl rfl (Run.loadAll rfl Tryd.underlying30 rfl h9 (rfl)) rfl ?_
        refine OL.want rfl rfl rfl (Pure.eqlStruct (t := 30) (by kernel_rfl) (by kernel_rfl) (by kernel_rfl) rfl rfl (frm_eq f f) _) rfl ?_
        refine OL.cast (.bool true) 111 rfl (congrArg Value.bool (frSame_self f)) ?_
        refine OL.pure (Pure.pickT rfl rfl) rfl ?_
        refine OL.pure (Pure.assign rfl) rfl ?_
        refine OL.nil ?_
        exact TE.ret (vs := [.bool true]) Tryd.results8 (⟨rfl, trivial⟩) ⟨rfl, hC⟩
      ·
        refine OL.pure (Pure.move rfl) rfl ?_
        refine OL.pure (Pure.extract (vs := [.string (str (encode f)), .int .i64 0]) (i := 0) rfl rfl) rfl ?_
        refine OL.pure (Pure.extract (vs := [.string (str (encode f)), .int .i64 0]) (i := 1) rfl rfl) rfl ?_
        refine OL.pure (Pure.assign rfl) rfl ?_
        refine OL.pure (Pure.assign rfl) rfl ?_
        refine OL.nil ?_
        refine TE.seq ?_
        refine TE.region ?_
        refine OL.pure (Pure.move rfl) rfl ?_
        refine OL.call rfl Tryd.call25 rfl (size_no n (by omega) _) ?_
        rintro _ _ ⟨rfl, rfl⟩
        refine ⟨_, rfl, ?_⟩
        by_cases hneg : n < 0
        ·
          refine OL.pure (Pure.move rfl) rfl ?_
          refine OL.pure (Pure.extract (vs := [.int .i64 0, .int .i64 2]) (i := 0) rfl rfl) rfl ?_
          refine OL.pure (Pure.extract (vs := [.int .i64 0, .int .i64 2]) (i := 1) rfl rfl) rfl ?_
          refine OL.pure (Pure.assign rfl) rfl ?_
          refine OL.pure (Pure.assign rfl) rfl ?_
          refine OL.nil ?_
          refine TE.seq ?_
          refine TE.seq ?_
          refine TE.region ?_
          refine OL.call rfl Tryd.call15 rfl (known_any _ hK hF) ?_
          rintro _ w15 ⟨rfl, hc15⟩
          replace hK := hK.chg0 hc15
          replace hF := hF.chg0 hc15
          replace h9 := h9.chg0 hc15
          replace hC := hC.then_ hc15
          refine ⟨_, rfl, ?_⟩
          have hel := encode_len f
          refine OL.pure (Pure.not rfl) rfl ?_
          refine OL.pure (Pure.move rfl) rfl ?_
          refine OL.want rfl rfl rfl (Pure.move rfl _) rfl ?_
          refine OL.want rfl rfl rfl (Pure.eql rfl rfl _) rfl ?_
          refine OL.cast (.bool false) 49 rfl (rfl) ?_
          refine OL.want rfl rfl rfl (Pure.move rfl _) rfl ?_
          refine OL.want rfl rfl rfl (Pure.geq rfl rfl _) rfl ?_
          refine OL.cast (.bool false) 51 rfl (congrArg Value.bool (decide_eq_false (by omega))) ?_
          refine OL.want rfl rfl rfl (Pure.move rfl _) rfl ?_
          refine OL.pass rfl rfl rfl rfl rfl ?_
          refine OL.pass rfl rfl rfl rfl rfl ?_
          refine OL.want rfl rfl rfl (Pure.pickF rfl rfl _) rfl ?_
          refine OL.want rfl rfl rfl (Pure.neqBool' Tryd.underlying4 rfl rfl _) rfl ?_
          refine OL.cast (.bool false) 56 rfl (rfl) ?_
          refine OL.pure (Pure.pickF rfl rfl) rfl ?_
          refine OL.pure (Pure.move rfl) rfl ?_
          refine OL.want rfl rfl rfl (Pure.move rfl _) rfl ?_
          refine OL.want rfl rfl rfl (Pure.eql rfl rfl _) rfl ?_
          refine OL.cast (.bool false) 60 rfl (rfl) ?_
          refine OL.want rfl rfl rfl (Pure.move rfl _) rfl ?_
          refine OL.pass rfl rfl rfl rfl rfl ?_
          refine OL.pass rfl rfl rfl rfl rfl ?_
          refine OL.pass rfl rfl rfl rfl rfl ?_
          refine OL.pass rfl rfl rfl rfl rfl ?_
          refine OL.want rfl rfl rfl (Pure.pickF rfl rfl _) rfl ?_
          refine OL.pure (Pure.pickF rfl rfl) rfl ?_
          refine OL.pure (Pure.move rfl) rfl ?_
          refine OL.want rfl rfl rfl (Pure.move rfl _) rfl ?_
          refine OL.want rfl rfl rfl (Pure.neq rfl rfl _) rfl ?_
          refine OL.cast (.bool true) 70 rfl (rfl) ?_
          refine OL.want rfl rfl rfl (Pure.move rfl _) rfl ?_
          refine OL.want rfl rfl rfl (Pure.move rfl _) rfl ?_
          refine OL.want rfl rfl rfl (Pure.neq rfl rfl _) rfl ?_
          refine OL.cast (.bool false) 73 rfl (congrArg Value.bool (decide_eq_false (fun h => h rfl))) ?_
          refine OL.want rfl rfl rfl (Pure.move rfl _) rfl ?_
          refine OL.want rfl rfl rfl (Pure.move rfl _) rfl ?_
          refine OL.want rfl rfl rfl (Pure.neq rfl rfl _) rfl ?_
          refine OL.cast (.bool false) 76 rfl (rfl) ?_
          refine OL.want rfl rfl rfl (Pure.pickF rfl rfl _) rfl ?_
          refine OL.want rfl rfl rfl (Pure.pickT rfl rfl _) rfl ?_
          refine OL.pure (Pure.pickF rfl rfl) rfl ?_
          refine OL.nil ?_
          refine TE.condF rfl rfl ?_
          refine TE.skip ?_
          refine TE.seq ?_
          refine TE.seq ?_
          refine TE.region ?_
          refine OL.pure (Pure.move rfl) rfl ?_
          refine OL.pure (Pure.lenSlice Tryd.runUnderlying24 rfl) rfl ?_
          refine OL.pure (Pure.gtr rfl rfl) rfl ?_
          refine OL.cast (.bool false) 82 rfl (congrArg Value.bool (decide_eq_false (by omega))) ?_
          refine OL.nil ?_
          refine TE.condF rfl rfl ?_
          refine TE.skip ?_
          refine TE.seq ?_
          refine TE.region ?_
          refine OL.pure (Pure.move rfl) rfl ?_
          refine OL.call rfl Tryd.call13 rfl (decode_any (encode f) (by omega) f (42 + f.payload.length) 0 (by have := decode_encode hok []; rwa [List.append_nil] at this) _ hK hF) ?_
          rintro _ w16 ⟨rfl, hc16⟩
          replace hK := hK.chg0 hc16
          replace hF := hF.chg0 hc16
          replace h9 := h9.chg0 hc16
          replace hC := hC.then_ hc16
          refine ⟨_, rfl, ?_⟩
          refine OL.pure (Pure.move rfl) rfl ?_
          refine OL.pure (Pure.extract (vs := [.agg (f).cells.toArray, .int .i64 ((42 + f.payload.length : Nat) : Int), .int .i64 0]) (i := 0) rfl rfl) rfl ?_
          refine OL.pure (Pure.extract (vs := [.agg (f).cells.toArray, .int .i64 ((42 + f.payload.length : Nat) : Int), .int .i64 0]) (i := 1) rfl rfl) rfl ?_
          refine OL.pure (Pure.extract (vs := [.agg (f).cells.toArray, .int .i64 ((42 + f.payload.length : Nat) : Int), .int .i64 0]) (i := 2) rfl rfl) rfl ?_
          refine OL.alloc Tryd.zeroValue30 rfl ?_
          intro g14 w17 h14 hc17 hg_g14
          have lt_1_g14 : 1 < g14 := by have := hK.lt; omega
          have lt_0_g14 : 0 < g14 := by have := hF.lt; omega
          have lt_g9_g14 : g9 < g14 := by have := h9.lt; omega
          have ge_g14 : w.heap.size ≤ g14 := by have := hC.size; omega
          replace hK := hK.chg0 hc17
          replace hF := hF.chg0 hc17
          replace h9 := h9.chg0 hc17
          replace hC := hC.then_ hc17
          have h14 : Blk w17 g14 30 (Fr.zero.cells) := h14
          refine OL.storeRow (vs := (f).cells) rfl rfl (rfl) (by simp [Fr.cells, Value.oneCell']) h14 (Nat.le_refl 4) ?_
          intro w18 hb18 hc18
          replace hK := hK.chg hc18 (by simp; omega)
          replace hF := hF.chg hc18 (by simp; omega)
          replace h9 := h9.chg hc18 (by simp; omega)
          replace hC := hC.trans1 hc18 (by first | exact .inr (by omega) | exact .inl (by simp))
          replace h14 := hb18
          replace h14 := h14.all rfl
          refine OL.pure (Pure.assign rfl) rfl ?_
          refine OL.pure (Pure.assign rfl) rfl ?_
          refine OL.nil ?_
          refine TE.seq ?_
          refine TE.region ?_
          refine OL.pure (Pure.move rfl) rfl ?_
          refine OL.pure (Pure.eql rfl rfl) rfl ?_
          refine OL.cast (.bool true) 96 rfl (rfl) ?_
          refine OL.pure (Pure.move rfl) rfl ?_
          refine OL.want rfl rfl rfl (Pure.move rfl _) rfl ?_
          refine OL.want rfl rfl rfl (Pure.eql rfl rfl _) rfl ?_
          refine OL.cast (.bool true) 99 rfl (rfl) ?_
          refine OL.pure (Pure.pickT rfl rfl) rfl ?_
          refine OL.pure (Pure.move rfl) rfl ?_
          refine OL.want rfl rfl rfl (Pure.move rfl _) rfl ?_
          refine OL.want rfl rfl rfl (Pure.move rfl _) rfl ?_
          refine OL.want rfl rfl rfl (Pure.lenSlice Tryd.runUnderlying24 rfl _) rfl ?_
          refine OL.want rfl rfl rfl (Pure.add rfl rfl (i64 (by omega) (by omega)) _) rfl ?_
          refine OL.want rfl rfl rfl (Pure.eql rfl rfl _) rfl ?_
          refine OL.cast (.bool true) 106 rfl (congrArg Value.bool (decide_eq_true (by push_cast; omega))) ?_
          refine OL.pure (Pure.pickT rfl rfl) rfl ?_
          refine OL.pure (Pure.move rfl) rfl ?_
          refine OL.want rfl rfl rfl (Run.loadAll rfl Tryd.underlying30 rfl h14 (rfl)) rfl ?_
          refine OL.want rfl rfl rfl (Run.loadAll rfl Tryd.underlying30 rfl h9 (rfl)) rfl ?_
          refine OL.want rfl rfl rfl (Pure.eqlStruct (t := 30) (by kernel_rfl) (by kernel_rfl) (by kernel_rfl) rfl rfl (frm_eq f f) _) rfl ?_
          refine OL.cast (.bool true) 111 rfl (congrArg Value.bool (frSame_self f)) ?_
          refine OL.pure (Pure.pickT rfl rfl) rfl ?_
          refine OL.pure (Pure.assign rfl) rfl ?_
          refine OL.nil ?_
          exact TE.ret (vs := [.bool true]) Tryd.results8 (⟨rfl, trivial⟩) ⟨rfl, hC⟩
        ·
          refine OL.pure (Pure.move rfl) rfl ?_
          refine OL.pure (Pure.extract (vs := [.int .i64 0, .int .i64 2]) (i := 0) rfl rfl) rfl ?_
          refine OL.pure (Pure.extract (vs := [.int .i64 0, .int .i64 2]) (i := 1) rfl rfl) rfl ?_
          refine OL.pure (Pure.assign rfl) rfl ?_
          refine OL.pure (Pure.assign rfl) rfl ?_
          refine OL.nil ?_
          refine TE.seq ?_
          refine TE.seq ?_
          refine TE.region ?_
          refine OL.call rfl Tryd.call15 rfl (known_any _ hK hF) ?_
          rintro _ w19 ⟨rfl, hc19⟩
          replace hK := hK.chg0 hc19
          replace hF := hF.chg0 hc19
          replace h9 := h9.chg0 hc19
          replace hC := hC.then_ hc19
          refine ⟨_, rfl, ?_⟩
          have hel := encode_len f
          refine OL.pure (Pure.not rfl) rfl ?_
          refine OL.pure (Pure.move rfl) rfl ?_
          refine OL.want rfl rfl rfl (Pure.move rfl _) rfl ?_
          refine OL.want rfl rfl rfl (Pure.eql rfl rfl _) rfl ?_
          refine OL.cast (.bool false) 49 rfl (rfl) ?_
          refine OL.want rfl rfl rfl (Pure.move rfl _) rfl ?_
          refine OL.want rfl rfl rfl (Pure.geq rfl rfl _) rfl ?_
          refine OL.cast (.bool true) 51 rfl (congrArg Value.bool (decide_eq_true (by omega))) ?_
          refine OL.want rfl rfl rfl (Pure.move rfl _) rfl ?_
          refine OL.want rfl rfl rfl (Pure.move rfl _) rfl ?_
          refine OL.want rfl rfl rfl (Pure.leq rfl rfl _) rfl ?_
          refine OL.cast (.bool false) 54 rfl (congrArg Value.bool (decide_eq_false (by omega))) ?_
          refine OL.want rfl rfl rfl (Pure.pickT rfl rfl _) rfl ?_
          refine OL.want rfl rfl rfl (Pure.neqBool' Tryd.underlying4 rfl rfl _) rfl ?_
          refine OL.cast (.bool false) 56 rfl (rfl) ?_
          refine OL.pure (Pure.pickF rfl rfl) rfl ?_
          refine OL.pure (Pure.move rfl) rfl ?_
          refine OL.want rfl rfl rfl (Pure.move rfl _) rfl ?_
          refine OL.want rfl rfl rfl (Pure.eql rfl rfl _) rfl ?_
          refine OL.cast (.bool false) 60 rfl (rfl) ?_
          refine OL.want rfl rfl rfl (Pure.move rfl _) rfl ?_
          refine OL.pass rfl rfl rfl rfl rfl ?_
          refine OL.pass rfl rfl rfl rfl rfl ?_
          refine OL.pass rfl rfl rfl rfl rfl ?_
          refine OL.pass rfl rfl rfl rfl rfl ?_
          refine OL.want rfl rfl rfl (Pure.pickF rfl rfl _) rfl ?_
          refine OL.pure (Pure.pickF rfl rfl) rfl ?_
          refine OL.pure (Pure.move rfl) rfl ?_
          refine OL.want rfl rfl rfl (Pure.move rfl _) rfl ?_
          refine OL.want rfl rfl rfl (Pure.neq rfl rfl _) rfl ?_
          refine OL.cast (.bool true) 70 rfl (rfl) ?_
          refine OL.want rfl rfl rfl (Pure.move rfl _) rfl ?_
          refine OL.want rfl rfl rfl (Pure.move rfl _) rfl ?_
          refine OL.want rfl rfl rfl (Pure.neq rfl rfl _) rfl ?_
          refine OL.cast (.bool false) 73 rfl (congrArg Value.bool (decide_eq_false (fun h => h rfl))) ?_
          refine OL.want rfl rfl rfl (Pure.move rfl _) rfl ?_
          refine OL.want rfl rfl rfl (Pure.move rfl _) rfl ?_
          refine OL.want rfl rfl rfl (Pure.neq rfl rfl _) rfl ?_
          refine OL.cast (.bool false) 76 rfl (rfl) ?_
          refine OL.want rfl rfl rfl (Pure.pickF rfl rfl _) rfl ?_
          refine OL.want rfl rfl rfl (Pure.pickT rfl rfl _) rfl ?_
          refine OL.pure (Pure.pickF rfl rfl) rfl ?_
          refine OL.nil ?_
          refine TE.condF rfl rfl ?_
          refine TE.skip ?_
          refine TE.seq ?_
          refine TE.seq ?_
          refine TE.region ?_
          refine OL.pure (Pure.move rfl) rfl ?_
          refine OL.pure (Pure.lenSlice Tryd.runUnderlying24 rfl) rfl ?_
          refine OL.pure (Pure.gtr rfl rfl) rfl ?_
          refine OL.cast (.bool false) 82 rfl (congrArg Value.bool (decide_eq_false (by omega))) ?_
          refine OL.nil ?_
          refine TE.condF rfl rfl ?_
          refine TE.skip ?_
          refine TE.seq ?_
          refine TE.region ?_
          refine OL.pure (Pure.move rfl) rfl ?_
          refine OL.call rfl Tryd.call13 rfl (decode_any (encode f) (by omega) f (42 + f.payload.length) 0 (by have := decode_encode hok []; rwa [List.append_nil] at this) _ hK hF) ?_
          rintro _ w20 ⟨rfl, hc20⟩
          replace hK := hK.chg0 hc20
          replace hF := hF.chg0 hc20
          replace h9 := h9.chg0 hc20
          replace hC := hC.then_ hc20
          refine ⟨_, rfl, ?_⟩
          refine OL.pure (Pure.move rfl) rfl ?_
          refine OL.pure (Pure.extract (vs := [.agg (f).cells.toArray, .int .i64 ((42 + f.payload.length : Nat) : Int), .int .i64 0]) (i := 0) rfl rfl) rfl ?_
          refine OL.pure (Pure.extract (vs := [.agg (f).cells.toArray, .int .i64 ((42 + f.payload.length : Nat) : Int), .int .i64 0]) (i := 1) rfl rfl) rfl ?_
          refine OL.pure (Pure.extract (vs := [.agg (f).cells.toArray, .int .i64 ((42 + f.payload.length : Nat) : Int), .int .i64 0]) (i := 2) rfl rfl) rfl ?_
          refine OL.alloc Tryd.zeroValue30 rfl ?_
          intro g14 w21 h14 hc21 hg_g14
          have lt_1_g14 : 1 < g14 := by have := hK.lt; omega
          have lt_0_g14 : 0 < g14 := by have := hF.lt; omega
          have lt_g9_g14 : g9 < g14 := by have := h9.lt; omega
          have ge_g14 : w.heap.size ≤ g14 := by have := hC.size; omega
          replace hK := hK.chg0 hc21
          replace hF := hF.chg0 hc21
          replace h9 := h9.chg0 hc21
          replace hC := hC.then_ hc21
          have h14 : Blk w21 g14 30 (Fr.zero.cells) := h14
          refine OL.storeRow (vs := (f).cells) rfl rfl (rfl) (by simp [Fr.cells, Value.oneCell']) h14 (Nat.le_refl 4) ?_
          intro w22 hb22 hc22
          replace hK := hK.chg hc22 (by simp; omega)
          replace hF := hF.chg hc22 (by simp; omega)
          replace h9 := h9.chg hc22 (by simp; omega)
          replace hC := hC.trans1 hc22 (by first | exact .inr (by omega) | exact .inl (by simp))
          replace h14 := hb22
          replace h14 := h14.all rfl
          refine OL.pure (Pure.assign rfl) rfl ?_
          refine OL.pure (Pure.assign rfl) rfl ?_
          refine OL.nil ?_
          refine TE.seq ?_
          refine TE.region ?_
          refine OL.pure (Pure.move rfl) rfl ?_
          refine OL.pure (Pure.eql rfl rfl) rfl ?_
          refine OL.cast (.bool true) 96 rfl (rfl) ?_
          refine OL.pure (Pure.move rfl) rfl ?_
          refine OL.want rfl rfl rfl (Pure.move rfl _) rfl ?_
          refine OL.want rfl rfl rfl (Pure.eql rfl rfl _) rfl ?_
          refine OL.cast (.bool true) 99 rfl (rfl) ?_
          refine OL.pure (Pure.pickT rfl rfl) rfl ?_
          refine OL.pure (Pure.move rfl) rfl ?_
          refine OL.want rfl rfl rfl (Pure.move rfl _) rfl ?_
          refine OL.want rfl rfl rfl (Pure.move rfl _) rfl ?_
          refine OL.want rfl rfl rfl (Pure.lenSlice Tryd.runUnderlying24 rfl _) rfl ?_
          refine OL.want rfl rfl rfl (Pure.add rfl rfl (i64 (by omega) (by omega)) _) rfl ?_
          refine OL.want rfl rfl rfl (Pure.eql rfl rfl _) rfl ?_
          refine OL.cast (.bool true) 106 rfl (congrArg Value.bool (decide_eq_true (by push_cast; omega))) ?_
          refine OL.pure (Pure.pickT rfl rfl) rfl ?_
          refine OL.pure (Pure.move rfl) rfl ?_
          refine OL.want rfl rfl rfl (Run.loadAll rfl Tryd.underlying30 rfl h14 (rfl)) rfl ?_
          refine OL.want rfl rfl rfl (Run.loadAll rfl Tryd.underlying30 rfl h9 (rfl)) rfl ?_
          refine OL.want rfl rfl rfl (Pure.eqlStruct (t := 30) (by kernel_rfl) (by kernel_rfl) (by kernel_rfl) rfl rfl (frm_eq f f) _) rfl ?_
          refine OL.cast (.bool true) 111 rfl (congrArg Value.bool (frSame_self f)) ?_
          refine OL.pure (Pure.pickT rfl rfl) rfl ?_
          refine OL.pure (Pure.assign rfl) rfl ?_
          refine OL.nil ?_
          exact TE.ret (vs := [.bool true]) Tryd.results8 (⟨rfl, trivial⟩) ⟨rfl, hC⟩

end Go.Proofs.YtigjmemoaapmgaaDoor
