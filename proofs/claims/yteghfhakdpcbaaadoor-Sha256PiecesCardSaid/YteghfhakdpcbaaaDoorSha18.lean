/- The law of a text that is written in pieces, walked -/
import Derived.Test.YteghfhakdpcbaaaDoorProg
import Derived.Test.YteghfhakdpcbaaaDoorEng5
import Derived.Test.YteghfhakdpcbaaaDoorShaSpec6
import Derived.Test.YteghfhakdpcbaaaDoorSha16
set_option linter.unusedVariables false
set_option maxRecDepth 4000
namespace Go.Proofs.YteghfhakdpcbaaaDoor
open Go.V Go.Sha
set_option maxHeartbeats 1000000 in
theorem pieces_law_any {tK : TypeId} (s0 b0 : List UInt8) (A : Option Addr) (cap : Nat) (cs : List UInt8) (w : World) (hK : Blk w 0 tK (iv .u32 K)) (hA : CellsB w A cs) : Calls Tryd.prog 7 #[.string (str s0), .string (str b0), .slice A cs.length cap] w (RetC (.bool true) w) := by
  refine calls_of_TE (vs := [.string (str s0), .string (str b0), .slice A cs.length cap]) Tryd.func7 Tryd.ntmps7 rfl (by simp) ?_
  have hC : Chg [] w w := Chg.refl _ _
  have h0w : 0 < w.heap.size := hK.lt
  have hsh_s := fun w => short_any s0 600 w
  have hl_s : (s0.take 600).length ≤ 600 := by simp; omega
  generalize s0.take 600 = m at hsh_s hl_s
  have hsh_b := fun w => short_any b0 200 w
  have hl_b : (b0.take 200).length ≤ 200 := by simp; omega
  generalize b0.take 200 = b at hsh_b hl_b
  refine TE.seq ?_
  refine TE.region ?_
  refine OL.pure (Pure.assign rfl) rfl ?_
  refine OL.nil ?_
  refine TE.seq ?_
  refine TE.region ?_
  refine OL.pure (Pure.move rfl) rfl ?_
  refine OL.call rfl Tryd.call13 rfl (hsh_s _) ?_
  rintro _ _ ⟨rfl, rfl⟩
  refine ⟨_, rfl, ?_⟩
  refine OL.pure (Pure.move rfl) rfl ?_
  refine OL.call rfl Tryd.call13 rfl (hsh_b _) ?_
  rintro _ _ ⟨rfl, rfl⟩
  refine ⟨_, rfl, ?_⟩
  refine OL.pure (Pure.assign rfl) rfl ?_
  refine OL.pure (Pure.assign rfl) rfl ?_
  refine OL.nil ?_
  refine TE.seq ?_
  refine TE.region ?_
  refine OL.call rfl Tryd.call24 rfl (new_any _) ?_
  rintro _ w1 ⟨g, rfl, hh, hc1, hg_g⟩
  have lt_0_g : 0 < g := by have := hK.lt; omega
  have ge_g : w.heap.size ≤ g := by have := hC.size; omega
  replace hK := hK.chg0 hc1
  replace hC := hC.then_ hc1
  refine ⟨_, rfl, ?_⟩
  have ge_g : w.heap.size ≤ g := by have := hC.size; omega
  refine OL.pure (Pure.assign rfl) rfl ?_
  refine OL.nil ?_
  refine TE.seq ?_
  refine TE.seq ?_
  refine TE.region ?_
  refine OL.call rfl Tryd.call14 rfl (known_any _ hK) ?_
  rintro _ w2 ⟨rfl, hc2⟩
  replace hK := hK.chg0 hc2
  replace hh := hh.chg0 hc2
  replace hC := hC.then_ hc2
  refine ⟨_, rfl, ?_⟩
  refine OL.pure (Pure.not rfl) rfl ?_
  refine OL.pure (Pure.move rfl) rfl ?_
  refine OL.want rfl rfl rfl (Pure.move rfl _) rfl ?_
  refine OL.want rfl rfl rfl (Pure.eqlNil Tryd.underlying44 rfl rfl _) rfl ?_
  refine OL.pure (Pure.pickF rfl rfl) rfl ?_
  refine OL.pure (Pure.move rfl) rfl ?_
  refine OL.want rfl rfl rfl (Pure.move rfl _) rfl ?_
  refine OL.want rfl rfl rfl (Pure.move rfl _) rfl ?_
  refine OL.callG rfl rfl rfl rfl Tryd.call25 rfl (write_any [] b (by simp; omega) g (by omega) _ hK hh) ?_
  rintro _ w3 ⟨rfl, hc3, hx_hc3⟩
  replace hK := hK.chg hc3 (by simp; omega)
  replace hC := hC.trans1 hc3 (by first | exact .inr (by omega) | exact .inl (by simp))
  replace hh : Blk w3 g 66 (hashCells ([] ++ b)) := hx_hc3
  refine ⟨_, rfl, ?_⟩
  refine OL.want rfl rfl rfl (Pure.neq rfl rfl _) rfl ?_
  refine OL.cast (.bool false) 26 rfl (rfl) ?_
  refine OL.pure (Pure.pickF rfl rfl) rfl ?_
  refine OL.pure (Pure.move rfl) rfl ?_
  refine OL.want rfl rfl rfl (Pure.move rfl _) rfl ?_
  refine OL.callG rfl rfl rfl rfl Tryd.call26 rfl (reset_any _ g _ hh) ?_
  rintro _ w4 ⟨rfl, hc4, hx_hc4⟩
  replace hK := hK.chg hc4 (by simp; omega)
  replace hC := hC.trans1 hc4 (by first | exact .inr (by omega) | exact .inl (by simp))
  replace hh : Blk w4 g 66 (hashCells []) := hx_hc4
  refine ⟨_, rfl, ?_⟩
  replace hh : Blk w4 g 66 (hashCells (m.take 0)) := hh
  have hdm : m.drop 0 = m := rfl
  refine OL.want rfl rfl rfl (Pure.neq rfl rfl _) rfl ?_
  refine OL.cast (.bool false) 31 rfl (rfl) ?_
  refine OL.pure (Pure.pickF rfl rfl) rfl ?_
  refine OL.nil ?_
  refine TE.condF rfl rfl ?_
  refine TE.skip ?_
  refine TE.seq ?_
  refine TE.region ?_
  refine OL.pure (Pure.move rfl) rfl ?_
  refine OL.pure (Pure.assign rfl) rfl ?_
  refine OL.nil ?_
  refine TE.seq ?_
  refine TE.seq ?_
  refine TE.region ?_
  refine OL.pure (Pure.assign rfl) rfl ?_
  refine OL.nil ?_
  refine TE.block ?_
  refine TE.loopInv (σ := Nat × Nat) [0, 2, 7, 8, 9] (fun s_ w_ => match s_ with | (j, q) => j ≤ cs.length ∧ j ≤ 40 ∧ q ≤ m.length ∧ Chg [] w w_ ∧ Blk w_ 0 tK (iv .u32 K) ∧ Blk w_ g 66 (hashCells (m.take q))) (fun s_ => [(0, .string (str m)), (2, .slice A cs.length cap), (7, .pointer (some ⟨g, 0, none⟩)), (8, .string (str (m.drop s_.2))), (9, .int .i64 (↑s_.1))]) (fun s_ => cs.length - s_.1) (0, 0) ⟨by omega, by omega, by omega, hC, hK, hh⟩ rfl ?_
  rintro ⟨j, q⟩ w5 ⟨hj, hj40, hq, hC, hK, hh⟩ ih5
  try dsimp only
  by_cases hlt : j < cs.length
  ·
    refine TE.seq ?_
    refine TE.seq ?_
    refine TE.region ?_
    refine OL.pure (Pure.move rfl) rfl ?_
    refine OL.pure (Pure.move rfl) rfl ?_
    refine OL.pure (Pure.lenSlice Tryd.runUnderlying29 rfl) rfl ?_
    refine OL.pure (Pure.lss rfl rfl) rfl ?_
    refine OL.cast (.bool true) 37 rfl (congrArg Value.bool (decide_eq_true (by omega))) ?_
    refine OL.pure (Pure.move rfl) rfl ?_
    refine OL.want rfl rfl rfl (Pure.move rfl _) rfl ?_
    refine OL.want rfl rfl rfl (Pure.lss rfl rfl _) rfl ?_
    refine OL.pure (Pure.pickT rfl rfl) rfl ?_
    refine OL.nil ?_
    refine TE.ite rfl (fun h40 => ?_) (fun h40 => ?_)
    ·
      obtain ⟨gc, o, rfl, hcell⟩ := hA j hlt
      replace hcell := cell_chg hcell hC (by simp)
      refine TE.skip ?_
      refine TE.seq ?_
      refine TE.block ?_
      refine TE.seq ?_
      refine TE.region ?_
      refine OL.pure (Pure.move rfl) rfl ?_
      refine OL.pure (Pure.move rfl) rfl ?_
      refine OL.pure (Pure.indexAddrS (r := o + j) Tryd.runUnderlying29 Tryd.sizeOf5 rfl rfl (by omega) (by omega) (by omega)) rfl ?_
      refine OL.val (Run.loadCell rfl Tryd.isAgg5 hcell) rfl ?_
      refine OL.pure (Pure.conv Tryd.runUnderlying5 Tryd.runUnderlying3 rfl (i64bt _ _)) rfl ?_
      refine OL.pure (Pure.move rfl) rfl ?_
      refine OL.pure (Pure.lenStr Tryd.runUnderlying9 rfl) rfl ?_
      refine OL.pure (Pure.min rfl rfl) rfl ?_
      obtain ⟨k, hk⟩ : ∃ k : Nat, k = min (cs.getD j 0).toNat (m.length - q) := ⟨_, rfl⟩
      have hdq : (m.drop q).length = m.length - q := by simp
      have hkq : q + k ≤ m.length := by omega
      refine OL.cast (.int .i64 (k : Int)) 51 rfl (congrArg (Value.int .i64) (by rw [hdq, hk]; unfold bt; omega)) ?_
      refine OL.pure (Pure.assign rfl) rfl ?_
      refine OL.nil ?_
      refine TE.seq ?_
      refine TE.seq ?_
      refine TE.region ?_
      refine OL.pure (Pure.move rfl) rfl ?_
      refine OL.pure (Pure.move rfl) rfl ?_
      refine OL.pure (Pure.move rfl) rfl ?_
      refine OL.pure (Pure.sliceTo (l := (m.drop q)) (q := k) Tryd.underlying9 rfl rfl (by omega) (by omega)) rfl ?_
      refine OL.call rfl Tryd.call25 rfl (write_any (m.take q) ((m.drop q).take k) (by simp; omega) g (by omega) _ hK hh) ?_
      rintro _ w6 ⟨rfl, hc6, hx_hc6⟩
      replace hK := hK.chg hc6 (by simp; omega)
      replace hC := hC.trans1 hc6 (by first | exact .inr (by omega) | exact .inl (by simp))
      replace hh : Blk w6 g 66 (hashCells (m.take q ++ (m.drop q).take k)) := hx_hc6
      refine ⟨_, rfl, ?_⟩
      rw [take_step] at hh
      have hqk : (m.take (q + k)).length = q + k := by simp; omega
      refine OL.pure (Pure.neq rfl rfl) rfl ?_
      refine OL.cast (.bool false) 57 rfl (rfl) ?_
      refine OL.pure (Pure.move rfl) rfl ?_
      refine OL.want rfl rfl rfl (Pure.move rfl _) rfl ?_
      refine OL.callG rfl rfl rfl rfl Tryd.call27 rfl (hsum_any (m.take (q + k)) (by omega) g _ hK hh) ?_
      rintro _ w7 ⟨rfl, hc7⟩
      replace hK := hK.chg0 hc7
      replace hh := hh.chg0 hc7
      replace hC := hC.then_ hc7
      refine ⟨_, rfl, ?_⟩
      refine OL.want rfl rfl rfl (Pure.move rfl _) rfl ?_
      refine OL.callG rfl rfl rfl rfl Tryd.call27 rfl (hsum_any (m.take (q + k)) (by omega) g _ hK hh) ?_
      rintro _ w8 ⟨rfl, hc8⟩
      replace hK := hK.chg0 hc8
      replace hh := hh.chg0 hc8
      replace hC := hC.then_ hc8
      refine ⟨_, rfl, ?_⟩
      refine OL.want rfl rfl rfl (Pure.neqArr (xs := sum (m.take (q + k))) (ys := sum (m.take (q + k))) Tryd.underlying25 Tryd.underlying5 info5 (by kernel_rfl) Tryd.eqGuardType25 rfl rfl (rfl) (rfl) _) rfl ?_
      refine OL.cast (.bool false) 63 rfl (congrArg Value.bool (decide_eq_false (fun h => h rfl))) ?_
      refine OL.pure (Pure.pickF rfl rfl) rfl ?_
      refine OL.nil ?_
      refine TE.condF rfl rfl ?_
      refine TE.skip ?_
      refine TE.seq ?_
      refine TE.region ?_
      refine OL.pure (Pure.move rfl) rfl ?_
      refine OL.pure (Pure.move rfl) rfl ?_
      refine OL.pure (Pure.sliceFrom (l := (m.drop q)) (p := k) Tryd.underlying9 rfl rfl (by omega) (by omega)) rfl ?_
      refine OL.pure (Pure.assign rfl) rfl ?_
      refine OL.cast (.string (str (m.drop (q + k)))) 8 rfl (by rw [← List.drop_drop]) ?_
      have hdk : (m.drop (q + k)).length = m.length - (q + k) := by simp
      refine OL.nil ?_
      refine TE.seq ?_
      refine TE.region ?_
      refine OL.pure (Pure.move rfl) rfl ?_
      refine OL.call rfl Tryd.call28 rfl (len_any (m.take (q + k)) g _ hh) ?_
      rintro _ _ ⟨rfl, rfl⟩
      refine ⟨_, rfl, ?_⟩
      refine OL.pure (Pure.move rfl) rfl ?_
      refine OL.pure (Pure.lenStr Tryd.runUnderlying9 rfl) rfl ?_
      refine OL.pure (Pure.move rfl) rfl ?_
      refine OL.pure (Pure.lenStr Tryd.runUnderlying9 rfl) rfl ?_
      refine OL.pure (Pure.sub rfl rfl (i64 (by omega) (by omega))) rfl ?_
      refine OL.pure (Pure.neq rfl rfl) rfl ?_
      refine OL.cast (.bool false) 75 rfl (congrArg Value.bool (decide_eq_false (fun h => h (by omega)))) ?_
      refine OL.nil ?_
      refine TE.condF rfl rfl ?_
      refine TE.skip ?_
      refine TE.inBlock ?_
      refine TE.region ?_
      refine OL.pure (Pure.move rfl) rfl ?_
      refine OL.pure (Pure.add rfl rfl (i64 (by omega) (by omega))) rfl ?_
      refine OL.pure (Pure.assign rfl) rfl ?_
      refine OL.nil ?_
      exact TE.sub [0, 2, 7, 8, 9] rfl (ih5 (j + 1, q + k) _ ⟨by omega, by omega, hkq, hC, hK, hh⟩ (by simp only []; omega))
    ·
      have htd : m.take q ++ m.drop q = m := List.take_append_drop q m
      have hdl : (m.drop q).length ≤ m.length := by simp
      refine TE.exit rfl ?_
      refine TE.seq ?_
      refine TE.region ?_
      refine OL.pure (Pure.move rfl) rfl ?_
      refine OL.pure (Pure.move rfl) rfl ?_
      refine OL.call rfl Tryd.call25 rfl (write_any (m.take q) (m.drop q) (by rw [← List.length_append, htd]; omega) g (by omega) _ hK hh) ?_
      rintro _ w9 ⟨rfl, hc9, hx_hc9⟩
      replace hK := hK.chg hc9 (by simp; omega)
      replace hC := hC.trans1 hc9 (by first | exact .inr (by omega) | exact .inl (by simp))
      replace hh : Blk w9 g 66 (hashCells (m.take q ++ m.drop q)) := hx_hc9
      refine ⟨_, rfl, ?_⟩
      rw [htd] at hh
      refine OL.pure (Pure.eql rfl rfl) rfl ?_
      refine OL.cast (.bool true) 79 rfl (rfl) ?_
      refine OL.pure (Pure.move rfl) rfl ?_
      refine OL.want rfl rfl rfl (Pure.move rfl _) rfl ?_
      refine OL.callG rfl rfl rfl rfl Tryd.call28 rfl (len_any m g _ hh) ?_
      rintro _ _ ⟨rfl, rfl⟩
      refine ⟨_, rfl, ?_⟩
      refine OL.want rfl rfl rfl (Pure.move rfl _) rfl ?_
      refine OL.want rfl rfl rfl (Pure.lenStr Tryd.runUnderlying9 rfl _) rfl ?_
      refine OL.want rfl rfl rfl (Pure.eql rfl rfl _) rfl ?_
      refine OL.cast (.bool true) 85 rfl (congrArg Value.bool (decide_eq_true (rfl))) ?_
      refine OL.pure (Pure.pickT rfl rfl) rfl ?_
      refine OL.pure (Pure.move rfl) rfl ?_
      refine OL.want rfl rfl rfl (Pure.move rfl _) rfl ?_
      refine OL.callG rfl rfl rfl rfl Tryd.call27 rfl (hsum_any m (by omega) g _ hK hh) ?_
      rintro _ w10 ⟨rfl, hc10⟩
      replace hK := hK.chg0 hc10
      replace hh := hh.chg0 hc10
      replace hC := hC.then_ hc10
      refine ⟨_, rfl, ?_⟩
      refine OL.want rfl rfl rfl (Pure.move rfl _) rfl ?_
      refine OL.callG rfl rfl rfl rfl Tryd.call16 rfl (rsum_any m (by omega) _) ?_
      rintro _ w11 ⟨rfl, hc11⟩
      replace hK := hK.chg0 hc11
      replace hh := hh.chg0 hc11
      replace hC := hC.then_ hc11
      refine ⟨_, rfl, ?_⟩
      refine OL.want rfl rfl rfl (Pure.eqlArr (xs := sum m) (ys := sum m) Tryd.underlying24 Tryd.underlying5 info5 (by kernel_rfl) Tryd.eqGuardType24 rfl rfl (rfl) (rfl) _) rfl ?_
      refine OL.cast (.bool true) 92 rfl (congrArg Value.bool (decide_eq_true rfl)) ?_
      refine OL.pure (Pure.pickT rfl rfl) rfl ?_
      refine OL.pure (Pure.assign rfl) rfl ?_
      refine OL.nil ?_
      exact TE.ret (vs := [.bool true]) Tryd.results7 (⟨rfl, trivial⟩) ⟨rfl, hC⟩
  ·
    have htd : m.take q ++ m.drop q = m := List.take_append_drop q m
    have hdl : (m.drop q).length ≤ m.length := by simp
    refine TE.seq ?_
    refine TE.seq ?_
    refine TE.region ?_
    refine OL.pure (Pure.move rfl) rfl ?_
    refine OL.pure (Pure.move rfl) rfl ?_
    refine OL.pure (Pure.lenSlice Tryd.runUnderlying29 rfl) rfl ?_
    refine OL.pure (Pure.lss rfl rfl) rfl ?_
    refine OL.cast (.bool false) 37 rfl (congrArg Value.bool (decide_eq_false (by omega))) ?_
    refine OL.pure (Pure.move rfl) rfl ?_
    refine OL.pass rfl rfl rfl rfl rfl ?_
    refine OL.pass rfl rfl rfl rfl rfl ?_
    refine OL.pure (Pure.pickF rfl rfl) rfl ?_
    refine OL.nil ?_
    refine TE.condF rfl rfl ?_
    refine TE.exit rfl ?_
    refine TE.seq ?_
    refine TE.region ?_
    refine OL.pure (Pure.move rfl) rfl ?_
    refine OL.pure (Pure.move rfl) rfl ?_
    refine OL.call rfl Tryd.call25 rfl (write_any (m.take q) (m.drop q) (by rw [← List.length_append, htd]; omega) g (by omega) _ hK hh) ?_
    rintro _ w12 ⟨rfl, hc12, hx_hc12⟩
    replace hK := hK.chg hc12 (by simp; omega)
    replace hC := hC.trans1 hc12 (by first | exact .inr (by omega) | exact .inl (by simp))
    replace hh : Blk w12 g 66 (hashCells (m.take q ++ m.drop q)) := hx_hc12
    refine ⟨_, rfl, ?_⟩
    rw [htd] at hh
    refine OL.pure (Pure.eql rfl rfl) rfl ?_
    refine OL.cast (.bool true) 79 rfl (rfl) ?_
    refine OL.pure (Pure.move rfl) rfl ?_
    refine OL.want rfl rfl rfl (Pure.move rfl _) rfl ?_
    refine OL.callG rfl rfl rfl rfl Tryd.call28 rfl (len_any m g _ hh) ?_
    rintro _ _ ⟨rfl, rfl⟩
    refine ⟨_, rfl, ?_⟩
    refine OL.want rfl rfl rfl (Pure.move rfl _) rfl ?_
    refine OL.want rfl rfl rfl (Pure.lenStr Tryd.runUnderlying9 rfl _) rfl ?_
    refine OL.want rfl rfl rfl (Pure.eql rfl rfl _) rfl ?_
    refine OL.cast (.bool true) 85 rfl (congrArg Value.bool (decide_eq_true (rfl))) ?_
    refine OL.pure (Pure.pickT rfl rfl) rfl ?_
    refine OL.pure (Pure.move rfl) rfl ?_
    refine OL.want rfl rfl rfl (Pure.move rfl _) rfl ?_
    refine OL.callG rfl rfl rfl rfl Tryd.call27 rfl (hsum_any m (by omega) g _ hK hh) ?_
    rintro _ w13 ⟨rfl, hc13⟩
    replace hK := hK.chg0 hc13
    replace hh := hh.chg0 hc13
    replace hC := hC.then_ hc13
    refine ⟨_, rfl, ?_⟩
    refine OL.want rfl rfl rfl (Pure.move rfl _) rfl ?_
    refine OL.callG rfl rfl rfl rfl Tryd.call16 rfl (rsum_any m (by omega) _) ?_
    rintro _ w14 ⟨rfl, hc14⟩
    replace hK := hK.chg0 hc14
    replace hh := hh.chg0 hc14
    replace hC := hC.then_ hc14
    refine ⟨_, rfl, ?_⟩
    refine OL.want rfl rfl rfl (Pure.eqlArr (xs := sum m) (ys := sum m) Tryd.underlying24 Tryd.underlying5 info5 (by kernel_rfl) Tryd.eqGuardType24 rfl rfl (rfl) (rfl) _) rfl ?_
    refine OL.cast (.bool true) 92 rfl (congrArg Value.bool (decide_eq_true rfl)) ?_
    refine OL.pure (Pure.pickT rfl rfl) rfl ?_
    refine OL.pure (Pure.assign rfl) rfl ?_
    refine OL.nil ?_
    exact TE.ret (vs := [.bool true]) Tryd.results7 (⟨rfl, trivial⟩) ⟨rfl, hC⟩

end Go.Proofs.YteghfhakdpcbaaaDoor
