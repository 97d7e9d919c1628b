/- The law that joined texts are apart, walked -/
import Derived.Test.YteghfhakdpcbaaaDoorProg
import Derived.Test.YteghfhakdpcbaaaDoorEng4
import Derived.Test.YteghfhakdpcbaaaDoorShaSpec4
import Derived.Test.YteghfhakdpcbaaaDoorSha9
set_option linter.unusedVariables false
set_option maxRecDepth 4000
namespace Go.Proofs.YteghfhakdpcbaaaDoor
open Go.V Go.Sha
theorem apart_law_any {tK : TypeId} (t u : UInt8) (A B : Option Addr) (ca cb : Nat) (L M : List (List UInt8)) (w : World) (hK : Blk w 0 tK (iv .u32 K)) (hA : Cells w A L) (hB : Cells w B M) : Calls Tryd.prog 6 #[.agg (iv .u8 [((t.toNat : Nat) : Int), ((u.toNat : Nat) : Int)]).toArray, .slice A L.length ca, .slice B M.length cb] w (RetC (.bool true) w) := by
  refine calls_of_TE (vs := [.agg (iv .u8 [((t.toNat : Nat) : Int), ((u.toNat : Nat) : Int)]).toArray, .slice A L.length ca, .slice B M.length cb]) Tryd.func6 Tryd.ntmps6 rfl (by simp) ?_
  have hC : Chg [] w w := Chg.refl _ _
  have hl_L1 := cutL_len L
  have hm_L1 := cutL_mem L
  have hb_L1 := cutL_bound L
  have hlist_L1 := fun w hA => list_any A ca L w hA
  generalize cutL L = L1 at hl_L1 hm_L1 hb_L1 hlist_L1
  have hl_M1 := cutL_len M
  have hm_M1 := cutL_mem M
  have hb_M1 := cutL_bound M
  have hlist_M1 := fun w hA => list_any B cb M w hA
  generalize cutL M = M1 at hl_M1 hm_M1 hb_M1 hlist_M1
  refine TE.seq ?_
  refine TE.region ?_
  refine OL.box rfl rfl ?_
  intro gt w1 ht hc1 hg_gt
  have lt_0_gt : 0 < gt := by have := hK.lt; omega
  have nb_hA_gt := hA.fresh (g := gt) (by omega)
  have nb_hB_gt := hB.fresh (g := gt) (by omega)
  have ge_gt : w.heap.size ≤ gt := by have := hC.size; omega
  replace hK := hK.chg0 hc1
  replace hA := hA.chg0 hc1
  replace hB := hB.chg0 hc1
  replace hC := hC.then_ hc1
  have ht : Blk w1 gt 32 (iv .u8 [((t.toNat : Nat) : Int), ((u.toNat : Nat) : Int)]) := ht
  refine OL.pure (Pure.assign rfl) rfl ?_
  refine OL.nil ?_
  refine TE.seq ?_
  refine TE.region ?_
  refine OL.pure (Pure.move rfl) rfl ?_
  refine OL.call rfl Tryd.call21 rfl (hlist_L1 _ hA) ?_
  rintro _ w2 ⟨_, rfl, hv_A1, hc2, _⟩
  obtain ⟨A1, ca1, rfl, hA1⟩ := hv_A1.cells rfl
  replace hK := hK.chg0 hc2
  replace hA := hA.chg0 hc2
  replace hB := hB.chg0 hc2
  replace ht := ht.chg0 hc2
  replace hC := hC.then_ hc2
  refine ⟨_, rfl, ?_⟩
  refine OL.pure (Pure.move rfl) rfl ?_
  refine OL.call rfl Tryd.call21 rfl (hlist_M1 _ hB) ?_
  rintro _ w3 ⟨_, rfl, hv_B1, hc3, _⟩
  obtain ⟨B1, cb1, rfl, hB1⟩ := hv_B1.cells rfl
  replace hK := hK.chg0 hc3
  replace hA := hA.chg0 hc3
  replace hB := hB.chg0 hc3
  replace ht := ht.chg0 hc3
  replace hA1 := hA1.chg0 hc3
  replace hC := hC.then_ hc3
  refine ⟨_, rfl, ?_⟩
  refine OL.pure (Pure.assign rfl) rfl ?_
  refine OL.pure (Pure.assign rfl) rfl ?_
  refine OL.nil ?_
  refine TE.seq ?_
  refine TE.region ?_
  refine OL.pure (Pure.indexAddrA (r := 0) Tryd.runUnderlying32 Tryd.sizeOf5 rfl rfl (by omega) (by omega) (by omega)) rfl ?_
  refine OL.val (Run.load (i := 0) rfl Tryd.isAgg5 ht (by omega) rfl) rfl ?_
  refine OL.pure (Pure.move rfl) rfl ?_
  refine OL.call rfl Tryd.call22 rfl (join_any t A1 ca1 L1 (by omega) (by omega) _ hA1) ?_
  rintro _ w4 ⟨rfl, hc4⟩
  replace hK := hK.chg0 hc4
  replace ht := ht.chg0 hc4
  replace hA1 := hA1.chg0 hc4
  replace hB1 := hB1.chg0 hc4
  replace hC := hC.then_ hc4
  refine ⟨_, rfl, ?_⟩
  refine OL.pure (Pure.move rfl) rfl ?_
  refine OL.pure (Pure.extract (vs := [.string (str (join t L1)), .int .i64 0]) (i := 0) rfl rfl) rfl ?_
  refine OL.pure (Pure.extract (vs := [.string (str (join t L1)), .int .i64 0]) (i := 1) rfl rfl) rfl ?_
  refine OL.pure (Pure.assign rfl) rfl ?_
  refine OL.pure (Pure.assign rfl) rfl ?_
  refine OL.nil ?_
  refine TE.seq ?_
  refine TE.region ?_
  refine OL.pure (Pure.indexAddrA (r := 1) Tryd.runUnderlying32 Tryd.sizeOf5 rfl rfl (by omega) (by omega) (by omega)) rfl ?_
  refine OL.val (Run.load (i := 1) rfl Tryd.isAgg5 ht (by omega) rfl) rfl ?_
  refine OL.pure (Pure.move rfl) rfl ?_
  refine OL.call rfl Tryd.call22 rfl (join_any u B1 cb1 M1 (by omega) (by omega) _ hB1) ?_
  rintro _ w5 ⟨rfl, hc5⟩
  replace hK := hK.chg0 hc5
  replace ht := ht.chg0 hc5
  replace hA1 := hA1.chg0 hc5
  replace hB1 := hB1.chg0 hc5
  replace hC := hC.then_ hc5
  refine ⟨_, rfl, ?_⟩
  have hinj := join_inj (s := t) (t := u) (fun p hp => Nat.lt_of_le_of_lt (hm_L1 p hp) (by decide)) (fun p hp => Nat.lt_of_le_of_lt (hm_M1 p hp) (by decide)) (show L1.length < 256 by omega) (show M1.length < 256 by omega)
  have htu : ((t.toNat : Nat) : Int) = ((u.toNat : Nat) : Int) ↔ t = u := ⟨fun h => UInt8.toNat_inj.1 (by omega), fun h => by rw [h]⟩
  refine OL.pure (Pure.move rfl) rfl ?_
  refine OL.pure (Pure.extract (vs := [.string (str (join u M1)), .int .i64 0]) (i := 0) rfl rfl) rfl ?_
  refine OL.pure (Pure.extract (vs := [.string (str (join u M1)), .int .i64 0]) (i := 1) rfl rfl) rfl ?_
  refine OL.pure (Pure.assign rfl) rfl ?_
  refine OL.pure (Pure.assign rfl) rfl ?_
  refine OL.nil ?_
  refine TE.seq ?_
  refine TE.region ?_
  refine OL.call rfl Tryd.call14 rfl (known_any _ hK) ?_
  rintro _ w6 ⟨rfl, hc6⟩
  replace hK := hK.chg0 hc6
  replace ht := ht.chg0 hc6
  replace hA1 := hA1.chg0 hc6
  replace hB1 := hB1.chg0 hc6
  replace hC := hC.then_ hc6
  refine ⟨_, rfl, ?_⟩
  refine OL.pure (Pure.move rfl) rfl ?_
  refine OL.want rfl rfl rfl (Pure.move rfl _) rfl ?_
  refine OL.want rfl rfl rfl (Pure.eql rfl rfl _) rfl ?_
  refine OL.cast (.bool true) 32 rfl (rfl) ?_
  refine OL.pure (Pure.pickT rfl rfl) rfl ?_
  refine OL.pure (Pure.move rfl) rfl ?_
  refine OL.want rfl rfl rfl (Pure.move rfl _) rfl ?_
  refine OL.want rfl rfl rfl (Pure.eql rfl rfl _) rfl ?_
  refine OL.cast (.bool true) 36 rfl (rfl) ?_
  refine OL.pure (Pure.pickT rfl rfl) rfl ?_
  refine OL.pure (Pure.move rfl) rfl ?_
  refine OL.want rfl rfl rfl (Pure.move rfl _) rfl ?_
  refine OL.want rfl rfl rfl (Pure.move rfl _) rfl ?_
  refine OL.want rfl rfl rfl (Pure.strEql (l := (join t L1)) (m := (join u M1)) rfl rfl _) rfl ?_
  refine OL.want rfl rfl rfl (Pure.indexAddrA (r := 0) Tryd.runUnderlying32 Tryd.sizeOf5 rfl rfl (by omega) (by omega) (by omega) _) rfl ?_
  refine OL.want rfl rfl rfl (Run.load (i := 0) rfl Tryd.isAgg5 ht (by omega) rfl) rfl ?_
  refine OL.want rfl rfl rfl (Pure.indexAddrA (r := 1) Tryd.runUnderlying32 Tryd.sizeOf5 rfl rfl (by omega) (by omega) (by omega) _) rfl ?_
  refine OL.want rfl rfl rfl (Run.load (i := 1) rfl Tryd.isAgg5 ht (by omega) rfl) rfl ?_
  refine OL.want rfl rfl rfl (Pure.eql rfl rfl _) rfl ?_
  by_cases hc : t = u
  ·
    refine OL.cast (.bool true) 46 rfl (congrArg Value.bool (decide_eq_true (htu.2 hc))) ?_
    refine OL.want rfl rfl rfl (Pure.move rfl _) rfl ?_
    refine OL.want rfl rfl rfl (Pure.move rfl _) rfl ?_
    refine OL.want rfl rfl rfl (Pure.move rfl _) rfl ?_
    refine OL.callG rfl rfl rfl rfl Tryd.call23 rfl (same_any A1 B1 ca1 cb1 L1 M1 (by omega) _ hA1 hB1) ?_
    rintro _ w7 ⟨rfl, hc7⟩
    replace hK := hK.chg0 hc7
    replace ht := ht.chg0 hc7
    replace hA1 := hA1.chg0 hc7
    replace hB1 := hB1.chg0 hc7
    replace hC := hC.then_ hc7
    refine ⟨_, rfl, ?_⟩
    refine OL.want rfl rfl rfl (Pure.pickT rfl rfl _) rfl ?_
    refine OL.want rfl rfl rfl (Pure.eqlBool' Tryd.underlying4 rfl rfl _) rfl ?_
    refine OL.cast (.bool true) 52 rfl (congrArg Value.bool (by have e : decide (join t L1 = join u M1) = decide (t = u ∧ L1 = M1) := decide_eq_decide.2 hinj; rw [e]; simp [hc])) ?_
    refine OL.pure (Pure.pickT rfl rfl) rfl ?_
    refine OL.pure (Pure.assign rfl) rfl ?_
    refine OL.nil ?_
    exact TE.ret (vs := [.bool true]) Tryd.results6 (⟨rfl, trivial⟩) ⟨rfl, hC⟩
  ·
    refine OL.cast (.bool false) 46 rfl (congrArg Value.bool (decide_eq_false (fun h => hc (htu.1 h)))) ?_
    refine OL.want rfl rfl rfl (Pure.move rfl _) rfl ?_
    refine OL.pass rfl rfl rfl rfl rfl ?_
    refine OL.pass rfl rfl rfl rfl rfl ?_
    refine OL.pass rfl rfl rfl rfl rfl ?_
    refine OL.want rfl rfl rfl (Pure.pickF rfl rfl _) rfl ?_
    refine OL.want rfl rfl rfl (Pure.eqlBool' Tryd.underlying4 rfl rfl _) rfl ?_
    refine OL.cast (.bool true) 52 rfl (congrArg Value.bool (by have e : decide (join t L1 = join u M1) = decide (t = u ∧ L1 = M1) := decide_eq_decide.2 hinj; rw [e]; simp [hc])) ?_
    refine OL.pure (Pure.pickT rfl rfl) rfl ?_
    refine OL.pure (Pure.assign rfl) rfl ?_
    refine OL.nil ?_
    exact TE.ret (vs := [.bool true]) Tryd.results6 (⟨rfl, trivial⟩) ⟨rfl, hC⟩

end Go.Proofs.YteghfhakdpcbaaaDoor
