/- The law of Compare, walked -/
import Derived.Test.YteghfhakdpcbaaaDoorProg
import Derived.Test.YteghfhakdpcbaaaDoorEng3
import Derived.Test.YteghfhakdpcbaaaDoorShaSpec3
import Derived.Test.YteghfhakdpcbaaaDoorAbc
import Derived.Test.YteghfhakdpcbaaaDoorSha1
import Derived.Test.YteghfhakdpcbaaaDoorSha2
import Derived.Test.YteghfhakdpcbaaaDoorSha3
import Derived.Test.YteghfhakdpcbaaaDoorSha4
import Derived.Test.YteghfhakdpcbaaaDoorSha5
import Derived.Test.YteghfhakdpcbaaaDoorSha7
set_option linter.unusedVariables false
set_option maxRecDepth 4000
namespace Go.Proofs.YteghfhakdpcbaaaDoor
open Go.V Go.Sha
theorem compares_law_any {tK : TypeId} (a c : List Int) (n y : Int) (ha : Dig a) (hc : Dig c) (hn : 0 ≤ n ∧ n ≤ 255) (hy : 0 ≤ y ∧ y ≤ 255) (w : World) (hK : Blk w 0 tK (iv .u32 K)) : Calls Tryd.prog 5 #[.agg (iv .u8 a).toArray, .agg (iv .u8 [n, y]).toArray, .agg (iv .u8 c).toArray] w (RetC (.bool true) w) := by
  refine calls_of_TE (vs := [.agg (iv .u8 a).toArray, .agg (iv .u8 [n, y]).toArray, .agg (iv .u8 c).toArray]) Tryd.func5 Tryd.ntmps5 rfl (by simp) ?_
  have hC : Chg [] w w := Chg.refl _ _
  have h0w : 0 < w.heap.size := hK.lt
  have ha1 := ha.1
  have hcL := hc.1
  refine TE.seq ?_
  refine TE.region ?_
  refine OL.box rfl rfl ?_
  intro g3 w1 h3 hc1 hg_g3
  have lt_0_g3 : 0 < g3 := by have := hK.lt; omega
  have ge_g3 : w.heap.size ≤ g3 := by have := hC.size; omega
  replace hK := hK.chg0 hc1
  replace hC := hC.then_ hc1
  have h3 : Blk w1 g3 24 (iv .u8 a) := h3
  refine OL.box rfl rfl ?_
  intro g4 w2 h4 hc2 hg_g4
  have lt_0_g4 : 0 < g4 := by have := hK.lt; omega
  have lt_g3_g4 : g3 < g4 := by have := h3.lt; omega
  have ge_g4 : w.heap.size ≤ g4 := by have := hC.size; omega
  replace hK := hK.chg0 hc2
  replace h3 := h3.chg0 hc2
  replace hC := hC.then_ hc2
  have h4 : Blk w2 g4 32 (iv .u8 [n, y]) := h4
  refine OL.box rfl rfl ?_
  intro g5 w3 h5 hc3 hg_g5
  have lt_0_g5 : 0 < g5 := by have := hK.lt; omega
  have lt_g3_g5 : g3 < g5 := by have := h3.lt; omega
  have lt_g4_g5 : g4 < g5 := by have := h4.lt; omega
  have ge_g5 : w.heap.size ≤ g5 := by have := hC.size; omega
  replace hK := hK.chg0 hc3
  replace h3 := h3.chg0 hc3
  replace h4 := h4.chg0 hc3
  replace hC := hC.then_ hc3
  have h5 : Blk w3 g5 24 (iv .u8 c) := h5
  refine OL.pure (Pure.assign rfl) rfl ?_
  refine OL.nil ?_
  refine TE.seq ?_
  refine TE.planAll [(0, true), (1, true), (2, true), (3, false), (4, false), (5, true)] (fun w_ => Chg [] w3 w_) rfl (by kernel_rfl) ?_
  have hS4 : Chg [] w3 w3.drew := Chg.drew _ _
  replace hK := hK.chg0 hS4
  replace h3 := h3.chg0 hS4
  replace h4 := h4.chg0 hS4
  replace h5 := h5.chg0 hS4
  replace hC := hC.then_ hS4
  refine PL.takeS (fun w_ => Chg [] w3.drew w_) (fun _ h_ => hS4.then_ h_) rfl (fun w_ h_ => Run.loadAll rfl Tryd.underlying24 rfl (h3.chg0 h_) (by rw [iv_len, ha1]; rfl)) rfl (Chg.refl _ _) ?_
  have hP5 : Chg [] w3.drew w3.drew := Chg.refl _ _
  refine PL.takeP rfl (Pure.indexAddrA (r := 1) Tryd.runUnderlying32 Tryd.sizeOf5 rfl rfl (by omega) (by omega) (by omega)) rfl hP5 ?_
  refine PL.takeS (fun w_ => Chg [] w3.drew w_) (fun _ h_ => hP5.then_ h_) rfl (fun w_ h_ => Run.load (i := 1) rfl Tryd.isAgg5 (h4.chg0 h_) (by omega) rfl) rfl (Chg.refl _ _) ?_
  have hP6 : Chg [] w3.drew w3.drew := Chg.refl _ _
  refine PL.alloc rfl Tryd.zeroValue24 rfl (fun w_ h_ => hP6.then_ h_) ?_
  intro g7 w7 h7 hc7 hg_g7
  have lt_0_g7 : 0 < g7 := by have := hK.lt; omega
  have lt_g3_g7 : g3 < g7 := by have := h3.lt; omega
  have lt_g4_g7 : g4 < g7 := by have := h4.lt; omega
  have lt_g5_g7 : g5 < g7 := by have := h5.lt; omega
  have ge_g7 : w.heap.size ≤ g7 := by have := hC.size; omega
  have gp_g7 := Nat.le_trans hP6.size (Nat.le_of_eq hg_g7)
  have hc7s := hP6.then_ hc7
  replace hK := hK.chg0 hc7
  replace h3 := h3.chg0 hc7
  replace h4 := h4.chg0 hc7
  replace h5 := h5.chg0 hc7
  replace hC := hC.then_ hc7
  have h7 : Blk w7 g7 24 (iv .u8 (List.replicate 32 0)) := h7
  refine PL.storeRow (vs := iv .u8 a) rfl rfl rfl (by rw [iv_len, ha1]; rfl) (by simp only [iv, List.mem_map]; rintro _ ⟨x, _, rfl⟩; rfl) h7 (by rw [iv_len, ha1]; exact Nat.le_refl 32) (fun w_ h_ => hc7s.trans1 h_ (.inr gp_g7)) ?_
  intro w8 hb8 hc8
  have hc8s := hc7s.trans1 hc8 (.inr gp_g7)
  replace hK := hK.chg hc8 (by simp; omega)
  replace h3 := h3.chg hc8 (by simp; omega)
  replace h4 := h4.chg hc8 (by simpa using h4.ne h7 (by decide))
  replace h5 := h5.chg hc8 (by simp; omega)
  replace hC := hC.trans1 hc8 (by first | exact .inr (by omega) | exact .inl (by simp))
  replace h7 := hb8
  replace h7 := h7.all (by rw [iv_len, iv_len, ha1]; rfl)
  refine PL.takeP rfl (Pure.assign rfl) rfl hc8s ?_
  refine PL.nil ?_
  refine TE.seq ?_
  refine TE.region ?_
  refine OL.pure (Pure.indexAddrA (r := 0) Tryd.runUnderlying32 Tryd.sizeOf5 rfl rfl (by omega) (by omega) (by omega)) rfl ?_
  refine OL.val (Run.load (i := 0) rfl Tryd.isAgg5 h4 (by omega) rfl) rfl ?_
  refine OL.pure (Pure.rem rfl rfl (by omega) (by omega)) rfl ?_
  refine OL.pure (Pure.indexAddrA (r := ((n % 32).toNat)) Tryd.runUnderlying24 Tryd.sizeOf5 rfl rfl (by omega) (by omega) (by omega)) rfl ?_
  refine OL.val (Run.load (i := ((n % 32).toNat)) rfl Tryd.isAgg5 h7 (by omega) (iv_get (by omega))) rfl ?_
  refine OL.pure (Pure.move rfl) rfl ?_
  refine OL.pure (Pure.bits rfl rfl rfl) rfl ?_
  refine OL.pure (Pure.indexAddrA (r := ((n % 32).toNat)) Tryd.runUnderlying24 Tryd.sizeOf5 rfl rfl (by omega) (by omega) (by omega)) rfl ?_
  refine OL.store (j := ((n % 32).toNat)) rfl rfl Tryd.sizeOf5 rfl h7 (by omega) (iv_get (by omega)) ?_
  intro w9 hb9 hc9
  replace hK := hK.chg hc9 (by simp; omega)
  replace h3 := h3.chg hc9 (by simp; omega)
  replace h4 := h4.chg hc9 (by simpa using h4.ne h7 (by decide))
  replace h5 := h5.chg hc9 (by simp; omega)
  replace hC := hC.trans1 hc9 (by first | exact .inr (by omega) | exact .inl (by simp))
  replace h7 := hb9
  rw [iv_set] at h7
  have hx := xor_same (ha.at_ (n % 32).toNat) hy
  obtain ⟨b, hbd⟩ : ∃ b, b = a.set (n % 32).toNat (bits .xor .u8 (a.getD (n % 32).toNat 0) y) := ⟨_, rfl⟩
  rw [← hbd] at h7
  have hb : Dig b := by rw [hbd]; exact ha.set_ _ hx.2
  have hb1 := hb.1
  have hby : cmp a b = 0 ↔ y = 0 := by
    rw [← hx.1, ← set_same (d := a) (i := (n % 32).toNat) (by omega), ← hbd]
    exact ⟨fun h => (cmp_zero a b (by omega) h).symm, fun h => by rw [h, cmp_self]⟩
  refine OL.nil ?_
  refine TE.seq ?_
  refine TE.plan 5 [(0, true), (1, true), (3003, false), (4, false)] (fun w_ => Chg [] w9 w_) rfl (by kernel_rfl) rfl ?_
  have hS10 : Chg [] w9 w9.drew := Chg.drew _ _
  replace hK := hK.chg0 hS10
  replace h3 := h3.chg0 hS10
  replace h4 := h4.chg0 hS10
  replace h5 := h5.chg0 hS10
  replace h7 := h7.chg0 hS10
  replace hC := hC.then_ hS10
  refine PL.takeS (fun w_ => Chg [] w9.drew w_) (fun _ h_ => hS10.then_ h_) rfl (fun w_ h_ => Run.loadAll rfl Tryd.underlying24 rfl (h3.chg0 h_) (by rw [iv_len, ha1]; rfl)) rfl (Chg.refl _ _) ?_
  have hP11 : Chg [] w9.drew w9.drew := Chg.refl _ _
  refine PL.takeS (fun w_ => Chg [] w9.drew w_) (fun _ h_ => hP11.then_ h_) rfl (fun w_ h_ => Run.loadAll rfl Tryd.underlying24 rfl (h7.chg0 h_) (by rw [iv_len, hb1]; rfl)) rfl (Chg.refl _ _) ?_
  have hP12 : Chg [] w9.drew w9.drew := Chg.refl _ _
  refine PL.alloc2 (i := 2) (j := 3) (by decide) rfl rfl rfl rfl Tryd.zeroValue25 Tryd.zeroValue25 rfl rfl (by decide) (fun w_ h_ => hP12.then_ h_) ?_
  intro g9 g10 w13 h9 h10 hc13 hg_g9 hg_g10 hne_g9_g10
  have lt_0_g9 : 0 < g9 := by have := hK.lt; omega
  have lt_g3_g9 : g3 < g9 := by have := h3.lt; omega
  have lt_g4_g9 : g4 < g9 := by have := h4.lt; omega
  have lt_g5_g9 : g5 < g9 := by have := h5.lt; omega
  have lt_g7_g9 : g7 < g9 := by have := h7.lt; omega
  have ge_g9 : w.heap.size ≤ g9 := by have := hC.size; omega
  have gp_g9 := Nat.le_trans hP12.size hg_g9
  have lt_0_g10 : 0 < g10 := by have := hK.lt; omega
  have lt_g3_g10 : g3 < g10 := by have := h3.lt; omega
  have lt_g4_g10 : g4 < g10 := by have := h4.lt; omega
  have lt_g5_g10 : g5 < g10 := by have := h5.lt; omega
  have lt_g7_g10 : g7 < g10 := by have := h7.lt; omega
  have ge_g10 : w.heap.size ≤ g10 := by have := hC.size; omega
  have gp_g10 := Nat.le_trans hP12.size hg_g10
  have hc13s := hP12.then_ hc13
  replace hK := hK.chg0 hc13
  replace h3 := h3.chg0 hc13
  replace h4 := h4.chg0 hc13
  replace h5 := h5.chg0 hc13
  replace h7 := h7.chg0 hc13
  replace hC := hC.then_ hc13
  have h9 : Blk w13 g9 25 (iv .u8 (List.replicate 32 0)) := h9
  have h10 : Blk w13 g10 25 (iv .u8 (List.replicate 32 0)) := h10
  refine PL.storeRow (vs := iv .u8 a) rfl rfl rfl (by rw [iv_len, ha1]; rfl) (by simp only [iv, List.mem_map]; rintro _ ⟨x, _, rfl⟩; rfl) h9 (by rw [iv_len, ha1]; exact Nat.le_refl 32) (fun w_ h_ => hc13s.trans1 h_ (.inr gp_g9)) ?_
  intro w14 hb14 hc14
  have hc14s := hc13s.trans1 hc14 (.inr gp_g9)
  replace hK := hK.chg hc14 (by simp; omega)
  replace h3 := h3.chg hc14 (by simpa using h3.ne h9 (by decide))
  replace h4 := h4.chg hc14 (by simpa using h4.ne h9 (by decide))
  replace h5 := h5.chg hc14 (by simpa using h5.ne h9 (by decide))
  replace h7 := h7.chg hc14 (by simpa using h7.ne h9 (by decide))
  replace h10 := h10.chg hc14 (by simp; omega)
  replace hC := hC.trans1 hc14 (by first | exact .inr (by omega) | exact .inl (by simp))
  replace h9 := hb14
  replace h9 := h9.all (by rw [iv_len, iv_len, ha1]; rfl)
  refine PL.nilTail ?_
  refine OL.storeRow (vs := iv .u8 b) rfl rfl (by rw [iv_len, hb1]; rfl) (by simp only [iv, List.mem_map]; rintro _ ⟨x, _, rfl⟩; rfl) h10 (by rw [iv_len, hb1]; exact Nat.le_refl 32) ?_
  intro w15 hb15 hc15
  replace hK := hK.chg hc15 (by simp; omega)
  replace h3 := h3.chg hc15 (by simpa using h3.ne h10 (by decide))
  replace h4 := h4.chg hc15 (by simpa using h4.ne h10 (by decide))
  replace h5 := h5.chg hc15 (by simpa using h5.ne h10 (by decide))
  replace h7 := h7.chg hc15 (by simpa using h7.ne h10 (by decide))
  replace h9 := h9.chg hc15 (by simp; omega)
  replace hC := hC.trans1 hc15 (by first | exact .inr (by omega) | exact .inl (by simp))
  replace h10 := hb15
  replace h10 := h10.all (by rw [iv_len, iv_len, hb1]; rfl)
  refine OL.nil ?_
  refine TE.seq ?_
  refine TE.region ?_
  refine OL.pure (Pure.assign rfl) rfl ?_
  refine OL.nil ?_
  refine TE.seq ?_
  refine TE.seq ?_
  refine TE.planAll [(0, true), (2, true), (1, false), (3, false), (4, true)] (fun w_ => Chg [] w15 w_) rfl (by kernel_rfl) ?_
  have hS16 : Chg [] w15 w15.drew := Chg.drew _ _
  replace hK := hK.chg0 hS16
  replace h3 := h3.chg0 hS16
  replace h4 := h4.chg0 hS16
  replace h5 := h5.chg0 hS16
  replace h7 := h7.chg0 hS16
  replace h9 := h9.chg0 hS16
  replace h10 := h10.chg0 hS16
  replace hC := hC.then_ hS16
  refine PL.takeS (fun w_ => Chg [] w15.drew w_) (fun _ h_ => hS16.then_ h_) rfl (fun w_ h_ => Run.loadAll rfl Tryd.underlying25 rfl (h9.chg0 h_) (by rw [iv_len, ha1]; rfl)) rfl (Chg.refl _ _) ?_
  have hP17 : Chg [] w15.drew w15.drew := Chg.refl _ _
  refine PL.takeS (fun w_ => Chg [] w15.drew w_) (fun _ h_ => hP17.then_ h_) rfl (fun w_ h_ => Run.loadAll rfl Tryd.underlying25 rfl (h10.chg0 h_) (by rw [iv_len, hb1]; rfl)) rfl (Chg.refl _ _) ?_
  have hP18 : Chg [] w15.drew w15.drew := Chg.refl _ _
  refine PL.call rfl rfl Tryd.call18 rfl (string_any a ha _) ?_
  rintro _ w19 ⟨rfl, hc19⟩
  have hc19s := hP18.then_ hc19
  replace hK := hK.chg0 hc19
  replace h3 := h3.chg0 hc19
  replace h4 := h4.chg0 hc19
  replace h5 := h5.chg0 hc19
  replace h7 := h7.chg0 hc19
  replace h9 := h9.chg0 hc19
  replace h10 := h10.chg0 hc19
  replace hC := hC.then_ hc19
  refine ⟨_, rfl, hc19s, ?_⟩
  refine PL.call rfl rfl Tryd.call18 rfl (string_any b hb _) ?_
  rintro _ w20 ⟨rfl, hc20⟩
  have hc20s := hc19s.then_ hc20
  replace hK := hK.chg0 hc20
  replace h3 := h3.chg0 hc20
  replace h4 := h4.chg0 hc20
  replace h5 := h5.chg0 hc20
  replace h7 := h7.chg0 hc20
  replace h9 := h9.chg0 hc20
  replace h10 := h10.chg0 hc20
  replace hC := hC.then_ hc20
  refine ⟨_, rfl, hc20s, ?_⟩
  refine PL.takeP rfl (Pure.strLss (l := (hexOf a)) (m := (hexOf b)) rfl rfl) rfl hc20s ?_
  refine PL.nil ?_
  refine TE.join (σ := Int) [3, 5, 8, 9, 10, 11] (fun s_ w_ => s_ = (if cmp a b = -1 then -1 else 0) ∧ Chg [] w w_ ∧ Blk w_ 0 tK (iv .u32 K) ∧ Blk w_ g3 24 (iv .u8 a) ∧ Blk w_ g5 24 (iv .u8 c) ∧ Blk w_ g9 25 (iv .u8 a) ∧ Blk w_ g10 25 (iv .u8 b)) (fun s_ => [(3, .pointer (some ⟨g3, 0, none⟩)), (5, .pointer (some ⟨g5, 0, none⟩)), (8, .int .u8 y), (9, .pointer (some ⟨g9, 0, none⟩)), (10, .pointer (some ⟨g10, 0, none⟩)), (11, .int .i64 s_)]) rfl (fun hlt hj21 => ?_) (fun hlt hj21 => ?_) (fun s_ w_ h_ => ?_)
  ·
    refine TE.region ?_
    refine OL.pure (Pure.assign rfl) rfl ?_
    refine OL.nil ?_
    exact TE.sub [3, 5, 8, 9, 10, 11] rfl (hj21 (-1) _ ⟨by rw [if_pos ((text_lss ha hb).1 hlt)], hC, hK, h3, h5, h9, h10⟩)
  ·
    refine TE.skip ?_
    exact TE.sub [3, 5, 8, 9, 10, 11] rfl (hj21 0 _ ⟨by rw [if_neg (fun h => hlt ((text_lss ha hb).2 h))], hC, hK, h3, h5, h9, h10⟩)
  ·
    revert s_ w_ h_
    rintro q1 w21 ⟨hq1, hC, hK, h3, h5, h9, h10⟩
    refine TE.seq ?_
    refine TE.seq ?_
    refine TE.planAll [(0, true), (2, true), (1, false), (3, false), (4, true)] (fun w_ => Chg [] w21 w_) rfl (by kernel_rfl) ?_
    have hS22 : Chg [] w21 w21.drew := Chg.drew _ _
    replace hK := hK.chg0 hS22
    replace h3 := h3.chg0 hS22
    replace h5 := h5.chg0 hS22
    replace h9 := h9.chg0 hS22
    replace h10 := h10.chg0 hS22
    replace hC := hC.then_ hS22
    refine PL.takeS (fun w_ => Chg [] w21.drew w_) (fun _ h_ => hS22.then_ h_) rfl (fun w_ h_ => Run.loadAll rfl Tryd.underlying25 rfl (h9.chg0 h_) (by rw [iv_len, ha1]; rfl)) rfl (Chg.refl _ _) ?_
    have hP23 : Chg [] w21.drew w21.drew := Chg.refl _ _
    refine PL.takeS (fun w_ => Chg [] w21.drew w_) (fun _ h_ => hP23.then_ h_) rfl (fun w_ h_ => Run.loadAll rfl Tryd.underlying25 rfl (h10.chg0 h_) (by rw [iv_len, hb1]; rfl)) rfl (Chg.refl _ _) ?_
    have hP24 : Chg [] w21.drew w21.drew := Chg.refl _ _
    refine PL.call rfl rfl Tryd.call18 rfl (string_any a ha _) ?_
    rintro _ w25 ⟨rfl, hc25⟩
    have hc25s := hP24.then_ hc25
    replace hK := hK.chg0 hc25
    replace h3 := h3.chg0 hc25
    replace h5 := h5.chg0 hc25
    replace h9 := h9.chg0 hc25
    replace h10 := h10.chg0 hc25
    replace hC := hC.then_ hc25
    refine ⟨_, rfl, hc25s, ?_⟩
    refine PL.call rfl rfl Tryd.call18 rfl (string_any b hb _) ?_
    rintro _ w26 ⟨rfl, hc26⟩
    have hc26s := hc25s.then_ hc26
    replace hK := hK.chg0 hc26
    replace h3 := h3.chg0 hc26
    replace h5 := h5.chg0 hc26
    replace h9 := h9.chg0 hc26
    replace h10 := h10.chg0 hc26
    replace hC := hC.then_ hc26
    refine ⟨_, rfl, hc26s, ?_⟩
    refine PL.takeP rfl (Pure.strGtr (l := (hexOf a)) (m := (hexOf b)) rfl rfl) rfl hc26s ?_
    refine PL.nil ?_
    refine TE.join (σ := Int) [3, 5, 8, 9, 10, 11] (fun s_ w_ => s_ = cmp a b ∧ Chg [] w w_ ∧ Blk w_ 0 tK (iv .u32 K) ∧ Blk w_ g3 24 (iv .u8 a) ∧ Blk w_ g5 24 (iv .u8 c) ∧ Blk w_ g9 25 (iv .u8 a) ∧ Blk w_ g10 25 (iv .u8 b)) (fun s_ => [(3, .pointer (some ⟨g3, 0, none⟩)), (5, .pointer (some ⟨g5, 0, none⟩)), (8, .int .u8 y), (9, .pointer (some ⟨g9, 0, none⟩)), (10, .pointer (some ⟨g10, 0, none⟩)), (11, .int .i64 s_)]) rfl (fun hgt hj27 => ?_) (fun hgt hj27 => ?_) (fun s_ w_ h_ => ?_)
    ·
      refine TE.region ?_
      refine OL.pure (Pure.assign rfl) rfl ?_
      refine OL.nil ?_
      exact TE.sub [3, 5, 8, 9, 10, 11] rfl (hj27 1 _ ⟨((text_gtr ha hb).1 hgt).symm, hC, hK, h3, h5, h9, h10⟩)
    ·
      have hq2 : q1 = cmp a b := by
        rw [hq1]; have := mt (text_gtr ha hb).2 hgt
        rcases cmp_cases a b with h | h | h <;> simp_all
      refine TE.skip ?_
      exact TE.sub [3, 5, 8, 9, 10, 11] rfl (hj27 q1 _ ⟨hq2, hC, hK, h3, h5, h9, h10⟩)
    ·
      revert s_ w_ h_
      rintro q2 w27 ⟨hq2, hC, hK, h3, h5, h9, h10⟩
      refine TE.seq ?_
      refine TE.planAll [(0, false), (1, true), (2, true), (3, true), (5, true), (4, false), (6, true), (7, true), (8, true), (9, true), (10, true), (12, true), (13, true), (11, false), (14, true), (15, true), (16, true), (17, true), (18, true), (20, true), (21, true), (19, false), (22, false), (23, true), (24, true), (25, true), (26, true), (27, true), (28, true), (29, true), (30, true), (31, true), (32, true)] (fun w_ => Chg [] w27 w_) rfl (by kernel_rfl) ?_
      have hS28 : Chg [] w27 w27.drew := Chg.drew _ _
      replace hK := hK.chg0 hS28
      replace h3 := h3.chg0 hS28
      replace h5 := h5.chg0 hS28
      replace h9 := h9.chg0 hS28
      replace h10 := h10.chg0 hS28
      replace hC := hC.then_ hS28
      refine PL.call rfl rfl Tryd.call14 rfl (known_any _ hK) ?_
      rintro _ w29 ⟨rfl, hc29⟩
      have hc29s := hS28.then_ hc29
      replace hK := hK.chg0 hc29
      replace h3 := h3.chg0 hc29
      replace h5 := h5.chg0 hc29
      replace h9 := h9.chg0 hc29
      replace h10 := h10.chg0 hc29
      replace hC := hC.then_ hc29
      refine ⟨_, rfl, hc29s, ?_⟩
      have hcb : -1 ≤ cmp a b ∧ cmp a b ≤ 1 := by rcases cmp_cases a b with h | h | h <;> omega
      refine PL.takeP rfl (Pure.move rfl) rfl hc29s ?_
      refine PL.takeG (fun w_ => Chg [] w29 w_) (fun _ h_ => hc29s.then_ h_) rfl rfl rfl rfl (fun w_ h_ => Run.loadAll rfl Tryd.underlying25 rfl (h9.chg0 h_) (by rw [iv_len, ha1]; rfl)) rfl (Chg.refl _ _) ?_
      have hP30 : Chg [] w29 w29 := Chg.refl _ _
      refine PL.takeG (fun w_ => Chg [] w29 w_) (fun _ h_ => hP30.then_ h_) rfl rfl rfl rfl (fun w_ h_ => Run.loadAll rfl Tryd.underlying25 rfl (h10.chg0 h_) (by rw [iv_len, hb1]; rfl)) rfl (Chg.refl _ _) ?_
      have hP31 : Chg [] w29 w29 := Chg.refl _ _
      refine PL.takeG (fun w_ => Chg [] w29 w_) (fun _ h_ => hP31.then_ h_) rfl rfl rfl rfl (fun w_ h_ => Pure.move rfl _) rfl (Chg.refl _ _) ?_
      have hP32 : Chg [] w29 w29 := Chg.refl _ _
      refine PL.callG rfl rfl rfl rfl rfl Tryd.call19 rfl (compare_any a b ha hb _) ?_
      rintro _ w33 ⟨rfl, hc33⟩
      have hc33s := hP32.then_ hc33
      replace hK := hK.chg0 hc33
      replace h3 := h3.chg0 hc33
      replace h5 := h5.chg0 hc33
      replace h9 := h9.chg0 hc33
      replace h10 := h10.chg0 hc33
      replace hC := hC.then_ hc33
      refine ⟨_, rfl, hc33s, ?_⟩
      refine PL.takeG (fun w_ => Chg [] w33 w_) (fun _ h_ => hc33s.then_ h_) rfl rfl rfl rfl (fun w_ h_ => Pure.eql rfl rfl _) rfl (Chg.refl _ _) ?_
      have hP34 : Chg [] w33 w33 := Chg.refl _ _
      refine PL.cast (.bool true) 41 rfl (congrArg Value.bool (decide_eq_true hq2.symm)) ?_
      refine PL.takeP rfl (Pure.pickT rfl rfl) rfl hP34 ?_
      refine PL.takeP rfl (Pure.move rfl) rfl hP34 ?_
      refine PL.takeG (fun w_ => Chg [] w33 w_) (fun _ h_ => hP34.then_ h_) rfl rfl rfl rfl (fun w_ h_ => Run.loadAll rfl Tryd.underlying25 rfl (h10.chg0 h_) (by rw [iv_len, hb1]; rfl)) rfl (Chg.refl _ _) ?_
      have hP35 : Chg [] w33 w33 := Chg.refl _ _
      refine PL.takeG (fun w_ => Chg [] w33 w_) (fun _ h_ => hP35.then_ h_) rfl rfl rfl rfl (fun w_ h_ => Run.loadAll rfl Tryd.underlying25 rfl (h9.chg0 h_) (by rw [iv_len, ha1]; rfl)) rfl (Chg.refl _ _) ?_
      have hP36 : Chg [] w33 w33 := Chg.refl _ _
      refine PL.takeG (fun w_ => Chg [] w33 w_) (fun _ h_ => hP36.then_ h_) rfl rfl rfl rfl (fun w_ h_ => Pure.move rfl _) rfl (Chg.refl _ _) ?_
      have hP37 : Chg [] w33 w33 := Chg.refl _ _
      refine PL.takeG (fun w_ => Chg [] w33 w_) (fun _ h_ => hP37.then_ h_) rfl rfl rfl rfl (fun w_ h_ => Pure.neg rfl (i64 (by omega) (by omega)) _) rfl (Chg.refl _ _) ?_
      have hP38 : Chg [] w33 w33 := Chg.refl _ _
      refine PL.callG rfl rfl rfl rfl rfl Tryd.call19 rfl (compare_any b a hb ha _) ?_
      rintro _ w39 ⟨rfl, hc39⟩
      have hc39s := hP38.then_ hc39
      replace hK := hK.chg0 hc39
      replace h3 := h3.chg0 hc39
      replace h5 := h5.chg0 hc39
      replace h9 := h9.chg0 hc39
      replace h10 := h10.chg0 hc39
      replace hC := hC.then_ hc39
      refine ⟨_, rfl, hc39s, ?_⟩
      refine PL.takeG (fun w_ => Chg [] w39 w_) (fun _ h_ => hc39s.then_ h_) rfl rfl rfl rfl (fun w_ h_ => Pure.eql rfl rfl _) rfl (Chg.refl _ _) ?_
      have hP40 : Chg [] w39 w39 := Chg.refl _ _
      refine PL.cast (.bool true) 49 rfl (congrArg Value.bool (decide_eq_true (by rw [hq2, Int.zero_sub]; exact cmp_neg a b (by omega)))) ?_
      refine PL.takeP rfl (Pure.pickT rfl rfl) rfl hP40 ?_
      refine PL.takeP rfl (Pure.move rfl) rfl hP40 ?_
      refine PL.takeG (fun w_ => Chg [] w39 w_) (fun _ h_ => hP40.then_ h_) rfl rfl rfl rfl (fun w_ h_ => Run.loadAll rfl Tryd.underlying25 rfl (h9.chg0 h_) (by rw [iv_len, ha1]; rfl)) rfl (Chg.refl _ _) ?_
      have hP41 : Chg [] w39 w39 := Chg.refl _ _
      refine PL.takeG (fun w_ => Chg [] w39 w_) (fun _ h_ => hP41.then_ h_) rfl rfl rfl rfl (fun w_ h_ => Run.loadAll rfl Tryd.underlying24 rfl (h5.chg0 h_) (by rw [iv_len, hcL]; rfl)) rfl (Chg.refl _ _) ?_
      have hP42 : Chg [] w39 w39 := Chg.refl _ _
      refine PL.takeG (fun w_ => Chg [] w39 w_) (fun _ h_ => hP42.then_ h_) rfl rfl rfl rfl (fun w_ h_ => Run.loadAll rfl Tryd.underlying24 rfl (h3.chg0 h_) (by rw [iv_len, ha1]; rfl)) rfl (Chg.refl _ _) ?_
      have hP43 : Chg [] w39 w39 := Chg.refl _ _
      refine PL.takeG (fun w_ => Chg [] w39 w_) (fun _ h_ => hP43.then_ h_) rfl rfl rfl rfl (fun w_ h_ => Run.loadAll rfl Tryd.underlying24 rfl (h5.chg0 h_) (by rw [iv_len, hcL]; rfl)) rfl (Chg.refl _ _) ?_
      have hP44 : Chg [] w39 w39 := Chg.refl _ _
      refine PL.callG rfl rfl rfl rfl rfl Tryd.call19 rfl (compare_any a c ha hc _) ?_
      rintro _ w45 ⟨rfl, hc45⟩
      have hc45s := hP44.then_ hc45
      replace hK := hK.chg0 hc45
      replace h3 := h3.chg0 hc45
      replace h5 := h5.chg0 hc45
      replace h9 := h9.chg0 hc45
      replace h10 := h10.chg0 hc45
      replace hC := hC.then_ hc45
      refine ⟨_, rfl, hc45s, ?_⟩
      refine PL.callG rfl rfl rfl rfl rfl Tryd.call20 rfl (rcompare_any a c ha hc _) ?_
      rintro _ w46 ⟨rfl, hc46⟩
      have hc46s := hc45s.then_ hc46
      replace hK := hK.chg0 hc46
      replace h3 := h3.chg0 hc46
      replace h5 := h5.chg0 hc46
      replace h9 := h9.chg0 hc46
      replace h10 := h10.chg0 hc46
      replace hC := hC.then_ hc46
      refine ⟨_, rfl, hc46s, ?_⟩
      refine PL.takeG (fun w_ => Chg [] w46 w_) (fun _ h_ => hc46s.then_ h_) rfl rfl rfl rfl (fun w_ h_ => Pure.eql rfl rfl _) rfl (Chg.refl _ _) ?_
      have hP47 : Chg [] w46 w46 := Chg.refl _ _
      refine PL.cast (.bool true) 58 rfl (congrArg Value.bool (decide_eq_true rfl)) ?_
      refine PL.takeP rfl (Pure.pickT rfl rfl) rfl hP47 ?_
      refine PL.takeP rfl (Pure.move rfl) rfl hP47 ?_
      refine PL.takeG (fun w_ => Chg [] w46 w_) (fun _ h_ => hP47.then_ h_) rfl rfl rfl rfl (fun w_ h_ => Pure.move rfl _) rfl (Chg.refl _ _) ?_
      have hP48 : Chg [] w46 w46 := Chg.refl _ _
      refine PL.takeG (fun w_ => Chg [] w46 w_) (fun _ h_ => hP48.then_ h_) rfl rfl rfl rfl (fun w_ h_ => Pure.eql rfl rfl _) rfl (Chg.refl _ _) ?_
      have hP49 : Chg [] w46 w46 := Chg.refl _ _
      refine PL.takeG (fun w_ => Chg [] w46 w_) (fun _ h_ => hP49.then_ h_) rfl rfl rfl rfl (fun w_ h_ => Pure.move rfl _) rfl (Chg.refl _ _) ?_
      have hP50 : Chg [] w46 w46 := Chg.refl _ _
      refine PL.takeG (fun w_ => Chg [] w46 w_) (fun _ h_ => hP50.then_ h_) rfl rfl rfl rfl (fun w_ h_ => Pure.eql rfl rfl _) rfl (Chg.refl _ _) ?_
      have hP51 : Chg [] w46 w46 := Chg.refl _ _
      refine PL.takeG (fun w_ => Chg [] w46 w_) (fun _ h_ => hP51.then_ h_) rfl rfl rfl rfl (fun w_ h_ => (Pure.eqlBool rfl rfl) _) rfl (Chg.refl _ _) ?_
      have hP52 : Chg [] w46 w46 := Chg.refl _ _
      refine PL.cast (.bool true) 65 rfl (congrArg Value.bool (by rw [hq2]; simp [hby])) ?_
      refine PL.takeP rfl (Pure.pickT rfl rfl) rfl hP52 ?_
      refine PL.takeP rfl (Pure.assign rfl) rfl hP52 ?_
      refine PL.nil ?_
      exact TE.ret (vs := [.bool true]) Tryd.results5 (⟨rfl, trivial⟩) ⟨rfl, hC⟩

end Go.Proofs.YteghfhakdpcbaaaDoor
