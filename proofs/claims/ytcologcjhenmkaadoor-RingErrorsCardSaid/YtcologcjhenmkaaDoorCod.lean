/- Writers, walked -/
import Derived.Test.YtcologcjhenmkaaDoorProg
import Derived.Test.YtcologcjhenmkaaDoorEngB
import Derived.Test.YtcologcjhenmkaaDoorSpecA
import Derived.Test.YtcologcjhenmkaaDoorSha
import Derived.Test.YtcologcjhenmkaaDoorSpecB
set_option linter.unusedVariables false
set_option maxRecDepth 4000
namespace Go.Proofs.YtcologcjhenmkaaDoor
open Go.V
theorem u8or128 (m : Nat) : Go.bits .or .u8 ((m : Int) % 256) 128 = (((UInt8.ofNat (m % 128 + 128)).toNat : Nat) : Int) := by
  have key : ∀ x : Fin 256, Go.bits .or .u8 ((x.val : Nat) : Int) 128 = ((x.val % 128 + 128 : Nat) : Int) := by decide
  have h := key ⟨m % 256, by omega⟩
  have e1 : ((m % 256 : Nat) : Int) = (m : Int) % 256 := by omega
  simp only [e1] at h
  rw [h, UInt8.toNat_ofNat']
  omega
theorem bv_one1 {l : List UInt8} : ∀ u ∈ bv l, u.oneCell' = true := fun u hu => by
  obtain ⟨b, _, rfl⟩ := List.mem_map.1 hu
  rfl
theorem natural_any (n : Nat) (hn : n < 9223372036854775808) (w : World) : Calls Tryd.prog 75 #[.int .u64 (n : Int)] w (RetB 5 (natEnc n) w) := by
  refine calls_of_TE (vs := [.int .u64 (n : Int)]) Tryd.func75 Tryd.ntmps75 rfl (by simp) ?_
  have hC : Chg [] w w := Chg.refl _ _
  have hlen : (natEnc n).length ≤ 9 := natEnc_len 8 n (by omega)
  refine TE.seq ?_
  refine TE.region ?_
  refine OL.pure (Pure.assign rfl) rfl ?_
  refine OL.nil ?_
  refine TE.seq ?_
  refine TE.region ?_
  refine OL.pure (Pure.assign rfl) rfl ?_
  refine OL.nil ?_
  refine TE.seq ?_
  refine TE.block ?_
  refine TE.loopInv (σ := Nat × List UInt8 × Value) [0, 3] (fun s_ w_ => match s_ with | (m, out, v) => out ++ natEnc m = natEnc n ∧ m < 9223372036854775808 ∧ Row w_ 5 1 v out.length (bv out) ∧ Mine w.heap.size v ∧ Chg [] w w_) (fun s_ => [(0, .int .u64 (s_.1 : Int)), (3, s_.2.2)]) (fun s_ => s_.1) (n, [], .slice none 0 0) ⟨by simp, hn, Row.nil _ _ _, Mine.nil _, hC⟩ rfl ?_
  rintro ⟨m, out, v⟩ w1 ⟨hE, hm, hv, hm_v, hC⟩ ih1
  try dsimp only
  have hol : out.length ≤ 9 := by rw [← hE, List.length_append] at hlen; omega
  refine TE.seq ?_
  refine TE.seq ?_
  refine TE.region ?_
  refine OL.pure (Pure.move rfl) rfl ?_
  refine OL.pure (Pure.geq rfl rfl) rfl ?_
  refine OL.nil ?_
  refine TE.ite rfl (fun hge => ?_) (fun hge => ?_)
  ·
    have hge2 : ¬ m < 128 := by omega
    refine TE.skip ?_
    refine TE.seq ?_
    refine TE.block ?_
    refine TE.region ?_
    refine OL.pure (Pure.move rfl) rfl ?_
    refine OL.pure (Pure.move rfl) rfl ?_
    refine OL.pure (Pure.conv Tryd.runUnderlying113 Tryd.runUnderlying5 rfl (u8w _)) rfl ?_
    refine OL.pure (Pure.bits rfl rfl rfl) rfl ?_
    refine OL.cast (.int .u8 (((UInt8.ofNat (m % 128 + 128)).toNat : Nat) : Int)) 11 rfl (congrArg (Value.int .u8) (u8or128 m)) ?_
    refine OL.buildSlice (cs := [.int .u8 (((UInt8.ofNat (m % 128 + 128)).toNat : Nat) : Int)]) rfl Tryd.runUnderlying34 Tryd.sizeOf5 Tryd.zeroValue5 (by decide) (by decide) (by kernel_rfl) rfl ?_
    intro q w2 hq hc2 hg_q
    have ge_q : w.heap.size ≤ q := by have := hC.size; omega
    replace hv := hv.chg0 hc2
    replace hC := hC.then_ hc2
    refine OL.append (size := 1) (news := [.int .u8 (((UInt8.ofNat (m % 128 + 128)).toNat : Nat) : Int)]) (v := v) rfl rfl Tryd.underlying34 (.inl Tryd.underlying34) info5 rfl rfl rfl (by decide) rfl hv ((Src.of_blk hq rfl rfl)) (by simp [Value.oneCell']) (by show _ * 1 ≤ _; omega) ?_
    intro v2 w3 hv2 hc3 ho_v2
    have hm_v2 : Mine w.heap.size v2 := Mine.step hm_v (by have := hC.size; omega) ho_v2
    replace hC := hC.own hc3 hm_v
    replace hv2 : Row w3 5 1 v2 (out ++ [UInt8.ofNat (m % 128 + 128)]).length (bv (out ++ [UInt8.ofNat (m % 128 + 128)])) := by rw [List.length_append, ← bv_snoc]; exact hv2
    refine OL.pure (Pure.assign rfl) rfl ?_
    refine OL.nil ?_
    refine TE.inBlock ?_
    refine TE.region ?_
    refine OL.pure (Pure.move rfl) rfl ?_
    refine OL.pure (Pure.shr (p := 128) rfl rfl (by decide) (by decide)) rfl ?_
    refine OL.cast (.int .u64 ((m / 128 : Nat) : Int)) 7 rfl (congrArg (Value.int .u64) (by omega)) ?_
    refine OL.pure (Pure.assign rfl) rfl ?_
    refine OL.nil ?_
    exact TE.sub [0, 3] rfl (ih1 (m / 128, out ++ [UInt8.ofNat (m % 128 + 128)], v2) _ ⟨by rw [List.append_assoc, List.singleton_append, ← natEnc_big hge2]; exact hE, by omega, hv2, hm_v2, hC⟩ (by simp only []; omega))
  ·
    have hlt : m < 128 := by omega
    refine TE.exit rfl ?_
    refine TE.seq ?_
    refine TE.region ?_
    refine OL.pure (Pure.move rfl) rfl ?_
    refine OL.pure (Pure.move rfl) rfl ?_
    refine OL.pure (Pure.conv Tryd.runUnderlying113 Tryd.runUnderlying5 rfl (u8w _)) rfl ?_
    refine OL.cast (.int .u8 (((UInt8.ofNat m).toNat : Nat) : Int)) 16 rfl (congrArg (Value.int .u8) (by rw [← u8nat])) ?_
    refine OL.buildSlice (cs := [.int .u8 (((UInt8.ofNat m).toNat : Nat) : Int)]) rfl Tryd.runUnderlying34 Tryd.sizeOf5 Tryd.zeroValue5 (by decide) (by decide) (by kernel_rfl) rfl ?_
    intro q w4 hq hc4 hg_q
    have ge_q : w.heap.size ≤ q := by have := hC.size; omega
    replace hv := hv.chg0 hc4
    replace hC := hC.then_ hc4
    refine OL.append (size := 1) (news := [.int .u8 (((UInt8.ofNat m).toNat : Nat) : Int)]) (v := v) rfl rfl Tryd.underlying34 (.inl Tryd.underlying34) info5 rfl rfl rfl (by decide) rfl hv ((Src.of_blk hq rfl rfl)) (by simp [Value.oneCell']) (by show _ * 1 ≤ _; omega) ?_
    intro v2 w5 hv2 hc5 ho_v2
    have hm_v2 : Mine w.heap.size v2 := Mine.step hm_v (by have := hC.size; omega) ho_v2
    replace hC := hC.own hc5 hm_v
    replace hv2 : Row w5 5 1 v2 (natEnc n).length (bv (natEnc n)) := by rw [← hE, natEnc_small hlt, List.length_append, ← bv_snoc]; exact hv2
    refine OL.pure (Pure.assign rfl) rfl ?_
    refine OL.nil ?_
    exact TE.ret (vs := [v2]) Tryd.results75 (⟨rfl, trivial⟩) ⟨v2, rfl, hv2, hC, hm_v2⟩

theorem newwriter_any (w : World) : Calls Tryd.prog 58 #[] w (RetP 128 [.slice none 0 0, .int .i64 0] w) := by
  refine calls_of_TE (vs := []) Tryd.func58 Tryd.ntmps58 rfl (by simp) ?_
  have hC : Chg [] w w := Chg.refl _ _
  refine TE.seq ?_
  refine TE.region ?_
  refine OL.pure (Pure.assign rfl) rfl ?_
  refine OL.nil ?_
  refine TE.seq ?_
  refine TE.region ?_
  refine OL.pure (Pure.build (cs := [.slice none 0 0, .int .i64 0]) rfl (by kernel_rfl)) rfl ?_
  refine OL.box rfl rfl ?_
  intro g w1 hg hc1 hg_g
  have ge_g : w.heap.size ≤ g := by have := hC.size; omega
  replace hC := hC.then_ hc1
  have hg : Blk w1 g 128 ([.slice none 0 0, .int .i64 0]) := hg
  refine OL.pure (Pure.assign rfl) rfl ?_
  refine OL.nil ?_
  exact TE.ret (vs := [.pointer (some ⟨g, 0, none⟩)]) Tryd.results58 (⟨rfl, trivial⟩) ⟨g, rfl, hg, hC, ge_g⟩

theorem write_one (g gp : Nat) (v pv : Value) (l m : List UInt8) (hl : l.length ≤ 1073741824) (hml : m.length ≤ 1073741824) (w : World) (hg : Blk w g 128 [v, .int .i64 0]) (hv : Row w 5 1 v l.length (bv l)) (hp : Blk w gp 34 [pv]) (hpv : Row w 5 1 pv m.length (bv m)) : Calls Tryd.prog 74 #[.pointer (some ⟨g, 0, none⟩), .int .i64 0, .slice (some ⟨gp, 0, none⟩) 1 1] w (fun e w_ => ∃ v2, e = .returned (.tuple #[]) ∧ Blk w_ g 128 [v2, .int .i64 0] ∧ Row w_ 5 1 v2 (l ++ m).length (bv (l ++ m)) ∧ Chg (g :: own v) w w_ ∧ (∀ k, k ∈ own v2 → k ∈ own v ∨ w.heap.size ≤ k)) := by
  refine calls_of_TE (vs := [.pointer (some ⟨g, 0, none⟩), .int .i64 0, .slice (some ⟨gp, 0, none⟩) 1 1]) Tryd.func74 Tryd.ntmps74 rfl (by simp) ?_
  have hC : Chg (g :: own v) w w := Chg.refl _ _
  have hm_v : MineIn (g :: own v) w.heap.size v := MineIn.self _ _
  refine TE.seq ?_
  refine TE.seq ?_
  refine TE.region ?_
  refine OL.pure (Pure.move rfl) rfl ?_
  refine OL.pure (Pure.eqlNil Tryd.underlying108 rfl rfl) rfl ?_
  refine OL.pure (Pure.move rfl) rfl ?_
  refine OL.want rfl rfl rfl (Pure.move rfl _) rfl ?_
  refine OL.want rfl rfl rfl (Pure.nilCheck rfl _) rfl ?_
  refine OL.want rfl rfl rfl (Pure.fieldAddr (r := 1) Tryd.runUnderlying128 rfl Tryd.sizeOf31 rfl rfl _) rfl ?_
  refine OL.want rfl rfl rfl (Run.load (i := 1) rfl Tryd.isAgg31 hg (by omega) rfl) rfl ?_
  refine OL.want rfl rfl rfl (Pure.neq rfl rfl _) rfl ?_
  refine OL.cast (.bool false) 15 rfl (rfl) ?_
  refine OL.pure (Pure.pickF rfl rfl) rfl ?_
  refine OL.nil ?_
  refine TE.condF rfl rfl ?_
  refine TE.skip ?_
  refine TE.seq ?_
  refine TE.region ?_
  refine OL.pure (Pure.move rfl) rfl ?_
  refine OL.pure (Pure.move rfl) rfl ?_
  refine OL.pure (Pure.nilCheck rfl) rfl ?_
  refine OL.pure (Pure.fieldAddr (r := 1) Tryd.runUnderlying128 rfl Tryd.sizeOf31 rfl rfl) rfl ?_
  refine OL.store (j := 1) rfl rfl Tryd.sizeOf31 rfl hg (by omega) (rfl) ?_
  intro w1 hb1 hc1
  replace hv := hv.chg hc1 (hv.apart hg (by decide))
  replace hp := hp.chg hc1 (by simpa using hp.ne hg (by decide))
  replace hpv := hpv.chg hc1 (hpv.apart hg (by decide))
  replace hC := hC.trans1 hc1 (by first | exact .inr (by omega) | exact .inl (by simp))
  replace hg := hb1
  refine OL.nil ?_
  refine TE.seq ?_
  refine TE.seq ?_
  refine TE.region ?_
  refine OL.pure (Pure.move rfl) rfl ?_
  refine OL.pure (Pure.neq rfl rfl) rfl ?_
  refine OL.cast (.bool false) 22 rfl (rfl) ?_
  refine OL.nil ?_
  refine TE.condF rfl rfl ?_
  refine TE.skip ?_
  refine TE.seq ?_
  refine TE.region ?_
  refine OL.pure (Pure.move rfl) rfl ?_
  refine OL.pure (Pure.lenSlice Tryd.runUnderlying139 rfl) rfl ?_
  refine OL.pure (Pure.move rfl) rfl ?_
  refine OL.nil ?_
  refine TE.block ?_
  refine TE.loopInv (σ := Nat × Value × List UInt8) [0, 23, 24, 25] (fun s_ w_ => match s_ with | (i, u, b) => (i = 0 ∧ u = v ∧ b = l ∧ Row w_ 5 1 pv m.length (bv m) ∨ i = 1 ∧ b = l ++ m) ∧ Blk w_ g 128 [u, .int .i64 0] ∧ Row w_ 5 1 u b.length (bv b) ∧ MineIn (g :: own v) w.heap.size u ∧ (∀ k, k ∈ own u → k ∈ own v ∨ w.heap.size ≤ k) ∧ Blk w_ gp 34 [pv] ∧ Chg (g :: own v) w w_) (fun s_ => [(0, .pointer (some ⟨g, 0, none⟩)), (23, .slice (some ⟨gp, 0, none⟩) 1 1), (24, .int .i64 (1)), (25, .int .i64 (s_.1 : Int))]) (fun s_ => 1 - s_.1) (0, v, l) ⟨.inl ⟨rfl, rfl, rfl, hpv⟩, hg, hv, hm_v, fun k hk => .inl hk, hp, hC⟩ rfl ?_
  rintro ⟨i, u, b⟩ w2 ⟨hcase, hg, hu, hm_u, how, hp, hC⟩ ih2
  try dsimp only
  refine TE.seq ?_
  refine TE.region ?_
  refine OL.pure (Pure.lss rfl rfl) rfl ?_
  refine OL.nil ?_
  refine TE.seq ?_
  refine TE.ite rfl (fun hi => ?_) (fun hi => ?_)
  ·
    obtain ⟨hi0, hu0, hb0, hpv⟩ := hcase.resolve_right (fun h => by omega)
    subst hi0
    refine TE.cast (.int .i64 0) 25 rfl (rfl) ?_
    have hCz := hC.size
    have hbl : b.length = l.length := by rw [hb0]
    refine TE.skip ?_
    refine TE.seq ?_
    refine TE.block ?_
    refine TE.seq ?_
    refine TE.region ?_
    refine OL.pure (Pure.indexAddrS (r := 0) Tryd.runUnderlying139 Tryd.sizeOf34 rfl rfl (by omega) (by omega) (by omega)) rfl ?_
    refine OL.val (Run.load (i := 0) rfl Tryd.isAgg34 hp (by omega) rfl) rfl ?_
    refine OL.pure (Pure.assign rfl) rfl ?_
    refine OL.nil ?_
    refine TE.region ?_
    refine OL.pure (Pure.move rfl) rfl ?_
    refine OL.pure (Pure.move rfl) rfl ?_
    refine OL.pure (Pure.nilCheck rfl) rfl ?_
    refine OL.pure (Pure.fieldAddr (r := 0) Tryd.runUnderlying128 rfl Tryd.sizeOf34 rfl rfl) rfl ?_
    refine OL.val (Run.load (i := 0) rfl Tryd.isAgg34 hg (by omega) rfl) rfl ?_
    refine OL.pure (Pure.move rfl) rfl ?_
    refine OL.append (size := 1) (v := u) rfl rfl Tryd.underlying34 (.inl Tryd.underlying34) info5 rfl rfl rfl (by decide) rfl hu ((Src.of_row hpv)) (bv_one1) (by show _ * 1 ≤ _; omega) ?_
    intro v2 w3 hv2 hc3 ho_v2
    have hm_v2 := MineIn.step hm_u (by have := hC.size; omega) ho_v2
    replace hg := hg.chg hc3 (hu.notin hg (by decide))
    replace hp := hp.chg hc3 (hu.notin hp (by decide))
    replace hC := hC.ownIn hc3 hm_u
    replace hv2 : Row w3 5 1 v2 (b ++ m).length (bv (b ++ m)) := by rw [List.length_append, ← bv_append]; exact hv2
    have h2one := hv2.oneCell
    refine OL.pure (Pure.nilCheck rfl) rfl ?_
    refine OL.pure (Pure.fieldAddr (r := 0) Tryd.runUnderlying128 rfl Tryd.sizeOf34 rfl rfl) rfl ?_
    refine OL.store (j := 0) rfl rfl Tryd.sizeOf34 h2one hg (by omega) (rfl) ?_
    intro w4 hb4 hc4
    replace hp := hp.chg hc4 (by simpa using hp.ne hg (by decide))
    replace hv2 := hv2.chg hc4 (hv2.apart hg (by decide))
    replace hC := hC.trans1 hc4 (by first | exact .inr (by omega) | exact .inl (by simp))
    replace hg := hb4
    refine OL.nil ?_
    refine TE.inBlock ?_
    refine TE.region ?_
    refine OL.pure (Pure.add rfl rfl (i64 (by omega) (by omega))) rfl ?_
    refine OL.pure (Pure.move rfl) rfl ?_
    refine OL.nil ?_
    exact TE.sub [0, 23, 24, 25] rfl (ih2 (1, v2, b ++ m) _ ⟨.inr ⟨rfl, by rw [hb0]⟩, hg, hv2, hm_v2, fun k hk => (ho_v2 k hk).elim (how k) (fun h => .inr (by omega)), hp, hC⟩ (by simp only []; omega))
  ·
    obtain ⟨rfl, rfl⟩ := hcase.resolve_left (fun h => by omega)
    refine TE.exit rfl ?_
    exact TE.fin (vs := []) Tryd.results74 (trivial) ⟨u, rfl, hg, hu, hC, how⟩

theorem wnumber_any (g n : Nat) (v : Value) (l : List UInt8) (hl : l.length ≤ 1073741824) (hn : n < 9223372036854775808) (w : World) (hg : Blk w g 128 [v, .int .i64 0]) (hv : Row w 5 1 v l.length (bv l)) : Calls Tryd.prog 59 #[.pointer (some ⟨g, 0, none⟩), .int .i64 (n : Int)] w (fun e w_ => ∃ v2, e = .returned (.tuple #[]) ∧ Blk w_ g 128 [v2, .int .i64 0] ∧ Row w_ 5 1 v2 (l ++ natEnc n).length (bv (l ++ natEnc n)) ∧ Chg (g :: own v) w w_ ∧ (∀ k, k ∈ own v2 → k ∈ own v ∨ w.heap.size ≤ k)) := by
  refine calls_of_TE (vs := [.pointer (some ⟨g, 0, none⟩), .int .i64 (n : Int)]) Tryd.func59 Tryd.ntmps59 rfl (by simp) ?_
  have hC : Chg [] w w := Chg.refl _ _
  have hlen : (natEnc n).length ≤ 9 := natEnc_len 8 n (by omega)
  refine TE.seq ?_
  refine TE.seq ?_
  refine TE.region ?_
  refine OL.pure (Pure.move rfl) rfl ?_
  refine OL.pure (Pure.lss rfl rfl) rfl ?_
  refine OL.cast (.bool false) 5 rfl (congrArg Value.bool (decide_eq_false (by omega))) ?_
  refine OL.nil ?_
  refine TE.condF rfl rfl ?_
  refine TE.skip ?_
  refine TE.region ?_
  refine OL.pure (Pure.move rfl) rfl ?_
  refine OL.pure (Pure.move rfl) rfl ?_
  refine OL.pure (Pure.conv Tryd.runUnderlying3 Tryd.runUnderlying113 rfl (u64in (by omega) (by omega))) rfl ?_
  refine OL.call rfl Tryd.call75 rfl (natural_any n hn _) ?_
  rintro _ w1 ⟨pv, rfl, hpv, hc1, hm_pv⟩
  replace hm_pv : Mine w.heap.size pv := fun k hk => Nat.le_trans hC.size (hm_pv k hk)
  replace hg := hg.chg0 hc1
  replace hv := hv.chg0 hc1
  replace hC := hC.then_ hc1
  refine ⟨_, rfl, ?_⟩
  have hpone := hpv.oneCell
  refine OL.buildSlice (cs := [pv]) rfl Tryd.runUnderlying139 Tryd.sizeOf34 Tryd.zeroValue34 (by decide) (by decide) (fill_one (by simp) (show pv.cells = _ from hpv.cell1) rfl) rfl ?_
  intro gp w2 hp hc2 hg_gp
  have lt_g_gp : g < gp := by have := hg.lt; omega
  have ge_gp : w.heap.size ≤ gp := by have := hC.size; omega
  replace hg := hg.chg0 hc2
  replace hv := hv.chg0 hc2
  replace hpv := hpv.chg0 hc2
  replace hC := hC.then_ hc2
  refine OL.call rfl Tryd.call74 rfl (write_one g gp v pv l (natEnc n) hl (by omega) _ hg hv hp hpv) ?_
  rintro _ w9 ⟨v2, rfl, hg9, hv9, hc9, ho9⟩
  refine ⟨_, rfl, ?_⟩
  refine OL.nil ?_
  exact TE.fin (vs := []) Tryd.results59 (trivial) ⟨v2, rfl, hg9, hv9, (hC.mono (fun _ h => by cases h)).trans hc9 (fun k hk => .inl hk), fun k hk => (ho9 k hk).imp id (fun h => Nat.le_trans hC.size h)⟩

theorem wbytes_any (g : Nat) (v : Value) (l : List UInt8) (hl : l.length ≤ 1073741824) (w : World) (hg : Blk w g 128 [v, .int .i64 0]) (hv : Row w 5 1 v l.length (bv l)) : Calls Tryd.prog 60 #[.pointer (some ⟨g, 0, none⟩)] w (fun e w_ => ∃ u, e = .returned (.tuple #[u, .int .i64 0]) ∧ Row w_ 5 1 u l.length (bv l) ∧ Chg [] w w_ ∧ Mine w.heap.size u) := by
  refine calls_of_TE (vs := [.pointer (some ⟨g, 0, none⟩)]) Tryd.func60 Tryd.ntmps60 rfl (by simp) ?_
  have hC : Chg [] w w := Chg.refl _ _
  refine TE.seq ?_
  refine TE.region ?_
  refine OL.pure (Pure.assign rfl) rfl ?_
  refine OL.pure (Pure.assign rfl) rfl ?_
  refine OL.nil ?_
  refine TE.seq ?_
  refine TE.block ?_
  refine TE.seq ?_
  refine TE.region ?_
  refine OL.pure (Pure.move rfl) rfl ?_
  refine OL.pure (Pure.eqlNil Tryd.underlying108 rfl rfl) rfl ?_
  refine OL.pure (Pure.assign rfl) rfl ?_
  refine OL.nil ?_
  refine TE.condF rfl rfl ?_
  refine TE.seq ?_
  refine TE.region ?_
  refine OL.pure (Pure.move rfl) rfl ?_
  refine OL.pure (Pure.nilCheck rfl) rfl ?_
  refine OL.pure (Pure.fieldAddr (r := 1) Tryd.runUnderlying128 rfl Tryd.sizeOf31 rfl rfl) rfl ?_
  refine OL.val (Run.load (i := 1) rfl Tryd.isAgg31 hg (by omega) rfl) rfl ?_
  refine OL.pure (Pure.neq rfl rfl) rfl ?_
  refine OL.cast (.bool false) 12 rfl (rfl) ?_
  refine OL.pure (Pure.assign rfl) rfl ?_
  refine OL.nil ?_
  refine TE.condF rfl rfl ?_
  refine TE.skip ?_
  refine TE.inBlock ?_
  refine TE.seq ?_
  refine TE.region ?_
  have hvlt := hv.lt
  refine OL.buildSlice0 Tryd.runUnderlying34 Tryd.sizeOf5 rfl ?_
  intro q w1 hq hc1 hg_q
  have lt_g_q : g < q := by have := hg.lt; omega
  have ge_q : w.heap.size ≤ q := by have := hC.size; omega
  have hm_q : Mine w.heap.size (.slice (some ⟨q, 0, none⟩) 0 0) := Mine.slice ge_q 0 0 0
  replace hg := hg.chg0 hc1
  replace hv := hv.chg0 hc1
  replace hC := hC.then_ hc1
  refine OL.pure (Pure.move rfl) rfl ?_
  refine OL.pure (Pure.nilCheck rfl) rfl ?_
  refine OL.pure (Pure.fieldAddr (r := 0) Tryd.runUnderlying128 rfl Tryd.sizeOf34 rfl rfl) rfl ?_
  refine OL.val (Run.load (i := 0) rfl Tryd.isAgg34 hg (by omega) rfl) rfl ?_
  refine OL.append (size := 1) (v := (.slice (some ⟨q, 0, none⟩) 0 0)) rfl rfl Tryd.underlying34 (.inl Tryd.underlying34) info5 rfl rfl rfl (by decide) rfl hq ((Src.of_row hv)) (bv_one1) (by show _ * 1 ≤ _; omega) ?_
  intro u w2 hu hc2 ho_u
  have hm_u : Mine w.heap.size u := Mine.step hm_q (by have := hC.size; omega) ho_u
  replace hg := hg.chg hc2 (hq.notin hg (by decide))
  replace hC := hC.own hc2 hm_q
  rw [List.nil_append, Nat.zero_add] at hu
  refine OL.pure (Pure.assign rfl) rfl ?_
  refine OL.pure (Pure.assign rfl) rfl ?_
  refine OL.nil ?_
  exact TE.ret (vs := [u, .int .i64 0]) Tryd.results60 (⟨rfl, rfl, trivial⟩) ⟨u, rfl, hu, hC, hm_u⟩

end Go.Proofs.YtcologcjhenmkaaDoor
/- Readers, walked -/
set_option linter.unusedVariables false
set_option maxRecDepth 4000
namespace Go.Proofs.YtcologcjhenmkaaDoor
open Go.V Go.Rg
theorem info123 : Tryd.prog.info? 123 = some Tryd.t123 := by kernel_rfl
theorem groups_any (A : Option Addr) (c : Nat) (l : List UInt8) (hl : l.length ≤ 1073741824) (w : World) (hA : CellsB w A l) : Calls Tryd.prog 79 #[.slice A l.length c, .int .i64 9] w (Ret (.tuple #[.int .u64 ((grp 9 l 0 0).1 : Int), .int .i64 ((grp 9 l 0 0).2.1 : Int), .int .i64 ((grp 9 l 0 0).2.2 : Int)]) w) := by
  refine calls_of_TE (vs := [.slice A l.length c, .int .i64 9]) Tryd.func79 Tryd.ntmps79 rfl (by simp) ?_
  refine TE.seq ?_
  refine TE.region ?_
  refine OL.pure (Pure.assign rfl) rfl ?_
  refine OL.pure (Pure.assign rfl) rfl ?_
  refine OL.pure (Pure.assign rfl) rfl ?_
  refine OL.nil ?_
  refine TE.seq ?_
  refine TE.region ?_
  refine OL.pure (Pure.assign rfl) rfl ?_
  refine OL.nil ?_
  refine TE.seq ?_
  refine TE.seq ?_
  refine TE.region ?_
  refine OL.pure (Pure.move rfl) rfl ?_
  refine OL.pure (Pure.lenSlice Tryd.runUnderlying34 rfl) rfl ?_
  refine OL.pure (Pure.move rfl) rfl ?_
  refine OL.nil ?_
  refine TE.block ?_
  refine TE.loopInv (σ := Nat × Nat) [0, 1, 7, 10, 11, 12] (fun s_ w_ => match s_ with | (i, u) => i ≤ l.length ∧ i ≤ 9 ∧ u < 2 ^ (7 * i) ∧ grp 9 (l.drop i) i u = grp 9 l 0 0 ∧ w = w_) (fun s_ => [(0, .slice A l.length c), (1, .int .i64 (9)), (7, .int .u64 (s_.2 : Int)), (10, .slice A l.length c), (11, .int .i64 (↑l.length)), (12, .int .i64 (s_.1 : Int))]) (fun s_ => l.length - s_.1) (0, 0) ⟨by omega, by omega, by omega, rfl, rfl⟩ rfl ?_
  rintro ⟨i, u⟩ w1 ⟨hi, hi9, hu, hG, rfl⟩ ih1
  try dsimp only
  refine TE.seq ?_
  refine TE.region ?_
  refine OL.pure (Pure.lss rfl rfl) rfl ?_
  refine OL.nil ?_
  refine TE.seq ?_
  refine TE.ite rfl (fun hlt => ?_) (fun hlt => ?_)
  ·
    replace hlt : i < l.length := by omega
    obtain ⟨gc, o, rfl, hcell⟩ := hA i hlt
    obtain ⟨k, hk⟩ : ∃ k : Nat, k = (l.getD i 0).toNat := ⟨_, rfl⟩
    have hk2 := (l.getD i 0).toNat_lt
    rw [← hk] at hk2
    have hbk : bt l i = (k : Int) := by rw [hk]; rfl
    rw [drop_cons hlt] at hG
    refine TE.skip ?_
    refine TE.seq ?_
    refine TE.block ?_
    refine TE.seq ?_
    refine TE.region ?_
    refine OL.pure (Pure.move rfl) rfl ?_
    refine OL.pure (Pure.indexAddrS (r := o + i) Tryd.runUnderlying34 Tryd.sizeOf5 rfl rfl (by omega) (by omega) (by omega)) rfl ?_
    refine OL.val (Run.loadCell rfl Tryd.isAgg5 hcell) rfl ?_
    refine OL.cast (.int .u8 (k : Int)) 16 rfl (congrArg (Value.int .u8) hbk) ?_
    refine OL.pure (Pure.assign rfl) rfl ?_
    refine OL.pure (Pure.assign rfl) rfl ?_
    refine OL.nil ?_
    refine TE.seq ?_
    refine TE.seq ?_
    refine TE.region ?_
    refine OL.pure (Pure.move rfl) rfl ?_
    refine OL.pure (Pure.move rfl) rfl ?_
    refine OL.pure (Pure.eql rfl rfl) rfl ?_
    refine OL.nil ?_
    refine TE.ite rfl (fun h9 => ?_) (fun h9 => ?_)
    ·
      obtain rfl : i = 9 := by omega
      rw [grp_nine] at hG
      refine TE.seq ?_
      refine TE.region ?_
      refine OL.pure (Pure.assign rfl) rfl ?_
      refine OL.pure (Pure.assign rfl) rfl ?_
      refine OL.pure (Pure.assign rfl) rfl ?_
      refine OL.nil ?_
      exact TE.ret (vs := [.int .u64 ((grp 9 l 0 0).1 : Int), .int .i64 ((grp 9 l 0 0).2.1 : Int), .int .i64 ((grp 9 l 0 0).2.2 : Int)]) Tryd.results79 (⟨by rw [← hG]; rfl, by rw [← hG]; rfl, by rw [← hG]; rfl, trivial⟩) ⟨rfl, rfl⟩
    ·
      have h8 : i < 9 := by omega
      refine TE.skip ?_
      refine TE.seq ?_
      refine TE.region ?_
      refine OL.pure (Pure.move rfl) rfl ?_
      refine OL.pure (Pure.move rfl) rfl ?_
      refine OL.pure (Pure.bits rfl rfl rfl) rfl ?_
      refine OL.cast (.int .u8 ((k % 128 : Nat) : Int)) 22 rfl (congrArg (Value.int .u8) (and127 hk2)) ?_
      have hpw : 2 ^ (7 * i) ≤ 2 ^ 56 := Nat.pow_le_pow_right (by omega) (by omega)
      have hkp : k % 128 * 2 ^ (7 * i) ≤ 127 * 2 ^ (7 * i) := Nat.mul_le_mul_right _ (by omega)
      refine OL.pure (Pure.conv Tryd.runUnderlying5 Tryd.runUnderlying113 rfl (u64in (by omega) (by omega))) rfl ?_
      refine OL.pure (Pure.move rfl) rfl ?_
      refine OL.pure (Pure.mul rfl rfl (i64 (by omega) (by omega))) rfl ?_
      refine OL.pure (Pure.shl (p := 2 ^ (7 * i)) (r := ((k % 128 * 2 ^ (7 * i) : Nat) : Int)) rfl rfl (by omega) (by congr 1; simp [IntKind.bits]; omega) (shl64 hkp hpw)) rfl ?_
      refine OL.pure (Pure.bits rfl rfl rfl) rfl ?_
      refine OL.cast (.int .u64 ((u + k % 128 * 2 ^ (7 * i) : Nat) : Int)) 27 rfl (congrArg (Value.int .u64) (or_add64 _ _ _ hu (by omega) (by omega))) ?_
      refine OL.pure (Pure.assign rfl) rfl ?_
      refine OL.nil ?_
      refine TE.seq ?_
      refine TE.region ?_
      refine OL.pure (Pure.move rfl) rfl ?_
      refine OL.pure (Pure.lss rfl rfl) rfl ?_
      refine OL.nil ?_
      refine TE.ite rfl (fun h128 => ?_) (fun h128 => ?_)
      ·
        have hk7 : k < 128 := by omega
        by_cases hz : k = 0 ∧ 0 < i
        ·
          rw [grp_zero (by rw [← hk]; exact hz.1) hz.2 (by omega)] at hG
          refine TE.seq ?_
          refine TE.seq ?_
          refine TE.region ?_
          refine OL.pure (Pure.move rfl) rfl ?_
          refine OL.pure (Pure.eql rfl rfl) rfl ?_
          refine OL.cast (.bool true) 31 rfl (congrArg Value.bool (decide_eq_true (by omega))) ?_
          refine OL.pure (Pure.move rfl) rfl ?_
          refine OL.want rfl rfl rfl (Pure.move rfl _) rfl ?_
          refine OL.want rfl rfl rfl (Pure.gtr rfl rfl _) rfl ?_
          refine OL.cast (.bool true) 34 rfl (congrArg Value.bool (decide_eq_true (by omega))) ?_
          refine OL.pure (Pure.pickT rfl rfl) rfl ?_
          refine OL.nil ?_
          refine TE.condT rfl rfl ?_
          refine TE.seq ?_
          refine TE.region ?_
          refine OL.pure (Pure.assign rfl) rfl ?_
          refine OL.pure (Pure.assign rfl) rfl ?_
          refine OL.pure (Pure.assign rfl) rfl ?_
          refine OL.nil ?_
          exact TE.ret (vs := [.int .u64 ((grp 9 l 0 0).1 : Int), .int .i64 ((grp 9 l 0 0).2.1 : Int), .int .i64 ((grp 9 l 0 0).2.2 : Int)]) Tryd.results79 (⟨by rw [← hG]; rfl, by rw [← hG]; rfl, by rw [← hG]; rfl, trivial⟩) ⟨rfl, rfl⟩
        ·
          by_cases hk0 : k = 0
          ·
            rw [grp_last (by rw [← hk]; exact hk7) (fun h => hz ⟨by rw [hk]; exact h.1, h.2⟩) (by omega), ← hk] at hG
            have hk8 : k % 128 = k := Nat.mod_eq_of_lt hk7
            refine TE.seq ?_
            refine TE.seq ?_
            refine TE.region ?_
            refine OL.pure (Pure.move rfl) rfl ?_
            refine OL.pure (Pure.eql rfl rfl) rfl ?_
            refine OL.cast (.bool true) 31 rfl (congrArg Value.bool (decide_eq_true (by omega))) ?_
            refine OL.pure (Pure.move rfl) rfl ?_
            refine OL.want rfl rfl rfl (Pure.move rfl _) rfl ?_
            refine OL.want rfl rfl rfl (Pure.gtr rfl rfl _) rfl ?_
            refine OL.cast (.bool false) 34 rfl (congrArg Value.bool (decide_eq_false (by omega))) ?_
            refine OL.pure (Pure.pickT rfl rfl) rfl ?_
            refine OL.nil ?_
            refine TE.condF rfl rfl ?_
            refine TE.skip ?_
            refine TE.seq ?_
            refine TE.region ?_
            refine OL.pure (Pure.move rfl) rfl ?_
            refine OL.pure (Pure.move rfl) rfl ?_
            refine OL.pure (Pure.add rfl rfl (i64 (by omega) (by omega))) rfl ?_
            refine OL.pure (Pure.assign rfl) rfl ?_
            refine OL.pure (Pure.assign rfl) rfl ?_
            refine OL.pure (Pure.assign rfl) rfl ?_
            refine OL.nil ?_
            exact TE.ret (vs := [.int .u64 ((grp 9 l 0 0).1 : Int), .int .i64 ((grp 9 l 0 0).2.1 : Int), .int .i64 ((grp 9 l 0 0).2.2 : Int)]) Tryd.results79 (⟨by rw [← hG, hk8]; rfl, by rw [← hG]; rfl, by rw [← hG]; rfl, trivial⟩) ⟨rfl, rfl⟩
          ·
            rw [grp_last (by rw [← hk]; exact hk7) (fun h => hz ⟨by rw [hk]; exact h.1, h.2⟩) (by omega), ← hk] at hG
            have hk8 : k % 128 = k := Nat.mod_eq_of_lt hk7
            refine TE.seq ?_
            refine TE.seq ?_
            refine TE.region ?_
            refine OL.pure (Pure.move rfl) rfl ?_
            refine OL.pure (Pure.eql rfl rfl) rfl ?_
            refine OL.cast (.bool false) 31 rfl (congrArg Value.bool (decide_eq_false (by omega))) ?_
            refine OL.pure (Pure.move rfl) rfl ?_
            refine OL.pass rfl rfl rfl rfl rfl ?_
            refine OL.pass rfl rfl rfl rfl rfl ?_
            refine OL.pure (Pure.pickF rfl rfl) rfl ?_
            refine OL.nil ?_
            refine TE.condF rfl rfl ?_
            refine TE.skip ?_
            refine TE.seq ?_
            refine TE.region ?_
            refine OL.pure (Pure.move rfl) rfl ?_
            refine OL.pure (Pure.move rfl) rfl ?_
            refine OL.pure (Pure.add rfl rfl (i64 (by omega) (by omega))) rfl ?_
            refine OL.pure (Pure.assign rfl) rfl ?_
            refine OL.pure (Pure.assign rfl) rfl ?_
            refine OL.pure (Pure.assign rfl) rfl ?_
            refine OL.nil ?_
            exact TE.ret (vs := [.int .u64 ((grp 9 l 0 0).1 : Int), .int .i64 ((grp 9 l 0 0).2.1 : Int), .int .i64 ((grp 9 l 0 0).2.2 : Int)]) Tryd.results79 (⟨by rw [← hG, hk8]; rfl, by rw [← hG]; rfl, by rw [← hG]; rfl, trivial⟩) ⟨rfl, rfl⟩
      ·
        have hk7 : ¬ k < 128 := by omega
        rw [grp_more (by rw [← hk]; exact hk7) (by omega), ← hk] at hG
        have hk9 : k % 128 = k - 128 := by omega
        refine TE.skip ?_
        refine TE.inBlock ?_
        refine TE.region ?_
        refine OL.pure (Pure.add rfl rfl (i64 (by omega) (by omega))) rfl ?_
        refine OL.pure (Pure.move rfl) rfl ?_
        refine OL.nil ?_
        exact TE.sub [0, 1, 7, 10, 11, 12] rfl (ih1 (i + 1, u + k % 128 * 2 ^ (7 * i)) _ ⟨by omega, by omega, by rw [show 7 * (i + 1) = 7 * i + 7 by omega, Nat.pow_add]; omega, by rw [hk9]; exact hG, rfl⟩ (by simp only []; omega))
  ·
    obtain rfl : i = l.length := by omega
    rw [List.drop_length] at hG
    by_cases hn : 9 ≤ l.length
    ·
      rw [grp_end_T hn] at hG
      refine TE.exit rfl ?_
      refine TE.seq ?_
      refine TE.seq ?_
      refine TE.region ?_
      refine OL.pure (Pure.move rfl) rfl ?_
      refine OL.pure (Pure.lenSlice Tryd.runUnderlying34 rfl) rfl ?_
      refine OL.pure (Pure.move rfl) rfl ?_
      refine OL.pure (Pure.geq rfl rfl) rfl ?_
      refine OL.cast (.bool true) 43 rfl (congrArg Value.bool (decide_eq_true (by omega))) ?_
      refine OL.nil ?_
      refine TE.condT rfl rfl ?_
      refine TE.seq ?_
      refine TE.region ?_
      refine OL.pure (Pure.assign rfl) rfl ?_
      refine OL.pure (Pure.assign rfl) rfl ?_
      refine OL.pure (Pure.assign rfl) rfl ?_
      refine OL.nil ?_
      exact TE.ret (vs := [.int .u64 ((grp 9 l 0 0).1 : Int), .int .i64 ((grp 9 l 0 0).2.1 : Int), .int .i64 ((grp 9 l 0 0).2.2 : Int)]) Tryd.results79 (⟨by rw [← hG]; rfl, by rw [← hG]; rfl, by rw [← hG]; rfl, trivial⟩) ⟨rfl, rfl⟩
    ·
      rw [grp_end_F hn] at hG
      refine TE.exit rfl ?_
      refine TE.seq ?_
      refine TE.seq ?_
      refine TE.region ?_
      refine OL.pure (Pure.move rfl) rfl ?_
      refine OL.pure (Pure.lenSlice Tryd.runUnderlying34 rfl) rfl ?_
      refine OL.pure (Pure.move rfl) rfl ?_
      refine OL.pure (Pure.geq rfl rfl) rfl ?_
      refine OL.cast (.bool false) 43 rfl (congrArg Value.bool (decide_eq_false (by omega))) ?_
      refine OL.nil ?_
      refine TE.condF rfl rfl ?_
      refine TE.skip ?_
      refine TE.seq ?_
      refine TE.region ?_
      refine OL.pure (Pure.assign rfl) rfl ?_
      refine OL.pure (Pure.assign rfl) rfl ?_
      refine OL.pure (Pure.assign rfl) rfl ?_
      refine OL.nil ?_
      exact TE.ret (vs := [.int .u64 ((grp 9 l 0 0).1 : Int), .int .i64 ((grp 9 l 0 0).2.1 : Int), .int .i64 ((grp 9 l 0 0).2.2 : Int)]) Tryd.results79 (⟨by rw [← hG]; rfl, by rw [← hG]; rfl, by rw [← hG]; rfl, trivial⟩) ⟨rfl, rfl⟩

theorem parse_any (A : Option Addr) (c : Nat) (l : List UInt8) (hl : l.length ≤ 1073741824) (w : World) (hA : CellsB w A l) : Calls Tryd.prog 72 #[.slice A l.length c] w (Ret (.tuple #[.int .i64 ((grp 9 l 0 0).1 : Int), .int .i64 ((grp 9 l 0 0).2.1 : Int), .int .i64 ((grp 9 l 0 0).2.2 : Int)]) w) := by
  refine calls_of_TE (vs := [.slice A l.length c]) Tryd.func72 Tryd.ntmps72 rfl (by simp) ?_
  have hbd := grp_bound 9 l 0 0 (by omega) (by omega)
  refine TE.seq ?_
  refine TE.region ?_
  refine OL.pure (Pure.assign rfl) rfl ?_
  refine OL.pure (Pure.assign rfl) rfl ?_
  refine OL.pure (Pure.assign rfl) rfl ?_
  refine OL.nil ?_
  refine TE.seq ?_
  refine TE.region ?_
  refine OL.pure (Pure.move rfl) rfl ?_
  refine OL.call rfl Tryd.call79 rfl (groups_any A c l hl _ hA) ?_
  rintro _ _ ⟨rfl, rfl⟩
  refine ⟨_, rfl, ?_⟩
  refine OL.pure (Pure.move rfl) rfl ?_
  refine OL.pure (Pure.extract (vs := [.int .u64 ((grp 9 l 0 0).1 : Int), .int .i64 ((grp 9 l 0 0).2.1 : Int), .int .i64 ((grp 9 l 0 0).2.2 : Int)]) (i := 0) rfl rfl) rfl ?_
  refine OL.pure (Pure.extract (vs := [.int .u64 ((grp 9 l 0 0).1 : Int), .int .i64 ((grp 9 l 0 0).2.1 : Int), .int .i64 ((grp 9 l 0 0).2.2 : Int)]) (i := 1) rfl rfl) rfl ?_
  refine OL.pure (Pure.extract (vs := [.int .u64 ((grp 9 l 0 0).1 : Int), .int .i64 ((grp 9 l 0 0).2.1 : Int), .int .i64 ((grp 9 l 0 0).2.2 : Int)]) (i := 2) rfl rfl) rfl ?_
  refine OL.pure (Pure.assign rfl) rfl ?_
  refine OL.pure (Pure.assign rfl) rfl ?_
  refine OL.pure (Pure.assign rfl) rfl ?_
  refine OL.nil ?_
  refine TE.seq ?_
  refine TE.region ?_
  refine OL.pure (Pure.move rfl) rfl ?_
  refine OL.pure (Pure.conv Tryd.runUnderlying113 Tryd.runUnderlying3 rfl (i64in (by omega) (by omega))) rfl ?_
  refine OL.pure (Pure.move rfl) rfl ?_
  refine OL.pure (Pure.move rfl) rfl ?_
  refine OL.pure (Pure.assign rfl) rfl ?_
  refine OL.pure (Pure.assign rfl) rfl ?_
  refine OL.pure (Pure.assign rfl) rfl ?_
  refine OL.nil ?_
  exact TE.ret (vs := [.int .i64 ((grp 9 l 0 0).1 : Int), .int .i64 ((grp 9 l 0 0).2.1 : Int), .int .i64 ((grp 9 l 0 0).2.2 : Int)]) Tryd.results72 (⟨rfl, rfl, rfl, trivial⟩) ⟨rfl, rfl⟩

theorem numclo_any (A : Option Addr) (c gm most : Nat) (l : List UInt8) (hl : l.length ≤ 1073741824) (w : World) (hA : CellsB w A l) (hm : Blk w gm 3 [.int .i64 (most : Int)]) : Calls Tryd.prog 71 #[.slice A l.length c, .pointer (some ⟨gm, 0, none⟩)] w (Ret (.tuple #[.int .i64 ((numC (l) most).1 : Int), .int .i64 ((numC (l) most).2.1 : Int), .int .i64 ((numC (l) most).2.2 : Int)]) w) := by
  refine calls_of_TE (vs := [.slice A l.length c, .pointer (some ⟨gm, 0, none⟩)]) Tryd.func71 Tryd.ntmps71 rfl (by simp) ?_
  refine TE.seq ?_
  refine TE.region ?_
  refine OL.pure (Pure.assign rfl) rfl ?_
  refine OL.pure (Pure.assign rfl) rfl ?_
  refine OL.pure (Pure.assign rfl) rfl ?_
  refine OL.nil ?_
  refine TE.seq ?_
  refine TE.region ?_
  refine OL.pure (Pure.move rfl) rfl ?_
  refine OL.call rfl Tryd.call72 rfl (parse_any A c l hl _ hA) ?_
  rintro _ _ ⟨rfl, rfl⟩
  refine ⟨_, rfl, ?_⟩
  by_cases he : (grp 9 l 0 0).2.2 = 0
  ·
    by_cases hg : most < (grp 9 l 0 0).1
    ·
      refine OL.pure (Pure.move rfl) rfl ?_
      refine OL.pure (Pure.extract (vs := [.int .i64 ((grp 9 l 0 0).1 : Int), .int .i64 ((grp 9 l 0 0).2.1 : Int), .int .i64 ((grp 9 l 0 0).2.2 : Int)]) (i := 0) rfl rfl) rfl ?_
      refine OL.pure (Pure.extract (vs := [.int .i64 ((grp 9 l 0 0).1 : Int), .int .i64 ((grp 9 l 0 0).2.1 : Int), .int .i64 ((grp 9 l 0 0).2.2 : Int)]) (i := 1) rfl rfl) rfl ?_
      refine OL.pure (Pure.extract (vs := [.int .i64 ((grp 9 l 0 0).1 : Int), .int .i64 ((grp 9 l 0 0).2.1 : Int), .int .i64 ((grp 9 l 0 0).2.2 : Int)]) (i := 2) rfl rfl) rfl ?_
      refine OL.pure (Pure.assign rfl) rfl ?_
      refine OL.pure (Pure.assign rfl) rfl ?_
      refine OL.pure (Pure.assign rfl) rfl ?_
      refine OL.nil ?_
      refine TE.seq ?_
      refine TE.seq ?_
      refine TE.region ?_
      refine OL.pure (Pure.move rfl) rfl ?_
      refine OL.pure (Pure.eql rfl rfl) rfl ?_
      refine OL.cast (.bool true) 16 rfl (congrArg Value.bool (decide_eq_true (by omega))) ?_
      refine OL.pure (Pure.move rfl) rfl ?_
      refine OL.want rfl rfl rfl (Pure.move rfl _) rfl ?_
      refine OL.want rfl rfl rfl (Run.load (i := 0) rfl Tryd.isAgg3 hm (by omega) rfl) rfl ?_
      refine OL.want rfl rfl rfl (Pure.gtr rfl rfl _) rfl ?_
      refine OL.cast (.bool true) 20 rfl (congrArg Value.bool (decide_eq_true (by omega))) ?_
      refine OL.pure (Pure.pickT rfl rfl) rfl ?_
      refine OL.nil ?_
      refine TE.condT rfl rfl ?_
      refine TE.seq ?_
      refine TE.region ?_
      refine OL.pure (Pure.assign rfl) rfl ?_
      refine OL.pure (Pure.assign rfl) rfl ?_
      refine OL.pure (Pure.assign rfl) rfl ?_
      refine OL.nil ?_
      exact TE.ret (vs := [.int .i64 ((numC (l) most).1 : Int), .int .i64 ((numC (l) most).2.1 : Int), .int .i64 ((numC (l) most).2.2 : Int)]) Tryd.results71 (⟨by rw [numC_big he hg]; rfl, by rw [numC_big he hg]; rfl, by rw [numC_big he hg]; rfl, trivial⟩) ⟨rfl, rfl⟩
    ·
      refine OL.pure (Pure.move rfl) rfl ?_
      refine OL.pure (Pure.extract (vs := [.int .i64 ((grp 9 l 0 0).1 : Int), .int .i64 ((grp 9 l 0 0).2.1 : Int), .int .i64 ((grp 9 l 0 0).2.2 : Int)]) (i := 0) rfl rfl) rfl ?_
      refine OL.pure (Pure.extract (vs := [.int .i64 ((grp 9 l 0 0).1 : Int), .int .i64 ((grp 9 l 0 0).2.1 : Int), .int .i64 ((grp 9 l 0 0).2.2 : Int)]) (i := 1) rfl rfl) rfl ?_
      refine OL.pure (Pure.extract (vs := [.int .i64 ((grp 9 l 0 0).1 : Int), .int .i64 ((grp 9 l 0 0).2.1 : Int), .int .i64 ((grp 9 l 0 0).2.2 : Int)]) (i := 2) rfl rfl) rfl ?_
      refine OL.pure (Pure.assign rfl) rfl ?_
      refine OL.pure (Pure.assign rfl) rfl ?_
      refine OL.pure (Pure.assign rfl) rfl ?_
      refine OL.nil ?_
      refine TE.seq ?_
      refine TE.seq ?_
      refine TE.region ?_
      refine OL.pure (Pure.move rfl) rfl ?_
      refine OL.pure (Pure.eql rfl rfl) rfl ?_
      refine OL.cast (.bool true) 16 rfl (congrArg Value.bool (decide_eq_true (by omega))) ?_
      refine OL.pure (Pure.move rfl) rfl ?_
      refine OL.want rfl rfl rfl (Pure.move rfl _) rfl ?_
      refine OL.want rfl rfl rfl (Run.load (i := 0) rfl Tryd.isAgg3 hm (by omega) rfl) rfl ?_
      refine OL.want rfl rfl rfl (Pure.gtr rfl rfl _) rfl ?_
      refine OL.cast (.bool false) 20 rfl (congrArg Value.bool (decide_eq_false (by omega))) ?_
      refine OL.pure (Pure.pickT rfl rfl) rfl ?_
      refine OL.nil ?_
      refine TE.condF rfl rfl ?_
      refine TE.skip ?_
      refine TE.seq ?_
      refine TE.region ?_
      refine OL.pure (Pure.move rfl) rfl ?_
      refine OL.pure (Pure.move rfl) rfl ?_
      refine OL.pure (Pure.move rfl) rfl ?_
      refine OL.pure (Pure.assign rfl) rfl ?_
      refine OL.pure (Pure.assign rfl) rfl ?_
      refine OL.pure (Pure.assign rfl) rfl ?_
      refine OL.nil ?_
      exact TE.ret (vs := [.int .i64 ((numC (l) most).1 : Int), .int .i64 ((numC (l) most).2.1 : Int), .int .i64 ((numC (l) most).2.2 : Int)]) Tryd.results71 (⟨by rw [numC_ok (fun h => hg h.2)]; rfl, by rw [numC_ok (fun h => hg h.2)]; rfl, by rw [numC_ok (fun h => hg h.2)]; rfl, trivial⟩) ⟨rfl, rfl⟩
  ·
    refine OL.pure (Pure.move rfl) rfl ?_
    refine OL.pure (Pure.extract (vs := [.int .i64 ((grp 9 l 0 0).1 : Int), .int .i64 ((grp 9 l 0 0).2.1 : Int), .int .i64 ((grp 9 l 0 0).2.2 : Int)]) (i := 0) rfl rfl) rfl ?_
    refine OL.pure (Pure.extract (vs := [.int .i64 ((grp 9 l 0 0).1 : Int), .int .i64 ((grp 9 l 0 0).2.1 : Int), .int .i64 ((grp 9 l 0 0).2.2 : Int)]) (i := 1) rfl rfl) rfl ?_
    refine OL.pure (Pure.extract (vs := [.int .i64 ((grp 9 l 0 0).1 : Int), .int .i64 ((grp 9 l 0 0).2.1 : Int), .int .i64 ((grp 9 l 0 0).2.2 : Int)]) (i := 2) rfl rfl) rfl ?_
    refine OL.pure (Pure.assign rfl) rfl ?_
    refine OL.pure (Pure.assign rfl) rfl ?_
    refine OL.pure (Pure.assign rfl) rfl ?_
    refine OL.nil ?_
    refine TE.seq ?_
    refine TE.seq ?_
    refine TE.region ?_
    refine OL.pure (Pure.move rfl) rfl ?_
    refine OL.pure (Pure.eql rfl rfl) rfl ?_
    refine OL.cast (.bool false) 16 rfl (congrArg Value.bool (decide_eq_false (by omega))) ?_
    refine OL.pure (Pure.move rfl) rfl ?_
    refine OL.pass rfl rfl rfl rfl rfl ?_
    refine OL.pass rfl rfl rfl rfl rfl ?_
    refine OL.pass rfl rfl rfl rfl rfl ?_
    refine OL.pure (Pure.pickF rfl rfl) rfl ?_
    refine OL.nil ?_
    refine TE.condF rfl rfl ?_
    refine TE.skip ?_
    refine TE.seq ?_
    refine TE.region ?_
    refine OL.pure (Pure.move rfl) rfl ?_
    refine OL.pure (Pure.move rfl) rfl ?_
    refine OL.pure (Pure.move rfl) rfl ?_
    refine OL.pure (Pure.assign rfl) rfl ?_
    refine OL.pure (Pure.assign rfl) rfl ?_
    refine OL.pure (Pure.assign rfl) rfl ?_
    refine OL.nil ?_
    exact TE.ret (vs := [.int .i64 ((numC (l) most).1 : Int), .int .i64 ((numC (l) most).2.1 : Int), .int .i64 ((numC (l) most).2.2 : Int)]) Tryd.results71 (⟨by rw [numC_ok (fun h => he h.1)]; rfl, by rw [numC_ok (fun h => he h.1)]; rfl, by rw [numC_ok (fun h => he h.1)]; rfl, trivial⟩) ⟨rfl, rfl⟩

theorem read_any (g gm at_ f most : Nat) (v : Value) (b : List UInt8) (hat : at_ ≤ b.length) (hb : b.length ≤ 1073741824) (hmo : most < 9223372036854775808) (w : World) (hg : Blk w g 123 [v, .int .i64 (at_ : Int), .int .i64 (f : Int)]) (hv : Row w 5 1 v b.length (bv b)) (hm : Blk w gm 3 [.int .i64 (most : Int)]) : Calls Tryd.prog 70 #[.pointer (some ⟨g, 0, none⟩), .func (.func 71) #[] #[.pointer (some ⟨gm, 0, none⟩)]] w (RetW (.int .i64 ((rdN b most (at_, f)).1 : Int)) g 123 [v, .int .i64 ((rdN b most (at_, f)).2.1 : Int), .int .i64 ((rdN b most (at_, f)).2.2 : Int)] w) := by
  refine calls_of_TE (vs := [.pointer (some ⟨g, 0, none⟩), .func (.func 71) #[] #[.pointer (some ⟨gm, 0, none⟩)]]) Tryd.func70 Tryd.ntmps70 rfl (by simp) ?_
  have hC : Chg [g] w w := Chg.refl _ _
  by_cases hf : f = 0
  ·
    subst hf
    refine TE.seq ?_
    refine TE.region ?_
    refine OL.pure (Pure.assign rfl) rfl ?_
    refine OL.nil ?_
    refine TE.seq ?_
    refine TE.region ?_
    refine OL.pure (Pure.assign rfl) rfl ?_
    refine OL.nil ?_
    refine TE.seq ?_
    refine TE.seq ?_
    refine TE.region ?_
    refine OL.pure (Pure.move rfl) rfl ?_
    refine OL.pure (Pure.eqlNil Tryd.underlying105 rfl rfl) rfl ?_
    refine OL.pure (Pure.move rfl) rfl ?_
    refine OL.want rfl rfl rfl (Pure.move rfl _) rfl ?_
    refine OL.want rfl rfl rfl (Pure.nilCheck rfl _) rfl ?_
    refine OL.want rfl rfl rfl (Pure.fieldAddr (r := 2) Tryd.runUnderlying123 rfl Tryd.sizeOf31 rfl rfl _) rfl ?_
    refine OL.want rfl rfl rfl (Run.load (i := 2) rfl Tryd.isAgg31 hg (by omega) rfl) rfl ?_
    refine OL.want rfl rfl rfl (Pure.neq rfl rfl _) rfl ?_
    refine OL.cast (.bool false) 16 rfl (congrArg Value.bool (decide_eq_false (by omega))) ?_
    refine OL.pure (Pure.pickF rfl rfl) rfl ?_
    refine OL.nil ?_
    refine TE.condF rfl rfl ?_
    refine TE.skip ?_
    refine TE.seq ?_
    refine TE.planAll (.cons (0, true) (.cons (1, true) (.cons (2, true) (.cons (3, true) (.cons (4, true) (.cons (5, true) (.cons (6, true) (.cons (7, true) (.cons (8, true) (.cons (9, true) (.cons (10, false) (.cons (11, true) (.cons (12, true) (.cons (13, true) (.cons (14, true) (.cons (15, true) (.cons (16, true) (.cons (17, true) .nil)))))))))))))))))) (fun w_ => Chg [] w w_) rfl (by kernel_rfl) ?_
    have hS1 : Chg [] w w.drew := Chg.drew _ _
    refine PL.takeP rfl (Pure.move rfl) rfl hS1 ?_
    refine PL.takeP rfl (Pure.move rfl) rfl hS1 ?_
    refine PL.takeP rfl (Pure.nilCheck rfl) rfl hS1 ?_
    refine PL.takeP rfl (Pure.fieldAddr (r := 0) Tryd.runUnderlying123 rfl Tryd.sizeOf34 rfl rfl) rfl hS1 ?_
    refine PL.take rfl (fun w_ h_ => Run.load (i := 0) rfl Tryd.isAgg34 (hg.chg0 h_) (by omega) rfl) rfl hS1 ?_
    refine PL.takeP rfl (Pure.move rfl) rfl hS1 ?_
    refine PL.takeP rfl (Pure.nilCheck rfl) rfl hS1 ?_
    refine PL.takeP rfl (Pure.fieldAddr (r := 1) Tryd.runUnderlying123 rfl Tryd.sizeOf3 rfl rfl) rfl hS1 ?_
    refine PL.take rfl (fun w_ h_ => Run.load (i := 1) rfl Tryd.isAgg3 (hg.chg0 h_) (by omega) rfl) rfl hS1 ?_
    refine PL.sliceRest rfl Tryd.runUnderlying34 Tryd.sizeOf5 rfl rfl rfl hv hat rfl hS1 ?_
    intro A c hA
    have hdl : (b.drop at_).length ≤ 1073741824 := by simp; omega
    obtain ⟨q, hq⟩ : ∃ q, q = numC (b.drop at_) most := ⟨_, rfl⟩
    have hR := rdN_zero b most at_
    rw [← hq] at hR
    have hqs : q.2.1 ≤ b.length := by rw [hq]; have := numC_size (b.drop at_) most; simp at this; omega
    have hqv : q.1 < 9223372036854775808 := by rw [hq]; exact numC_bound _ _
    refine PL.callFn rfl rfl rfl Tryd.call71 rfl (numclo_any A c gm most (b.drop at_) hdl _ hA (hm.chg0 hS1)) ?_
    rw [← hq]
    rintro _ _ ⟨rfl, rfl⟩
    refine ⟨_, rfl, hS1, ?_⟩
    refine PL.takeP rfl (Pure.move rfl) rfl hS1 ?_
    refine PL.takeP rfl (Pure.extract (vs := [.int .i64 (q.1 : Int), .int .i64 (q.2.1 : Int), .int .i64 (q.2.2 : Int)]) (i := 0) rfl rfl) rfl hS1 ?_
    refine PL.takeP rfl (Pure.extract (vs := [.int .i64 (q.1 : Int), .int .i64 (q.2.1 : Int), .int .i64 (q.2.2 : Int)]) (i := 1) rfl rfl) rfl hS1 ?_
    refine PL.takeP rfl (Pure.extract (vs := [.int .i64 (q.1 : Int), .int .i64 (q.2.1 : Int), .int .i64 (q.2.2 : Int)]) (i := 2) rfl rfl) rfl hS1 ?_
    refine PL.takeP rfl (Pure.assign rfl) rfl hS1 ?_
    refine PL.takeP rfl (Pure.assign rfl) rfl hS1 ?_
    refine PL.takeP rfl (Pure.assign rfl) rfl hS1 ?_
    refine PL.nil ?_
    replace hg := hg.chg0 hS1
    replace hv := hv.chg0 hS1
    replace hm := hm.chg0 hS1
    replace hC := hC.then_ hS1
    refine TE.seq ?_
    refine TE.seq ?_
    refine TE.region ?_
    refine OL.pure (Pure.move rfl) rfl ?_
    by_cases hq2 : q.2.2 = 0
    ·
      rw [if_neg (by omega)] at hR
      refine OL.pure (Pure.neq rfl rfl) rfl ?_
      refine OL.cast (.bool false) 35 rfl (congrArg Value.bool (decide_eq_false (by omega))) ?_
      refine OL.nil ?_
      refine TE.condF rfl rfl ?_
      refine TE.skip ?_
      refine TE.seq ?_
      refine TE.region ?_
      refine OL.pure (Pure.move rfl) rfl ?_
      refine OL.pure (Pure.nilCheck rfl) rfl ?_
      refine OL.pure (Pure.fieldAddr (r := 1) Tryd.runUnderlying123 rfl Tryd.sizeOf3 rfl rfl) rfl ?_
      refine OL.val (Run.load (i := 1) rfl Tryd.isAgg3 hg (by omega) rfl) rfl ?_
      refine OL.pure (Pure.move rfl) rfl ?_
      refine OL.pure (Pure.add rfl rfl (i64 (by omega) (by omega))) rfl ?_
      refine OL.pure (Pure.nilCheck rfl) rfl ?_
      refine OL.pure (Pure.fieldAddr (r := 1) Tryd.runUnderlying123 rfl Tryd.sizeOf3 rfl rfl) rfl ?_
      refine OL.store (j := 1) rfl rfl Tryd.sizeOf3 rfl hg (by omega) (rfl) ?_
      intro w2 hb2 hc2
      replace hv := hv.chg hc2 (hv.apart hg (by decide))
      replace hm := hm.chg hc2 (by simpa using hm.ne hg (by decide))
      replace hC := hC.trans1 hc2 (by first | exact .inr (by omega) | exact .inl (by simp))
      replace hg := hb2
      refine OL.nil ?_
      refine TE.seq ?_
      refine TE.region ?_
      refine OL.pure (Pure.move rfl) rfl ?_
      refine OL.pure (Pure.assign rfl) rfl ?_
      refine OL.nil ?_
      exact TE.ret (vs := [.int .i64 ((rdN b most (at_, 0)).1 : Int)]) Tryd.results70 (⟨by rw [hR]; rfl, trivial⟩) ⟨rfl, hC, by rw [hR]; exact hg⟩
    ·
      rw [if_pos (by omega)] at hR
      refine OL.pure (Pure.neq rfl rfl) rfl ?_
      refine OL.cast (.bool true) 35 rfl (congrArg Value.bool (decide_eq_true (by omega))) ?_
      refine OL.nil ?_
      refine TE.condT rfl rfl ?_
      refine TE.seq ?_
      refine TE.region ?_
      refine OL.pure (Pure.move rfl) rfl ?_
      refine OL.pure (Pure.move rfl) rfl ?_
      refine OL.pure (Pure.nilCheck rfl) rfl ?_
      refine OL.pure (Pure.fieldAddr (r := 2) Tryd.runUnderlying123 rfl Tryd.sizeOf31 rfl rfl) rfl ?_
      refine OL.store (j := 2) rfl rfl Tryd.sizeOf31 rfl hg (by omega) (rfl) ?_
      intro w3 hb3 hc3
      replace hv := hv.chg hc3 (hv.apart hg (by decide))
      replace hm := hm.chg hc3 (by simpa using hm.ne hg (by decide))
      replace hC := hC.trans1 hc3 (by first | exact .inr (by omega) | exact .inl (by simp))
      replace hg := hb3
      refine OL.nil ?_
      refine TE.seq ?_
      refine TE.region ?_
      refine OL.pure (Pure.move rfl) rfl ?_
      refine OL.pure (Pure.assign rfl) rfl ?_
      refine OL.nil ?_
      exact TE.ret (vs := [.int .i64 ((rdN b most (at_, 0)).1 : Int)]) Tryd.results70 (⟨by rw [hR]; rfl, trivial⟩) ⟨rfl, hC, by rw [hR]; exact hg⟩
  ·
    refine TE.seq ?_
    refine TE.region ?_
    refine OL.pure (Pure.assign rfl) rfl ?_
    refine OL.nil ?_
    refine TE.seq ?_
    refine TE.region ?_
    refine OL.pure (Pure.assign rfl) rfl ?_
    refine OL.nil ?_
    refine TE.seq ?_
    refine TE.seq ?_
    refine TE.region ?_
    refine OL.pure (Pure.move rfl) rfl ?_
    refine OL.pure (Pure.eqlNil Tryd.underlying105 rfl rfl) rfl ?_
    refine OL.pure (Pure.move rfl) rfl ?_
    refine OL.want rfl rfl rfl (Pure.move rfl _) rfl ?_
    refine OL.want rfl rfl rfl (Pure.nilCheck rfl _) rfl ?_
    refine OL.want rfl rfl rfl (Pure.fieldAddr (r := 2) Tryd.runUnderlying123 rfl Tryd.sizeOf31 rfl rfl _) rfl ?_
    refine OL.want rfl rfl rfl (Run.load (i := 2) rfl Tryd.isAgg31 hg (by omega) rfl) rfl ?_
    refine OL.want rfl rfl rfl (Pure.neq rfl rfl _) rfl ?_
    refine OL.cast (.bool true) 16 rfl (congrArg Value.bool (decide_eq_true (by omega))) ?_
    refine OL.pure (Pure.pickF rfl rfl) rfl ?_
    refine OL.nil ?_
    refine TE.condT rfl rfl ?_
    refine TE.seq ?_
    refine TE.region ?_
    refine OL.pure (Pure.move rfl) rfl ?_
    refine OL.pure (Pure.assign rfl) rfl ?_
    refine OL.nil ?_
    exact TE.ret (vs := [.int .i64 ((rdN b most (at_, f)).1 : Int)]) Tryd.results70 (⟨by rw [rdN_failed hf]; rfl, trivial⟩) ⟨rfl, hC, by rw [rdN_failed hf]; exact hg⟩

theorem rnumber_any (g at_ f most : Nat) (v : Value) (b : List UInt8) (hat : at_ ≤ b.length) (hb : b.length ≤ 1073741824) (hmo : most < 9223372036854775808) (w : World) (hg : Blk w g 123 [v, .int .i64 (at_ : Int), .int .i64 (f : Int)]) (hv : Row w 5 1 v b.length (bv b)) : Calls Tryd.prog 55 #[.pointer (some ⟨g, 0, none⟩), .int .i64 (most : Int)] w (RetW (.int .i64 ((rdN b most (at_, f)).1 : Int)) g 123 [v, .int .i64 ((rdN b most (at_, f)).2.1 : Int), .int .i64 ((rdN b most (at_, f)).2.2 : Int)] w) := by
  refine calls_of_TE (vs := [.pointer (some ⟨g, 0, none⟩), .int .i64 (most : Int)]) Tryd.func55 Tryd.ntmps55 rfl (by simp) ?_
  have hC : Chg [] w w := Chg.refl _ _
  have hglt := hg.lt
  refine TE.seq ?_
  refine TE.region ?_
  refine OL.box rfl rfl ?_
  intro gm w1 hm hc1 hg_gm
  have lt_g_gm : g < gm := by have := hg.lt; omega
  have ge_gm : w.heap.size ≤ gm := by have := hC.size; omega
  replace hg := hg.chg0 hc1
  replace hv := hv.chg0 hc1
  replace hC := hC.then_ hc1
  have hm : Blk w1 gm 3 ([.int .i64 (most : Int)]) := hm
  refine OL.pure (Pure.assign rfl) rfl ?_
  refine OL.nil ?_
  refine TE.seq ?_
  refine TE.region ?_
  refine OL.pure (Pure.move rfl) rfl ?_
  refine OL.pure (Pure.makeFunc rfl) rfl ?_
  refine OL.call rfl Tryd.call70 rfl (read_any g gm at_ f most v b hat hb hmo _ hg hv hm) ?_
  rintro _ w9 ⟨rfl, hc9, hg9⟩
  refine ⟨_, rfl, ?_⟩
  refine OL.pure (Pure.assign rfl) rfl ?_
  refine OL.nil ?_
  exact TE.ret (vs := [.int .i64 ((rdN b most (at_, f)).1 : Int)]) Tryd.results55 (⟨rfl, trivial⟩) ⟨rfl, (hC.mono (fun _ h => by cases h)).trans1 hc9 (.inl (by simp)), hg9⟩

theorem built_reader (u : Value) (hu : u.cells = #[u]) : Tryd.prog.built 123 [(0, u)] = some [u, .int .i64 0, .int .i64 0].toArray := by
  rw [built_struct (places := [(0, 1), (1, 1), (2, 1)]) info123 Tryd.underlying123 rfl (by kernel_rfl)]
  have h1 := fill_cons (place := (([(0, 1), (1, 1), (2, 1)] : List (Nat × Nat)).toArray[·]?)) (cs := [.slice none 0 0, .int .i64 0, .int .i64 0]) (vs := [u]) (i := 0) (off := 0) (v := u) (rest := []) rfl hu (by simp)
  exact h1
theorem newreader_any (v : Value) (l : List UInt8) (hl : l.length ≤ 1073741824) (w : World) (hv : Row w 5 1 v l.length (bv l)) : Calls Tryd.prog 54 #[v] w (fun e w_ => ∃ g u, e = .returned (.pointer (some ⟨g, 0, none⟩)) ∧ Blk w_ g 123 [u, .int .i64 0, .int .i64 0] ∧ Row w_ 5 1 u l.length (bv l) ∧ Chg [] w w_ ∧ w.heap.size ≤ g ∧ Mine w.heap.size u) := by
  refine calls_of_TE (vs := [v]) Tryd.func54 Tryd.ntmps54 rfl (by simp) ?_
  have hC : Chg [] w w := Chg.refl _ _
  refine TE.seq ?_
  refine TE.region ?_
  refine OL.pure (Pure.assign rfl) rfl ?_
  refine OL.nil ?_
  refine TE.seq ?_
  refine TE.region ?_
  have hvlt := hv.lt
  refine OL.buildSlice0 Tryd.runUnderlying34 Tryd.sizeOf5 rfl ?_
  intro q w1 hq hc1 hg_q
  have ge_q : w.heap.size ≤ q := by have := hC.size; omega
  have hm_q : Mine w.heap.size (.slice (some ⟨q, 0, none⟩) 0 0) := Mine.slice ge_q 0 0 0
  replace hv := hv.chg0 hc1
  replace hC := hC.then_ hc1
  refine OL.pure (Pure.move rfl) rfl ?_
  refine OL.append (size := 1) (v := (.slice (some ⟨q, 0, none⟩) 0 0)) rfl rfl Tryd.underlying34 (.inl Tryd.underlying34) info5 rfl rfl rfl (by decide) rfl hq ((Src.of_row hv)) (bv_one1) (by show _ * 1 ≤ _; omega) ?_
  intro u w2 hu hc2 ho_u
  have hm_u : Mine w.heap.size u := Mine.step hm_q (by have := hC.size; omega) ho_u
  replace hC := hC.own hc2 hm_q
  rw [List.nil_append, Nat.zero_add] at hu
  have huone := hu.oneCell
  have hulen : (Value.cells u).size = 1 := by rw [hu.cell1]; rfl
  refine OL.pure (Pure.build (cs := [u, .int .i64 0, .int .i64 0]) rfl (built_reader u hu.cell1)) rfl ?_
  refine OL.box rfl rfl ?_
  intro g w3 hg hc3 hg_g
  have ge_g : w.heap.size ≤ g := by have := hC.size; omega
  replace hu := hu.chg0 hc3
  replace hC := hC.then_ hc3
  have hg : Blk w3 g 123 ([u, .int .i64 0, .int .i64 0]) := hg
  refine OL.pure (Pure.assign rfl) rfl ?_
  refine OL.nil ?_
  exact TE.ret (vs := [.pointer (some ⟨g, 0, none⟩)]) Tryd.results54 (⟨rfl, trivial⟩) ⟨g, u, rfl, hg, hu, hC, ge_g, hm_u⟩

theorem rest_any (g at_ f : Nat) (v : Value) (b : List UInt8) (hat : at_ ≤ b.length) (hb : b.length ≤ 1073741824) (w : World) (hg : Blk w g 123 [v, .int .i64 (at_ : Int), .int .i64 (f : Int)]) (hv : Row w 5 1 v b.length (bv b)) : Calls Tryd.prog 73 #[.pointer (some ⟨g, 0, none⟩)] w (RetC (.int .i64 ((b.length : Int) - (at_ : Int))) w) := by
  refine calls_of_TE (vs := [.pointer (some ⟨g, 0, none⟩)]) Tryd.func73 Tryd.ntmps73 rfl (by simp) ?_
  have hC : Chg [] w w := Chg.refl _ _
  refine TE.seq ?_
  refine TE.region ?_
  refine OL.pure (Pure.assign rfl) rfl ?_
  refine OL.nil ?_
  refine TE.seq ?_
  refine TE.seq ?_
  refine TE.region ?_
  refine OL.pure (Pure.move rfl) rfl ?_
  refine OL.pure (Pure.eqlNil Tryd.underlying105 rfl rfl) rfl ?_
  refine OL.nil ?_
  refine TE.condF rfl rfl ?_
  refine TE.skip ?_
  refine TE.seq ?_
  refine TE.planAll (.cons (0, true) (.cons (1, true) (.cons (2, true) (.cons (3, true) (.cons (4, true) (.cons (5, true) (.cons (6, true) (.cons (7, true) (.cons (8, true) (.cons (9, true) (.cons (10, true) .nil))))))))))) (fun w_ => Chg [] w w_) rfl (by kernel_rfl) ?_
  have hS1 : Chg [] w w.drew := Chg.drew _ _
  refine PL.takeP rfl (Pure.move rfl) rfl hS1 ?_
  refine PL.takeP rfl (Pure.nilCheck rfl) rfl hS1 ?_
  refine PL.takeP rfl (Pure.fieldAddr (r := 0) Tryd.runUnderlying123 rfl Tryd.sizeOf34 rfl rfl) rfl hS1 ?_
  refine PL.take rfl (fun w_ h_ => Run.load (i := 0) rfl Tryd.isAgg34 (hg.chg0 h_) (by omega) rfl) rfl hS1 ?_
  refine PL.takeP rfl (Pure.lenRow Tryd.runUnderlying34 rfl hv) rfl hS1 ?_
  refine PL.takeP rfl (Pure.move rfl) rfl hS1 ?_
  refine PL.takeP rfl (Pure.nilCheck rfl) rfl hS1 ?_
  refine PL.takeP rfl (Pure.fieldAddr (r := 1) Tryd.runUnderlying123 rfl Tryd.sizeOf3 rfl rfl) rfl hS1 ?_
  refine PL.take rfl (fun w_ h_ => Run.load (i := 1) rfl Tryd.isAgg3 (hg.chg0 h_) (by omega) rfl) rfl hS1 ?_
  refine PL.takeP rfl (Pure.sub rfl rfl (i64 (by omega) (by omega))) rfl hS1 ?_
  refine PL.takeP rfl (Pure.assign rfl) rfl hS1 ?_
  refine PL.nil ?_
  replace hg := hg.chg0 hS1
  replace hv := hv.chg0 hS1
  replace hC := hC.then_ hS1
  exact TE.ret (vs := [.int .i64 ((b.length : Int) - (at_ : Int))]) Tryd.results73 (⟨rfl, trivial⟩) ⟨rfl, hC⟩

theorem close_any (g at_ f : Nat) (v : Value) (b : List UInt8) (hat : at_ ≤ b.length) (hb : b.length ≤ 1073741824) (w : World) (hg : Blk w g 123 [v, .int .i64 (at_ : Int), .int .i64 (f : Int)]) (hv : Row w 5 1 v b.length (bv b)) : Calls Tryd.prog 56 #[.pointer (some ⟨g, 0, none⟩)] w (RetC (.int .i64 (if f = 0 ∧ at_ < b.length then 5 else (f : Int))) w) := by
  refine calls_of_TE (vs := [.pointer (some ⟨g, 0, none⟩)]) Tryd.func56 Tryd.ntmps56 rfl (by simp) ?_
  have hC : Chg [] w w := Chg.refl _ _
  by_cases hf : f = 0
  ·
    by_cases hr : at_ < b.length
    ·
      refine TE.seq ?_
      refine TE.region ?_
      refine OL.pure (Pure.assign rfl) rfl ?_
      refine OL.nil ?_
      refine TE.seq ?_
      refine TE.block ?_
      refine TE.seq ?_
      refine TE.region ?_
      refine OL.pure (Pure.move rfl) rfl ?_
      refine OL.pure (Pure.eqlNil Tryd.underlying105 rfl rfl) rfl ?_
      refine OL.pure (Pure.assign rfl) rfl ?_
      refine OL.nil ?_
      refine TE.condF rfl rfl ?_
      refine TE.seq ?_
      refine TE.region ?_
      refine OL.pure (Pure.move rfl) rfl ?_
      refine OL.pure (Pure.nilCheck rfl) rfl ?_
      refine OL.pure (Pure.fieldAddr (r := 2) Tryd.runUnderlying123 rfl Tryd.sizeOf31 rfl rfl) rfl ?_
      refine OL.val (Run.load (i := 2) rfl Tryd.isAgg31 hg (by omega) rfl) rfl ?_
      refine OL.pure (Pure.eql rfl rfl) rfl ?_
      refine OL.cast (.bool true) 11 rfl (congrArg Value.bool (decide_eq_true (by omega))) ?_
      refine OL.pure (Pure.move rfl) rfl ?_
      refine OL.want rfl rfl rfl (Pure.move rfl _) rfl ?_
      refine OL.callG rfl rfl rfl rfl Tryd.call73 rfl (rest_any g at_ f v b hat hb _ hg hv) ?_
      rintro _ w1 ⟨rfl, hc1⟩
      replace hg := hg.chg0 hc1
      replace hv := hv.chg0 hc1
      replace hC := hC.then_ hc1
      refine ⟨_, rfl, ?_⟩
      refine OL.want rfl rfl rfl (Pure.gtr rfl rfl _) rfl ?_
      refine OL.cast (.bool true) 15 rfl (congrArg Value.bool (decide_eq_true (by omega))) ?_
      refine OL.pure (Pure.pickT rfl rfl) rfl ?_
      refine OL.pure (Pure.assign rfl) rfl ?_
      refine OL.nil ?_
      refine TE.condT rfl rfl ?_
      refine TE.seq ?_
      refine TE.region ?_
      refine OL.pure (Pure.assign rfl) rfl ?_
      refine OL.nil ?_
      exact TE.ret (vs := [.int .i64 (if f = 0 ∧ at_ < b.length then 5 else (f : Int))]) Tryd.results56 (⟨by rw [if_pos ⟨hf, hr⟩]; rfl, trivial⟩) ⟨rfl, hC⟩
    ·
      refine TE.seq ?_
      refine TE.region ?_
      refine OL.pure (Pure.assign rfl) rfl ?_
      refine OL.nil ?_
      refine TE.seq ?_
      refine TE.block ?_
      refine TE.seq ?_
      refine TE.region ?_
      refine OL.pure (Pure.move rfl) rfl ?_
      refine OL.pure (Pure.eqlNil Tryd.underlying105 rfl rfl) rfl ?_
      refine OL.pure (Pure.assign rfl) rfl ?_
      refine OL.nil ?_
      refine TE.condF rfl rfl ?_
      refine TE.seq ?_
      refine TE.region ?_
      refine OL.pure (Pure.move rfl) rfl ?_
      refine OL.pure (Pure.nilCheck rfl) rfl ?_
      refine OL.pure (Pure.fieldAddr (r := 2) Tryd.runUnderlying123 rfl Tryd.sizeOf31 rfl rfl) rfl ?_
      refine OL.val (Run.load (i := 2) rfl Tryd.isAgg31 hg (by omega) rfl) rfl ?_
      refine OL.pure (Pure.eql rfl rfl) rfl ?_
      refine OL.cast (.bool true) 11 rfl (congrArg Value.bool (decide_eq_true (by omega))) ?_
      refine OL.pure (Pure.move rfl) rfl ?_
      refine OL.want rfl rfl rfl (Pure.move rfl _) rfl ?_
      refine OL.callG rfl rfl rfl rfl Tryd.call73 rfl (rest_any g at_ f v b hat hb _ hg hv) ?_
      rintro _ w2 ⟨rfl, hc2⟩
      replace hg := hg.chg0 hc2
      replace hv := hv.chg0 hc2
      replace hC := hC.then_ hc2
      refine ⟨_, rfl, ?_⟩
      refine OL.want rfl rfl rfl (Pure.gtr rfl rfl _) rfl ?_
      refine OL.cast (.bool false) 15 rfl (congrArg Value.bool (decide_eq_false (by omega))) ?_
      refine OL.pure (Pure.pickT rfl rfl) rfl ?_
      refine OL.pure (Pure.assign rfl) rfl ?_
      refine OL.nil ?_
      refine TE.condF rfl rfl ?_
      refine TE.skip ?_
      refine TE.inBlock ?_
      refine TE.seq ?_
      refine TE.region ?_
      refine OL.pure (Pure.move rfl) rfl ?_
      refine OL.pure (Pure.nilCheck rfl) rfl ?_
      refine OL.pure (Pure.fieldAddr (r := 2) Tryd.runUnderlying123 rfl Tryd.sizeOf31 rfl rfl) rfl ?_
      refine OL.val (Run.load (i := 2) rfl Tryd.isAgg31 hg (by omega) rfl) rfl ?_
      refine OL.pure (Pure.assign rfl) rfl ?_
      refine OL.nil ?_
      exact TE.ret (vs := [.int .i64 (if f = 0 ∧ at_ < b.length then 5 else (f : Int))]) Tryd.results56 (⟨by rw [if_neg (fun h => hr h.2)]; rfl, trivial⟩) ⟨rfl, hC⟩
  ·
    refine TE.seq ?_
    refine TE.region ?_
    refine OL.pure (Pure.assign rfl) rfl ?_
    refine OL.nil ?_
    refine TE.seq ?_
    refine TE.block ?_
    refine TE.seq ?_
    refine TE.region ?_
    refine OL.pure (Pure.move rfl) rfl ?_
    refine OL.pure (Pure.eqlNil Tryd.underlying105 rfl rfl) rfl ?_
    refine OL.pure (Pure.assign rfl) rfl ?_
    refine OL.nil ?_
    refine TE.condF rfl rfl ?_
    refine TE.seq ?_
    refine TE.region ?_
    refine OL.pure (Pure.move rfl) rfl ?_
    refine OL.pure (Pure.nilCheck rfl) rfl ?_
    refine OL.pure (Pure.fieldAddr (r := 2) Tryd.runUnderlying123 rfl Tryd.sizeOf31 rfl rfl) rfl ?_
    refine OL.val (Run.load (i := 2) rfl Tryd.isAgg31 hg (by omega) rfl) rfl ?_
    refine OL.pure (Pure.eql rfl rfl) rfl ?_
    refine OL.cast (.bool false) 11 rfl (congrArg Value.bool (decide_eq_false (by omega))) ?_
    refine OL.pure (Pure.move rfl) rfl ?_
    refine OL.pass rfl rfl rfl rfl rfl ?_
    refine OL.pass rfl rfl rfl rfl rfl ?_
    refine OL.pass rfl rfl rfl rfl rfl ?_
    refine OL.pure (Pure.pickF rfl rfl) rfl ?_
    refine OL.pure (Pure.assign rfl) rfl ?_
    refine OL.nil ?_
    refine TE.condF rfl rfl ?_
    refine TE.skip ?_
    refine TE.inBlock ?_
    refine TE.seq ?_
    refine TE.region ?_
    refine OL.pure (Pure.move rfl) rfl ?_
    refine OL.pure (Pure.nilCheck rfl) rfl ?_
    refine OL.pure (Pure.fieldAddr (r := 2) Tryd.runUnderlying123 rfl Tryd.sizeOf31 rfl rfl) rfl ?_
    refine OL.val (Run.load (i := 2) rfl Tryd.isAgg31 hg (by omega) rfl) rfl ?_
    refine OL.pure (Pure.assign rfl) rfl ?_
    refine OL.nil ?_
    exact TE.ret (vs := [.int .i64 (if f = 0 ∧ at_ < b.length then 5 else (f : Int))]) Tryd.results56 (⟨by rw [if_neg (fun h => hf h.1)]; rfl, trivial⟩) ⟨rfl, hC⟩

end Go.Proofs.YtcologcjhenmkaaDoor
