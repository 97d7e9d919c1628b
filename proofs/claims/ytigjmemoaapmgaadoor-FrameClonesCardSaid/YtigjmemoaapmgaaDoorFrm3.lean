/- head, the reference of Encode, the closure of Encode, walked -/
import Derived.Test.YtigjmemoaapmgaaDoorProg
import Derived.Test.YtigjmemoaapmgaaDoorEng6
import Derived.Test.YtigjmemoaapmgaaDoorFrameSpec2
import Derived.Test.YtigjmemoaapmgaaDoorFrm1
import Derived.Test.YtigjmemoaapmgaaDoorFrm2
set_option linter.unusedVariables false
set_option maxRecDepth 4000
namespace Go.Proofs.YtigjmemoaapmgaaDoor
open Go.V Go.Sha Go.Frm
theorem head_any (f : Fr) (hv : check f = 0) (w : World) : Calls Tryd.prog 43 #[.agg (f).cells.toArray] w (RetC (.string (str (header f))) w) := by
  refine calls_of_TE (vs := [.agg (f).cells.toArray]) Tryd.func43 Tryd.ntmps43 rfl (by simp) ?_
  have hC : Chg [] w w := Chg.refl _ _
  obtain ⟨c0, c1, c2, c3⟩ := check_ok hv
  obtain ⟨i0, i1, i2, i3⟩ := c2
  obtain ⟨nk, hnk⟩ : ∃ n : Nat, n = f.kind.toNat := ⟨_, rfl⟩
  obtain ⟨ns, hns⟩ : ∃ n : Nat, n = f.stream.toNat := ⟨_, rfl⟩
  obtain ⟨nn, hnn⟩ : ∃ n : Nat, n = f.number.toNat := ⟨_, rfl⟩
  refine TE.seq ?_
  refine TE.region ?_
  refine OL.box rfl rfl ?_
  intro g1 w1 h1 hc1 hg_g1
  have ge_g1 : w.heap.size ≤ g1 := by have := hC.size; omega
  replace hC := hC.then_ hc1
  have h1 : Blk w1 g1 34 (f.cells) := h1
  refine OL.pure (Pure.assign rfl) rfl ?_
  refine OL.nil ?_
  refine TE.seq ?_
  refine TE.planAll (.cons (0, true) (.cons (1, true) (.cons (4, true) (.cons (5, true) (.cons (8, true) (.cons (9, true) (.cons (12, true) (.cons (13, true) (.cons (14, true) (.cons (2, false) (.cons (3, true) (.cons (6, false) (.cons (7, true) (.cons (10, false) (.cons (11, true) (.cons (15, false) (.cons (16, true) (.cons (17, true) .nil)))))))))))))))))) (fun w_ => Chg [] w1 w_) rfl (by kernel_rfl) ?_
  have hS2 : Chg [] w1 w1.drew := Chg.drew _ _
  replace h1 := h1.chg0 hS2
  replace hC := hC.then_ hS2
  refine PL.takeP rfl (Pure.fieldAddr (r := 0) Tryd.runUnderlying34 rfl Tryd.sizeOf3 rfl rfl) rfl hS2 ?_
  refine PL.takeS (fun w_ => Chg [] w1.drew w_) (fun _ h_ => hS2.then_ h_) rfl (fun w_ h_ => Run.load (i := 0) rfl Tryd.isAgg3 (h1.chg0 h_) (by omega) rfl) rfl (Chg.refl _ _) ?_
  have hP3 : Chg [] w1.drew w1.drew := Chg.refl _ _
  refine PL.cast (.int .i64 (nk : Int)) 4 rfl (congrArg (Value.int .i64) (by omega)) ?_
  refine PL.takeP rfl (Pure.fieldAddr (r := 1) Tryd.runUnderlying34 rfl Tryd.sizeOf3 rfl rfl) rfl hP3 ?_
  refine PL.takeS (fun w_ => Chg [] w1.drew w_) (fun _ h_ => hP3.then_ h_) rfl (fun w_ h_ => Run.load (i := 1) rfl Tryd.isAgg3 (h1.chg0 h_) (by omega) rfl) rfl (Chg.refl _ _) ?_
  have hP4 : Chg [] w1.drew w1.drew := Chg.refl _ _
  refine PL.cast (.int .i64 (ns : Int)) 8 rfl (congrArg (Value.int .i64) (by omega)) ?_
  refine PL.takeP rfl (Pure.fieldAddr (r := 2) Tryd.runUnderlying34 rfl Tryd.sizeOf3 rfl rfl) rfl hP4 ?_
  refine PL.takeS (fun w_ => Chg [] w1.drew w_) (fun _ h_ => hP4.then_ h_) rfl (fun w_ h_ => Run.load (i := 2) rfl Tryd.isAgg3 (h1.chg0 h_) (by omega) rfl) rfl (Chg.refl _ _) ?_
  have hP5 : Chg [] w1.drew w1.drew := Chg.refl _ _
  refine PL.cast (.int .i64 (nn : Int)) 12 rfl (congrArg (Value.int .i64) (by omega)) ?_
  refine PL.takeP rfl (Pure.fieldAddr (r := 3) Tryd.runUnderlying34 rfl Tryd.sizeOf9 rfl rfl) rfl hP5 ?_
  refine PL.takeS (fun w_ => Chg [] w1.drew w_) (fun _ h_ => hP5.then_ h_) rfl (fun w_ h_ => Run.load (i := 3) rfl Tryd.isAgg9 (h1.chg0 h_) (by omega) rfl) rfl (Chg.refl _ _) ?_
  have hP6 : Chg [] w1.drew w1.drew := Chg.refl _ _
  refine PL.takeP rfl (Pure.lenStr Tryd.runUnderlying9 rfl) rfl hP6 ?_
  refine PL.call rfl rfl Tryd.call49 rfl (big_any nk 1 (by omega) (by omega) _) ?_
  rintro _ w7 ⟨rfl, hc7⟩
  have hc7s := hP6.then_ hc7
  replace h1 := h1.chg0 hc7
  replace hC := hC.then_ hc7
  refine ⟨_, rfl, hc7s, ?_⟩
  refine PL.takeP rfl (Pure.strAdd (l := [245]) (m := (beN 1 nk)) rfl rfl (by simp [beN_len])) rfl hc7s ?_
  refine PL.call rfl rfl Tryd.call49 rfl (big_any ns 4 (by omega) (by omega) _) ?_
  rintro _ w8 ⟨rfl, hc8⟩
  have hc8s := hc7s.then_ hc8
  replace h1 := h1.chg0 hc8
  replace hC := hC.then_ hc8
  refine ⟨_, rfl, hc8s, ?_⟩
  refine PL.takeP rfl (Pure.strAdd (l := ([245] ++ (beN 1 nk))) (m := (beN 4 ns)) rfl rfl (by simp [beN_len])) rfl hc8s ?_
  refine PL.call rfl rfl Tryd.call49 rfl (big_any nn 8 (by omega) (by omega) _) ?_
  rintro _ w9 ⟨rfl, hc9⟩
  have hc9s := hc8s.then_ hc9
  replace h1 := h1.chg0 hc9
  replace hC := hC.then_ hc9
  refine ⟨_, rfl, hc9s, ?_⟩
  refine PL.takeP rfl (Pure.strAdd (l := (([245] ++ (beN 1 nk)) ++ (beN 4 ns))) (m := (beN 8 nn)) rfl rfl (by simp [beN_len])) rfl hc9s ?_
  refine PL.call rfl rfl Tryd.call49 rfl (big_any f.payload.length 4 (by omega) (by omega) _) ?_
  rintro _ w10 ⟨rfl, hc10⟩
  have hc10s := hc9s.then_ hc10
  replace h1 := h1.chg0 hc10
  replace hC := hC.then_ hc10
  refine ⟨_, rfl, hc10s, ?_⟩
  refine PL.takeP rfl (Pure.strAdd (l := ((([245] ++ (beN 1 nk)) ++ (beN 4 ns)) ++ (beN 8 nn))) (m := (beN 4 f.payload.length)) rfl rfl (by simp [beN_len])) rfl hc10s ?_
  refine PL.takeP rfl (Pure.assign rfl) rfl hc10s ?_
  refine PL.nil ?_
  have hh : (((([245] ++ beN 1 nk) ++ beN 4 ns) ++ beN 8 nn) ++ beN 4 f.payload.length) = header f := by rw [header, ← hnk, ← hns, ← hnn]; simp
  exact TE.ret (vs := [.string (str (header f))]) Tryd.results43 (⟨by rw [← hh]; rfl, trivial⟩) ⟨rfl, hC⟩

theorem rencode_any (f : Fr) (hv : check f = 0) (w : World) : Calls Tryd.prog 20 #[.agg (f).cells.toArray] w (RetC (.string (str (encode f))) w) := by
  refine calls_of_TE (vs := [.agg (f).cells.toArray]) Tryd.func20 Tryd.ntmps20 rfl (by simp) ?_
  have hC : Chg [] w w := Chg.refl _ _
  have c3 := (check_ok hv).2.2.2
  have hhl := header_len f
  have hfl := first_len (header f)
  have hsl := second_len (header f) f.payload
  refine TE.seq ?_
  refine TE.region ?_
  refine OL.box rfl rfl ?_
  intro g1 w1 h1 hc1 hg_g1
  have ge_g1 : w.heap.size ≤ g1 := by have := hC.size; omega
  replace hC := hC.then_ hc1
  have h1 : Blk w1 g1 34 (f.cells) := h1
  refine OL.pure (Pure.assign rfl) rfl ?_
  refine OL.nil ?_
  refine TE.seq ?_
  refine TE.region ?_
  refine OL.val (Run.loadAll rfl Tryd.underlying34 rfl h1 (rfl)) rfl ?_
  refine OL.call rfl Tryd.call43 rfl (head_any f hv _) ?_
  rintro _ w2 ⟨rfl, hc2⟩
  replace h1 := h1.chg0 hc2
  replace hC := hC.then_ hc2
  refine ⟨_, rfl, ?_⟩
  refine OL.pure (Pure.assign rfl) rfl ?_
  refine OL.nil ?_
  refine TE.seq ?_
  refine TE.planAll (.cons (0, true) (.cons (1, true) (.cons (4, true) (.cons (5, true) (.cons (7, true) (.cons (8, true) (.cons (9, true) (.cons (2, false) (.cons (3, true) (.cons (6, true) (.cons (10, false) (.cons (11, true) (.cons (12, true) .nil))))))))))))) (fun w_ => Chg [] w2 w_) rfl (by kernel_rfl) ?_
  have hS3 : Chg [] w2 w2.drew := Chg.drew _ _
  replace h1 := h1.chg0 hS3
  replace hC := hC.then_ hS3
  refine PL.takeP rfl (Pure.move rfl) rfl hS3 ?_
  refine PL.takeP rfl (Pure.move rfl) rfl hS3 ?_
  refine PL.takeP rfl (Pure.fieldAddr (r := 3) Tryd.runUnderlying34 rfl Tryd.sizeOf9 rfl rfl) rfl hS3 ?_
  refine PL.takeS (fun w_ => Chg [] w2.drew w_) (fun _ h_ => hS3.then_ h_) rfl (fun w_ h_ => Run.load (i := 3) rfl Tryd.isAgg9 (h1.chg0 h_) (by omega) rfl) rfl (Chg.refl _ _) ?_
  have hP4 : Chg [] w2.drew w2.drew := Chg.refl _ _
  refine PL.takeP rfl (Pure.move rfl) rfl hP4 ?_
  refine PL.takeP rfl (Pure.fieldAddr (r := 3) Tryd.runUnderlying34 rfl Tryd.sizeOf9 rfl rfl) rfl hP4 ?_
  refine PL.takeS (fun w_ => Chg [] w2.drew w_) (fun _ h_ => hP4.then_ h_) rfl (fun w_ h_ => Run.load (i := 3) rfl Tryd.isAgg9 (h1.chg0 h_) (by omega) rfl) rfl (Chg.refl _ _) ?_
  have hP5 : Chg [] w2.drew w2.drew := Chg.refl _ _
  refine PL.call rfl rfl Tryd.call17 rfl (rfirst_any (header f) (by omega) _) ?_
  rintro _ w6 ⟨rfl, hc6⟩
  have hc6s := hP5.then_ hc6
  replace h1 := h1.chg0 hc6
  replace hC := hC.then_ hc6
  refine ⟨_, rfl, hc6s, ?_⟩
  refine PL.takeP rfl (Pure.strAdd (l := (header f)) (m := (first (header f))) rfl rfl (by first | omega | (simp only [List.length_append]; omega))) rfl hc6s ?_
  refine PL.takeP rfl (Pure.strAdd (l := ((header f) ++ (first (header f)))) (m := f.payload) rfl rfl (by first | omega | (simp only [List.length_append]; omega))) rfl hc6s ?_
  refine PL.call rfl rfl Tryd.call22 rfl (rsecond_any (header f) f.payload (by omega) (by omega) _) ?_
  rintro _ w7 ⟨rfl, hc7⟩
  have hc7s := hc6s.then_ hc7
  replace h1 := h1.chg0 hc7
  replace hC := hC.then_ hc7
  refine ⟨_, rfl, hc7s, ?_⟩
  refine PL.takeP rfl (Pure.strAdd (l := (((header f) ++ (first (header f))) ++ f.payload)) (m := (second (header f) f.payload)) rfl rfl (by first | omega | (simp only [List.length_append]; omega))) rfl hc7s ?_
  refine PL.takeP rfl (Pure.assign rfl) rfl hc7s ?_
  refine PL.nil ?_
  have hh : (((header f ++ first (header f)) ++ f.payload) ++ second (header f) f.payload) = encode f := by simp [encode]
  exact TE.ret (vs := [.string (str (encode f))]) Tryd.results20 (⟨by rw [← hh]; rfl, trivial⟩) ⟨rfl, hC⟩

theorem put_any (n k : Nat) (hn : n < 9223372036854775808) (hk : k ≤ 8) (gp : Nat) (v0 : Value) (l : List UInt8) (hl : l.length ≤ 4294967296) (w : World) (hp : Blk w gp 24 [v0]) (hv : Row w 5 1 v0 l.length (bv l)) : Calls Tryd.prog 44 #[.int .i64 (n : Int), .int .i64 (k : Int), .pointer (some ⟨gp, 0, none⟩)] w (RetPut gp 24 5 v0 (l ++ beN k n) w) := by
  refine calls_of_TE (vs := [.int .i64 (n : Int), .int .i64 (k : Int), .pointer (some ⟨gp, 0, none⟩)]) Tryd.func44 Tryd.ntmps44 rfl (by simp) ?_
  have hC : Chg (gp :: own v0) w w := Chg.refl _ _
  have hm_v0 : MineIn (gp :: own v0) w.heap.size v0 := MineIn.self _ _
  have hgp := hp.lt
  refine TE.seq ?_
  refine TE.region ?_
  refine OL.pure (Pure.move rfl) rfl ?_
  refine OL.pure (Pure.sub rfl rfl (i64 (by omega) (by omega))) rfl ?_
  refine OL.pure (Pure.assign rfl) rfl ?_
  refine OL.nil ?_
  refine TE.block ?_
  refine TE.cast (.int .i64 ((k : Int) - 1 - ((0 : Nat) : Int))) 5 rfl (congrArg (Value.int .i64) (by omega)) ?_
  replace hv : Row w 5 1 v0 (l.length + 0) (bv (l ++ (beN k n).take 0)) := by simpa using hv
  refine TE.loopInv (σ := Nat × Value) [0, 2, 5] (fun s_ w_ => match s_ with | (j, v) => j ≤ k ∧ Row w_ 5 1 v (l.length + j) (bv (l ++ (beN k n).take j)) ∧ Blk w_ gp 24 [v] ∧ MineIn (gp :: own v0) w.heap.size v ∧ Chg (gp :: own v0) w w_) (fun s_ => [(0, .int .i64 (↑n)), (2, .pointer (some ⟨gp, 0, none⟩)), (5, .int .i64 ((k : Int) - 1 - (s_.1 : Int)))]) (fun s_ => k - s_.1) (0, v0) ⟨by omega, hv, hp, hm_v0, hC⟩ rfl ?_
  rintro ⟨j, v⟩ w1 ⟨hj, hv, hp, hm_v, hC⟩ ih1
  try dsimp only
  refine TE.seq ?_
  refine TE.seq ?_
  refine TE.region ?_
  refine OL.pure (Pure.move rfl) rfl ?_
  refine OL.pure (Pure.geq rfl rfl) rfl ?_
  refine OL.nil ?_
  refine TE.ite rfl (fun hge => ?_) (fun hge => ?_)
  ·
    have hjk : j < k := by omega
    refine TE.skip ?_
    refine TE.seq ?_
    refine TE.block ?_
    refine TE.plan 9 (.cons (0, true) (.cons (1, true) (.cons (2, true) (.cons (3, true) (.cons (4, true) (.cons (5, true) (.cons (6, true) (.cons (7, false) (.cons (8, false) .nil))))))))) (fun w_ => Blk w_ gp 24 ([v])) rfl (by kernel_rfl) rfl ?_
    have hS2 : Chg [] w1 w1.drew := Chg.drew _ _
    replace hv := hv.chg0 hS2
    replace hp := hp.chg0 hS2
    replace hC := hC.then_ hS2
    refine PL.take rfl (fun w_ h_ => Run.load (i := 0) rfl Tryd.isAgg24 h_ (by omega) rfl) rfl hp ?_
    refine PL.takeP rfl (Pure.move rfl) rfl hp ?_
    refine PL.takeP rfl (Pure.conv Tryd.runUnderlying3 Tryd.runUnderlying85 rfl (u64in (by omega) (by omega))) rfl hp ?_
    refine PL.takeP rfl (Pure.move rfl) rfl hp ?_
    refine PL.takeP rfl (Pure.mul rfl rfl (i64 (by omega) (by omega))) rfl hp ?_
    refine PL.takeP rfl (Pure.shr (p := 2 ^ (8 * (k - 1 - j))) rfl rfl (by omega) (by congr 1; simp [IntKind.bits]; omega)) rfl hp ?_
    refine PL.takeP rfl (Pure.conv Tryd.runUnderlying85 Tryd.runUnderlying5 rfl (u8w _)) rfl hp ?_
    refine PL.cast (.int .u8 (((UInt8.ofNat (n / 2 ^ (8 * (k - 1 - j)))).toNat : Nat) : Int)) 18 rfl (by rw [← u8nat]; push_cast; rfl) ?_
    refine PL.buildSliceC (cs := [.int .u8 (((UInt8.ofNat (n / 2 ^ (8 * (k - 1 - j)))).toNat : Nat) : Int)]) rfl rfl Tryd.runUnderlying24 Tryd.sizeOf5 Tryd.zeroValue5 (by decide) (by decide) (by kernel_rfl) rfl (fun w_ h_ => hp.chg0 h_) ?_
    intro q w3 hq hc3 hg_q
    have lt_gp_q : gp < q := by have := hp.lt; omega
    have ge_q : w.heap.size ≤ q := by have := hC.size; omega
    replace hv := hv.chg0 hc3
    replace hp := hp.chg0 hc3
    replace hC := hC.then_ hc3
    refine PL.appendC (size := 1) (news := [.int .u8 (((UInt8.ofNat (n / 2 ^ (8 * (k - 1 - j)))).toNat : Nat) : Int)]) (v := v) rfl rfl rfl Tryd.underlying24 (.inl Tryd.underlying24) info5 rfl rfl rfl (by decide) rfl hv ((Src.of_blk hq rfl rfl)) (by simp [Value.oneCell']) (by show _ * 1 ≤ _; omega) (fun w_ h_ => hp.chg h_ (hv.notin hp (by decide))) ?_
    intro v2 w4 hv2 hc4 ho_v2
    have hm_v2 := MineIn.step hm_v (by have := hC.size; omega) ho_v2
    replace hp := hp.chg hc4 (hv.notin hp (by decide))
    replace hC := hC.ownIn hc4 hm_v
    replace hv2 : Row w4 5 1 v2 (l.length + (j + 1)) (bv (l ++ (beN k n).take (j + 1))) := by rw [beN_take _ _ _ hjk, ← List.append_assoc, ← bv_one]; exact hv2
    refine PL.nilTail ?_
    refine OL.store (j := 0) rfl rfl Tryd.sizeOf24 hv2.oneCell hp (by omega) (rfl) ?_
    intro w5 hb5 hc5
    replace hv2 := hv2.chg hc5 (hv2.apart hp (by decide))
    replace hC := hC.trans1 hc5 (by first | exact .inr (by omega) | exact .inl (by simp))
    replace hp := hb5
    refine OL.nil ?_
    refine TE.inBlock ?_
    refine TE.region ?_
    refine OL.pure (Pure.move rfl) rfl ?_
    refine OL.pure (Pure.sub rfl rfl (i64 (by omega) (by omega))) rfl ?_
    refine OL.pure (Pure.assign rfl) rfl ?_
    refine OL.nil ?_
    refine TE.cast (.int .i64 ((k : Int) - 1 - ((j + 1 : Nat) : Int))) 5 rfl (congrArg (Value.int .i64) (by omega)) ?_
    exact TE.sub [0, 2, 5] rfl (ih1 (j + 1, v2) _ ⟨by omega, hv2, hp, hm_v2, hC⟩ (by simp only []; omega))
  ·
    obtain rfl : j = k := by omega
    rw [List.take_of_length_le (by rw [beN_len]; exact Nat.le_refl _)] at hv
    refine TE.exit rfl ?_
    exact TE.fin (vs := []) Tryd.results44 (trivial) ⟨v, rfl, hp, by rw [List.length_append, beN_len]; exact hv, hC, hm_v⟩

end Go.Proofs.YtigjmemoaapmgaaDoor
