/- Decode and its reference, walked -/
import Derived.Test.YtigjmemoaapmgaaDoorProg
import Derived.Test.YtigjmemoaapmgaaDoorEng6
import Derived.Test.YtigjmemoaapmgaaDoorFrameSpec2
import Derived.Test.YtigjmemoaapmgaaDoorFrm1
import Derived.Test.YtigjmemoaapmgaaDoorFrm2
set_option linter.unusedVariables false
set_option maxRecDepth 4000
namespace Go.Proofs.YtigjmemoaapmgaaDoor
open Go.V Go.Sha Go.Frm
theorem eq3 {x : Fr × Nat × Int} {d d' : Fr} {a a' : Nat} {e e' : Int} (h : x = (d, a, e)) (h' : x = (d', a', e')) : d' = d ∧ a' = a ∧ e' = e := by
  rw [h] at h'
  simp at h'
  exact ⟨h'.1.symm, h'.2.1.symm, h'.2.2.symm⟩
set_option maxHeartbeats 2000000 in
theorem decode_any {tK tF : TypeId} (s : List UInt8) (hl : s.length ≤ 1073741824) (f : Fr) (m : Nat) (e : Int) (hd : Frm.decode s = (f, m, e)) (w : World) (hK : Blk w 1 tK (iv .u32 K)) (hF : Blk w 0 tF (iv .i64 fldL)) : Calls Tryd.prog 13 #[.string (str s)] w (RetC (.tuple #[.agg (f).cells.toArray, .int .i64 (m : Int), .int .i64 e]) w) := by
  refine calls_of_TE (vs := [.string (str s)]) Tryd.func13 Tryd.ntmps13 rfl (by simp) ?_
  have hC : Chg [] w w := Chg.refl _ _
  have h0w : 1 < w.heap.size := hK.lt
  have h1w : 0 < w.heap.size := hF.lt
  refine TE.seq ?_
  refine TE.region ?_
  refine OL.alloc Tryd.zeroValue30 rfl ?_
  intro gr w1 hr hc1 hg_gr
  have lt_1_gr : 1 < gr := by have := hK.lt; omega
  have lt_0_gr : 0 < gr := by have := hF.lt; omega
  have ge_gr : w.heap.size ≤ gr := by have := hC.size; omega
  replace hK := hK.chg0 hc1
  replace hF := hF.chg0 hc1
  replace hC := hC.then_ hc1
  have hr : Blk w1 gr 30 (Fr.zero.cells) := hr
  refine OL.pure (Pure.assign rfl) rfl ?_
  refine OL.pure (Pure.assign rfl) rfl ?_
  refine OL.nil ?_
  refine TE.seq ?_
  refine TE.block ?_
  refine TE.seq ?_
  refine TE.region ?_
  refine OL.pure (Pure.move rfl) rfl ?_
  refine OL.pure (Pure.lenStr Tryd.runUnderlying9 rfl) rfl ?_
  refine OL.pure (Pure.eql rfl rfl) rfl ?_
  refine OL.pure (Pure.assign rfl) rfl ?_
  refine OL.nil ?_
  refine TE.ite rfl (fun q1 => ?_) (fun q1 => ?_)
  ·
    refine TE.seq ?_
    refine TE.region ?_
    refine OL.pure (Pure.build (cs := Fr.zero.cells) rfl (by kernel_rfl)) rfl ?_
    refine OL.storeRow (vs := Fr.zero.cells) rfl rfl (rfl) (by simp [Fr.cells, Value.oneCell']) hr (Nat.le_refl 4) ?_
    intro w2 hb2 hc2
    replace hK := hK.chg hc2 (by simp; omega)
    replace hF := hF.chg hc2 (by simp; omega)
    replace hC := hC.trans1 hc2 (by first | exact .inr (by omega) | exact .inl (by simp))
    replace hr := hb2
    replace hr := hr.all rfl
    obtain ⟨e1, e2, e3⟩ := eq3 hd (dec1 (by omega))
    subst e1
    subst e2
    subst e3
    refine OL.pure (Pure.assign rfl) rfl ?_
    refine OL.pure (Pure.assign rfl) rfl ?_
    refine OL.nil ?_
    exact TE.ret (vs := [.agg (Fr.zero.cells).toArray, .int .i64 ((0 : Nat) : Int), .int .i64 28]) Tryd.results13 (⟨⟨_, rfl, loadRow_at Tryd.underlying30 rfl rfl hr rfl⟩, rfl, rfl, trivial⟩) ⟨rfl, hC⟩
  ·
    have h1 : ¬ s.length = 0 := by omega
    refine TE.seq ?_
    refine TE.region ?_
    refine OL.pure (Pure.move rfl) rfl ?_
    refine OL.pure (Pure.indexStr (j := 0) Tryd.runUnderlying9 rfl rfl (by omega) (by omega)) rfl ?_
    refine OL.pure (Pure.neq rfl rfl) rfl ?_
    refine OL.pure (Pure.assign rfl) rfl ?_
    refine OL.nil ?_
    refine TE.ite rfl (fun q2 => ?_) (fun q2 => ?_)
    ·
      refine TE.seq ?_
      refine TE.region ?_
      refine OL.pure (Pure.build (cs := Fr.zero.cells) rfl (by kernel_rfl)) rfl ?_
      refine OL.storeRow (vs := Fr.zero.cells) rfl rfl (rfl) (by simp [Fr.cells, Value.oneCell']) hr (Nat.le_refl 4) ?_
      intro w3 hb3 hc3
      replace hK := hK.chg hc3 (by simp; omega)
      replace hF := hF.chg hc3 (by simp; omega)
      replace hC := hC.trans1 hc3 (by first | exact .inr (by omega) | exact .inl (by simp))
      replace hr := hb3
      replace hr := hr.all rfl
      obtain ⟨e1, e2, e3⟩ := eq3 hd (dec2 h1 (fun h => q2 ((bt245 s).2 h)))
      subst e1
      subst e2
      subst e3
      refine OL.pure (Pure.assign rfl) rfl ?_
      refine OL.pure (Pure.assign rfl) rfl ?_
      refine OL.nil ?_
      exact TE.ret (vs := [.agg (Fr.zero.cells).toArray, .int .i64 ((0 : Nat) : Int), .int .i64 3]) Tryd.results13 (⟨⟨_, rfl, loadRow_at Tryd.underlying30 rfl rfl hr rfl⟩, rfl, rfl, trivial⟩) ⟨rfl, hC⟩
    ·
      have h2 : ¬ s.getD 0 0 ≠ 245 := fun h => q2 (fun h3 => h ((bt245 s).1 h3))
      refine TE.seq ?_
      refine TE.region ?_
      refine OL.pure (Pure.move rfl) rfl ?_
      refine OL.pure (Pure.lenStr Tryd.runUnderlying9 rfl) rfl ?_
      refine OL.pure (Pure.lss rfl rfl) rfl ?_
      refine OL.pure (Pure.assign rfl) rfl ?_
      refine OL.nil ?_
      refine TE.ite rfl (fun q3 => ?_) (fun q3 => ?_)
      ·
        refine TE.seq ?_
        refine TE.region ?_
        refine OL.pure (Pure.build (cs := Fr.zero.cells) rfl (by kernel_rfl)) rfl ?_
        refine OL.storeRow (vs := Fr.zero.cells) rfl rfl (rfl) (by simp [Fr.cells, Value.oneCell']) hr (Nat.le_refl 4) ?_
        intro w4 hb4 hc4
        replace hK := hK.chg hc4 (by simp; omega)
        replace hF := hF.chg hc4 (by simp; omega)
        replace hC := hC.trans1 hc4 (by first | exact .inr (by omega) | exact .inl (by simp))
        replace hr := hb4
        replace hr := hr.all rfl
        obtain ⟨e1, e2, e3⟩ := eq3 hd (dec3 h1 h2 (by omega))
        subst e1
        subst e2
        subst e3
        refine OL.pure (Pure.assign rfl) rfl ?_
        refine OL.pure (Pure.assign rfl) rfl ?_
        refine OL.nil ?_
        exact TE.ret (vs := [.agg (Fr.zero.cells).toArray, .int .i64 ((0 : Nat) : Int), .int .i64 28]) Tryd.results13 (⟨⟨_, rfl, loadRow_at Tryd.underlying30 rfl rfl hr rfl⟩, rfl, rfl, trivial⟩) ⟨rfl, hC⟩
      ·
        have h3 : ¬ s.length < 26 := by omega
        refine TE.skip ?_
        refine TE.inBlock ?_
        refine TE.seq ?_
        refine TE.region ?_
        refine OL.pure (Pure.move rfl) rfl ?_
        refine OL.pure (Pure.sliceTo (l := s) (q := 18) Tryd.underlying9 rfl rfl (by omega) (by omega)) rfl ?_
        refine OL.pure (Pure.assign rfl) rfl ?_
        refine OL.nil ?_
        refine TE.seq ?_
        refine TE.seq ?_
        refine TE.planAll (.cons (0, true) (.cons (1, true) (.cons (2, true) (.cons (3, false) (.cons (4, true) .nil))))) (fun w_ => Chg [] w1 w_) rfl (by kernel_rfl) ?_
        have hS5 : Chg [] w1 w1.drew := Chg.drew _ _
        replace hK := hK.chg0 hS5
        replace hF := hF.chg0 hS5
        replace hr := hr.chg0 hS5
        replace hC := hC.then_ hS5
        refine PL.takeP rfl (Pure.move rfl) rfl hS5 ?_
        refine PL.takeP rfl (Pure.sliceStr (l := s) (p := 18) (q := 26) Tryd.underlying9 rfl rfl rfl (by omega) (by omega) (by omega) (by omega)) rfl hS5 ?_
        refine PL.cast (.string (str ((s.drop 18).take 8))) 30 rfl (by rw [List.drop_take]) ?_
        refine PL.takeP rfl (Pure.move rfl) rfl hS5 ?_
        refine PL.call rfl rfl Tryd.call39 rfl (first_any (s.take 18) (by simp; omega) _ hK) ?_
        rintro _ w6 ⟨rfl, hc6⟩
        have hc6s := hS5.then_ hc6
        replace hK := hK.chg0 hc6
        replace hF := hF.chg0 hc6
        replace hr := hr.chg0 hc6
        replace hC := hC.then_ hc6
        refine ⟨_, rfl, hc6s, ?_⟩
        refine PL.takeP rfl (Pure.strNeq (l := ((s.drop 18).take 8)) (m := (first (s.take 18))) rfl rfl) rfl hc6s ?_
        refine PL.nil ?_
        refine TE.ite rfl (fun h4 => ?_) (fun h4 => ?_)
        ·
          refine TE.seq ?_
          refine TE.region ?_
          refine OL.pure (Pure.build (cs := Fr.zero.cells) rfl (by kernel_rfl)) rfl ?_
          refine OL.storeRow (vs := Fr.zero.cells) rfl rfl (rfl) (by simp [Fr.cells, Value.oneCell']) hr (Nat.le_refl 4) ?_
          intro w7 hb7 hc7
          replace hK := hK.chg hc7 (by simp; omega)
          replace hF := hF.chg hc7 (by simp; omega)
          replace hC := hC.trans1 hc7 (by first | exact .inr (by omega) | exact .inl (by simp))
          replace hr := hb7
          replace hr := hr.all rfl
          obtain ⟨e1, e2, e3⟩ := eq3 hd (dec4 h2 h3 h4)
          subst e1
          subst e2
          subst e3
          refine OL.pure (Pure.assign rfl) rfl ?_
          refine OL.pure (Pure.assign rfl) rfl ?_
          refine OL.nil ?_
          exact TE.ret (vs := [.agg (Fr.zero.cells).toArray, .int .i64 ((0 : Nat) : Int), .int .i64 27]) Tryd.results13 (⟨⟨_, rfl, loadRow_at Tryd.underlying30 rfl rfl hr rfl⟩, rfl, rfl, trivial⟩) ⟨rfl, hC⟩
        ·
          refine TE.skip ?_
          refine TE.seq ?_
          refine TE.region ?_
          refine OL.alloc Tryd.zeroValue86 rfl ?_
          intro gn w8 hn hc8 hg_gn
          have lt_1_gn : 1 < gn := by have := hK.lt; omega
          have lt_0_gn : 0 < gn := by have := hF.lt; omega
          have lt_gr_gn : gr < gn := by have := hr.lt; omega
          have ge_gn : w.heap.size ≤ gn := by have := hC.size; omega
          replace hK := hK.chg0 hc8
          replace hF := hF.chg0 hc8
          replace hr := hr.chg0 hc8
          replace hC := hC.then_ hc8
          have hn : Blk w8 gn 86 (iv .u64 (nums s 0)) := hn
          refine OL.nil ?_
          refine TE.seq ?_
          refine TE.region ?_
          refine OL.pure (Pure.assign rfl) rfl ?_
          refine OL.nil ?_
          refine TE.seq ?_
          refine TE.seq ?_
          refine TE.region ?_
          refine OL.val (Run.loadAll rfl Tryd.underlying87 rfl hF (rfl)) rfl ?_
          refine OL.pure (Pure.move rfl) rfl ?_
          refine OL.nil ?_
          refine TE.block ?_
          refine TE.loopInv (σ := Nat) [0, 2, 5, 6, 7, 35, 36] (fun s_ w_ => s_ ≤ 4 ∧ Chg [] w w_ ∧ Blk w_ 1 tK (iv .u32 K) ∧ Blk w_ gr 30 (Fr.zero.cells) ∧ Blk w_ gn 86 (iv .u64 (nums s s_))) (fun s_ => [(0, .string (str s)), (2, .pointer (some ⟨gr, 0, none⟩)), (5, .string (str (s.take 18))), (6, .pointer (some ⟨gn, 0, none⟩)), (7, .int .i64 (off s_ : Int)), (35, .agg (iv .i64 fldL).toArray), (36, .int .i64 (↑s_))]) (fun s_ => 4 - s_) 0 ⟨by omega, hC, hK, hr, hn⟩ rfl ?_
          rintro i w9 ⟨hi, hC, hK, hr, hn⟩ ih9
          refine TE.seq ?_
          refine TE.region ?_
          refine OL.pure (Pure.lss rfl rfl) rfl ?_
          refine OL.nil ?_
          refine TE.seq ?_
          refine TE.ite rfl (fun hlt => ?_) (fun hlt => ?_)
          ·
            have hi4 : i < 4 := by omega
            obtain ⟨ho1, ho2, ho3, ho4⟩ := off_fld i hi4
            refine TE.skip ?_
            refine TE.seq ?_
            refine TE.block ?_
            refine TE.seq ?_
            refine TE.region ?_
            refine OL.pure (Pure.move rfl) rfl ?_
            refine OL.pure (Pure.indexAgg (cs := iv .i64 fldL) (j := i) (v := .int .i64 (fldL.getD i 0)) Tryd.runUnderlying87 Tryd.sizeOf3 Tryd.isAgg3 rfl rfl rfl (by omega) (iv_get (show i < 4 by omega))) rfl ?_
            refine OL.cast (.int .i64 (fld i : Int)) 39 rfl (congrArg (Value.int .i64) ho4) ?_
            refine OL.pure (Pure.assign rfl) rfl ?_
            refine OL.pure (Pure.assign rfl) rfl ?_
            refine OL.nil ?_
            refine TE.seq ?_
            refine TE.region ?_
            refine OL.pure (Pure.move rfl) rfl ?_
            refine OL.pure (Pure.move rfl) rfl ?_
            refine OL.nil ?_
            refine TE.block ?_
            replace hn : Blk w9 gn 86 (iv .u64 ((nums s i).set i ((num ((s.drop (off i)).take 0) : Nat) : Int))) := by rw [show ((num ((s.drop (off i)).take 0) : Nat) : Int) = 0 from rfl, nums_at s i hi4]; exact hn
            refine TE.cast (.int .i64 (((off i + 0 : Nat) : Nat) : Int)) 7 rfl (rfl) ?_
            refine TE.loopInv (σ := Nat) [0, 2, 5, 6, 7, 8, 35, 36, 40, 41] (fun s_ w_ => s_ ≤ fld i ∧ Chg [] w w_ ∧ Blk w_ 1 tK (iv .u32 K) ∧ Blk w_ gr 30 (Fr.zero.cells) ∧ Blk w_ gn 86 (iv .u64 ((nums s i).set i ((num ((s.drop (off i)).take s_) : Nat) : Int)))) (fun s_ => [(0, .string (str s)), (2, .pointer (some ⟨gr, 0, none⟩)), (5, .string (str (s.take 18))), (6, .pointer (some ⟨gn, 0, none⟩)), (7, .int .i64 (((off i + s_ : Nat) : Nat) : Int)), (8, .int .i64 (↑i)), (35, .agg (iv .i64 fldL).toArray), (36, .int .i64 (↑i)), (40, .int .i64 (↑(fld i))), (41, .int .i64 (↑s_))]) (fun s_ => fld i - s_) 0 ⟨by omega, hC, hK, hr, hn⟩ rfl ?_
            rintro j w10 ⟨hj, hC, hK, hr, hn⟩ ih10
            refine TE.seq ?_
            refine TE.region ?_
            refine OL.pure (Pure.lss rfl rfl) rfl ?_
            refine OL.nil ?_
            refine TE.seq ?_
            refine TE.ite rfl (fun hlt2 => ?_) (fun hlt2 => ?_)
            ·
              have hnl := nums_len s i
              have hst := num_step (s := s) (o := off i) (j := j) (by omega)
              have hsm := num_small s (off i) j (by omega)
              obtain ⟨x, hx⟩ : ∃ x : Nat, x = num ((s.drop (off i)).take j) := ⟨_, rfl⟩
              rw [← hx] at hsm hst hn
              refine TE.skip ?_
              refine TE.seq ?_
              refine TE.block ?_
              refine TE.seq ?_
              refine TE.plan 11 (.cons (0, true) (.cons (1, true) (.cons (2, true) (.cons (3, true) (.cons (4, true) (.cons (5, true) (.cons (6, true) (.cons (7, true) (.cons (8, true) (.cons (9, true) (.cons (10, true) .nil))))))))))) (fun w_ => Chg [] w10 w_) rfl (by kernel_rfl) rfl ?_
              have hS11 : Chg [] w10 w10.drew := Chg.drew _ _
              refine PL.takeP rfl (Pure.move rfl) rfl hS11 ?_
              refine PL.takeP rfl (Pure.move rfl) rfl hS11 ?_
              refine PL.takeP rfl (Pure.indexAddrA (r := i) Tryd.runUnderlying86 Tryd.sizeOf85 rfl rfl (by omega) (by omega) (by omega)) rfl hS11 ?_
              refine PL.take rfl (fun w_ h_ => Run.load (i := i) rfl Tryd.isAgg85 (hn.chg0 h_) (by omega) (iv_get (by simp [hnl]; omega))) rfl hS11 ?_
              refine PL.cast (.int .u64 (x : Int)) 46 rfl (congrArg (Value.int .u64) (by simp [List.getD, hnl, hi4])) ?_
              refine PL.takeP rfl (Pure.shl (p := 256) rfl rfl (by decide) (by decide) (u64w _)) rfl hS11 ?_
              refine PL.takeP rfl (Pure.move rfl) rfl hS11 ?_
              refine PL.takeP rfl (Pure.move rfl) rfl hS11 ?_
              refine PL.takeP rfl (Pure.indexStr (j := off i + j) Tryd.runUnderlying9 rfl rfl (by omega) (by omega)) rfl hS11 ?_
              refine PL.takeP rfl (Pure.conv Tryd.runUnderlying5 Tryd.runUnderlying85 rfl (u64bt _ _)) rfl hS11 ?_
              refine PL.takeP rfl (Pure.bits rfl rfl rfl) rfl hS11 ?_
              refine PL.takeP rfl (Pure.indexAddrA (r := i) Tryd.runUnderlying86 Tryd.sizeOf85 rfl rfl (by omega) (by omega) (by omega)) rfl hS11 ?_
              refine PL.nilTail ?_
              replace hK := hK.chg0 hS11
              replace hr := hr.chg0 hS11
              replace hn := hn.chg0 hS11
              replace hC := hC.then_ hS11
              refine OL.cast (.int .u64 ((num ((s.drop (off i)).take (j + 1)) : Nat) : Int)) 52 rfl (congrArg (Value.int .u64) (by rw [hst]; exact or_byte x hsm _)) ?_
              refine OL.store (j := i) rfl rfl Tryd.sizeOf85 rfl hn (by omega) (iv_get (by simp [hnl]; omega)) ?_
              intro w12 hb12 hc12
              replace hK := hK.chg hc12 (by simp; omega)
              replace hr := hr.chg hc12 (by simpa using hr.ne hn (by decide))
              replace hC := hC.trans1 hc12 (by first | exact .inr (by omega) | exact .inl (by simp))
              replace hn := hb12
              rw [iv_set, List.set_set] at hn
              refine OL.nil ?_
              refine TE.region ?_
              refine OL.pure (Pure.move rfl) rfl ?_
              refine OL.pure (Pure.add rfl rfl (i64 (by omega) (by omega))) rfl ?_
              refine OL.pure (Pure.assign rfl) rfl ?_
              refine OL.nil ?_
              refine TE.inBlock ?_
              refine TE.region ?_
              refine OL.pure (Pure.add rfl rfl (i64 (by omega) (by omega))) rfl ?_
              refine OL.pure (Pure.move rfl) rfl ?_
              refine OL.nil ?_
              refine TE.cast (.int .i64 (((off i + (j + 1) : Nat) : Nat) : Int)) 7 rfl (congrArg (Value.int .i64) (by omega)) ?_
              exact TE.sub [0, 2, 5, 6, 7, 8, 35, 36, 40, 41] rfl (ih10 (j + 1) _ ⟨by omega, hC, hK, hr, hn⟩ (by omega))
            ·
              obtain rfl : j = fld i := by omega
              rw [nums_next s i hi4] at hn
              refine TE.exit rfl ?_
              refine TE.inBlock ?_
              refine TE.region ?_
              refine OL.pure (Pure.add rfl rfl (i64 (by omega) (by omega))) rfl ?_
              refine OL.pure (Pure.move rfl) rfl ?_
              refine OL.nil ?_
              refine TE.cast (.int .i64 (off (i + 1) : Int)) 7 rfl (congrArg (Value.int .i64) (by omega)) ?_
              exact TE.sub [0, 2, 5, 6, 7, 35, 36] rfl (ih9 (i + 1) _ ⟨by omega, hC, hK, hr, hn⟩ (by omega))
          ·
            obtain rfl : i = 4 := by omega
            by_cases ha : 2147483647 < stN s
            ·
              refine TE.exit rfl ?_
              refine TE.seq ?_
              refine TE.seq ?_
              refine TE.region ?_
              refine OL.pure (Pure.indexAddrA (r := 1) Tryd.runUnderlying86 Tryd.sizeOf85 rfl rfl (by omega) (by omega) (by omega)) rfl ?_
              refine OL.val (Run.load (i := 1) rfl Tryd.isAgg85 hn (by omega) rfl) rfl ?_
              refine OL.pure (Pure.gtr rfl rfl) rfl ?_
              refine OL.cast (.bool true) 60 rfl (congrArg Value.bool (decide_eq_true (by omega))) ?_
              refine OL.pure (Pure.move rfl) rfl ?_
              refine OL.pass rfl rfl rfl rfl rfl ?_
              refine OL.pass rfl rfl rfl rfl rfl ?_
              refine OL.pass rfl rfl rfl rfl rfl ?_
              refine OL.pure (Pure.pickT rfl rfl) rfl ?_
              refine OL.nil ?_
              refine TE.condT rfl rfl ?_
              refine TE.seq ?_
              refine TE.region ?_
              refine OL.pure (Pure.build (cs := Fr.zero.cells) rfl (by kernel_rfl)) rfl ?_
              refine OL.storeRow (vs := Fr.zero.cells) rfl rfl (rfl) (by simp [Fr.cells, Value.oneCell']) hr (Nat.le_refl 4) ?_
              intro w13 hb13 hc13
              replace hK := hK.chg hc13 (by simp; omega)
              replace hn := hn.chg hc13 (by simpa using hn.ne hr (by decide))
              replace hC := hC.trans1 hc13 (by first | exact .inr (by omega) | exact .inl (by simp))
              replace hr := hb13
              replace hr := hr.all rfl
              obtain ⟨e1, e2, e3⟩ := eq3 hd (dec5 h2 h3 h4 (.inl ha))
              subst e1
              subst e2
              subst e3
              refine OL.pure (Pure.assign rfl) rfl ?_
              refine OL.pure (Pure.assign rfl) rfl ?_
              refine OL.nil ?_
              exact TE.ret (vs := [.agg (Fr.zero.cells).toArray, .int .i64 ((0 : Nat) : Int), .int .i64 2]) Tryd.results13 (⟨⟨_, rfl, loadRow_at Tryd.underlying30 rfl rfl hr rfl⟩, rfl, rfl, trivial⟩) ⟨rfl, hC⟩
            ·
              by_cases hb : 1099511627775 < nbN s
              ·
                refine TE.exit rfl ?_
                refine TE.seq ?_
                refine TE.seq ?_
                refine TE.region ?_
                refine OL.pure (Pure.indexAddrA (r := 1) Tryd.runUnderlying86 Tryd.sizeOf85 rfl rfl (by omega) (by omega) (by omega)) rfl ?_
                refine OL.val (Run.load (i := 1) rfl Tryd.isAgg85 hn (by omega) rfl) rfl ?_
                refine OL.pure (Pure.gtr rfl rfl) rfl ?_
                refine OL.cast (.bool false) 60 rfl (congrArg Value.bool (decide_eq_false (by omega))) ?_
                refine OL.pure (Pure.move rfl) rfl ?_
                refine OL.want rfl rfl rfl (Pure.indexAddrA (r := 2) Tryd.runUnderlying86 Tryd.sizeOf85 rfl rfl (by omega) (by omega) (by omega) _) rfl ?_
                refine OL.want rfl rfl rfl (Run.load (i := 2) rfl Tryd.isAgg85 hn (by omega) rfl) rfl ?_
                refine OL.want rfl rfl rfl (Pure.gtr rfl rfl _) rfl ?_
                refine OL.cast (.bool true) 64 rfl (congrArg Value.bool (decide_eq_true (by omega))) ?_
                refine OL.pure (Pure.pickF rfl rfl) rfl ?_
                refine OL.nil ?_
                refine TE.condT rfl rfl ?_
                refine TE.seq ?_
                refine TE.region ?_
                refine OL.pure (Pure.build (cs := Fr.zero.cells) rfl (by kernel_rfl)) rfl ?_
                refine OL.storeRow (vs := Fr.zero.cells) rfl rfl (rfl) (by simp [Fr.cells, Value.oneCell']) hr (Nat.le_refl 4) ?_
                intro w14 hb14 hc14
                replace hK := hK.chg hc14 (by simp; omega)
                replace hn := hn.chg hc14 (by simpa using hn.ne hr (by decide))
                replace hC := hC.trans1 hc14 (by first | exact .inr (by omega) | exact .inl (by simp))
                replace hr := hb14
                replace hr := hr.all rfl
                obtain ⟨e1, e2, e3⟩ := eq3 hd (dec5 h2 h3 h4 (.inr hb))
                subst e1
                subst e2
                subst e3
                refine OL.pure (Pure.assign rfl) rfl ?_
                refine OL.pure (Pure.assign rfl) rfl ?_
                refine OL.nil ?_
                exact TE.ret (vs := [.agg (Fr.zero.cells).toArray, .int .i64 ((0 : Nat) : Int), .int .i64 2]) Tryd.results13 (⟨⟨_, rfl, loadRow_at Tryd.underlying30 rfl rfl hr rfl⟩, rfl, rfl, trivial⟩) ⟨rfl, hC⟩
              ·
                have h5 : ¬ (2147483647 < stN s ∨ 1099511627775 < nbN s) := by omega
                refine TE.exit rfl ?_
                refine TE.seq ?_
                refine TE.seq ?_
                refine TE.region ?_
                refine OL.pure (Pure.indexAddrA (r := 1) Tryd.runUnderlying86 Tryd.sizeOf85 rfl rfl (by omega) (by omega) (by omega)) rfl ?_
                refine OL.val (Run.load (i := 1) rfl Tryd.isAgg85 hn (by omega) rfl) rfl ?_
                refine OL.pure (Pure.gtr rfl rfl) rfl ?_
                refine OL.cast (.bool false) 60 rfl (congrArg Value.bool (decide_eq_false (by omega))) ?_
                refine OL.pure (Pure.move rfl) rfl ?_
                refine OL.want rfl rfl rfl (Pure.indexAddrA (r := 2) Tryd.runUnderlying86 Tryd.sizeOf85 rfl rfl (by omega) (by omega) (by omega) _) rfl ?_
                refine OL.want rfl rfl rfl (Run.load (i := 2) rfl Tryd.isAgg85 hn (by omega) rfl) rfl ?_
                refine OL.want rfl rfl rfl (Pure.gtr rfl rfl _) rfl ?_
                refine OL.cast (.bool false) 64 rfl (congrArg Value.bool (decide_eq_false (by omega))) ?_
                refine OL.pure (Pure.pickF rfl rfl) rfl ?_
                refine OL.nil ?_
                refine TE.condF rfl rfl ?_
                refine TE.skip ?_
                refine TE.seq ?_
                refine TE.seq ?_
                refine TE.region ?_
                refine OL.pure (Pure.indexAddrA (r := 3) Tryd.runUnderlying86 Tryd.sizeOf85 rfl rfl (by omega) (by omega) (by omega)) rfl ?_
                refine OL.val (Run.load (i := 3) rfl Tryd.isAgg85 hn (by omega) rfl) rfl ?_
                refine OL.pure (Pure.gtr rfl rfl) rfl ?_
                refine OL.nil ?_
                refine TE.ite rfl (fun q6 => ?_) (fun q6 => ?_)
                ·
                  refine TE.seq ?_
                  refine TE.region ?_
                  refine OL.pure (Pure.build (cs := Fr.zero.cells) rfl (by kernel_rfl)) rfl ?_
                  refine OL.storeRow (vs := Fr.zero.cells) rfl rfl (rfl) (by simp [Fr.cells, Value.oneCell']) hr (Nat.le_refl 4) ?_
                  intro w15 hb15 hc15
                  replace hK := hK.chg hc15 (by simp; omega)
                  replace hn := hn.chg hc15 (by simpa using hn.ne hr (by decide))
                  replace hC := hC.trans1 hc15 (by first | exact .inr (by omega) | exact .inl (by simp))
                  replace hr := hb15
                  replace hr := hr.all rfl
                  obtain ⟨e1, e2, e3⟩ := eq3 hd (dec6 h2 h3 h4 h5 (by omega))
                  subst e1
                  subst e2
                  subst e3
                  refine OL.pure (Pure.assign rfl) rfl ?_
                  refine OL.pure (Pure.assign rfl) rfl ?_
                  refine OL.nil ?_
                  exact TE.ret (vs := [.agg (Fr.zero.cells).toArray, .int .i64 ((0 : Nat) : Int), .int .i64 5]) Tryd.results13 (⟨⟨_, rfl, loadRow_at Tryd.underlying30 rfl rfl hr rfl⟩, rfl, rfl, trivial⟩) ⟨rfl, hC⟩
                ·
                  have h6 : ¬ 262144 < lnN s := by omega
                  refine TE.skip ?_
                  refine TE.seq ?_
                  refine TE.region ?_
                  refine OL.pure (Pure.indexAddrA (r := 3) Tryd.runUnderlying86 Tryd.sizeOf85 rfl rfl (by omega) (by omega) (by omega)) rfl ?_
                  refine OL.val (Run.load (i := 3) rfl Tryd.isAgg85 hn (by omega) rfl) rfl ?_
                  refine OL.pure (Pure.conv Tryd.runUnderlying85 Tryd.runUnderlying3 rfl (i64in (by omega) (by omega))) rfl ?_
                  refine OL.pure (Pure.add rfl rfl (i64 (by omega) (by omega))) rfl ?_
                  refine OL.pure (Pure.assign rfl) rfl ?_
                  refine OL.nil ?_
                  refine TE.seq ?_
                  refine TE.seq ?_
                  refine TE.region ?_
                  refine OL.pure (Pure.move rfl) rfl ?_
                  refine OL.pure (Pure.lenStr Tryd.runUnderlying9 rfl) rfl ?_
                  refine OL.pure (Pure.move rfl) rfl ?_
                  refine OL.pure (Pure.add rfl rfl (i64 (by omega) (by omega))) rfl ?_
                  refine OL.pure (Pure.lss rfl rfl) rfl ?_
                  refine OL.nil ?_
                  refine TE.ite rfl (fun q7 => ?_) (fun q7 => ?_)
                  ·
                    refine TE.seq ?_
                    refine TE.region ?_
                    refine OL.pure (Pure.build (cs := Fr.zero.cells) rfl (by kernel_rfl)) rfl ?_
                    refine OL.storeRow (vs := Fr.zero.cells) rfl rfl (rfl) (by simp [Fr.cells, Value.oneCell']) hr (Nat.le_refl 4) ?_
                    intro w16 hb16 hc16
                    replace hK := hK.chg hc16 (by simp; omega)
                    replace hn := hn.chg hc16 (by simpa using hn.ne hr (by decide))
                    replace hC := hC.trans1 hc16 (by first | exact .inr (by omega) | exact .inl (by simp))
                    replace hr := hb16
                    replace hr := hr.all rfl
                    obtain ⟨e1, e2, e3⟩ := eq3 hd (dec7 h2 h3 h4 h5 h6 (by omega))
                    subst e1
                    subst e2
                    subst e3
                    refine OL.pure (Pure.assign rfl) rfl ?_
                    refine OL.pure (Pure.assign rfl) rfl ?_
                    refine OL.nil ?_
                    exact TE.ret (vs := [.agg (Fr.zero.cells).toArray, .int .i64 ((0 : Nat) : Int), .int .i64 28]) Tryd.results13 (⟨⟨_, rfl, loadRow_at Tryd.underlying30 rfl rfl hr rfl⟩, rfl, rfl, trivial⟩) ⟨rfl, hC⟩
                  ·
                    have h7 : ¬ s.length < 42 + lnN s := by omega
                    refine TE.skip ?_
                    refine TE.seq ?_
                    refine TE.region ?_
                    refine OL.pure (Pure.move rfl) rfl ?_
                    refine OL.pure (Pure.move rfl) rfl ?_
                    refine OL.pure (Pure.sliceStr (l := s) (p := 26) (q := (lnN s) + 26) Tryd.underlying9 rfl rfl rfl (by omega) (by omega) (by omega) (by omega)) rfl ?_
                    refine OL.cast (.string (str (pay s))) 83 rfl (congrArg (fun z => Value.string (str z)) (by rw [List.drop_take, show lnN s + 26 - 26 = lnN s by omega]; rfl)) ?_
                    have hpl : (pay s).length ≤ 262144 := by unfold pay; simp; omega
                    refine OL.pure (Pure.assign rfl) rfl ?_
                    refine OL.nil ?_
                    refine TE.seq ?_
                    refine TE.seq ?_
                    refine TE.planAll (.cons (0, true) (.cons (1, true) (.cons (2, true) (.cons (3, true) (.cons (4, true) (.cons (5, true) (.cons (6, true) (.cons (7, false) (.cons (8, true) .nil))))))))) (fun w_ => Chg [] w9 w_) rfl (by kernel_rfl) ?_
                    have hS17 : Chg [] w9 w9.drew := Chg.drew _ _
                    replace hK := hK.chg0 hS17
                    replace hr := hr.chg0 hS17
                    replace hn := hn.chg0 hS17
                    replace hC := hC.then_ hS17
                    refine PL.takeP rfl (Pure.move rfl) rfl hS17 ?_
                    refine PL.takeP rfl (Pure.move rfl) rfl hS17 ?_
                    refine PL.takeP rfl (Pure.move rfl) rfl hS17 ?_
                    refine PL.takeP rfl (Pure.add rfl rfl (i64 (by omega) (by omega))) rfl hS17 ?_
                    refine PL.takeP rfl (Pure.sliceStr (l := s) (p := (lnN s) + 26) (q := (lnN s) + 42) Tryd.underlying9 rfl rfl rfl (by omega) (by omega) (by omega) (by omega)) rfl hS17 ?_
                    refine PL.cast (.string (str ((s.drop (26 + lnN s)).take 16))) 88 rfl (congrArg (fun z => Value.string (str z)) (by rw [List.drop_take, show lnN s + 42 - (lnN s + 26) = 16 by omega, show lnN s + 26 = 26 + lnN s by omega])) ?_
                    refine PL.takeP rfl (Pure.move rfl) rfl hS17 ?_
                    refine PL.takeP rfl (Pure.move rfl) rfl hS17 ?_
                    refine PL.call rfl rfl Tryd.call40 rfl (second_any (s.take 18) (pay s) (by simp; omega) (by omega) _ hK) ?_
                    rintro _ w18 ⟨rfl, hc18⟩
                    have hc18s := hS17.then_ hc18
                    replace hK := hK.chg0 hc18
                    replace hr := hr.chg0 hc18
                    replace hn := hn.chg0 hc18
                    replace hC := hC.then_ hc18
                    refine ⟨_, rfl, hc18s, ?_⟩
                    refine PL.takeP rfl (Pure.strNeq (l := ((s.drop (26 + lnN s)).take 16)) (m := (second (s.take 18) (pay s))) rfl rfl) rfl hc18s ?_
                    refine PL.nil ?_
                    refine TE.ite rfl (fun h8 => ?_) (fun h8 => ?_)
                    ·
                      refine TE.seq ?_
                      refine TE.region ?_
                      refine OL.pure (Pure.build (cs := Fr.zero.cells) rfl (by kernel_rfl)) rfl ?_
                      refine OL.storeRow (vs := Fr.zero.cells) rfl rfl (rfl) (by simp [Fr.cells, Value.oneCell']) hr (Nat.le_refl 4) ?_
                      intro w19 hb19 hc19
                      replace hK := hK.chg hc19 (by simp; omega)
                      replace hn := hn.chg hc19 (by simpa using hn.ne hr (by decide))
                      replace hC := hC.trans1 hc19 (by first | exact .inr (by omega) | exact .inl (by simp))
                      replace hr := hb19
                      replace hr := hr.all rfl
                      obtain ⟨e1, e2, e3⟩ := eq3 hd (dec8 h2 h3 h4 h5 h6 h7 h8)
                      subst e1
                      subst e2
                      subst e3
                      refine OL.pure (Pure.assign rfl) rfl ?_
                      refine OL.pure (Pure.assign rfl) rfl ?_
                      refine OL.nil ?_
                      exact TE.ret (vs := [.agg (Fr.zero.cells).toArray, .int .i64 ((0 : Nat) : Int), .int .i64 27]) Tryd.results13 (⟨⟨_, rfl, loadRow_at Tryd.underlying30 rfl rfl hr rfl⟩, rfl, rfl, trivial⟩) ⟨rfl, hC⟩
                    ·
                      have hk1 := kN_eq (s := s) (by omega)
                      have hkb := (s.getD 1 0).toNat_lt
                      refine TE.skip ?_
                      refine TE.seq ?_
                      refine TE.region ?_
                      refine OL.pure (Pure.indexAddrA (r := 0) Tryd.runUnderlying86 Tryd.sizeOf85 rfl rfl (by omega) (by omega) (by omega)) rfl ?_
                      refine OL.val (Run.load (i := 0) rfl Tryd.isAgg85 hn (by omega) rfl) rfl ?_
                      refine OL.pure (Pure.conv Tryd.runUnderlying85 Tryd.runUnderlying3 rfl (i64in (by omega) (by omega))) rfl ?_
                      refine OL.cast (.int .i64 ((s.getD 1 0).toNat : Int)) 96 rfl (congrArg (Value.int .i64) (by omega)) ?_
                      refine OL.pure (Pure.indexAddrA (r := 1) Tryd.runUnderlying86 Tryd.sizeOf85 rfl rfl (by omega) (by omega) (by omega)) rfl ?_
                      refine OL.val (Run.load (i := 1) rfl Tryd.isAgg85 hn (by omega) rfl) rfl ?_
                      refine OL.pure (Pure.conv Tryd.runUnderlying85 Tryd.runUnderlying3 rfl (i64in (by omega) (by omega))) rfl ?_
                      refine OL.pure (Pure.indexAddrA (r := 2) Tryd.runUnderlying86 Tryd.sizeOf85 rfl rfl (by omega) (by omega) (by omega)) rfl ?_
                      refine OL.val (Run.load (i := 2) rfl Tryd.isAgg85 hn (by omega) rfl) rfl ?_
                      refine OL.pure (Pure.conv Tryd.runUnderlying85 Tryd.runUnderlying3 rfl (i64in (by omega) (by omega))) rfl ?_
                      refine OL.pure (Pure.move rfl) rfl ?_
                      refine OL.toBytes Tryd.underlying9 Tryd.underlying24 Tryd.underlying5 rfl rfl ?_
                      intro v0 w20 hv0 hc20 ho_v0
                      have hm_v0 : Mine w.heap.size v0 := Mine.new ho_v0 (by have := hC.size; omega)
                      replace hK := hK.chg0 hc20
                      replace hr := hr.chg0 hc20
                      replace hn := hn.chg0 hc20
                      replace hC := hC.then_ hc20
                      refine OL.val (Run.rowStr Tryd.underlying24 Tryd.underlying5 Tryd.underlying9 rfl hv0) rfl ?_
                      refine OL.pure (Pure.build (cs := (Fr.cells ⟨((s.getD 1 0).toNat : Int), (stN s : Int), (nbN s : Int), pay s⟩)) rfl (by kernel_rfl)) rfl ?_
                      refine OL.pure (Pure.move rfl) rfl ?_
                      refine OL.pure (Pure.add rfl rfl (i64 (by omega) (by omega))) rfl ?_
                      refine OL.storeRow (vs := (Fr.cells ⟨((s.getD 1 0).toNat : Int), (stN s : Int), (nbN s : Int), pay s⟩)) rfl rfl (rfl) (by simp [Fr.cells, Value.oneCell']) hr (Nat.le_refl 4) ?_
                      intro w21 hb21 hc21
                      replace hK := hK.chg hc21 (by simp; omega)
                      replace hn := hn.chg hc21 (by simpa using hn.ne hr (by decide))
                      replace hC := hC.trans1 hc21 (by first | exact .inr (by omega) | exact .inl (by simp))
                      replace hr := hb21
                      replace hr := hr.all rfl
                      refine OL.pure (Pure.assign rfl) rfl ?_
                      refine OL.pure (Pure.assign rfl) rfl ?_
                      refine OL.nil ?_
                      obtain ⟨e1, e2, e3⟩ := eq3 hd (dec9 h2 h3 h4 h5 h6 h7 h8)
                      subst e1
                      subst e2
                      subst e3
                      exact TE.ret (vs := [.agg (Fr.cells ⟨((s.getD 1 0).toNat : Int), (stN s : Int), (nbN s : Int), pay s⟩).toArray, .int .i64 ((42 + lnN s : Nat) : Int), .int .i64 0]) Tryd.results13 (⟨⟨_, rfl, loadRow_at Tryd.underlying30 rfl rfl hr rfl⟩, congrArg (fun z => some (Value.int .i64 z)) (by omega), rfl, trivial⟩) ⟨rfl, hC⟩

set_option maxHeartbeats 2000000 in
theorem rdecode_any (s : List UInt8) (hl : s.length ≤ 1073741824) (f : Fr) (m : Nat) (e : Int) (hd : Frm.decode s = (f, m, e)) (w : World) : Calls Tryd.prog 14 #[.string (str s)] w (RetC (.tuple #[.agg (f).cells.toArray, .int .i64 (m : Int), .int .i64 e]) w) := by
  refine calls_of_TE (vs := [.string (str s)]) Tryd.func14 Tryd.ntmps14 rfl (by simp) ?_
  have hC : Chg [] w w := Chg.refl _ _
  refine TE.seq ?_
  refine TE.region ?_
  refine OL.alloc Tryd.zeroValue34 rfl ?_
  intro gr w1 hr hc1 hg_gr
  have ge_gr : w.heap.size ≤ gr := by have := hC.size; omega
  replace hC := hC.then_ hc1
  have hr : Blk w1 gr 34 (Fr.zero.cells) := hr
  refine OL.pure (Pure.assign rfl) rfl ?_
  refine OL.pure (Pure.assign rfl) rfl ?_
  refine OL.nil ?_
  refine TE.seq ?_
  refine TE.seq ?_
  refine TE.region ?_
  refine OL.pure (Pure.move rfl) rfl ?_
  refine OL.pure (Pure.lenStr Tryd.runUnderlying9 rfl) rfl ?_
  refine OL.pure (Pure.eql rfl rfl) rfl ?_
  refine OL.nil ?_
  refine TE.ite rfl (fun q1 => ?_) (fun q1 => ?_)
  ·
    refine TE.seq ?_
    refine TE.region ?_
    refine OL.pure (Pure.build (cs := Fr.zero.cells) rfl (by kernel_rfl)) rfl ?_
    refine OL.storeRow (vs := Fr.zero.cells) rfl rfl (rfl) (by simp [Fr.cells, Value.oneCell']) hr (Nat.le_refl 4) ?_
    intro w2 hb2 hc2
    replace hC := hC.trans1 hc2 (by first | exact .inr (by omega) | exact .inl (by simp))
    replace hr := hb2
    replace hr := hr.all rfl
    obtain ⟨e1, e2, e3⟩ := eq3 hd (dec1 (by omega))
    subst e1
    subst e2
    subst e3
    refine OL.pure (Pure.assign rfl) rfl ?_
    refine OL.pure (Pure.assign rfl) rfl ?_
    refine OL.nil ?_
    exact TE.ret (vs := [.agg (Fr.zero.cells).toArray, .int .i64 ((0 : Nat) : Int), .int .i64 28]) Tryd.results14 (⟨⟨_, rfl, loadRow_at Tryd.underlying34 rfl rfl hr rfl⟩, rfl, rfl, trivial⟩) ⟨rfl, hC⟩
  ·
    have h1 : ¬ s.length = 0 := by omega
    refine TE.skip ?_
    refine TE.seq ?_
    refine TE.seq ?_
    refine TE.region ?_
    refine OL.pure (Pure.move rfl) rfl ?_
    refine OL.pure (Pure.indexStr (j := 0) Tryd.runUnderlying9 rfl rfl (by omega) (by omega)) rfl ?_
    refine OL.pure (Pure.neq rfl rfl) rfl ?_
    refine OL.nil ?_
    refine TE.ite rfl (fun q2 => ?_) (fun q2 => ?_)
    ·
      refine TE.seq ?_
      refine TE.region ?_
      refine OL.pure (Pure.build (cs := Fr.zero.cells) rfl (by kernel_rfl)) rfl ?_
      refine OL.storeRow (vs := Fr.zero.cells) rfl rfl (rfl) (by simp [Fr.cells, Value.oneCell']) hr (Nat.le_refl 4) ?_
      intro w3 hb3 hc3
      replace hC := hC.trans1 hc3 (by first | exact .inr (by omega) | exact .inl (by simp))
      replace hr := hb3
      replace hr := hr.all rfl
      obtain ⟨e1, e2, e3⟩ := eq3 hd (dec2 h1 (fun h => q2 ((bt245 s).2 h)))
      subst e1
      subst e2
      subst e3
      refine OL.pure (Pure.assign rfl) rfl ?_
      refine OL.pure (Pure.assign rfl) rfl ?_
      refine OL.nil ?_
      exact TE.ret (vs := [.agg (Fr.zero.cells).toArray, .int .i64 ((0 : Nat) : Int), .int .i64 3]) Tryd.results14 (⟨⟨_, rfl, loadRow_at Tryd.underlying34 rfl rfl hr rfl⟩, rfl, rfl, trivial⟩) ⟨rfl, hC⟩
    ·
      have h2 : ¬ s.getD 0 0 ≠ 245 := fun h => q2 (fun h3 => h ((bt245 s).1 h3))
      refine TE.skip ?_
      refine TE.seq ?_
      refine TE.seq ?_
      refine TE.region ?_
      refine OL.pure (Pure.move rfl) rfl ?_
      refine OL.pure (Pure.lenStr Tryd.runUnderlying9 rfl) rfl ?_
      refine OL.pure (Pure.lss rfl rfl) rfl ?_
      refine OL.nil ?_
      refine TE.ite rfl (fun q3 => ?_) (fun q3 => ?_)
      ·
        refine TE.seq ?_
        refine TE.region ?_
        refine OL.pure (Pure.build (cs := Fr.zero.cells) rfl (by kernel_rfl)) rfl ?_
        refine OL.storeRow (vs := Fr.zero.cells) rfl rfl (rfl) (by simp [Fr.cells, Value.oneCell']) hr (Nat.le_refl 4) ?_
        intro w4 hb4 hc4
        replace hC := hC.trans1 hc4 (by first | exact .inr (by omega) | exact .inl (by simp))
        replace hr := hb4
        replace hr := hr.all rfl
        obtain ⟨e1, e2, e3⟩ := eq3 hd (dec3 h1 h2 (by omega))
        subst e1
        subst e2
        subst e3
        refine OL.pure (Pure.assign rfl) rfl ?_
        refine OL.pure (Pure.assign rfl) rfl ?_
        refine OL.nil ?_
        exact TE.ret (vs := [.agg (Fr.zero.cells).toArray, .int .i64 ((0 : Nat) : Int), .int .i64 28]) Tryd.results14 (⟨⟨_, rfl, loadRow_at Tryd.underlying34 rfl rfl hr rfl⟩, rfl, rfl, trivial⟩) ⟨rfl, hC⟩
      ·
        have h3 : ¬ s.length < 26 := by omega
        refine TE.skip ?_
        refine TE.seq ?_
        refine TE.region ?_
        refine OL.pure (Pure.move rfl) rfl ?_
        refine OL.pure (Pure.sliceTo (l := s) (q := 18) Tryd.underlying9 rfl rfl (by omega) (by omega)) rfl ?_
        refine OL.pure (Pure.assign rfl) rfl ?_
        refine OL.nil ?_
        refine TE.seq ?_
        refine TE.seq ?_
        refine TE.planAll (.cons (0, true) (.cons (1, true) (.cons (2, true) (.cons (3, false) (.cons (4, true) .nil))))) (fun w_ => Chg [] w1 w_) rfl (by kernel_rfl) ?_
        have hS5 : Chg [] w1 w1.drew := Chg.drew _ _
        replace hr := hr.chg0 hS5
        replace hC := hC.then_ hS5
        refine PL.takeP rfl (Pure.move rfl) rfl hS5 ?_
        refine PL.takeP rfl (Pure.sliceStr (l := s) (p := 18) (q := 26) Tryd.underlying9 rfl rfl rfl (by omega) (by omega) (by omega) (by omega)) rfl hS5 ?_
        refine PL.cast (.string (str ((s.drop 18).take 8))) 23 rfl (by rw [List.drop_take]) ?_
        refine PL.takeP rfl (Pure.move rfl) rfl hS5 ?_
        refine PL.call rfl rfl Tryd.call17 rfl (rfirst_any (s.take 18) (by simp; omega) _) ?_
        rintro _ w6 ⟨rfl, hc6⟩
        have hc6s := hS5.then_ hc6
        replace hr := hr.chg0 hc6
        replace hC := hC.then_ hc6
        refine ⟨_, rfl, hc6s, ?_⟩
        refine PL.takeP rfl (Pure.strNeq (l := ((s.drop 18).take 8)) (m := (first (s.take 18))) rfl rfl) rfl hc6s ?_
        refine PL.nil ?_
        refine TE.ite rfl (fun h4 => ?_) (fun h4 => ?_)
        ·
          refine TE.seq ?_
          refine TE.region ?_
          refine OL.pure (Pure.build (cs := Fr.zero.cells) rfl (by kernel_rfl)) rfl ?_
          refine OL.storeRow (vs := Fr.zero.cells) rfl rfl (rfl) (by simp [Fr.cells, Value.oneCell']) hr (Nat.le_refl 4) ?_
          intro w7 hb7 hc7
          replace hC := hC.trans1 hc7 (by first | exact .inr (by omega) | exact .inl (by simp))
          replace hr := hb7
          replace hr := hr.all rfl
          obtain ⟨e1, e2, e3⟩ := eq3 hd (dec4 h2 h3 h4)
          subst e1
          subst e2
          subst e3
          refine OL.pure (Pure.assign rfl) rfl ?_
          refine OL.pure (Pure.assign rfl) rfl ?_
          refine OL.nil ?_
          exact TE.ret (vs := [.agg (Fr.zero.cells).toArray, .int .i64 ((0 : Nat) : Int), .int .i64 27]) Tryd.results14 (⟨⟨_, rfl, loadRow_at Tryd.underlying34 rfl rfl hr rfl⟩, rfl, rfl, trivial⟩) ⟨rfl, hC⟩
        ·
          refine TE.skip ?_
          refine TE.seq ?_
          have hst : rnum ((s.drop 2).take 4) = (stN s : Int) := rnum_short (by simp; omega)
          obtain ⟨cs, hcs⟩ : ∃ cs : List Value, cs = [.int .i64 ((s.getD 1 0).toNat : Int), .int .i64 (stN s : Int), .int .i64 (rnum ((s.drop 6).take 8)), .string (str [])] := ⟨_, rfl⟩
          refine TE.meet (σ := Nat) [0, 2, 5, 6] (fun s_ w_ => gr < s_ ∧ w.heap.size ≤ s_ ∧ Chg [] w w_ ∧ Blk w_ gr 34 (Fr.zero.cells) ∧ Blk w_ s_ 34 cs) (fun s_ => [(0, .string (str s)), (2, .pointer (some ⟨gr, 0, none⟩)), (5, .string (str (s.take 18))), (6, .pointer (some ⟨s_, 0, none⟩))]) (fun hj8 => ?_) (fun s_ w_ h_ => ?_)
          ·
            refine TE.plan 11 (.cons (0, true) (.cons (1, true) (.cons (2, true) (.cons (3, true) (.cons (4, true) (.cons (6, true) (.cons (7, true) (.br 5 10 (.br 8 10 (.cons (9, true) (.cons (10, false) .nil)) (.cons (8, false) (.cons (9, true) .nil))) (.cons (5, false) (.cons (8, false) (.cons (9, true) .nil))))))))))) (fun w_ => Chg [] w6 w_) rfl (by kernel_rfl) rfl ?_
            have hS9 : Chg [] w6 w6.drew := Chg.drew _ _
            replace hr := hr.chg0 hS9
            replace hC := hC.then_ hS9
            refine PL.takeP rfl (Pure.move rfl) rfl hS9 ?_
            refine PL.takeP rfl (Pure.indexStr (j := 1) Tryd.runUnderlying9 rfl rfl (by omega) (by omega)) rfl hS9 ?_
            refine PL.takeP rfl (Pure.conv Tryd.runUnderlying5 Tryd.runUnderlying3 rfl (i64bt _ _)) rfl hS9 ?_
            refine PL.takeP rfl (Pure.move rfl) rfl hS9 ?_
            refine PL.takeP rfl (Pure.sliceStr (l := s) (p := 2) (q := 6) Tryd.underlying9 rfl rfl rfl (by omega) (by omega) (by omega) (by omega)) rfl hS9 ?_
            refine PL.cast (.string (str ((s.drop 2).take 4))) 32 rfl (by rw [List.drop_take]) ?_
            refine PL.takeP rfl (Pure.move rfl) rfl hS9 ?_
            refine PL.takeP rfl (Pure.sliceStr (l := s) (p := 6) (q := 14) Tryd.underlying9 rfl rfl rfl (by omega) (by omega) (by omega) (by omega)) rfl hS9 ?_
            refine PL.cast (.string (str ((s.drop 6).take 8))) 35 rfl (by rw [List.drop_take]) ?_
            refine PL.br ?_ ?_
            ·
              refine PL.call rfl rfl Tryd.call41 rfl (number_any ((s.drop 2).take 4) (by simp; omega) _) ?_
              rintro _ _ ⟨rfl, rfl⟩
              refine ⟨_, rfl, hS9, ?_⟩
              refine PL.cast (.int .i64 (stN s : Int)) 33 rfl (congrArg (Value.int .i64) hst) ?_
              refine PL.br ?_ ?_
              ·
                refine PL.call rfl rfl Tryd.call41 rfl (number_any ((s.drop 6).take 8) (by simp; omega) _) ?_
                rintro _ _ ⟨rfl, rfl⟩
                refine ⟨_, rfl, hS9, ?_⟩
                refine PL.cast (.int .i64 ((s.getD 1 0).toNat : Int)) 30 rfl (rfl) ?_
                refine PL.takeP rfl (Pure.build (cs := [.int .i64 ((s.getD 1 0).toNat : Int), .int .i64 (stN s : Int), .int .i64 (rnum ((s.drop 6).take 8)), .string (str [])]) rfl (by kernel_rfl)) rfl hS9 ?_
                refine PL.cast (.agg cs.toArray) 37 rfl (by rw [hcs]) ?_
                refine PL.alloc rfl Tryd.zeroValue34 rfl (fun w_ h_ => hS9.then_ h_) ?_
                intro gf w10 hf hc10 hg_gf
                have lt_gr_gf : gr < gf := by have := hr.lt; omega
                have ge_gf : w.heap.size ≤ gf := by have := hC.size; omega
                have gp_gf := Nat.le_trans hS9.size (Nat.le_of_eq hg_gf)
                have hc10s := hS9.then_ hc10
                replace hr := hr.chg0 hc10
                replace hC := hC.then_ hc10
                have hf : Blk w10 gf 34 (Fr.zero.cells) := hf
                refine PL.nilTail ?_
                refine OL.storeRow (vs := cs) rfl rfl (by rw [hcs]; rfl) (by simp [hcs, Value.oneCell']) hf (by rw [hcs]; exact Nat.le_refl 4) ?_
                intro w11 hb11 hc11
                replace hr := hr.chg hc11 (by simp; omega)
                replace hC := hC.trans1 hc11 (by first | exact .inr (by omega) | exact .inl (by simp))
                replace hf := hb11
                replace hf := hf.all (by rw [hcs]; rfl)
                refine OL.nil ?_
                exact hj8 gf _ ⟨lt_gr_gf, ge_gf, hC, hr, hf⟩ _ rfl
              ·
                refine PL.alloc rfl Tryd.zeroValue34 rfl (fun w_ h_ => hS9.then_ h_) ?_
                intro gf w12 hf hc12 hg_gf
                have lt_gr_gf : gr < gf := by have := hr.lt; omega
                have ge_gf : w.heap.size ≤ gf := by have := hC.size; omega
                have gp_gf := Nat.le_trans hS9.size (Nat.le_of_eq hg_gf)
                have hc12s := hS9.then_ hc12
                replace hr := hr.chg0 hc12
                replace hC := hC.then_ hc12
                have hf : Blk w12 gf 34 (Fr.zero.cells) := hf
                refine PL.call rfl rfl Tryd.call41 rfl (number_any ((s.drop 6).take 8) (by simp; omega) _) ?_
                rintro _ _ ⟨rfl, rfl⟩
                refine ⟨_, rfl, hc12s, ?_⟩
                refine PL.cast (.int .i64 ((s.getD 1 0).toNat : Int)) 30 rfl (rfl) ?_
                refine PL.takeP rfl (Pure.build (cs := [.int .i64 ((s.getD 1 0).toNat : Int), .int .i64 (stN s : Int), .int .i64 (rnum ((s.drop 6).take 8)), .string (str [])]) rfl (by kernel_rfl)) rfl hc12s ?_
                refine PL.cast (.agg cs.toArray) 37 rfl (by rw [hcs]) ?_
                refine PL.nilTail ?_
                refine OL.storeRow (vs := cs) rfl rfl (by rw [hcs]; rfl) (by simp [hcs, Value.oneCell']) hf (by rw [hcs]; exact Nat.le_refl 4) ?_
                intro w13 hb13 hc13
                replace hr := hr.chg hc13 (by simp; omega)
                replace hC := hC.trans1 hc13 (by first | exact .inr (by omega) | exact .inl (by simp))
                replace hf := hb13
                replace hf := hf.all (by rw [hcs]; rfl)
                refine OL.nil ?_
                exact hj8 gf _ ⟨lt_gr_gf, ge_gf, hC, hr, hf⟩ _ rfl
            ·
              refine PL.alloc rfl Tryd.zeroValue34 rfl (fun w_ h_ => hS9.then_ h_) ?_
              intro gf w14 hf hc14 hg_gf
              have lt_gr_gf : gr < gf := by have := hr.lt; omega
              have ge_gf : w.heap.size ≤ gf := by have := hC.size; omega
              have gp_gf := Nat.le_trans hS9.size (Nat.le_of_eq hg_gf)
              have hc14s := hS9.then_ hc14
              replace hr := hr.chg0 hc14
              replace hC := hC.then_ hc14
              have hf : Blk w14 gf 34 (Fr.zero.cells) := hf
              refine PL.call rfl rfl Tryd.call41 rfl (number_any ((s.drop 2).take 4) (by simp; omega) _) ?_
              rintro _ _ ⟨rfl, rfl⟩
              refine ⟨_, rfl, hc14s, ?_⟩
              refine PL.cast (.int .i64 (stN s : Int)) 33 rfl (congrArg (Value.int .i64) hst) ?_
              refine PL.call rfl rfl Tryd.call41 rfl (number_any ((s.drop 6).take 8) (by simp; omega) _) ?_
              rintro _ _ ⟨rfl, rfl⟩
              refine ⟨_, rfl, hc14s, ?_⟩
              refine PL.cast (.int .i64 ((s.getD 1 0).toNat : Int)) 30 rfl (rfl) ?_
              refine PL.takeP rfl (Pure.build (cs := [.int .i64 ((s.getD 1 0).toNat : Int), .int .i64 (stN s : Int), .int .i64 (rnum ((s.drop 6).take 8)), .string (str [])]) rfl (by kernel_rfl)) rfl hc14s ?_
              refine PL.cast (.agg cs.toArray) 37 rfl (by rw [hcs]) ?_
              refine PL.nilTail ?_
              refine OL.storeRow (vs := cs) rfl rfl (by rw [hcs]; rfl) (by simp [hcs, Value.oneCell']) hf (by rw [hcs]; exact Nat.le_refl 4) ?_
              intro w15 hb15 hc15
              replace hr := hr.chg hc15 (by simp; omega)
              replace hC := hC.trans1 hc15 (by first | exact .inr (by omega) | exact .inl (by simp))
              replace hf := hb15
              replace hf := hf.all (by rw [hcs]; rfl)
              refine OL.nil ?_
              exact hj8 gf _ ⟨lt_gr_gf, ge_gf, hC, hr, hf⟩ _ rfl
          ·
            revert s_ w_ h_
            rintro gf w8 ⟨lt_gr_gf, ge_gf, hC, hr, hf⟩
            rw [hcs] at hf
            have hrn := rnum_num (s := s)
            by_cases ha : 2147483647 < stN s
            ·
              refine TE.seq ?_
              refine TE.seq ?_
              refine TE.region ?_
              refine OL.pure (Pure.fieldAddr (r := 1) Tryd.runUnderlying34 rfl Tryd.sizeOf3 rfl rfl) rfl ?_
              refine OL.val (Run.load (i := 1) rfl Tryd.isAgg3 hf (by omega) rfl) rfl ?_
              refine OL.pure (Pure.gtr rfl rfl) rfl ?_
              refine OL.cast (.bool true) 40 rfl (congrArg Value.bool (decide_eq_true (by omega))) ?_
              refine OL.pure (Pure.move rfl) rfl ?_
              refine OL.pass rfl rfl rfl rfl rfl ?_
              refine OL.pass rfl rfl rfl rfl rfl ?_
              refine OL.pass rfl rfl rfl rfl rfl ?_
              refine OL.pure (Pure.pickT rfl rfl) rfl ?_
              refine OL.pure (Pure.move rfl) rfl ?_
              refine OL.pass rfl rfl rfl rfl rfl ?_
              refine OL.pass rfl rfl rfl rfl rfl ?_
              refine OL.pass rfl rfl rfl rfl rfl ?_
              refine OL.pure (Pure.pickT rfl rfl) rfl ?_
              refine OL.nil ?_
              refine TE.condT rfl rfl ?_
              refine TE.seq ?_
              refine TE.region ?_
              refine OL.pure (Pure.build (cs := Fr.zero.cells) rfl (by kernel_rfl)) rfl ?_
              refine OL.storeRow (vs := Fr.zero.cells) rfl rfl (rfl) (by simp [Fr.cells, Value.oneCell']) hr (Nat.le_refl 4) ?_
              intro w16 hb16 hc16
              replace hf := hf.chg hc16 (by simp; omega)
              replace hC := hC.trans1 hc16 (by first | exact .inr (by omega) | exact .inl (by simp))
              replace hr := hb16
              replace hr := hr.all rfl
              obtain ⟨e1, e2, e3⟩ := eq3 hd (dec5 h2 h3 h4 (.inl ha))
              subst e1
              subst e2
              subst e3
              refine OL.pure (Pure.assign rfl) rfl ?_
              refine OL.pure (Pure.assign rfl) rfl ?_
              refine OL.nil ?_
              exact TE.ret (vs := [.agg (Fr.zero.cells).toArray, .int .i64 ((0 : Nat) : Int), .int .i64 2]) Tryd.results14 (⟨⟨_, rfl, loadRow_at Tryd.underlying34 rfl rfl hr rfl⟩, rfl, rfl, trivial⟩) ⟨rfl, hC⟩
            ·
              by_cases hb0 : rnum ((s.drop 6).take 8) < 0
              ·
                refine TE.seq ?_
                refine TE.seq ?_
                refine TE.region ?_
                refine OL.pure (Pure.fieldAddr (r := 1) Tryd.runUnderlying34 rfl Tryd.sizeOf3 rfl rfl) rfl ?_
                refine OL.val (Run.load (i := 1) rfl Tryd.isAgg3 hf (by omega) rfl) rfl ?_
                refine OL.pure (Pure.gtr rfl rfl) rfl ?_
                refine OL.cast (.bool false) 40 rfl (congrArg Value.bool (decide_eq_false (by omega))) ?_
                refine OL.pure (Pure.move rfl) rfl ?_
                refine OL.want rfl rfl rfl (Pure.fieldAddr (r := 2) Tryd.runUnderlying34 rfl Tryd.sizeOf3 rfl rfl _) rfl ?_
                refine OL.want rfl rfl rfl (Run.load (i := 2) rfl Tryd.isAgg3 hf (by omega) rfl) rfl ?_
                refine OL.want rfl rfl rfl (Pure.lss rfl rfl _) rfl ?_
                refine OL.cast (.bool true) 44 rfl (congrArg Value.bool (decide_eq_true (by omega))) ?_
                refine OL.pure (Pure.pickF rfl rfl) rfl ?_
                refine OL.pure (Pure.move rfl) rfl ?_
                refine OL.pass rfl rfl rfl rfl rfl ?_
                refine OL.pass rfl rfl rfl rfl rfl ?_
                refine OL.pass rfl rfl rfl rfl rfl ?_
                refine OL.pure (Pure.pickT rfl rfl) rfl ?_
                refine OL.nil ?_
                refine TE.condT rfl rfl ?_
                refine TE.seq ?_
                refine TE.region ?_
                refine OL.pure (Pure.build (cs := Fr.zero.cells) rfl (by kernel_rfl)) rfl ?_
                refine OL.storeRow (vs := Fr.zero.cells) rfl rfl (rfl) (by simp [Fr.cells, Value.oneCell']) hr (Nat.le_refl 4) ?_
                intro w17 hb17 hc17
                replace hf := hf.chg hc17 (by simp; omega)
                replace hC := hC.trans1 hc17 (by first | exact .inr (by omega) | exact .inl (by simp))
                replace hr := hb17
                replace hr := hr.all rfl
                obtain ⟨e1, e2, e3⟩ := eq3 hd (dec5 h2 h3 h4 (.inr (hrn.1 hb0)))
                subst e1
                subst e2
                subst e3
                refine OL.pure (Pure.assign rfl) rfl ?_
                refine OL.pure (Pure.assign rfl) rfl ?_
                refine OL.nil ?_
                exact TE.ret (vs := [.agg (Fr.zero.cells).toArray, .int .i64 ((0 : Nat) : Int), .int .i64 2]) Tryd.results14 (⟨⟨_, rfl, loadRow_at Tryd.underlying34 rfl rfl hr rfl⟩, rfl, rfl, trivial⟩) ⟨rfl, hC⟩
              ·
                have hnb := hrn.2 (by omega)
                by_cases hb : 1099511627775 < nbN s
                ·
                  refine TE.seq ?_
                  refine TE.seq ?_
                  refine TE.region ?_
                  refine OL.pure (Pure.fieldAddr (r := 1) Tryd.runUnderlying34 rfl Tryd.sizeOf3 rfl rfl) rfl ?_
                  refine OL.val (Run.load (i := 1) rfl Tryd.isAgg3 hf (by omega) rfl) rfl ?_
                  refine OL.pure (Pure.gtr rfl rfl) rfl ?_
                  refine OL.cast (.bool false) 40 rfl (congrArg Value.bool (decide_eq_false (by omega))) ?_
                  refine OL.pure (Pure.move rfl) rfl ?_
                  refine OL.want rfl rfl rfl (Pure.fieldAddr (r := 2) Tryd.runUnderlying34 rfl Tryd.sizeOf3 rfl rfl _) rfl ?_
                  refine OL.want rfl rfl rfl (Run.load (i := 2) rfl Tryd.isAgg3 hf (by omega) rfl) rfl ?_
                  refine OL.want rfl rfl rfl (Pure.lss rfl rfl _) rfl ?_
                  refine OL.cast (.bool false) 44 rfl (congrArg Value.bool (decide_eq_false (by omega))) ?_
                  refine OL.pure (Pure.pickF rfl rfl) rfl ?_
                  refine OL.pure (Pure.move rfl) rfl ?_
                  refine OL.want rfl rfl rfl (Pure.fieldAddr (r := 2) Tryd.runUnderlying34 rfl Tryd.sizeOf3 rfl rfl _) rfl ?_
                  refine OL.want rfl rfl rfl (Run.load (i := 2) rfl Tryd.isAgg3 hf (by omega) rfl) rfl ?_
                  refine OL.want rfl rfl rfl (Pure.gtr rfl rfl _) rfl ?_
                  refine OL.cast (.bool true) 49 rfl (congrArg Value.bool (decide_eq_true (by omega))) ?_
                  refine OL.pure (Pure.pickF rfl rfl) rfl ?_
                  refine OL.nil ?_
                  refine TE.condT rfl rfl ?_
                  refine TE.seq ?_
                  refine TE.region ?_
                  refine OL.pure (Pure.build (cs := Fr.zero.cells) rfl (by kernel_rfl)) rfl ?_
                  refine OL.storeRow (vs := Fr.zero.cells) rfl rfl (rfl) (by simp [Fr.cells, Value.oneCell']) hr (Nat.le_refl 4) ?_
                  intro w18 hb18 hc18
                  replace hf := hf.chg hc18 (by simp; omega)
                  replace hC := hC.trans1 hc18 (by first | exact .inr (by omega) | exact .inl (by simp))
                  replace hr := hb18
                  replace hr := hr.all rfl
                  obtain ⟨e1, e2, e3⟩ := eq3 hd (dec5 h2 h3 h4 (.inr hb))
                  subst e1
                  subst e2
                  subst e3
                  refine OL.pure (Pure.assign rfl) rfl ?_
                  refine OL.pure (Pure.assign rfl) rfl ?_
                  refine OL.nil ?_
                  exact TE.ret (vs := [.agg (Fr.zero.cells).toArray, .int .i64 ((0 : Nat) : Int), .int .i64 2]) Tryd.results14 (⟨⟨_, rfl, loadRow_at Tryd.underlying34 rfl rfl hr rfl⟩, rfl, rfl, trivial⟩) ⟨rfl, hC⟩
                ·
                  have h5 : ¬ (2147483647 < stN s ∨ 1099511627775 < nbN s) := by omega
                  refine TE.seq ?_
                  refine TE.seq ?_
                  refine TE.region ?_
                  refine OL.pure (Pure.fieldAddr (r := 1) Tryd.runUnderlying34 rfl Tryd.sizeOf3 rfl rfl) rfl ?_
                  refine OL.val (Run.load (i := 1) rfl Tryd.isAgg3 hf (by omega) rfl) rfl ?_
                  refine OL.pure (Pure.gtr rfl rfl) rfl ?_
                  refine OL.cast (.bool false) 40 rfl (congrArg Value.bool (decide_eq_false (by omega))) ?_
                  refine OL.pure (Pure.move rfl) rfl ?_
                  refine OL.want rfl rfl rfl (Pure.fieldAddr (r := 2) Tryd.runUnderlying34 rfl Tryd.sizeOf3 rfl rfl _) rfl ?_
                  refine OL.want rfl rfl rfl (Run.load (i := 2) rfl Tryd.isAgg3 hf (by omega) rfl) rfl ?_
                  refine OL.want rfl rfl rfl (Pure.lss rfl rfl _) rfl ?_
                  refine OL.cast (.bool false) 44 rfl (congrArg Value.bool (decide_eq_false (by omega))) ?_
                  refine OL.pure (Pure.pickF rfl rfl) rfl ?_
                  refine OL.pure (Pure.move rfl) rfl ?_
                  refine OL.want rfl rfl rfl (Pure.fieldAddr (r := 2) Tryd.runUnderlying34 rfl Tryd.sizeOf3 rfl rfl _) rfl ?_
                  refine OL.want rfl rfl rfl (Run.load (i := 2) rfl Tryd.isAgg3 hf (by omega) rfl) rfl ?_
                  refine OL.want rfl rfl rfl (Pure.gtr rfl rfl _) rfl ?_
                  refine OL.cast (.bool false) 49 rfl (congrArg Value.bool (decide_eq_false (by omega))) ?_
                  refine OL.pure (Pure.pickF rfl rfl) rfl ?_
                  refine OL.nil ?_
                  refine TE.condF rfl rfl ?_
                  refine TE.skip ?_
                  refine TE.seq ?_
                  refine TE.region ?_
                  refine OL.pure (Pure.move rfl) rfl ?_
                  refine OL.pure (Pure.sliceStr (l := s) (p := 14) (q := 18) Tryd.underlying9 rfl rfl rfl (by omega) (by omega) (by omega) (by omega)) rfl ?_
                  refine OL.cast (.string (str ((s.drop 14).take 4))) 53 rfl (by rw [List.drop_take]) ?_
                  refine OL.call rfl Tryd.call41 rfl (number_any ((s.drop 14).take 4) (by simp; omega) _) ?_
                  rintro _ _ ⟨rfl, rfl⟩
                  refine ⟨_, rfl, ?_⟩
                  have hln : rnum ((s.drop 14).take 4) = (lnN s : Int) := rnum_short (by simp; omega)
                  refine OL.cast (.int .i64 (lnN s : Int)) 54 rfl (congrArg (Value.int .i64) hln) ?_
                  refine OL.pure (Pure.assign rfl) rfl ?_
                  refine OL.nil ?_
                  refine TE.seq ?_
                  refine TE.seq ?_
                  refine TE.region ?_
                  refine OL.pure (Pure.move rfl) rfl ?_
                  refine OL.pure (Pure.gtr rfl rfl) rfl ?_
                  refine OL.nil ?_
                  refine TE.ite rfl (fun q6 => ?_) (fun q6 => ?_)
                  ·
                    refine TE.seq ?_
                    refine TE.region ?_
                    refine OL.pure (Pure.build (cs := Fr.zero.cells) rfl (by kernel_rfl)) rfl ?_
                    refine OL.storeRow (vs := Fr.zero.cells) rfl rfl (rfl) (by simp [Fr.cells, Value.oneCell']) hr (Nat.le_refl 4) ?_
                    intro w19 hb19 hc19
                    replace hf := hf.chg hc19 (by simp; omega)
                    replace hC := hC.trans1 hc19 (by first | exact .inr (by omega) | exact .inl (by simp))
                    replace hr := hb19
                    replace hr := hr.all rfl
                    obtain ⟨e1, e2, e3⟩ := eq3 hd (dec6 h2 h3 h4 h5 (by omega))
                    subst e1
                    subst e2
                    subst e3
                    refine OL.pure (Pure.assign rfl) rfl ?_
                    refine OL.pure (Pure.assign rfl) rfl ?_
                    refine OL.nil ?_
                    exact TE.ret (vs := [.agg (Fr.zero.cells).toArray, .int .i64 ((0 : Nat) : Int), .int .i64 5]) Tryd.results14 (⟨⟨_, rfl, loadRow_at Tryd.underlying34 rfl rfl hr rfl⟩, rfl, rfl, trivial⟩) ⟨rfl, hC⟩
                  ·
                    have h6 : ¬ 262144 < lnN s := by omega
                    refine TE.skip ?_
                    refine TE.seq ?_
                    refine TE.seq ?_
                    refine TE.region ?_
                    refine OL.pure (Pure.move rfl) rfl ?_
                    refine OL.pure (Pure.lenStr Tryd.runUnderlying9 rfl) rfl ?_
                    refine OL.pure (Pure.move rfl) rfl ?_
                    refine OL.pure (Pure.add rfl rfl (i64 (by omega) (by omega))) rfl ?_
                    refine OL.pure (Pure.add rfl rfl (i64 (by omega) (by omega))) rfl ?_
                    refine OL.pure (Pure.lss rfl rfl) rfl ?_
                    refine OL.nil ?_
                    refine TE.ite rfl (fun q7 => ?_) (fun q7 => ?_)
                    ·
                      refine TE.seq ?_
                      refine TE.region ?_
                      refine OL.pure (Pure.build (cs := Fr.zero.cells) rfl (by kernel_rfl)) rfl ?_
                      refine OL.storeRow (vs := Fr.zero.cells) rfl rfl (rfl) (by simp [Fr.cells, Value.oneCell']) hr (Nat.le_refl 4) ?_
                      intro w20 hb20 hc20
                      replace hf := hf.chg hc20 (by simp; omega)
                      replace hC := hC.trans1 hc20 (by first | exact .inr (by omega) | exact .inl (by simp))
                      replace hr := hb20
                      replace hr := hr.all rfl
                      obtain ⟨e1, e2, e3⟩ := eq3 hd (dec7 h2 h3 h4 h5 h6 (by omega))
                      subst e1
                      subst e2
                      subst e3
                      refine OL.pure (Pure.assign rfl) rfl ?_
                      refine OL.pure (Pure.assign rfl) rfl ?_
                      refine OL.nil ?_
                      exact TE.ret (vs := [.agg (Fr.zero.cells).toArray, .int .i64 ((0 : Nat) : Int), .int .i64 28]) Tryd.results14 (⟨⟨_, rfl, loadRow_at Tryd.underlying34 rfl rfl hr rfl⟩, rfl, rfl, trivial⟩) ⟨rfl, hC⟩
                    ·
                      have h7 : ¬ s.length < 42 + lnN s := by omega
                      refine TE.skip ?_
                      refine TE.seq ?_
                      refine TE.region ?_
                      refine OL.pure (Pure.move rfl) rfl ?_
                      refine OL.pure (Pure.move rfl) rfl ?_
                      refine OL.pure (Pure.add rfl rfl (i64 (by omega) (by omega))) rfl ?_
                      refine OL.pure (Pure.sliceStr (l := s) (p := 26) (q := (lnN s) + 26) Tryd.underlying9 rfl rfl rfl (by omega) (by omega) (by omega) (by omega)) rfl ?_
                      refine OL.cast (.string (str (pay s))) 68 rfl (congrArg (fun z => Value.string (str z)) (by rw [List.drop_take, show lnN s + 26 - 26 = lnN s by omega]; rfl)) ?_
                      refine OL.pure (Pure.fieldAddr (r := 3) Tryd.runUnderlying34 rfl Tryd.sizeOf9 rfl rfl) rfl ?_
                      refine OL.store (j := 3) rfl rfl Tryd.sizeOf9 rfl hf (by omega) (rfl) ?_
                      intro w21 hb21 hc21
                      replace hr := hr.chg hc21 (by simp; omega)
                      replace hC := hC.trans1 hc21 (by first | exact .inr (by omega) | exact .inl (by simp))
                      replace hf := hb21
                      replace hf : Blk w21 gf 34 (Fr.cells ⟨((s.getD 1 0).toNat : Int), (stN s : Int), (nbN s : Int), pay s⟩) := by rw [hnb] at hf; exact hf
                      have hpl : (pay s).length ≤ 262144 := by unfold pay; simp; omega
                      refine OL.nil ?_
                      refine TE.seq ?_
                      refine TE.seq ?_
                      refine TE.planAll (.cons (0, true) (.cons (1, true) (.cons (2, true) (.cons (3, true) (.cons (4, true) (.cons (5, true) (.cons (6, true) (.cons (7, true) (.cons (8, true) (.cons (9, true) (.cons (10, false) (.cons (11, true) .nil)))))))))))) (fun w_ => Chg [] w21 w_) rfl (by kernel_rfl) ?_
                      have hS22 : Chg [] w21 w21.drew := Chg.drew _ _
                      replace hr := hr.chg0 hS22
                      replace hf := hf.chg0 hS22
                      replace hC := hC.then_ hS22
                      refine PL.takeP rfl (Pure.move rfl) rfl hS22 ?_
                      refine PL.takeP rfl (Pure.move rfl) rfl hS22 ?_
                      refine PL.takeP rfl (Pure.add rfl rfl (i64 (by omega) (by omega))) rfl hS22 ?_
                      refine PL.takeP rfl (Pure.move rfl) rfl hS22 ?_
                      refine PL.takeP rfl (Pure.add rfl rfl (i64 (by omega) (by omega))) rfl hS22 ?_
                      refine PL.takeP rfl (Pure.add rfl rfl (i64 (by omega) (by omega))) rfl hS22 ?_
                      refine PL.takeP rfl (Pure.sliceStr (l := s) (p := (lnN s) + 26) (q := (lnN s) + 42) Tryd.underlying9 rfl rfl rfl (by omega) (by omega) (by omega) (by omega)) rfl hS22 ?_
                      refine PL.cast (.string (str ((s.drop (26 + lnN s)).take 16))) 76 rfl (congrArg (fun z => Value.string (str z)) (by rw [List.drop_take, show lnN s + 42 - (lnN s + 26) = 16 by omega, show lnN s + 26 = 26 + lnN s by omega])) ?_
                      refine PL.takeP rfl (Pure.move rfl) rfl hS22 ?_
                      refine PL.takeP rfl (Pure.fieldAddr (r := 3) Tryd.runUnderlying34 rfl Tryd.sizeOf9 rfl rfl) rfl hS22 ?_
                      refine PL.takeS (fun w_ => Chg [] w21.drew w_) (fun _ h_ => hS22.then_ h_) rfl (fun w_ h_ => Run.load (i := 3) rfl Tryd.isAgg9 (hf.chg0 h_) (by omega) rfl) rfl (Chg.refl _ _) ?_
                      have hP23 : Chg [] w21.drew w21.drew := Chg.refl _ _
                      refine PL.call rfl rfl Tryd.call22 rfl (rsecond_any (s.take 18) (pay s) (by simp; omega) (by omega) _) ?_
                      rintro _ w24 ⟨rfl, hc24⟩
                      have hc24s := hP23.then_ hc24
                      replace hr := hr.chg0 hc24
                      replace hf := hf.chg0 hc24
                      replace hC := hC.then_ hc24
                      refine ⟨_, rfl, hc24s, ?_⟩
                      refine PL.takeP rfl (Pure.strNeq (l := ((s.drop (26 + lnN s)).take 16)) (m := (second (s.take 18) (pay s))) rfl rfl) rfl hc24s ?_
                      refine PL.nil ?_
                      refine TE.ite rfl (fun h8 => ?_) (fun h8 => ?_)
                      ·
                        refine TE.seq ?_
                        refine TE.region ?_
                        refine OL.pure (Pure.build (cs := Fr.zero.cells) rfl (by kernel_rfl)) rfl ?_
                        refine OL.storeRow (vs := Fr.zero.cells) rfl rfl (rfl) (by simp [Fr.cells, Value.oneCell']) hr (Nat.le_refl 4) ?_
                        intro w25 hb25 hc25
                        replace hf := hf.chg hc25 (by simp; omega)
                        replace hC := hC.trans1 hc25 (by first | exact .inr (by omega) | exact .inl (by simp))
                        replace hr := hb25
                        replace hr := hr.all rfl
                        obtain ⟨e1, e2, e3⟩ := eq3 hd (dec8 h2 h3 h4 h5 h6 h7 h8)
                        subst e1
                        subst e2
                        subst e3
                        refine OL.pure (Pure.assign rfl) rfl ?_
                        refine OL.pure (Pure.assign rfl) rfl ?_
                        refine OL.nil ?_
                        exact TE.ret (vs := [.agg (Fr.zero.cells).toArray, .int .i64 ((0 : Nat) : Int), .int .i64 27]) Tryd.results14 (⟨⟨_, rfl, loadRow_at Tryd.underlying34 rfl rfl hr rfl⟩, rfl, rfl, trivial⟩) ⟨rfl, hC⟩
                      ·
                        refine TE.skip ?_
                        refine TE.seq ?_
                        refine TE.region ?_
                        refine OL.val (Run.loadAll rfl Tryd.underlying34 rfl hf (rfl)) rfl ?_
                        refine OL.pure (Pure.move rfl) rfl ?_
                        refine OL.pure (Pure.add rfl rfl (i64 (by omega) (by omega))) rfl ?_
                        refine OL.pure (Pure.add rfl rfl (i64 (by omega) (by omega))) rfl ?_
                        refine OL.storeRow (vs := (Fr.cells ⟨((s.getD 1 0).toNat : Int), (stN s : Int), (nbN s : Int), pay s⟩)) rfl rfl (rfl) (by simp [Fr.cells, Value.oneCell']) hr (Nat.le_refl 4) ?_
                        intro w26 hb26 hc26
                        replace hf := hf.chg hc26 (by simp; omega)
                        replace hC := hC.trans1 hc26 (by first | exact .inr (by omega) | exact .inl (by simp))
                        replace hr := hb26
                        replace hr := hr.all rfl
                        refine OL.pure (Pure.assign rfl) rfl ?_
                        refine OL.pure (Pure.assign rfl) rfl ?_
                        refine OL.nil ?_
                        obtain ⟨e1, e2, e3⟩ := eq3 hd (dec9 h2 h3 h4 h5 h6 h7 h8)
                        subst e1
                        subst e2
                        subst e3
                        exact TE.ret (vs := [.agg (Fr.cells ⟨((s.getD 1 0).toNat : Int), (stN s : Int), (nbN s : Int), pay s⟩).toArray, .int .i64 ((42 + lnN s : Nat) : Int), .int .i64 0]) Tryd.results14 (⟨⟨_, rfl, loadRow_at Tryd.underlying34 rfl rfl hr rfl⟩, congrArg (fun z => some (Value.int .i64 z)) (by omega), rfl, trivial⟩) ⟨rfl, hC⟩

end Go.Proofs.YtigjmemoaapmgaaDoor
