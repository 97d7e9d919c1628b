/- The law of Parse, walked -/
import Derived.Test.YteghfhakdpcbaaaDoorProg
import Derived.Test.YteghfhakdpcbaaaDoorEng4
import Derived.Test.YteghfhakdpcbaaaDoorShaSpec5
import Derived.Test.YteghfhakdpcbaaaDoorSha13
set_option linter.unusedVariables false
set_option maxRecDepth 4000
namespace Go.Proofs.YteghfhakdpcbaaaDoor
open Go.V Go.Sha
theorem parses_law_any {tK : TypeId} (l : List UInt8) (w : World) (hK : Blk w 0 tK (iv .u32 K)) : Calls Tryd.prog 10 #[.string (str l)] w (RetC (.bool true) w) := by
  refine calls_of_TE (vs := [.string (str l)]) Tryd.func10 Tryd.ntmps10 rfl (by simp) ?_
  have hC : Chg [] w w := Chg.refl _ _
  have hsh := short_any l 200 w
  have hml : (l.take 200).length ≤ 200 := by simp; omega
  generalize l.take 200 = m at hsh hml
  obtain ⟨d, a, e, hp⟩ : ∃ d a e, parse m = (d, a, e) := ⟨_, _, _, rfl⟩
  have hd : Dig d := by have := parse_dig m; rw [hp] at this; exact this
  have hdl := hd.1
  have hal : a ≤ m.length := by have := parse_at m; rw [hp] at this; exact this
  refine TE.seq ?_
  refine TE.region ?_
  refine OL.pure (Pure.assign rfl) rfl ?_
  refine OL.nil ?_
  refine TE.seq ?_
  refine TE.region ?_
  refine OL.pure (Pure.move rfl) rfl ?_
  refine OL.call rfl Tryd.call13 rfl (hsh) ?_
  rintro _ _ ⟨rfl, rfl⟩
  refine ⟨_, rfl, ?_⟩
  refine OL.pure (Pure.assign rfl) rfl ?_
  refine OL.nil ?_
  refine TE.seq ?_
  refine TE.region ?_
  refine OL.pure (Pure.move rfl) rfl ?_
  refine OL.call rfl Tryd.call32 rfl (parse_any m (by omega) d a e hp _) ?_
  rintro _ w1 ⟨rfl, hc1⟩
  replace hK := hK.chg0 hc1
  replace hC := hC.then_ hc1
  refine ⟨_, rfl, ?_⟩
  refine OL.pure (Pure.move rfl) rfl ?_
  refine OL.pure (Pure.extract (vs := [.agg (iv .u8 d).toArray, .int .i64 (a : Int), .int .i64 e]) (i := 0) rfl rfl) rfl ?_
  refine OL.pure (Pure.extract (vs := [.agg (iv .u8 d).toArray, .int .i64 (a : Int), .int .i64 e]) (i := 1) rfl rfl) rfl ?_
  refine OL.pure (Pure.extract (vs := [.agg (iv .u8 d).toArray, .int .i64 (a : Int), .int .i64 e]) (i := 2) rfl rfl) rfl ?_
  refine OL.alloc Tryd.zeroValue25 rfl ?_
  intro g1 w2 h1 hc2 hg_g1
  have lt_0_g1 : 0 < g1 := by have := hK.lt; omega
  have ge_g1 : w.heap.size ≤ g1 := by have := hC.size; omega
  replace hK := hK.chg0 hc2
  replace hC := hC.then_ hc2
  have h1 : Blk w2 g1 25 (iv .u8 (List.replicate 32 0)) := h1
  refine OL.storeRow (vs := iv .u8 d) rfl rfl (by rw [iv_len, hdl]; rfl) (by simp only [iv, List.mem_map]; rintro _ ⟨x, _, rfl⟩; rfl) h1 (by rw [iv_len, hdl]; exact Nat.le_refl 32) ?_
  intro w3 hb3 hc3
  replace hK := hK.chg hc3 (by simp; omega)
  replace hC := hC.trans1 hc3 (by first | exact .inr (by omega) | exact .inl (by simp))
  replace h1 := hb3
  replace h1 := h1.all (by rw [iv_len, iv_len, hdl]; rfl)
  refine OL.pure (Pure.assign rfl) rfl ?_
  refine OL.pure (Pure.assign rfl) rfl ?_
  refine OL.nil ?_
  refine TE.seq ?_
  refine TE.region ?_
  refine OL.pure (Pure.move rfl) rfl ?_
  refine OL.call rfl Tryd.call33 rfl (rparse_any m (by omega) d a e hp _) ?_
  rintro _ w4 ⟨rfl, hc4⟩
  replace hK := hK.chg0 hc4
  replace h1 := h1.chg0 hc4
  replace hC := hC.then_ hc4
  refine ⟨_, rfl, ?_⟩
  refine OL.pure (Pure.move rfl) rfl ?_
  refine OL.pure (Pure.extract (vs := [.agg (iv .u8 d).toArray, .int .i64 (a : Int), .int .i64 e]) (i := 0) rfl rfl) rfl ?_
  refine OL.pure (Pure.extract (vs := [.agg (iv .u8 d).toArray, .int .i64 (a : Int), .int .i64 e]) (i := 1) rfl rfl) rfl ?_
  refine OL.pure (Pure.extract (vs := [.agg (iv .u8 d).toArray, .int .i64 (a : Int), .int .i64 e]) (i := 2) rfl rfl) rfl ?_
  refine OL.alloc Tryd.zeroValue24 rfl ?_
  intro g2 w5 h2 hc5 hg_g2
  have lt_0_g2 : 0 < g2 := by have := hK.lt; omega
  have lt_g1_g2 : g1 < g2 := by have := h1.lt; omega
  have ge_g2 : w.heap.size ≤ g2 := by have := hC.size; omega
  replace hK := hK.chg0 hc5
  replace h1 := h1.chg0 hc5
  replace hC := hC.then_ hc5
  have h2 : Blk w5 g2 24 (iv .u8 (List.replicate 32 0)) := h2
  refine OL.storeRow (vs := iv .u8 d) rfl rfl (by rw [iv_len, hdl]; rfl) (by simp only [iv, List.mem_map]; rintro _ ⟨x, _, rfl⟩; rfl) h2 (by rw [iv_len, hdl]; exact Nat.le_refl 32) ?_
  intro w6 hb6 hc6
  replace hK := hK.chg hc6 (by simp; omega)
  replace h1 := h1.chg hc6 (by simpa using h1.ne h2 (by decide))
  replace hC := hC.trans1 hc6 (by first | exact .inr (by omega) | exact .inl (by simp))
  replace h2 := hb6
  replace h2 := h2.all (by rw [iv_len, iv_len, hdl]; rfl)
  refine OL.pure (Pure.assign rfl) rfl ?_
  refine OL.pure (Pure.assign rfl) rfl ?_
  refine OL.nil ?_
  refine TE.seq ?_
  refine TE.region ?_
  refine OL.call rfl Tryd.call14 rfl (known_any _ hK) ?_
  rintro _ w7 ⟨rfl, hc7⟩
  replace hK := hK.chg0 hc7
  replace h1 := h1.chg0 hc7
  replace h2 := h2.chg0 hc7
  replace hC := hC.then_ hc7
  refine ⟨_, rfl, ?_⟩
  refine OL.pure (Pure.move rfl) rfl ?_
  refine OL.want rfl rfl rfl (Run.loadAll rfl Tryd.underlying25 rfl h1 (by rw [iv_len, hdl]; rfl)) rfl ?_
  refine OL.want rfl rfl rfl (Run.loadAll rfl Tryd.underlying24 rfl h2 (by rw [iv_len, hdl]; rfl)) rfl ?_
  refine OL.want rfl rfl rfl (Pure.eqlArr (xs := d) (ys := d) Tryd.underlying24 Tryd.underlying5 info5 (by kernel_rfl) Tryd.eqGuardType24 rfl rfl (hdl) (hdl) _) rfl ?_
  refine OL.cast (.bool true) 27 rfl (congrArg Value.bool (decide_eq_true rfl)) ?_
  refine OL.pure (Pure.pickT rfl rfl) rfl ?_
  refine OL.pure (Pure.move rfl) rfl ?_
  refine OL.want rfl rfl rfl (Pure.move rfl _) rfl ?_
  refine OL.want rfl rfl rfl (Pure.move rfl _) rfl ?_
  refine OL.want rfl rfl rfl (Pure.eql rfl rfl _) rfl ?_
  refine OL.cast (.bool true) 32 rfl (congrArg Value.bool (decide_eq_true rfl)) ?_
  refine OL.pure (Pure.pickT rfl rfl) rfl ?_
  refine OL.pure (Pure.move rfl) rfl ?_
  refine OL.want rfl rfl rfl (Pure.move rfl _) rfl ?_
  refine OL.want rfl rfl rfl (Pure.move rfl _) rfl ?_
  refine OL.want rfl rfl rfl (Pure.eql rfl rfl _) rfl ?_
  refine OL.cast (.bool true) 37 rfl (congrArg Value.bool (decide_eq_true rfl)) ?_
  refine OL.pure (Pure.pickT rfl rfl) rfl ?_
  refine OL.pure (Pure.move rfl) rfl ?_
  refine OL.want rfl rfl rfl (Pure.move rfl _) rfl ?_
  refine OL.want rfl rfl rfl (Pure.neq rfl rfl _) rfl ?_
  by_cases he : e = 0
  ·
    refine OL.cast (.bool false) 41 rfl (congrArg Value.bool (decide_eq_false (fun h => h he))) ?_
    refine OL.want rfl rfl rfl (Pure.move rfl _) rfl ?_
    refine OL.want rfl rfl rfl (Run.loadAll rfl Tryd.underlying25 rfl h1 (by rw [iv_len, hdl]; rfl)) rfl ?_
    refine OL.callG rfl rfl rfl rfl Tryd.call18 rfl (string_any d hd _) ?_
    rintro _ w8 ⟨rfl, hc8⟩
    replace hK := hK.chg0 hc8
    replace h1 := h1.chg0 hc8
    replace h2 := h2.chg0 hc8
    replace hC := hC.then_ hc8
    refine ⟨_, rfl, ?_⟩
    have hz := parse_zero (l := m) (by rw [hp]; exact he)
    have hdm : hexOf d = m := by
      have := parse_ok hz.1 hz.2
      rw [hp] at this
      rw [(Prod.mk.inj this).1]
      exact hexOf_pd hz.1 hz.2
    refine OL.want rfl rfl rfl (Pure.move rfl _) rfl ?_
    refine OL.want rfl rfl rfl (Pure.strEql (l := (hexOf d)) (m := m) rfl rfl _) rfl ?_
    refine OL.cast (.bool true) 46 rfl (congrArg Value.bool (decide_eq_true hdm)) ?_
    refine OL.want rfl rfl rfl (Pure.pickF rfl rfl _) rfl ?_
    refine OL.pure (Pure.pickT rfl rfl) rfl ?_
    refine OL.pure (Pure.assign rfl) rfl ?_
    refine OL.nil ?_
    exact TE.ret (vs := [.bool true]) Tryd.results10 (⟨rfl, trivial⟩) ⟨rfl, hC⟩
  ·
    refine OL.cast (.bool true) 41 rfl (congrArg Value.bool (decide_eq_true he)) ?_
    refine OL.want rfl rfl rfl (Pure.move rfl _) rfl ?_
    refine OL.pass rfl rfl rfl rfl rfl ?_
    refine OL.pass rfl rfl rfl rfl rfl ?_
    refine OL.pass rfl rfl rfl rfl rfl ?_
    refine OL.pass rfl rfl rfl rfl rfl ?_
    refine OL.want rfl rfl rfl (Pure.pickT rfl rfl _) rfl ?_
    refine OL.pure (Pure.pickT rfl rfl) rfl ?_
    refine OL.pure (Pure.assign rfl) rfl ?_
    refine OL.nil ?_
    exact TE.ret (vs := [.bool true]) Tryd.results10 (⟨rfl, trivial⟩) ⟨rfl, hC⟩

end Go.Proofs.YteghfhakdpcbaaaDoor
