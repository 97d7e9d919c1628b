/- The engine, continued: writes within a plan. -/
import Derived.Test.YtigjmemoaapmgaaDoorEng2
set_option linter.unusedVariables false
namespace Go.V
open Go.Instr
section
variable {P : Program} {Q R : Exit → Act → World → Prop} {n : Nat} {ds : List Deferred} {k : List Item} {ρ : Env} {w w' : World} {ops : Array Oper} {S : World → Prop} {π : Plan} {l : List Oper}
variable {i d : Nat} {op : Op} {ty : TypeId} {pos : String} {af : Array Edge} {v : Value}
theorem PL.storeRow {x y : Operand} {g o : Nat} {t e : TypeId} {cs vs : List Value} (ho : ops[i]? = some ⟨none, .store t x y, ty, pos, af, none⟩) (hx : ev ρ x = some (.pointer (some ⟨g, o, none⟩))) (hy : ev ρ y = some (.agg vs.toArray)) (hn : (P.info? t).map (·.size) = some vs.length) (h1 : ∀ v ∈ vs, v.oneCell' = true)
    (hb : Blk w g e cs) (hl : o + vs.length ≤ cs.length) (hS : ∀ w', Chg [g] w w' → S w') (h : ∀ w', Blk w' g e (lay cs o vs) → Chg [g] w w' → PL P n ds ops R S π ρ w') (hi1000 : i < 1000 := by decide) : PL P n ds ops R S (.cons (i, false) π) ρ w := by
  obtain ⟨w', h2, h3, h4⟩ := RunS.storeRow (ty := ty) (pos := pos) (af := af) hx hy hn h1 hb hl
  exact PL.eff ho h2 (hS _ h4) (h w' h3 h4) hi1000
/-- Two new variables, made in either order. -/
theorem PL.alloc2 {j c d2 : Nat} {t1 t2 : TypeId} {z1 z2 : Value} {ty2 : TypeId} {pos2 : String} {af2 : Array Edge} (hc2 : ¬ c < 1000) (hi : c / 1000 - 1 = i) (hj : c % 1000 = j)
    (ho : ops[i]? = some ⟨some d, .alloc t1, ty, pos, af, none⟩) (ho2 : ops[j]? = some ⟨some d2, .alloc t2, ty2, pos2, af2, none⟩) (hz1 : ∀ w, (zeroValue t1).run P w = .ok z1 w) (hz2 : ∀ w, (zeroValue t2).run P w = .ok z2 w)
    (hd : Nat.blt d n = true) (hd2 : Nat.blt d2 n = true) (hne : d ≠ d2) (hS : ∀ w', Chg [] w w' → S w')
    (h : ∀ g g2 w', Blk w' g t1 z1.cells.toList → Blk w' g2 t2 z2.cells.toList → Chg [] w w' → w.heap.size ≤ g → w.heap.size ≤ g2 → g ≠ g2 → PL P n ds ops R S π ((d2, .pointer (some ⟨g2, 0, none⟩)) :: (d, .pointer (some ⟨g, 0, none⟩)) :: ρ) w') :
    PL P n ds ops R S (.cons (c, false) π) ρ w := fun a ha => by
  simp only [wpPlan, hc2, if_false, hi, hj]
  have one : ∀ {x : Nat} {o : Oper} {dx : Nat} {v : Value} {a : Act} {w w' : World} {K : Act → World → Prop}, ops[x]? = some o → o.guard = none → o.dst = some dx → (execOp a.eval o).run P w = .ok (.value v) w' → K (a.put (some dx) v) w' → wpOp P ops R x K a w := by
    intro x o dx v a w w' K h1 h2 h3 h4 h5
    obtain ⟨dst, op, ty, pos, af, gd⟩ := o
    simp only at h2 h3
    subst h2 h3
    unfold wpOp
    simp only [h1]
    refine .inl ?_
    unfold Oper.wp
    rw [h4]
    exact h5
  have r1 : ∀ (a : Act) (w : World) (ρ : Env), Fits a ρ → (execOp a.eval ⟨some d, .alloc t1, ty, pos, af, none⟩).run P w = .ok (.value (.pointer (some ⟨w.heap.size, 0, none⟩))) (w.alloc (.cells z1.cells t1)) := fun a w ρ hf => Run.alloc (ρ := ρ) hz1 a hf
  have r2 : ∀ (a : Act) (w : World) (ρ : Env), Fits a ρ → (execOp a.eval ⟨some d2, .alloc t2, ty2, pos2, af2, none⟩).run P w = .ok (.value (.pointer (some ⟨w.heap.size, 0, none⟩))) (w.alloc (.cells z2.cells t2)) := fun a w ρ hf => Run.alloc (ρ := ρ) hz2 a hf
  have fresh : ∀ (w : World) (t : TypeId) (z : Value), Blk (w.alloc (.cells z.cells t)) w.heap.size t z.cells.toList := fun w t z => by simpa using blk_alloc w t z.cells.toList
  have hsz : ∀ (w : World) (o : Obj), (w.alloc o).heap.size = w.heap.size + 1 := fun w o => by simp
  refine ⟨one ho rfl rfl (r1 a w ρ ha.fits) ⟨hS _ (chg_alloc _ _), one ho2 rfl rfl (r2 _ _ _ (ha.put _ hd).fits) ⟨hS _ ((chg_alloc _ _).then_ (chg_alloc _ _)), ?_⟩⟩, one ho2 rfl rfl (r2 a w ρ ha.fits) ⟨hS _ (chg_alloc _ _), one ho rfl rfl (r1 _ _ _ (ha.put _ hd2).fits) ⟨hS _ ((chg_alloc _ _).then_ (chg_alloc _ _)), ?_⟩⟩⟩
  · exact h _ _ _ ((fresh w t1 z1).chg0 (chg_alloc _ _)) (fresh _ t2 z2) ((chg_alloc _ _).then_ (chg_alloc _ _)) (Nat.le_refl _) (by rw [hsz]; omega) (by rw [hsz]; omega) _ ((ha.put _ hd).put _ hd2)
  · have hs : Sat n ds ((a.put (some d2) (.pointer (some ⟨w.heap.size, 0, none⟩))).put (some d) (.pointer (some ⟨(w.alloc (.cells z2.cells t2)).heap.size, 0, none⟩)))
        ((d2, .pointer (some ⟨w.heap.size, 0, none⟩)) :: (d, .pointer (some ⟨(w.alloc (.cells z2.cells t2)).heap.size, 0, none⟩)) :: ρ) :=
      ((ha.put _ hd2).put _ hd).sub (fun t v hv => by
        rw [look_cons, look_cons] at hv ⊢
        by_cases h1 : d = t
        · subst h1
          rw [if_neg (Ne.symm hne), if_pos rfl] at hv
          rw [if_pos rfl]; exact hv
        · by_cases h2 : d2 = t
          · rw [if_pos h2] at hv; rw [if_neg h1, if_pos h2]; exact hv
          · rw [if_neg h2, if_neg h1] at hv; rw [if_neg h1, if_neg h2]; exact hv)
    exact h _ _ _ (fresh _ t1 z1) ((fresh w t2 z2).chg0 (chg_alloc _ _)) ((chg_alloc _ _).then_ (chg_alloc _ _)) (by rw [hsz]; omega) (Nat.le_refl _) (by rw [hsz]; omega) _ hs
theorem PL.store1 {x y : Operand} {g o j : Nat} {t e : TypeId} {cs : List Value} {u : Value} (ho : ops[i]? = some ⟨none, .store t x y, ty, pos, af, none⟩) (hx : ev ρ x = some (.pointer (some ⟨g, o, none⟩))) (hy : ev ρ y = some v) (hz : ∀ w, (sizeOf t).run P w = .ok 1 w) (h1 : v.oneCell' = true)
    (hb : Blk w g e cs) (hi : o = j) (hc : cs[j]? = some u) (hS : ∀ w', Chg [g] w w' → S w') (h : ∀ w', Blk w' g e (cs.set j v) → Chg [g] w w' → PL P n ds ops R S π ρ w') (hi1000 : i < 1000 := by decide) : PL P n ds ops R S (.cons (i, false) π) ρ w :=
  PL.eff ho (RunS.store hx hy hz h1 hb hi hc) (hS _ (chg_setRow _ _ _)) (h _ (blk_setRow hb (by simp)) (chg_setRow _ _ _)) hi1000
end
section
variable {P : Program} {ρ : Env} {dst : Option Tmp} {ty : TypeId} {pos : String} {af : Array Edge} {gd : Option (Nat × Bool)}
theorem Pure.eqlBool {x y : Operand} {p q : Bool} {t t' : TypeId} (hx : ev ρ x = some (.bool p)) (hy : ev ρ y = some (.bool q)) (ht : P.underlying t = some .bool := by rfl) :
    Pure P ρ ⟨dst, .binOp .eql t x y t', ty, pos, af, gd⟩ (.bool (p == q)) := fun w a hf => by
  have h1 : (eqGuard .eql t x y (.bool p) (.bool q)).run P w = .ok () w := by simp [eqGuard]
  have h2 : (binOp .eql t (.bool p) (.bool q)).run P w = .ok (.bool (p == q)) w := by
    show (do pure (Value.bool (← Op.equal t (.bool p) (.bool q))) : Sem Value).run P w = _
    rw [Sem.run_bind, show Op.equal t (.bool p) (.bool q) = Op.equalIn (9999 + 1) t (.bool p) (.bool q) from rfl, run_equalIn_bool' w _ _ _ _ ht]
    simp
  simp only [execOp, hf.eval hx, hf.eval hy]
  simp [h1, h2]
end
end Go.V
