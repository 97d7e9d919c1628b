/- Regions that draw their order, with a tail that is stepped through one by one (for the calls of yield). Conditions: none of its own. -/
import Derived.Test.YtcologcjhenmkaaDoorEngA
import Derived.RangeFuncRecord
import Derived.Defers
import Derived.Laws.IdiomCopy
set_option linter.unusedVariables false
namespace Go.V
open Go

def left (listed : Array Bool) : Nat → Nat
  | 0 => 0
  | m + 1 => left listed m + if listed.getD m true = true then 0 else 1
theorem left_zero {listed : Array Bool} : ∀ {m : Nat}, left listed m = 0 → ∀ i, i < m → listed.getD i true = true
  | m + 1, h, i, hi => by
    simp only [left] at h
    by_cases e : listed.getD m true = true
    · rcases Nat.lt_or_ge i m with h' | h'
      · exact left_zero (by omega) i h'
      · have : i = m := by omega
        subst this; exact e
    · simp [e] at h
theorem left_pos {listed : Array Bool} : ∀ {m f : Nat}, left listed m = f + 1 → ∃ i, i < m ∧ listed.getD i true = false
  | 0, f, h => by simp [left] at h
  | m + 1, f, h => by
    simp only [left] at h
    by_cases e : listed.getD m true = true
    · simp only [e, if_true, Nat.add_zero] at h
      obtain ⟨i, h1, h2⟩ := left_pos h
      exact ⟨i, by omega, h2⟩
    · exact ⟨m, by omega, by simpa using e⟩
theorem left_set {listed : Array Bool} {i : Nat} (hi : i < listed.size) : ∀ {m : Nat}, m ≤ i → left (listed.setIfInBounds i true) m = left listed m
  | 0, _ => rfl
  | m + 1, h => by
    simp only [left]
    rw [left_set hi (by omega)]
    have : (listed.setIfInBounds i true).getD m true = listed.getD m true := by
      simp only [Array.getD_eq_getD_getElem?, Array.getElem?_setIfInBounds_ne (show i ≠ m by omega)]
    rw [this]
theorem left_step {listed : Array Bool} {i : Nat} (hi : i < listed.size) (hl : listed.getD i true = false) : ∀ {m : Nat}, i < m → left (listed.setIfInBounds i true) m + 1 = left listed m
  | m + 1, h => by
    simp only [left]
    by_cases e : i = m
    · subst e
      rw [left_set hi (Nat.le_refl _)]
      have : (listed.setIfInBounds i true).getD i true = true := by simp [hi]
      rw [this, hl]
      simp
    · have h2 := left_step hi hl (m := m) (by omega)
      have : (listed.setIfInBounds i true).getD m true = listed.getD m true := by
        simp only [Array.getD_eq_getD_getElem?, Array.getElem?_setIfInBounds_ne e]
      rw [this]
      omega
theorem left_all (n : Nat) : ∀ {m : Nat}, m ≤ n → left (Array.replicate n false) m = m
  | 0, _ => rfl
  | m + 1, h => by
    simp only [left]
    rw [left_all n (by omega)]
    have h1 : m < n := by omega
    simp [h1]

theorem go_cons (ops : Array Oper) (f t : Nat) (listed : Array Bool) {i : Nat} (h : (Region.ready .any ops listed)[t % (Region.ready .any ops listed).length]? = some i) :
    Region.linearise.go .any ops (f + 1) t listed [] = i :: Region.linearise.go .any ops f (t / (Region.ready .any ops listed).length) (listed.setIfInBounds i true) [] := by
  simp only [Region.linearise.go]
  change (match (Region.ready .any ops listed)[t % (Region.ready .any ops listed).length]? with
      | some i => Region.linearise.go .any ops f (t / (Region.ready .any ops listed).length) (listed.setIfInBounds i true) [i]
      | none => [].reverse) = _
  rw [h]
  simp only []
  rw [linearise_go_acc]
  rfl

theorem go_seq (ops : Array Oper) : ∀ (g k t : Nat) (listed : Array Bool), Region.seqB .any ops g k listed = true → Region.linearise.go .any ops g t listed [] = List.range' k g
  | 0, k, t, listed, h => by simp [Region.linearise.go]
  | g + 1, k, t, listed, h => by
    simp only [Region.seqB, Bool.and_eq_true, decide_eq_true_eq] at h
    rw [go_cons (i := k) ops g t listed (by rw [h.1]; simp [Nat.mod_one]), go_seq ops g (k + 1) _ _ h.2]
    rfl

section
variable {ops hd : Array Oper} {n g : Nat} {LN : Array Bool} {post : List Nat}
theorem ready_head (hh : ∀ j, j < n → hd[j]? = ops[j]?) (hhs : hd.size = n) (hb : backB ops n = true) (hsk : Region.sinkB .any ops n = true) (hc : Region.chainB .any ops n = true) (hn : n < ops.size)
    {listed listedH : Array Bool} (inv : HeadInv .any ops n listed) (hs : listedH.size = n) (hag : ∀ j, j < n → listedH[j]? = listed[j]?) {i0 : Nat} (hi0 : i0 < n) (hl0 : listed.getD i0 true = false) :
    Region.ready .any ops listed = Region.ready .any hd listedH := by
  have e1 : ∀ (l : List Nat), (∀ i ∈ l, i < n) → (l.filter fun i => !listed.getD i true && ((ops[i]?).map (·.after.all fun e => !Region.binds .any e || listed.getD e.on false)).getD false) =
      l.filter fun i => !listedH.getD i true && ((hd[i]?).map (·.after.all fun e => !Region.binds .any e || listedH.getD e.on false)).getD false := by
    intro l hl
    refine List.filter_congr fun i hi => ?_
    have hin := hl i hi
    obtain ⟨o, ho, hbk, _⟩ := backB_spec hb hin
    rw [hh i hin, ho]
    simp only [Array.getD_eq_getD_getElem?, hag i hin, Option.map_some, Option.getD_some]
    congr 1
    rw [← Array.all_toList, ← Array.all_toList]
    have hbk' : ∀ e ∈ o.after.toList, Region.binds .any e = true → e.on < i := fun e he => hbk e (Array.mem_toList_iff.1 he)
    generalize o.after.toList = L at hbk'
    induction L with
    | nil => rfl
    | cons e L ihL =>
      simp only [List.all_cons]
      rw [ihL (fun e' he' => hbk' e' (List.mem_cons_of_mem _ he'))]
      cases hbe : Region.binds .any e with
      | false => rfl
      | true => rw [hag e.on (by have := hbk' e (by simp) hbe; omega)]
  have e2 : Region.ready .any ops listed = (List.range ops.size).filter fun i => !listed.getD i true && ((ops[i]?).map (·.after.all fun e => !Region.binds .any e || listed.getD e.on false)).getD false := rfl
  have e3 : Region.ready .any hd listedH = (List.range hd.size).filter fun i => !listedH.getD i true && ((hd[i]?).map (·.after.all fun e => !Region.binds .any e || listedH.getD e.on false)).getD false := rfl
  have e4 : List.range ops.size = List.range n ++ List.range' n (ops.size - n) := by
    rw [List.range_eq_range', List.range_eq_range', show List.range' n (ops.size - n) = List.range' (0 + n) (ops.size - n) by rw [Nat.zero_add], List.range'_append_1]
    congr 1; omega
  have e5 : ((List.range' n (ops.size - n)).filter fun i => !listed.getD i true && ((ops[i]?).map (·.after.all fun e => !Region.binds .any e || listed.getD e.on false)).getD false) = [] := by
    refine List.filter_eq_nil_iff.2 fun t ht hp => ?_
    have h1 := List.mem_range'_1.1 ht
    exact tail_waits hsk hc hn inv _ i0 rfl hi0 hl0 t h1.1 (by rw [e2]; exact List.mem_filter.2 ⟨List.mem_range.2 (by omega), hp⟩)
  rw [e3, hhs, ← e1 (List.range n) (fun i hi => List.mem_range.1 hi), e2, e4, List.filter_append, e5, List.append_nil]

theorem go_head (hh : ∀ j, j < n → hd[j]? = ops[j]?) (hhs : hd.size = n) (hb : backB ops n = true) (hsk : Region.sinkB .any ops n = true) (hc : Region.chainB .any ops n = true) (hn : n < ops.size)
    (hLN : ∀ listed : Array Bool, listed.size = ops.size → (∀ j, j < n → listed.getD j true = true) → (∀ j, n ≤ j → j < ops.size → listed.getD j true = false) → listed = LN)
    (hpost : ∀ t, Region.linearise.go .any ops g t LN [] = post) :
    ∀ (f t : Nat) (listed listedH : Array Bool), HeadInv .any ops n listed → listedH.size = n → (∀ j, j < n → listedH[j]? = listed[j]?) → left listed n = f →
      Region.linearise.go .any ops (f + g) t listed [] = Region.linearise.go .any hd f t listedH [] ++ post ∧ ∀ i ∈ Region.linearise.go .any hd f t listedH [], i < n := by
  intro f
  induction f with
  | zero =>
    intro t listed listedH inv hs hag hl
    have := hLN listed inv.size (left_zero hl) inv.tail
    subst this
    refine ⟨by rw [Nat.zero_add, hpost]; simp [Region.linearise.go], fun i hi => by simp [Region.linearise.go] at hi⟩
  | succ f ih =>
    intro t listed listedH inv hs hag hl
    obtain ⟨i0, hi0, hl0⟩ := left_pos hl
    have hr := ready_head hh hhs hb hsk hc hn inv hs hag hi0 hl0
    obtain ⟨j, hj, hjr⟩ := ready_of_left hb (by rw [inv.size]; omega) i0 hi0 hl0
    have hne : 0 < (Region.ready .any ops listed).length := List.length_pos_of_mem hjr
    have hlt : t % (Region.ready .any ops listed).length < (Region.ready .any ops listed).length := Nat.mod_lt _ hne
    have hi : (Region.ready .any ops listed)[t % (Region.ready .any ops listed).length]? = some (Region.ready .any ops listed)[t % (Region.ready .any ops listed).length] := List.getElem?_eq_getElem hlt
    generalize (Region.ready .any ops listed)[t % (Region.ready .any ops listed).length] = i at hi
    have him : i ∈ Region.ready .any ops listed := List.mem_of_getElem? hi
    have hin : i < n := by
      rcases Nat.lt_or_ge i n with h' | h'
      · exact h'
      · exact absurd him (tail_waits hsk hc hn inv _ i0 rfl hi0 hl0 i h')
    have hil : i < listed.size := by rw [inv.size]; omega
    have hun := (mem_ready.1 him).1
    rw [show f + 1 + g = (f + g) + 1 by omega, go_cons ops (f + g) t listed hi, go_cons hd f t listedH (i := i) (by rw [← hr]; exact hi), ← hr]
    have h2 := ih (t / (Region.ready .any ops listed).length) _ (listedH.setIfInBounds i true) (inv.set him hin) (by simpa using hs) (fun j hj => by
      by_cases e : i = j
      · subst e; simp [hs, hin, hil]
      · simp only [Array.getElem?_setIfInBounds_ne e]; exact hag j hj) (by have := left_step hil hun hin; omega)
    refine ⟨by rw [h2.1]; rfl, fun x hx => ?_⟩
    rcases List.mem_cons.1 hx with rfl | hx
    · exact hin
    · exact h2.2 x hx
end

/-- The head's run leads to the tail. -/
theorem T.opsTo {F : Frame → Prop} {P : Program} {Q : Exit → Act → World → Prop} {k : List Item} {ops hd : Array Oper} {n : Nat} {post : List Nat} (hh : ∀ j, j < n → hd[j]? = ops[j]?) (hb : backB ops n = true) (hd' : Calm F ops) :
    ∀ (l : List Nat) (a : Act) (w : World), (∀ i ∈ l, i < n) → wpOps P hd (NQ F P Q (.inRegion ops post :: k)) l a w → T F P Q (.inRegion ops (l ++ post) :: k) a w := by
  intro l
  induction l with
  | nil => exact fun a w _ h => h
  | cons i rest ih =>
    intro a w hl h b cs hF
    have hin := hl i (by simp)
    obtain ⟨o, ho, _, hg'⟩ := backB_spec hb hin
    have hl' : ∀ j ∈ rest, j < n := fun j hj => hl j (List.mem_cons_of_mem _ hj)
    simp only [wpOps, hh i hin, ho] at h
    have hww : Region.wanted o (yielded hd a.tmps) = Region.wanted o (yielded ops a.tmps) := by
      unfold Region.wanted
      cases hgg : o.guard with
      | none => rfl
      | some jb =>
        obtain ⟨j, b⟩ := jb
        simp only [yielded, hh j (hg' j b hgg)]
    rw [hww] at h
    by_cases hw : Region.wanted o (yielded ops a.tmps) = true
    · simp only [hw, if_true] at h
      rcases h with h | ⟨hasks, a₀, w₀, hq⟩
      case inr => exact hq.elim
      simp only [Oper.wp, Oper.upon] at h
      have hg := stepGR_op (P := P) (b := b) (k := k) (cs := cs) (w := w) (rest := rest ++ post) ho hw
      rw [calm_sem hd' hF ho] at hg
      have hfin : ∀ v, (b.atR a (.inRegion ops (i :: (rest ++ post)) :: k)).finish v = b.atR (a.put o.dst v) (.inRegion ops (rest ++ post) :: k) := by
        intro v; rw [Frame.finish_atR, ho]; rfl
      rw [List.cons_append]
      split at h
      · rename_i v w' hr
        obtain ⟨e, a', w'', hq, harr⟩ := ih _ _ hl' h b cs hF
        refine ⟨e, a', w'', hq, .of_steps (.one (step_lone_go ?_)) harr⟩
        rw [hg, ← hfin]; simp [stepG.apply, hr]
      · rename_i w' hr
        obtain ⟨e, a', w'', hq, harr⟩ := ih _ _ hl' h b cs hF
        refine ⟨e, a', w'', hq, .of_steps (.one (step_lone_go ?_)) harr⟩
        rw [hg, ← hfin]; simp [stepG.apply, hr]
      · rename_i d w' hr
        obtain ⟨e, a', w'', hq, harr⟩ := ih _ _ hl' h b cs hF
        refine ⟨e, a', w'', hq, .of_steps (.one (step_lone_go ?_)) harr⟩
        have : ({ b.atR a (.inRegion ops (i :: (rest ++ post)) :: k) with defers := d :: a.defers } : Frame).finish undef =
            b.atR ({ a with defers := d :: a.defers }.put o.dst undef) (.inRegion ops (rest ++ post) :: k) := by
          have := Frame.finish_atR b { a with defers := d :: a.defers } ops i (rest ++ post) k undef
          rw [ho] at this; exact this
        rw [hg]; simp only [stepG.apply, Sem.runT_eq, hr, GStep.bare_after]
        exact congrArg (fun fr => GStep.go { frame := fr, callers := cs, status := .running, dying := none } w') this
      · rename_i f args w' hr
        obtain ⟨e, w'', fr, hR, hsteps, _, hleave⟩ := h (b.atR a (.inRegion ops (i :: (rest ++ post)) :: k) :: cs)
        have henter : Go.step P (lone (b.atR a (.inRegion ops (i :: (rest ++ post)) :: k)) cs w) =
            .next (lone (Frame.enter P f args .normal) (b.atR a (.inRegion ops (i :: (rest ++ post)) :: k) :: cs) w') :=
          step_lone_go (by rw [hg]; simp [stepG.apply, hr, Frame.atR])
        cases e with
        | returned v =>
          obtain ⟨e, a', w₃, hq, harr⟩ := ih _ _ hl' hR b cs hF
          refine ⟨e, a', w₃, hq, .of_steps (.head henter (hsteps.trans (.one ?_))) harr⟩
          rw [← hfin]; exact step_leave_returned hleave
        | panicked chain => exact hR.elim
        | outgrown =>
          obtain ⟨a₀, w₀, hq⟩ := hR
          exact hq.elim
      · rename_i row args w' hr
        obtain ⟨v, w'', hR, hsteps⟩ := h (b.atR a (.inRegion ops (i :: (rest ++ post)) :: k)) cs
        have henter : Go.step P (lone (b.atR a (.inRegion ops (i :: (rest ++ post)) :: k)) cs w) =
            .next (lone (Frame.ofRow P row args .normal) (b.atR a (.inRegion ops (i :: (rest ++ post)) :: k) :: cs) w') :=
          step_lone_go (by rw [hg]; simp [stepG.apply, hr, Frame.atR])
        obtain ⟨e, a', w₃, hq, harr⟩ := ih _ _ hl' hR b cs hF
        refine ⟨e, a', w₃, hq, .of_steps (.head henter ?_) harr⟩
        rw [← hfin]; exact hsteps
      · exact h.elim
      · exact h.elim
    · simp only [hw, if_false, Bool.false_eq_true] at h
      have hs := stepR_op_skip (P := P) (b := b) (a := a) (k := k) (cs := cs) (w := w) (ops := ops) (i := i) (rest := rest ++ post)
        (by simp [ho]; simpa using hw)
      simp only [ho, Option.bind_some] at hs
      obtain ⟨e, a', w', hq, harr⟩ := ih _ _ hl' h b cs hF
      exact ⟨e, a', w', hq, .of_steps (.one hs) harr⟩

theorem T.planTo {F : Frame → Prop} {P : Program} {Q : Exit → Act → World → Prop} {k : List Item} {id n : Nat} {ops : Array Oper} {π : Plan} {S : World → Prop} {a : Act} {w : World} (hm : P.follows .mixedOrders = true) (hB : planOK ops n π = true) (hd : Calm F ops)
    (h : wpPlan P (ops.extract 0 n) (NQ F P Q (.inRegion ops (List.range' n (ops.size - n)) :: k)) S π a w.drew) : T F P Q (.code (.region id ops true) :: k) a w := by
  simp only [planOK, Bool.and_eq_true, decide_eq_true_eq] at hB
  obtain ⟨⟨⟨⟨⟨⟨⟨hsel, hplan⟩, hlen⟩, hn⟩, hback⟩, hsink⟩, hchain⟩, hseq⟩ := hB
  have hsz : (ops.extract 0 n).size = n := by simp; omega
  have hh : ∀ j, j < n → (ops.extract 0 n)[j]? = ops[j]? := fun j hj => by
    rw [Array.getElem?_extract]
    rw [if_pos (by omega)]
    simp
  have H := wpAnyH_of_plan hsel (fun _ _ _ _ _ h => h) π S (Array.replicate n false) a w.drew hplan h
  rw [hlen] at H
  have H2 := wpAny_of_held _ _ _ _ H
  refine fun b cs hF => ?_
  have hgo := go_head (g := ops.size - n) hh hsz hback hsink hchain hn (LN := Array.replicate n true ++ Array.replicate (ops.size - n) false) (fun listed h1 h2 h3 => by
      apply Array.ext
      · simp at h1 hn ⊢; omega
      · intro i hi hi'
        have hsi : i < ops.size := by rw [← h1]; exact hi
        rw [Array.getElem_append]
        by_cases hin : i < n
        · have := h2 i hin
          simp [hi] at this
          simp [hin, this]
        · have := h3 i (by omega) hsi
          simp [hi] at this
          simp [hin, this]) (fun t => go_seq ops _ _ t _ hseq) n (w.tape w.drawn (.order b.fn id)) (Array.replicate ops.size false) (Array.replicate n false)
    ⟨by simp, fun j oj _ hl => (by rw [getD_replicate_false] at hl; cases hl), fun t _ ht => getD_in (by simpa using ht) (getD_replicate_false _ _)⟩ (by simp)
    (fun j hj => by rw [Array.getElem?_replicate, Array.getElem?_replicate, if_pos hj, if_pos (by omega)]) (left_all _ (by omega))
  have hsch : Region.schedule (P.follows .mixedOrders) ops (w.tape w.drawn (.order b.fn id)) = Region.linearise.go .any (ops.extract 0 n) n (w.tape w.drawn (.order b.fn id)) (Array.replicate n false) [] ++ List.range' n (ops.size - n) := by
    simp only [Region.schedule, hm, Bool.true_or, if_true, Region.linearise]
    have := hgo.1
    rwa [show n + (ops.size - n) = ops.size by omega] at this
  have hT := T.opsTo (F := F) (P := P) (Q := Q) (k := k) hh hback hd _ a w.drew hgo.2 (wpAny_sound _ (w.tape w.drawn (.order b.fn id)) _ _ _ H2)
  rw [← hsch] at hT
  obtain ⟨e, a', w', hq, harr⟩ := hT b cs hF
  exact ⟨e, a', w', hq, .of_steps (.one stepR_region_draw) harr⟩
theorem TE.planTo {F : Frame → Prop} {P : Program} {Q : Exit → Act → World → Prop} {nt : Nat} {ds : List Deferred} {k : List Item} {ρ : Env} {w : World} {id : Nat} {l : List Oper} (n : Nat) (π : Plan) (S : World → Prop) (hm : P.follows .mixedOrders = true) (hB : planOK l.toArray n π = true)
    (h : PL P nt ds (l.toArray.extract 0 n) (NQ F P Q (.inRegion l.toArray (List.range' n (l.length - n)) :: k)) S π ρ w.drew)
    (hd : Calm F l.toArray := by first | exact .inl (fun _ h_ => h_.2.1) | exact .inr rfl) : TE F P Q nt ds (.code (.region id l.toArray true) :: k) ρ w :=
  fun a ha => T.planTo hm hB hd (h a ha)
end Go.V
/- Ranges over functions and deferred calls. Conditions: none of its own. -/
set_option linter.unusedVariables false
namespace Go.V
open Go

/-! ### What lies in the heap besides rows -/
/-- The record of a loop. -/
def Lp (w : World) (l : Nat) (r : Loop) : Prop := w.heap[l]? = some (.loop r)
/-- The block for the rounds' deferred calls: none. -/
def Df (w : World) (D : Nat) : Prop := w.heap[D]? = some (.deferred (some []))
theorem Lp.chg {w w' : World} {l : Nat} {r : Loop} {bad : List Nat} (h : Lp w l r) (hc : Chg bad w w') (hb : l ∉ bad) : Lp w' l r := by
  unfold Lp at *
  rw [hc.keep l (by have := (Array.getElem?_eq_some_iff.1 h).1; omega) hb, h]
theorem Df.chg {w w' : World} {D : Nat} {bad : List Nat} (h : Df w D) (hc : Chg bad w w') (hb : D ∉ bad) : Df w' D := by
  unfold Df at *
  rw [hc.keep D (by have := (Array.getElem?_eq_some_iff.1 h).1; omega) hb, h]
theorem Lp.chg0 {w w' : World} {l : Nat} {r : Loop} (h : Lp w l r) (hc : Chg [] w w') : Lp w' l r := h.chg hc (by simp)
theorem Df.chg0 {w w' : World} {D : Nat} (h : Df w D) (hc : Chg [] w w') : Df w' D := h.chg hc (by simp)
theorem Lp.lt {w : World} {l : Nat} {r : Loop} (h : Lp w l r) : l < w.heap.size := (Array.getElem?_eq_some_iff.1 h).1
theorem Df.lt {w : World} {l : Nat} (h : Df w l) : l < w.heap.size := (Array.getElem?_eq_some_iff.1 h).1
theorem Lp.ne {w : World} {l g : Nat} {r : Loop} {t : TypeId} {cs : List Value} (h : Lp w l r) (hb : Blk w g t cs) : l ≠ g := fun e => by
  obtain ⟨fr, h1, _⟩ := hb
  unfold Lp at h
  rw [e, h1] at h
  cases h
theorem Df.ne {w : World} {l g : Nat} {t : TypeId} {cs : List Value} (h : Df w l) (hb : Blk w g t cs) : l ≠ g := fun e => by
  obtain ⟨fr, h1, _⟩ := hb
  unfold Df at h
  rw [e, h1] at h
  cases h
theorem Df.neL {w : World} {D l : Nat} {r : Loop} (h : Df w D) (hl : Lp w l r) : D ≠ l := fun e => by
  unfold Df Lp at *
  rw [e, hl] at h
  cases h
theorem Lp.notin {w : World} {l size n : Nat} {r : Loop} {e : TypeId} {v : Value} {xs : List Value} (h : Lp w l r) (hr : Row w e size v n xs) : l ∉ own v := fun hk => by
  rcases hr.2 with ⟨rfl, _⟩ | ⟨g, cap, cs, rfl, h3, _⟩
  · simp [own] at hk
  · exact h.ne h3 (by simpa [own] using hk)
theorem Df.notin {w : World} {l size n : Nat} {e : TypeId} {v : Value} {xs : List Value} (h : Df w l) (hr : Row w e size v n xs) : l ∉ own v := fun hk => by
  rcases hr.2 with ⟨rfl, _⟩ | ⟨g, cap, cs, rfl, h3, _⟩
  · simp [own] at hk
  · exact h.ne h3 (by simpa [own] using hk)
theorem Lp.apart {w : World} {l size n : Nat} {r : Loop} {e : TypeId} {v : Value} {xs : List Value} (h : Lp w l r) (hr : Row w e size v n xs) : ∀ k, k ∈ own v → k ∉ [l] := fun k hk hm => by
  have : k = l := by simpa using hm
  subst this
  exact h.notin hr hk
theorem Df.apart {w : World} {l size n : Nat} {e : TypeId} {v : Value} {xs : List Value} (h : Df w l) (hr : Row w e size v n xs) : ∀ k, k ∈ own v → k ∉ [l] := fun k hk hm => by
  have : k = l := by simpa using hm
  subst this
  exact h.notin hr hk
theorem chg_putObj (w : World) (l : Nat) (o : Obj) : Chg [l] w (w.putObj l o) :=
  ⟨rfl, rfl, rfl, by simp, fun k _ hk => World.putObj_heap_other (by simpa using hk)⟩
theorem Lp.put {w : World} {l : Nat} {r r' : Loop} (h : Lp w l r) : Lp (w.putObj l (.loop r')) l r' := World.putObj_heap_same h.lt

/-! ### Rounds -/
/-- The frame of a round. -/
def FR (f : FuncId) (l : Nat) (b : Frame) : Prop := b.fn = f ∧ b.roundOf = some l ∧ b.kind = .normal
/-- The frame of a deferred call. -/
def FD (f : FuncId) (b : Frame) : Prop := b.fn = f ∧ b.roundOf = none ∧ b.kind = .deferred
/-- What a call of yield does. -/
def Rounds (P : Program) (l : Nat) (args : Array Value) (w : World) (C : Bool → World → Prop) : Prop :=
  ∃ r, Lp w l r ∧ args.size = r.params.size ∧ ∀ (c : Frame) (cs : List Frame), ∃ go w', C go w' ∧
    Steps P (lone (Frame.round l r.fn ((r.params.zip args).foldl (fun tmps (t, a) => tmps.setIfInBounds t a) r.tmps) r.assign r.body .normal) (c :: cs) w) (lone (c.finish (.bool go)) cs w')
theorem Rounds.mono {P : Program} {l : Nat} {args : Array Value} {w : World} {C C' : Bool → World → Prop} (h : Rounds P l args w C) (hc : ∀ go w', C go w' → C' go w') : Rounds P l args w C' := by
  obtain ⟨r, h1, h2, h3⟩ := h
  refine ⟨r, h1, h2, fun c cs => ?_⟩
  obtain ⟨go, w', h4, h5⟩ := h3 c cs
  exact ⟨go, w', hc _ _ h4, h5⟩
/-- What stands at a round's end. -/
def RQ (l : Nat) (C : Bool → World → Prop) : Exit → Act → World → Prop
  | .normal, _, w => ∃ r, Lp w l r ∧ C true (w.putObj l (.loop { r with state := .ready, pending := none }))
  | .ret, _, w => ∃ r, Lp w l r ∧ C false (w.putObj l (.loop { r with state := .done, pending := some .ret }))
  | _, _, _ => False

/-- The parameters of a round, laid over what the frame knew. -/
def params : List Tmp → List Value → Env → Env
  | t :: ts, v :: vs, ρ => params ts vs ((t, v) :: ρ)
  | _, _, ρ => ρ
theorem Sat.params {n : Nat} {ds : List Deferred} {ρ : Env} : ∀ (ts : List Tmp) (vs : List Value) (a : Act) (ρ : Env), Sat n ds a ρ → ts.all (Nat.blt · n) = true →
    Sat n ds { a with tmps := (ts.zip vs).foldl (fun tmps (x : Tmp × Value) => tmps.setIfInBounds x.1 x.2) a.tmps } (V.params ts vs ρ)
  | [], vs, a, ρ, h, _ => by simpa [V.params] using h
  | t :: ts, [], a, ρ, h, _ => by simpa [V.params] using h
  | t :: ts, v :: vs, a, ρ, h, hb => by
    simp only [List.all_cons, Bool.and_eq_true] at hb
    have h1 := h.put v hb.1
    have h2 := Sat.params (ρ := (t, v) :: ρ) ts vs _ _ h1 hb.2
    simpa [V.params, Act.put] using h2

section
variable {P : Program} {n : Nat} {ρ : Env} {w : World}
theorem TE.beginRound {Q : Exit → Act → World → Prop} {ds : List Deferred} {k : List Item} {f l : Nat} {r : Loop} (hl : Lp w l r) (hr : r.state = .ready) (h : TE (FR f l) P Q n ds k ρ (w.putObj l (.loop { r with state := .busy }))) : TE (FR f l) P Q n ds (.beginRound :: k) ρ w :=
  fun a ha b cs hF => let ⟨e, a', w', q, s⟩ := h a ha b cs hF; ⟨e, a', w', q, .of_steps (.one (stepR_beginRound hF.2.1 (run_beginRound hl hr))) s⟩
theorem TE.roundEnd {k : List Item} {ds : List Deferred} {F : Frame → Prop} {l : Nat} {r : Loop} {C : Bool → World → Prop} (hl : Lp w l r) (h : C true (w.putObj l (.loop { r with state := .ready, pending := none }))) : TE F P (RQ l C) n ds [] ρ w :=
  fun a ha => T.nil ⟨r, hl, h⟩
theorem TE.roundRet {k : List Item} {ds : List Deferred} {F : Frame → Prop} {l : Nat} {r : Loop} {C : Bool → World → Prop} (hl : Lp w l r) (h : C false (w.putObj l (.loop { r with state := .done, pending := some .ret }))) : TE F P (RQ l C) n ds (.code .ret :: k) ρ w :=
  fun a ha => T.ret ⟨r, hl, h⟩
/-- A round, by its walk: the record's temporaries are those of a frame that was known. -/
theorem rounds_of_TE {l : Nat} {r : Loop} {ts : List Tmp} {vs : List Value} {C : Bool → World → Prop} {a : Act} {ds : List Deferred} (hl : Lp w l r) (ha : Sat n ds a ρ) (ht : r.tmps = a.tmps) (hp : r.params = ts.toArray) (hv : vs.length = ts.length) (hb : ts.all (Nat.blt · n) = true)
    (h : TE (FR r.fn l) P (RQ l C) n [] [.code r.assign, .beginRound, .code r.body] (params ts vs ρ) w) : Rounds P l vs.toArray w C := by
  refine ⟨r, hl, by rw [hp]; simp [hv], fun c cs => ?_⟩
  have ha0 : Sat n [] { a with defers := [] } ρ := ⟨ha.size, rfl, ha.fits⟩
  have hs := Sat.params (ρ := ρ) ts vs _ _ ha0 hb
  let b : Frame := { (default : Frame) with fn := r.fn, kind := .normal, roundOf := some l }
  obtain ⟨e, a', w', hq, harr⟩ := h _ hs b (c :: cs) ⟨rfl, rfl, rfl⟩
  have e1 : Frame.round l r.fn ((r.params.zip vs.toArray).foldl (fun tmps (t, a) => tmps.setIfInBounds t a) r.tmps) r.assign r.body .normal =
      b.atR { tmps := (ts.zip vs).foldl (fun tmps (x : Tmp × Value) => tmps.setIfInBounds x.1 x.2) a.tmps, defers := [] } [.code r.assign, .beginRound, .code r.body] := by
    simp [Frame.round, Frame.atR, b, hp, ht]
  rw [e1]
  cases e with
  | normal =>
    obtain ⟨r', hl', hC⟩ := hq
    exact ⟨true, _, hC, Steps.trans harr (.one (stepR_round_end rfl rfl (run_endRound none hl')))⟩
  | ret =>
    obtain ⟨r', hl', hC⟩ := hq
    obtain ⟨todo, hs'⟩ := harr
    exact ⟨false, _, hC, Steps.trans hs' (.one (stepR_round_ret rfl rfl (run_endRound (some .ret) hl')))⟩
  | _ => exact hq.elim

/-! ### The iterator's side: operations one by one -/
variable {F : Frame → Prop} {Q : Exit → Act → World → Prop} {ds : List Deferred} {k : List Item} {ops : Array Oper} {i d : Nat} {is : List Nat} {op : Op} {ty : TypeId} {pos : String} {af : Array Edge}
theorem TE.opsNil (h : TE F P Q n ds k ρ w) : TE F P Q n ds (.inRegion ops [] :: k) ρ w := fun a ha => T.step (fun _ _ => stepR_region_end) (h a ha)
theorem TE.opRun {v : Value} {w' : World} (ho : ops[i]? = some ⟨some d, op, ty, pos, af, none⟩) (hop : ∀ c, op ≠ .defer c) (hr : Run P ρ ⟨some d, op, ty, pos, af, none⟩ w v w') (hd : Nat.blt d n = true)
    (h : TE F P Q n ds (.inRegion ops is :: k) ((d, v) :: ρ) w') : TE F P Q n ds (.inRegion ops (i :: is) :: k) ρ w := fun a ha => by
  refine T.step (fun b cs => ?_) (h _ (ha.put v hd))
  have hg := stepGR_op (P := P) (b := b) (k := k) (cs := cs) (w := w) (rest := is) (a := a) ho (by simp [Region.wanted])
  rw [Oper.semAt_eq _ _ _ hop] at hg
  have hfin := Frame.finish_atR b a ops i is k v
  rw [ho] at hfin
  refine step_lone_go ?_
  rw [hg]
  have e3 : b.atR (a.put (some d) v) (.inRegion ops is :: k) = (b.atR a (.inRegion ops (i :: is) :: k)).finish v := hfin.symm
  rw [e3]
  simp [stepG.apply, hr a ha.fits]
/-- The call of yield. -/
theorem TE.yield {x : Operand} {l : Nat} {xs : List Operand} {ats : Array TypeId} {vs : List Value} {C : Bool → World → Prop} (ho : ops[i]? = some ⟨some d, .call { callee := .value x, args := xs.toArray, argTypes := ats }, ty, pos, af, none⟩)
    (hx : ev ρ x = some (.func (.yield l) #[] #[])) (hargs : evs ρ xs = some vs) (hd : Nat.blt d n = true) (hc : Rounds P l vs.toArray w C)
    (h : ∀ go w', C go w' → TE F P Q n ds (.inRegion ops is :: k) ((d, .bool go) :: ρ) w') : TE F P Q n ds (.inRegion ops (i :: is) :: k) ρ w := fun a ha b cs hF => by
  obtain ⟨r, hl, hsz, hr⟩ := hc
  obtain ⟨go, w', hC, hs⟩ := hr (b.atR a (.inRegion ops (i :: is) :: k)) cs
  obtain ⟨e, a', w'', hq, harr⟩ := h go w' hC _ (ha.put (.bool go) hd) b cs hF
  refine ⟨e, a', w'', hq, Arr.of_steps (Steps.trans (.one ?_) hs) (by
    have hfin := Frame.finish_atR b a ops i is k (.bool go)
    rw [ho] at hfin
    rw [hfin]
    exact harr)⟩
  have hg := stepGR_op (P := P) (b := b) (k := k) (cs := cs) (w := w) (rest := is) (a := a) ho (by simp [Region.wanted])
  rw [Oper.semAt_eq _ _ _ (fun c => by simp)] at hg
  have e1 : (xs.toArray.map a.eval) = vs.toArray := by rw [List.map_toArray, ha.fits.evals hargs]
  have e2 : execOp a.eval ⟨some d, .call { callee := .value x, args := xs.toArray, argTypes := ats }, ty, pos, af, none⟩ = (do let d ← Deferred.ofValue (a.eval x) (xs.toArray.map a.eval); Go.invoke d.target d.args) := rfl
  have hrun : (execOp a.eval ⟨some d, .call { callee := .value x, args := xs.toArray, argTypes := ats }, ty, pos, af, none⟩).run P w = .ok (.round l r.fn ((r.params.zip vs.toArray).foldl (fun tmps (t, a) => tmps.setIfInBounds t a) r.tmps) r.assign r.body) w := by
    rw [e2, ha.fits.eval hx, e1]
    simp only [Deferred.ofValue, Sem.run_bind, Sem.run_pure, Result.andThen_ok, Go.invoke, Array.empty_append, Array.append_empty]
    exact run_yield hl hsz
  refine step_lone_go ?_
  rw [hg]
  simp [stepG.apply, hrun, Frame.atR]
theorem TE.regionOps {id : Nat} {ops : Array Oper} (h : TE F P Q n ds (.inRegion ops (List.range ops.size) :: k) ρ w) : TE F P Q n ds (.code (.region id ops false) :: k) ρ w :=
  fun a ha => T.step (fun _ _ => stepR_region) (h a ha)

/-! ### The statement itself -/
def rec0 (f : FuncId) (tmps : Array Value) (ps : Array Tmp) (assign body : Code) (D : Nat) : Loop := { state := .ready, pending := none, fn := f, tmps := tmps, params := ps, assign := assign, body := body, defers := D }
def mark (D : Nat) : Deferred := { target := .collected D, args := #[] }
theorem TE.rangeFunc {f : FuncId} {x : Operand} {ps : Array Tmp} {assign body : Code} {g : Nat} {first captured : Array Value} {C : Nat → Nat → Act → Ending → World → Prop} (hx : ev ρ x = some (.func (.func g) first captured))
    (hg : ∀ args w, (callFunc g args).run P w = .ok (.enter g args) w)
    (hc : ∀ D l w1 a, Sat n ds a ρ → Chg [] w w1 → w.heap.size ≤ D → w.heap.size ≤ l → Df w1 D → Lp w1 l (rec0 f a.tmps ps assign body D) → Calls P g (first ++ #[.func (.yield l) #[] #[]] ++ captured) w1 (C D l a))
    (h : ∀ D l a e w2, w.heap.size ≤ D → w.heap.size ≤ l → Sat n ds a ρ → C D l a e w2 → ∃ v r, e = .returned v ∧ Lp w2 l r ∧ r.state ≠ .busy ∧ TE (FN f) P Q n (mark D :: ds) ((r.pending.map Item.code).toList ++ k) ρ (w2.putObj l (.loop { r with state := .exhausted }))) :
    TE (FN f) P Q n ds (.code (.rangeFunc x ps assign body) :: k) ρ w := fun a ha b cs hF => by
  let w1 := (w.alloc (.deferred (some []))).alloc (.loop (rec0 f a.tmps ps assign body w.heap.size))
  have hch : Chg [] w w1 := (chg_alloc _ _).then_ (chg_alloc _ _)
  have hL : Lp w1 (w.heap.size + 1) (rec0 f a.tmps ps assign body w.heap.size) := by
    have := World.alloc_heap_new (w.alloc (.deferred (some []))) (.loop (rec0 f a.tmps ps assign body w.heap.size))
    rwa [World.size_alloc] at this
  have hD : Df w1 w.heap.size := by
    have h1 : Df (w.alloc (.deferred (some []))) w.heap.size := World.alloc_heap_new _ _
    exact h1.chg0 (chg_alloc _ _)
  have hcall := hc w.heap.size (w.heap.size + 1) w1 a ha hch (Nat.le_refl _) (by omega) hD hL
  have hent := stepR_rangeFunc (P := P) (b := b) (a := a) (k := k) (cs := cs) (w := w) (g := x) (ps := ps) (assign := assign) (body := body)
    (d := { target := .fn (.func g) captured, args := first ++ #[.func (.yield (w.heap.size + 1)) #[] #[]] }) (w₁' := w1) (w₂ := w1) (f := g) (args := first ++ #[.func (.yield (w.heap.size + 1)) #[] #[]] ++ captured)
    (by rw [hF.2.1, hF.1]; exact run_enterLoop_outer _ _ _ _ _)
    (by
      have hev : a.eval x = .func (.func g) first captured := ha.fits.eval hx
      simp [rangeCall, resolve, hev, Deferred.ofValue]
      exact ⟨rfl, rfl⟩)
    (by simp [invoke, hg])
  obtain ⟨e, w2, fr, hR, hcomes, _, hleave⟩ := hcall (b.atR { a with defers := [{ target := .collected w.heap.size, args := #[] }] ++ a.defers } (.inRangeFunc (w.heap.size + 1) :: k) :: cs)
  obtain ⟨v, r, rfl, hl2, hnb, hT⟩ := h _ _ _ _ _ (Nat.le_refl _) (by omega) ha hR
  have hsat : Sat n (mark w.heap.size :: ds) { a with defers := [{ target := .collected w.heap.size, args := #[] }] ++ a.defers } ρ := ⟨ha.size, by simp [mark, ha.defs], ha.fits⟩
  obtain ⟨e', a', w', hq, harr⟩ := hT _ hsat b cs hF
  refine ⟨e', a', w', hq, Arr.of_steps (.head hent (Steps.trans hcomes (.head ?_ (.one (stepR_endRangeFunc (run_endLoop hl2 hnb)))))) harr⟩
  rw [← finish_atR_inRangeFunc (w.heap.size + 1) v]
  exact step_leave_returned hleave

/-! ### Deferred calls at the end -/
/-- A deferred call, made while its frame returns. -/
def CallsR (P : Program) (f : FuncId) (args : Array Value) (w : World) (C : World → Prop) : Prop := CallsD P f args .returning w fun e u' w' => u' = .returning ∧ ∃ v, e = .returned v ∧ C w'
def Unw (P : Program) (fn : Func) (tmps : Array Value) (R : Ending → World → Prop) : List Deferred → World → Prop
  | [], w => ∃ v, (results fn tmps).run P w = .ok v w ∧ R (.returned v) w
  | d :: ds, w => (∃ D, d.target = .collected D ∧ Df w D ∧ Unw P fn tmps R ds (w.putObj D (.deferred none))) ∨
      (∃ fv cap f args, d.target = .fn fv cap ∧ (invoke d.target d.args).run P w = .ok (.enter f args) w ∧ CallsR P f args w (Unw P fn tmps R ds))
theorem unw_steps {fn : Func} {tmps : Array Value} {R : Ending → World → Prop} : ∀ (ds : List Deferred) (w : World) (fr : Frame) (cs : List Frame), fr.mode = .returning → fr.defers = ds → fr.tmps = tmps → P.funcs[fr.fn]? = some fn → fr.kind = .normal → Unw P fn tmps R ds w →
    ∃ v w' fr', R (.returned v) w' ∧ Steps P (lone fr cs w) (lone fr' cs w') ∧ fr'.fn = fr.fn ∧ fr'.leaving P w' (.returned v) := by
  intro ds
  induction ds with
  | nil =>
    intro w fr cs hu hd ht hf hk h
    obtain ⟨v, hr, hR⟩ := h
    exact ⟨v, w, fr, hR, Steps.refl P _, rfl, hu, hd, hk, fn, hf, ht ▸ hr⟩
  | cons d ds ih =>
    intro w fr cs hu hd ht hf hk h
    rcases h with ⟨D, htar, hD, h⟩ | ⟨fv, cap, f, args, htar, hinv, hcall⟩
    · obtain ⟨v, w', fr', hR, hs, hfn, hl⟩ := ih _ { fr with defers := ds } cs hu rfl ht hf hk h
      refine ⟨v, w', fr', hR, .head ?_ hs, hfn, hl⟩
      obtain ⟨t, as⟩ := d
      simp only at htar
      subst htar
      refine step_lone_go ?_
      simp [stepG, unwind, hu, hd, Sem.runT_eq, run_takeDeferred hD, GStep.bare_after]
    · have h1 := step_defer (cs := cs) (by rw [hu]; simp) hd htar hinv
      obtain ⟨e, u', w', frX, ⟨hu', v, rfl, hR⟩, hsteps, hkX, hgo⟩ := hcall { fr with defers := ds } cs hu
      subst hu'
      have h2 := step_going_returned (c := { { fr with defers := ds } with mode := .returning }) (cs := cs) hkX hgo
      obtain ⟨v', w'', fr', hR', hs', hfn', hl'⟩ := ih w' { { { fr with defers := ds } with mode := .returning } with mode := settle .returning } cs rfl rfl ht hf hk hR
      exact ⟨v', w'', fr', hR', .head h1 (Steps.trans hsteps (.head h2 hs')), hfn', hl'⟩
def bodyPostU (P : Program) (fn : Func) (R : Ending → World → Prop) : Exit → Act → World → Prop
  | .normal, a, w | .ret, a, w => Unw P fn a.tmps R a.defers w
  | _, _, _ => False
theorem calls_of_TU {f : FuncId} {fn : Func} {c : Code} {vs : List Value} {R : Ending → World → Prop} (hf : P.funcs[f]? = some fn) (hn : fn.ntmps = n) (hb : fn.body = some c) (hvs : vs.length ≤ n)
    (h : TE (FN f) P (bodyPostU P fn R) n [] [.code c] (number 0 vs) w) : Calls P f vs.toArray w R := by
  intro cs
  subst hn
  let b : Frame := { (default : Frame) with fn := f, kind := .normal }
  have henter : Frame.enter P f vs.toArray .normal = b.atR { tmps := vs.toArray ++ Array.replicate (fn.ntmps - vs.toArray.size) undef, defers := [] } [.code c] := by
    simp [Frame.enter, Frame.atR, hf, hb, b]; rfl
  obtain ⟨e, a', w', hq, harr⟩ := h _ (Sat.entry vs hvs) b cs ⟨rfl, rfl, rfl⟩
  rw [← henter] at harr
  cases e with
  | normal =>
    obtain ⟨v, w'', fr', hR, hs, hfn, hl⟩ := unw_steps a'.defers w' { b.atR a' [] with mode := .returning } cs rfl rfl rfl hf rfl hq
    exact ⟨.returned v, w'', fr', hR, Steps.trans harr (.head (stepR_end rfl) hs), hfn, hl⟩
  | ret =>
    obtain ⟨todo, hs0⟩ := harr
    obtain ⟨v, w'', fr', hR, hs, hfn, hl⟩ := unw_steps a'.defers w' { b.atR a' (.code .ret :: todo) with mode := .returning } cs rfl rfl rfl hf rfl hq
    exact ⟨.returned v, w'', fr', hR, Steps.trans hs0 (.head (stepR_ret rfl) hs), hfn, hl⟩
  | _ => exact hq.elim
/-- A deferred function, by its walk. -/
theorem callsR_of_TE {f : FuncId} {fn : Func} {c : Code} {vs : List Value} {R : World → Prop} (hf : P.funcs[f]? = some fn) (hn : fn.ntmps = n) (hb : fn.body = some c) (hvs : vs.length ≤ n)
    (h : TE (FD f) P (bodyPost P fn fun _ w' => R w') n [] [.code c] (number 0 vs) w) : CallsR P f vs.toArray w R := by
  intro c₀ cs hu
  subst hn
  let b : Frame := { (default : Frame) with fn := f, kind := .deferred }
  have henter : Frame.enter P f vs.toArray .deferred = b.atR { tmps := vs.toArray ++ Array.replicate (fn.ntmps - vs.toArray.size) undef, defers := [] } [.code c] := by
    simp [Frame.enter, Frame.atR, hf, hb, b]; rfl
  have hc : ({ c₀ with mode := .returning } : Frame) = c₀ := by rw [← hu]
  obtain ⟨e, a', w', hq, harr⟩ := h _ (Sat.entry vs hvs) b (c₀ :: cs) ⟨rfl, rfl, rfl⟩
  rw [← henter] at harr
  cases e with
  | normal =>
    obtain ⟨hd, v, hr, hR⟩ := hq
    exact ⟨.returned v, .returning, w', _, ⟨rfl, v, rfl, hR⟩, (by rw [hc]; exact Steps.trans harr (.one (stepR_end rfl))), rfl, rfl, hd, fn, hf, hr⟩
  | ret =>
    obtain ⟨hd, v, hr, hR⟩ := hq
    obtain ⟨todo, hs⟩ := harr
    exact ⟨.returned v, .returning, w', _, ⟨rfl, v, rfl, hR⟩, (by rw [hc]; exact Steps.trans hs (.one (stepR_ret rfl))), rfl, rfl, hd, fn, hf, hr⟩
  | _ => exact harr.elim
/-- The end of a function that has deferred calls. -/
theorem TE.retU {F : Frame → Prop} {fn : Func} {R : Ending → World → Prop} {k : List Item} {ds : List Deferred} (h : ∀ a, Sat n ds a ρ → Unw P fn a.tmps R ds w) : TE F P (bodyPostU P fn R) n ds (.code .ret :: k) ρ w :=
  fun a ha => T.ret (by show Unw P fn a.tmps R a.defers w; rw [ha.defs]; exact h a ha)
theorem Unw.mark {fn : Func} {tmps : Array Value} {R : Ending → World → Prop} {D : Nat} {ds : List Deferred} (hD : Df w D) (h : Unw P fn tmps R ds (w.putObj D (.deferred none))) : Unw P fn tmps R (mark D :: ds) w := .inl ⟨D, rfl, hD, h⟩
theorem Unw.call {fn : Func} {tmps : Array Value} {R : Ending → World → Prop} {f : FuncId} {args : Array Value} {ds : List Deferred} (hg : ∀ args w, (callFunc f args).run P w = .ok (.enter f args) w) (h : CallsR P f args w (Unw P fn tmps R ds)) : Unw P fn tmps R ({ target := .fn (.func f) #[], args := args } :: ds) w :=
  .inr ⟨_, _, f, args, rfl, by simp [invoke, hg], h⟩
theorem Unw.done {fn : Func} {a : Act} {ds : List Deferred} {R : Ending → World → Prop} {rs : List ResultVar} {vs : List Value} (ha : Sat n ds a ρ) (hr : fn.results = rs.toArray) (hg : Gives P w ρ rs vs) (h : R (.returned (pack vs)) w) : Unw P fn a.tmps R [] w :=
  ⟨_, results_of_gives ha.fits hr hg, h⟩
/-- The statement 'defer'. -/
theorem OL.defer {R : Exit → Act → World → Prop} {l : List Oper} {f : Nat} {xs : List Operand} {ats : Array TypeId} {vs : List Value} (hargs : evs ρ xs = some vs) (h : OL P n ({ target := .fn (.func f) #[], args := vs.toArray } :: ds) ops R l ρ w) :
    OL P n ds ops R (⟨none, .defer { callee := .value (.func f), args := xs.toArray, argTypes := ats }, ty, pos, af, none⟩ :: l) ρ w := fun a ha => by
  refine wpList_plain rfl fun K hK => ?_
  unfold Oper.wp
  have e1 : (xs.toArray.map a.eval) = vs.toArray := by rw [List.map_toArray, ha.fits.evals hargs]
  have e2 : execOp a.eval ⟨none, .defer { callee := .value (.func f), args := xs.toArray, argTypes := ats }, ty, pos, af, none⟩ = (do _root_.Pure.pure (Next.defer (← Deferred.ofValue (.func (.func f) #[] #[]) (xs.toArray.map a.eval)))) := rfl
  rw [e2, e1]
  simp only [Deferred.ofValue, Sem.run_bind, Sem.run_pure, Result.andThen_ok, Array.empty_append]
  exact hK _ _ (h _ ⟨ha.size, by simp [Act.put, ha.defs], ha.fits⟩)
end
end Go.V
/- Maps by whole numbers; copy; arrays out of slices. Conditions: none of its own. -/
set_option linter.unusedVariables false
namespace Go.V
open Go

/-! ### Maps whose keys are ints -/
/-- An entry: the key, the value, its age. -/
abbrev Ent := Int × Value × Nat
def ent (e : Ent) : MapEntry := { key := .int .i64 e.1, val := e.2.1, born := e.2.2 }
def mget : List Ent → Int → Option Value
  | [], _ => none
  | e :: r, k => if e.1 = k then some e.2.1 else mget r k
def mpos : List Ent → Int → Option Nat
  | [], _ => none
  | e :: r, k => if e.1 = k then some 0 else (mpos r k).map (· + 1)
def mset : List Ent → Int → Value → Nat → List Ent
  | [], k, v, c => [(k, v, c)]
  | e :: r, k, v, c => if e.1 = k then (e.1, v, e.2.2) :: r else e :: mset r k v c
def mdel : List Ent → Int → List Ent
  | [], _ => []
  | e :: r, k => if e.1 = k then r else e :: mdel r k
theorem mget_set (k : Int) (v : Value) (c : Nat) (j : Int) : ∀ L : List Ent, mget (mset L k v c) j = if j = k then some v else mget L j
  | [] => by simp only [mset, mget, eq_comm]
  | e :: r => by
    simp only [mset]
    by_cases h : e.1 = k
    · simp only [h, if_true, mget]
      by_cases h2 : k = j
      · subst h2; simp
      · simp [h2, Ne.symm h2]
    · simp only [h, if_false, mget, mget_set k v c j r]
      by_cases h2 : e.1 = j
      · have : j ≠ k := fun e' => h (h2.trans e')
        simp [h2, this]
      · simp [h2]
theorem mget_del_other (k j : Int) (h : j ≠ k) : ∀ L : List Ent, mget (mdel L k) j = mget L j
  | [] => rfl
  | e :: r => by
    simp only [mdel]
    by_cases h2 : e.1 = k
    · have : e.1 ≠ j := fun e' => h (e'.symm.trans h2)
      simp [h2, mget, this]
      intro h3; exact absurd h3.symm h
    · simp only [h2, if_false, mget, mget_del_other k j h r]
theorem mget_none (k : Int) : ∀ L : List Ent, (∀ e ∈ L, e.1 ≠ k) → mget L k = none
  | [], _ => rfl
  | e :: r, h => by simp only [mget, h e (by simp), if_false]; exact mget_none k r fun x hx => h x (List.mem_cons_of_mem _ hx)
theorem mget_del (k : Int) : ∀ L : List Ent, L.Pairwise (fun a b => a.1 ≠ b.1) → mget (mdel L k) k = none
  | [], _ => rfl
  | e :: r, h => by
    rw [List.pairwise_cons] at h
    simp only [mdel]
    by_cases h2 : e.1 = k
    · rw [if_pos h2]; exact mget_none k r fun x hx => by rw [← h2]; exact (h.1 x hx).symm
    · rw [if_neg h2]; simp only [mget, h2, if_false]; exact mget_del k r h.2
theorem mdel_mem {x : Ent} (k : Int) : ∀ L : List Ent, x ∈ mdel L k → x ∈ L
  | [], h => h
  | e :: r, h => by
    simp only [mdel] at h
    by_cases h2 : e.1 = k
    · rw [if_pos h2] at h; exact List.mem_cons_of_mem _ h
    · rw [if_neg h2] at h
      rcases List.mem_cons.1 h with rfl | h
      · simp
      · exact List.mem_cons_of_mem _ (mdel_mem k r h)
theorem mdel_nodup (k : Int) : ∀ L : List Ent, L.Pairwise (fun a b => a.1 ≠ b.1) → (mdel L k).Pairwise (fun a b => a.1 ≠ b.1)
  | [], h => h
  | e :: r, h => by
    rw [List.pairwise_cons] at h
    simp only [mdel]
    by_cases h2 : e.1 = k
    · rw [if_pos h2]; exact h.2
    · rw [if_neg h2, List.pairwise_cons]; exact ⟨fun x hx => h.1 x (mdel_mem k r hx), mdel_nodup k r h.2⟩
theorem mset_key {x : Ent} (k : Int) (v : Value) (c : Nat) : ∀ L : List Ent, x ∈ mset L k v c → x.1 = k ∨ ∃ y ∈ L, y.1 = x.1
  | [], h => by simp only [mset, List.mem_singleton] at h; exact .inl (by rw [h])
  | e :: r, h => by
    simp only [mset] at h
    by_cases h2 : e.1 = k
    · rw [if_pos h2] at h
      rcases List.mem_cons.1 h with rfl | h
      · exact .inl h2
      · exact .inr ⟨x, List.mem_cons_of_mem _ h, rfl⟩
    · rw [if_neg h2] at h
      rcases List.mem_cons.1 h with rfl | h
      · exact .inr ⟨x, by simp, rfl⟩
      · rcases mset_key k v c r h with h | ⟨y, hy, h⟩
        · exact .inl h
        · exact .inr ⟨y, List.mem_cons_of_mem _ hy, h⟩
theorem mset_nodup (k : Int) (v : Value) (c : Nat) : ∀ L : List Ent, L.Pairwise (fun a b => a.1 ≠ b.1) → (mset L k v c).Pairwise (fun a b => a.1 ≠ b.1)
  | [], h => by simp [mset]
  | e :: r, h => by
    rw [List.pairwise_cons] at h
    simp only [mset]
    by_cases h2 : e.1 = k
    · rw [if_pos h2, List.pairwise_cons]; exact ⟨fun x hx => h.1 x hx, h.2⟩
    · rw [if_neg h2, List.pairwise_cons]
      refine ⟨fun x hx => ?_, mset_nodup k v c r h.2⟩
      rcases mset_key k v c r hx with h3 | ⟨y, hy, h3⟩
      · rw [h3]; exact h2
      · rw [← h3]; exact h.1 y hy
theorem findNow_ent (k : Int) : ∀ (L : List Ent) (i : Nat), Instr.findNow (.int .i64) (.int .i64 k) (L.map ent) i = some ((mpos L k).bind fun p => (mget L k).map fun v => (i + p, v))
  | [], i => rfl
  | e :: r, i => by
    simp only [List.map_cons, Instr.findNow, ent, Instr.sameNow, if_true, mpos, mget]
    by_cases h : e.1 = k
    · subst h; simp
    · have h' : (k == e.1) = false := by simpa using Ne.symm h
      have h2 := findNow_ent k r (i + 1)
      simp only [h', h, if_false]
      rw [show (List.map ent r) = r.map ent from rfl, h2]
      cases mpos r k <;> simp [Nat.add_assoc, Nat.add_comm 1]
theorem mpos_get (k : Int) : ∀ L : List Ent, (mpos L k).isSome = (mget L k).isSome
  | [] => rfl
  | e :: r => by
    simp only [mpos, mget]
    by_cases h : e.1 = k
    · simp [h]
    · simp [h, mpos_get k r]
theorem mpos_key (k : Int) : ∀ (L : List Ent) (p : Nat), mpos L k = some p → ∃ e, L[p]? = some e ∧ e.1 = k
  | [], p, h => by simp [mpos] at h
  | e :: r, p, h => by
    simp only [mpos] at h
    by_cases h2 : e.1 = k
    · rw [if_pos h2] at h; cases h; exact ⟨e, rfl, h2⟩
    · rw [if_neg h2] at h
      cases h3 : mpos r k with
      | none => simp [h3] at h
      | some q =>
        simp only [h3, Option.map_some, Option.some.injEq] at h
        subst h
        obtain ⟨e', h4, h5⟩ := mpos_key k r q h3
        exact ⟨e', by simpa using h4, h5⟩
theorem modify_ent (k : Int) (v : Value) (c : Nat) : ∀ (L : List Ent) (p : Nat), mpos L k = some p → (L.map ent).modify p (fun e => { e with key := .int .i64 k, val := v }) = (mset L k v c).map ent
  | [], p, h => by simp [mpos] at h
  | e :: r, p, h => by
    simp only [mpos] at h
    by_cases h2 : e.1 = k
    · rw [if_pos h2] at h; cases h
      simp [mset, h2, ent]
    · rw [if_neg h2] at h
      cases h3 : mpos r k with
      | none => simp [h3] at h
      | some q =>
        simp only [h3, Option.map_some, Option.some.injEq] at h
        subst h
        have := modify_ent k v c r q h3
        simp [mset, h2, this]
theorem set_new (k : Int) (v : Value) (c : Nat) : ∀ L : List Ent, mpos L k = none → mset L k v c = L ++ [(k, v, c)]
  | [], _ => rfl
  | e :: r, h => by
    simp only [mpos] at h
    by_cases h2 : e.1 = k
    · rw [if_pos h2] at h; cases h
    · rw [if_neg h2] at h
      have : mpos r k = none := by simpa using h
      simp [mset, h2, set_new k v c r this]
theorem erase_ent (k : Int) : ∀ (L : List Ent) (p : Nat), mpos L k = some p → (L.map ent).eraseIdx p = (mdel L k).map ent
  | [], p, h => by simp [mpos] at h
  | e :: r, p, h => by
    simp only [mpos] at h
    by_cases h2 : e.1 = k
    · rw [if_pos h2] at h; cases h; simp [mdel, h2]
    · rw [if_neg h2] at h
      cases h3 : mpos r k with
      | none => simp [h3] at h
      | some q =>
        simp only [h3, Option.map_some, Option.some.injEq] at h
        subst h
        simp [mdel, h2, erase_ent k r q h3]
theorem del_none (k : Int) : ∀ L : List Ent, mpos L k = none → mdel L k = L
  | [], _ => rfl
  | e :: r, h => by
    simp only [mpos] at h
    by_cases h2 : e.1 = k
    · rw [if_pos h2] at h; cases h
    · rw [if_neg h2] at h
      have : mpos r k = none := by simpa using h
      simp [mdel, h2, del_none k r this]

/-- A map in the heap: what it gives for each key; z for those that it has not. -/
def Mp (w : World) (b : Nat) (z : Value) (f : Int → Value) : Prop :=
  ∃ (L : List Ent) (c : Nat), w.heap[b]? = some (.map (L.map ent).toArray c) ∧ L.Pairwise (fun a b => a.1 ≠ b.1) ∧ ∀ k, (mget L k).getD z = f k
theorem Mp.lt {w : World} {b : Nat} {z : Value} {f : Int → Value} (h : Mp w b z f) : b < w.heap.size := by
  obtain ⟨L, c, h1, _⟩ := h
  exact (Array.getElem?_eq_some_iff.1 h1).1
theorem Mp.chg {w w' : World} {b : Nat} {z : Value} {f : Int → Value} {bad : List Nat} (h : Mp w b z f) (hc : Chg bad w w') (hb : b ∉ bad) : Mp w' b z f := by
  have hlt := h.lt
  obtain ⟨L, c, h1, h2⟩ := h
  exact ⟨L, c, by rw [hc.keep b hlt hb, h1], h2⟩
theorem Mp.chg0 {w w' : World} {b : Nat} {z : Value} {f : Int → Value} (h : Mp w b z f) (hc : Chg [] w w') : Mp w' b z f := h.chg hc (by simp)
theorem Mp.ne {w : World} {b g : Nat} {z : Value} {f : Int → Value} {t : TypeId} {cs : List Value} (h : Mp w b z f) (hb : Blk w g t cs) : b ≠ g := fun e => by
  obtain ⟨fr, h1, _⟩ := hb
  obtain ⟨L, c, h2, _⟩ := h
  rw [e, h1] at h2
  cases h2
theorem Mp.neL {w : World} {b l : Nat} {z : Value} {f : Int → Value} {r : Loop} (h : Mp w b z f) (hl : Lp w l r) : b ≠ l := fun e => by
  obtain ⟨L, c, h2, _⟩ := h
  unfold Lp at hl
  rw [e, hl] at h2
  cases h2
theorem Mp.neD {w : World} {b l : Nat} {z : Value} {f : Int → Value} (h : Mp w b z f) (hl : Df w l) : b ≠ l := fun e => by
  obtain ⟨L, c, h2, _⟩ := h
  unfold Df at hl
  rw [e, hl] at h2
  cases h2
theorem Mp.notin {w : World} {l size n : Nat} {z : Value} {f : Int → Value} {e : TypeId} {v : Value} {xs : List Value} (h : Mp w l z f) (hr : Row w e size v n xs) : l ∉ own v := fun hk => by
  rcases hr.2 with ⟨rfl, _⟩ | ⟨g, cap, cs, rfl, h3, _⟩
  · simp [own] at hk
  · exact h.ne h3 (by simpa [own] using hk)
theorem checkKey_int {P : Program} {kt : TypeId} (hk : P.underlying kt = some (.int .i64)) (em : Bool) (k : Int) (w : World) : (Instr.checkKey em 10000 kt (.int .i64 k)).run P w = .ok () w := by
  rw [show (10000 : Nat) = 9999 + 1 from rfl, Instr.checkKey]
  simp [run_underlying hk]
theorem run_findKey {P : Program} {kt : TypeId} (hk : P.underlying kt = some (.int .i64)) (k : Int) (L : List Ent) (w : World) :
    (Instr.findKey kt (.int .i64 k) (L.map ent)).run P w = .ok ((mpos L k).bind fun p => (mget L k).map fun v => (p, v)) w := by
  simp [Instr.findKey, run_underlying hk, findNow_ent]

section
variable {P : Program} {R : Exit → Act → World → Prop} {n : Nat} {ds : List Deferred} {ρ : Env} {w : World} {ops : Array Oper} {l : List Oper} {d : Nat} {op : Op} {ty : TypeId} {pos : String} {af : Array Edge}
theorem Run.lookup {dst : Option Tmp} {gd : Option (Nat × Bool)} {x y : Operand} {t kt e : TypeId} {b : Nat} {k : Int} {z : Value} {f : Int → Value} (hx : ev ρ x = some (.map (some b))) (hy : ev ρ y = some (.int .i64 k)) (ht : P.underlying t = some (.map kt e)) (hk : P.underlying kt = some (.int .i64))
    (hz : ∀ w, (zeroValue e).run P w = .ok z w) (hm : Mp w b z f) : Run P ρ ⟨dst, .lookup t x y false, ty, pos, af, gd⟩ w (f k) w := fun a hf => by
  obtain ⟨L, c, h1, h2, h3⟩ := hm
  have e1 : (Instr.lookup t (.map (some b)) (.int .i64 k) false).run P w = .ok (f k) w := by
    unfold Instr.lookup
    simp [run_underlying ht, getObj, Sem.run, h1, Result.andThen]
    have hc := checkKey_int hk (L.map ent).isEmpty k w
    have hr := run_findKey (P := P) hk k L w
    have h4 := h3 k
    have h5 := mpos_get k L
    simp only [List.isEmpty_map] at hc
    simp only [hc, hr]
    cases h6 : mget L k with
    | none =>
      rw [h6] at h4 h5
      have : mpos L k = none := by simpa using h5
      simp [this, hz]
      simpa using h4
    | some v =>
      rw [h6] at h4 h5
      obtain ⟨p, hp⟩ := Option.isSome_iff_exists.1 h5
      simp [hp]
      simpa using h4
  simp [execOp, hf.eval hx, hf.eval hy, e1]

theorem RunS.mapUpdate {dst : Option Tmp} {gd : Option (Nat × Bool)} {x y u : Operand} {t kt e : TypeId} {b : Nat} {k : Int} {z v : Value} {f : Int → Value} (hx : ev ρ x = some (.map (some b))) (hy : ev ρ y = some (.int .i64 k)) (hu : ev ρ u = some v) (ht : P.underlying t = some (.map kt e)) (hk : P.underlying kt = some (.int .i64))
    (hm : Mp w b z f) : ∃ w', RunS P ρ ⟨dst, .mapUpdate t x y u, ty, pos, af, gd⟩ w w' ∧ Mp w' b z (fun j => if j = k then v else f j) ∧ Chg [b] w w' := by
  obtain ⟨L, c, h1, h2, h3⟩ := hm
  have hlt := (Array.getElem?_eq_some_iff.1 h1).1
  have h5 := mpos_get k L
  have hval : ∀ j, (mget (mset L k v c) j).getD z = if j = k then v else f j := fun j => by
    rw [mget_set]
    by_cases hj : j = k
    · simp [hj]
    · simp [hj, h3]
  have hc := checkKey_int (P := P) hk false k w
  have hr := run_findKey (P := P) hk k L w
  cases h6 : mpos L k with
  | none =>
    rw [h6] at h5
    have h7 : mget L k = none := by simpa using h5.symm
    refine ⟨w.putObj b (.map ((mset L k v c).map ent).toArray (c + 1)), fun a hf => ?_, ⟨mset L k v c, c + 1, World.putObj_heap_same hlt, mset_nodup _ _ _ _ h2, hval⟩, chg_putObj _ _ _⟩
    have e1 : (Instr.mapUpdate t (.map (some b)) (.int .i64 k) v).run P w = .ok () (w.putObj b (.map ((mset L k v c).map ent).toArray (c + 1))) := by
      unfold Instr.mapUpdate
      simp [run_underlying ht, getObj, Sem.run, h1, Result.andThen, hc, hr, h6, h7, setObj, World.putObj, set_new k v c L h6, ent]
    simp [execOp, hf.eval hx, hf.eval hy, hf.eval hu, e1]
  | some p =>
    rw [h6] at h5
    obtain ⟨v0, h7⟩ := Option.isSome_iff_exists.1 h5.symm
    obtain ⟨e0, h8, h9⟩ := mpos_key k L p h6
    refine ⟨w.putObj b (.map ((mset L k v c).map ent).toArray c), fun a hf => ?_, ⟨mset L k v c, c, World.putObj_heap_same hlt, mset_nodup _ _ _ _ h2, hval⟩, chg_putObj _ _ _⟩
    have hkey : ((L.map ent).toArray[p]?.map (·.key)).getD (.int .i64 k) = .int .i64 k := by simp [h8, ent, h9]
    have e1 : (Instr.mapUpdate t (.map (some b)) (.int .i64 k) v).run P w = .ok () (w.putObj b (.map ((mset L k v c).map ent).toArray c)) := by
      have hmod := modify_ent k v c L p h6
      have hmod' : (L.map ent).toArray.modify p (fun e => { e with key := .int .i64 k, val := v }) = ((mset L k v c).map ent).toArray := by
        rw [← hmod]; simp
      unfold Instr.mapUpdate
      simp [run_underlying ht, getObj, Sem.run, h1, Result.andThen, hc, hr, h6, h7]
      simp at hkey
      simp [hkey, Instr.keyThatStays, Instr.sameBits, Sem.run, setObj, h1, World.putObj]
      simp at hmod'
      rw [hmod']
    simp [execOp, hf.eval hx, hf.eval hy, hf.eval hu, e1]
theorem Run.delete {dst : Option Tmp} {gd : Option (Nat × Bool)} {x y : Operand} {t t2 kt e : TypeId} {b : Nat} {k : Int} {z : Value} {f : Int → Value} (hx : ev ρ x = some (.map (some b))) (hy : ev ρ y = some (.int .i64 k)) (ht : P.underlying t = some (.map kt e)) (hk : P.underlying kt = some (.int .i64))
    (hm : Mp w b z f) : ∃ w', Run P ρ ⟨dst, .call { callee := .builtin .delete, args := #[x, y], argTypes := #[t, t2] }, ty, pos, af, gd⟩ w (.tuple #[]) w' ∧ Mp w' b z (fun j => if j = k then z else f j) ∧ Chg [b] w w' := by
  obtain ⟨L, c, h1, h2, h3⟩ := hm
  have hlt := (Array.getElem?_eq_some_iff.1 h1).1
  have h5 := mpos_get k L
  have hval : ∀ j, (mget (mdel L k) j).getD z = if j = k then z else f j := fun j => by
    by_cases hj : j = k
    · subst hj; simp [mget_del _ _ h2]
    · simp [hj, mget_del_other k j hj, h3]
  have hc := checkKey_int (P := P) hk (L.map ent).isEmpty k w
  simp only [List.isEmpty_map] at hc
  have hr := run_findKey (P := P) hk k L w
  refine ⟨w.putObj b (.map ((mdel L k).map ent).toArray c), fun a hf => ?_, ⟨mdel L k, c, World.putObj_heap_same hlt, mdel_nodup _ _ h2, hval⟩, chg_putObj _ _ _⟩
  have e1 : (Builtin.delete_ #[t, t2] ty #[.map (some b), .int .i64 k]).run P w = .ok (.tuple #[]) (w.putObj b (.map ((mdel L k).map ent).toArray c)) := by
    unfold Builtin.delete_
    cases h6 : mpos L k with
    | none =>
      rw [h6] at h5
      have h7 : mget L k = none := by simpa using h5.symm
      simp [run_underlying ht, getObj, Sem.run, h1, Result.andThen, hc, hr, h6, h7, setObj, World.putObj, del_none k L h6]
    | some p =>
      rw [h6] at h5
      obtain ⟨v0, h7⟩ := Option.isSome_iff_exists.1 h5.symm
      have hp : p < L.length := by
        obtain ⟨e0, h8, _⟩ := mpos_key k L p h6
        exact (List.getElem?_eq_some_iff.1 h8).1
      simp [run_underlying ht, getObj, Sem.run, h1, Result.andThen, hc, hr, h6, h7, setObj, World.putObj]
      have := erase_ent k L p h6
      simp [this]
  simp [BigFrame.execOp_builtin, BigFrame.builtin_delete, hf.eval hx, hf.eval hy, e1]
theorem Run.makeMap {dst : Option Tmp} {gd : Option (Nat × Bool)} {t : TypeId} (z : Value) : ∃ w', Run P ρ ⟨dst, .makeMap t none, ty, pos, af, gd⟩ w (.map (some w.heap.size)) w' ∧ Mp w' w.heap.size z (fun _ => z) ∧ Chg [] w w' := by
  refine ⟨w.alloc (.map #[] 0), fun a hf => ?_, ⟨[], 0, World.alloc_heap_new _ _, List.Pairwise.nil, fun k => rfl⟩, chg_alloc _ _⟩
  simp [execOp, Instr.makeMap]
theorem Pure.arrayAt {dst : Option Tmp} {gd : Option (Nat × Bool)} {x : Operand} {t e : TypeId} {A : Option Addr} {m len cap : Nat} (ht : P.underlying t = some (.array m e)) (hx : ev ρ x = some (.slice A len cap)) (h : m ≤ len) : Pure P ρ ⟨dst, .sliceToArrayPointer t x, ty, pos, af, gd⟩ (.pointer A) := fun w a hf => by
  have h1 : ¬ len < m := by omega
  simp [execOp, hf.eval hx, Instr.arrayAt, run_underlying ht, h1]
theorem Run.copyStr {dst : Option Tmp} {gd : Option (Nat × Bool)} {x y : Operand} {t tx e e' : TypeId} {g o dl cap : Nat} {cs : List Value} {s : List UInt8} (hx : ev ρ x = some (.slice (some ⟨g, o, none⟩) dl cap)) (hy : ev ρ y = some (.string (str s))) (ht : P.underlying t = some (.slice e)) (hz : ∀ w, (sizeOf e).run P w = .ok 1 w)
    (hb : Blk w g e' cs) (hl : o + dl ≤ cs.length) : ∃ w', Run P ρ ⟨dst, .call { callee := .builtin .copy, args := #[x, y], argTypes := #[t, tx] }, ty, pos, af, gd⟩ w (.int .i64 (min s.length dl : Nat)) w' ∧ Blk w' g e' (lay cs o (bv (s.take (min s.length dl)))) ∧ Chg [g] w w' := by
  have hlen : (bv (s.take (min s.length dl))).length = min s.length dl := by rw [bv_len, List.length_take]; omega
  have h2 := setCells_facts g e' (bv (s.take (min s.length dl))) o w cs hb (by rw [hlen]; omega)
  have hrun := run_storeCells_cells (P := P) g o (bv (s.take (min s.length dl))) 0 w (fun j hj => (hb.writable (j := o + 0 + j) (by rw [hlen] at hj; omega)).1) (fun j hj => (hb.writable (j := o + 0 + j) (by rw [hlen] at hj; omega)).2) (fun v hv => by
    obtain ⟨b, _, rfl⟩ := List.mem_map.1 hv
    rfl)
  refine ⟨w.setCells g o (bv (s.take (min s.length dl))), fun a hf => ?_, h2.1, h2.2⟩
  have hex : (str s).extract 0 (min s.length dl) = str (s.take (min s.length dl)) := by rw [str_extract]; simp
  have hcells : ((str (s.take (min s.length dl))).data.map fun b => Value.int .u8 (b.toNat : Int)) = (bv (s.take (min s.length dl))).toArray := by simp [V.str, bv]
  have e1 : (Builtin.copy_ #[t, tx] ty #[.slice (some ⟨g, o, none⟩) dl cap, .string (str s)]).run P w = .ok (.int .i64 (min s.length dl : Nat)) (w.setCells g o (bv (s.take (min s.length dl)))) := by
    unfold Builtin.copy_
    have hmin : Nat.min (str s).size dl = min s.length dl := rfl
    simp only [Nat.add_zero] at hrun
    have hc2 : (bv (s.take (min s.length dl))).toArray.toList = bv (s.take (min s.length dl)) := rfl
    simp only [run_underlying ht, Builtin.lenOf, Builtin.firstCells, hz, hmin, hex, hcells, hc2, hrun, Sem.run_bind, Sem.run_pure, Result.andThen_ok, goInt, show (#[t, tx] : Array TypeId)[0]? = some t from rfl, show (#[Value.slice (some ⟨g, o, none⟩) dl cap, Value.string (str s)] : Array Value)[0]? = some (Value.slice (some ⟨g, o, none⟩) dl cap) from rfl, show (#[Value.slice (some ⟨g, o, none⟩) dl cap, Value.string (str s)] : Array Value)[1]? = some (Value.string (str s)) from rfl]
  simp [BigFrame.execOp_builtin, BigFrame.builtin_copy, hf.eval hx, hf.eval hy, e1]
theorem OL.valN {v : Value} {w' : World} (hr : Run P ρ ⟨none, op, ty, pos, af, none⟩ w v w') (h : OL P n ds ops R l ρ w') : OL P n ds ops R (⟨none, op, ty, pos, af, none⟩ :: l) ρ w := fun a ha => by
  refine wpList_plain rfl fun K hK => ?_
  unfold Oper.wp
  rw [hr a ha.fits]
  exact hK _ _ (h a ha)
theorem OL.lookup {x y : Operand} {t kt e : TypeId} {b : Nat} {k : Int} {z : Value} {f : Int → Value} (hx : ev ρ x = some (.map (some b))) (hy : ev ρ y = some (.int .i64 k)) (ht : P.underlying t = some (.map kt e)) (hk : P.underlying kt = some (.int .i64))
    (hz : ∀ w, (zeroValue e).run P w = .ok z w) (hm : Mp w b z f) (hd : Nat.blt d n = true) (h : OL P n ds ops R l ((d, f k) :: ρ) w) : OL P n ds ops R (⟨some d, .lookup t x y false, ty, pos, af, none⟩ :: l) ρ w := OL.val (Run.lookup hx hy ht hk hz hm) hd h
theorem OL.mapUpdate {x y u : Operand} {t kt e : TypeId} {b : Nat} {k : Int} {z v : Value} {f : Int → Value} (hx : ev ρ x = some (.map (some b))) (hy : ev ρ y = some (.int .i64 k)) (hu : ev ρ u = some v) (ht : P.underlying t = some (.map kt e)) (hk : P.underlying kt = some (.int .i64)) (hm : Mp w b z f)
    (h : ∀ w', Mp w' b z (fun j => if j = k then v else f j) → Chg [b] w w' → OL P n ds ops R l ρ w') : OL P n ds ops R (⟨none, .mapUpdate t x y u, ty, pos, af, none⟩ :: l) ρ w := by
  obtain ⟨w', h1, h2, h3⟩ := RunS.mapUpdate (dst := none) (gd := none) (ty := ty) (pos := pos) (af := af) hx hy hu ht hk hm
  exact OL.eff h1 (h w' h2 h3)
theorem OL.delete {x y : Operand} {t t2 kt e : TypeId} {b : Nat} {k : Int} {z : Value} {f : Int → Value} (hx : ev ρ x = some (.map (some b))) (hy : ev ρ y = some (.int .i64 k)) (ht : P.underlying t = some (.map kt e)) (hk : P.underlying kt = some (.int .i64)) (hm : Mp w b z f)
    (h : ∀ w', Mp w' b z (fun j => if j = k then z else f j) → Chg [b] w w' → OL P n ds ops R l ρ w') : OL P n ds ops R (⟨none, .call { callee := .builtin .delete, args := #[x, y], argTypes := #[t, t2] }, ty, pos, af, none⟩ :: l) ρ w := by
  obtain ⟨w', h1, h2, h3⟩ := Run.delete (dst := none) (gd := none) (ty := ty) (pos := pos) (af := af) (t2 := t2) hx hy ht hk hm
  exact OL.valN h1 (h w' h2 h3)
theorem OL.makeMap {t : TypeId} (z : Value) (hd : Nat.blt d n = true) (h : ∀ b w', Mp w' b z (fun _ => z) → Chg [] w w' → w.heap.size = b → OL P n ds ops R l ((d, .map (some b)) :: ρ) w') : OL P n ds ops R (⟨some d, .makeMap t none, ty, pos, af, none⟩ :: l) ρ w := by
  obtain ⟨w', h1, h2, h3⟩ := Run.makeMap (P := P) (ρ := ρ) (w := w) (dst := some d) (gd := none) (ty := ty) (pos := pos) (af := af) (t := t) z
  exact OL.val h1 hd (h _ w' h2 h3 rfl)
theorem OL.copyStr {x y : Operand} {t tx e e' : TypeId} {g o dl cap : Nat} {cs : List Value} {s : List UInt8} (hx : ev ρ x = some (.slice (some ⟨g, o, none⟩) dl cap)) (hy : ev ρ y = some (.string (str s))) (ht : P.underlying t = some (.slice e)) (hz : ∀ w, (sizeOf e).run P w = .ok 1 w)
    (hb : Blk w g e' cs) (hl : o + dl ≤ cs.length) (hd : Nat.blt d n = true) (h : ∀ w', Blk w' g e' (lay cs o (bv (s.take (min s.length dl)))) → Chg [g] w w' → OL P n ds ops R l ((d, .int .i64 (min s.length dl : Nat)) :: ρ) w') :
    OL P n ds ops R (⟨some d, .call { callee := .builtin .copy, args := #[x, y], argTypes := #[t, tx] }, ty, pos, af, none⟩ :: l) ρ w := by
  obtain ⟨w', h1, h2, h3⟩ := Run.copyStr (dst := some d) (gd := none) (ty := ty) (pos := pos) (af := af) (tx := tx) hx hy ht hz hb hl
  exact OL.val h1 hd (h w' h2 h3)
theorem OL.copyStrN {x y : Operand} {t tx e e' : TypeId} {g o dl cap : Nat} {cs : List Value} {s : List UInt8} (hx : ev ρ x = some (.slice (some ⟨g, o, none⟩) dl cap)) (hy : ev ρ y = some (.string (str s))) (ht : P.underlying t = some (.slice e)) (hz : ∀ w, (sizeOf e).run P w = .ok 1 w)
    (hb : Blk w g e' cs) (hl : o + dl ≤ cs.length) (h : ∀ w', Blk w' g e' (lay cs o (bv (s.take (min s.length dl)))) → Chg [g] w w' → OL P n ds ops R l ρ w') :
    OL P n ds ops R (⟨none, .call { callee := .builtin .copy, args := #[x, y], argTypes := #[t, tx] }, ty, pos, af, none⟩ :: l) ρ w := by
  obtain ⟨w', h1, h2, h3⟩ := Run.copyStr (dst := none) (gd := none) (ty := ty) (pos := pos) (af := af) (tx := tx) hx hy ht hz hb hl
  exact OL.valN h1 (h w' h2 h3)
end
end Go.V
/- The engine, continued: small laws. Conditions: none of its own. -/
set_option linter.unusedVariables false
namespace Go.V
open Go
section
variable {P : Program} {Q : Exit → Act → World → Prop} {F : Frame → Prop} {n : Nat} {ds : List Deferred} {k : List Item} {ρ : Env} {w : World} {dst : Option Tmp} {gd : Option (Nat × Bool)} {ty : TypeId} {pos : String} {af : Array Edge}
theorem Pure.max {x y : Operand} {k k' : IntKind} {m l : Int} {ts : Array TypeId} (hx : ev ρ x = some (.int k m)) (hy : ev ρ y = some (.int k' l)) : Pure P ρ ⟨dst, .call { callee := .builtin .max, args := #[x, y], argTypes := ts }, ty, pos, af, gd⟩ (.int k (max m l)) := fun w a hf => by
  simp [BigFrame.execOp_builtin, BigFrame.builtin_max, Builtin.max_, Builtin.max2, hf.eval hx, hf.eval hy]
  omega
theorem TE.regionIs {id : Nat} {ops : Array Oper} (is : List Nat) (hi : List.range ops.size = is) (h : TE F P Q n ds (.inRegion ops is :: k) ρ w) : TE F P Q n ds (.code (.region id ops false) :: k) ρ w := by
  subst hi
  exact TE.regionOps h
theorem TE.planIs {id : Nat} {l : List Oper} (m : Nat) (is : List Nat) (π : Plan) (S : World → Prop) (hm : P.follows .mixedOrders = true) (hB : planOK l.toArray m π = true) (hi : List.range' m (l.length - m) = is)
    (h : PL P n ds (l.toArray.extract 0 m) (NQ F P Q (.inRegion l.toArray is :: k)) S π ρ w.drew)
    (hd : Calm F l.toArray := by first | exact .inl (fun _ h_ => h_.2.1) | exact .inr rfl) : TE F P Q n ds (.code (.region id l.toArray true) :: k) ρ w := by
  subst hi
  exact TE.planTo m π S hm hB h hd
end
theorem Lp.gen {w : World} {l : Nat} {r : Loop} (h : Lp w l r) : ∃ r0, r0 = r ∧ Lp w l r0 := ⟨r, rfl, h⟩
section
variable {P : Program} {n : Nat} {ρ : Env} {w : World}
theorem rounds_rec {f l D : Nat} {assign body : Code} {ts : List Tmp} {vs : List Value} {C : Bool → World → Prop} {a : Act} {ds : List Deferred} (hl : Lp w l (rec0 f a.tmps ts.toArray assign body D)) (ha : Sat n ds a ρ) (hv : vs.length = ts.length) (hb : ts.all (Nat.blt · n) = true)
    (h : TE (FR f l) P (RQ l C) n [] [.code assign, .beginRound, .code body] (params ts vs ρ) w) : Rounds P l vs.toArray w C := rounds_of_TE hl ha rfl rfl hv hb h
theorem TE.beginRound' {Q : Exit → Act → World → Prop} {ds : List Deferred} {k : List Item} {f l : Nat} {r : Loop} (hl : Lp w l r) (hr : r.state = .ready) (h : ∀ w', Lp w' l { r with state := .busy } → Chg [l] w w' → TE (FR f l) P Q n ds k ρ w') : TE (FR f l) P Q n ds (.beginRound :: k) ρ w :=
  TE.beginRound hl hr (h _ hl.put (chg_putObj _ _ _))
theorem TE.roundEnd' {ds : List Deferred} {F : Frame → Prop} {l : Nat} {r : Loop} {C : Bool → World → Prop} (hl : Lp w l r) (h : ∀ w', Lp w' l { r with state := .ready, pending := none } → Chg [l] w w' → C true w') : TE F P (RQ l C) n ds [] ρ w :=
  TE.roundEnd (k := []) hl (h _ hl.put (chg_putObj _ _ _))
theorem TE.roundRet' {k : List Item} {ds : List Deferred} {F : Frame → Prop} {l : Nat} {r : Loop} {C : Bool → World → Prop} (hl : Lp w l r) (h : ∀ w', Lp w' l { r with state := .done, pending := some .ret } → Chg [l] w w' → C false w') : TE F P (RQ l C) n ds (.code .ret :: k) ρ w :=
  TE.roundRet hl (h _ hl.put (chg_putObj _ _ _))
theorem TE.rangeFunc' {Q : Exit → Act → World → Prop} {ds : List Deferred} {k : List Item} {f : FuncId} {x : Operand} {ps : Array Tmp} {assign body : Code} {g : Nat} {first captured : Array Value} (C : Nat → Nat → Act → Ending → World → Prop) (hx : ev ρ x = some (.func (.func g) first captured))
    (hg : ∀ args w, (callFunc g args).run P w = .ok (.enter g args) w)
    (hc : ∀ D l w1 a, Sat n ds a ρ → Chg [] w w1 → w.heap.size ≤ D → w.heap.size ≤ l → Df w1 D → Lp w1 l (rec0 f a.tmps ps assign body D) → Calls P g (first ++ #[.func (.yield l) #[] #[]] ++ captured) w1 (C D l a))
    (h : ∀ D l a e w2, w.heap.size ≤ D → w.heap.size ≤ l → C D l a e w2 → ∃ v r, e = .returned v ∧ Lp w2 l r ∧ r.state ≠ .busy ∧ ∀ w3, Lp w3 l { r with state := .exhausted } → Chg [l] w2 w3 → TE (FN f) P Q n (mark D :: ds) ((r.pending.map Item.code).toList ++ k) ρ w3) :
    TE (FN f) P Q n ds (.code (.rangeFunc x ps assign body) :: k) ρ w := by
  refine TE.rangeFunc hx hg hc fun D l a e w2 h1 h2 _ h3 => ?_
  obtain ⟨v, r, e1, hl, hb, h4⟩ := h D l a e w2 h1 h2 h3
  exact ⟨v, r, e1, hl, hb, h4 _ hl.put (chg_putObj _ _ _)⟩
theorem Unw.mark' {fn : Func} {tmps : Array Value} {R : Ending → World → Prop} {D : Nat} {ds : List Deferred} (hD : Df w D) (h : ∀ w', Chg [D] w w' → Unw P fn tmps R ds w') : Unw P fn tmps R (V.mark D :: ds) w := Unw.mark hD (h _ (chg_putObj _ _ _))
theorem loadCell_at {g o : Nat} {t e : TypeId} {cs : List Value} {v : Value} (ha : ∀ w, (isAgg t).run P w = .ok false w) (hb : Blk w g e cs) (hc : cs[o]? = some v) : (loadVar t ⟨g, o, none⟩).run P w = .ok v w := by
  have h1 : w.cell? ⟨g, o, none⟩ = some v := by rw [hb.cell, hc]
  simp [loadVar, ha, load, Sem.run, h1]
end
end Go.V
/- The engine, continued: structs and slices built of parts that are not written out. Conditions: none of its own. -/
set_option linter.unusedVariables false
namespace Go.V
open Go
theorem foldl_lay : ∀ (vs : List Value) (off k : Nat) (cs : List Value), off + k + vs.length ≤ cs.length →
    (vs.zipIdx k).foldl (fun (a : Array Value) (x : Value × Nat) => a.setIfInBounds (off + x.2) x.1) cs.toArray = (lay cs (off + k) vs).toArray
  | [], off, k, cs, h => by simp [lay]
  | v :: r, off, k, cs, h => by
    simp only [List.length_cons] at h
    simp only [List.zipIdx_cons, List.foldl_cons]
    have e1 : cs.toArray.setIfInBounds (off + k) v = (cs.set (off + k) v).toArray := by simp
    rw [e1, foldl_lay r off (k + 1) _ (by simp; omega)]
    congr 1
    simp only [lay, List.length_cons]
    rw [show off + (k + 1) = off + k + 1 by omega, List.drop_set_of_lt (by omega), List.take_succ_eq_append_getElem (by simp; omega), List.take_set_of_le (Nat.le_refl _)]
    simp [Nat.add_assoc, Nat.add_comm 1]
theorem fill_cons {place : Nat → Option (Nat × Nat)} {cs vs : List Value} {i off : Nat} {v : Value} {rest : List (Nat × Value)} (hp : place i = some (off, vs.length)) (hv : v.cells = vs.toArray) (hl : off + vs.length ≤ cs.length) :
    Instr.fill place cs.toArray ((i, v) :: rest) = Instr.fill place (lay cs off vs).toArray rest := by
  have h1 : ¬ (off + vs.length > cs.length) := by omega
  have h2 := foldl_lay vs off 0 cs (by omega)
  rw [Nat.add_zero] at h2
  have h3 : vs.toArray.zipIdx.foldl (fun (a : Array Value) (x : Value × Nat) => a.setIfInBounds (off + x.2) x.1) cs.toArray = (lay cs off vs).toArray := by
    rw [← h2, ← Array.foldl_toList]
    simp
  simp only [Instr.fill, hp, hv, List.size_toArray]
  rw [if_neg (by simp; omega)]
  exact congrArg (fun x => Instr.fill place x rest) h3
theorem built_struct {P : Program} {t : TypeId} {it : TypeInfo} {z : Value} {fs : Array Field} {places : List (Nat × Nat)} {parts : List (Nat × Value)} (hi : P.info? t = some it) (hu : P.underlying t = some (.struct fs)) (hz : it.zero = some z)
    (hp : fs.toList.mapM (fun f => (P.info? f.type).map fun i => (f.offset, i.size)) = some places) : P.built t parts = Instr.fill (places.toArray[·]?) z.cells parts := by
  simp only [Program.built, hi, hu, hz, hp]
theorem fill_one {cells : Array Value} {n : Nat} {v : Value} {vs : List Value} (hc : cells.size = n) (hv : v.cells = vs.toArray) (hl : vs.length = n) : Instr.fill (fun i => some (i * n, n)) cells [(0, v)] = some vs.toArray := by
  obtain ⟨cs⟩ := cells
  have hcs : cs.length = n := by simpa using hc
  rw [fill_cons (off := 0) (vs := vs) (by rw [hl]; simp) hv (by omega)]
  simp only [Instr.fill]
  rw [lay_all (by omega)]
end Go.V
/- The engine, continued: calls of closures in drawn regions, empty slices, the rest of a slice. Conditions: none of its own. -/
set_option linter.unusedVariables false
namespace Go.V
open Go
section
variable {P : Program} {Q R : Exit → Act → World → Prop} {n : Nat} {ds : List Deferred} {k : List Item} {ρ : Env} {w w' : World} {ops : Array Oper} {S : World → Prop} {π : Plan} {l : List Oper}
variable {i d : Nat} {op : Op} {ty : TypeId} {pos : String} {af : Array Edge} {v : Value} {dst : Option Tmp} {gd : Option (Nat × Bool)}
theorem PL.callFn {f : Nat} {x : Operand} {first captured : Array Value} {xs : List Operand} {ats : Array TypeId} {vs : List Value} {C : Ending → World → Prop} (ho : ops[i]? = some ⟨some d, .call { callee := .value x, args := xs.toArray, argTypes := ats }, ty, pos, af, none⟩) (hx : ev ρ x = some (.func (.func f) first captured)) (hargs : evs ρ xs = some vs)
    (hf : ∀ args w, (callFunc f args).run P w = .ok (.enter f args) w) (hd : Nat.blt d n = true) (hc : Calls P f (first ++ vs.toArray ++ captured) w C)
    (h : ∀ e w', C e w' → ∃ v, e = .returned v ∧ S w' ∧ PL P n ds ops R S π ((d, v) :: ρ) w') (hi : i < 1000 := by decide) :
    PL P n ds ops R S (.cons (i, false) π) ρ w := fun a ha => by
  simp only [wpPlan, hi, if_true]
  unfold wpOp
  simp only [ho]
  refine .inl ?_
  unfold Oper.wp
  have e1 : (xs.toArray.map a.eval) = vs.toArray := by rw [List.map_toArray, ha.fits.evals hargs]
  have e2 : execOp a.eval ⟨some d, .call { callee := .value x, args := xs.toArray, argTypes := ats }, ty, pos, af, none⟩ = (do let d ← Deferred.ofValue (a.eval x) (xs.toArray.map a.eval); Go.invoke d.target d.args) := rfl
  rw [e2, ha.fits.eval hx, e1]
  simp only [Deferred.ofValue, Sem.run_bind, Sem.run_pure, Result.andThen_ok, Go.invoke, hf]
  simp only [Oper.upon_enter]
  refine hc.mono fun e w' he => ?_
  obtain ⟨v, rfl, hs, hv⟩ := h e w' he
  exact ⟨hs, hv _ (ha.put v hd)⟩
theorem OL.buildSlice0 {t e : TypeId} {size : Nat} (ht : ∀ w, (underlying t).run P w = .ok (.slice e) w) (hz : ∀ w, (sizeOf e).run P w = .ok size w) (hd : Nat.blt d n = true)
    (h : ∀ g w', Row w' e size (.slice (some ⟨g, 0, none⟩) 0 0) 0 [] → Chg [] w w' → w.heap.size = g → OL P n ds ops R l ((d, .slice (some ⟨g, 0, none⟩) 0 0) :: ρ) w') : OL P n ds ops R (⟨some d, .buildSlice t 0 #[], ty, pos, af, none⟩ :: l) ρ w := by
  refine OL.val (v := .slice (some ⟨w.heap.size, 0, none⟩) 0 0) (w' := w.alloc (.cells #[] e)) (fun a hf => ?_) hd (h _ _ ⟨by simp, .inr ⟨w.heap.size, 0, [], rfl, blk_alloc w e [], Nat.le_refl _, by simp, by simp⟩⟩ (chg_alloc _ _) rfl)
  unfold execOp
  simp [Instr.buildSlice, ht, hz, newRow, Instr.fill]
  simp [Array.range]
/-- The rest of a slice of bytes. -/
theorem Pure.sliceRest {x y : Operand} {k : IntKind} {i : Int} {p q : Nat} {t e e' : TypeId} {bs : List UInt8} {v : Value} (ht : ∀ w, (underlying t).run P w = .ok (.slice e) w) (hs : ∀ w, (sizeOf e).run P w = .ok 1 w) (hx : ev ρ x = some v) (hy : ev ρ y = some (.int k i))
    (hi : i = p) (hrow : Row w e' 1 v bs.length (bv bs)) (hp : p ≤ bs.length) :
    ∃ A c, CellsB w A (bs.drop p) ∧ Pure P ρ ⟨dst, .slice t x (some y) none none, ty, pos, af, gd⟩ (.slice A (bs.drop p).length c) := by
  subst hi
  rcases hrow.2 with ⟨rfl, h0⟩ | ⟨g, cap, cs, rfl, hb, hcap, hcl, htk⟩
  · have : bs = [] := by cases bs <;> simp [bv] at h0 ⊢
    subst this
    have hp0 : p = 0 := by simpa using hp
    subst hp0
    refine ⟨none, 0, fun i hi => by simp at hi, fun w_ a hf => ?_⟩
    simp [execOp, hf.eval hx, hf.eval hy, Instr.sliceAt, ht, Instr.slice, Instr.sliceBounds, Instr.sliceBound, asIntOf, hs]
  · have h1 : p ≤ cap := by omega
    by_cases h2 : cap = p
    · refine ⟨some ⟨g, 0, none⟩, cap - p, fun i hi => by simp at hi; omega, fun w_ a hf => ?_⟩
      simp [execOp, hf.eval hx, hf.eval hy, Instr.sliceAt, ht, Instr.slice, Instr.sliceBounds, Instr.sliceBound, asIntOf, hs, hp, h2]
    · refine ⟨some ⟨g, p, none⟩, cap - p, fun i hi => ⟨g, p, rfl, ?_⟩, fun w_ a hf => ?_⟩
      · have hlen : p + i < bs.length := by simp at hi; omega
        rw [hb.cell]
        have h3 : (cs.take (bs.length * 1))[p + i]? = (bv bs)[p + i]? := by rw [htk]
        rw [bv_get hlen, List.getElem?_take, if_pos (by omega)] at h3
        rw [h3]
        congr 2
        unfold bt
        simp [List.getD_eq_getElem?_getD]
      · simp [execOp, hf.eval hx, hf.eval hy, Instr.sliceAt, ht, Instr.slice, Instr.sliceBounds, Instr.sliceBound, asIntOf, hs, hp, h2, Addr.add_mid]
end
end Go.V
/- The engine, continued: the rest of a slice, in a plan. Conditions: none of its own. -/
set_option linter.unusedVariables false
namespace Go.V
open Go
section
variable {P : Program} {Q R : Exit → Act → World → Prop} {n : Nat} {ds : List Deferred} {k : List Item} {ρ : Env} {w w' : World} {ops : Array Oper} {S : World → Prop} {π : Plan} {l : List Oper}
variable {i d : Nat} {op : Op} {ty : TypeId} {pos : String} {af : Array Edge} {v : Value} {dst : Option Tmp} {gd : Option (Nat × Bool)}
theorem PL.sliceRest {x y : Operand} {kk : IntKind} {j : Int} {p : Nat} {t e e' : TypeId} {bs : List UInt8} (ho : ops[i]? = some ⟨some d, .slice t x (some y) none none, ty, pos, af, none⟩) (ht : ∀ w, (underlying t).run P w = .ok (.slice e) w) (hs : ∀ w, (sizeOf e).run P w = .ok 1 w) (hx : ev ρ x = some v) (hy : ev ρ y = some (.int kk j))
    (hi : j = p) (hrow : Row w e' 1 v bs.length (bv bs)) (hp : p ≤ bs.length) (hd : Nat.blt d n = true) (hS : S w) (h : ∀ A c, CellsB w A (bs.drop p) → PL P n ds ops R S π ((d, .slice A (bs.drop p).length c) :: ρ) w) : PL P n ds ops R S (.cons (i, true) π) ρ w := by
  obtain ⟨A, c, h1, h2⟩ := Pure.sliceRest (P := P) (q := 0) (dst := some d) (gd := none) (ty := ty) (pos := pos) (af := af) ht hs hx hy hi hrow hp
  exact PL.takeP ho h2 hd hS (h A c h1)
theorem OL.sliceRest {x y : Operand} {kk : IntKind} {j : Int} {p : Nat} {t e e' : TypeId} {bs : List UInt8} (ht : ∀ w, (underlying t).run P w = .ok (.slice e) w) (hs : ∀ w, (sizeOf e).run P w = .ok 1 w) (hx : ev ρ x = some v) (hy : ev ρ y = some (.int kk j))
    (hi : j = p) (hrow : Row w e' 1 v bs.length (bv bs)) (hp : p ≤ bs.length) (hd : Nat.blt d n = true) (h : ∀ A c, CellsB w A (bs.drop p) → OL P n ds ops R l ((d, .slice A (bs.drop p).length c) :: ρ) w) : OL P n ds ops R (⟨some d, .slice t x (some y) none none, ty, pos, af, none⟩ :: l) ρ w := by
  obtain ⟨A, c, h1, h2⟩ := Pure.sliceRest (P := P) (q := 0) (dst := some d) (gd := none) (ty := ty) (pos := pos) (af := af) ht hs hx hy hi hrow hp
  exact OL.pure h2 hd (h A c h1)
end
end Go.V
/- The engine, continued: slices that begin somewhere in a block. Conditions: none of its own. -/
set_option linter.unusedVariables false
namespace Go.V
open Go
/-- The slice value v, of n elements of 'size' cells each, is nil, or holds the cells xs somewhere in a block. -/
def RowO (w : World) (e : TypeId) (size : Nat) (v : Value) (n : Nat) (xs : List Value) : Prop :=
  xs.length = n * size ∧ ((v = .slice none 0 0 ∧ n = 0) ∨ ∃ g o cap cs, v = .slice (some ⟨g, o, none⟩) n cap ∧ Blk w g e cs ∧ n ≤ cap ∧ o + cap * size ≤ cs.length ∧ (cs.drop o).take (n * size) = xs)
theorem RowO.nil (w : World) (e : TypeId) (size : Nat) : RowO w e size (.slice none 0 0) 0 [] := ⟨by simp, .inl ⟨rfl, rfl⟩⟩
theorem Row.toO {w : World} {e : TypeId} {size n : Nat} {v : Value} {xs : List Value} (h : Row w e size v n xs) : RowO w e size v n xs := by
  refine ⟨h.1, ?_⟩
  rcases h.2 with h2 | ⟨g, cap, cs, rfl, h3, h4, h5, h6⟩
  · exact .inl h2
  · exact .inr ⟨g, 0, cap, cs, rfl, h3, h4, by omega, by rw [List.drop_zero]; exact h6⟩
theorem RowO.chg {w w' : World} {e : TypeId} {size n : Nat} {v : Value} {xs : List Value} {bad : List Nat} (h : RowO w e size v n xs) (hc : Chg bad w w') (hb : ∀ k, k ∈ own v → k ∉ bad) : RowO w' e size v n xs := by
  refine ⟨h.1, ?_⟩
  rcases h.2 with h2 | ⟨g, o, cap, cs, rfl, h3, r⟩
  · exact .inl h2
  · exact .inr ⟨g, o, cap, cs, rfl, h3.chg hc (hb g (by simp [own])), r⟩
theorem RowO.chg0 {w w' : World} {e : TypeId} {size n : Nat} {v : Value} {xs : List Value} (h : RowO w e size v n xs) (hc : Chg [] w w') : RowO w' e size v n xs := h.chg hc (fun _ _ => by simp)
theorem RowO.lt {w : World} {e : TypeId} {size n : Nat} {v : Value} {xs : List Value} (h : RowO w e size v n xs) : ∀ k, k ∈ own v → k < w.heap.size := by
  rcases h.2 with ⟨rfl, _⟩ | ⟨g, o, cap, cs, rfl, h3, _⟩
  · simp [own]
  · intro k hk; have : k = g := by simpa [own] using hk
    subst this; exact h3.lt
theorem RowO.shape {w : World} {e : TypeId} {size n : Nat} {v : Value} {xs : List Value} (h : RowO w e size v n xs) : ∃ A cap, v = .slice A n cap ∧ n ≤ cap := by
  rcases h.2 with ⟨rfl, rfl⟩ | ⟨g, o, cap, cs, rfl, _, h3, _⟩
  · exact ⟨none, 0, rfl, Nat.le_refl _⟩
  · exact ⟨_, cap, rfl, h3⟩
theorem RowO.form {w : World} {e : TypeId} {size n : Nat} {v : Value} {xs : List Value} (h : RowO w e size v n xs) (hn : 0 < n) :
    ∃ g o cap cs, v = .slice (some ⟨g, o, none⟩) n cap ∧ Blk w g e cs ∧ n ≤ cap ∧ o + cap * size ≤ cs.length ∧ (cs.drop o).take (n * size) = xs := by
  rcases h.2 with ⟨_, h0⟩ | h2
  · omega
  · exact h2
theorem RowO.cell1 {w : World} {e : TypeId} {size n : Nat} {v : Value} {xs : List Value} (h : RowO w e size v n xs) : v.cells = #[v] := by
  obtain ⟨A, cap, rfl, _⟩ := h.shape
  rfl
theorem RowO.oneCell {w : World} {e : TypeId} {size n : Nat} {v : Value} {xs : List Value} (h : RowO w e size v n xs) : v.oneCell' = true := by
  obtain ⟨A, cap, rfl, _⟩ := h.shape
  rfl
theorem RowO.notin {w : World} {e t : TypeId} {size n g : Nat} {v : Value} {xs cs : List Value} (h : RowO w e size v n xs) (hb : Blk w g t cs) (ht : e ≠ t) : g ∉ own v := by
  rcases h.2 with ⟨rfl, _⟩ | ⟨g', o, cap, cs', rfl, h3, _⟩
  · simp [own]
  · intro hk; have : g = g' := by simpa [own] using hk
    subst this; exact h3.ne hb ht rfl
theorem RowO.apart {w : World} {e t : TypeId} {size n g : Nat} {v : Value} {xs cs : List Value} (h : RowO w e size v n xs) (hb : Blk w g t cs) (ht : e ≠ t) : ∀ k, k ∈ own v → k ∉ [g] := fun k hk hm => by
  have : k = g := by simpa using hm
  subst this; exact h.notin hb ht hk
theorem lay_row {cs xs news : List Value} {o a b : Nat} (h : (cs.drop o).take a = xs) (hx : xs.length = a) (hb : (xs ++ news).length = b) (hf : o + a + news.length ≤ cs.length) : ((lay cs (o + a) news).drop o).take b = xs ++ news := by
  have h1 : lay cs (o + a) news = cs.take o ++ ((cs.drop o).take a ++ news ++ cs.drop (o + a + news.length)) := by
    simp only [lay]
    rw [List.take_add]
    simp only [List.append_assoc]
  have h2 : (cs.take o).length = o := by simp; omega
  rw [h1, List.drop_append_of_le_length (by omega), List.drop_of_length_le (by omega), List.nil_append, h, ← hb, List.take_left]
theorem run_appendO {P : Program} {w : World} {t tx ty e : TypeId} {i : TypeInfo} {z : Value} {size n m : Nat} {v x : Value} {xs news : List Value}
    (ht : P.underlying t = some (.slice e)) (htx : P.underlying tx = some (.slice e) ∨ P.underlying tx = some .string) (hi : P.info? e = some i) (hz : i.zero = some z) (hsize : i.size = size) (hzs : z.cells.size = size) (hb0 : 0 < i.bytes)
    (hrow : RowO w e size v n xs) (hsrc : Src P size x m news w) (h1 : ∀ u ∈ news, u.oneCell' = true) (hb : (n + m) * i.bytes ≤ 140737488355328) :
    ∃ v' w', (Builtin.append_ #[t, tx] ty #[v, x]).run P w = .ok v' w' ∧ RowO w' e size v' (n + m) (xs ++ news) ∧ Chg (own v) w w' ∧ (∀ k, k ∈ own v' → k ∈ own v ∨ w.heap.size ≤ k) := by
  subst hsize
  obtain ⟨hlen, hnl, hfirst⟩ := hsrc
  have hnm : n + m ≤ 140737488355328 := Nat.le_trans (Nat.le_mul_of_pos_right _ hb0) hb
  have hxl : (xs ++ news).length = (n + m) * i.size := by rw [List.length_append, hrow.1, hnl, Nat.add_mul]
  have h63 : ¬ (9223372036854775807 < (n : Int) + m) := by omega
  -- a new array
  have grow : ∀ (old : Nat), old < n + m → RowO (w.drew.alloc (.cells (xs.toArray ++ news.toArray ++ Builtin.zeroCells z.cells (grownCap w (n + m) old e - (n + m))) e)) e i.size (.slice (some ⟨w.heap.size, 0, none⟩) (n + m) (grownCap w (n + m) old e)) (n + m) (xs ++ news) ∧
      Chg (own v) w (w.drew.alloc (.cells (xs.toArray ++ news.toArray ++ Builtin.zeroCells z.cells (grownCap w (n + m) old e - (n + m))) e)) := fun old ho => by
    have hge := grownCap_ge w (n + m) old e
    refine ⟨⟨hxl, .inr ⟨w.heap.size, 0, _, xs ++ news ++ (Builtin.zeroCells z.cells (grownCap w (n + m) old e - (n + m))).toList, rfl, ?_, hge, ?_, ?_⟩⟩, ?_⟩
    · have e1 : xs.toArray ++ news.toArray ++ Builtin.zeroCells z.cells (grownCap w (n + m) old e - (n + m)) = (xs ++ news ++ (Builtin.zeroCells z.cells (grownCap w (n + m) old e - (n + m))).toList).toArray := by
        apply Array.ext'; simp
      rw [e1]
      exact blk_alloc w.drew e _
    · simp only [List.length_append, Array.length_toList, size_zeroCells, hzs, hrow.1, hnl, ← Nat.add_mul, Nat.zero_add]
      exact Nat.mul_le_mul_right _ (by omega)
    · rw [List.drop_zero, ← hxl, List.take_left]
    · exact ((Chg.drew [] w).then_ (chg_alloc _ _)).mono (fun k hk => by cases hk)
  have fits : ∀ old, old < n + m → ¬ (281474976710656 < Builtin.nextslicecap (n + m) old * i.bytes) := fun old ho => by
    have := growslice_fits ho hb
    omega
  have fresh : ∀ c, ∀ k, k ∈ own (.slice (some ⟨w.heap.size, 0, none⟩) (n + m) c) → k ∈ own v ∨ w.heap.size ≤ k := fun c k hk => by
    have : k = w.heap.size := by simpa [own] using hk
    exact .inr (by omega)
  rcases hrow.2 with ⟨hv, hn⟩ | ⟨g, o, cap, cs, hv, hblk, hnc, hcs, htake⟩
  · subst hv
    subst hn
    have hx0 : xs = [] := List.eq_nil_of_length_eq_zero (by simpa using hrow.1)
    subst hx0
    by_cases hm : m = 0
    · subst hm
      have hn0 : news = [] := List.eq_nil_of_length_eq_zero (by simpa using hnl)
      subst hn0
      refine ⟨.slice none 0 0, w, ?_, RowO.nil _ _ _, Chg.refl _ _, by simp [own]⟩
      have hf := hfirst w (Chg.refl _ _)
      rcases htx with htx | htx <;> simp [Builtin.append_, run_underlying ht, run_underlying htx, sizeOf, typeInfo, hi, hlen, hf]
    · have hg := grow 0 (by omega)
      have hf := hfirst w.drew (Chg.drew _ _)
      have hfit := fits 0 (by omega)
      simp only [Nat.zero_add, List.nil_append] at hg hfit h63
      have h63' : ¬ (9223372036854775807 < (m : Int)) := by omega
      refine ⟨_, _, ?_, by simpa using hg.1, by simpa using hg.2, by simpa using fresh _⟩
      rcases htx with htx | htx <;> simp [Builtin.append_, run_underlying ht, run_underlying htx, sizeOf, typeInfo, zeroValue, hi, hz, hlen, hm, h63', hfit, Question.forced, run_firstCells_none, hf, newRow, grownCap]
  · subst hv
    by_cases hroom : n + m ≤ cap
    · have hf := hfirst w (Chg.refl _ _)
      have hfit : o + n * i.size + news.length ≤ cs.length := by
        have h9 := Nat.mul_le_mul_right i.size hroom
        rw [Nat.add_mul] at h9
        omega
      have hst := run_storeCells_cells (P := P) g (o + n * i.size) news 0 w (fun j hj => (hblk.writable (by omega)).1) (fun j hj => (hblk.writable (by omega)).2) h1
      have hfacts := setCells_facts g e news (o + n * i.size) w cs hblk hfit
      simp only [Nat.add_zero] at hst
      refine ⟨.slice (some ⟨g, o, none⟩) (n + m) cap, w.setCells g (o + n * i.size) news, ?_, ⟨hxl, .inr ⟨g, o, cap, _, rfl, hfacts.1, hroom, by rw [lay_len hfit]; exact hcs, ?_⟩⟩, by simpa [own] using hfacts.2, fun k hk => .inl (by simpa [own] using hk)⟩
      · rcases htx with htx | htx <;> simp [Builtin.append_, run_underlying ht, run_underlying htx, sizeOf, typeInfo, hi, hlen, hroom, hf, Addr.add_mid, hst]
      · exact lay_row htake hrow.1 hxl hfit
    · have hg := grow cap (by omega)
      have hf := hfirst w.drew (Chg.drew _ _)
      have hfit := fits cap (by omega)
      have hold : (Builtin.firstCells i.size n (.slice (some ⟨g, o, none⟩) n cap)).run P w.drew = .ok xs.toArray w.drew :=
        run_firstCells_some (P := P) w.drew i.size n ⟨g, o, none⟩ n cap xs hrow.1 fun j u hu => by
          have h2 := (hblk.chg0 (Chg.drew [] w)).range o (n * i.size)
          rw [htake] at h2
          rw [Addr.add_mid]
          exact h2 j u hu
      refine ⟨_, _, ?_, hg.1, hg.2, fresh _⟩
      have e1 : xs.toArray ++ (news.toArray ++ Builtin.zeroCells z.cells (grownCap w (n + m) cap e - (n + m))) = (xs ++ news).toArray ++ Builtin.zeroCells z.cells (grownCap w (n + m) cap e - (n + m)) := by
        apply Array.ext'; simp
      unfold grownCap at e1
      rcases htx with htx | htx <;> simp [Builtin.append_, run_underlying ht, run_underlying htx, sizeOf, typeInfo, zeroValue, hi, hz, hlen, hroom, h63, hfit, Question.forced, hold, hf, newRow, grownCap, e1]

section
variable {P : Program} {Q R : Exit → Act → World → Prop} {n : Nat} {ds : List Deferred} {ρ : Env} {w : World} {ops : Array Oper} {l : List Oper} {d i : Nat} {ty : TypeId} {pos : String} {af : Array Edge} {S : World → Prop} {π : Plan}
theorem Run.appendO {dst : Option Tmp} {gd : Option (Nat × Bool)} {s x : Operand} {t tx e : TypeId} {i : TypeInfo} {z : Value} {size m q : Nat} {v u : Value} {xs news : List Value} (hs : ev ρ s = some v) (hx : ev ρ x = some u)
    (ht : P.underlying t = some (.slice e)) (htx : P.underlying tx = some (.slice e) ∨ P.underlying tx = some .string) (hi : P.info? e = some i) (hz : i.zero = some z) (hsize : i.size = size) (hzs : z.cells.size = size) (hb0 : 0 < i.bytes)
    (hrow : RowO w e size v q xs) (hsrc : Src P size u m news w) (h1 : ∀ u ∈ news, u.oneCell' = true) (hb : (q + m) * i.bytes ≤ 140737488355328) :
    ∃ v' w', Run P ρ ⟨dst, .call { callee := .builtin .append, args := #[s, x], argTypes := #[t, tx] }, ty, pos, af, gd⟩ w v' w' ∧ RowO w' e size v' (q + m) (xs ++ news) ∧ Chg (own v) w w' ∧ (∀ k, k ∈ own v' → k ∈ own v ∨ w.heap.size ≤ k) := by
  obtain ⟨v', w', hr, h2⟩ := run_appendO (ty := ty) ht htx hi hz hsize hzs hb0 hrow hsrc h1 hb
  exact ⟨v', w', fun a hf => by simp [BigFrame.execOp_builtin, BigFrame.builtin_append, hf.eval hs, hf.eval hx, hr], h2⟩
theorem PL.appendCO {s x : Operand} {t tx e : TypeId} {j : TypeInfo} {z : Value} {size m q : Nat} {v u : Value} {xs news : List Value} (ho : ops[i]? = some ⟨some d, .call { callee := .builtin .append, args := #[s, x], argTypes := #[t, tx] }, ty, pos, af, none⟩) (hs : ev ρ s = some v) (hx : ev ρ x = some u)
    (ht : P.underlying t = some (.slice e)) (htx : P.underlying tx = some (.slice e) ∨ P.underlying tx = some .string) (hi : P.info? e = some j) (hz : j.zero = some z) (hsize : j.size = size) (hzs : z.cells.size = size) (hb0 : 0 < j.bytes)
    (hd : Nat.blt d n = true) (hrow : RowO w e size v q xs) (hsrc : Src P size u m news w) (h1 : ∀ u ∈ news, u.oneCell' = true) (hb : (q + m) * j.bytes ≤ 140737488355328) (hS : ∀ w', Chg (own v) w w' → S w')
    (h : ∀ v' w', RowO w' e size v' (q + m) (xs ++ news) → Chg (own v) w w' → (∀ k, k ∈ own v' → k ∈ own v ∨ w.heap.size ≤ k) → PL P n ds ops R S π ((d, v') :: ρ) w') (hi1000 : i < 1000 := by decide) :
    PL P n ds ops R S (.cons (i, false) π) ρ w := by
  obtain ⟨v', w', hr, h2, h3, h4⟩ := Run.appendO (ty := ty) (pos := pos) (af := af) (dst := some d) (gd := none) hs hx ht htx hi hz hsize hzs hb0 hrow hsrc h1 hb
  exact PL.val ho hr hd (hS _ h3) (h v' w' h2 h3 h4) hi1000
theorem Pure.lenRowO {dst : Option Tmp} {gd : Option (Nat × Bool)} {x : Operand} {t e e' : TypeId} {size q : Nat} {v : Value} {xs : List Value} (ht : ∀ w, (underlying t).run P w = .ok (.slice e) w) (hx : ev ρ x = some v) (hrow : RowO w e' size v q xs) :
    Pure P ρ ⟨dst, .call { callee := .builtin .len, args := #[x], argTypes := #[t] }, ty, pos, af, gd⟩ (.int .i64 q) := by
  obtain ⟨A, cap, rfl, _⟩ := hrow.shape
  exact Pure.lenSlice ht hx
/-- The rest of a slice of structs. -/
theorem Pure.sliceRestO {dst : Option Tmp} {gd : Option (Nat × Bool)} {x y : Operand} {kk : IntKind} {j : Int} {p q size : Nat} {t e e' : TypeId} {xs : List Value} {v : Value} (ht : ∀ w, (underlying t).run P w = .ok (.slice e) w) (hs : ∀ w, (sizeOf e).run P w = .ok size w) (hx : ev ρ x = some v) (hy : ev ρ y = some (.int kk j))
    (hi : j = p) (hrow : RowO w e' size v q xs) (hp : p ≤ q) :
    ∃ v', RowO w e' size v' (q - p) (xs.drop (p * size)) ∧ own v' = own v ∧ Pure P ρ ⟨dst, .slice t x (some y) none none, ty, pos, af, gd⟩ v' := by
  subst hi
  have hxl : (xs.drop (p * size)).length = (q - p) * size := by rw [List.length_drop, hrow.1, Nat.sub_mul]
  rcases hrow.2 with ⟨rfl, rfl⟩ | ⟨g, o, cap, cs, rfl, hb, hcap, hcl, htk⟩
  · obtain rfl : p = 0 := by omega
    refine ⟨.slice none 0 0, ⟨hxl, .inl ⟨rfl, rfl⟩⟩, rfl, fun w_ a hf => ?_⟩
    simp [execOp, hf.eval hx, hf.eval hy, Instr.sliceAt, ht, Instr.slice, Instr.sliceBounds, Instr.sliceBound, asIntOf, hs]
  · by_cases h2 : cap = p
    · refine ⟨.slice (some ⟨g, o, none⟩) (q - p) (cap - p), ⟨hxl, .inr ⟨g, o, cap - p, cs, rfl, hb, by omega, ?_, ?_⟩⟩, rfl, fun w_ a hf => ?_⟩
      · have : (cap - p) * size = 0 := by rw [h2, Nat.sub_self, Nat.zero_mul]
        omega
      · have h0 : q - p = 0 := by omega
        have h1 : xs.drop (p * size) = [] := List.eq_nil_of_length_eq_zero (by rw [hxl, h0, Nat.zero_mul])
        rw [h0, Nat.zero_mul, List.take_zero, h1]
      · have h3 : p ≤ cap := by omega
        simp [execOp, hf.eval hx, hf.eval hy, Instr.sliceAt, ht, Instr.slice, Instr.sliceBounds, Instr.sliceBound, asIntOf, hs, hp, h2]
    · refine ⟨.slice (some ⟨g, o + p * size, none⟩) (q - p) (cap - p), ⟨hxl, .inr ⟨g, o + p * size, cap - p, cs, rfl, hb, by omega, ?_, ?_⟩⟩, rfl, fun w_ a hf => ?_⟩
      · have : (cap - p) * size + p * size = cap * size := by rw [← Nat.add_mul]; congr 1; omega
        omega
      · rw [← htk, ← List.drop_drop, List.drop_take, Nat.sub_mul]
      · have h3 : p ≤ cap := by omega
        simp [execOp, hf.eval hx, hf.eval hy, Instr.sliceAt, ht, Instr.slice, Instr.sliceBounds, Instr.sliceBound, asIntOf, hs, hp, h2, Addr.add_mid]
theorem PL.sliceRestO {x y : Operand} {kk : IntKind} {j : Int} {p q size : Nat} {t e e' : TypeId} {xs : List Value} {v : Value} (ho : ops[i]? = some ⟨some d, .slice t x (some y) none none, ty, pos, af, none⟩) (ht : ∀ w, (underlying t).run P w = .ok (.slice e) w) (hs : ∀ w, (sizeOf e).run P w = .ok size w) (hx : ev ρ x = some v) (hy : ev ρ y = some (.int kk j))
    (hi : j = p) (hrow : RowO w e' size v q xs) (hp : p ≤ q) (hd : Nat.blt d n = true) (hS : S w) (h : ∀ v', RowO w e' size v' (q - p) (xs.drop (p * size)) → own v' = own v → PL P n ds ops R S π ((d, v') :: ρ) w) : PL P n ds ops R S (.cons (i, true) π) ρ w := by
  obtain ⟨v', h1, h2, h3⟩ := Pure.sliceRestO (P := P) (dst := some d) (gd := none) (ty := ty) (pos := pos) (af := af) ht hs hx hy hi hrow hp
  exact PL.takeP ho h3 hd hS (h v' h1 h2)
end
end Go.V
/- The engine, continued: a slice from a place on. Conditions: none of its own. -/
set_option linter.unusedVariables false
namespace Go.V
open Go
section
variable {P : Program} {ρ : Env} {w : World} {dst : Option Tmp} {ty : TypeId} {pos : String} {af : Array Edge} {gd : Option (Nat × Bool)}
theorem Pure.sliceSlFrom {x y : Operand} {kk : IntKind} {j : Int} {g o len cap q size : Nat} {t e : TypeId}
    (ht : ∀ w, (underlying t).run P w = .ok (.slice e) w) (hs : ∀ w, (sizeOf e).run P w = .ok size w) (hx : ev ρ x = some (.slice (some ⟨g, o, none⟩) len cap)) (hy : ev ρ y = some (.int kk j)) (hj : j = q) (h1 : q ≤ len) (h2 : len ≤ cap) (h3 : q < cap) :
    Pure P ρ ⟨dst, .slice t x (some y) none none, ty, pos, af, gd⟩ (.slice (some ⟨g, o + q * size, none⟩) (len - q) (cap - q)) := by
  subst hj
  intro w_ a hf
  have h4 : ¬ cap = q := by omega
  have h5 : q ≤ cap := by omega
  simp [execOp, hf.eval hx, hf.eval hy, Instr.sliceAt, ht, Instr.slice, Instr.sliceBounds, Instr.sliceBound, asIntOf, hs, h1, h2, h4, h5, Addr.add_mid]
end
theorem Unw.fin {P : Program} {n : Nat} {ρ : Env} {w : World} {fn : Func} {a : Act} {ds : List Deferred} {R : Ending → World → Prop} {rs : List ResultVar} {vs : List Value} (ha : Sat n ds a ρ) (hr : fn.results = rs.toArray) (hg : Gives P w ρ rs vs) (h : R (.returned (pack vs)) w) : Unw P fn a.tmps R [] w := Unw.done ha hr hg h
section
variable {P : Program} {Q R : Exit → Act → World → Prop} {n : Nat} {ds : List Deferred} {ρ : Env} {w : World} {ops : Array Oper} {d i : Nat} {op : Op} {ty : TypeId} {pos : String} {af : Array Edge} {S : World → Prop} {π : Plan}
/-- A guarded one that is not wanted. -/
theorem PL.takeNo {g : Nat} {b : Bool} {dj : Nat} {u : Value} (ho : ops[i]? = some ⟨some d, op, ty, pos, af, some (g, b)⟩) (hg : (ops[g]?).bind (·.dst) = some dj) (hj : Nat.blt dj n = true) (hl : look ρ dj = some u) (hu : gb u b = false) (hd : Nat.blt d n = true) (hS : S w)
    (h : PL P n ds ops R S π ((d, undef) :: ρ) w) : PL P n ds ops R S (.cons (i, true) π) ρ w := fun a ha =>
  ⟨_, undef, S, fun _ h => h, ho, .inr ⟨by rw [wanted_of (g := (g, b)) hg (ha.at_ hj hl)]; exact hu, rfl⟩, hS, h _ (ha.put undef hd)⟩
theorem PL.valNo {g : Nat} {b : Bool} {dj : Nat} {u : Value} (ho : ops[i]? = some ⟨some d, op, ty, pos, af, some (g, b)⟩) (hg : (ops[g]?).bind (·.dst) = some dj) (hj : Nat.blt dj n = true) (hl : look ρ dj = some u) (hu : gb u b = false) (hd : Nat.blt d n = true) (hS : S w)
    (h : PL P n ds ops Q S π ((d, undef) :: ρ) w) (hi : i < 1000 := by decide) : PL P n ds ops Q S (.cons (i, false) π) ρ w := fun a ha => by
  have hwn : Region.wanted ⟨some d, op, ty, pos, af, some (g, b)⟩ (yielded ops a.tmps) = false := by rw [wanted_of (g := (g, b)) hg (ha.at_ hj hl)]; exact hu
  simp only [wpPlan, hi, if_true]
  unfold wpOp
  simp only [ho, hwn]
  simp only [Bool.false_eq_true, if_false]
  exact ⟨hS, h _ (ha.put undef hd)⟩
theorem PL.storeRowS {x y : Operand} {g o : Nat} {t e : TypeId} {cs vs : List Value} (ho : ops[i]? = some ⟨none, .store t x y, ty, pos, af, none⟩) (hx : ev ρ x = some (.pointer (some ⟨g, o, none⟩))) (hy : ev ρ y = some (.agg vs.toArray)) (hn : (P.info? t).map (·.size) = some vs.length) (h1 : ∀ v ∈ vs, v.oneCell' = true)
    (hb : Blk w g e cs) (hl : o + vs.length ≤ cs.length) (hS : ∀ w', Blk w' g e (lay cs o vs) → Chg [g] w w' → S w') (h : ∀ w', Blk w' g e (lay cs o vs) → Chg [g] w w' → PL P n ds ops R S π ρ w') (hi1000 : i < 1000 := by decide) : PL P n ds ops R S (.cons (i, false) π) ρ w := by
  obtain ⟨w', h2, h3, h4⟩ := RunS.storeRow (ty := ty) (pos := pos) (af := af) hx hy hn h1 hb hl
  exact PL.eff ho h2 (hS _ h3 h4) (h _ h3 h4) hi1000
theorem PL.storeS {x y : Operand} {g o j : Nat} {t e : TypeId} {cs : List Value} {u v : Value} (ho : ops[i]? = some ⟨none, .store t x y, ty, pos, af, none⟩) (hx : ev ρ x = some (.pointer (some ⟨g, o, none⟩))) (hy : ev ρ y = some v) (hz : ∀ w, (sizeOf t).run P w = .ok 1 w) (h1 : v.oneCell' = true)
    (hb : Blk w g e cs) (hi : o = j) (hc : cs[j]? = some u) (hS : ∀ w', Blk w' g e (cs.set j v) → Chg [g] w w' → S w') (h : ∀ w', Blk w' g e (cs.set j v) → Chg [g] w w' → PL P n ds ops R S π ρ w') (hi1000 : i < 1000 := by decide) : PL P n ds ops R S (.cons (i, false) π) ρ w :=
  PL.eff ho (RunS.store hx hy hz h1 hb hi hc) (hS _ (blk_setRow hb (by simp)) (chg_setRow _ _ _)) (h _ (blk_setRow hb (by simp)) (chg_setRow _ _ _)) hi1000
end
end Go.V
/- The engine, continued: copy and make in a plan; one cell of a block. Conditions: none of its own. -/
set_option linter.unusedVariables false
namespace Go.V
open Go
/-- One cell of a block. -/
def CellIs (w : World) (g : Nat) (t : TypeId) (j : Nat) (v : Value) : Prop := ∃ cs, Blk w g t cs ∧ cs[j]? = some v
theorem CellIs.chg {w w' : World} {g j : Nat} {t : TypeId} {v : Value} {bad : List Nat} (h : CellIs w g t j v) (hc : Chg bad w w') (hg : g ∉ bad) : CellIs w' g t j v := by
  obtain ⟨cs, h1, h2⟩ := h
  exact ⟨cs, h1.chg hc hg, h2⟩
theorem CellIs.chg0 {w w' : World} {g j : Nat} {t : TypeId} {v : Value} (h : CellIs w g t j v) (hc : Chg [] w w') : CellIs w' g t j v := h.chg hc (by simp)
theorem CellIs.cell {w : World} {g j : Nat} {t : TypeId} {v : Value} (h : CellIs w g t j v) : w.cell? ⟨g, j, none⟩ = some v := by
  obtain ⟨cs, h1, h2⟩ := h
  rw [h1.cell, h2]
section
variable {P : Program} {Q R : Exit → Act → World → Prop} {n : Nat} {ds : List Deferred} {ρ : Env} {w : World} {ops : Array Oper} {d i : Nat} {op : Op} {ty : TypeId} {pos : String} {af : Array Edge} {S : World → Prop} {π : Plan} {v : Value} {l : List Oper}
theorem PL.copyStr {x y : Operand} {t tx e e' : TypeId} {g o dl cap : Nat} {cs : List Value} {s : List UInt8} (ho : ops[i]? = some ⟨some d, .call { callee := .builtin .copy, args := #[x, y], argTypes := #[t, tx] }, ty, pos, af, none⟩) (hx : ev ρ x = some (.slice (some ⟨g, o, none⟩) dl cap)) (hy : ev ρ y = some (.string (str s))) (ht : P.underlying t = some (.slice e)) (hz : ∀ w, (sizeOf e).run P w = .ok 1 w)
    (hb : Blk w g e' cs) (hl : o + dl ≤ cs.length) (hd : Nat.blt d n = true) (hS : ∀ w', Chg [g] w w' → S w') (h : ∀ w', Blk w' g e' (lay cs o (bv (s.take (min s.length dl)))) → Chg [g] w w' → PL P n ds ops R S π ((d, .int .i64 (min s.length dl : Nat)) :: ρ) w') (hi1000 : i < 1000 := by decide) :
    PL P n ds ops R S (.cons (i, false) π) ρ w := by
  obtain ⟨w', h1, h2, h3⟩ := Run.copyStr (P := P) (dst := some d) (gd := none) (ty := ty) (pos := pos) (af := af) (tx := tx) hx hy ht hz hb hl
  exact PL.val ho h1 hd (hS _ h3) (h w' h2 h3) hi1000
theorem PL.makeSlice {x y : Operand} {t e : TypeId} {j : TypeInfo} {z : Value} {k k' : IntKind} {m c : Nat} (ho : ops[i]? = some ⟨some d, .makeSlice t x y, ty, pos, af, none⟩) (hx : ev ρ x = some (.int k (m : Int))) (hy : ev ρ y = some (.int k' (c : Int))) (ht : P.underlying t = some (.slice e)) (hi : P.info? e = some j) (hz : j.zero = some z)
    (hs : j.size = 1) (hzc : z.cells = #[v]) (hmc : m ≤ c) (hb : j.bytes * c ≤ 281474976710656) (hc : c ≤ 9223372036854775807) (hd : Nat.blt d n = true) (hS : ∀ w', Chg [] w w' → S w')
    (h : ∀ g w', Blk w' g e (List.replicate c v) → Chg [] w w' → w.heap.size = g → PL P n ds ops R S π ((d, .slice (some ⟨g, 0, none⟩) m c) :: ρ) w') (hi1000 : i < 1000 := by decide) : PL P n ds ops R S (.cons (i, false) π) ρ w :=
  PL.val ho (v := .slice (some ⟨w.heap.size, 0, none⟩) m c) (w' := w.alloc (.cells (List.replicate c v).toArray e)) (fun a hf => by
    have hb' : (j.bytes : Int) * (c : Int) ≤ 281474976710656 := by
      have h : ((j.bytes * c : Nat) : Int) ≤ 281474976710656 := by omega
      rwa [Int.natCast_mul] at h
    have hr := run_make (P := P) w t e j z ht hi hz k k' (m : Int) (c : Int) (by omega) (by omega) hb' (by omega)
    simp only [Int.toNat_natCast, hs, Nat.mul_one, hzc, madeCells_one] at hr
    simp [execOp, hf.eval hx, hf.eval hy, hr]) hd (hS _ (chg_alloc _ _)) (h _ _ (by simpa using blk_alloc w e (List.replicate c v)) (chg_alloc _ _) rfl) hi1000
end
end Go.V
/- The engine, continued: operations of rings among the arguments. Conditions: none of its own. -/
set_option linter.unusedVariables false
namespace Go.V
open Go
structure Opr where
  k : Nat
  N : Nat
  B : Nat
  X : Option Addr
  m : Nat
  c : Nat
def Opr.zero : Opr := ⟨0, 0, 0, none, 0, 0⟩
def Opr.cells (o : Opr) : List Value := [.int .u8 (o.k : Int), .int .u16 (o.N : Int), .int .u8 (o.B : Int), .slice o.X o.m o.c]
/-- The cells of a slice of operations, as far as it goes. -/
def CellsOp (w : World) (A : Option Addr) (L : List Opr) : Prop :=
  ∀ i, i < L.length → ∃ g o, A = some ⟨g, o, none⟩ ∧ w.rangeAt g (o + 4 * i) (L.getD i Opr.zero).cells
theorem rangeAt_chg {w w' : World} {g o : Nat} {cs : List Value} (h : w.rangeAt g o cs) (hc : Chg [] w w') : w'.rangeAt g o cs := fun j v hv => cell_chg (h j v hv) hc (by simp)
theorem CellsOp.chg0 {w w' : World} {A : Option Addr} {L : List Opr} (h : CellsOp w A L) (hc : Chg [] w w') : CellsOp w' A L := fun i hi => by
  obtain ⟨g, o, e, h2⟩ := h i hi
  exact ⟨g, o, e, rangeAt_chg h2 hc⟩
section
variable {P : Program} {ρ : Env} {w : World} {dst : Option Tmp} {ty : TypeId} {pos : String} {af : Array Edge} {gd : Option (Nat × Bool)}
theorem Run.loadRange {x : Operand} {g o : Nat} {t : TypeId} {vs : List Value} {d : TypeDesc} (hx : ev ρ x = some (.pointer (some ⟨g, o, none⟩))) (hu : P.underlying t = some d) (hd : d.isRow = true) (hn : (P.info? t).map (·.size) = some vs.length)
    (hr : w.rangeAt g o vs) : Run P ρ ⟨dst, .load t x, ty, pos, af, gd⟩ w (.agg vs.toArray) w := fun a hf => by
  simp [execOp, hf.eval hx, run_loadAt_mid (P := P) w g o t vs d hr hu hd hn]
end
end Go.V
