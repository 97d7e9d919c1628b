/- The engine of these proofs: a frame is known through a list of slots with their values; the rest of a function's run is a list of items; one law for each kind of operation. Conditions: none of its own. -/
import Derived.WalkKit
import Derived.AtR
import Derived.OrdersHeld
import Derived.StillTail
import Derived.Deep.MidRow
import Derived.Lib.Strings
import Derived.Lib.IndexBytes
import Derived.Laws.MakeOwn
set_option linter.unusedVariables false
namespace Go.V
open Go

abbrev Env := List (Nat × Value)

def look : Env → Nat → Option Value
  | [], _ => none
  | p :: r, t => bif Nat.beq p.1 t then some p.2 else look r t

def Fits (a : Act) (ρ : Env) : Prop := ∀ t v, look ρ t = some v → a.tmps.getD t undef = v

structure Sat (n : Nat) (ds : List Deferred) (a : Act) (ρ : Env) : Prop where
  size : a.tmps.size = n
  defs : a.defers = ds
  fits : Fits a ρ

def ev (ρ : Env) : Operand → Option Value
  | .tmp t => look ρ t
  | .const v => some v
  | .global g => some (.pointer (some ⟨g, 0, none⟩))
  | .func f => some (.func (.func f) #[] #[])

theorem Fits.eval {a : Act} {ρ : Env} (h : Fits a ρ) {x : Operand} {v : Value} (hx : ev ρ x = some v) : a.eval x = v := by
  cases x with
  | tmp t => exact h t v hx
  | const u => simpa [ev, Act.eval] using hx
  | global g => simpa [ev, Act.eval] using hx
  | func f => simpa [ev, Act.eval] using hx

def evs (ρ : Env) : List Operand → Option (List Value)
  | [] => some []
  | x :: r => match ev ρ x with
    | some v => match evs ρ r with
      | some vs => some (v :: vs)
      | none => none
    | none => none

theorem Fits.evals {a : Act} {ρ : Env} (h : Fits a ρ) : ∀ {xs : List Operand} {vs : List Value}, evs ρ xs = some vs → xs.map a.eval = vs
  | [], vs, hx => by simpa [evs] using hx
  | x :: r, vs, hx => by
    simp only [evs] at hx
    cases h1 : ev ρ x with
    | none => simp [h1] at hx
    | some v =>
      cases h2 : evs ρ r with
      | none => simp [h1, h2] at hx
      | some us =>
        simp only [h1, h2, Option.some.injEq] at hx
        subst hx
        simp only [List.map_cons, h.eval h1, h.evals h2]

theorem Fits.nil (a : Act) : Fits a [] := fun t v h => by simp [look] at h

theorem look_cons (d : Nat) (v : Value) (ρ : Env) (t : Nat) : look ((d, v) :: ρ) t = if d = t then some v else look ρ t := by
  simp only [look]
  by_cases h : d = t
  · subst h; simp
  · have : Nat.beq d t = false := by
      cases hb : Nat.beq d t with
      | false => rfl
      | true => exact absurd (Nat.eq_of_beq_eq_true hb) h
    simp [this, h]

theorem Sat.put {n : Nat} {ds : List Deferred} {a : Act} {ρ : Env} (h : Sat n ds a ρ) {d : Nat} (v : Value) (hd : Nat.blt d n = true) : Sat n ds (a.put (some d) v) ((d, v) :: ρ) := by
  have hlt : d < n := by simpa [Nat.blt_eq] using hd
  refine ⟨by simpa [Act.put] using h.size, h.defs, fun t u hu => ?_⟩
  rw [look_cons] at hu
  by_cases e : d = t
  · subst e
    simp only [if_true, Option.some.injEq] at hu
    subst hu
    have hs := h.size
    simp [Act.put, hs, hlt]
  · rw [if_neg e] at hu
    have := h.fits t u hu
    simpa [Act.put, Array.getElem?_setIfInBounds_ne e] using this

theorem Sat.put_none {n : Nat} {ds : List Deferred} {a : Act} {ρ : Env} (h : Sat n ds a ρ) (v : Value) : Sat n ds (a.put none v) ρ := h

def Sub (ρ' ρ : Env) : Prop := ∀ t v, look ρ' t = some v → look ρ t = some v

theorem Sub.nil (ρ : Env) : Sub [] ρ := fun t v h => by simp [look] at h
theorem Sub.cons {ρ' ρ : Env} {d : Nat} {v : Value} (h1 : look ρ d = some v) (h : Sub ρ' ρ) : Sub ((d, v) :: ρ') ρ := fun t u hu => by
  rw [look_cons] at hu
  by_cases e : d = t
  · subst e; simp only [if_true, Option.some.injEq] at hu; subst hu; exact h1
  · rw [if_neg e] at hu; exact h t u hu
theorem Sat.sub {n : Nat} {ds : List Deferred} {a : Act} {ρ ρ' : Env} (h : Sat n ds a ρ) (hs : Sub ρ' ρ) : Sat n ds a ρ' := ⟨h.size, h.defs, fun t v hv => h.fits t v (hs t v hv)⟩

def restr (ρ : Env) : List Nat → Option Env
  | [] => some []
  | k :: r => match look ρ k with
    | some v => match restr ρ r with
      | some ρ' => some ((k, v) :: ρ')
      | none => none
    | none => none
theorem Sub.of_restr {ρ : Env} : ∀ {ks : List Nat} {ρ' : Env}, restr ρ ks = some ρ' → Sub ρ' ρ
  | [], ρ', h => by simp only [restr, Option.some.injEq] at h; subst h; exact Sub.nil _
  | k :: r, ρ', h => by
    simp only [restr] at h
    cases h1 : look ρ k with
    | none => simp [h1] at h
    | some v =>
      cases h2 : restr ρ r with
      | none => simp [h1, h2] at h
      | some ρ'' => simp only [h1, h2, Option.some.injEq] at h; subst h; exact Sub.cons h1 (Sub.of_restr h2)

def number : Nat → List Value → Env
  | _, [] => []
  | i, v :: r => (i, v) :: number (i + 1) r

theorem look_number : ∀ (vs : List Value) (i t : Nat) (v : Value), look (number i vs) t = some v → i ≤ t ∧ vs[t - i]? = some v
  | [], i, t, v, h => by simp [number, look] at h
  | u :: r, i, t, v, h => by
    rw [number, look_cons] at h
    by_cases e : i = t
    · subst e; simp only [if_true] at h; simpa using h
    · rw [if_neg e] at h
      obtain ⟨h1, h2⟩ := look_number r (i + 1) t v h
      refine ⟨by omega, ?_⟩
      rw [show t - i = (t - (i + 1)) + 1 by omega]
      simpa using h2

theorem Sat.entry {n : Nat} (vs : List Value) (hn : vs.length ≤ n) : Sat n [] { tmps := vs.toArray ++ Array.replicate (n - vs.toArray.size) undef, defers := [] } (number 0 vs) := by
  refine ⟨by simp; omega, rfl, fun t v h => ?_⟩
  obtain ⟨_, h2⟩ := look_number vs 0 t v h
  simp only [Nat.sub_zero] at h2
  have hlt : t < vs.length := (List.getElem?_eq_some_iff.1 h2).1
  simp only [Array.getD_eq_getD_getElem?]
  rw [Array.getElem?_append_left (by simpa using hlt)]
  simp [h2]

/-! ### The rest of a run -/
/-- Where a frame comes to: off its end, or at a return. -/
def Arr (P : Program) (m : Machine) (b : Frame) (cs : List Frame) : Exit → Act → World → Prop
  | .normal, a, w => Steps P m (lone (b.atR a []) cs w)
  | .ret, a, w => ∃ todo, Steps P m (lone (b.atR a (.code .ret :: todo)) cs w)
  | _, _, _ => False
theorem Arr.of_steps {P : Program} {m m' : Machine} {b : Frame} {cs : List Frame} {e : Exit} {a : Act} {w : World} (h : Steps P m m') (h' : Arr P m' b cs e a w) : Arr P m b cs e a w := by
  cases e with
  | normal => exact Steps.trans h h'
  | ret => obtain ⟨t, h'⟩ := h'; exact ⟨t, Steps.trans h h'⟩
  | _ => exact h'.elim

def T (F : Frame → Prop) (P : Program) (Q : Exit → Act → World → Prop) (k : List Item) (a : Act) (w : World) : Prop :=
  ∀ (b : Frame) (cs : List Frame), F b → ∃ e a' w', Q e a' w' ∧ Arr P (lone (b.atR a k) cs w) b cs e a' w'

section
variable {F : Frame → Prop} {P : Program} {Q : Exit → Act → World → Prop} {k : List Item} {a : Act} {w : World}

theorem T.step {k' : List Item} {a' : Act} {w' : World} (hs : ∀ (b : Frame) (cs : List Frame), step P (lone (b.atR a k) cs w) = .next (lone (b.atR a' k') cs w')) (h : T F P Q k' a' w') : T F P Q k a w :=
  fun b cs hF => let ⟨e, a', w', q, r⟩ := h b cs hF; ⟨e, a', w', q, .of_steps (.one (hs b cs)) r⟩
theorem T.nil (h : Q .normal a w) : T F P Q [] a w := fun _ _ _ => ⟨.normal, a, w, h, Steps.refl _ _⟩
theorem T.ret (h : Q .ret a w) : T F P Q (.code .ret :: k) a w := fun _ _ _ => ⟨.ret, a, w, h, _, Steps.refl _ _⟩
theorem T.seq {x y : Code} (h : T F P Q (.code x :: .code y :: k) a w) : T F P Q (.code (.seq x y) :: k) a w := .step (fun _ _ => stepR_seq) h
theorem T.skip (h : T F P Q k a w) : T F P Q (.code .skip :: k) a w := .step (fun _ _ => stepR_skip) h
theorem T.block {id : Nat} {c : Code} (h : T F P Q (.code c :: .inBlock id :: k) a w) : T F P Q (.code (.block id c) :: k) a w := .step (fun _ _ => stepR_block) h
theorem T.inBlock {id : Nat} (h : T F P Q k a w) : T F P Q (.inBlock id :: k) a w := .step (fun _ _ => stepR_inBlock) h
theorem T.loop {c : Code} (h : T F P Q (.code c :: .inLoop c :: k) a w) : T F P Q (.code (.loop c) :: k) a w := .step (fun _ _ => stepR_loop) h
theorem T.inLoop {c : Code} (h : T F P Q (.code c :: .inLoop c :: k) a w) : T F P Q (.inLoop c :: k) a w := .step (fun _ _ => stepR_inLoop) h
theorem T.exit {id : Nat} {k' : List Item} (hk : exitTo id k = some k') (h : T F P Q k' a w) : T F P Q (.code (.exit id) :: k) a w := .step (fun _ _ => stepR_exit hk) h
end

/-! ### Goals over a known frame -/
def TE (F : Frame → Prop) (P : Program) (Q : Exit → Act → World → Prop) (n : Nat) (ds : List Deferred) (k : List Item) (ρ : Env) (w : World) : Prop :=
  ∀ a, Sat n ds a ρ → T F P Q k a w

/-- What a region leaves: it goes on with 'k'; no other way out. -/
def NQ (F : Frame → Prop) (P : Program) (Q : Exit → Act → World → Prop) (k : List Item) : Exit → Act → World → Prop
  | .normal, a, w => T F P Q k a w
  | _, _, _ => False

def OL (P : Program) (n : Nat) (ds : List Deferred) (ops : Array Oper) (Q : Exit → Act → World → Prop) (l : List Oper) (ρ : Env) (w : World) : Prop :=
  ∀ a, Sat n ds a ρ → wpList P ops Q l a w

/-- What one operation does in a known frame. -/
def Run (P : Program) (ρ : Env) (o : Oper) (w : World) (v : Value) (w' : World) : Prop := ∀ a, Fits a ρ → (execOp a.eval o).run P w = .ok (.value v) w'
def RunS (P : Program) (ρ : Env) (o : Oper) (w : World) (w' : World) : Prop := ∀ a, Fits a ρ → (execOp a.eval o).run P w = .ok .skip w'
def Pure (P : Program) (ρ : Env) (o : Oper) (v : Value) : Prop := ∀ w, Run P ρ o w v w

section
variable {F : Frame → Prop} {P : Program} {Q : Exit → Act → World → Prop} {n : Nat} {ds : List Deferred} {k : List Item} {ρ : Env} {w : World}

/-- No operation of a region defers a call. -/
def noDefer (ops : Array Oper) : Bool := ops.toList.all fun o => match o.op with | .defer _ => false | _ => true
def Calm (F : Frame → Prop) (ops : Array Oper) : Prop := (∀ b, F b → b.roundOf = none) ∨ noDefer ops = true
theorem calm_sem {F : Frame → Prop} {ops : Array Oper} (h : Calm F ops) {b : Frame} (hF : F b) {i : Nat} {o : Oper} (ho : ops[i]? = some o) (ρ : Operand → Value) : o.semAt b.roundOf ρ = execOp ρ o := by
  rcases h with h | h
  · rw [h b hF]; rfl
  · refine Oper.semAt_eq _ _ _ fun c hc => ?_
    have hlt := (Array.getElem?_eq_some_iff.1 ho).1
    have hi := (Array.getElem?_eq_some_iff.1 ho).2
    have := List.all_eq_true.1 h o (Array.mem_toList_iff.2 (hi ▸ Array.getElem_mem hlt))
    simp [hc] at this
theorem T.ops {ops : Array Oper} (hd : Calm F ops) : ∀ (l : List Nat) (a : Act) (w : World), wpOps P ops (NQ F P Q k) l a w → T F P Q (.inRegion ops l :: k) a w := by
  intro l
  induction l with
  | nil => exact fun a w h => .step (fun _ _ => stepR_region_end) h
  | cons i rest ih =>
    intro a w h b cs hF
    simp only [wpOps] at h
    cases ho : ops[i]? with
    | none =>
      simp only [ho] at h
      have hs := stepR_op_skip (P := P) (b := b) (a := a) (k := k) (cs := cs) (w := w) (ops := ops) (i := i) (rest := rest) (by simp [ho])
      simp only [ho, Option.bind_none, Act.put] at hs
      obtain ⟨e, a', w', hq, harr⟩ := ih a w h b cs hF
      exact ⟨e, a', w', hq, .of_steps (.one hs) harr⟩
    | some o =>
      simp only [ho] at h
      by_cases hw : Region.wanted o (yielded ops a.tmps) = true
      · simp only [hw, if_true] at h
        rcases h with h | ⟨hasks, a₀, w₀, hq⟩
        case inr => exact hq.elim
        simp only [Oper.wp, Oper.upon] at h
        have hg := stepGR_op (P := P) (b := b) (k := k) (cs := cs) (w := w) (rest := rest) ho hw
        rw [calm_sem hd hF ho] at hg
        have hfin : ∀ v, (b.atR a (.inRegion ops (i :: rest) :: k)).finish v = b.atR (a.put o.dst v) (.inRegion ops rest :: k) := by
          intro v; rw [Frame.finish_atR, ho]; rfl
        split at h
        · rename_i v w' hr
          obtain ⟨e, a', w'', hq, harr⟩ := ih _ _ h b cs hF
          refine ⟨e, a', w'', hq, .of_steps (.one (step_lone_go ?_)) harr⟩
          rw [hg, ← hfin]; simp [stepG.apply, hr]
        · rename_i w' hr
          obtain ⟨e, a', w'', hq, harr⟩ := ih _ _ h b cs hF
          refine ⟨e, a', w'', hq, .of_steps (.one (step_lone_go ?_)) harr⟩
          rw [hg, ← hfin]; simp [stepG.apply, hr]
        · rename_i d w' hr
          obtain ⟨e, a', w'', hq, harr⟩ := ih _ _ h b cs hF
          refine ⟨e, a', w'', hq, .of_steps (.one (step_lone_go ?_)) harr⟩
          have : ({ b.atR a (.inRegion ops (i :: rest) :: k) with defers := d :: a.defers } : Frame).finish undef =
              b.atR ({ a with defers := d :: a.defers }.put o.dst undef) (.inRegion ops rest :: k) := by
            have := Frame.finish_atR b { a with defers := d :: a.defers } ops i rest k undef
            rw [ho] at this; exact this
          rw [hg]; simp only [stepG.apply, Sem.runT_eq, hr, GStep.bare_after]
          exact congrArg (fun fr => GStep.go { frame := fr, callers := cs, status := .running, dying := none } w') this
        · rename_i f args w' hr
          obtain ⟨e, w'', fr, hR, hsteps, _, hleave⟩ := h (b.atR a (.inRegion ops (i :: rest) :: k) :: cs)
          have henter : Go.step P (lone (b.atR a (.inRegion ops (i :: rest) :: k)) cs w) =
              .next (lone (Frame.enter P f args .normal) (b.atR a (.inRegion ops (i :: rest) :: k) :: cs) w') :=
            step_lone_go (by rw [hg]; simp [stepG.apply, hr, Frame.atR])
          cases e with
          | returned v =>
            obtain ⟨e, a', w₃, hq, harr⟩ := ih _ _ hR b cs hF
            refine ⟨e, a', w₃, hq, .of_steps (.head henter (hsteps.trans (.one ?_))) harr⟩
            rw [← hfin]; exact step_leave_returned hleave
          | panicked chain => exact hR.elim
          | outgrown =>
            obtain ⟨a₀, w₀, hq⟩ := hR
            exact hq.elim
        · rename_i row args w' hr
          obtain ⟨v, w'', hR, hsteps⟩ := h (b.atR a (.inRegion ops (i :: rest) :: k)) cs
          have henter : Go.step P (lone (b.atR a (.inRegion ops (i :: rest) :: k)) cs w) =
              .next (lone (Frame.ofRow P row args .normal) (b.atR a (.inRegion ops (i :: rest) :: k) :: cs) w') :=
            step_lone_go (by rw [hg]; simp [stepG.apply, hr, Frame.atR])
          obtain ⟨e, a', w₃, hq, harr⟩ := ih _ _ hR b cs hF
          refine ⟨e, a', w₃, hq, .of_steps (.head henter ?_) harr⟩
          rw [← hfin]; exact hsteps
        · exact h.elim
        · exact h.elim
      · simp only [hw, if_false, Bool.false_eq_true] at h
        have hs := stepR_op_skip (P := P) (b := b) (a := a) (k := k) (cs := cs) (w := w) (ops := ops) (i := i) (rest := rest)
          (by simp [ho]; simpa using hw)
        simp only [ho, Option.bind_some] at hs
        obtain ⟨e, a', w', hq, harr⟩ := ih _ _ h b cs hF
        exact ⟨e, a', w', hq, .of_steps (.one hs) harr⟩
theorem T.regionL {id : Nat} {l : List Oper} {a : Act} (hd : Calm F l.toArray) (h : wpList P l.toArray (NQ F P Q k) l a w) : T F P Q (.code (.region id l.toArray false) :: k) a w :=
  .step (fun _ _ => stepR_region) (T.ops hd _ _ _ (by
    rw [List.range_eq_range', ← Array.length_toList, wpOps_eq_wpList l.toArray.toList 0 (by simp)]
    simpa using h))
theorem T.regionD {id : Nat} {ops : Array Oper} {a : Act} (hd : Calm F ops) (h : ∀ t, wpOps P ops (NQ F P Q k) (Region.schedule (P.follows .mixedOrders) ops t) a w.drew) : T F P Q (.code (.region id ops true) :: k) a w :=
  fun b cs hF => let ⟨e, a', w', q, r⟩ := T.ops hd _ _ _ (h _) b cs hF; ⟨e, a', w', q, .of_steps (.one stepR_region_draw) r⟩

theorem TE.seq {x y : Code} (h : TE F P Q n ds (.code x :: .code y :: k) ρ w) : TE F P Q n ds (.code (.seq x y) :: k) ρ w := fun a ha => T.seq (h a ha)
theorem TE.skip (h : TE F P Q n ds k ρ w) : TE F P Q n ds (.code .skip :: k) ρ w := fun a ha => T.skip (h a ha)
theorem TE.block {id : Nat} {c : Code} (h : TE F P Q n ds (.code c :: .inBlock id :: k) ρ w) : TE F P Q n ds (.code (.block id c) :: k) ρ w := fun a ha => T.block (h a ha)
theorem TE.inBlock {id : Nat} (h : TE F P Q n ds k ρ w) : TE F P Q n ds (.inBlock id :: k) ρ w := fun a ha => T.inBlock (h a ha)
theorem TE.loop {c : Code} (h : TE F P Q n ds (.code c :: .inLoop c :: k) ρ w) : TE F P Q n ds (.code (.loop c) :: k) ρ w := fun a ha => T.loop (h a ha)
theorem TE.inLoop {c : Code} (h : TE F P Q n ds (.code c :: .inLoop c :: k) ρ w) : TE F P Q n ds (.inLoop c :: k) ρ w := fun a ha => T.inLoop (h a ha)
theorem TE.exit {id : Nat} {k' : List Item} (hk : exitTo id k = some k') (h : TE F P Q n ds k' ρ w) : TE F P Q n ds (.code (.exit id) :: k) ρ w := fun a ha => T.exit hk (h a ha)
theorem TE.cond {c : Operand} {x y : Code} {t : Bool} (hc : ev ρ c = some (.bool t)) (h : TE F P Q n ds (.code (if t then x else y) :: k) ρ w) : TE F P Q n ds (.code (.cond c x y) :: k) ρ w :=
  fun a ha => .step (fun b cs => stepR_cond (ha.fits.eval hc)) (h a ha)
theorem TE.condT {c : Operand} {x y : Code} {t : Bool} (hc : ev ρ c = some (.bool t)) (ht : t = true) (h : TE F P Q n ds (.code x :: k) ρ w) : TE F P Q n ds (.code (.cond c x y) :: k) ρ w :=
  TE.cond hc (by subst ht; exact h)
theorem TE.condF {c : Operand} {x y : Code} {t : Bool} (hc : ev ρ c = some (.bool t)) (ht : t = false) (h : TE F P Q n ds (.code y :: k) ρ w) : TE F P Q n ds (.code (.cond c x y) :: k) ρ w :=
  TE.cond hc (by subst ht; exact h)
theorem TE.split {c : Operand} {x y : Code} {t : Bool} (hc : ev ρ c = some (.bool t)) (h1 : t = true → TE F P Q n ds (.code x :: k) ρ w) (h2 : t = false → TE F P Q n ds (.code y :: k) ρ w) :
    TE F P Q n ds (.code (.cond c x y) :: k) ρ w := by
  cases t
  · exact TE.condF hc rfl (h2 rfl)
  · exact TE.condT hc rfl (h1 rfl)
theorem TE.ite {c : Operand} {x y : Code} {p : Prop} {_ : Decidable p} (hc : ev ρ c = some (.bool (decide p))) (h1 : p → TE F P Q n ds (.code x :: k) ρ w) (h2 : ¬ p → TE F P Q n ds (.code y :: k) ρ w) :
    TE F P Q n ds (.code (.cond c x y) :: k) ρ w := TE.split hc (fun h => h1 (by simpa using h)) (fun h => h2 (by simpa using h))
theorem TE.sub {ρ' : Env} (ks : List Nat) (hs : restr ρ ks = some ρ') (h : TE F P Q n ds k ρ' w) : TE F P Q n ds k ρ w := fun a ha => h a (ha.sub (Sub.of_restr hs))
theorem TE.to {ρ' : Env} (hs : Sub ρ' ρ) (h : TE F P Q n ds k ρ' w) : TE F P Q n ds k ρ w := fun a ha => h a (ha.sub hs)
theorem TE.region {id : Nat} {l : List Oper} (h : OL P n ds l.toArray (NQ F P Q k) l ρ w) (hd : Calm F l.toArray := by first | exact .inl (fun _ h_ => h_.2.1) | exact .inr rfl) : TE F P Q n ds (.code (.region id l.toArray false) :: k) ρ w :=
  fun a ha => T.regionL hd (h a ha)

variable {ops : Array Oper} {R : Exit → Act → World → Prop}
theorem OL.nil (h : TE F P Q n ds k ρ w) : OL P n ds ops (NQ F P Q k) [] ρ w := fun a ha => h a ha

variable {d : Nat} {op : Op} {ty : TypeId} {pos : String} {af : Array Edge} {l : List Oper} {v : Value} {w' : World}
theorem OL.val (hr : Run P ρ ⟨some d, op, ty, pos, af, none⟩ w v w') (hd : Nat.blt d n = true) (h : OL P n ds ops R l ((d, v) :: ρ) w') : OL P n ds ops R (⟨some d, op, ty, pos, af, none⟩ :: l) ρ w := fun a ha => by
  refine wpList_plain rfl fun K hK => ?_
  unfold Oper.wp
  rw [hr a ha.fits]
  exact hK _ _ (h _ (ha.put v hd))
theorem OL.pure (hr : Pure P ρ ⟨some d, op, ty, pos, af, none⟩ v) (hd : Nat.blt d n = true) (h : OL P n ds ops R l ((d, v) :: ρ) w) : OL P n ds ops R (⟨some d, op, ty, pos, af, none⟩ :: l) ρ w := OL.val (hr w) hd h
theorem OL.eff (hr : RunS P ρ ⟨none, op, ty, pos, af, none⟩ w w') (h : OL P n ds ops R l ρ w') : OL P n ds ops R (⟨none, op, ty, pos, af, none⟩ :: l) ρ w := fun a ha => by
  refine wpList_plain rfl fun K hK => ?_
  unfold Oper.wp
  rw [hr a ha.fits]
  exact hK _ _ (h a ha)
theorem OL.sub {ρ' : Env} (ks : List Nat) (hs : restr ρ ks = some ρ') (h : OL P n ds ops R l ρ' w) : OL P n ds ops R l ρ w := fun a ha => h a (ha.sub (Sub.of_restr hs))
/-- A guarded operation. -/
def gb (u : Value) (b : Bool) : Bool := match u with | .bool b' => b' == b | _ => false
theorem wanted_of {a : Act} {g : Nat × Bool} {dj : Nat} {u : Value} (hg : (ops[g.1]?).bind (·.dst) = some dj) (hl : a.tmps[dj]? = some u) :
    Region.wanted ⟨some d, op, ty, pos, af, some g⟩ (yielded ops a.tmps) = gb u g.2 := by
  obtain ⟨j, b⟩ := g
  simp only [Region.wanted, yielded] at *
  simp only [hg, Option.bind_some, hl]
  cases u <;> simp [gb]
theorem Sat.at_ {a : Act} (ha : Sat n ds a ρ) {t : Nat} {u : Value} (ht : Nat.blt t n = true) (h : look ρ t = some u) : a.tmps[t]? = some u := by
  have h1 := ha.fits t u h
  have h2 := ha.size
  have h3 : t < n := by simpa [Nat.blt_eq] using ht
  have h4 : t < a.tmps.size := by omega
  simp [h4] at h1 ⊢
  exact h1
theorem OL.want {g : Nat} {b : Bool} {dj : Nat} (hg : (ops[g]?).bind (·.dst) = some dj) (hj : Nat.blt dj n = true) (hl : look ρ dj = some (.bool b)) (hr : Run P ρ ⟨some d, op, ty, pos, af, some (g, b)⟩ w v w') (hd : Nat.blt d n = true)
    (h : OL P n ds ops R l ((d, v) :: ρ) w') : OL P n ds ops R (⟨some d, op, ty, pos, af, some (g, b)⟩ :: l) ρ w := fun a ha => by
  refine wpList_step fun K hK => ?_
  rw [wanted_of (g := (g, b)) hg (ha.at_ hj hl)]
  simp only [gb, beq_self_eq_true, if_true]
  unfold Oper.wp
  rw [hr a ha.fits]
  exact hK _ _ (h _ (ha.put v hd))
theorem OL.pass {g : Nat} {b : Bool} {dj : Nat} {u : Value} (hg : (ops[g]?).bind (·.dst) = some dj) (hj : Nat.blt dj n = true) (hl : look ρ dj = some u) (hu : gb u b = false) (hd : Nat.blt d n = true)
    (h : OL P n ds ops R l ((d, undef) :: ρ) w) : OL P n ds ops R (⟨some d, op, ty, pos, af, some (g, b)⟩ :: l) ρ w := fun a ha => by
  refine wpList_step fun K hK => ?_
  rw [wanted_of (g := (g, b)) hg (ha.at_ hj hl), hu]
  simp only [Bool.false_eq_true, if_false]
  exact hK _ _ (h _ (ha.put undef hd))
/-- A call of a Go function, by its contract. -/
theorem OL.call {f : Nat} {xs : List Operand} {ats : Array TypeId} {vs : List Value} {C : Ending → World → Prop} (hargs : evs ρ xs = some vs)
    (hf : ∀ args w, (callFunc f args).run P w = .ok (.enter f args) w) (hd : Nat.blt d n = true) (hc : Calls P f vs.toArray w C)
    (h : ∀ e w', C e w' → ∃ v, e = .returned v ∧ OL P n ds ops R l ((d, v) :: ρ) w') :
    OL P n ds ops R (⟨some d, .call { callee := .value (.func f), args := xs.toArray, argTypes := ats }, ty, pos, af, none⟩ :: l) ρ w := fun a ha => by
  refine wpList_plain rfl fun K hK => ?_
  unfold Oper.wp
  have e1 : (xs.toArray.map a.eval) = vs.toArray := by rw [List.map_toArray, ha.fits.evals hargs]
  rw [execOp_call_go, e1]
  simp only [Array.empty_append, Array.append_empty, hf, Oper.upon_enter]
  refine hc.mono fun e w' he => ?_
  obtain ⟨v, rfl, hv⟩ := h e w' he
  exact hK _ _ (hv _ (ha.put v hd))
end

/-! ### The function as a whole -/
/-- The frame of a function that was called. -/
def FN (f : FuncId) (b : Frame) : Prop := b.fn = f ∧ b.roundOf = none ∧ b.kind = .normal
theorem calls_of_T {P : Program} {f : FuncId} {fn : Func} {c : Code} {args : Array Value} {w : World} {R : Ending → World → Prop}
    (hf : P.funcs[f]? = some fn) (hb : fn.body = some c)
    (h : T (FN f) P (bodyPost P fn R) [.code c] { tmps := args ++ Array.replicate (fn.ntmps - args.size) undef, defers := [] } w) :
    Calls P f args w R := by
  intro cs
  let b : Frame := { (default : Frame) with fn := f, kind := .normal }
  have henter : Frame.enter P f args .normal = b.atR { tmps := args ++ Array.replicate (fn.ntmps - args.size) undef, defers := [] } [.code c] := by
    simp [Frame.enter, Frame.atR, hf, hb, b]; rfl
  obtain ⟨e, a', w', hq, harr⟩ := h b cs ⟨rfl, rfl, rfl⟩
  rw [← henter] at harr
  cases e with
  | normal =>
    obtain ⟨hd, v, hr, hR⟩ := hq
    exact ⟨.returned v, w', _, hR, Steps.trans harr (.one (stepR_end rfl)), rfl, rfl, hd, rfl, fn, hf, hr⟩
  | ret =>
    obtain ⟨hd, v, hr, hR⟩ := hq
    obtain ⟨todo, hs⟩ := harr
    exact ⟨.returned v, w', _, hR, Steps.trans hs (.one (stepR_ret rfl)), rfl, rfl, hd, rfl, fn, hf, hr⟩
  | _ => exact harr.elim

theorem calls_of_TE {P : Program} {f : FuncId} {fn : Func} {c : Code} {n : Nat} {vs : List Value} {w : World} {R : Ending → World → Prop}
    (hf : P.funcs[f]? = some fn) (hn : fn.ntmps = n) (hb : fn.body = some c) (hvs : vs.length ≤ n) (h : TE (FN f) P (bodyPost P fn R) n [] [.code c] (number 0 vs) w) : Calls P f vs.toArray w R := by
  refine calls_of_T hf hb ?_
  subst hn
  exact h _ (Sat.entry vs hvs)

/-- The results of a function, out of a known frame. -/
def Gives (P : Program) (w : World) (ρ : Env) : List ResultVar → List Value → Prop
  | [], [] => True
  | .tmp t :: rs, v :: vs => look ρ t = some v ∧ Gives P w ρ rs vs
  | .cell p ty :: rs, v :: vs => (∃ a, look ρ p = some (.pointer (some a)) ∧ (loadVar ty a).run P w = .ok v w) ∧ Gives P w ρ rs vs
  | _, _ => False
theorem run_asAddr (P : Program) (w : World) (a : Addr) : (asAddr (.pointer (some a))).run P w = .ok a w := rfl
def resv (tmps : Array Value) : ResultVar → Sem Value
  | .tmp t => pure (tmps.getD t undef)
  | .cell a t => do loadVar t (← asAddr (tmps.getD a undef))
theorem results_eq (fn : Func) (tmps : Array Value) : results fn tmps = (do
    let vs ← fn.results.mapM (resv tmps)
    pure (if h : vs.size = 1 then vs[0] else .tuple vs)) := rfl
theorem run_gives {P : Program} {w : World} {ρ : Env} {a : Act} (hf : Fits a ρ) : ∀ (rs : List ResultVar) (vs : List Value), Gives P w ρ rs vs → (rs.mapM (m := Sem) (resv a.tmps)).run P w = .ok vs w
  | [], [], _ => by simp
  | .tmp t :: rs, v :: vs, h => by
    have e := hf t v h.1
    simp only [List.mapM_cons, resv, Sem.run_bind, Sem.run_pure, Result.andThen_ok, run_gives hf rs vs h.2, e]
  | .cell p ty :: rs, v :: vs, h => by
    obtain ⟨⟨ad, h1, h2⟩, h3⟩ := h
    have e := hf p _ h1
    simp only [List.mapM_cons, resv, Sem.run_bind, Sem.run_pure, Result.andThen_ok, e, run_asAddr, h2, run_gives hf rs vs h3]
  | [], _ :: _, h => h.elim
  | .tmp _ :: _, [], h => h.elim
  | .cell _ _ :: _, [], h => h.elim

/-- One result by itself, several as a tuple. -/
def pack : List Value → Value
  | [v] => v
  | vs => .tuple vs.toArray
theorem results_of_gives {P : Program} {w : World} {ρ : Env} {a : Act} {fn : Func} (hf : Fits a ρ) {rs : List ResultVar} {vs : List Value} (hr : fn.results = rs.toArray) (h : Gives P w ρ rs vs) :
    (results fn a.tmps).run P w = .ok (pack vs) w := by
  have := run_gives (P := P) hf rs vs h
  rw [results_eq, hr, Array.mapM_eq_mapM_toList]
  simp [this]
  rcases vs with _ | ⟨v, _ | ⟨u, r⟩⟩ <;> simp [pack]

/-- The function's end. -/
theorem TE.ret {F : Frame → Prop} {P : Program} {fn : Func} {R : Ending → World → Prop} {n : Nat} {k : List Item} {ρ : Env} {w : World} {rs : List ResultVar} {vs : List Value} (hr : fn.results = rs.toArray) (hg : Gives P w ρ rs vs)
    (h : R (.returned (pack vs)) w) : TE F P (bodyPost P fn R) n [] (.code .ret :: k) ρ w :=
  fun a ha => T.ret ⟨ha.defs, _, results_of_gives ha.fits hr hg, h⟩
theorem TE.fin {F : Frame → Prop} {P : Program} {fn : Func} {R : Ending → World → Prop} {n : Nat} {ρ : Env} {w : World} {rs : List ResultVar} {vs : List Value} (hr : fn.results = rs.toArray) (hg : Gives P w ρ rs vs)
    (h : R (.returned (pack vs)) w) : TE F P (bodyPost P fn R) n [] [] ρ w :=
  fun a ha => T.nil ⟨ha.defs, _, results_of_gives ha.fits hr hg, h⟩

/-! ### A region that draws its order -/
section
variable {P : Program} {ops : Array Oper} {Q : Exit → Act → World → Prop} {S : World → Prop}

/-- An order of operations; 'br': two may come up, each with its own way on. -/
inductive Plan where
  | nil
  | cons (x : Nat × Bool) (r : Plan)
  | br (i j : Nat) (r1 r2 : Plan)
/-- How many operations a plan lists: an element of 1000 and more stands for two that may come in either order. -/
def plen : Plan → Nat
  | .nil => 0
  | .cons (_, true) r => plen r + 1
  | .cons (c, false) r => if c < 1000 then plen r + 1 else plen r + 1 + 1
  | .br _ _ r1 _ => plen r1 + 1
def planB (ops : Array Oper) : Plan → Array Bool → Bool
  | .nil, listed => (Region.ready .any ops listed).isEmpty
  | .cons (i, true) r, listed => (Region.ready .any ops listed).contains i && Region.free .any ops listed i && planB ops r (listed.setIfInBounds i true)
  | .cons (c, false) r, listed =>
    if c < 1000 then decide (Region.ready .any ops listed = [c]) && planB ops r (listed.setIfInBounds c true)
    else decide (c / 1000 - 1 ≠ c % 1000) && decide (Region.ready .any ops listed = [c / 1000 - 1, c % 1000]) && decide (Region.ready .any ops (listed.setIfInBounds (c / 1000 - 1) true) = [c % 1000]) &&
      decide (Region.ready .any ops (listed.setIfInBounds (c % 1000) true) = [c / 1000 - 1]) && planB ops r ((listed.setIfInBounds (c / 1000 - 1) true).setIfInBounds (c % 1000) true)
  | .br i j r1 r2, listed => decide (Region.ready .any ops listed = [i, j]) && planB ops r1 (listed.setIfInBounds i true) && planB ops r2 (listed.setIfInBounds j true) && decide (plen r1 = plen r2)
def wpPlan (P : Program) (ops : Array Oper) (Q : Exit → Act → World → Prop) : (World → Prop) → Plan → Act → World → Prop
  | _, .nil, a, w => Q .normal a w
  | S, .cons (i, true) r, a, w => ∃ (o : Oper) (v : Value) (S' : World → Prop), (∀ w, S' w → S w) ∧ ops[i]? = some o ∧ YieldsIf P ops S' o v a ∧ S' w ∧ wpPlan P ops Q S' r (a.put o.dst v) w
  | S, .cons (c, false) r, a, w =>
    if c < 1000 then wpOp P ops Q c (fun a' w' => S w' ∧ wpPlan P ops Q S r a' w') a w
    else wpOp P ops Q (c / 1000 - 1) (fun a' w' => S w' ∧ wpOp P ops Q (c % 1000) (fun a' w' => S w' ∧ wpPlan P ops Q S r a' w') a' w') a w ∧
      wpOp P ops Q (c % 1000) (fun a' w' => S w' ∧ wpOp P ops Q (c / 1000 - 1) (fun a' w' => S w' ∧ wpPlan P ops Q S r a' w') a' w') a w
  | S, .br i j r1 r2, a, w => wpOp P ops Q i (fun a' w' => S w' ∧ wpPlan P ops Q S r1 a' w') a w ∧ wpOp P ops Q j (fun a' w' => S w' ∧ wpPlan P ops Q S r2 a' w') a w

theorem wpAnyH_mono {S S' : World → Prop} (hS : ∀ w, S' w → S w) : ∀ (f : Nat) (listed : Array Bool) (a : Act) (w : World), wpAnyH P .any ops Q S' f listed a w → wpAnyH P .any ops Q S f listed a w
  | 0, _, _, _, h => h
  | f + 1, _, _, _, h => ⟨h.1, fun i hi => wpOp_mono (fun a' w' h' => ⟨hS _ h'.1, wpAnyH_mono hS f _ a' w' h'.2⟩) (h.2 i hi)⟩

theorem wpAnyH_of_plan (hs : Region.noSelect ops = true) (hQ : ∀ c a d v w, Q (.panic c) (a.put d v) w → Q (.panic c) a w) :
    ∀ (π : Plan) (S : World → Prop) (listed : Array Bool) (a : Act) (w : World), planB ops π listed = true → wpPlan P ops Q S π a w → wpAnyH P .any ops Q S (plen π) listed a w
  | .nil, S, listed, a, w, hb, h => ⟨by simpa [planB] using hb, h⟩
  | .cons (i, true) r, S, listed, a, w, hb, h => by
    simp only [planB, Bool.and_eq_true] at hb
    obtain ⟨o, v, S', hSS, ho, hy, hS, hr⟩ := h
    exact wpAnyH_mono hSS _ _ _ _ (wpAnyH_take ho hs hb.1.2 hb.1.1 (fun c a w => hQ c a _ _ w) hy hS (wpAnyH_of_plan hs hQ r S' _ _ _ hb.2 hr))
  | .cons (c, false) r, S, listed, a, w, hb, h => by
    by_cases hc : c < 1000
    · simp only [planB, hc, if_true, Bool.and_eq_true, decide_eq_true_eq] at hb
      simp only [wpPlan, hc, if_true] at h
      simp only [plen, hc, if_true]
      refine wpAnyH_all hb.1 (by simp) fun j hj => ?_
      have : j = c := by simpa using hj
      subst this
      exact wpOp_mono (fun a' w' h' => ⟨h'.1, wpAnyH_of_plan hs hQ r S _ _ _ hb.2 h'.2⟩) h
    · simp only [planB, hc, if_false, Bool.and_eq_true, decide_eq_true_eq] at hb
      simp only [wpPlan, hc, if_false] at h
      simp only [plen, hc, if_false]
      obtain ⟨⟨⟨⟨hne, hr⟩, hi⟩, hj⟩, hp⟩ := hb
      generalize c / 1000 - 1 = i at *
      generalize c % 1000 = k at *
      have hcomm : (listed.setIfInBounds k true).setIfInBounds i true = (listed.setIfInBounds i true).setIfInBounds k true := by
        apply Array.ext'
        simp only [Array.toList_setIfInBounds]
        exact List.set_comm _ _ (Ne.symm hne)
      refine wpAnyH_all hr (by simp) fun x hx => ?_
      have hx' : x = i ∨ x = k := by simpa using hx
      rcases hx' with rfl | rfl
      · refine wpOp_mono (fun a' w' h' => ⟨h'.1, wpAnyH_all hi (by simp) fun y hy => ?_⟩) h.1
        have : y = k := by simpa using hy
        subst this
        exact wpOp_mono (fun a' w' h' => ⟨h'.1, wpAnyH_of_plan hs hQ r S _ _ _ hp h'.2⟩) h'.2
      · refine wpOp_mono (fun a' w' h' => ⟨h'.1, wpAnyH_all hj (by simp) fun y hy => ?_⟩) h.2
        have : y = i := by simpa using hy
        subst this
        exact wpOp_mono (fun a' w' h' => ⟨h'.1, wpAnyH_of_plan hs hQ r S _ _ _ (hcomm ▸ hp) h'.2⟩) h'.2
  | .br i j r1 r2, S, listed, a, w, hb, h => by
    simp only [planB, Bool.and_eq_true, decide_eq_true_eq] at hb
    obtain ⟨⟨⟨hr, h1⟩, h2⟩, hl⟩ := hb
    simp only [plen]
    refine wpAnyH_all hr (by simp) fun x hx => ?_
    have hx' : x = i ∨ x = j := by simpa using hx
    rcases hx' with rfl | rfl
    · exact wpOp_mono (fun a' w' h' => ⟨h'.1, wpAnyH_of_plan hs hQ r1 S _ _ _ h1 h'.2⟩) h.1
    · rw [hl]
      exact wpOp_mono (fun a' w' h' => ⟨h'.1, wpAnyH_of_plan hs hQ r2 S _ _ _ h2 h'.2⟩) h.2

/-! The tail: operations that come up behind all others, one behind the other. -/
def backB (ops : Array Oper) (n : Nat) : Bool :=
  (List.range n).all fun i => match ops[i]? with
    | some o => (o.after.all fun e => !Region.binds .any e || decide (e.on < i)) && (match o.guard with | some (j, _) => decide (j < n) | none => true)
    | none => false

theorem backB_spec {n : Nat} (h : backB ops n = true) {i : Nat} (hi : i < n) : ∃ o, ops[i]? = some o ∧ (∀ e ∈ o.after, Region.binds .any e = true → e.on < i) ∧ (∀ j b, o.guard = some (j, b) → j < n) := by
  have h1 := List.all_eq_true.1 h i (List.mem_range.2 hi)
  cases ho : ops[i]? with
  | none => simp [ho] at h1
  | some o =>
    simp only [ho, Bool.and_eq_true, Array.all_eq_true_iff_forall_mem, Bool.or_eq_true, Bool.not_eq_true', decide_eq_true_eq] at h1
    refine ⟨o, rfl, fun e he hb => (h1.1 e he).resolve_left (by simp [hb]), fun j b hg => ?_⟩
    have := h1.2
    simpa [hg] using this

/-- While one of the head is left, one is ready. -/
theorem ready_of_left {n : Nat} (h : backB ops n = true) {listed : Array Bool} (hn : n ≤ listed.size) : ∀ i, i < n → listed.getD i true = false → ∃ j, j < n ∧ j ∈ Region.ready .any ops listed := by
  intro i
  induction i using Nat.strongRecOn with
  | _ i ih =>
    intro hi hl
    obtain ⟨o, ho, hb, _⟩ := backB_spec h hi
    by_cases hall : ∀ e ∈ o.after, Region.binds .any e = true → listed.getD e.on false = true
    · exact ⟨i, hi, mem_ready.2 ⟨hl, o, ho, hall⟩⟩
    · simp only [Classical.not_forall] at hall
      obtain ⟨e, he, hbe, hne⟩ := hall
      have hlt := hb e he hbe
      have hs : e.on < listed.size := by omega
      exact ih e.on hlt (by omega) (by simp [hs] at hne ⊢; exact hne)

theorem wpAny_fuel : ∀ (f m : Nat) (listed : Array Bool) (a : Act) (w : World), wpAny P .any ops Q f listed a w → wpAny P .any ops Q (f + m) listed a w
  | 0, 0, _, _, _, h => h
  | 0, m + 1, listed, a, w, h => by
    rw [Nat.zero_add]
    exact ⟨fun _ => h.2, fun i hi => by rw [h.1] at hi; cases hi⟩
  | f + 1, m, listed, a, w, h => by
    rw [show f + 1 + m = (f + m) + 1 by omega]
    exact ⟨h.1, fun i hi => wpOp_mono (fun a' w' h' => wpAny_fuel f m _ a' w' h') (h.2 i hi)⟩

def headQ (P : Program) (ops : Array Oper) (Q : Exit → Act → World → Prop) (g : Nat) (LN : Array Bool) : Exit → Act → World → Prop
  | .normal, a, w => wpAny P .any ops Q g LN a w
  | e, a, w => Q e a w

theorem wpOp_head {hd : Array Oper} {n i g : Nat} {LN : Array Bool} (hh : ∀ j, j < n → hd[j]? = ops[j]?) (hb : backB ops n = true) (hi : i < n) {K : Act → World → Prop} {a : Act} {w : World}
    (h : wpOp P hd (headQ P ops Q g LN) i K a w) : wpOp P ops Q i K a w := by
  obtain ⟨o, ho, _, hg⟩ := backB_spec hb hi
  unfold wpOp at *
  rw [hh i hi] at h
  simp only [ho] at *
  have hw : Region.wanted o (yielded hd a.tmps) = Region.wanted o (yielded ops a.tmps) := by
    unfold Region.wanted
    cases hgg : o.guard with
    | none => rfl
    | some jb =>
      obtain ⟨j, b⟩ := jb
      simp only [yielded, hh j (hg j b hgg)]
  rw [hw] at h
  split
  · rename_i hwt
    simp only [hwt, if_true] at h
    rcases h with h | h
    · refine .inl ?_
      unfold Oper.wp at *
      generalize (execOp a.eval o).run P w = r at *
      cases r with
      | ok nx w' =>
        cases nx <;> simp only [Oper.upon] at h ⊢ <;>
          first
            | exact h
            | exact Calls.mono h (fun e w'' he => by cases e <;> first | exact he | exact (by obtain ⟨a, w, h⟩ := he; exact ⟨a, w, h⟩))
      | halt x w' => cases x <;> simp only [Oper.upon] at h ⊢ <;> exact h
    · refine .inr ⟨h.1, ?_⟩
      obtain ⟨a, w, h⟩ := h.2
      exact ⟨a, w, h⟩
  · rename_i hwt
    simp only [hwt] at h
    exact h

theorem wpAny_of_headH {hd : Array Oper} {n g : Nat} {LN : Array Bool} (hh : ∀ j, j < n → hd[j]? = ops[j]?) (hhs : hd.size = n) (hb : backB ops n = true) (hsk : Region.sinkB .any ops n = true) (hc : Region.chainB .any ops n = true) (hn : n < ops.size)
    (hLN : ∀ listed : Array Bool, listed.size = ops.size → (∀ j, j < n → listed.getD j true = true) → (∀ j, n ≤ j → j < ops.size → listed.getD j true = false) → listed = LN) :
    ∀ (f : Nat) (listed listedH : Array Bool) (a : Act) (w : World), HeadInv .any ops n listed → listedH.size = n → (∀ j, j < n → listedH[j]? = listed[j]?) →
      wpAnyH P .any hd (headQ P ops Q g LN) S f listedH a w → wpAny P .any ops Q (f + g) listed a w := by
  have memH : ∀ (listed listedH : Array Bool), HeadInv .any ops n listed → listedH.size = n → (∀ j, j < n → listedH[j]? = listed[j]?) → ∀ i, i < n → i ∈ Region.ready .any ops listed → i ∈ Region.ready .any hd listedH := by
    intro listed listedH inv hs hag i hi hr
    obtain ⟨h0, o, ho, hall⟩ := mem_ready.1 hr
    obtain ⟨o', ho', hbk, _⟩ := backB_spec hb hi
    have : o = o' := Option.some.inj (ho.symm.trans ho')
    subst this
    refine mem_ready.2 ⟨?_, o, by rw [hh i hi]; exact ho, fun e he hbe => ?_⟩
    · simp only [Array.getD_eq_getD_getElem?] at h0 ⊢
      rw [hag i hi]; exact h0
    · have h2 := hall e he hbe
      have h3 := hbk e he hbe
      simp only [Array.getD_eq_getD_getElem?] at h2 ⊢
      rw [hag e.on (by omega)]; exact h2
  have done : ∀ (listed : Array Bool) (a : Act) (w : World), HeadInv .any ops n listed → (∀ i, i < n → listed.getD i true = true) → wpAny P .any ops Q g LN a w → ∀ f, wpAny P .any ops Q (f + g) listed a w := by
    intro listed a w inv hall h f
    rw [hLN listed inv.size hall inv.tail, Nat.add_comm]
    exact wpAny_fuel g f _ _ _ h
  intro f
  induction f with
  | zero =>
    intro listed listedH a w inv hs hag h
    refine done listed a w inv (fun i hi => ?_) h.2 0
    cases hl : listed.getD i true with
    | true => rfl
    | false =>
      obtain ⟨j, hj, hr⟩ := ready_of_left hb (by rw [inv.size]; omega) i hi hl
      have := memH listed listedH inv hs hag j hj hr
      rw [h.1] at this
      cases this
  | succ f ih =>
    intro listed listedH a w inv hs hag h
    by_cases hall : ∀ i, i < n → listed.getD i true = true
    · refine done listed a w inv hall (h.1 ?_) (f + 1)
      cases hr : Region.ready .any hd listedH with
      | nil => rfl
      | cons x xs =>
        have hx : x ∈ Region.ready .any hd listedH := by rw [hr]; simp
        obtain ⟨h0, o, ho, _⟩ := mem_ready.1 hx
        have hlt : x < n := by
          have := (Array.getElem?_eq_some_iff.1 ho).1
          omega
        have := hall x hlt
        simp only [Array.getD_eq_getD_getElem?] at this h0
        rw [hag x hlt, this] at h0
        cases h0
    · simp only [Classical.not_forall] at hall
      obtain ⟨i0, hi0, hl0⟩ := hall
      have hl0' : listed.getD i0 true = false := by simpa using hl0
      rw [show f + 1 + g = (f + g) + 1 by omega]
      refine ⟨fun h0 => ?_, fun i hi => ?_⟩
      · obtain ⟨j, hj, hr⟩ := ready_of_left hb (by rw [inv.size]; omega) i0 hi0 hl0'
        rw [h0] at hr; cases hr
      · have hin : i < n := by
          rcases Nat.lt_or_ge i n with h' | h'
          · exact h'
          · exact absurd hi (tail_waits hsk hc hn inv _ i0 rfl hi0 hl0' i h')
        have h1 := h.2 i (memH listed listedH inv hs hag i hin hi)
        refine wpOp_head hh hb hin (wpOp_mono (fun a' w' h' => ?_) h1)
        refine ih _ _ a' w' (inv.set hi hin) (by simpa using hs) (fun j hj => ?_) h'.2
        have h2 : i < listed.size := by rw [inv.size]; omega
        by_cases e : i = j
        · subst e; simp [hs, hin, h2]
        · simp only [Array.getElem?_setIfInBounds_ne e]; exact hag j hj

theorem wpOp_imp {Q' : Exit → Act → World → Prop} (hp : ∀ c a w, Q (.panic c) a w → Q' (.panic c) a w) (ho : ∀ a w, Q .outgrown a w → Q' .outgrown a w) {i : Nat} {K : Act → World → Prop} {a : Act} {w : World}
    (h : wpOp P ops Q i K a w) : wpOp P ops Q' i K a w := by
  have lo : LetsOut Q → LetsOut Q' := fun ⟨a, w, h⟩ => ⟨a, w, ho a w h⟩
  unfold wpOp at *
  cases hoi : ops[i]? with
  | none => simpa [hoi] using h
  | some o =>
    simp only [hoi] at *
    split
    · rename_i hwt
      simp only [hwt, if_true] at h
      rcases h with h | h
      · refine .inl ?_
        unfold Oper.wp at *
        generalize (execOp a.eval o).run P w = r at *
        cases r with
        | ok nx w' =>
          cases nx <;> simp only [Oper.upon] at h ⊢ <;>
            first
              | exact h
              | exact Calls.mono h (fun e w'' he => by cases e <;> first | exact he | exact hp _ _ _ he | exact lo he)
        | halt x w' => cases x <;> simp only [Oper.upon] at h ⊢ <;> first | exact h | exact hp _ _ _ h
      · exact .inr ⟨h.1, lo h.2⟩
    · rename_i hwt
      simp only [hwt] at h
      exact h
theorem wpPlan_imp {Q' : Exit → Act → World → Prop} (hn : ∀ a w, Q .normal a w → Q' .normal a w) (hp : ∀ c a w, Q (.panic c) a w → Q' (.panic c) a w) (ho : ∀ a w, Q .outgrown a w → Q' .outgrown a w) :
    ∀ (π : Plan) (S : World → Prop) (a : Act) (w : World), wpPlan P ops Q S π a w → wpPlan P ops Q' S π a w
  | .nil, S, a, w, h => hn _ _ h
  | .br i j r1 r2, S, a, w, h => ⟨wpOp_imp hp ho (wpOp_mono (fun a' w' h' => ⟨h'.1, wpPlan_imp hn hp ho r1 S _ _ h'.2⟩) h.1), wpOp_imp hp ho (wpOp_mono (fun a' w' h' => ⟨h'.1, wpPlan_imp hn hp ho r2 S _ _ h'.2⟩) h.2)⟩
  | .cons (i, true) r, S, a, w, h => by
    obtain ⟨o, v, S', h0, h1, h2, h3, h4⟩ := h
    exact ⟨o, v, S', h0, h1, h2, h3, wpPlan_imp hn hp ho r S' _ _ h4⟩
  | .cons (c, false) r, S, a, w, h => by
    by_cases hc : c < 1000
    · simp only [wpPlan, hc, if_true] at h ⊢
      exact wpOp_imp hp ho (wpOp_mono (fun a' w' h' => ⟨h'.1, wpPlan_imp hn hp ho r S _ _ h'.2⟩) h)
    · simp only [wpPlan, hc, if_false] at h ⊢
      exact ⟨wpOp_imp hp ho (wpOp_mono (fun a' w' h' => ⟨h'.1, wpOp_imp hp ho (wpOp_mono (fun a' w' h' => ⟨h'.1, wpPlan_imp hn hp ho r S _ _ h'.2⟩) h'.2)⟩) h.1),
        wpOp_imp hp ho (wpOp_mono (fun a' w' h' => ⟨h'.1, wpOp_imp hp ho (wpOp_mono (fun a' w' h' => ⟨h'.1, wpPlan_imp hn hp ho r S _ _ h'.2⟩) h'.2)⟩) h.2)⟩

def planOK (ops : Array Oper) (n : Nat) (π : Plan) : Bool :=
  Region.noSelect (ops.extract 0 n) && planB (ops.extract 0 n) π (Array.replicate n false) && decide (plen π = n) && decide (n < ops.size) &&
    backB ops n && Region.sinkB .any ops n && Region.chainB .any ops n && Region.seqB .any ops (ops.size - n) n (Array.replicate n true ++ Array.replicate (ops.size - n) false)

/-- Head and tail: the head by its plan, the tail as a plain list. -/
def tailQ (P : Program) (ops : Array Oper) (Q : Exit → Act → World → Prop) (tl : List Oper) : Exit → Act → World → Prop
  | .normal, a, w => wpList P ops Q tl a w
  | e, a, w => Q e a w

theorem sched_any {a : Act} {w : World} (hm : P.follows .mixedOrders = true) (h : wpAny P .any ops Q ops.size (Array.replicate ops.size false) a w) : ∀ t, wpOps P ops Q (Region.schedule (P.follows .mixedOrders) ops t) a w := fun t => by
  simp only [Region.schedule, hm, Bool.true_or, if_true]
  exact wpAny_sound ops.size t _ a _ h
theorem wp_region_plan {n : Nat} {l tl : List Oper} {π : Plan} {a : Act} {w : World} (hm : P.follows .mixedOrders = true) (hB : planOK l.toArray n π = true) (htl : l.drop n = tl)
    (hQ : ∀ c a d v w, Q (.panic c) (a.put d v) w → Q (.panic c) a w)
    (h : wpPlan P (l.toArray.extract 0 n) (tailQ P l.toArray Q tl) S π a w.drew) : ∀ t, wpOps P l.toArray Q (Region.schedule (P.follows .mixedOrders) l.toArray t) a w.drew := by
  simp only [planOK, Bool.and_eq_true, decide_eq_true_eq] at hB
  obtain ⟨⟨⟨⟨⟨⟨⟨hsel, hplan⟩, hlen⟩, hn⟩, hback⟩, hsink⟩, hchain⟩, hseq⟩ := hB
  have hsz : (l.toArray.extract 0 n).size = n := by simp at hn ⊢; omega
  have hh : ∀ j, j < n → (l.toArray.extract 0 n)[j]? = l.toArray[j]? := fun j hj => by
    rw [Array.getElem?_extract]
    simp at hn
    rw [if_pos (by simp only [List.size_toArray] at hn ⊢; omega)]
    simp
  have hdl : tl.length = l.toArray.size - n := by rw [← htl]; simp
  refine sched_any hm ?_
  have hQ' : ∀ c a d v w, headQ P l.toArray Q (l.toArray.size - n) (Array.replicate n true ++ Array.replicate (l.toArray.size - n) false) (.panic c) (a.put d v) w →
      headQ P l.toArray Q (l.toArray.size - n) (Array.replicate n true ++ Array.replicate (l.toArray.size - n) false) (.panic c) a w := hQ
  have hplan' : wpPlan P (l.toArray.extract 0 n) (headQ P l.toArray Q (l.toArray.size - n) (Array.replicate n true ++ Array.replicate (l.toArray.size - n) false)) S π a w.drew := by
    refine wpPlan_imp (Q := tailQ P l.toArray Q tl) (Q' := headQ P l.toArray Q (l.toArray.size - n) (Array.replicate n true ++ Array.replicate (l.toArray.size - n) false)) (fun a' w' h' => ?_) (fun _ _ _ h' => h') (fun _ _ h' => h') π S a w.drew h
    have hq : (Array.replicate n true ++ Array.replicate (l.toArray.size - n) false : Array Bool) = (Array.replicate n true ++ Array.replicate (l.toArray.size - n) false : Array Bool) := rfl
    have h2 := wpAny_of_seq (md := .any) (P := P) (ops := l.toArray) (Q' := Q) tl n (Array.replicate n true ++ Array.replicate (l.toArray.size - n) false) a' w' (fun j => by rw [← htl]; simp [List.getElem?_drop]) (by rw [hdl]; exact hseq) h'
    rw [hdl] at h2
    exact h2
  have H := wpAnyH_of_plan hsel hQ' π S (Array.replicate n false) a w.drew hplan hplan'
  rw [hlen] at H
  have := wpAny_of_headH (Q := Q) (S := S) (g := l.toArray.size - n) hh hsz hback hsink hchain hn (fun listed h1 h2 h3 => ?_) n (Array.replicate l.toArray.size false) (Array.replicate n false) a w.drew ?_ (by simp) (fun j hj => ?_) H
  · rw [show n + (l.toArray.size - n) = l.toArray.size by omega] at this
    exact this
  · apply Array.ext
    · simp at h1 hn ⊢; omega
    · intro i hi hi'
      have hsi : i < l.toArray.size := by rw [← h1]; exact hi
      rw [Array.getElem_append]
      by_cases hin : i < n
      · have := h2 i hin
        simp [hi] at this
        simp [hin, this]
      · have := h3 i (by omega) hsi
        simp [hi] at this
        simp [hin, this]
  · exact ⟨by simp, fun j oj _ hl => (by rw [getD_replicate_false] at hl; cases hl), fun t _ ht => getD_in (by simpa using ht) (getD_replicate_false _ _)⟩
  · rw [Array.getElem?_replicate, Array.getElem?_replicate, if_pos hj, if_pos (by omega)]

def planAll (ops : Array Oper) (π : Plan) : Bool := Region.noSelect ops && planB ops π (Array.replicate ops.size false) && decide (plen π = ops.size)
theorem wp_region_planAll {l : List Oper} {π : Plan} {a : Act} {w : World} (hm : P.follows .mixedOrders = true) (hB : planAll l.toArray π = true)
    (hQ : ∀ c a d v w, Q (.panic c) (a.put d v) w → Q (.panic c) a w) (h : wpPlan P l.toArray Q S π a w.drew) : ∀ t, wpOps P l.toArray Q (Region.schedule (P.follows .mixedOrders) l.toArray t) a w.drew := by
  simp only [planAll, Bool.and_eq_true, decide_eq_true_eq] at hB
  refine sched_any hm (wpAny_of_held (S := S) _ _ _ _ ?_)
  have := wpAnyH_of_plan hB.1.1 hQ π S _ a w.drew hB.1.2 h
  rwa [hB.2] at this
end

/-! ### Memory: a block that is known whole; what may have changed -/
def Blk (w : World) (g : Nat) (t : TypeId) (cs : List Value) : Prop :=
  ∃ fr : Nat × Nat, w.heap[g]? = some (.cells cs.toArray t fr) ∧ ∀ j, j < cs.length → (decide (fr.1 ≤ j) && decide (j < fr.2)) = false

/-- From w to w' only the blocks of 'bad' and new ones have changed. -/
structure Chg (bad : List Nat) (w w' : World) : Prop where
  os : w'.os = w.os
  tape : w'.tape = w.tape
  output : w'.output = w.output
  size : w.heap.size ≤ w'.heap.size
  keep : ∀ k, k < w.heap.size → k ∉ bad → w'.heap[k]? = w.heap[k]?

theorem Chg.refl (bad : List Nat) (w : World) : Chg bad w w := ⟨rfl, rfl, rfl, Nat.le_refl _, fun _ _ _ => rfl⟩
theorem Chg.drew (bad : List Nat) (w : World) : Chg bad w w.drew := ⟨rfl, rfl, rfl, Nat.le_refl _, fun _ _ _ => rfl⟩
theorem Chg.mono {bad bad' : List Nat} {w w' : World} (h : Chg bad w w') (hb : ∀ k, k ∈ bad → k ∈ bad') : Chg bad' w w' :=
  ⟨h.os, h.tape, h.output, h.size, fun k h1 h2 => h.keep k h1 (fun h3 => h2 (hb k h3))⟩
theorem Chg.trans {bad bad' : List Nat} {w w' w'' : World} (h : Chg bad w w') (h' : Chg bad' w' w'') (hb : ∀ k, k ∈ bad' → k ∈ bad ∨ w.heap.size ≤ k) : Chg bad w w'' :=
  ⟨h'.os.trans h.os, h'.tape.trans h.tape, h'.output.trans h.output, Nat.le_trans h.size h'.size, fun k h1 h2 =>
    (h'.keep k (Nat.lt_of_lt_of_le h1 h.size) (fun h3 => by rcases hb k h3 with h4 | h4; exact h2 h4; omega)).trans (h.keep k h1 h2)⟩
theorem Chg.then_ {bad : List Nat} {w w' w'' : World} (h : Chg bad w w') (h' : Chg [] w' w'') : Chg bad w w'' := h.trans h' (fun k hk => by cases hk)
theorem Chg.trans1 {bad : List Nat} {w w' w'' : World} {g : Nat} (h : Chg bad w w') (h' : Chg [g] w' w'') (hb : g ∈ bad ∨ w.heap.size ≤ g) : Chg bad w w'' := h.trans h' (fun k hk => by
  have : k = g := by simpa using hk
  subst this; exact hb)
theorem Chg.below {w w' : World} (h : Chg [] w w') : RowKit.Below w.heap.size w w' := ⟨h.os, h.tape, h.output, h.size, fun k hk => h.keep k hk (by simp)⟩
theorem Chg.of_below {w w' : World} (h : RowKit.Below w.heap.size w w') : Chg [] w w' := ⟨h.os, h.tape, h.output, h.size, fun k hk _ => h.block k hk⟩

theorem Blk.lt {w : World} {g : Nat} {t : TypeId} {cs : List Value} (h : Blk w g t cs) : g < w.heap.size := by
  obtain ⟨fr, h, _⟩ := h
  exact (Array.getElem?_eq_some_iff.1 h).1
theorem Blk.chg {w w' : World} {g : Nat} {t : TypeId} {cs : List Value} {bad : List Nat} (h : Blk w g t cs) (hc : Chg bad w w') (hg : g ∉ bad) : Blk w' g t cs := by
  have hlt := h.lt
  obtain ⟨fr, h1, h2⟩ := h
  exact ⟨fr, (hc.keep g hlt hg).trans h1, h2⟩
theorem Blk.chg0 {w w' : World} {g : Nat} {t : TypeId} {cs : List Value} (h : Blk w g t cs) (hc : Chg [] w w') : Blk w' g t cs := h.chg hc (by simp)
theorem Blk.cell {w : World} {g : Nat} {t : TypeId} {cs : List Value} (h : Blk w g t cs) (i : Nat) : w.cell? ⟨g, i, none⟩ = cs[i]? := by
  obtain ⟨fr, h1, _⟩ := h
  rw [cell_of_row w g i cs.toArray t fr h1]
  simp
theorem Blk.range {w : World} {g : Nat} {t : TypeId} {cs : List Value} (h : Blk w g t cs) (o m : Nat) : w.rangeAt g o ((cs.drop o).take m) := fun j v hv => by
  rw [h.cell]
  rw [List.getElem?_take] at hv
  split at hv
  · simpa using hv
  · cases hv
theorem Blk.ne {w : World} {g g' : Nat} {t t' : TypeId} {cs cs' : List Value} (h : Blk w g t cs) (h' : Blk w g' t' cs') (ht : t ≠ t') : g ≠ g' := by
  rintro rfl
  obtain ⟨fr, h, _⟩ := h
  obtain ⟨fr', h', _⟩ := h'
  rw [h] at h'
  injection h' with h'
  injection h' with _ h2
  exact ht h2

theorem chg_alloc (w : World) (o : Obj) : Chg [] w (w.alloc o) := ⟨rfl, rfl, rfl, by simp, fun k hk _ => RowKit.Below.heap_alloc w o k hk⟩
theorem blk_alloc (w : World) (t : TypeId) (cs : List Value) : Blk (w.alloc (.cells cs.toArray t)) w.heap.size t cs := ⟨(0, 0), heap_alloc_new w _, fun j _ => by simp⟩

/-- A block with other cells. -/
theorem chg_setRow (w : World) (g : Nat) (cs : Array Value) : Chg [g] w (w.setRow g cs) :=
  ⟨rfl, rfl, rfl, by simp, fun k _ hk => setRow_other w g k cs (by simpa using hk)⟩
theorem blk_setRow {w : World} {g : Nat} {t : TypeId} {cs cs' : List Value} (h : Blk w g t cs) (hl : cs'.length = cs.length) : Blk (w.setRow g cs'.toArray) g t cs' := by
  obtain ⟨fr, h1, h2⟩ := h
  exact ⟨fr, setRow_heap w g _ _ t fr h1, fun j hj => h2 j (by omega)⟩

section
variable {P : Program} {ρ : Env} {w : World} {dst : Option Tmp} {ty : TypeId} {pos : String} {af : Array Edge} {gd : Option (Nat × Bool)}

/-! ### Operations that touch no memory -/
theorem Pure.move {x : Operand} {v : Value} (hx : ev ρ x = some v) : Pure P ρ ⟨dst, .move x, ty, pos, af, gd⟩ v := fun w a hf => by
  simp [execOp, hf.eval hx]
theorem Pure.assign {x : Operand} {v : Value} (hx : ev ρ x = some v) : Pure P ρ ⟨dst, .assign x, ty, pos, af, gd⟩ v := fun w a hf => by
  simp [execOp, hf.eval hx]
theorem Pure.pickT {c x y : Operand} {v : Value} (hc : ev ρ c = some (.bool true)) (hx : ev ρ x = some v) : Pure P ρ ⟨dst, .pick c x y, ty, pos, af, gd⟩ v := fun w a hf => by
  simp [execOp, hf.eval hx, hf.eval hc, asBool]
theorem Pure.pickF {c x y : Operand} {v : Value} (hc : ev ρ c = some (.bool false)) (hx : ev ρ y = some v) : Pure P ρ ⟨dst, .pick c x y, ty, pos, af, gd⟩ v := fun w a hf => by
  simp [execOp, hf.eval hx, hf.eval hc, asBool]
theorem Pure.nilCheck {x : Operand} {a : Addr} (hx : ev ρ x = some (.pointer (some a))) : Pure P ρ ⟨dst, .nilCheck x, ty, pos, af, gd⟩ (.pointer (some a)) := fun w a' hf => by
  simp [execOp, hf.eval hx]
theorem Pure.add {x y : Operand} {k : IntKind} {m l r : Int} {t t' : TypeId} (hx : ev ρ x = some (.int k m)) (hy : ev ρ y = some (.int k l)) (hr : k.wrap (m + l) = r) :
    Pure P ρ ⟨dst, .binOp .add t x y t', ty, pos, af, gd⟩ (.int k r) := fun w a hf => by
  simp [execOp, hf.eval hx, hf.eval hy, eqGuard, binOp, Op.intArith, hr]
theorem Pure.sub {x y : Operand} {k : IntKind} {m l r : Int} {t t' : TypeId} (hx : ev ρ x = some (.int k m)) (hy : ev ρ y = some (.int k l)) (hr : k.wrap (m - l) = r) :
    Pure P ρ ⟨dst, .binOp .sub t x y t', ty, pos, af, gd⟩ (.int k r) := fun w a hf => by
  simp [execOp, hf.eval hx, hf.eval hy, eqGuard, binOp, Op.intArith, hr]
theorem Pure.mul {x y : Operand} {k : IntKind} {m l r : Int} {t t' : TypeId} (hx : ev ρ x = some (.int k m)) (hy : ev ρ y = some (.int k l)) (hr : k.wrap (m * l) = r) :
    Pure P ρ ⟨dst, .binOp .mul t x y t', ty, pos, af, gd⟩ (.int k r) := fun w a hf => by
  simp [execOp, hf.eval hx, hf.eval hy, eqGuard, binOp, Op.intArith, hr]
theorem Pure.bits {op : BinOp} {x y : Operand} {k : IntKind} {m l : Int} {t t' : TypeId} (hx : ev ρ x = some (.int k m)) (hy : ev ρ y = some (.int k l)) (hop : (match op with | .and | .or | .xor | .andNot => true | _ => false) = true) :
    Pure P ρ ⟨dst, .binOp op t x y t', ty, pos, af, gd⟩ (.int k (Go.bits op k m l)) := fun w a hf => by
  cases op <;> simp at hop <;> simp [execOp, hf.eval hx, hf.eval hy, eqGuard, binOp, Op.intBits, Go.bits]
theorem Pure.shl {x y : Operand} {k yk : IntKind} {m s p r : Int} {t t' : TypeId} (hx : ev ρ x = some (.int k m)) (hy : ev ρ y = some (.int yk s)) (hs : 0 ≤ s) (hp : (2 : Int) ^ (min s.toNat k.bits) = p) (hr : k.wrap (m * p) = r) :
    Pure P ρ ⟨dst, .binOp .shl t x y t', ty, pos, af, gd⟩ (.int k r) := fun w a hf => by
  subst hp
  simp [execOp, hf.eval hx, hf.eval hy, eqGuard, binOp, Op.shift, Int.not_lt.2 hs, hr]
theorem Pure.shr {x y : Operand} {k yk : IntKind} {m s p : Int} {t t' : TypeId} (hx : ev ρ x = some (.int k m)) (hy : ev ρ y = some (.int yk s)) (hs : 0 ≤ s) (hp : (2 : Int) ^ (min s.toNat k.bits) = p) :
    Pure P ρ ⟨dst, .binOp .shr t x y t', ty, pos, af, gd⟩ (.int k (m / p)) := fun w a hf => by
  have hpos : (0 : Int) ≤ p := by rw [← hp]; exact Int.le_of_lt (Int.pow_pos (by omega))
  have : m.fdiv p = m / p := Int.fdiv_eq_ediv_of_nonneg _ hpos
  subst hp
  simp [execOp, hf.eval hx, hf.eval hy, eqGuard, binOp, Op.shift, Int.not_lt.2 hs, this]
theorem Pure.lss {x y : Operand} {k : IntKind} {m l : Int} {t t' : TypeId} (hx : ev ρ x = some (.int k m)) (hy : ev ρ y = some (.int k l)) : Pure P ρ ⟨dst, .binOp .lss t x y t', ty, pos, af, gd⟩ (.bool (decide (m < l))) := fun w a hf => by
  simp [execOp, hf.eval hx, hf.eval hy, eqGuard, binOp, Op.intCmp]
theorem Pure.leq {x y : Operand} {k : IntKind} {m l : Int} {t t' : TypeId} (hx : ev ρ x = some (.int k m)) (hy : ev ρ y = some (.int k l)) : Pure P ρ ⟨dst, .binOp .leq t x y t', ty, pos, af, gd⟩ (.bool (decide (m ≤ l))) := fun w a hf => by
  simp [execOp, hf.eval hx, hf.eval hy, eqGuard, binOp, Op.intCmp]
theorem Pure.gtr {x y : Operand} {k : IntKind} {m l : Int} {t t' : TypeId} (hx : ev ρ x = some (.int k m)) (hy : ev ρ y = some (.int k l)) : Pure P ρ ⟨dst, .binOp .gtr t x y t', ty, pos, af, gd⟩ (.bool (decide (l < m))) := fun w a hf => by
  simp [execOp, hf.eval hx, hf.eval hy, eqGuard, binOp, Op.intCmp]
theorem Pure.geq {x y : Operand} {k : IntKind} {m l : Int} {t t' : TypeId} (hx : ev ρ x = some (.int k m)) (hy : ev ρ y = some (.int k l)) : Pure P ρ ⟨dst, .binOp .geq t x y t', ty, pos, af, gd⟩ (.bool (decide (l ≤ m))) := fun w a hf => by
  simp [execOp, hf.eval hx, hf.eval hy, eqGuard, binOp, Op.intCmp]
theorem Pure.eql {x y : Operand} {k : IntKind} {m l : Int} {t t' : TypeId} (hx : ev ρ x = some (.int k m)) (hy : ev ρ y = some (.int k l)) : Pure P ρ ⟨dst, .binOp .eql t x y t', ty, pos, af, gd⟩ (.bool (decide (m = l))) := fun w a hf => by
  simp [execOp, hf.eval hx, hf.eval hy, eqGuard, binOp, Op.intCmp]
  rfl
theorem Pure.neq {x y : Operand} {k : IntKind} {m l : Int} {t t' : TypeId} (hx : ev ρ x = some (.int k m)) (hy : ev ρ y = some (.int k l)) : Pure P ρ ⟨dst, .binOp .neq t x y t', ty, pos, af, gd⟩ (.bool (decide (m ≠ l))) := fun w a hf => by
  simp [execOp, hf.eval hx, hf.eval hy, eqGuard, binOp, Op.intCmp]
  rfl
theorem Pure.rem {x y : Operand} {k : IntKind} {m l : Int} {t t' : TypeId} (hx : ev ρ x = some (.int k m)) (hy : ev ρ y = some (.int k l)) (h0 : 0 ≤ m) (hl : 0 < l) :
    Pure P ρ ⟨dst, .binOp .rem t x y t', ty, pos, af, gd⟩ (.int k (m % l)) := fun w a hf => by
  have hne : l ≠ 0 := by omega
  simp [execOp, hf.eval hx, hf.eval hy, eqGuard, binOp, Op.intDiv, hne, Int.tmod_eq_emod_of_nonneg h0]
theorem Pure.quo {x y : Operand} {k : IntKind} {m l : Int} {t t' : TypeId} (hx : ev ρ x = some (.int k m)) (hy : ev ρ y = some (.int k l)) (h0 : 0 ≤ m) (hl : 0 < l) (hw : k.wrap (m / l) = m / l) :
    Pure P ρ ⟨dst, .binOp .quo t x y t', ty, pos, af, gd⟩ (.int k (m / l)) := fun w a hf => by
  have hne : l ≠ 0 := by omega
  simp [execOp, hf.eval hx, hf.eval hy, eqGuard, binOp, Op.intDiv, hne, Int.tdiv_eq_ediv_of_nonneg h0, hw]
theorem Pure.not {x : Operand} {b : Bool} {t : TypeId} (hx : ev ρ x = some (.bool b)) : Pure P ρ ⟨dst, .unOp .not t x, ty, pos, af, gd⟩ (.bool (!b)) := fun w a hf => by
  simp [execOp, hf.eval hx, Op.unary]
theorem Pure.compl {x : Operand} {k : IntKind} {m : Int} {t : TypeId} (hx : ev ρ x = some (.int k m)) : Pure P ρ ⟨dst, .unOp .xor t x, ty, pos, af, gd⟩ (.int k (Go.bits .xor k (if k.signed then -1 else k.max) m)) := fun w a hf => by
  simp [execOp, hf.eval hx, Op.unary, Op.intBits, Go.bits]
theorem Pure.neg {x : Operand} {k : IntKind} {m r : Int} {t : TypeId} (hx : ev ρ x = some (.int k m)) (hr : k.wrap (0 - m) = r) : Pure P ρ ⟨dst, .unOp .neg t x, ty, pos, af, gd⟩ (.int k r) := fun w a hf => by
  subst hr
  simp [execOp, hf.eval hx, Op.unary, Op.intArith]
theorem Pure.conv {x : Operand} {k k' : IntKind} {m r : Int} {s t : TypeId} {d : TypeDesc} (hs : ∀ w, (underlying s).run P w = .ok d w) (ht : ∀ w, (underlying t).run P w = .ok (.int k) w) (hx : ev ρ x = some (.int k' m)) (hr : k.wrap m = r) :
    Pure P ρ ⟨dst, .convert s t x, ty, pos, af, gd⟩ (.int k r) := fun w a hf => by
  subst hr
  simp [execOp, hf.eval hx, convert, hs, ht, Conv.intToInt]
theorem Pure.fieldAddr {x : Operand} {g o i sz r : Nat} {s : TypeId} {fs : Array Field} {f : Field} (hs : ∀ w, (underlying s).run P w = .ok (.struct fs) w) (hf' : fs[i]? = some f) (hz : ∀ w, (sizeOf f.type).run P w = .ok (sz + 1) w)
    (hx : ev ρ x = some (.pointer (some ⟨g, o, none⟩))) (hr : o + f.offset = r) : Pure P ρ ⟨dst, .fieldAddr s x i, ty, pos, af, gd⟩ (.pointer (some ⟨g, r, none⟩)) := fun w a hf => by
  subst hr
  simp [execOp, hf.eval hx, Instr.fieldAt, hs, hf', Instr.sureAddr, fieldPlace, hz, Addr.add_mid]
theorem Pure.indexAddrA {x y : Operand} {g o sz m r : Nat} {k : IntKind} {i : Int} {t e : TypeId} (ht : ∀ w, (underlying t).run P w = .ok (.array m e) w) (hz : ∀ w, (sizeOf e).run P w = .ok sz w)
    (hx : ev ρ x = some (.pointer (some ⟨g, o, none⟩))) (hy : ev ρ y = some (.int k i)) (h0 : 0 ≤ i) (h1 : i < m) (hr : o + i.toNat * sz = r) : Pure P ρ ⟨dst, .indexAddr t x y, ty, pos, af, gd⟩ (.pointer (some ⟨g, r, none⟩)) := fun w a hf => by
  subst hr
  simp [execOp, hf.eval hx, hf.eval hy, Instr.indexAt, asIntOf, ht, Instr.sureAddr, hz, Addr.add_mid, h0, h1]
theorem Pure.indexAddrS {x y : Operand} {g o sz len cap r : Nat} {k : IntKind} {i : Int} {t e : TypeId} (ht : ∀ w, (underlying t).run P w = .ok (.slice e) w) (hz : ∀ w, (sizeOf e).run P w = .ok sz w)
    (hx : ev ρ x = some (.slice (some ⟨g, o, none⟩) len cap)) (hy : ev ρ y = some (.int k i)) (h0 : 0 ≤ i) (h1 : i < len) (hr : o + i.toNat * sz = r) : Pure P ρ ⟨dst, .indexAddr t x y, ty, pos, af, gd⟩ (.pointer (some ⟨g, r, none⟩)) := fun w a hf => by
  subst hr
  simp [execOp, hf.eval hx, hf.eval hy, Instr.indexAt, asIntOf, ht, hz, Addr.add_mid, h0, h1]
/-- Strings as lists of bytes. -/
def str (l : List UInt8) : ByteArray := ⟨l.toArray⟩
def bt (l : List UInt8) (i : Nat) : Int := ((l.getD i 0).toNat : Int)
theorem bt_bd (l : List UInt8) (i : Nat) : 0 ≤ bt l i ∧ bt l i ≤ 255 := by
  unfold bt
  have := UInt8.toNat_lt (l.getD i 0)
  omega
theorem str_data (l : List UInt8) : (str l).data.toList = l := rfl
theorem str_size (l : List UInt8) : (str l).size = l.length := rfl
theorem str_eta (s : ByteArray) : str s.data.toList = s := by cases s; rfl
theorem str_toList (l : List UInt8) : (str l).toList = l := by rw [Lib.toList_data]; rfl
theorem str_ext {s t : ByteArray} (h : s.data.toList = t.data.toList) : s = t := by rw [← str_eta s, ← str_eta t, h]
theorem str_inj {l m : List UInt8} (h : str l = str m) : l = m := by rw [← str_data l, h, str_data]
theorem str_append (l m : List UInt8) : str l ++ str m = str (l ++ m) := str_ext (by simp [str])
theorem str_extract (l : List UInt8) (a b : Nat) : (str l).extract a b = str ((l.take b).drop a) := str_ext (by
  rw [Lib.extract_data, str_data, str_data, List.drop_take])
theorem Pure.indexStr {x y : Operand} {k : IntKind} {i : Int} {j : Nat} {l : List UInt8} {t : TypeId} (ht : ∀ w, (underlying t).run P w = .ok .string w) (hx : ev ρ x = some (.string (str l))) (hy : ev ρ y = some (.int k i)) (hj : i = j) (h1 : j < l.length) :
    Pure P ρ ⟨dst, .index t x y, ty, pos, af, gd⟩ (.int .u8 (bt l j)) := fun w a hf => by
  subst hj
  have e : (str l)[j]? = some (l.getD j 0) := by
    rw [getElem?_pos (str l) j (by rw [str_size]; exact h1)]
    congr 1
    rw [List.getD_eq_getElem?_getD, List.getElem?_eq_getElem h1]
    rfl
  simp [execOp, hf.eval hx, hf.eval hy, Instr.index, asIntOf, ht, e, bt]
theorem Pure.lenStr {x : Operand} {l : List UInt8} {t : TypeId} (ht : ∀ w, (underlying t).run P w = .ok .string w) (hx : ev ρ x = some (.string (str l))) : Pure P ρ ⟨dst, .call { callee := .builtin .len, args := #[x], argTypes := #[t] }, ty, pos, af, gd⟩ (.int .i64 l.length) := fun w a hf => by
  simp [BigFrame.execOp_builtin, BigFrame.builtin_len, hf.eval hx, Builtin.len_, ht, goInt, str_size]
theorem Pure.lenSlice {x : Operand} {A : Option Addr} {len cap : Nat} {t e : TypeId} (ht : ∀ w, (underlying t).run P w = .ok (.slice e) w) (hx : ev ρ x = some (.slice A len cap)) : Pure P ρ ⟨dst, .call { callee := .builtin .len, args := #[x], argTypes := #[t] }, ty, pos, af, gd⟩ (.int .i64 len) := fun w a hf => by
  simp [BigFrame.execOp_builtin, BigFrame.builtin_len, hf.eval hx, Builtin.len_, ht, goInt]
theorem Pure.min {x y : Operand} {k k' : IntKind} {m l : Int} {ts : Array TypeId} (hx : ev ρ x = some (.int k m)) (hy : ev ρ y = some (.int k' l)) : Pure P ρ ⟨dst, .call { callee := .builtin .min, args := #[x, y], argTypes := ts }, ty, pos, af, gd⟩ (.int k (min m l)) := fun w a hf => by
  simp [BigFrame.execOp_builtin, BigFrame.builtin_min, hf.eval hx, hf.eval hy, Builtin.min_, Builtin.min2]
  omega
theorem Pure.sliceStr {x y z : Operand} {k k' : IntKind} {i j : Int} {p q : Nat} {l : List UInt8} {t : TypeId} (ht : P.underlying t = some .string) (hx : ev ρ x = some (.string (str l))) (hy : ev ρ y = some (.int k i)) (hz : ev ρ z = some (.int k' j))
    (hi : i = p) (hj : j = q) (h1 : p ≤ q) (h2 : q ≤ l.length) : Pure P ρ ⟨dst, .slice t x (some y) (some z) none, ty, pos, af, gd⟩ (.string (str ((l.take q).drop p))) := fun w a hf => by
  subst hi hj
  have : ¬ ((l.length : Int) < q) := by omega
  simp [execOp, hf.eval hx, hf.eval hy, hf.eval hz, Instr.sliceAt, run_underlying ht, Instr.slice, Instr.sliceBounds, Instr.sliceBound, asIntOf, str_size, h1, h2, str_extract]
theorem Pure.sliceTo {x z : Operand} {k' : IntKind} {j : Int} {q : Nat} {l : List UInt8} {t : TypeId} (ht : P.underlying t = some .string) (hx : ev ρ x = some (.string (str l))) (hz : ev ρ z = some (.int k' j))
    (hj : j = q) (h2 : q ≤ l.length) : Pure P ρ ⟨dst, .slice t x none (some z) none, ty, pos, af, gd⟩ (.string (str (l.take q))) := fun w a hf => by
  subst hj
  simp [execOp, hf.eval hx, hf.eval hz, Instr.sliceAt, run_underlying ht, Instr.slice, Instr.sliceBounds, Instr.sliceBound, asIntOf, str_size, h2, str_extract]
theorem Pure.sliceFrom {x y : Operand} {k : IntKind} {i : Int} {p : Nat} {l : List UInt8} {t : TypeId} (ht : P.underlying t = some .string) (hx : ev ρ x = some (.string (str l))) (hy : ev ρ y = some (.int k i))
    (hi : i = p) (h1 : p ≤ l.length) : Pure P ρ ⟨dst, .slice t x (some y) none none, ty, pos, af, gd⟩ (.string (str (l.drop p))) := fun w a hf => by
  subst hi
  simp [execOp, hf.eval hx, hf.eval hy, Instr.sliceAt, run_underlying ht, Instr.slice, Instr.sliceBounds, Instr.sliceBound, asIntOf, str_size, h1, str_extract]
theorem Pure.strAdd {x y : Operand} {l m : List UInt8} {t t' : TypeId} (hx : ev ρ x = some (.string (str l))) (hy : ev ρ y = some (.string (str m))) (h : l.length + m.length ≤ 9223372036854775807) :
    Pure P ρ ⟨dst, .binOp .add t x y t', ty, pos, af, gd⟩ (.string (str (l ++ m))) := fun w a hf => by
  have h' : ¬ (9223372036854775807 < (l.length : Int) + m.length) := by omega
  simp [execOp, hf.eval hx, hf.eval hy, eqGuard, binOp, Op.stringOp, str_size, h', str_append, IntKind.max, IntKind.bits, IntKind.signed]
theorem Pure.strEql {x y : Operand} {l m : List UInt8} {t t' : TypeId} (hx : ev ρ x = some (.string (str l))) (hy : ev ρ y = some (.string (str m))) :
    Pure P ρ ⟨dst, .binOp .eql t x y t', ty, pos, af, gd⟩ (.bool (decide (l = m))) := fun w a hf => by
  simp [execOp, hf.eval hx, hf.eval hy, eqGuard, binOp, Op.stringOp, str_toList]
  by_cases h : l = m <;> simp [h]
theorem Pure.strNeq {x y : Operand} {l m : List UInt8} {t t' : TypeId} (hx : ev ρ x = some (.string (str l))) (hy : ev ρ y = some (.string (str m))) :
    Pure P ρ ⟨dst, .binOp .neq t x y t', ty, pos, af, gd⟩ (.bool (decide (l ≠ m))) := fun w a hf => by
  simp [execOp, hf.eval hx, hf.eval hy, eqGuard, binOp, Op.stringOp, str_toList]
  by_cases h : l = m <;> simp [h]
end

/-! ### Literals of structs and arrays -/
def evp (ρ : Env) : List (Nat × Operand) → Option (List (Nat × Value))
  | [] => some []
  | (i, x) :: r => match ev ρ x with
    | some v => match evp ρ r with
      | some vs => some ((i, v) :: vs)
      | none => none
    | none => none
theorem Fits.evalp {a : Act} {ρ : Env} (h : Fits a ρ) : ∀ {xs : List (Nat × Operand)} {vs : List (Nat × Value)}, evp ρ xs = some vs → xs.map (fun x => (x.1, a.eval x.2)) = vs
  | [], vs, hx => by simpa [evp] using hx
  | (i, x) :: r, vs, hx => by
    simp only [evp] at hx
    cases h1 : ev ρ x with
    | none => simp [h1] at hx
    | some v =>
      cases h2 : evp ρ r with
      | none => simp [h1, h2] at hx
      | some us =>
        simp only [h1, h2, Option.some.injEq] at hx
        subst hx
        simp only [List.map_cons, h.eval h1, h.evalp h2]
theorem Pure.build {P : Program} {ρ : Env} {dst : Option Tmp} {ty : TypeId} {pos : String} {af : Array Edge} {gd : Option (Nat × Bool)} {t : TypeId} {parts : List (Nat × Operand)} {vs : List (Nat × Value)} {cs : List Value} (hp : evp ρ parts = some vs) (hb : P.built t vs = some cs.toArray) :
    Pure P ρ ⟨dst, .build t parts.toArray, ty, pos, af, gd⟩ (.agg cs.toArray) := fun w a hf => by
  have e : (parts.toArray.map fun (i, x) => (i, a.eval x)) = vs.toArray := by rw [List.map_toArray, ← hf.evalp hp]
  unfold execOp
  simp only [e]
  simp [run_build (P := P) w t vs.toArray cs.toArray (by simpa using hb)]

/-! ### Operations on memory -/
section
variable {P : Program} {ρ : Env} {w : World} {dst : Option Tmp} {ty : TypeId} {pos : String} {af : Array Edge} {gd : Option (Nat × Bool)}

theorem Run.load {x : Operand} {g o i : Nat} {t e : TypeId} {cs : List Value} {v : Value} (hx : ev ρ x = some (.pointer (some ⟨g, o, none⟩))) (ha : ∀ w, (isAgg t).run P w = .ok false w) (hb : Blk w g e cs) (hi : o = i) (hc : cs[i]? = some v) :
    Run P ρ ⟨dst, .load t x, ty, pos, af, gd⟩ w v w := fun a hf => by
  subst hi
  have hcell : w.cell? ⟨g, o, none⟩ = some v := by rw [hb.cell]; exact hc
  simp [execOp, hf.eval hx, Instr.loadAt, Instr.sureAddr, loadVar, ha, hcell]
theorem Run.loadRow {x : Operand} {g o i : Nat} {t e : TypeId} {cs vs : List Value} {d : TypeDesc} (hx : ev ρ x = some (.pointer (some ⟨g, o, none⟩))) (hu : P.underlying t = some d) (hd : d.isRow = true) (hn : (P.info? t).map (·.size) = some vs.length)
    (hb : Blk w g e cs) (hi : o = i) (hc : (cs.drop i).take vs.length = vs) : Run P ρ ⟨dst, .load t x, ty, pos, af, gd⟩ w (.agg vs.toArray) w := fun a hf => by
  subst hi
  have hr := hb.range o vs.length
  rw [hc] at hr
  simp [execOp, hf.eval hx, run_loadAt_mid (P := P) w g o t vs d hr hu hd hn]
theorem Run.loadAll {x : Operand} {g : Nat} {t e : TypeId} {cs : List Value} {d : TypeDesc} (hx : ev ρ x = some (.pointer (some ⟨g, 0, none⟩))) (hu : P.underlying t = some d) (hd : d.isRow = true) (hb : Blk w g e cs) (hn : (P.info? t).map (·.size) = some cs.length) :
    Run P ρ ⟨dst, .load t x, ty, pos, af, gd⟩ w (.agg cs.toArray) w := Run.loadRow (i := 0) hx hu hd hn hb rfl (by simp)
theorem RunS.store {x y : Operand} {g o i : Nat} {t e : TypeId} {cs : List Value} {v u : Value} (hx : ev ρ x = some (.pointer (some ⟨g, o, none⟩))) (hy : ev ρ y = some v) (hz : ∀ w, (sizeOf t).run P w = .ok 1 w) (h1 : v.oneCell' = true)
    (hb : Blk w g e cs) (hi : o = i) (hc : cs[i]? = some u) : RunS P ρ ⟨none, .store t x y, ty, pos, af, gd⟩ w (w.setRow g (cs.set i v).toArray) := fun a hf => by
  subst hi
  obtain ⟨fr, h2, h3⟩ := hb
  have hlt : o < cs.length := (List.getElem?_eq_some_iff.1 hc).1
  have hcell : w.cell? ⟨g, o, none⟩ = some u := by rw [cell_of_row w g o cs.toArray e fr h2]; simpa using hc
  have hfz : w.frozen? ⟨g, o, none⟩ = false := by simpa [World.frozen?, h2] using h3 o hlt
  have hset : w.setCell ⟨g, o, none⟩ v = w.setRow g (cs.set o v).toArray := by
    rw [setCell_eq_setRow w g o cs.toArray e fr v h2]; simp
  rw [← hset]
  have hst : (storeVar t ⟨g, o, none⟩ v).run P w = .ok () (w.setCell ⟨g, o, none⟩ v) := by
    have hrun : ∀ v : Value, v.oneCell' = true → (Go.store ⟨g, o, none⟩ v).run P w = .ok () (w.setCell ⟨g, o, none⟩ v) := fun v h1 => by
      cases v <;> simp [Value.oneCell'] at h1 <;> simp [Go.store, Sem.run, hcell, hfz]
    have h0 := hrun v h1
    have hadd : (⟨g, o, none⟩ : Addr).add 0 = ⟨g, o, none⟩ := rfl
    cases v <;> simp [Value.oneCell'] at h1 <;> simp [storeVar, Value.cells, storeCells, hz, hadd, h0]
  simp [execOp, hf.eval hx, hf.eval hy, Instr.storeAt, Instr.sureAddr, hst]
theorem Run.alloc {t : TypeId} {z : Value} (hz : ∀ w, (zeroValue t).run P w = .ok z w) : Run P ρ ⟨dst, .alloc t, ty, pos, af, gd⟩ w (.pointer (some ⟨w.heap.size, 0, none⟩)) (w.alloc (.cells z.cells t)) := fun a hf => by
  simp [execOp, Instr.alloc, hz, newVar, newRow]
theorem Run.box {x : Operand} {t : TypeId} {v : Value} (hx : ev ρ x = some v) : Run P ρ ⟨dst, .box t x, ty, pos, af, gd⟩ w (.pointer (some ⟨w.heap.size, 0, none⟩)) (w.alloc (.cells v.cells t)) := fun a hf => by
  simp [execOp, hf.eval hx, Instr.box, newVar, newRow]
end

/-! ### Loops -/
theorem TE.loopInv {F : Frame → Prop} {P : Program} {Q : Exit → Act → World → Prop} {n : Nat} {ds : List Deferred} {k : List Item} {ρ : Env} {w : World} {c : Code} {σ : Type} (ks : List Nat) (Inv : σ → World → Prop) (env : σ → Env) (μ : σ → Nat) (s0 : σ)
    (h0 : Inv s0 w) (hs : restr ρ ks = some (env s0))
    (round : ∀ s w, Inv s w → (∀ s' w', Inv s' w' → μ s' < μ s → TE F P Q n ds (.inLoop c :: k) (env s') w') → TE F P Q n ds (.code c :: .inLoop c :: k) (env s) w) : TE F P Q n ds (.code (.loop c) :: k) ρ w := by
  have key : ∀ m s w, μ s = m → Inv s w → TE F P Q n ds (.code c :: .inLoop c :: k) (env s) w := by
    intro m
    induction m using Nat.strongRecOn with
    | _ m ih =>
      intro s w hm hI
      exact round s w hI fun s' w' hI' hlt => TE.inLoop (ih (μ s') (hm ▸ hlt) s' w' rfl hI')
  exact TE.loop (TE.sub ks hs (key _ s0 w rfl h0))

/-! ### The steps of a plan -/
def PL (P : Program) (n : Nat) (ds : List Deferred) (ops : Array Oper) (Q : Exit → Act → World → Prop) (S : World → Prop) (π : Plan) (ρ : Env) (w : World) : Prop :=
  ∀ a, Sat n ds a ρ → wpPlan P ops Q S π a w
section
variable {F : Frame → Prop} {P : Program} {Q R : Exit → Act → World → Prop} {n : Nat} {ds : List Deferred} {k : List Item} {ρ : Env} {w w' : World} {ops : Array Oper} {S : World → Prop} {π : Plan}
variable {i d : Nat} {op : Op} {ty : TypeId} {pos : String} {af : Array Edge} {v : Value}
theorem PL.take (ho : ops[i]? = some ⟨some d, op, ty, pos, af, none⟩) (hr : ∀ w', S w' → Run P ρ ⟨some d, op, ty, pos, af, none⟩ w' v w') (hd : Nat.blt d n = true) (hS : S w) (h : PL P n ds ops R S π ((d, v) :: ρ) w) :
    PL P n ds ops R S (.cons (i, true) π) ρ w := fun a ha =>
  ⟨_, v, S, fun _ h => h, ho, .inl ⟨rfl, fun w' hw' => hr w' hw' a ha.fits⟩, hS, h _ (ha.put v hd)⟩
/-- The same, and from here on more is kept. -/
theorem PL.takeS (S' : World → Prop) (hSS : ∀ w, S' w → S w) (ho : ops[i]? = some ⟨some d, op, ty, pos, af, none⟩) (hr : ∀ w', S' w' → Run P ρ ⟨some d, op, ty, pos, af, none⟩ w' v w') (hd : Nat.blt d n = true) (hS : S' w) (h : PL P n ds ops R S' π ((d, v) :: ρ) w) :
    PL P n ds ops R S (.cons (i, true) π) ρ w := fun a ha =>
  ⟨_, v, S', hSS, ho, .inl ⟨rfl, fun w' hw' => hr w' hw' a ha.fits⟩, hS, h _ (ha.put v hd)⟩
/-- A guarded one that is wanted. -/
theorem PL.takeG {g : Nat} {b : Bool} {dj : Nat} (S' : World → Prop) (hSS : ∀ w, S' w → S w) (ho : ops[i]? = some ⟨some d, op, ty, pos, af, some (g, b)⟩) (hg : (ops[g]?).bind (·.dst) = some dj) (hj : Nat.blt dj n = true) (hl : look ρ dj = some (.bool b))
    (hr : ∀ w', S' w' → Run P ρ ⟨some d, op, ty, pos, af, some (g, b)⟩ w' v w') (hd : Nat.blt d n = true) (hS : S' w) (h : PL P n ds ops R S' π ((d, v) :: ρ) w) :
    PL P n ds ops R S (.cons (i, true) π) ρ w := fun a ha =>
  ⟨_, v, S', hSS, ho, .inl ⟨by rw [wanted_of (g := (g, b)) hg (ha.at_ hj hl)]; simp [gb], fun w' hw' => hr w' hw' a ha.fits⟩, hS, h _ (ha.put v hd)⟩
theorem PL.takeP (ho : ops[i]? = some ⟨some d, op, ty, pos, af, none⟩) (hr : Pure P ρ ⟨some d, op, ty, pos, af, none⟩ v) (hd : Nat.blt d n = true) (hS : S w) (h : PL P n ds ops R S π ((d, v) :: ρ) w) :
    PL P n ds ops R S (.cons (i, true) π) ρ w := PL.take ho (fun w' _ => hr w') hd hS h
theorem PL.val (ho : ops[i]? = some ⟨some d, op, ty, pos, af, none⟩) (hr : Run P ρ ⟨some d, op, ty, pos, af, none⟩ w v w') (hd : Nat.blt d n = true) (hS : S w') (h : PL P n ds ops R S π ((d, v) :: ρ) w') (hi : i < 1000 := by decide) :
    PL P n ds ops R S (.cons (i, false) π) ρ w := fun a ha => by
  simp only [wpPlan, hi, if_true]
  unfold wpOp
  simp only [ho]
  refine .inl ?_
  unfold Oper.wp
  rw [hr a ha.fits]
  exact ⟨hS, h _ (ha.put v hd)⟩
theorem PL.eff (ho : ops[i]? = some ⟨none, op, ty, pos, af, none⟩) (hr : RunS P ρ ⟨none, op, ty, pos, af, none⟩ w w') (hS : S w') (h : PL P n ds ops R S π ρ w') (hi : i < 1000 := by decide) :
    PL P n ds ops R S (.cons (i, false) π) ρ w := fun a ha => by
  simp only [wpPlan, hi, if_true]
  unfold wpOp
  simp only [ho]
  refine .inl ?_
  unfold Oper.wp
  rw [hr a ha.fits]
  exact ⟨hS, h _ ha⟩
theorem PL.call {f : Nat} {xs : List Operand} {ats : Array TypeId} {vs : List Value} {C : Ending → World → Prop} (ho : ops[i]? = some ⟨some d, .call { callee := .value (.func f), args := xs.toArray, argTypes := ats }, ty, pos, af, none⟩) (hargs : evs ρ xs = some vs)
    (hf : ∀ args w, (callFunc f args).run P w = .ok (.enter f args) w) (hd : Nat.blt d n = true) (hc : Calls P f vs.toArray w C)
    (h : ∀ e w', C e w' → ∃ v, e = .returned v ∧ S w' ∧ PL P n ds ops R S π ((d, v) :: ρ) w') (hi : i < 1000 := by decide) :
    PL P n ds ops R S (.cons (i, false) π) ρ w := fun a ha => by
  simp only [wpPlan, hi, if_true]
  unfold wpOp
  simp only [ho]
  refine .inl ?_
  unfold Oper.wp
  have e1 : (xs.toArray.map a.eval) = vs.toArray := by rw [List.map_toArray, ha.fits.evals hargs]
  rw [execOp_call_go, e1]
  simp only [Array.empty_append, Array.append_empty, hf, Oper.upon_enter]
  refine hc.mono fun e w' he => ?_
  obtain ⟨v, rfl, hs, hv⟩ := h e w' he
  exact ⟨hs, hv _ (ha.put v hd)⟩
theorem PL.br {i j : Nat} {r1 r2 : Plan} (h1 : PL P n ds ops Q S (.cons (i, false) r1) ρ w) (h2 : PL P n ds ops Q S (.cons (j, false) r2) ρ w) (hi : i < 1000 := by decide) (hj : j < 1000 := by decide) : PL P n ds ops Q S (.br i j r1 r2) ρ w := fun a ha => by
  have g1 := h1 a ha
  have g2 := h2 a ha
  simp only [wpPlan, hi, hj, if_true] at g1 g2
  exact ⟨g1, g2⟩
/-- Several ways that meet again behind an item. -/
theorem TE.meet {σ : Type} {it : Item} (ks : List Nat) (J : σ → World → Prop) (env : σ → Env) (h1 : (∀ s w', J s w' → ∀ ρ', restr ρ' ks = some (env s) → TE F P Q n ds k ρ' w') → TE F P Q n ds (it :: k) ρ w) (h2 : ∀ s w', J s w' → TE F P Q n ds k (env s) w') : TE F P Q n ds (it :: k) ρ w :=
  h1 (fun s w' hJ ρ' hr => TE.sub ks hr (h2 s w' hJ))
theorem PL.nilTail {l tl : List Oper} (h : OL P n ds l.toArray Q tl ρ w) : PL P n ds ops (tailQ P l.toArray Q tl) S .nil ρ w := fun a ha => h a ha
theorem PL.nil (h : TE F P Q n ds k ρ w) : PL P n ds ops (NQ F P Q k) S .nil ρ w := fun a ha => h a ha
theorem TE.plan {id : Nat} {l tl : List Oper} (m : Nat) (π : Plan) (S : World → Prop) (hm : P.follows .mixedOrders = true) (hB : planOK l.toArray m π = true) (htl : l.drop m = tl)
    (h : PL P n ds (l.toArray.extract 0 m) (tailQ P l.toArray (NQ F P Q k) tl) S π ρ w.drew) (hd : Calm F l.toArray := by first | exact .inl (fun _ h_ => h_.2.1) | exact .inr rfl) : TE F P Q n ds (.code (.region id l.toArray true) :: k) ρ w :=
  fun a ha => T.regionD hd (wp_region_plan hm hB htl (fun _ _ _ _ _ h => h) (h a ha))
theorem TE.planAll {id : Nat} {l : List Oper} (π : Plan) (S : World → Prop) (hm : P.follows .mixedOrders = true) (hB : planAll l.toArray π = true)
    (h : PL P n ds l.toArray (NQ F P Q k) S π ρ w.drew) (hd : Calm F l.toArray := by first | exact .inl (fun _ h_ => h_.2.1) | exact .inr rfl) : TE F P Q n ds (.code (.region id l.toArray true) :: k) ρ w :=
  fun a ha => T.regionD hd (wp_region_planAll hm hB (fun _ _ _ _ _ h => h) (h a ha))
end


/-! ### Numbers -/
def w32 (n : Int) : Int := n % 4294967296
theorem u32w (n : Int) : IntKind.u32.wrap n = w32 n := by simp [w32, IntKind.wrap, IntKind.bits, IntKind.signed]
theorem u8w (n : Int) : IntKind.u8.wrap n = n % 256 := by simp [IntKind.wrap, IntKind.bits, IntKind.signed]
theorem u16w (n : Int) : IntKind.u16.wrap n = n % 65536 := by simp [IntKind.wrap, IntKind.bits, IntKind.signed]
theorem u64w (n : Int) : IntKind.u64.wrap n = n % 18446744073709551616 := by simp [IntKind.wrap, IntKind.bits, IntKind.signed]
theorem i64 {n : Int} (h1 : -9223372036854775808 ≤ n) (h2 : n ≤ 9223372036854775807) : IntKind.i64.wrap n = n := IntWalk.i64_in n ⟨h1, h2⟩
theorem i64in {n : Int} (h1 : -9223372036854775808 ≤ n) (h2 : n ≤ 9223372036854775807) : IntKind.i64.wrap n = n := IntWalk.i64_in n ⟨h1, h2⟩
theorem u8in {n : Int} (h1 : 0 ≤ n) (h2 : n ≤ 255) : IntKind.u8.wrap n = n := IntWalk.u8_in n ⟨h1, h2⟩
theorem u16in {n : Int} (h1 : 0 ≤ n) (h2 : n ≤ 65535) : IntKind.u16.wrap n = n := IntWalk.u16_in n ⟨h1, h2⟩
theorem u32in {n : Int} (h1 : 0 ≤ n) (h2 : n ≤ 4294967295) : IntKind.u32.wrap n = n := IntWalk.u32_in n ⟨h1, h2⟩
theorem u64in {n : Int} (h1 : 0 ≤ n) (h2 : n ≤ 18446744073709551615) : IntKind.u64.wrap n = n := IntWalk.u64_in n ⟨h1, h2⟩
theorem u32bt (l : List UInt8) (j : Nat) : IntKind.u32.wrap (bt l j) = bt l j := u32in (bt_bd l j).1 (by have := bt_bd l j; omega)
theorem u64bt (l : List UInt8) (j : Nat) : IntKind.u64.wrap (bt l j) = bt l j := u64in (bt_bd l j).1 (by have := bt_bd l j; omega)
theorem i64bt (l : List UInt8) (j : Nat) : IntKind.i64.wrap (bt l j) = bt l j := i64in (by have := bt_bd l j; omega) (by have := bt_bd l j; omega)
theorem u8bt (l : List UInt8) (j : Nat) : IntKind.u8.wrap (bt l j) = bt l j := u8in (bt_bd l j).1 (bt_bd l j).2

def iv (k : IntKind) (l : List Int) : List Value := l.map (.int k)
theorem iv_get {k : IntKind} {l : List Int} {i : Nat} (h : i < l.length) : (iv k l)[i]? = some (.int k (l.getD i 0)) := by
  simp [iv, h]
theorem iv_len (k : IntKind) (l : List Int) : (iv k l).length = l.length := by simp [iv]
theorem iv_set (k : IntKind) (l : List Int) (i : Nat) (x : Int) : (iv k l).set i (.int k x) = iv k (l.set i x) := by simp [iv, List.map_set]
/-- Bytes as cells. -/
def bv (l : List UInt8) : List Value := l.map fun b => .int .u8 (b.toNat : Int)
theorem bv_len (l : List UInt8) : (bv l).length = l.length := by simp [bv]
theorem bv_get {l : List UInt8} {i : Nat} (h : i < l.length) : (bv l)[i]? = some (.int .u8 (bt l i)) := by simp [bv, bt, h]

/-- Cells 'vs' laid over 'cs' from place 'o' on. -/
def lay (cs : List Value) (o : Nat) (vs : List Value) : List Value := cs.take o ++ vs ++ cs.drop (o + vs.length)
theorem lay_len {cs : List Value} {o : Nat} {vs : List Value} (h : o + vs.length ≤ cs.length) : (lay cs o vs).length = cs.length := by simp [lay]; omega
theorem lay_all {cs vs : List Value} (h : cs.length = vs.length) : lay cs 0 vs = vs := by simp [lay, h]

theorem Blk.all {w : World} {g : Nat} {e : TypeId} {cs vs : List Value} (h : Blk w g e (lay cs 0 vs)) (hl : cs.length = vs.length) : Blk w g e vs := by rw [lay_all hl] at h; exact h

/-! ### Steps that turn memory, with what they leave -/
section
variable {P : Program} {Q R : Exit → Act → World → Prop} {n : Nat} {ds : List Deferred} {ρ : Env} {w w' : World} {ops : Array Oper} {l : List Oper}
variable {d : Nat} {ty : TypeId} {pos : String} {af : Array Edge} {v : Value} {S : World → Prop} {π : Plan} {i : Nat}
theorem OL.alloc {t : TypeId} {z : Value} (hz : ∀ w, (zeroValue t).run P w = .ok z w) (hd : Nat.blt d n = true)
    (h : ∀ g w', Blk w' g t z.cells.toList → Chg [] w w' → w.heap.size = g → OL P n ds ops R l ((d, .pointer (some ⟨g, 0, none⟩)) :: ρ) w') : OL P n ds ops R (⟨some d, .alloc t, ty, pos, af, none⟩ :: l) ρ w :=
  OL.val (Run.alloc hz) hd (h _ _ (by simpa using blk_alloc w t z.cells.toList) (chg_alloc _ _) rfl)
theorem OL.box {t : TypeId} {x : Operand} (hx : ev ρ x = some v) (hd : Nat.blt d n = true)
    (h : ∀ g w', Blk w' g t v.cells.toList → Chg [] w w' → w.heap.size = g → OL P n ds ops R l ((d, .pointer (some ⟨g, 0, none⟩)) :: ρ) w') : OL P n ds ops R (⟨some d, .box t x, ty, pos, af, none⟩ :: l) ρ w :=
  OL.val (Run.box hx) hd (h _ _ (by simpa using blk_alloc w t v.cells.toList) (chg_alloc _ _) rfl)
theorem PL.alloc {t : TypeId} {z : Value} (ho : ops[i]? = some ⟨some d, .alloc t, ty, pos, af, none⟩) (hz : ∀ w, (zeroValue t).run P w = .ok z w) (hd : Nat.blt d n = true) (hS : ∀ w', Chg [] w w' → S w')
    (h : ∀ g w', Blk w' g t z.cells.toList → Chg [] w w' → w.heap.size = g → PL P n ds ops R S π ((d, .pointer (some ⟨g, 0, none⟩)) :: ρ) w') (hi : i < 1000 := by decide) : PL P n ds ops R S (.cons (i, false) π) ρ w :=
  PL.val ho (Run.alloc hz) hd (hS _ (chg_alloc _ _)) (h _ _ (by simpa using blk_alloc w t z.cells.toList) (chg_alloc _ _) rfl) hi
theorem OL.store {x y : Operand} {g o j : Nat} {t e : TypeId} {cs : List Value} {u : Value} (hx : ev ρ x = some (.pointer (some ⟨g, o, none⟩))) (hy : ev ρ y = some v) (hz : ∀ w, (sizeOf t).run P w = .ok 1 w) (h1 : v.oneCell' = true)
    (hb : Blk w g e cs) (hi : o = j) (hc : cs[j]? = some u) (h : ∀ w', Blk w' g e (cs.set j v) → Chg [g] w w' → OL P n ds ops R l ρ w') : OL P n ds ops R (⟨none, .store t x y, ty, pos, af, none⟩ :: l) ρ w :=
  OL.eff (RunS.store hx hy hz h1 hb hi hc) (h _ (blk_setRow hb (by simp)) (chg_setRow _ _ _))
theorem RunS.storeRow {x y : Operand} {g o : Nat} {t e : TypeId} {cs vs : List Value} (hx : ev ρ x = some (.pointer (some ⟨g, o, none⟩))) (hy : ev ρ y = some (.agg vs.toArray)) (hn : (P.info? t).map (·.size) = some vs.length) (h1 : ∀ v ∈ vs, v.oneCell' = true)
    (hb : Blk w g e cs) (hl : o + vs.length ≤ cs.length) : ∃ w', RunS P ρ ⟨none, .store t x y, ty, pos, af, none⟩ w w' ∧ Blk w' g e (lay cs o vs) ∧ Chg [g] w w' := by
  obtain ⟨fr, h2, h3⟩ := hb
  have hth : w.there g o vs.toArray.size := fun j hj => by
    have hj' : j < vs.length := by simpa using hj
    refine ⟨?_, ?_⟩
    · rw [cell_of_row w g (o + j) cs.toArray e fr h2]
      simp
      omega
    · simpa [World.frozen?, h2] using h3 (o + j) (by omega)
  refine ⟨w.setCells g o vs, fun a hf => ?_, ?_⟩
  · have := run_storeAt_mid (P := P) w g o t vs.toArray hth (by simpa using hn) (all_oneCell_toArray h1)
    simp [execOp, hf.eval hx, hf.eval hy, this]
  · have key : ∀ (vs : List Value) (o : Nat) (w : World) (cs : List Value), (∃ fr : Nat × Nat, w.heap[g]? = some (.cells cs.toArray e fr) ∧ ∀ j, j < cs.length → (decide (fr.1 ≤ j) && decide (j < fr.2)) = false) → o + vs.length ≤ cs.length →
        Blk (w.setCells g o vs) g e (lay cs o vs) ∧ Chg [g] w (w.setCells g o vs) := by
      intro vs
      induction vs with
      | nil => intro o w cs h hl; exact ⟨by simp only [lay, List.length_nil, Nat.add_zero, List.append_nil, List.take_append_drop]; exact h, Chg.refl _ _⟩
      | cons v r ih =>
        intro o w cs h hl
        obtain ⟨fr, h2, h3⟩ := h
        simp only [List.length_cons] at hl
        have hset : w.setCell ⟨g, o, none⟩ v = w.setRow g (cs.set o v).toArray := by rw [setCell_eq_setRow w g o cs.toArray e fr v h2]; simp
        have h4 := ih (o + 1) (w.setRow g (cs.set o v).toArray) (cs.set o v) (blk_setRow ⟨fr, h2, h3⟩ (by simp)) (by simp; omega)
        rw [World.setCells, hset]
        refine ⟨?_, (chg_setRow w g _).trans h4.2 (fun k hk => .inl hk)⟩
        have e1 : lay (cs.set o v) (o + 1) r = lay cs o (v :: r) := by
          simp only [lay, List.length_cons]
          rw [List.drop_set_of_lt (by omega), List.take_succ_eq_append_getElem (by simp; omega), List.take_set_of_le (Nat.le_refl _)]
          simp [Nat.add_assoc, Nat.add_comm 1]
        rw [← e1]
        exact h4.1
    exact key vs o w cs ⟨fr, h2, h3⟩ hl
theorem OL.storeRow {x y : Operand} {g o : Nat} {t e : TypeId} {cs vs : List Value} (hx : ev ρ x = some (.pointer (some ⟨g, o, none⟩))) (hy : ev ρ y = some (.agg vs.toArray)) (hn : (P.info? t).map (·.size) = some vs.length) (h1 : ∀ v ∈ vs, v.oneCell' = true)
    (hb : Blk w g e cs) (hl : o + vs.length ≤ cs.length) (h : ∀ w', Blk w' g e (lay cs o vs) → Chg [g] w w' → OL P n ds ops R l ρ w') : OL P n ds ops R (⟨none, .store t x y, ty, pos, af, none⟩ :: l) ρ w := by
  obtain ⟨w', h2, h3, h4⟩ := RunS.storeRow (ty := ty) (pos := pos) (af := af) hx hy hn h1 hb hl
  exact OL.eff h2 (h w' h3 h4)
theorem loadRow_at {g o : Nat} {t e : TypeId} {cs vs : List Value} {dd : TypeDesc} (hu : P.underlying t = some dd) (hd : dd.isRow = true) (hn : (P.info? t).map (·.size) = some vs.length) (hb : Blk w g e cs) (hc : (cs.drop o).take vs.length = vs) :
    (loadVar t ⟨g, o, none⟩).run P w = .ok (.agg vs.toArray) w := by
  have hr := hb.range o vs.length
  rw [hc] at hr
  exact run_loadVar_mid w g o t vs dd hr hu hd hn
end


/-! ### A value under another spelling; what contracts say -/
theorem OL.cast {P : Program} {R : Exit → Act → World → Prop} {n : Nat} {ds : List Deferred} {ρ : Env} {w : World} {ops : Array Oper} {l : List Oper} {v : Value} (v' : Value) (d : Nat) (hl : look ρ d = some v) (e : v = v') (h : OL P n ds ops R l ((d, v') :: ρ) w) : OL P n ds ops R l ρ w := by
  subst e
  exact fun a ha => h a (ha.sub fun t u hu => by
    rw [look_cons] at hu
    by_cases e : d = t
    · subst e; simp only [if_true] at hu; rw [hl]; exact hu
    · rw [if_neg e] at hu; exact hu)
theorem PL.cast {P : Program} {R : Exit → Act → World → Prop} {n : Nat} {ds : List Deferred} {ρ : Env} {w : World} {ops : Array Oper} {S : World → Prop} {π : Plan} {v : Value} (v' : Value) (d : Nat) (hl : look ρ d = some v) (e : v = v') (h : PL P n ds ops R S π ((d, v') :: ρ) w) : PL P n ds ops R S π ρ w := by
  subst e
  exact fun a ha => h a (ha.sub fun t u hu => by
    rw [look_cons] at hu
    by_cases e : d = t
    · subst e; simp only [if_true] at hu; rw [hl]; exact hu
    · rw [if_neg e] at hu; exact hu)
theorem TE.cast {F : Frame → Prop} {P : Program} {Q : Exit → Act → World → Prop} {n : Nat} {ds : List Deferred} {k : List Item} {ρ : Env} {w : World} {v : Value} (v' : Value) (d : Nat) (hl : look ρ d = some v) (e : v = v') (h : TE F P Q n ds k ((d, v') :: ρ) w) : TE F P Q n ds k ρ w := by
  subst e
  exact fun a ha => h a (ha.sub fun t u hu => by
    rw [look_cons] at hu
    by_cases e : d = t
    · subst e; simp only [if_true] at hu; rw [hl]; exact hu
    · rw [if_neg e] at hu; exact hu)
/-- It returns v and leaves the world alone. -/
def Ret (v : Value) (w : World) (e : Ending) (w' : World) : Prop := e = .returned v ∧ w = w'
/-- It returns v; nothing that was there has changed. -/
def RetC (v : Value) (w : World) (e : Ending) (w' : World) : Prop := e = .returned v ∧ Chg [] w w'


/-! ### Slices that the call itself made -/
theorem setCells_facts (g : Nat) (e : TypeId) : ∀ (vs : List Value) (o : Nat) (w : World) (cs : List Value), Blk w g e cs → o + vs.length ≤ cs.length → Blk (w.setCells g o vs) g e (lay cs o vs) ∧ Chg [g] w (w.setCells g o vs)
  | [], o, w, cs, h, hl => ⟨by simp only [lay, List.length_nil, Nat.add_zero, List.append_nil, List.take_append_drop]; exact h, Chg.refl _ _⟩
  | v :: r, o, w, cs, h, hl => by
    obtain ⟨fr, h2, h3⟩ := h
    simp only [List.length_cons] at hl
    have hset : w.setCell ⟨g, o, none⟩ v = w.setRow g (cs.set o v).toArray := by rw [setCell_eq_setRow w g o cs.toArray e fr v h2]; simp
    have h4 := setCells_facts g e r (o + 1) (w.setRow g (cs.set o v).toArray) (cs.set o v) (blk_setRow ⟨fr, h2, h3⟩ (by simp)) (by simp; omega)
    rw [World.setCells, hset]
    refine ⟨?_, (chg_setRow w g _).trans h4.2 (fun k hk => .inl hk)⟩
    have e1 : lay (cs.set o v) (o + 1) r = lay cs o (v :: r) := by
      simp only [lay, List.length_cons]
      rw [List.drop_set_of_lt (by omega), List.take_succ_eq_append_getElem (by simp; omega), List.take_set_of_le (Nat.le_refl _)]
      simp [Nat.add_assoc, Nat.add_comm 1]
    rw [← e1]
    exact h4.1
theorem Blk.writable {w : World} {g : Nat} {e : TypeId} {cs : List Value} (h : Blk w g e cs) {j : Nat} (hj : j < cs.length) : (w.cell? ⟨g, j, none⟩).isSome = true ∧ w.frozen? ⟨g, j, none⟩ = false := by
  refine ⟨by rw [h.cell]; simp [hj], ?_⟩
  obtain ⟨fr, h2, h3⟩ := h
  simpa [World.frozen?, h2] using h3 j hj

/-- The slice value v, of n elements of 'size' cells each, is nil, or holds the cells xs at the head of a block. -/
def Row (w : World) (e : TypeId) (size : Nat) (v : Value) (n : Nat) (xs : List Value) : Prop :=
  xs.length = n * size ∧ ((v = .slice none 0 0 ∧ n = 0) ∨ ∃ g cap cs, v = .slice (some ⟨g, 0, none⟩) n cap ∧ Blk w g e cs ∧ n ≤ cap ∧ cs.length = cap * size ∧ cs.take (n * size) = xs)
def own : Value → List Nat
  | .slice (some a) _ _ => [a.block]
  | _ => []
theorem Row.nil (w : World) (e : TypeId) (size : Nat) : Row w e size (.slice none 0 0) 0 [] := ⟨by simp, .inl ⟨rfl, rfl⟩⟩
theorem Row.chg {w w' : World} {e : TypeId} {size n : Nat} {v : Value} {xs : List Value} {bad : List Nat} (h : Row w e size v n xs) (hc : Chg bad w w') (hb : ∀ k, k ∈ own v → k ∉ bad) : Row w' e size v n xs := by
  refine ⟨h.1, ?_⟩
  rcases h.2 with h2 | ⟨g, cap, cs, rfl, h3, r⟩
  · exact .inl h2
  · exact .inr ⟨g, cap, cs, rfl, h3.chg hc (hb g (by simp [own])), r⟩
theorem Row.chg0 {w w' : World} {e : TypeId} {size n : Nat} {v : Value} {xs : List Value} (h : Row w e size v n xs) (hc : Chg [] w w') : Row w' e size v n xs := h.chg hc (fun _ _ => by simp)
theorem Row.lt {w : World} {e : TypeId} {size n : Nat} {v : Value} {xs : List Value} (h : Row w e size v n xs) : ∀ k, k ∈ own v → k < w.heap.size := by
  rcases h.2 with ⟨rfl, _⟩ | ⟨g, cap, cs, rfl, h3, _⟩
  · simp [own]
  · intro k hk; have : k = g := by simpa [own] using hk
    subst this; exact h3.lt
theorem Row.form {w : World} {e : TypeId} {size n : Nat} {v : Value} {xs : List Value} (h : Row w e size v n xs) (hn : 0 < n) :
    ∃ g cap cs, v = .slice (some ⟨g, 0, none⟩) n cap ∧ Blk w g e cs ∧ n ≤ cap ∧ cs.length = cap * size ∧ cs.take (n * size) = xs := by
  rcases h.2 with ⟨_, h0⟩ | h2
  · omega
  · exact h2
theorem Row.shape {w : World} {e : TypeId} {size n : Nat} {v : Value} {xs : List Value} (h : Row w e size v n xs) : ∃ A cap, v = .slice A n cap ∧ n ≤ cap := by
  rcases h.2 with ⟨rfl, rfl⟩ | ⟨g, cap, cs, rfl, _, h3, _⟩
  · exact ⟨none, 0, rfl, Nat.le_refl _⟩
  · exact ⟨_, cap, rfl, h3⟩

/-- What 'append' takes from its second argument. -/
def Src (P : Program) (size : Nat) (x : Value) (m : Nat) (news : List Value) (w : World) : Prop :=
  Builtin.lenOf x = Sem.pure m ∧ news.length = m * size ∧ ∀ w', Chg [] w w' → (Builtin.firstCells size m x).run P w' = .ok news.toArray w'
theorem Src.str (P : Program) (l : List UInt8) (w : World) : Src P 1 (.string (str l)) l.length (bv l) w := by
  refine ⟨rfl, by simp [bv], fun w' _ => ?_⟩
  simp only [Builtin.firstCells, Sem.run_pure]
  congr 1
  apply Array.ext'
  simp [V.str, bv, ByteArray.extract, ByteArray.copySlice]
theorem Src.of_blk {P : Program} {w : World} {g o m cap size : Nat} {e : TypeId} {cs news : List Value} (h : Blk w g e cs) (hl : news.length = m * size) (hc : (cs.drop o).take (m * size) = news) : Src P size (.slice (some ⟨g, o, none⟩) m cap) m news w := by
  refine ⟨rfl, hl, fun w' hw => run_firstCells_some (P := P) w' size m ⟨g, o, none⟩ m cap news hl fun j v hv => ?_⟩
  have h2 := (h.chg0 hw).range o (m * size)
  rw [hc] at h2
  rw [Addr.add_mid]
  exact h2 j v hv
theorem Src.of_row {P : Program} {w : World} {e : TypeId} {size n : Nat} {v : Value} {xs : List Value} (h : Row w e size v n xs) : Src P size v n xs w := by
  rcases h.2 with ⟨rfl, rfl⟩ | ⟨g, cap, cs, rfl, h3, _, _, h4⟩
  · have : xs = [] := List.eq_nil_of_length_eq_zero (by simpa using h.1)
    subst this
    exact ⟨rfl, by simp, fun w' _ => by simp [Builtin.firstCells]⟩
  · exact Src.of_blk h3 h.1 (by simpa using h4)

theorem run_append {P : Program} {w : World} {t tx ty e : TypeId} {i : TypeInfo} {z : Value} {size n m : Nat} {v x : Value} {xs news : List Value}
    (ht : P.underlying t = some (.slice e)) (htx : P.underlying tx = some (.slice e) ∨ P.underlying tx = some .string) (hi : P.info? e = some i) (hz : i.zero = some z) (hsize : i.size = size) (hzs : z.cells.size = size) (hb0 : 0 < i.bytes)
    (hrow : Row w e size v n xs) (hsrc : Src P size x m news w) (h1 : ∀ u ∈ news, u.oneCell' = true) (hb : (n + m) * i.bytes ≤ 140737488355328) :
    ∃ v' w', (Builtin.append_ #[t, tx] ty #[v, x]).run P w = .ok v' w' ∧ Row w' e size v' (n + m) (xs ++ news) ∧ Chg (own v) w w' ∧ (∀ k, k ∈ own v' → k ∈ own v ∨ w.heap.size ≤ k) := by
  subst hsize
  obtain ⟨hlen, hnl, hfirst⟩ := hsrc
  have hnm : n + m ≤ 140737488355328 := Nat.le_trans (Nat.le_mul_of_pos_right _ hb0) hb
  have hxl : (xs ++ news).length = (n + m) * i.size := by rw [List.length_append, hrow.1, hnl, Nat.add_mul]
  have h63 : ¬ (9223372036854775807 < (n : Int) + m) := by omega
  -- a new array
  have grow : ∀ (old : Nat), old < n + m → Row (w.drew.alloc (.cells (xs.toArray ++ news.toArray ++ Builtin.zeroCells z.cells (grownCap w (n + m) old e - (n + m))) e)) e i.size (.slice (some ⟨w.heap.size, 0, none⟩) (n + m) (grownCap w (n + m) old e)) (n + m) (xs ++ news) ∧
      Chg (own v) w (w.drew.alloc (.cells (xs.toArray ++ news.toArray ++ Builtin.zeroCells z.cells (grownCap w (n + m) old e - (n + m))) e)) := fun old ho => by
    have hge := grownCap_ge w (n + m) old e
    refine ⟨⟨hxl, .inr ⟨w.heap.size, _, xs ++ news ++ (Builtin.zeroCells z.cells (grownCap w (n + m) old e - (n + m))).toList, rfl, ?_, hge, ?_, ?_⟩⟩, ?_⟩
    · have e1 : xs.toArray ++ news.toArray ++ Builtin.zeroCells z.cells (grownCap w (n + m) old e - (n + m)) = (xs ++ news ++ (Builtin.zeroCells z.cells (grownCap w (n + m) old e - (n + m))).toList).toArray := by
        apply Array.ext'; simp
      rw [e1]
      exact blk_alloc w.drew e _
    · simp only [List.length_append, Array.length_toList, size_zeroCells, hzs, hrow.1, hnl, ← Nat.add_mul]
      congr 1
      omega
    · rw [← hxl, List.take_left]
    · exact ((Chg.drew [] w).then_ (chg_alloc _ _)).mono (fun k hk => by cases hk)
  have fits : ∀ old, old < n + m → ¬ (281474976710656 < Builtin.nextslicecap (n + m) old * i.bytes) := fun old ho => by
    have := growslice_fits ho hb
    omega
  have fresh : ∀ c, ∀ k, k ∈ own (.slice (some ⟨w.heap.size, 0, none⟩) (n + m) c) → k ∈ own v ∨ w.heap.size ≤ k := fun c k hk => by
    have : k = w.heap.size := by simpa [own] using hk
    exact .inr (by omega)
  rcases hrow.2 with ⟨hv, hn⟩ | ⟨g, cap, cs, hv, hblk, hnc, hcs, htake⟩
  · subst hv
    subst hn
    have hx0 : xs = [] := List.eq_nil_of_length_eq_zero (by simpa using hrow.1)
    subst hx0
    by_cases hm : m = 0
    · subst hm
      have hn0 : news = [] := List.eq_nil_of_length_eq_zero (by simpa using hnl)
      subst hn0
      refine ⟨.slice none 0 0, w, ?_, Row.nil _ _ _, Chg.refl _ _, by simp [own]⟩
      have hf := hfirst w (Chg.refl _ _)
      rcases htx with htx | htx <;> simp [Builtin.append_, run_underlying ht, run_underlying htx, sizeOf, typeInfo, hi, hlen, hf]
    · have hg := grow 0 (by omega)
      have hf := hfirst w.drew (Chg.drew _ _)
      have hfit := fits 0 (by omega)
      simp only [Nat.zero_add, List.nil_append] at hg hfit h63
      have h63' : ¬ (9223372036854775807 < (m : Int)) := by omega
      refine ⟨_, _, ?_, by simpa using hg.1, by simpa using hg.2, by simpa using fresh _⟩
      rcases htx with htx | htx <;> simp [Builtin.append_, run_underlying ht, run_underlying htx, sizeOf, typeInfo, zeroValue, hi, hz, hlen, hm, h63', hfit, Question.forced, run_firstCells_none, hf, newRow, grownCap]
  · subst hv
    by_cases hroom : n + m ≤ cap
    · have hf := hfirst w (Chg.refl _ _)
      have hfit : n * i.size + news.length ≤ cs.length := by rw [hnl, hcs, ← Nat.add_mul]; exact Nat.mul_le_mul_right _ hroom
      have hst := run_storeCells_cells (P := P) g (n * i.size) news 0 w (fun j hj => (hblk.writable (by omega)).1) (fun j hj => (hblk.writable (by omega)).2) h1
      have hfacts := setCells_facts g e news (n * i.size) w cs hblk hfit
      simp only [Nat.add_zero] at hst
      refine ⟨.slice (some ⟨g, 0, none⟩) (n + m) cap, w.setCells g (n * i.size) news, ?_, ⟨hxl, .inr ⟨g, cap, _, rfl, hfacts.1, hroom, by rw [lay_len hfit]; exact hcs, ?_⟩⟩, by simpa [own] using hfacts.2, fun k hk => .inl (by simpa [own] using hk)⟩
      · rcases htx with htx | htx <;> simp [Builtin.append_, run_underlying ht, run_underlying htx, sizeOf, typeInfo, hi, hlen, hroom, hf, Addr.add_mid, hst]
      · rw [lay, ← hxl, htake, List.take_left]
    · have hg := grow cap (by omega)
      have hf := hfirst w.drew (Chg.drew _ _)
      have hfit := fits cap (by omega)
      have hold : (Builtin.firstCells i.size n (.slice (some ⟨g, 0, none⟩) n cap)).run P w.drew = .ok xs.toArray w.drew :=
        run_firstCells_some (P := P) w.drew i.size n ⟨g, 0, none⟩ n cap xs hrow.1 fun j u hu => by
          have h2 := (hblk.chg0 (Chg.drew [] w)).range 0 (n * i.size)
          rw [List.drop_zero, htake] at h2
          rw [Addr.add_mid]
          exact h2 j u hu
      refine ⟨_, _, ?_, hg.1, hg.2, fresh _⟩
      have e1 : xs.toArray ++ (news.toArray ++ Builtin.zeroCells z.cells (grownCap w (n + m) cap e - (n + m))) = (xs ++ news).toArray ++ Builtin.zeroCells z.cells (grownCap w (n + m) cap e - (n + m)) := by
        apply Array.ext'; simp
      unfold grownCap at e1
      rcases htx with htx | htx <;> simp [Builtin.append_, run_underlying ht, run_underlying htx, sizeOf, typeInfo, zeroValue, hi, hz, hlen, hroom, h63, hfit, Question.forced, hold, hf, newRow, grownCap, e1]

section
variable {P : Program} {R : Exit → Act → World → Prop} {n : Nat} {ds : List Deferred} {ρ : Env} {w : World} {ops : Array Oper} {l : List Oper} {d : Nat} {ty : TypeId} {pos : String} {af : Array Edge}
theorem Run.append {dst : Option Tmp} {gd : Option (Nat × Bool)} {s x : Operand} {t tx e : TypeId} {i : TypeInfo} {z : Value} {size m q : Nat} {v u : Value} {xs news : List Value} (hs : ev ρ s = some v) (hx : ev ρ x = some u)
    (ht : P.underlying t = some (.slice e)) (htx : P.underlying tx = some (.slice e) ∨ P.underlying tx = some .string) (hi : P.info? e = some i) (hz : i.zero = some z) (hsize : i.size = size) (hzs : z.cells.size = size) (hb0 : 0 < i.bytes)
    (hrow : Row w e size v q xs) (hsrc : Src P size u m news w) (h1 : ∀ u ∈ news, u.oneCell' = true) (hb : (q + m) * i.bytes ≤ 140737488355328) :
    ∃ v' w', Run P ρ ⟨dst, .call { callee := .builtin .append, args := #[s, x], argTypes := #[t, tx] }, ty, pos, af, gd⟩ w v' w' ∧ Row w' e size v' (q + m) (xs ++ news) ∧ Chg (own v) w w' ∧ (∀ k, k ∈ own v' → k ∈ own v ∨ w.heap.size ≤ k) := by
  obtain ⟨v', w', hr, h2⟩ := run_append (ty := ty) ht htx hi hz hsize hzs hb0 hrow hsrc h1 hb
  exact ⟨v', w', fun a hf => by simp [BigFrame.execOp_builtin, BigFrame.builtin_append, hf.eval hs, hf.eval hx, hr], h2⟩
theorem OL.append {s x : Operand} {t tx e : TypeId} {i : TypeInfo} {z : Value} {size m q : Nat} {v u : Value} {xs news : List Value} (hs : ev ρ s = some v) (hx : ev ρ x = some u)
    (ht : P.underlying t = some (.slice e)) (htx : P.underlying tx = some (.slice e) ∨ P.underlying tx = some .string) (hi : P.info? e = some i) (hz : i.zero = some z) (hsize : i.size = size) (hzs : z.cells.size = size) (hb0 : 0 < i.bytes)
    (hd : Nat.blt d n = true) (hrow : Row w e size v q xs) (hsrc : Src P size u m news w) (h1 : ∀ u ∈ news, u.oneCell' = true) (hb : (q + m) * i.bytes ≤ 140737488355328)
    (h : ∀ v' w', Row w' e size v' (q + m) (xs ++ news) → Chg (own v) w w' → (∀ k, k ∈ own v' → k ∈ own v ∨ w.heap.size ≤ k) → OL P n ds ops R l ((d, v') :: ρ) w') :
    OL P n ds ops R (⟨some d, .call { callee := .builtin .append, args := #[s, x], argTypes := #[t, tx] }, ty, pos, af, none⟩ :: l) ρ w := by
  obtain ⟨v', w', hr, h2, h3, h4⟩ := Run.append (ty := ty) (pos := pos) (af := af) (dst := some d) (gd := none) hs hx ht htx hi hz hsize hzs hb0 hrow hsrc h1 hb
  exact OL.val hr hd (h v' w' h2 h3 h4)
theorem Pure.lenRow {dst : Option Tmp} {gd : Option (Nat × Bool)} {x : Operand} {t e e' : TypeId} {size q : Nat} {v : Value} {xs : List Value} (ht : ∀ w, (underlying t).run P w = .ok (.slice e) w) (hx : ev ρ x = some v) (hrow : Row w e' size v q xs) :
    Pure P ρ ⟨dst, .call { callee := .builtin .len, args := #[x], argTypes := #[t] }, ty, pos, af, gd⟩ (.int .i64 q) := by
  obtain ⟨A, cap, rfl, _⟩ := hrow.shape
  exact Pure.lenSlice ht hx
theorem Run.buildSlice {dst : Option Tmp} {gd : Option (Nat × Bool)} {t e : TypeId} {m size : Nat} {z : Value} {parts : List (Nat × Operand)} {vs : List (Nat × Value)} {cs : List Value} (hp : evp ρ parts = some vs)
    (ht : ∀ w, (underlying t).run P w = .ok (.slice e) w) (hz : ∀ w, (sizeOf e).run P w = .ok size w) (hzv : ∀ w, (zeroValue e).run P w = .ok z w) (hm : m * size ≤ 2 ^ 24) (hm0 : 0 < m * size)
    (hfill : Instr.fill (fun i => some (i * size, size)) ((Array.range (m * size)).map (z.cells[· % z.cells.size]!)) vs = some cs.toArray) :
    Run P ρ ⟨dst, .buildSlice t m parts.toArray, ty, pos, af, gd⟩ w (.slice (some ⟨w.heap.size, 0, none⟩) m m) (w.alloc (.cells cs.toArray e)) := fun a hf => by
  have e1 : (parts.toArray.map fun (i, x) => (i, a.eval x)) = vs.toArray := by rw [List.map_toArray, ← hf.evalp hp]
  have h1 : ¬ (2 ^ 24 < m * size) := by omega
  have h0 : m * size ≠ 0 := by omega
  unfold execOp
  simp only [e1]
  have h1' : m * size ≤ 16777216 := by omega
  simp [Instr.buildSlice, ht, hz, hzv, newRow, h0, hfill]
  omega
theorem OL.buildSlice {t e : TypeId} {m size : Nat} {z : Value} {parts : List (Nat × Operand)} {vs : List (Nat × Value)} {cs : List Value} (hp : evp ρ parts = some vs)
    (ht : ∀ w, (underlying t).run P w = .ok (.slice e) w) (hz : ∀ w, (sizeOf e).run P w = .ok size w) (hzv : ∀ w, (zeroValue e).run P w = .ok z w) (hm : m * size ≤ 2 ^ 24) (hm0 : 0 < m * size)
    (hfill : Instr.fill (fun i => some (i * size, size)) ((Array.range (m * size)).map (z.cells[· % z.cells.size]!)) vs = some cs.toArray) (hd : Nat.blt d n = true)
    (h : ∀ g w', Blk w' g e cs → Chg [] w w' → w.heap.size = g → OL P n ds ops R l ((d, .slice (some ⟨g, 0, none⟩) m m) :: ρ) w') : OL P n ds ops R (⟨some d, .buildSlice t m parts.toArray, ty, pos, af, none⟩ :: l) ρ w :=
  OL.val (Run.buildSlice hp ht hz hzv hm hm0 hfill) hd (h _ _ (blk_alloc _ _ _) (chg_alloc _ _) rfl)
theorem Run.toBytes {dst : Option Tmp} {gd : Option (Nat × Bool)} {x : Operand} {s t e : TypeId} {bs : List UInt8} (hs : P.underlying s = some .string) (ht : P.underlying t = some (.slice e)) (he : P.underlying e = some (.int .u8)) (hx : ev ρ x = some (.string (str bs))) :
    ∃ v' w', Run P ρ ⟨dst, .convert s t x, ty, pos, af, gd⟩ w v' w' ∧ Row w' e 1 v' bs.length (bv bs) ∧ Chg [] w w' ∧ own v' = [w.heap.size] := by
  have hr := run_bytes_of_string (P := P) w s t e (str bs) hs ht he
  have hge := grownCap_ge w (str bs).size 0 e
  refine ⟨.slice (some ⟨w.heap.size, 0, none⟩) (str bs).size (grownCap w (str bs).size 0 e), w.drew.alloc (.cells (bytesRow (str bs) (grownCap w (str bs).size 0 e)) e ((bytesRow (str bs) (grownCap w (str bs).size 0 e)).size, (bytesRow (str bs) (grownCap w (str bs).size 0 e)).size + 1)),
    fun a hf => by simp [execOp, hf.eval hx, hr], ⟨by simp [bv], .inr ⟨w.heap.size, _, bv bs ++ List.replicate (grownCap w (str bs).size 0 e - bs.length) (Value.int .u8 0), rfl, ?_, by simpa [str_size] using hge, ?_, ?_⟩⟩, ?_, by simp [own]⟩
  · have e1 : bytesRow (str bs) (grownCap w (str bs).size 0 e) = (bv bs ++ List.replicate (grownCap w (str bs).size 0 e - bs.length) (Value.int .u8 0)).toArray := by
      simp [bytesRow, bv, V.str, ByteArray.size]
    refine ⟨_, by rw [← e1]; exact heap_alloc_new w.drew _, fun j hj => ?_⟩
    rw [e1]
    simp
    intro h
    simp at hj
    omega
  · simp [bv]
    rw [str_size] at hge ⊢
    omega
  · simp [bv]
  · exact (Chg.drew [] w).then_ (chg_alloc _ _)
theorem OL.toBytes {x : Operand} {s t e : TypeId} {bs : List UInt8} (hs : P.underlying s = some .string) (ht : P.underlying t = some (.slice e)) (he : P.underlying e = some (.int .u8)) (hx : ev ρ x = some (.string (str bs))) (hd : Nat.blt d n = true)
    (h : ∀ v' w', Row w' e 1 v' bs.length (bv bs) → Chg [] w w' → own v' = [w.heap.size] → OL P n ds ops R l ((d, v') :: ρ) w') : OL P n ds ops R (⟨some d, .convert s t x, ty, pos, af, none⟩ :: l) ρ w := by
  obtain ⟨v', w', hr, h2, h3, h4⟩ := Run.toBytes (ty := ty) (pos := pos) (af := af) (dst := some d) (gd := none) hs ht he hx
  exact OL.val hr hd (h v' w' h2 h3 h4)
theorem bytes_back (bs : List UInt8) : strOfNums (bs.map fun b => (b.toNat : Int)) = str bs := by
  unfold strOfNums V.str
  congr 2
  rw [List.map_map]
  conv => rhs; rw [← List.map_id bs]
  exact List.map_congr_left fun b _ => by simp
theorem Run.toStr {dst : Option Tmp} {gd : Option (Nat × Bool)} {x : Operand} {s t e e' : TypeId} {g o len cap : Nat} {cs : List Value} {bs : List UInt8} (hs : P.underlying s = some (.slice e)) (he : P.underlying e = some (.int .u8)) (ht : P.underlying t = some .string)
    (hx : ev ρ x = some (.slice (some ⟨g, o, none⟩) len cap)) (hb : Blk w g e' cs) (hl : bs.length = len) (hc : (cs.drop o).take len = bv bs) :
    Run P ρ ⟨dst, .convert s t x, ty, pos, af, gd⟩ w (.string (str bs)) w := fun a hf => by
  have hr := run_convert_bytes_arg (P := P) (w := w) s e hs he g o len cap (bs.map fun b => (b.toNat : Int)) (by simp [hl]) (fun i hi => by
    have h2 := hb.range o len
    rw [hc] at h2
    have := h2 i (.int .u8 (bt bs i)) (bv_get (by omega))
    rw [this]
    simp [bt, show i < bs.length by omega]) t ht
  simp [execOp, hf.eval hx, hr, bytes_back]
theorem Run.rowStr {dst : Option Tmp} {gd : Option (Nat × Bool)} {x : Operand} {s t e e' : TypeId} {q : Nat} {v : Value} {bs : List UInt8} (hs : P.underlying s = some (.slice e)) (he : P.underlying e = some (.int .u8)) (ht : P.underlying t = some .string)
    (hx : ev ρ x = some v) (hrow : Row w e' 1 v q (bv bs)) : Run P ρ ⟨dst, .convert s t x, ty, pos, af, gd⟩ w (.string (str bs)) w := by
  have hq : bs.length = q := by have := hrow.1; rw [bv_len] at this; simpa using this
  rcases hrow.2 with ⟨rfl, rfl⟩ | ⟨g, cap, cs, rfl, h3, _, _, h4⟩
  · have : bs = [] := List.eq_nil_of_length_eq_zero hq
    subst this
    intro a hf
    have hr := run_convert_bytes_nil (P := P) (w := w) s e hs he 0 0 t ht
    simp [execOp, hf.eval hx, hr]
    rfl
  · exact Run.toStr hs he ht hx h3 hq (by simpa using h4)
end


/-! ### Which blocks a slice may not share -/
theorem Row.apart {w : World} {e t : TypeId} {size n g : Nat} {v : Value} {xs cs : List Value} (h : Row w e size v n xs) (hb : Blk w g t cs) (ht : e ≠ t) : ∀ k, k ∈ own v → k ∉ [g] := by
  rcases h.2 with ⟨rfl, _⟩ | ⟨g', cap, cs', rfl, h3, _⟩
  · simp [own]
  · intro k hk
    have : k = g' := by simpa [own] using hk
    subst this
    simpa using h3.ne hb ht
theorem Row.notin {w : World} {e t : TypeId} {size n g : Nat} {v : Value} {xs cs : List Value} (h : Row w e size v n xs) (hb : Blk w g t cs) (ht : e ≠ t) : g ∉ own v := fun hg => h.apart hb ht g hg (by simp)
theorem Row.disj {w : World} {e e' : TypeId} {size n size' n' : Nat} {v v' : Value} {xs xs' : List Value} (h : Row w e size v n xs) (h' : Row w e' size' v' n' xs') (ht : e ≠ e') : ∀ k, k ∈ own v → k ∉ own v' := by
  rcases h'.2 with ⟨rfl, _⟩ | ⟨g', cap, cs', rfl, h3, _⟩
  · simp [own]
  · intro k hk hk'
    exact h.apart h3 ht k hk (by simpa [own] using hk')
/-- All its blocks lie from B on. -/
def Mine (B : Nat) (v : Value) : Prop := ∀ k, k ∈ own v → B ≤ k
theorem Mine.nil (B : Nat) : Mine B (.slice none 0 0) := fun k hk => by simp [own] at hk
theorem Mine.new {B s : Nat} {v : Value} (h : own v = [s]) (hs : B ≤ s) : Mine B v := fun k hk => by rw [h] at hk; have : k = s := by simpa using hk
                                                                                                     omega
theorem Mine.step {B s : Nat} {v v' : Value} (h : Mine B v) (hs : B ≤ s) (hn : ∀ k, k ∈ own v' → k ∈ own v ∨ s ≤ k) : Mine B v' := fun k hk => by
  rcases hn k hk with h1 | h1
  · exact h k h1
  · omega
theorem Mine.slice {B g : Nat} (h : B ≤ g) (o n c : Nat) : Mine B (.slice (some ⟨g, o, none⟩) n c) := fun k hk => by
  have : k = g := by simpa [own] using hk
  omega
theorem Chg.own {bad : List Nat} {w w' w'' : World} {v : Value} (h : Chg bad w w') (h' : Chg (own v) w' w'') (hm : Mine w.heap.size v) : Chg bad w w'' := h.trans h' (fun k hk => .inr (hm k hk))
theorem own_slice (g o n c : Nat) : own (.slice (some ⟨g, o, none⟩) n c) = [g] := rfl


/-! ### Reslicing -/
theorem Pure.sliceSl {P : Program} {ρ : Env} {dst : Option Tmp} {ty : TypeId} {pos : String} {af : Array Edge} {gd : Option (Nat × Bool)} {x y z : Operand} {k k' : IntKind} {i j : Int} {g o len cap p q size r : Nat} {t e : TypeId}
    (ht : ∀ w, (underlying t).run P w = .ok (.slice e) w) (hs : ∀ w, (sizeOf e).run P w = .ok size w) (hx : ev ρ x = some (.slice (some ⟨g, o, none⟩) len cap)) (hy : ev ρ y = some (.int k i)) (hz : ev ρ z = some (.int k' j))
    (hi : i = p) (hj : j = q) (h1 : p ≤ q) (h2 : q ≤ cap) (h3 : p < cap) (hr : o + p * size = r) :
    Pure P ρ ⟨dst, .slice t x (some y) (some z) none, ty, pos, af, gd⟩ (.slice (some ⟨g, r, none⟩) (q - p) (cap - p)) := fun w a hf => by
  subst hi hj hr
  have h4 : ¬ (cap = p) := by omega
  simp [execOp, hf.eval hx, hf.eval hy, hf.eval hz, Instr.sliceAt, ht, Instr.slice, Instr.sliceBounds, Instr.sliceBound, asIntOf, h1, h2, hs, h4, Addr.add_mid]
theorem sub_get {cs : List Value} {o m j : Nat} {l : List UInt8} (h : (cs.drop o).take m = bv l) (hj : j < m) (hl : l.length = m) : cs[o + j]? = some (.int .u8 (bt l j)) := by
  have h1 : (bv l)[j]? = some (.int .u8 (bt l j)) := bv_get (by omega)
  rw [← h, List.getElem?_take, if_pos hj, List.getElem?_drop] at h1
  exact h1
theorem drop_take_sub {α : Type} {cs xs : List α} {o m p q : Nat} (h : (cs.drop o).take m = xs) (h1 : p ≤ q) (h2 : q ≤ m) : (cs.drop (o + p)).take (q - p) = (xs.take q).drop p := by
  rw [← h, List.take_take, Nat.min_eq_left h2, List.drop_take, List.drop_drop]


theorem Pure.indexAgg {P : Program} {ρ : Env} {dst : Option Tmp} {ty : TypeId} {pos : String} {af : Array Edge} {gd : Option (Nat × Bool)} {x y : Operand} {k : IntKind} {i : Int} {j len : Nat} {t e : TypeId} {cs : List Value} {v : Value}
    (ht : ∀ w, (underlying t).run P w = .ok (.array len e) w) (hs : ∀ w, (sizeOf e).run P w = .ok 1 w) (ha : ∀ w, (isAgg e).run P w = .ok false w) (hx : ev ρ x = some (.agg cs.toArray)) (hy : ev ρ y = some (.int k i))
    (hi : i = j) (hl : j < len) (hc : cs[j]? = some v) : Pure P ρ ⟨dst, .index t x y, ty, pos, af, gd⟩ v := fun w a hf => by
  subst hi
  have hlt : j < cs.length := (List.getElem?_eq_some_iff.1 hc).1
  have hv : cs[j] = v := by rw [List.getElem?_eq_getElem hlt] at hc; exact Option.some.inj hc
  simp [execOp, hf.eval hx, hf.eval hy, Instr.index, asIntOf, ht, hs, ha, hl, part, hlt, hv]
theorem bv_snoc (l : List UInt8) (b : UInt8) : bv l ++ [.int .u8 (b.toNat : Int)] = bv (l ++ [b]) := by simp [bv]
theorem bv_append (l m : List UInt8) : bv l ++ bv m = bv (l ++ m) := by simp [bv]
theorem u8nat (n : Nat) : ((n : Int) % 256) = (((UInt8.ofNat n).toNat : Nat) : Int) := by simp [UInt8.toNat_ofNat']

end Go.V
/- The engine, continued: joins of two ways, tests of pointers, texts, arrays; tuples; shapes of contracts. -/
set_option linter.unusedVariables false
namespace Go.V
open Go.Instr

/-! ### Two ways that meet again -/
theorem TE.join {F : Frame → Prop} {P : Program} {Q : Exit → Act → World → Prop} {n : Nat} {ds : List Deferred} {k : List Item} {ρ : Env} {w : World} {c : Operand} {x y : Code} {p : Prop} {_ : Decidable p} {σ : Type} (ks : List Nat) (J : σ → World → Prop) (env : σ → Env)
    (hc : ev ρ c = some (.bool (decide p))) (h1 : p → (∀ s w', J s w' → TE F P Q n ds k (env s) w') → TE F P Q n ds (.code x :: k) ρ w)
    (h2 : ¬ p → (∀ s w', J s w' → TE F P Q n ds k (env s) w') → TE F P Q n ds (.code y :: k) ρ w) (h3 : ∀ s w', J s w' → TE F P Q n ds k (env s) w') : TE F P Q n ds (.code (.cond c x y) :: k) ρ w :=
  TE.ite hc (fun h => h1 h h3) (fun h => h2 h h3)

section
variable {P : Program} {ρ : Env} {dst : Option Tmp} {ty : TypeId} {pos : String} {af : Array Edge} {gd : Option (Nat × Bool)}

/-! ### Pointers -/
theorem run_equalIn_nil {t e : TypeId} (ht : P.underlying t = some (.pointer e)) (p : Option Addr) (d : Nat) (w : World) : (Op.equalIn (d + 1) t (.pointer p) (.pointer none)).run P w = .ok p.isNone w := by
  cases p <;> simp [Op.equalIn, run_underlying ht]
theorem Pure.eqlNil {x y : Operand} {p : Option Addr} {t t' e : TypeId} (ht : P.underlying t = some (.pointer e)) (hx : ev ρ x = some (.pointer p)) (hy : ev ρ y = some (.pointer none)) :
    Pure P ρ ⟨dst, .binOp .eql t x y t', ty, pos, af, gd⟩ (.bool p.isNone) := fun w a hf => by
  have h1 : (eqGuard .eql t x y (.pointer p) (.pointer none)).run P w = .ok () w := by simp [eqGuard]
  have h2 : (binOp .eql t (.pointer p) (.pointer none)).run P w = .ok (.bool p.isNone) w := by
    show (do pure (Value.bool (← Op.equal t (.pointer p) (.pointer none))) : Sem Value).run P w = _
    rw [Sem.run_bind, show Op.equal t (.pointer p) (.pointer none) = Op.equalIn (9999 + 1) t (.pointer p) (.pointer none) from rfl, run_equalIn_nil ht]
    simp
  simp only [execOp, hf.eval hx, hf.eval hy]
  simp [h1, h2]
theorem Pure.neqNil {x y : Operand} {p : Option Addr} {t t' e : TypeId} (ht : P.underlying t = some (.pointer e)) (hx : ev ρ x = some (.pointer p)) (hy : ev ρ y = some (.pointer none)) :
    Pure P ρ ⟨dst, .binOp .neq t x y t', ty, pos, af, gd⟩ (.bool (!p.isNone)) := fun w a hf => by
  have h1 : (eqGuard .neq t x y (.pointer p) (.pointer none)).run P w = .ok () w := by simp [eqGuard]
  have h2 : (binOp .neq t (.pointer p) (.pointer none)).run P w = .ok (.bool (!p.isNone)) w := by
    show (do pure (Value.bool (!(← Op.equal t (.pointer p) (.pointer none)))) : Sem Value).run P w = _
    rw [Sem.run_bind, show Op.equal t (.pointer p) (.pointer none) = Op.equalIn (9999 + 1) t (.pointer p) (.pointer none) from rfl, run_equalIn_nil ht]
    simp
  simp only [execOp, hf.eval hx, hf.eval hy]
  simp [h1, h2]

/-! ### Texts in order -/
theorem Pure.strLss {x y : Operand} {l m : List UInt8} {t t' : TypeId} (hx : ev ρ x = some (.string (str l))) (hy : ev ρ y = some (.string (str m))) :
    Pure P ρ ⟨dst, .binOp .lss t x y t', ty, pos, af, gd⟩ (.bool (decide (Op.bytesLess l m = true))) := fun w a hf => by
  simp [execOp, hf.eval hx, hf.eval hy, eqGuard, binOp, Op.stringOp, str_toList]
theorem Pure.strGtr {x y : Operand} {l m : List UInt8} {t t' : TypeId} (hx : ev ρ x = some (.string (str l))) (hy : ev ρ y = some (.string (str m))) :
    Pure P ρ ⟨dst, .binOp .gtr t x y t', ty, pos, af, gd⟩ (.bool (decide (Op.bytesLess l m = false ∧ l ≠ m))) := fun w a hf => by
  simp [execOp, hf.eval hx, hf.eval hy, eqGuard, binOp, Op.stringOp, str_toList]
  by_cases h : l = m <;> simp [h]

/-! ### Tuples -/
theorem Pure.extract {x : Operand} {vs : List Value} {i : Nat} {v : Value} (hx : ev ρ x = some (.tuple vs.toArray)) (hi : vs[i]? = some v) :
    Pure P ρ ⟨dst, .extract x i, ty, pos, af, gd⟩ v := fun w a hf => by
  simp [execOp, hf.eval hx, Instr.extract, hi]

/-! ### Arrays of numbers, compared -/
theorem run_isAgg_int {e : TypeId} {k : IntKind} (he : P.underlying e = some (.int k)) (w : World) : (isAgg e).run P w = .ok false w := by
  simp [isAgg, run_underlying he]
theorem eqItems_int {e : TypeId} {k : IntKind} (he : P.underlying e = some (.int k)) (d : Nat) (xs ys : List Int) (w : World) : ∀ is : List Nat, (∀ i ∈ is, i < xs.length ∧ i < ys.length) →
    (Op.eqItems (d + 1) e 1 (iv k xs).toArray (iv k ys).toArray is).run P w = .ok (is.all fun i => xs.getD i 0 == ys.getD i 0) w
  | [], _ => by simp [Op.eqItems]
  | i :: is, h => by
    have h1 := h i (by simp)
    have ih := eqItems_int he d xs ys w is (fun j hj => h j (by simp [hj]))
    have e1 : (iv k xs)[i]? = some (.int k (xs.getD i 0)) := iv_get h1.1
    have e2 : (iv k ys)[i]? = some (.int k (ys.getD i 0)) := iv_get h1.2
    have p1 : (part e (iv k xs).toArray (i * 1)).run P w = .ok (.int k (xs.getD i 0)) w := by
      simp [part, run_isAgg_int he, e1]
    have p2 : (part e (iv k ys).toArray (i * 1)).run P w = .ok (.int k (ys.getD i 0)) w := by
      simp [part, run_isAgg_int he, e2]
    simp only [Op.eqItems, Sem.run_bind, p1, p2, Result.andThen_ok, run_equalIn_int w d e k k _ _ he]
    cases hb : (xs.getD i 0 == ys.getD i 0)
    · simp only [List.all_cons, hb, Bool.not_false, if_true, Bool.false_and, Sem.run_pure]
    · simp only [List.all_cons, hb, Bool.not_true, Bool.false_eq_true, if_false, Bool.true_and]
      exact ih
theorem all_getD {xs ys : List Int} {n : Nat} (hx : xs.length = n) (hy : ys.length = n) : ((List.range n).all fun i => xs.getD i 0 == ys.getD i 0) = decide (xs = ys) := by
  by_cases h : xs = ys
  · simp [h]
  · rw [decide_eq_false h]
    apply Bool.eq_false_iff.2
    intro hall
    apply h
    apply List.ext_getElem (by omega)
    intro i h1 h2
    have := List.all_eq_true.1 hall i (by simp; omega)
    simpa [h1, h2] using this
theorem run_eqArr {t e : TypeId} {k : IntKind} {n : Nat} {i : TypeInfo} (ht : P.underlying t = some (.array n e)) (he : P.underlying e = some (.int k)) (hi : P.info? e = some i) (hc : P.cellsOf e = 1) {xs ys : List Int} (hx : xs.length = n) (hy : ys.length = n) (d : Nat) (w : World) :
    (Op.equalIn (d + 2) t (.agg (iv k xs).toArray) (.agg (iv k ys).toArray)).run P w = .ok (decide (xs = ys)) w := by
  rw [run_equalIn_array w (d + 1) _ _ ht hi, hc, eqItems_int he d xs ys w _ (fun j hj => by simp at hj; omega), all_getD hx hy]
theorem Pure.eqlArr {x y : Operand} {t t' e : TypeId} {k : IntKind} {n : Nat} {i : TypeInfo} {xs ys : List Int} (ht : P.underlying t = some (.array n e)) (he : P.underlying e = some (.int k)) (hi : P.info? e = some i) (hc : P.cellsOf e = 1) (hm : P.eqGuardType P.depth t = false)
    (hx : ev ρ x = some (.agg (iv k xs).toArray)) (hy : ev ρ y = some (.agg (iv k ys).toArray)) (h1 : xs.length = n) (h2 : ys.length = n) :
    Pure P ρ ⟨dst, .binOp .eql t x y t', ty, pos, af, gd⟩ (.bool (decide (xs = ys))) := fun w a hf => by
  simp [execOp, hf.eval hx, hf.eval hy, run_eqGuard_agg w _ t x y _ _ hm, run_eql_struct, run_eqArr ht he hi hc h1 h2 9998]
theorem Pure.neqArr {x y : Operand} {t t' e : TypeId} {k : IntKind} {n : Nat} {i : TypeInfo} {xs ys : List Int} (ht : P.underlying t = some (.array n e)) (he : P.underlying e = some (.int k)) (hi : P.info? e = some i) (hc : P.cellsOf e = 1) (hm : P.eqGuardType P.depth t = false)
    (hx : ev ρ x = some (.agg (iv k xs).toArray)) (hy : ev ρ y = some (.agg (iv k ys).toArray)) (h1 : xs.length = n) (h2 : ys.length = n) :
    Pure P ρ ⟨dst, .binOp .neq t x y t', ty, pos, af, gd⟩ (.bool (decide (xs ≠ ys))) := fun w a hf => by
  simp [execOp, hf.eval hx, hf.eval hy, run_eqGuard_agg w _ t x y _ _ hm, run_neq_struct, run_eqArr ht he hi hc h1 h2 9998]
end

/-! ### More steps of a plan; a guarded call -/
section
variable {P : Program} {Q R : Exit → Act → World → Prop} {n : Nat} {ds : List Deferred} {k : List Item} {ρ : Env} {w w' : World} {ops : Array Oper} {S : World → Prop} {π : Plan} {l : List Oper}
variable {i d : Nat} {op : Op} {ty : TypeId} {pos : String} {af : Array Edge} {v : Value}
theorem PL.buildSlice {t e : TypeId} {m size : Nat} {z : Value} {parts : List (Nat × Operand)} {vs : List (Nat × Value)} {cs : List Value} (ho : ops[i]? = some ⟨some d, .buildSlice t m parts.toArray, ty, pos, af, none⟩) (hp : evp ρ parts = some vs)
    (ht : ∀ w, (underlying t).run P w = .ok (.slice e) w) (hz : ∀ w, (sizeOf e).run P w = .ok size w) (hzv : ∀ w, (zeroValue e).run P w = .ok z w) (hm : m * size ≤ 2 ^ 24) (hm0 : 0 < m * size)
    (hfill : Instr.fill (fun i => some (i * size, size)) ((Array.range (m * size)).map (z.cells[· % z.cells.size]!)) vs = some cs.toArray) (hd : Nat.blt d n = true) (hS : ∀ w', S w')
    (h : ∀ g w', Blk w' g e cs → Chg [] w w' → w.heap.size = g → PL P n ds ops R S π ((d, .slice (some ⟨g, 0, none⟩) m m) :: ρ) w') (hi1000 : i < 1000 := by decide) : PL P n ds ops R S (.cons (i, false) π) ρ w :=
  PL.val ho (Run.buildSlice hp ht hz hzv hm hm0 hfill) hd (hS _) (h _ _ (blk_alloc _ _ _) (chg_alloc _ _) rfl) hi1000
theorem PL.append {s x : Operand} {t tx e : TypeId} {j : TypeInfo} {z : Value} {size m q : Nat} {v u : Value} {xs news : List Value} (ho : ops[i]? = some ⟨some d, .call { callee := .builtin .append, args := #[s, x], argTypes := #[t, tx] }, ty, pos, af, none⟩) (hs : ev ρ s = some v) (hx : ev ρ x = some u)
    (ht : P.underlying t = some (.slice e)) (htx : P.underlying tx = some (.slice e) ∨ P.underlying tx = some .string) (hi : P.info? e = some j) (hz : j.zero = some z) (hsize : j.size = size) (hzs : z.cells.size = size) (hb0 : 0 < j.bytes)
    (hd : Nat.blt d n = true) (hrow : Row w e size v q xs) (hsrc : Src P size u m news w) (h1 : ∀ u ∈ news, u.oneCell' = true) (hb : (q + m) * j.bytes ≤ 140737488355328) (hS : ∀ w', S w')
    (h : ∀ v' w', Row w' e size v' (q + m) (xs ++ news) → Chg (own v) w w' → (∀ k, k ∈ own v' → k ∈ own v ∨ w.heap.size ≤ k) → PL P n ds ops R S π ((d, v') :: ρ) w') (hi1000 : i < 1000 := by decide) :
    PL P n ds ops R S (.cons (i, false) π) ρ w := by
  obtain ⟨v', w', hr, h2, h3, h4⟩ := Run.append (ty := ty) (pos := pos) (af := af) (dst := some d) (gd := none) hs hx ht htx hi hz hsize hzs hb0 hrow hsrc h1 hb
  exact PL.val ho hr hd (hS _) (h v' w' h2 h3 h4) hi1000
theorem PL.store {x y : Operand} {g o j : Nat} {t e : TypeId} {cs : List Value} {u : Value} (ho : ops[i]? = some ⟨none, .store t x y, ty, pos, af, none⟩) (hx : ev ρ x = some (.pointer (some ⟨g, o, none⟩))) (hy : ev ρ y = some v) (hz : ∀ w, (sizeOf t).run P w = .ok 1 w) (h1 : v.oneCell' = true)
    (hb : Blk w g e cs) (hi : o = j) (hc : cs[j]? = some u) (hS : ∀ w', S w') (h : ∀ w', Blk w' g e (cs.set j v) → Chg [g] w w' → PL P n ds ops R S π ρ w') (hi1000 : i < 1000 := by decide) : PL P n ds ops R S (.cons (i, false) π) ρ w :=
  PL.eff ho (RunS.store hx hy hz h1 hb hi hc) (hS _) (h _ (blk_setRow hb (by simp)) (chg_setRow _ _ _)) hi1000
theorem wpOp_wanted {K : Act → World → Prop} {a : Act} {g : Nat} {b : Bool} {dj : Nat} (ho : ops[i]? = some ⟨some d, op, ty, pos, af, some (g, b)⟩) (hg : (ops[g]?).bind (·.dst) = some dj) (hj : Nat.blt dj n = true) (hl : look ρ dj = some (.bool b)) (ha : Sat n ds a ρ)
    (h : Oper.wp P ⟨some d, op, ty, pos, af, some (g, b)⟩ a w K Q) : wpOp P ops Q i K a w := by
  unfold wpOp
  simp only [ho]
  rw [wanted_of (g := (g, b)) hg (ha.at_ hj hl)]
  simp only [gb, beq_self_eq_true, if_true]
  exact .inl h
theorem PL.valG {g : Nat} {b : Bool} {dj : Nat} (ho : ops[i]? = some ⟨some d, op, ty, pos, af, some (g, b)⟩) (hg : (ops[g]?).bind (·.dst) = some dj) (hj : Nat.blt dj n = true) (hl : look ρ dj = some (.bool b))
    (hr : Run P ρ ⟨some d, op, ty, pos, af, some (g, b)⟩ w v w') (hd : Nat.blt d n = true) (hS : S w') (h : PL P n ds ops Q S π ((d, v) :: ρ) w') (hi1000 : i < 1000 := by decide) : PL P n ds ops Q S (.cons (i, false) π) ρ w := fun a ha => by
  simp only [wpPlan, hi1000, if_true]
  refine wpOp_wanted ho hg hj hl ha ?_
  unfold Oper.wp
  rw [hr a ha.fits]
  exact ⟨hS, h _ (ha.put v hd)⟩
theorem PL.callG {f g : Nat} {b : Bool} {dj : Nat} {xs : List Operand} {ats : Array TypeId} {vs : List Value} {C : Ending → World → Prop} (ho : ops[i]? = some ⟨some d, .call { callee := .value (.func f), args := xs.toArray, argTypes := ats }, ty, pos, af, some (g, b)⟩)
    (hg : (ops[g]?).bind (·.dst) = some dj) (hj : Nat.blt dj n = true) (hl : look ρ dj = some (.bool b)) (hargs : evs ρ xs = some vs)
    (hf : ∀ args w, (callFunc f args).run P w = .ok (.enter f args) w) (hd : Nat.blt d n = true) (hc : Calls P f vs.toArray w C)
    (h : ∀ e w', C e w' → ∃ v, e = .returned v ∧ S w' ∧ PL P n ds ops Q S π ((d, v) :: ρ) w') (hi1000 : i < 1000 := by decide) : PL P n ds ops Q S (.cons (i, false) π) ρ w := fun a ha => by
  simp only [wpPlan, hi1000, if_true]
  refine wpOp_wanted ho hg hj hl ha ?_
  unfold Oper.wp
  have e1 : (xs.toArray.map a.eval) = vs.toArray := by rw [List.map_toArray, ha.fits.evals hargs]
  rw [execOp_call_go, e1]
  simp only [Array.empty_append, Array.append_empty, hf, Oper.upon_enter]
  refine hc.mono fun e w' he => ?_
  obtain ⟨v, rfl, hs, hv⟩ := h e w' he
  exact ⟨hs, hv _ (ha.put v hd)⟩
theorem OL.callG {f g : Nat} {b : Bool} {dj : Nat} {xs : List Operand} {ats : Array TypeId} {vs : List Value} {C : Ending → World → Prop} (hg : (ops[g]?).bind (·.dst) = some dj) (hj : Nat.blt dj n = true) (hl : look ρ dj = some (.bool b)) (hargs : evs ρ xs = some vs)
    (hf : ∀ args w, (callFunc f args).run P w = .ok (.enter f args) w) (hd : Nat.blt d n = true) (hc : Calls P f vs.toArray w C)
    (h : ∀ e w', C e w' → ∃ v, e = .returned v ∧ OL P n ds ops R l ((d, v) :: ρ) w') :
    OL P n ds ops R (⟨some d, .call { callee := .value (.func f), args := xs.toArray, argTypes := ats }, ty, pos, af, some (g, b)⟩ :: l) ρ w := fun a ha => by
  refine wpList_step fun K hK => ?_
  rw [wanted_of (g := (g, b)) hg (ha.at_ hj hl)]
  simp only [gb, beq_self_eq_true, if_true]
  unfold Oper.wp
  have e1 : (xs.toArray.map a.eval) = vs.toArray := by rw [List.map_toArray, ha.fits.evals hargs]
  rw [execOp_call_go, e1]
  simp only [Array.empty_append, Array.append_empty, hf, Oper.upon_enter]
  refine hc.mono fun e w' he => ?_
  obtain ⟨v, rfl, hv⟩ := h e w' he
  exact hK _ _ (hv _ (ha.put v hd))
end

/-! ### Shapes of contracts -/
/-- It returns a fresh slice of bytes. -/
def RetB (t : TypeId) (l : List UInt8) (w : World) (e : Ending) (w' : World) : Prop := ∃ v, e = .returned v ∧ Row w' t 1 v l.length (bv l) ∧ Chg [] w w' ∧ Mine w.heap.size v
/-- It returns v and has changed the block g alone, which then holds cs. -/
def RetW (v : Value) (g : Nat) (t : TypeId) (cs : List Value) (w : World) (e : Ending) (w' : World) : Prop := e = .returned v ∧ Chg [g] w w' ∧ Blk w' g t cs
theorem sel_T {b : Bool} (h : b = true) : Value.bool b = .bool true := by rw [h]
theorem and15 (x : Int) (h0 : 0 ≤ x) (h1 : x ≤ 255) : Go.bits .and .u8 x 15 = x % 16 := by
  have key : ∀ m : Fin 256, Go.bits .and .u8 (m.val : Int) 15 = (m.val : Int) % 16 := by decide +kernel
  have := key ⟨x.toNat, by omega⟩
  simpa [Int.toNat_of_nonneg h0] using this
theorem bv_one (l : List UInt8) (b : UInt8) : bv l ++ bv [b] = bv (l ++ [b]) := by simp [bv]
theorem rep_snoc {α : Type} (j : Nat) (a : α) : List.replicate (j + 1) a = List.replicate j a ++ [a] := List.replicate_succ'
end Go.V
/- The engine, continued: writes within a plan. -/
set_option linter.unusedVariables false
namespace Go.V
open Go.Instr
section
variable {P : Program} {Q R : Exit → Act → World → Prop} {n : Nat} {ds : List Deferred} {k : List Item} {ρ : Env} {w w' : World} {ops : Array Oper} {S : World → Prop} {π : Plan} {l : List Oper}
variable {i d : Nat} {op : Op} {ty : TypeId} {pos : String} {af : Array Edge} {v : Value}
theorem PL.storeRow {x y : Operand} {g o : Nat} {t e : TypeId} {cs vs : List Value} (ho : ops[i]? = some ⟨none, .store t x y, ty, pos, af, none⟩) (hx : ev ρ x = some (.pointer (some ⟨g, o, none⟩))) (hy : ev ρ y = some (.agg vs.toArray)) (hn : (P.info? t).map (·.size) = some vs.length) (h1 : ∀ v ∈ vs, v.oneCell' = true)
    (hb : Blk w g e cs) (hl : o + vs.length ≤ cs.length) (hS : ∀ w', Chg [g] w w' → S w') (h : ∀ w', Blk w' g e (lay cs o vs) → Chg [g] w w' → PL P n ds ops R S π ρ w') (hi1000 : i < 1000 := by decide) : PL P n ds ops R S (.cons (i, false) π) ρ w := by
  obtain ⟨w', h2, h3, h4⟩ := RunS.storeRow (ty := ty) (pos := pos) (af := af) hx hy hn h1 hb hl
  exact PL.eff ho h2 (hS _ h4) (h w' h3 h4) hi1000
/-- Two new variables, made in either order. -/
theorem PL.alloc2 {j c d2 : Nat} {t1 t2 : TypeId} {z1 z2 : Value} {ty2 : TypeId} {pos2 : String} {af2 : Array Edge} (hc2 : ¬ c < 1000) (hi : c / 1000 - 1 = i) (hj : c % 1000 = j)
    (ho : ops[i]? = some ⟨some d, .alloc t1, ty, pos, af, none⟩) (ho2 : ops[j]? = some ⟨some d2, .alloc t2, ty2, pos2, af2, none⟩) (hz1 : ∀ w, (zeroValue t1).run P w = .ok z1 w) (hz2 : ∀ w, (zeroValue t2).run P w = .ok z2 w)
    (hd : Nat.blt d n = true) (hd2 : Nat.blt d2 n = true) (hne : d ≠ d2) (hS : ∀ w', Chg [] w w' → S w')
    (h : ∀ g g2 w', Blk w' g t1 z1.cells.toList → Blk w' g2 t2 z2.cells.toList → Chg [] w w' → w.heap.size ≤ g → w.heap.size ≤ g2 → g ≠ g2 → PL P n ds ops R S π ((d2, .pointer (some ⟨g2, 0, none⟩)) :: (d, .pointer (some ⟨g, 0, none⟩)) :: ρ) w') :
    PL P n ds ops R S (.cons (c, false) π) ρ w := fun a ha => by
  simp only [wpPlan, hc2, if_false, hi, hj]
  have one : ∀ {x : Nat} {o : Oper} {dx : Nat} {v : Value} {a : Act} {w w' : World} {K : Act → World → Prop}, ops[x]? = some o → o.guard = none → o.dst = some dx → (execOp a.eval o).run P w = .ok (.value v) w' → K (a.put (some dx) v) w' → wpOp P ops R x K a w := by
    intro x o dx v a w w' K h1 h2 h3 h4 h5
    obtain ⟨dst, op, ty, pos, af, gd⟩ := o
    simp only at h2 h3
    subst h2 h3
    unfold wpOp
    simp only [h1]
    refine .inl ?_
    unfold Oper.wp
    rw [h4]
    exact h5
  have r1 : ∀ (a : Act) (w : World) (ρ : Env), Fits a ρ → (execOp a.eval ⟨some d, .alloc t1, ty, pos, af, none⟩).run P w = .ok (.value (.pointer (some ⟨w.heap.size, 0, none⟩))) (w.alloc (.cells z1.cells t1)) := fun a w ρ hf => Run.alloc (ρ := ρ) hz1 a hf
  have r2 : ∀ (a : Act) (w : World) (ρ : Env), Fits a ρ → (execOp a.eval ⟨some d2, .alloc t2, ty2, pos2, af2, none⟩).run P w = .ok (.value (.pointer (some ⟨w.heap.size, 0, none⟩))) (w.alloc (.cells z2.cells t2)) := fun a w ρ hf => Run.alloc (ρ := ρ) hz2 a hf
  have fresh : ∀ (w : World) (t : TypeId) (z : Value), Blk (w.alloc (.cells z.cells t)) w.heap.size t z.cells.toList := fun w t z => by simpa using blk_alloc w t z.cells.toList
  have hsz : ∀ (w : World) (o : Obj), (w.alloc o).heap.size = w.heap.size + 1 := fun w o => by simp
  refine ⟨one ho rfl rfl (r1 a w ρ ha.fits) ⟨hS _ (chg_alloc _ _), one ho2 rfl rfl (r2 _ _ _ (ha.put _ hd).fits) ⟨hS _ ((chg_alloc _ _).then_ (chg_alloc _ _)), ?_⟩⟩, one ho2 rfl rfl (r2 a w ρ ha.fits) ⟨hS _ (chg_alloc _ _), one ho rfl rfl (r1 _ _ _ (ha.put _ hd2).fits) ⟨hS _ ((chg_alloc _ _).then_ (chg_alloc _ _)), ?_⟩⟩⟩
  · exact h _ _ _ ((fresh w t1 z1).chg0 (chg_alloc _ _)) (fresh _ t2 z2) ((chg_alloc _ _).then_ (chg_alloc _ _)) (Nat.le_refl _) (by rw [hsz]; omega) (by rw [hsz]; omega) _ ((ha.put _ hd).put _ hd2)
  · have hs : Sat n ds ((a.put (some d2) (.pointer (some ⟨w.heap.size, 0, none⟩))).put (some d) (.pointer (some ⟨(w.alloc (.cells z2.cells t2)).heap.size, 0, none⟩)))
        ((d2, .pointer (some ⟨w.heap.size, 0, none⟩)) :: (d, .pointer (some ⟨(w.alloc (.cells z2.cells t2)).heap.size, 0, none⟩)) :: ρ) :=
      ((ha.put _ hd2).put _ hd).sub (fun t v hv => by
        rw [look_cons, look_cons] at hv ⊢
        by_cases h1 : d = t
        · subst h1
          rw [if_neg (Ne.symm hne), if_pos rfl] at hv
          rw [if_pos rfl]; exact hv
        · by_cases h2 : d2 = t
          · rw [if_pos h2] at hv; rw [if_neg h1, if_pos h2]; exact hv
          · rw [if_neg h2, if_neg h1] at hv; rw [if_neg h1, if_neg h2]; exact hv)
    exact h _ _ _ (fresh _ t1 z1) ((fresh w t2 z2).chg0 (chg_alloc _ _)) ((chg_alloc _ _).then_ (chg_alloc _ _)) (by rw [hsz]; omega) (Nat.le_refl _) (by rw [hsz]; omega) _ hs
theorem PL.store1 {x y : Operand} {g o j : Nat} {t e : TypeId} {cs : List Value} {u : Value} (ho : ops[i]? = some ⟨none, .store t x y, ty, pos, af, none⟩) (hx : ev ρ x = some (.pointer (some ⟨g, o, none⟩))) (hy : ev ρ y = some v) (hz : ∀ w, (sizeOf t).run P w = .ok 1 w) (h1 : v.oneCell' = true)
    (hb : Blk w g e cs) (hi : o = j) (hc : cs[j]? = some u) (hS : ∀ w', Chg [g] w w' → S w') (h : ∀ w', Blk w' g e (cs.set j v) → Chg [g] w w' → PL P n ds ops R S π ρ w') (hi1000 : i < 1000 := by decide) : PL P n ds ops R S (.cons (i, false) π) ρ w :=
  PL.eff ho (RunS.store hx hy hz h1 hb hi hc) (hS _ (chg_setRow _ _ _)) (h _ (blk_setRow hb (by simp)) (chg_setRow _ _ _)) hi1000
end
section
variable {P : Program} {ρ : Env} {dst : Option Tmp} {ty : TypeId} {pos : String} {af : Array Edge} {gd : Option (Nat × Bool)}
theorem Pure.eqlBool {x y : Operand} {p q : Bool} {t t' : TypeId} (hx : ev ρ x = some (.bool p)) (hy : ev ρ y = some (.bool q)) (ht : P.underlying t = some .bool := by rfl) :
    Pure P ρ ⟨dst, .binOp .eql t x y t', ty, pos, af, gd⟩ (.bool (p == q)) := fun w a hf => by
  have h1 : (eqGuard .eql t x y (.bool p) (.bool q)).run P w = .ok () w := by simp [eqGuard]
  have h2 : (binOp .eql t (.bool p) (.bool q)).run P w = .ok (.bool (p == q)) w := by
    show (do pure (Value.bool (← Op.equal t (.bool p) (.bool q))) : Sem Value).run P w = _
    rw [Sem.run_bind, show Op.equal t (.bool p) (.bool q) = Op.equalIn (9999 + 1) t (.bool p) (.bool q) from rfl, run_equalIn_bool' w _ _ _ _ ht]
    simp
  simp only [execOp, hf.eval hx, hf.eval hy]
  simp [h1, h2]
end
end Go.V
/- The engine, continued: slices of texts, and slices made by their length. -/
set_option linter.unusedVariables false
namespace Go.V
open Go.Instr
/-- Texts as values. -/
def tv (L : List (List UInt8)) : List Value := L.map fun l => .string (str l)
theorem tv_len (L : List (List UInt8)) : (tv L).length = L.length := by simp [tv]
theorem tv_snoc (L : List (List UInt8)) (l : List UInt8) : tv L ++ [.string (str l)] = tv (L ++ [l]) := by simp [tv]
/-- The cells of a slice of texts, as far as it goes. -/
def Cells (w : World) (A : Option Addr) (L : List (List UInt8)) : Prop :=
  ∀ i, i < L.length → ∃ g o, A = some ⟨g, o, none⟩ ∧ w.cell? ⟨g, o + i, none⟩ = some (.string (str (L.getD i [])))
theorem cell_lt {w : World} {a : Addr} {v : Value} (h : w.cell? a = some v) : a.block < w.heap.size := by
  unfold World.cell? at h
  by_cases hb : a.block < w.heap.size
  · exact hb
  · rw [Array.getElem?_eq_none (by omega)] at h
    simp at h
theorem cell_chg {w w' : World} {bad : List Nat} {a : Addr} {v : Value} (h : w.cell? a = some v) (hc : Chg bad w w') (hb : a.block ∉ bad) : w'.cell? a = some v := by
  have := hc.keep a.block (cell_lt h) hb
  unfold World.cell? at h ⊢
  rw [this]
  exact h
theorem Cells.chg {w w' : World} {A : Option Addr} {L : List (List UInt8)} {bad : List Nat} (h : Cells w A L) (hc : Chg bad w w') (hb : 0 < L.length → ∀ a, A = some a → a.block ∉ bad) : Cells w' A L := fun i hi => by
  obtain ⟨g, o, rfl, h2⟩ := h i hi
  exact ⟨g, o, rfl, cell_chg h2 hc (hb (by omega) ⟨g, o, none⟩ rfl)⟩
theorem Cells.chg0 {w w' : World} {A : Option Addr} {L : List (List UInt8)} (h : Cells w A L) (hc : Chg [] w w') : Cells w' A L := h.chg hc (fun _ _ _ => by simp)
theorem Cells.fresh {w : World} {A : Option Addr} {L : List (List UInt8)} (h : Cells w A L) {g : Nat} (hg : w.heap.size ≤ g) : 0 < L.length → ∀ a, A = some a → a.block ∉ [g] := fun h0 a ha => by
  obtain ⟨g', o, e, h2⟩ := h 0 h0
  obtain rfl : a = ⟨g', o, none⟩ := Option.some.inj (ha.symm.trans e)
  have := cell_lt h2
  simp at this ⊢
  omega
theorem Row.cells {w : World} {e : TypeId} {v : Value} {n : Nat} {L : List (List UInt8)} (h : Row w e 1 v n (tv L)) (hn : n = L.length) : ∃ A cap, v = .slice A L.length cap ∧ Cells w A L := by
  subst hn
  rcases h.2 with ⟨rfl, h0⟩ | ⟨g, cap, cs, rfl, hb, h1, h2, h3⟩
  · exact ⟨none, 0, by rw [h0], fun i hi => by omega⟩
  · refine ⟨_, cap, rfl, fun i hi => ⟨g, 0, rfl, ?_⟩⟩
    rw [hb.cell]
    have : (cs.take (L.length * 1))[i]? = (tv L)[i]? := by rw [h3]
    rw [List.getElem?_take_of_lt (by omega)] at this
    simp only [Nat.zero_add]
    rw [this]
    simp [tv, hi]
theorem Row.lit {w : World} {g n : Nat} {e : TypeId} {cs : List Value} (h : Blk w g e cs) (hn : cs.length = n) : Row w e 1 (.slice (some ⟨g, 0, none⟩) n n) n cs :=
  ⟨by omega, .inr ⟨g, n, cs, rfl, h, Nat.le_refl _, by omega, by rw [List.take_of_length_le]; omega⟩⟩
section
variable {P : Program} {Q R : Exit → Act → World → Prop} {n : Nat} {ds : List Deferred} {k : List Item} {ρ : Env} {w w' : World} {ops : Array Oper} {S : World → Prop} {π : Plan} {l : List Oper}
variable {i d : Nat} {op : Op} {ty : TypeId} {pos : String} {af : Array Edge} {v : Value} {dst : Option Tmp} {gd : Option (Nat × Bool)}
theorem Run.loadCell {x : Operand} {g o : Nat} {t : TypeId} {v : Value} (hx : ev ρ x = some (.pointer (some ⟨g, o, none⟩))) (ha : ∀ w, (isAgg t).run P w = .ok false w) (hcell : w.cell? ⟨g, o, none⟩ = some v) :
    Run P ρ ⟨dst, .load t x, ty, pos, af, gd⟩ w v w := fun a hf => by
  simp [execOp, hf.eval hx, Instr.loadAt, Instr.sureAddr, loadVar, ha, hcell]
theorem Pure.eqlBool' {x y : Operand} {p q : Bool} {t t' : TypeId} (ht : P.underlying t = some .bool) (hx : ev ρ x = some (.bool p)) (hy : ev ρ y = some (.bool q)) :
    Pure P ρ ⟨dst, .binOp .eql t x y t', ty, pos, af, gd⟩ (.bool (p == q)) := Pure.eqlBool hx hy ht
theorem PL.buildSliceC {t e : TypeId} {m size : Nat} {z : Value} {parts : List (Nat × Operand)} {vs : List (Nat × Value)} {cs : List Value} (ho : ops[i]? = some ⟨some d, .buildSlice t m parts.toArray, ty, pos, af, none⟩) (hp : evp ρ parts = some vs)
    (ht : ∀ w, (underlying t).run P w = .ok (.slice e) w) (hz : ∀ w, (sizeOf e).run P w = .ok size w) (hzv : ∀ w, (zeroValue e).run P w = .ok z w) (hm : m * size ≤ 2 ^ 24) (hm0 : 0 < m * size)
    (hfill : Instr.fill (fun i => some (i * size, size)) ((Array.range (m * size)).map (z.cells[· % z.cells.size]!)) vs = some cs.toArray) (hd : Nat.blt d n = true) (hS : ∀ w', Chg [] w w' → S w')
    (h : ∀ g w', Blk w' g e cs → Chg [] w w' → w.heap.size = g → PL P n ds ops R S π ((d, .slice (some ⟨g, 0, none⟩) m m) :: ρ) w') (hi1000 : i < 1000 := by decide) : PL P n ds ops R S (.cons (i, false) π) ρ w :=
  PL.val ho (Run.buildSlice hp ht hz hzv hm hm0 hfill) hd (hS _ (chg_alloc _ _)) (h _ _ (blk_alloc _ _ _) (chg_alloc _ _) rfl) hi1000
theorem PL.appendC {s x : Operand} {t tx e : TypeId} {j : TypeInfo} {z : Value} {size m q : Nat} {v u : Value} {xs news : List Value} (ho : ops[i]? = some ⟨some d, .call { callee := .builtin .append, args := #[s, x], argTypes := #[t, tx] }, ty, pos, af, none⟩) (hs : ev ρ s = some v) (hx : ev ρ x = some u)
    (ht : P.underlying t = some (.slice e)) (htx : P.underlying tx = some (.slice e) ∨ P.underlying tx = some .string) (hi : P.info? e = some j) (hz : j.zero = some z) (hsize : j.size = size) (hzs : z.cells.size = size) (hb0 : 0 < j.bytes)
    (hd : Nat.blt d n = true) (hrow : Row w e size v q xs) (hsrc : Src P size u m news w) (h1 : ∀ u ∈ news, u.oneCell' = true) (hb : (q + m) * j.bytes ≤ 140737488355328) (hS : ∀ w', Chg (own v) w w' → S w')
    (h : ∀ v' w', Row w' e size v' (q + m) (xs ++ news) → Chg (own v) w w' → (∀ k, k ∈ own v' → k ∈ own v ∨ w.heap.size ≤ k) → PL P n ds ops R S π ((d, v') :: ρ) w') (hi1000 : i < 1000 := by decide) :
    PL P n ds ops R S (.cons (i, false) π) ρ w := by
  obtain ⟨v', w', hr, h2, h3, h4⟩ := Run.append (ty := ty) (pos := pos) (af := af) (dst := some d) (gd := none) hs hx ht htx hi hz hsize hzs hb0 hrow hsrc h1 hb
  exact PL.val ho hr hd (hS _ h3) (h v' w' h2 h3 h4) hi1000
end
/-- What a function that makes a list of texts returns. -/
def RetT (t : TypeId) (L : List (List UInt8)) (w : World) (e : Ending) (w' : World) : Prop := ∃ v, e = .returned v ∧ Row w' t 1 v L.length (tv L) ∧ Chg [] w w' ∧ Mine w.heap.size v
theorem u8sh (n k : Nat) : ((n : Int) / (k : Int)) % 256 = (((UInt8.ofNat (n / k)).toNat : Nat) : Int) := by rw [← u8nat, Int.natCast_ediv]
end Go.V
/- The engine, continued: structs compared, new blocks returned, slices of bytes among the arguments. -/
set_option linter.unusedVariables false
namespace Go.V
open Go.Instr
section
variable {P : Program} {ρ : Env} {w w' : World} {ty : TypeId} {pos : String} {af : Array Edge} {v : Value} {dst : Option Tmp} {gd : Option (Nat × Bool)}
theorem part_cell {t : TypeId} {cs : Array Value} {off : Nat} {v : Value} (ha : ∀ w, (isAgg t).run P w = .ok false w) (hv : cs[off]? = some v) (w : World) : (part t cs off).run P w = .ok v w := by
  simp [part, ha, hv]
theorem part_row {t : TypeId} {cs : Array Value} {off n : Nat} {vs : List Value} (ha : ∀ w, (isAgg t).run P w = .ok true w) (hs : ∀ w, (sizeOf t).run P w = .ok n w) (hv : cs.extract off (off + n) = vs.toArray) (w : World) : (part t cs off).run P w = .ok (.agg vs.toArray) w := by
  simp [part, ha, hs, hv]
theorem eqF_nil (d : Nat) (xs ys : Array Value) (w : World) : (Op.eqFields d xs ys []).run P w = .ok true w := by simp [Op.eqFields]
theorem eqF_cons {d : Nat} {xs ys : Array Value} {f : Field} {fs : List Field} {a b : Value} {r q : Bool} (hn : f.name ≠ "_") (ha : ∀ w, (part f.type xs f.offset).run P w = .ok a w) (hb : ∀ w, (part f.type ys f.offset).run P w = .ok b w)
    (he : ∀ w, (Op.equalIn d f.type a b).run P w = .ok r w) (hr : ∀ w, (Op.eqFields d xs ys fs).run P w = .ok q w) (w : World) : (Op.eqFields d xs ys (f :: fs)).run P w = .ok (r && q) w := by
  simp only [Op.eqFields, hn, ne_eq, not_false_iff, if_true, Sem.run_bind, ha, hb, he, Result.andThen_ok]
  cases r
  · simp
  · simp [hr]
theorem eq_str {t : TypeId} (h : P.underlying t = some .string) (d : Nat) (l m : List UInt8) (w : World) : (Op.equalIn (d + 1) t (.string (str l)) (.string (str m))).run P w = .ok (decide (l = m)) w := by
  rw [run_equalIn_string w d t _ _ h]
  congr 1
  have e : ∀ l : List UInt8, (str l).toList = l := fun l => by rw [ByteArray.toList_eq]; rfl
  rw [e, e]
  by_cases hlm : l = m <;> simp [hlm]
theorem eq_int {t : TypeId} {k : IntKind} (h : P.underlying t = some (.int k)) (d : Nat) (a b : Int) (w : World) : (Op.equalIn (d + 1) t (.int k a) (.int k b)).run P w = .ok (decide (a = b)) w := by
  rw [run_equalIn_int w d t k k a b h]
  congr 1
theorem Pure.eqlStruct {x y : Operand} {t t' : TypeId} {xs ys : Array Value} {r : Bool} (ht : P.underlying t = some (.struct (P.fieldsOf t))) (hp : P.stoodInHeld t = false) (hm : P.eqGuardType P.depth t = false)
    (hx : ev ρ x = some (.agg xs)) (hy : ev ρ y = some (.agg ys)) (he : ∀ w, (Op.eqFields 9999 xs ys (P.fieldsOf t).toList).run P w = .ok r w) :
    Pure P ρ ⟨dst, .binOp .eql t x y t', ty, pos, af, gd⟩ (.bool r) := fun w a hf => by
  simp [execOp, hf.eval hx, hf.eval hy, run_eqGuard_agg w _ t x y _ _ hm, run_eql_struct, run_equalIn_agg w 9999 t _ _ ht hp, he]
theorem Pure.neqStruct {x y : Operand} {t t' : TypeId} {xs ys : Array Value} {r : Bool} (ht : P.underlying t = some (.struct (P.fieldsOf t))) (hp : P.stoodInHeld t = false) (hm : P.eqGuardType P.depth t = false)
    (hx : ev ρ x = some (.agg xs)) (hy : ev ρ y = some (.agg ys)) (he : ∀ w, (Op.eqFields 9999 xs ys (P.fieldsOf t).toList).run P w = .ok r w) :
    Pure P ρ ⟨dst, .binOp .neq t x y t', ty, pos, af, gd⟩ (.bool (!r)) := fun w a hf => by
  simp [execOp, hf.eval hx, hf.eval hy, run_eqGuard_agg w _ t x y _ _ hm, run_neq_struct, run_equalIn_agg w 9999 t _ _ ht hp, he]
end
/-- What a function that makes a block returns. -/
def RetP (t : TypeId) (cs : List Value) (w : World) (e : Ending) (w' : World) : Prop := ∃ g, e = .returned (.pointer (some ⟨g, 0, none⟩)) ∧ Blk w' g t cs ∧ Chg [] w w' ∧ w.heap.size ≤ g
/-- The cells of a slice of numbers, as far as it goes. -/
def CellsI (w : World) (k : IntKind) (A : Option Addr) (l : List Int) : Prop :=
  ∀ i, i < l.length → ∃ g o, A = some ⟨g, o, none⟩ ∧ w.cell? ⟨g, o + i, none⟩ = some (.int k (l.getD i 0))
/-- The cells of a slice of bytes, as far as it goes. -/
def CellsB (w : World) (A : Option Addr) (l : List UInt8) : Prop :=
  ∀ i, i < l.length → ∃ g o, A = some ⟨g, o, none⟩ ∧ w.cell? ⟨g, o + i, none⟩ = some (.int .u8 (bt l i))
theorem Cells.of_blk {w : World} {g : Nat} {e : TypeId} {L : List (List UInt8)} (h : Blk w g e (tv L)) : Cells w (some ⟨g, 0, none⟩) L := fun i hi => ⟨g, 0, rfl, by
  rw [h.cell]
  simp [tv, hi]⟩
theorem madeCells_one (v : Value) (n : Nat) : madeCells #[v] n = (List.replicate n v).toArray := by
  apply Array.ext
  · simp [madeCells]
  · intro i h1 h2
    simp [madeCells, Nat.mod_one]
section
variable {P : Program} {R : Exit → Act → World → Prop} {n : Nat} {ds : List Deferred} {ρ : Env} {w w' : World} {ops : Array Oper} {l : List Oper}
variable {d : Nat} {ty : TypeId} {pos : String} {af : Array Edge} {v : Value} {dst : Option Tmp} {gd : Option (Nat × Bool)}
theorem OL.makeSlice {x y : Operand} {t e : TypeId} {i : TypeInfo} {z : Value} {k k' : IntKind} {m c : Nat} (hx : ev ρ x = some (.int k (m : Int))) (hy : ev ρ y = some (.int k' (c : Int))) (ht : P.underlying t = some (.slice e)) (hi : P.info? e = some i) (hz : i.zero = some z)
    (hs : i.size = 1) (hzc : z.cells = #[v]) (hmc : m ≤ c) (hb : i.bytes * c ≤ 281474976710656) (hc : c ≤ 9223372036854775807) (hd : Nat.blt d n = true)
    (h : ∀ g w', Blk w' g e (List.replicate c v) → Chg [] w w' → w.heap.size = g → OL P n ds ops R l ((d, .slice (some ⟨g, 0, none⟩) m c) :: ρ) w') : OL P n ds ops R (⟨some d, .makeSlice t x y, ty, pos, af, none⟩ :: l) ρ w :=
  OL.val (v := .slice (some ⟨w.heap.size, 0, none⟩) m c) (w' := w.alloc (.cells (List.replicate c v).toArray e)) (fun a hf => by
    have hb' : (i.bytes : Int) * (c : Int) ≤ 281474976710656 := by
      have h : ((i.bytes * c : Nat) : Int) ≤ 281474976710656 := by omega
      rwa [Int.natCast_mul] at h
    have hr := run_make (P := P) w t e i z ht hi hz k k' (m : Int) (c : Int) (by omega) (by omega) hb' (by omega)
    simp only [Int.toNat_natCast, hs, Nat.mul_one, hzc, madeCells_one] at hr
    simp [execOp, hf.eval hx, hf.eval hy, hr]) hd (h _ _ (by simpa using blk_alloc w e (List.replicate c v)) (chg_alloc _ _) rfl)
end
end Go.V
/- The engine, continued: closures, slices of arrays. -/
set_option linter.unusedVariables false
namespace Go.V
open Go.Instr
section
variable {P : Program} {Q R : Exit → Act → World → Prop} {n : Nat} {ds : List Deferred} {k : List Item} {ρ : Env} {w w' : World} {ops : Array Oper} {S : World → Prop} {π : Plan} {l : List Oper}
variable {i d : Nat} {op : Op} {ty : TypeId} {pos : String} {af : Array Edge} {v : Value} {dst : Option Tmp} {gd : Option (Nat × Bool)}
theorem Pure.makeFunc {fn : Fn} {xs : List Operand} {vs : List Value} (hx : evs ρ xs = some vs) : Pure P ρ ⟨dst, .makeFunc fn #[] xs.toArray, ty, pos, af, gd⟩ (.func fn #[] vs.toArray) := fun w a hf => by
  have e1 : (xs.toArray.map a.eval) = vs.toArray := by rw [List.map_toArray, hf.evals hx]
  simp [execOp, Instr.makeFunc, e1]
/-- A call of a closure, by its contract. -/
theorem OL.callFn {f : Nat} {x : Operand} {first captured : Array Value} {xs : List Operand} {ats : Array TypeId} {vs : List Value} {C : Ending → World → Prop} (hx : ev ρ x = some (.func (.func f) first captured)) (hargs : evs ρ xs = some vs)
    (hf : ∀ args w, (callFunc f args).run P w = .ok (.enter f args) w) (hd : Nat.blt d n = true) (hc : Calls P f (first ++ vs.toArray ++ captured) w C)
    (h : ∀ e w', C e w' → ∃ v, e = .returned v ∧ OL P n ds ops R l ((d, v) :: ρ) w') :
    OL P n ds ops R (⟨some d, .call { callee := .value x, args := xs.toArray, argTypes := ats }, ty, pos, af, none⟩ :: l) ρ w := fun a ha => by
  refine wpList_plain rfl fun K hK => ?_
  unfold Oper.wp
  have e1 : (xs.toArray.map a.eval) = vs.toArray := by rw [List.map_toArray, ha.fits.evals hargs]
  have e2 : execOp a.eval ⟨some d, .call { callee := .value x, args := xs.toArray, argTypes := ats }, ty, pos, af, none⟩ = (do let d ← Deferred.ofValue (a.eval x) (xs.toArray.map a.eval); invoke d.target d.args) := rfl
  rw [e2, ha.fits.eval hx, e1]
  simp only [Deferred.ofValue, Sem.run_bind, Sem.run_pure, Result.andThen_ok, invoke, hf]
  simp only [Oper.upon_enter]
  refine hc.mono fun e w' he => ?_
  obtain ⟨v, rfl, hv⟩ := h e w' he
  exact hK _ _ (hv _ (ha.put v hd))
/-- The beginning of an array, as a slice. -/
theorem Pure.sliceArrTo {x z : Operand} {k' : IntKind} {j : Int} {g m q size : Nat} {t e : TypeId} (ha : ∀ w, (underlying t).run P w = .ok (.array m e) w) (hs : ∀ w, (sizeOf e).run P w = .ok size w)
    (hx : ev ρ x = some (.pointer (some ⟨g, 0, none⟩))) (hz : ev ρ z = some (.int k' j)) (hj : j = q) (h2 : q ≤ m) :
    Pure P ρ ⟨dst, .slice t x none (some z) none, ty, pos, af, gd⟩ (.slice (some ⟨g, 0, none⟩) q m) := fun w a hf => by
  subst hj
  have e0 : (Addr.add ⟨g, 0, none⟩ 0) = ⟨g, 0, none⟩ := rfl
  simp [execOp, hf.eval hx, hf.eval hz, Instr.sliceAt, Instr.sureAddr, ha, Instr.sliceBounds, Instr.sliceBound, asIntOf, h2, hs, e0]
end
/-- A whole array, as a slice. -/
theorem Pure.sliceArr {P : Program} {ρ : Env} {dst : Option Tmp} {ty : TypeId} {pos : String} {af : Array Edge} {gd : Option (Nat × Bool)} {x : Operand} {g m size : Nat} {t e : TypeId} (ha : ∀ w, (underlying t).run P w = .ok (.array m e) w) (hs : ∀ w, (sizeOf e).run P w = .ok size w)
    (hx : ev ρ x = some (.pointer (some ⟨g, 0, none⟩))) : Pure P ρ ⟨dst, .slice t x none none none, ty, pos, af, gd⟩ (.slice (some ⟨g, 0, none⟩) m m) := fun w a hf => by
  have e0 : (Addr.add ⟨g, 0, none⟩ 0) = ⟨g, 0, none⟩ := rfl
  simp [execOp, hf.eval hx, Instr.sliceAt, Instr.sureAddr, ha, Instr.sliceBounds, hs, e0]
/-- What a function that makes a block returns, with OK behind it. -/
def RetPE (t : TypeId) (cs : List Value) (w : World) (e : Ending) (w' : World) : Prop := ∃ g, e = .returned (.tuple #[.pointer (some ⟨g, 0, none⟩), .int .i64 0]) ∧ Blk w' g t cs ∧ Chg [] w w' ∧ w.heap.size ≤ g
theorem Pure.sliceSlTo {P : Program} {ρ : Env} {dst : Option Tmp} {ty : TypeId} {pos : String} {af : Array Edge} {gd : Option (Nat × Bool)} {x z : Operand} {k' : IntKind} {j : Int} {g o len cap q size : Nat} {t e : TypeId}
    (ht : ∀ w, (underlying t).run P w = .ok (.slice e) w) (hs : ∀ w, (sizeOf e).run P w = .ok size w) (hx : ev ρ x = some (.slice (some ⟨g, o, none⟩) len cap)) (hz : ev ρ z = some (.int k' j)) (hj : j = q) (h2 : q ≤ cap) :
    Pure P ρ ⟨dst, .slice t x none (some z) none, ty, pos, af, gd⟩ (.slice (some ⟨g, o, none⟩) q cap) := fun w a hf => by
  subst hj
  have e0 : (Addr.add ⟨g, o, none⟩ 0) = ⟨g, o, none⟩ := rfl
  simp [execOp, hf.eval hx, hf.eval hz, Instr.sliceAt, ht, Instr.slice, Instr.sliceBounds, Instr.sliceBound, asIntOf, h2, hs, e0]
theorem blk_get {cs : List Value} {n j : Nat} {l : List UInt8} (h : cs.take n = bv l) (hj : j < l.length) : cs[j]? = some (.int .u8 (bt l j)) := by
  have h1 : (bv l)[j]? = some (.int .u8 (bt l j)) := bv_get hj
  have hn : j < n := by
    have := congrArg List.length h
    rw [bv_len, List.length_take] at this
    omega
  rw [← h, List.getElem?_take_of_lt hn] at h1
  exact h1
theorem take_set {cs : List Value} {n j : Nat} {l : List UInt8} (h : cs.take n = bv l) (x : UInt8) : (cs.set j (.int .u8 ((x.toNat : Nat) : Int))).take n = bv (l.set j x) := by
  rw [List.take_set, h]
  simp [bv, List.map_set]
theorem u8xor8 (a c : UInt8) : bits .xor .u8 ((a.toNat : Nat) : Int) ((c.toNat : Nat) : Int) = (((a ^^^ c).toNat : Nat) : Int) := by
  have ha := a.toNat_lt
  have hc := c.toNat_lt
  show IntKind.u8.wrap ((BitVec.ofInt 8 (a.toNat : Int) ^^^ BitVec.ofInt 8 (c.toNat : Int)).toNat : Int) = _
  have hx : a.toNat ^^^ c.toNat < 2 ^ 8 := Nat.xor_lt_two_pow (by omega) (by omega)
  rw [BitVec.toNat_xor, BitVec.ofInt_natCast, BitVec.ofInt_natCast, BitVec.toNat_ofNat, BitVec.toNat_ofNat, Nat.mod_eq_of_lt (by omega), Nat.mod_eq_of_lt (by omega), u8w, UInt8.toNat_xor]
  omega
theorem u8_xor_ne {a c : UInt8} (h : c ≠ 0) : a ^^^ c ≠ a := fun e => h (by
  have : a ^^^ (a ^^^ c) = a ^^^ a := by rw [e]
  rw [← UInt8.xor_assoc, UInt8.xor_self, UInt8.zero_xor] at this
  exact this)
theorem Blk.same {w : World} {g : Nat} {t t' : TypeId} {cs cs' : List Value} (h : Blk w g t cs) (h' : Blk w g t' cs') : t = t' := by
  obtain ⟨_, h1, _⟩ := h
  obtain ⟨_, h2, _⟩ := h'
  rw [h1] at h2
  injection h2 with h2
  injection h2
theorem Pure.sliceSlTo' {P : Program} {ρ : Env} {dst : Option Tmp} {ty : TypeId} {pos : String} {af : Array Edge} {gd : Option (Nat × Bool)} {x z : Operand} {k' : IntKind} {j : Int} {A : Option Addr} {len cap q size : Nat} {t e : TypeId}
    (ht : ∀ w, (underlying t).run P w = .ok (.slice e) w) (hs : ∀ w, (sizeOf e).run P w = .ok size w) (hx : ev ρ x = some (.slice A len cap)) (hz : ev ρ z = some (.int k' j)) (hj : j = q) (h2 : q ≤ cap) :
    Pure P ρ ⟨dst, .slice t x none (some z) none, ty, pos, af, gd⟩ (.slice A q cap) := fun w a hf => by
  subst hj
  have e0 : ∀ a : Addr, a.add 0 = a := fun a => rfl
  have e1 : A.map (fun a => a.add 0) = A := by cases A <;> rfl
  simp [execOp, hf.eval hx, hf.eval hz, Instr.sliceAt, ht, Instr.slice, Instr.sliceBounds, Instr.sliceBound, asIntOf, h2, hs, e0, e1]
theorem Row.takeTo {w : World} {e : TypeId} {A : Option Addr} {n c q : Nat} {xs : List Value} (h : Row w e 1 (.slice A n c) n xs) (hq : q ≤ n) : Row w e 1 (.slice A q c) q (xs.take q) := by
  obtain ⟨h1, h2⟩ := h
  refine ⟨by rw [List.length_take]; omega, ?_⟩
  rcases h2 with ⟨h3, h4⟩ | ⟨g, cap, cs, h3, h4, h5, h6, h7⟩
  · injection h3 with a1 a2 a3
    subst a1 a2 a3
    exact .inl ⟨by rw [show q = 0 by omega], by omega⟩
  · injection h3 with a1 a2 a3
    subst a1 a3
    exact .inr ⟨g, c, cs, rfl, h4, by omega, h6, by rw [← h7, List.take_take, Nat.mul_one, Nat.mul_one, Nat.min_eq_left hq]⟩
theorem CellsI.chg0 {w w' : World} {k : IntKind} {A : Option Addr} {l : List Int} (h : CellsI w k A l) (hc : Chg [] w w') : CellsI w' k A l := fun i hi => by
  obtain ⟨g, o, e, h2⟩ := h i hi
  exact ⟨g, o, e, cell_chg h2 hc (by simp)⟩
theorem CellsB.chg0 {w w' : World} {A : Option Addr} {l : List UInt8} (h : CellsB w A l) (hc : Chg [] w w') : CellsB w' A l := fun i hi => by
  obtain ⟨g, o, e, h2⟩ := h i hi
  exact ⟨g, o, e, cell_chg h2 hc (by simp)⟩
/-- All blocks of a slice are among these, or new. -/
def MineIn (bad : List Nat) (B : Nat) (v : Value) : Prop := ∀ k, k ∈ own v → k ∈ bad ∨ B ≤ k
theorem MineIn.self (g B : Nat) {v : Value} : MineIn (g :: own v) B v := fun k hk => .inl (List.mem_cons_of_mem _ hk)
theorem MineIn.step {bad : List Nat} {B s : Nat} {v v' : Value} (h : MineIn bad B v) (hs : B ≤ s) (hn : ∀ k, k ∈ own v' → k ∈ own v ∨ s ≤ k) : MineIn bad B v' := fun k hk => by
  rcases hn k hk with h1 | h1
  · exact h k h1
  · exact .inr (by omega)
theorem Chg.ownIn {bad : List Nat} {w w' w'' : World} {v : Value} (h : Chg bad w w') (h' : Chg (Go.V.own v) w' w'') (hm : MineIn bad w.heap.size v) : Chg bad w w'' := h.trans h' (fun k hk => hm k hk)
theorem MineIn.mine {g B B0 : Nat} {v v' : Value} (h : MineIn (g :: own v) B v') (hv : Mine B0 v) (hg : B0 ≤ g) (hB : B0 ≤ B) : Mine B0 v' := fun k hk => by
  rcases h k hk with h1 | h1
  · rcases List.mem_cons.1 h1 with rfl | h2
    · exact hg
    · exact hv k h2
  · omega
theorem notin_cons {g a : Nat} {l : List Nat} (h : g ≠ a) (h2 : g ∉ l) : g ∉ a :: l := fun hk => by
  rcases List.mem_cons.1 hk with h1 | h1
  · exact h h1
  · exact h2 h1
theorem Row.oneCell {w : World} {e : TypeId} {size n : Nat} {v : Value} {xs : List Value} (h : Row w e size v n xs) : v.oneCell' = true := by
  obtain ⟨A, cap, rfl, _⟩ := h.shape
  rfl
/-- What a closure does that appends bytes to a captured slice. -/
def RetPut (g : Nat) (t e : TypeId) (v : Value) (l : List UInt8) (w : World) (r : Ending) (w' : World) : Prop :=
  ∃ v', r = .returned (.tuple #[]) ∧ Blk w' g t [v'] ∧ Row w' e 1 v' l.length (bv l) ∧ Chg (g :: own v) w w' ∧ MineIn (g :: own v) w.heap.size v'
end Go.V
/- The engine, continued. -/
set_option linter.unusedVariables false
namespace Go.V
open Go.Instr
section
variable {P : Program} {ρ : Env} {ty : TypeId} {pos : String} {af : Array Edge} {dst : Option Tmp} {gd : Option (Nat × Bool)}
theorem Pure.neqBool' {x y : Operand} {p q : Bool} {t t' : TypeId} (ht : P.underlying t = some .bool) (hx : ev ρ x = some (.bool p)) (hy : ev ρ y = some (.bool q)) :
    Pure P ρ ⟨dst, .binOp .neq t x y t', ty, pos, af, gd⟩ (.bool (!(p == q))) := fun w a hf => by
  have h1 : (eqGuard .neq t x y (.bool p) (.bool q)).run P w = .ok () w := by simp [eqGuard]
  have h2 : (binOp .neq t (.bool p) (.bool q)).run P w = .ok (.bool (!(p == q))) w := by
    show (do pure (Value.bool (!(← Op.equal t (.bool p) (.bool q)))) : Sem Value).run P w = _
    rw [Sem.run_bind, show Op.equal t (.bool p) (.bool q) = Op.equalIn (9999 + 1) t (.bool p) (.bool q) from rfl, run_equalIn_bool' w _ _ _ _ ht]
    simp
  simp only [execOp, hf.eval hx, hf.eval hy]
  simp [h1, h2]
end
theorem bv_set (l : List UInt8) (i : Nat) (x : UInt8) : (bv l).set i (.int .u8 ((x.toNat : Nat) : Int)) = bv (l.set i x) := by simp [bv, List.map_set]
end Go.V
