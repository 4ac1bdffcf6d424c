/-
  The slots of a frame as a short list of those that are known; the walk of a list of codes; the steps of a region's operations. Plain theorems over any program.
-/
import Derived.Test.YtmfepkadggigpaaSp
set_option linter.unusedVariables false
set_option linter.unusedSimpArgs false
namespace Go.Proofs.Ytmfepkadggigpaa
open Go.RowKit

/-! ### Slots -/
abbrev Ent := List (Nat × Value)
def lk : Ent → Nat → Option Value
  | [], _ => none
  | (s, v) :: r, t => bif Nat.beq s t then some v else lk r t
/-- The frame has N slots, no deferred calls, and those of E hold what E says. -/
structure Env (N : Nat) (E : Ent) (a : Act) : Prop where
  size : a.tmps.size = N
  defers : a.defers = []
  val : ∀ t v, lk E t = some v → a.tmps[t]? = some v
def evo (E : Ent) : Operand → Option Value
  | .tmp t => lk E t
  | .const v => some v
  | .global g => some (.pointer (some ⟨g, 0, none⟩))
  | .func f => some (.func (.func f) #[] #[])
theorem Env.eval {N : Nat} {E : Ent} {a : Act} (h : Env N E a) {x : Operand} {v : Value} (e : evo E x = some v) : a.eval x = v := by
  cases x with
  | tmp t =>
    have := h.val t v e
    show a.tmps.getD t undef = v
    simp [Array.getD_eq_getD_getElem?, this]
  | const u => exact Option.some.inj e
  | global g => exact Option.some.inj e
  | func f => exact Option.some.inj e
theorem Env.put {N : Nat} {E : Ent} {a : Act} (h : Env N E a) {d : Nat} (hd : Nat.blt d N = true) (v : Value) : Env N ((d, v) :: E) (a.put (some d) v) := by
  have hd' : d < N := by simpa [Nat.blt_eq] using hd
  refine ⟨by simpa [Act.put] using h.size, by simpa [Act.put] using h.defers, fun t u e => ?_⟩
  unfold lk at e
  unfold Act.put
  simp only
  rw [Array.getElem?_setIfInBounds]
  by_cases hdt : d = t
  · subst hdt
    simp only [Nat.beq_refl, cond_true, Option.some.injEq] at e
    subst e
    simp [h.size, hd']
  · have : Nat.beq d t = false := Bool.eq_false_iff.2 fun e => hdt (Nat.eq_of_beq_eq_true e)
    rw [this] at e
    simp only [cond_false] at e
    rw [if_neg hdt]
    exact h.val t u e
theorem Env.sub {N : Nat} {E : Ent} {a : Act} (h : Env N E a) : ∀ (E' : Ent), (∀ p ∈ E', lk E p.1 = some p.2) → Env N E' a := fun E' hs => by
  refine ⟨h.size, h.defers, ?_⟩
  induction E' with
  | nil => intro t v e; simp [lk] at e
  | cons p r ih =>
    intro t v e
    unfold lk at e
    by_cases hp : p.1 = t
    · subst hp
      simp only [Nat.beq_refl, cond_true, Option.some.injEq] at e
      subst e
      exact h.val _ _ (hs p (List.mem_cons_self ..))
    · have : Nat.beq p.1 t = false := Bool.eq_false_iff.2 fun e => hp (Nat.eq_of_beq_eq_true e)
      rw [this] at e
      exact ih (fun q hq => hs q (List.mem_cons_of_mem _ hq)) t v e
/-- The same as a conjunction, each limb 'rfl'. -/
def allIn (E : Ent) : Ent → Prop
  | [] => True
  | p :: r => lk E p.1 = some p.2 ∧ allIn E r
theorem allIn_mem {E : Ent} : ∀ {E' : Ent}, allIn E E' → ∀ p ∈ E', lk E p.1 = some p.2
  | [], _, p, h => by simp at h
  | q :: r, ⟨h1, h2⟩, p, h => by
    rcases List.mem_cons.1 h with rfl | h
    · exact h1
    · exact allIn_mem h2 p h
theorem Env.cut {N : Nat} {E E' : Ent} {a : Act} (h : Env N E a) (hs : allIn E E') : Env N E' a := h.sub E' (allIn_mem hs)
theorem Env.start (N : Nat) (args : Array Value) (E : Ent) (hN : args.size ≤ N) (hE : ∀ p ∈ E, args[p.1]? = some p.2) : Env N E ⟨args ++ Array.replicate (N - args.size) undef, []⟩ := by
  refine ⟨by simp; omega, rfl, ?_⟩
  induction E with
  | nil => intro t v e; simp [lk] at e
  | cons p r ih =>
    intro t v e
    unfold lk at e
    by_cases hp : p.1 = t
    · subst hp
      simp only [Nat.beq_refl, cond_true, Option.some.injEq] at e
      subst e
      have := hE p (List.mem_cons_self ..)
      have hlt := (Array.getElem?_eq_some_iff.1 this).1
      simp only [Array.getElem?_append, hlt, if_true]
      exact this
    · have : Nat.beq p.1 t = false := Bool.eq_false_iff.2 fun e => hp (Nat.eq_of_beq_eq_true e)
      rw [this] at e
      exact ih (fun q hq => hE q (List.mem_cons_of_mem _ hq)) t v e

/-! ### A list of codes -/
def wpK (P : Program) (Q : Exit → Act → World → Prop) : List Code → Act → World → Prop
  | [], a, w => Q .normal a w
  | c :: cs, a, w => c.wp P (Exit.then (wpK P Q cs) Q) a w
section
variable {P : Program} {Q : Exit → Act → World → Prop} {a : Act} {w : World} {cs : List Code}
theorem k_one {c : Code} (h : wpK P Q [c] a w) : c.wp P Q a w := Code.wp_mono (fun e a w q => by cases e <;> exact q) h
theorem k_of {c : Code} (h : c.wp P Q a w) : wpK P Q [c] a w := Code.wp_mono (fun e a w q => by cases e <;> exact q) h
theorem k_seq {x y : Code} (h : wpK P Q (x :: y :: cs) a w) : wpK P Q (.seq x y :: cs) a w :=
  wp_seq (Code.wp_mono (fun e a w q => by cases e <;> exact q) h)
theorem k_skip (h : wpK P Q cs a w) : wpK P Q (.skip :: cs) a w := wp_skip h
theorem k_ret (h : Q .ret a w) : wpK P Q (.ret :: cs) a w := wp_ret h
theorem k_exit {i : Nat} (h : Q (.exit i) a w) : wpK P Q (.exit i :: cs) a w := wp_exit h
theorem k_if {N : Nat} {E : Ent} (hE : Env N E a) {c : Operand} {x y : Code} {b : Bool} (hc : evo E c = some (.bool b)) (ht : b = true → wpK P Q (x :: cs) a w) (hf : b = false → wpK P Q (y :: cs) a w) : wpK P Q (.cond c x y :: cs) a w :=
  wp_cond_split (hE.eval hc) ht hf
/-- What follows a code is shown once: behind it J holds. -/
theorem k_cut {c : Code} (J : Act → World → Prop) (h : wpK P (fun e a w => match e with | .normal => J a w | e => Q e a w) [c] a w) (hk : ∀ a w, J a w → wpK P Q cs a w) : wpK P Q (c :: cs) a w :=
  Code.wp_mono (fun e a w q => by cases e <;> first | exact hk _ _ q | exact q) h
/-- A block out of which there are exits. -/
theorem k_block {id : Nat} {c : Code} (J : Act → World → Prop) (h : wpK P (fun e a w => match e with | .normal => J a w | .exit i => bif Nat.beq i id then J a w else Q (.exit i) a w | e => Q e a w) [c] a w) (hk : ∀ a w, J a w → wpK P Q cs a w) : wpK P Q (.block id c :: cs) a w :=
  wp_block (Code.wp_mono (fun e a w q => by
    cases e with
    | exit i =>
      simp only [Exit.then] at q
      unfold Exit.inBlock
      by_cases hi : i = id
      · subst hi; simp only [Nat.beq_refl, cond_true] at q; simp only [if_true]; exact hk _ _ q
      · have : Nat.beq i id = false := Bool.eq_false_iff.2 fun e => hi (Nat.eq_of_beq_eq_true e)
        rw [this] at q; simp only [cond_false] at q; simp only [if_neg hi]; exact q
    | normal => exact hk _ _ q
    | _ => exact q) h)
/-- A block that nobody leaves by its exit: its codes in its place. -/
theorem k_plain {id : Nat} {c : Code} (h : wpK P (fun e a w => match e with | .normal => wpK P Q cs a w | .exit i => bif Nat.beq i id then False else Q (.exit i) a w | e => Q e a w) [c] a w) : wpK P Q (.block id c :: cs) a w :=
  wp_block (Code.wp_mono (fun e a w q => by
    cases e with
    | exit i =>
      simp only [Exit.then] at q
      unfold Exit.inBlock
      by_cases hi : i = id
      · subst hi; simp only [Nat.beq_refl, cond_true] at q
      · have : Nat.beq i id = false := Bool.eq_false_iff.2 fun e => hi (Nat.eq_of_beq_eq_true e)
        rw [this] at q; simp only [cond_false] at q; simp only [if_neg hi]; exact q
    | normal => exact q
    | _ => exact q) h)
theorem k_region {id : Nat} {l : List Oper} (h : wpList P l.toArray (fun e a w => match e with | .normal => wpK P Q cs a w | e => Q e a w) l a w) : wpK P Q (.region id l.toArray false :: cs) a w :=
  wp_region_lit (by
    have : ∀ l' a w, wpList P l.toArray (fun e a w => match e with | .normal => wpK P Q cs a w | e => Q e a w) l' a w → wpList P l.toArray (Exit.then (wpK P Q cs) Q) l' a w := by
      have e : (fun e a w => match e with | .normal => wpK P Q cs a w | e => Q e a w) = Exit.then (wpK P Q cs) Q := by
        funext e a w; cases e <;> rfl
      rw [e]; exact fun _ _ _ h => h
    exact this l a w h)
end

/-! ### Loops, as the model has them -/
inductive Step (σ β : Type) where
  | next (s : σ)
  | done (b : β)
def iterM {σ β : Type} (body : σ → Option (Step σ β)) : Nat → σ → Option β
  | 0, _ => none
  | n + 1, s => match body s with
    | none => none
    | some (.next s') => iterM body n s'
    | some (.done b) => some b
theorem iterM_mono {σ β : Type} {body : σ → Option (Step σ β)} : ∀ {n : Nat} {s : σ} {b : β} (m : Nat), iterM body n s = some b → iterM body (n + m) s = some b
  | 0, _, _, _, h => by simp [iterM] at h
  | n + 1, s, b, m, h => by
    rw [show n + 1 + m = (n + m) + 1 by omega]
    unfold iterM at h ⊢
    cases hb : body s with
    | none => rw [hb] at h; cases h
    | some st =>
      rw [hb] at h
      cases st with
      | next s' => exact iterM_mono m h
      | done b' => exact h
open Classical in
noncomputable def loopM {σ β : Type} (body : σ → Option (Step σ β)) (s : σ) : Option β :=
  if h : ∃ n b, iterM body n s = some b then some (Classical.choose (Classical.choose_spec h)) else none
theorem loopM_iff {σ β : Type} {body : σ → Option (Step σ β)} {s : σ} {b : β} : loopM body s = some b ↔ ∃ n, iterM body n s = some b := by
  unfold loopM
  constructor
  · intro h
    split at h
    · rename_i hh
      simp only [Option.some.injEq] at h
      subst h
      exact ⟨_, Classical.choose_spec (Classical.choose_spec hh)⟩
    · cases h
  · rintro ⟨n, h⟩
    have hh : ∃ n b, iterM body n s = some b := ⟨n, b, h⟩
    rw [dif_pos hh]
    have h2 := Classical.choose_spec (Classical.choose_spec hh)
    have h3 := iterM_mono n h2
    have h4 := iterM_mono (Classical.choose hh) h
    rw [Nat.add_comm] at h3
    rw [h3] at h4
    exact h4
theorem loopM_next {σ β : Type} {body : σ → Option (Step σ β)} {s s' : σ} (h : body s = some (.next s')) : loopM body s = loopM body s' := by
  apply Option.ext
  intro b
  rw [loopM_iff, loopM_iff]
  constructor
  · rintro ⟨n, hn⟩
    cases n with
    | zero => simp [iterM] at hn
    | succ n => unfold iterM at hn; rw [h] at hn; exact ⟨n, hn⟩
  · rintro ⟨n, hn⟩
    exact ⟨n + 1, by unfold iterM; rw [h]; exact hn⟩
theorem loopM_done {σ β : Type} {body : σ → Option (Step σ β)} {s : σ} {b : β} (h : body s = some (.done b)) : loopM body s = some b :=
  loopM_iff.2 ⟨1, by unfold iterM; rw [h]⟩
/-- The law of the loops: an invariant and a measure. -/
theorem loopM_inv {σ β : Type} {body : σ → Option (Step σ β)} (I : σ → Prop) (μ : σ → Nat) (Post : β → Prop)
    (h : ∀ s, I s → (∃ s', body s = some (.next s') ∧ I s' ∧ μ s' < μ s) ∨ (∃ b, body s = some (.done b) ∧ Post b)) : ∀ s, I s → ∃ b, loopM body s = some b ∧ Post b := by
  intro s hs
  induction hm : μ s using Nat.strongRecOn generalizing s with
  | _ n ih =>
    rcases h s hs with ⟨s', h1, h2, h3⟩ | ⟨b, h1, h2⟩
    · obtain ⟨b, hb, hp⟩ := ih (μ s') (by omega) s' h2 rfl
      exact ⟨b, by rw [loopM_next h1]; exact hb, hp⟩
    · exact ⟨b, loopM_done h1, h2⟩
theorem wp_loop_nat {P : Program} {Q : Exit → Act → World → Prop} {c : Code} (I : Nat → Act → World → Prop) (n : Nat) {a : Act} {w : World} (h0 : I n a w)
    (round : ∀ n a w, I n a w → c.wp P (Exit.then (fun a w => ∃ m, m < n ∧ I m a w) Q) a w) : (Code.loop c).wp P Q a w := by
  intro b k cs
  have key : ∀ n a w, I n a w → ∃ e a' w', Q e a' w' ∧ Arrives P (lone (b.at a (.code c :: .inLoop c :: k)) cs w) b k cs e a' w' := by
    intro n
    induction n using Nat.strongRecOn with
    | _ n ih =>
      intro a w hI
      obtain ⟨e, a₁, w₁, hq, harr⟩ := round n a w hI b (.inLoop c :: k) cs
      cases e with
      | normal =>
        obtain ⟨m, hlt, hI₁⟩ := hq
        obtain ⟨e₂, a₂, w₂, hq₂, harr₂⟩ := ih m hlt a₁ w₁ hI₁
        exact ⟨e₂, a₂, w₂, hq₂, .of_steps (Steps.trans harr (.one step_inLoop)) harr₂⟩
      | _ => exact ⟨_, a₁, w₁, hq, .pass (x := .inLoop c) rfl (fun _ _ => .inl (by simp)) harr⟩
  obtain ⟨e, a', w', hq, harr⟩ := key n a w h0
  exact ⟨e, a', w', hq, .of_steps (.one step_loop) harr⟩
/-- A loop, whose model's rounds go as its code's. -/
theorem k_loop {P : Program} {Q : Exit → Act → World → Prop} {a : Act} {w : World} {cs : List Code} {c : Code} {σ β : Type} {body : σ → Option (Step σ β)} {s : σ} {b : β} (hm : loopM body s = some b) (I : σ → Act → World → Prop) (h0 : I s a w)
    (round : ∀ s st a w, I s a w → body s = some st → wpK P (fun e a w => match e with | .normal => ∃ s', st = .next s' ∧ I s' a w | e => ∃ b', st = .done b' ∧ (b' = b → Q e a w)) [c] a w) : wpK P Q (.loop c :: cs) a w := by
  obtain ⟨n, hn⟩ := loopM_iff.1 hm
  refine wp_loop_nat (fun n a w => ∃ s, iterM body n s = some b ∧ I s a w) n ⟨s, hn, h0⟩ ?_
  rintro n a w ⟨s, hn, hi⟩
  cases n with
  | zero => simp [iterM] at hn
  | succ n =>
    unfold iterM at hn
    cases hb : body s with
    | none => rw [hb] at hn; cases hn
    | some st =>
      rw [hb] at hn
      have h := round s st a w hi hb
      refine Code.wp_mono (fun e a' w' q => ?_) (k_one h)
      cases st with
      | next s' =>
        cases e with
        | normal =>
          obtain ⟨s2, e2, i2⟩ := q
          simp only [Step.next.injEq] at e2
          subst e2
          exact ⟨n, by omega, s', hn, i2⟩
        | _ => obtain ⟨_, e2, _⟩ := q; cases e2
      | done b' =>
        simp only [Option.some.injEq] at hn
        subst hn
        cases e with
        | normal => obtain ⟨s2, e2, _⟩ := q; cases e2
        | _ =>
          obtain ⟨b2, e2, q⟩ := q
          simp only [Step.done.injEq] at e2
          exact q e2.symm
end Go.Proofs.Ytmfepkadggigpaa
