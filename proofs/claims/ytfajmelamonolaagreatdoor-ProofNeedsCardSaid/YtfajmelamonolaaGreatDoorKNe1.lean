/- Parts of heaps and lists of owned parts: what a function may read for ever, and what it owns. Plain theorems over any program; no program is named. -/
import Derived.WalkKit
import Derived.WalkSpells
import Derived.WalkLawsBesides
import Derived.Lib.Hide
import Derived.Laws.AppendOwn
import Derived.Laws.AppendOwnNone
import Derived.Laws.CopyOwn
import Derived.Deep.QuietTactic
import Derived.BigQuiet
import Derived.OrdersHeld
import Derived.TacticsIn
import Derived.RangeFuncCalls
import Derived.OrdersIn
set_option linter.unusedVariables false
set_option linter.unusedSimpArgs false
namespace Go.Proofs.YtfajmelamonolaaGreatDoor
open Go.RowKit
abbrev PH := Nat → Option Obj
namespace PH
def le (h k : PH) : Prop := ∀ b o, h b = some o → k b = some o
def un (h k : PH) : PH := fun b => match h b with | some o => some o | none => k b
def dj (h k : PH) : Prop := ∀ b, h b = none ∨ k b = none
def one (b : Nat) (o : Obj) : PH := fun b' => if b' = b then some o else none
def emp : PH := fun _ => none
def minus (h k : PH) : PH := fun b => match k b with | some _ => none | none => h b
theorem le.rf (h : PH) : h.le h := fun _ _ e => e
theorem le.tr {a b c : PH} (h : a.le b) (k : b.le c) : a.le c := fun x o e => k x o (h x o e)
theorem le_un (h k : PH) : h.le (h.un k) := fun b o e => by simp [un, e]
theorem le_un_r {h k : PH} (d : h.dj k) : k.le (h.un k) := fun b o e => by
  rcases d b with e' | e'
  · simp [un, e', e]
  · rw [e'] at e; cases e
theorem un_le {a b c : PH} (h : a.le c) (k : b.le c) : (a.un b).le c := fun x o e => by
  unfold un at e
  cases hx : a x with
  | some o' => rw [hx] at e; simp only [Option.some.injEq] at e; subst e; exact h x _ hx
  | none => rw [hx] at e; exact k x o e
theorem dj.symm {h k : PH} (d : h.dj k) : k.dj h := fun b => (d b).symm
theorem dj.mono {h h' k : PH} (l : h'.le h) (d : h.dj k) : h'.dj k := fun b => by
  rcases d b with e | e
  · left
    cases hx : h' b with
    | none => rfl
    | some o => rw [l b o hx] at e; cases e
  · exact Or.inr e
theorem un_none {h k : PH} {b : Nat} : (h.un k) b = none ↔ h b = none ∧ k b = none := by
  unfold un; cases h b <;> simp
theorem dj_un {a b c : PH} : (a.un b).dj c ↔ a.dj c ∧ b.dj c := by
  constructor
  · intro h
    exact ⟨fun x => (h x).imp (fun e => (un_none.1 e).1) id, fun x => (h x).imp (fun e => (un_none.1 e).2) id⟩
  · rintro ⟨h, k⟩ x
    rcases h x with e | e
    · rcases k x with e' | e'
      · exact Or.inl (un_none.2 ⟨e, e'⟩)
      · exact Or.inr e'
    · exact Or.inr e
theorem un_assoc (a b c : PH) : (a.un b).un c = a.un (b.un c) := by
  funext x; unfold un; cases a x <;> rfl
theorem un_comm {a b : PH} (d : a.dj b) : a.un b = b.un a := by
  funext x
  unfold un
  rcases d x with e | e
  · rw [e]; cases b x <;> rfl
  · rw [e]; cases a x <;> rfl
theorem un_right_comm {a b c : PH} (d : b.dj c) : (a.un b).un c = (a.un c).un b := by
  rw [un_assoc, un_assoc, un_comm d]
theorem one_le {h : PH} {b : Nat} {o : Obj} (e : h b = some o) : (one b o).le h := fun x o' e' => by
  by_cases hx : x = b
  · subst hx; simp [one] at e'; subst e'; exact e
  · simp [one, hx] at e'
theorem dj_emp (h : PH) : h.dj emp := fun _ => Or.inr rfl
end PH
abbrev Atom := PH → Prop
def Sep : PH → List Atom → PH → Prop
  | ρ, [], h => ρ.le h
  | ρ, A :: L, h => ∃ k, A k ∧ ρ.dj k ∧ Sep (ρ.un k) L h
namespace Sep
theorem mono {L : List Atom} : ∀ {ρ h h' : PH}, Sep ρ L h → h.le h' → Sep ρ L h' := by
  induction L with
  | nil => intro ρ h h' hs hl; exact PH.le.tr hs hl
  | cons A L ih => rintro ρ h h' ⟨k, a, d, hs⟩ hl; exact ⟨k, a, d, ih hs hl⟩
theorem le {L : List Atom} : ∀ {ρ h : PH}, Sep ρ L h → ρ.le h := by
  induction L with
  | nil => intro ρ h hs; exact hs
  | cons A L ih => rintro ρ h ⟨k, a, d, hs⟩; exact (PH.le_un ρ k).tr (ih hs)
theorem less {L : List Atom} : ∀ {ρ ρ' h : PH}, Sep ρ L h → ρ'.le ρ → Sep ρ' L h := by
  induction L with
  | nil => intro ρ ρ' h hs hl; exact hl.tr hs
  | cons A L ih =>
    rintro ρ ρ' h ⟨k, a, d, hs⟩ hl
    exact ⟨k, a, PH.dj.mono hl d, ih hs (PH.un_le (hl.tr (PH.le_un _ _)) (PH.le_un_r d))⟩
theorem drop {A : Atom} {L : List Atom} {ρ h : PH} (hs : Sep ρ (A :: L) h) : Sep ρ L h := by
  obtain ⟨k, _, _, hs⟩ := hs
  exact less hs (PH.le_un _ _)
theorem swap {A B : Atom} {L : List Atom} {ρ h : PH} (hs : Sep ρ (A :: B :: L) h) : Sep ρ (B :: A :: L) h := by
  obtain ⟨k, a, d, m, b, e, hs⟩ := hs
  obtain ⟨e1, e2⟩ := PH.dj_un.1 e
  exact ⟨m, b, e1, k, a, PH.dj_un.2 ⟨d, e2.symm⟩, by rw [PH.un_right_comm e2.symm]; exact hs⟩
theorem imp {A B : Atom} {L : List Atom} {ρ h : PH} (hs : Sep ρ (A :: L) h) (hi : ∀ k, A k → B k) : Sep ρ (B :: L) h := by
  obtain ⟨k, a, d, hs⟩ := hs
  exact ⟨k, hi k a, d, hs⟩
theorem cons_mono {A : Atom} {L L' : List Atom} (hi : ∀ ρ h, Sep ρ L h → Sep ρ L' h) {ρ h : PH} (hs : Sep ρ (A :: L) h) : Sep ρ (A :: L') h := by
  obtain ⟨k, a, d, hs⟩ := hs
  exact ⟨k, a, d, hi _ _ hs⟩
theorem get {A : Atom} : ∀ {L : List Atom} (i : Nat) {ρ h : PH}, Sep ρ L h → L[i]? = some A → Sep ρ (A :: L.eraseIdx i) h
  | [], i, _, _, _, e => by simp at e
  | B :: L, 0, _, _, hs, e => by simp at e; subst e; exact hs
  | B :: L, i + 1, ρ, h, hs, e => by
    simp only [List.getElem?_cons_succ] at e
    exact swap (cons_mono (fun ρ h hs => get i hs e) hs)
theorem put {A' : Atom} : ∀ {L : List Atom} (i : Nat) {ρ h : PH}, i < L.length → Sep ρ (A' :: L.eraseIdx i) h → Sep ρ (L.set i A') h
  | [], i, _, _, e, _ => by simp at e
  | B :: L, 0, _, _, _, hs => hs
  | B :: L, i + 1, ρ, h, e, hs => by
    simp only [List.length_cons, Nat.add_lt_add_iff_right] at e
    exact cons_mono (fun ρ h hs => put i e hs) (swap (by simpa using hs))
theorem lift {L : List Atom} : ∀ {ρ h k : PH}, ρ.dj k → Sep (ρ.un k) L h → Sep ρ L (h.minus k) := by
  induction L with
  | nil =>
    intro ρ h k d hs b o e
    have hb := hs b o (PH.le_un _ _ b o e)
    unfold PH.minus
    rcases d b with e' | e'
    · rw [e'] at e; cases e
    · rw [e']; exact hb
  | cons A L ih =>
    rintro ρ h k d ⟨m, a, e, hs⟩
    obtain ⟨e1, e2⟩ := PH.dj_un.1 e
    exact ⟨m, a, e1, ih (PH.dj_un.2 ⟨d, e2.symm⟩) (by rw [← PH.un_right_comm e2]; exact hs)⟩
theorem add {A : Atom} {L : List Atom} : ∀ {ρ h h' k : PH}, Sep ρ L h → (∀ b, k b ≠ none → h b = none) → h.le h' → k.le h' → A k → Sep ρ (A :: L) h' := by
  induction L with
  | nil =>
    intro ρ h h' k hs hn hl hk a
    refine ⟨k, a, fun b => ?_, PH.un_le (PH.le.tr hs hl) hk⟩
    cases hb : k b with
    | none => exact Or.inr rfl
    | some o =>
      left
      have := hn b (by rw [hb]; simp)
      cases hr : ρ b with
      | none => rfl
      | some o' => rw [hs b o' hr] at this; cases this
  | cons B L ih =>
    rintro ρ h h' k ⟨m, b, e, hs⟩ hn hl hk a
    exact swap ⟨m, b, e, ih hs hn hl hk a⟩
theorem write {A A' : Atom} {L : List Atom} {ρ h h' : PH} (hs : Sep ρ (A :: L) h) (hw : ∀ k, A k → k.le h → ∃ k', A' k' ∧ k'.le h' ∧ (h.minus k).le h' ∧ ∀ b, k' b ≠ none → k b ≠ none ∨ h b = none) : Sep ρ (A' :: L) h' := by
  obtain ⟨k, a, d, hs⟩ := hs
  have hk : k.le h := (PH.le_un_r d).tr (le hs)
  obtain ⟨k', a', hk', hm, hb⟩ := hw k a hk
  refine add (lift d hs) (fun b hb' => ?_) hm hk' a'
  unfold PH.minus
  rcases hb b hb' with e | e
  · cases hx : k b with
    | none => exact absurd hx e
    | some o => rfl
  · cases hx : k b with
    | none => exact e
    | some o => rfl
end Sep
def hp (w : World) : PH := fun b => w.heap[b]?
structure Hp (Z : World) (ρ : PH) (L : List Atom) (w : World) : Prop where
  os : w.os = Z.os
  tape : w.tape = Z.tape
  output : w.output = Z.output
  sep : Sep ρ L (hp w)
def Pt (b : Nat) (o : Obj) : Atom := fun k => k = PH.one b o
namespace Hp
variable {Z : World} {ρ : PH} {L : List Atom} {w w' : World}
theorem with_ (h : Hp Z ρ L w) (ho : w'.os = w.os) (ht : w'.tape = w.tape) (hu : w'.output = w.output) {ρ' : PH} {L' : List Atom} (hs : Sep ρ' L' (hp w')) : Hp Z ρ' L' w' :=
  ⟨ho.trans h.os, ht.trans h.tape, hu.trans h.output, hs⟩
theorem to {ρ' : PH} {L' : List Atom} (h : Hp Z ρ L w) (hs : Sep ρ L (hp w) → Sep ρ' L' (hp w)) : Hp Z ρ' L' w := ⟨h.os, h.tape, h.output, hs h.sep⟩
theorem drew (h : Hp Z ρ L w) : Hp Z ρ L w.drew := ⟨h.os, h.tape, h.output, h.sep⟩
theorem drewN (h : Hp Z ρ L w) (n : Nat) : Hp Z ρ L (w.drewN n) := ⟨h.os, h.tape, h.output, h.sep⟩
theorem drop {A : Atom} (h : Hp Z ρ (A :: L) w) : Hp Z ρ L w := h.to Sep.drop
theorem get {A : Atom} (h : Hp Z ρ L w) (i : Nat) (e : L[i]? = some A) : Hp Z ρ (A :: L.eraseIdx i) w := h.to fun s => s.get i e
theorem put {A : Atom} (i : Nat) (e : i < L.length) (h : Hp Z ρ (A :: L.eraseIdx i) w) : Hp Z ρ (L.set i A) w := h.to fun s => s.put i e
theorem less {ρ' : PH} (h : Hp Z ρ L w) (l : ρ'.le ρ) : Hp Z ρ' L w := h.to fun s => s.less l
theorem le (h : Hp Z ρ L w) : ρ.le (hp w) := h.sep.le
theorem lend {A : Atom} (h : Hp Z ρ (A :: L) w) : ∃ k, A k ∧ ρ.dj k ∧ Hp Z (ρ.un k) L w := by
  obtain ⟨k, a, d, s⟩ := h.sep
  exact ⟨k, a, d, h.os, h.tape, h.output, s⟩
theorem back {A : Atom} {k : PH} (a : A k) (d : ρ.dj k) (h : Hp Z (ρ.un k) L w) : Hp Z ρ (A :: L) w := h.to fun s => ⟨k, a, d, s⟩
theorem alloc (h : Hp Z ρ L w) (o : Obj) : Hp Z ρ (Pt w.heap.size o :: L) (w.alloc o) := by
  refine h.with_ (w' := w.alloc o) rfl rfl rfl (Sep.add (A := Pt w.heap.size o) (k := PH.one w.heap.size o) h.sep (fun b hb => ?_) (fun b o' e => ?_) (PH.one_le ?_) rfl)
  · by_cases e : b = w.heap.size
    · subst e; simp [hp]
    · simp [PH.one, e] at hb
  · unfold hp at *
    have hlt : b < w.heap.size := (Array.getElem?_eq_some_iff.1 e).1
    show (w.heap.push o)[b]? = some o'
    rw [Array.getElem?_push, if_neg (by omega)]
    exact e
  · show (w.heap.push o)[w.heap.size]? = some o
    simp
theorem look {b : Nat} {o : Obj} (h : Hp Z ρ L w) (i : Nat) (e : L[i]? = some (Pt b o)) : w.heap[b]? = some o := by
  obtain ⟨k, a, d, s⟩ := (h.get i e).lend
  have := (PH.le_un_r d).tr s.le b o (by rw [a]; simp [PH.one])
  exact this
theorem keep (h : Hp Z ρ L w) (k : Below w.heap.size w w') : Hp Z ρ L w' := by
  refine h.with_ k.os k.tape k.output (h.sep.mono fun b o e => ?_)
  have hlt : b < w.heap.size := (Array.getElem?_eq_some_iff.1 e).1
  exact (k.block b hlt).trans e
end Hp
end Go.Proofs.YtfajmelamonolaaGreatDoor

/- The slots of a frame as a short list of those that are known; the walk of a list of codes; the steps of a region's operations. Plain theorems over any program. -/
set_option linter.unusedVariables false
set_option linter.unusedSimpArgs false
namespace Go.Proofs.YtfajmelamonolaaGreatDoor
open Go.RowKit
abbrev Ent := List (Nat × Value)
def lk : Ent → Nat → Option Value
  | [], _ => none
  | (s, v) :: r, t => bif Nat.beq s t then some v else lk r t
structure EnvD (Df : List Deferred) (N : Nat) (E : Ent) (a : Act) : Prop where
  size : a.tmps.size = N
  defers : a.defers = Df
  val : ∀ t v, lk E t = some v → a.tmps[t]? = some v
abbrev Env := EnvD []
def evo (E : Ent) : Operand → Option Value
  | .tmp t => lk E t
  | .const v => some v
  | .global g => some (.pointer (some ⟨g, 0, none⟩))
  | .func f => some (.func (.func f) #[] #[])
theorem EnvD.eval {Df : List Deferred} {N : Nat} {E : Ent} {a : Act} (h : EnvD Df N E a) {x : Operand} {v : Value} (e : evo E x = some v) : a.eval x = v := by
  cases x with
  | tmp t =>
    have := h.val t v e
    show a.tmps.getD t undef = v
    simp [Array.getD_eq_getD_getElem?, this]
  | const u => exact Option.some.inj e
  | global g => exact Option.some.inj e
  | func f => exact Option.some.inj e
theorem EnvD.put {Df : List Deferred} {N : Nat} {E : Ent} {a : Act} (h : EnvD Df N E a) {d : Nat} (hd : Nat.blt d N = true) (v : Value) : EnvD Df N ((d, v) :: E) (a.put (some d) v) := by
  have hd' : d < N := by simpa [Nat.blt_eq] using hd
  refine ⟨by simpa [Act.put] using h.size, by simpa [Act.put] using h.defers, fun t u e => ?_⟩
  unfold lk at e
  unfold Act.put
  simp only
  rw [Array.getElem?_setIfInBounds]
  by_cases hdt : d = t
  · subst hdt
    simp only [Nat.beq_refl, cond_true, Option.some.injEq] at e
    subst e
    simp [h.size, hd']
  · have : Nat.beq d t = false := Bool.eq_false_iff.2 fun e => hdt (Nat.eq_of_beq_eq_true e)
    rw [this] at e
    simp only [cond_false] at e
    rw [if_neg hdt]
    exact h.val t u e
theorem EnvD.sub {Df : List Deferred} {N : Nat} {E : Ent} {a : Act} (h : EnvD Df N E a) : ∀ (E' : Ent), (∀ p ∈ E', lk E p.1 = some p.2) → EnvD Df N E' a := fun E' hs => by
  refine ⟨h.size, h.defers, ?_⟩
  induction E' with
  | nil => intro t v e; simp [lk] at e
  | cons p r ih =>
    intro t v e
    unfold lk at e
    by_cases hp : p.1 = t
    · subst hp
      simp only [Nat.beq_refl, cond_true, Option.some.injEq] at e
      subst e
      exact h.val _ _ (hs p (List.mem_cons_self ..))
    · have : Nat.beq p.1 t = false := Bool.eq_false_iff.2 fun e => hp (Nat.eq_of_beq_eq_true e)
      rw [this] at e
      exact ih (fun q hq => hs q (List.mem_cons_of_mem _ hq)) t v e
def allIn (E : Ent) : Ent → Prop
  | [] => True
  | p :: r => lk E p.1 = some p.2 ∧ allIn E r
theorem allIn_mem {E : Ent} : ∀ {E' : Ent}, allIn E E' → ∀ p ∈ E', lk E p.1 = some p.2
  | [], _, p, h => by simp at h
  | q :: r, ⟨h1, h2⟩, p, h => by
    rcases List.mem_cons.1 h with rfl | h
    · exact h1
    · exact allIn_mem h2 p h
theorem EnvD.cut {Df : List Deferred} {N : Nat} {E E' : Ent} {a : Act} (h : EnvD Df N E a) (hs : allIn E E') : EnvD Df N E' a := h.sub E' (allIn_mem hs)
theorem Env.start (N : Nat) (args : Array Value) (E : Ent) (hN : args.size ≤ N) (hE : ∀ p ∈ E, args[p.1]? = some p.2) : Env N E ⟨args ++ Array.replicate (N - args.size) undef, []⟩ := by
  refine ⟨by simp; omega, rfl, ?_⟩
  induction E with
  | nil => intro t v e; simp [lk] at e
  | cons p r ih =>
    intro t v e
    unfold lk at e
    by_cases hp : p.1 = t
    · subst hp
      simp only [Nat.beq_refl, cond_true, Option.some.injEq] at e
      subst e
      have := hE p (List.mem_cons_self ..)
      have hlt := (Array.getElem?_eq_some_iff.1 this).1
      simp only [Array.getElem?_append, hlt, if_true]
      exact this
    · have : Nat.beq p.1 t = false := Bool.eq_false_iff.2 fun e => hp (Nat.eq_of_beq_eq_true e)
      rw [this] at e
      exact ih (fun q hq => hE q (List.mem_cons_of_mem _ hq)) t v e
def fR : Option Nat → Fence
  | none => Fence.wide
  | some l => Fence.wide.inRound l
theorem fR_fn (R : Option Nat) (f : FuncId) : (fR R).fn f := by cases R <;> trivial
theorem fR_calls {R : Option Nat} {n : Nat} {P : Program} {f : FuncId} {args : Array Value} {w : World} {T : Ending → World → Prop} (h : Calls P f args w T) : CallsIn (fR R) n P f args w T := by
  cases R with
  | none => exact callsIn_wide.2 h
  | some l => exact CallsIn.inRound l (callsIn_wide.2 h)
theorem fR_depth (R : Option Nat) : (fR R).depth.isSome = true → 1 ≤ 0 := by cases R <;> simp [fR, Fence.wide, Fence.inRound]
def wpL (R : Option Nat) (P : Program) (ops : Array Oper) (Q : Exit → Act → World → Prop) (l : List Oper) (a : Act) (w : World) : Prop :=
  match R with
  | none => wpList P ops Q l a w
  | some r => wpListIn (Fence.wide.inRound r) 0 P ops Q l a w
def wpK (R : Option Nat) (P : Program) (Q : Exit → Act → World → Prop) : List Code → Act → World → Prop
  | [], a, w => Q .normal a w
  | c :: cs, a, w => c.wpIn (fR R) 0 P (Exit.then (wpK R P Q cs) Q) a w
section
variable {R : Option Nat} {P : Program} {Q : Exit → Act → World → Prop} {a : Act} {w : World} {cs : List Code}
theorem k_one {c : Code} (h : wpK R P Q [c] a w) : c.wpIn (fR R) 0 P Q a w := wpIn_mono h (fun e a w q => by cases e <;> exact q)
theorem k_seq {x y : Code} (h : wpK R P Q (x :: y :: cs) a w) : wpK R P Q (.seq x y :: cs) a w :=
  wpIn_seq (wpIn_mono h (fun e a w q => by cases e <;> exact q))
theorem k_skip (h : wpK R P Q cs a w) : wpK R P Q (.skip :: cs) a w := wpIn_skip h
theorem k_ret (h : Q .ret a w) : wpK R P Q (.ret :: cs) a w := wpIn_ret h
theorem k_exit {i : Nat} (h : Q (.exit i) a w) : wpK R P Q (.exit i :: cs) a w := wpIn_exit h
theorem k_if {Df : List Deferred} {N : Nat} {E : Ent} (hE : EnvD Df N E a) {c : Operand} {x y : Code} {b : Bool} (hc : evo E c = some (.bool b)) (ht : b = true → wpK R P Q (x :: cs) a w) (hf : b = false → wpK R P Q (y :: cs) a w) : wpK R P Q (.cond c x y :: cs) a w :=
  wpIn_cond_split (hE.eval hc) ht hf
theorem k_cut {c : Code} (J : Act → World → Prop) (h : wpK R P (fun e a w => match e with | .normal => J a w | e => Q e a w) [c] a w) (hk : ∀ a w, J a w → wpK R P Q cs a w) : wpK R P Q (c :: cs) a w :=
  wpIn_mono h (fun e a w q => by cases e <;> first | exact hk _ _ q | exact q)
theorem k_block {id : Nat} {c : Code} (J : Act → World → Prop) (h : wpK R P (fun e a w => match e with | .normal => J a w | .exit i => bif Nat.beq i id then J a w else Q (.exit i) a w | e => Q e a w) [c] a w) (hk : ∀ a w, J a w → wpK R P Q cs a w) : wpK R P Q (.block id c :: cs) a w :=
  wpIn_block (wpIn_mono h (fun e a w q => by
    cases e with
    | exit i =>
      simp only [Exit.then] at q
      unfold Exit.inBlock
      by_cases hi : i = id
      · subst hi; simp only [Nat.beq_refl, cond_true] at q; simp only [if_true]; exact hk _ _ q
      · have : Nat.beq i id = false := Bool.eq_false_iff.2 fun e => hi (Nat.eq_of_beq_eq_true e)
        rw [this] at q; simp only [cond_false] at q; simp only [if_neg hi]; exact q
    | normal => exact hk _ _ q
    | _ => exact q))
theorem k_plain {id : Nat} {c : Code} (h : wpK R P (fun e a w => match e with | .normal => wpK R P Q cs a w | .exit i => bif Nat.beq i id then False else Q (.exit i) a w | e => Q e a w) [c] a w) : wpK R P Q (.block id c :: cs) a w :=
  wpIn_block (wpIn_mono h (fun e a w q => by
    cases e with
    | exit i =>
      simp only [Exit.then] at q
      unfold Exit.inBlock
      by_cases hi : i = id
      · subst hi; simp only [Nat.beq_refl, cond_true] at q
      · have : Nat.beq i id = false := Bool.eq_false_iff.2 fun e => hi (Nat.eq_of_beq_eq_true e)
        rw [this] at q; simp only [cond_false] at q; simp only [if_neg hi]; exact q
    | normal => exact q
    | _ => exact q))
theorem k_region {id : Nat} {l : List Oper} (h : wpL R P l.toArray (fun e a w => match e with | .normal => wpK R P Q cs a w | e => Q e a w) l a w) : wpK R P Q (.region id l.toArray false :: cs) a w := by
  have e : (fun e a w => match e with | .normal => wpK R P Q cs a w | e => Q e a w) = Exit.then (wpK R P Q cs) Q := by
    funext e a w; cases e <;> rfl
  rw [e] at h
  cases R with
  | none => exact wpIn_wide.2 (wp_region_lit h)
  | some r => exact wpIn_region_lit h
end
inductive Step (σ β : Type) where
  | next (s : σ)
  | done (b : β)
def iterM {σ β : Type} (body : σ → Option (Step σ β)) : Nat → σ → Option β
  | 0, _ => none
  | n + 1, s => match body s with
    | none => none
    | some (.next s') => iterM body n s'
    | some (.done b) => some b
theorem iterM_mono {σ β : Type} {body : σ → Option (Step σ β)} : ∀ {n : Nat} {s : σ} {b : β} (m : Nat), iterM body n s = some b → iterM body (n + m) s = some b
  | 0, _, _, _, h => by simp [iterM] at h
  | n + 1, s, b, m, h => by
    rw [show n + 1 + m = (n + m) + 1 by omega]
    unfold iterM at h ⊢
    cases hb : body s with
    | none => rw [hb] at h; cases h
    | some st =>
      rw [hb] at h
      cases st with
      | next s' => exact iterM_mono m h
      | done b' => exact h
open Classical in
noncomputable def loopM {σ β : Type} (body : σ → Option (Step σ β)) (s : σ) : Option β :=
  if h : ∃ n b, iterM body n s = some b then some (Classical.choose (Classical.choose_spec h)) else none
theorem loopM_iff {σ β : Type} {body : σ → Option (Step σ β)} {s : σ} {b : β} : loopM body s = some b ↔ ∃ n, iterM body n s = some b := by
  unfold loopM
  constructor
  · intro h
    split at h
    · rename_i hh
      simp only [Option.some.injEq] at h
      subst h
      exact ⟨_, Classical.choose_spec (Classical.choose_spec hh)⟩
    · cases h
  · rintro ⟨n, h⟩
    have hh : ∃ n b, iterM body n s = some b := ⟨n, b, h⟩
    rw [dif_pos hh]
    have h2 := Classical.choose_spec (Classical.choose_spec hh)
    have h3 := iterM_mono n h2
    have h4 := iterM_mono (Classical.choose hh) h
    rw [Nat.add_comm] at h3
    rw [h3] at h4
    exact h4
theorem loopM_next {σ β : Type} {body : σ → Option (Step σ β)} {s s' : σ} (h : body s = some (.next s')) : loopM body s = loopM body s' := by
  apply Option.ext
  intro b
  rw [loopM_iff, loopM_iff]
  constructor
  · rintro ⟨n, hn⟩
    cases n with
    | zero => simp [iterM] at hn
    | succ n => unfold iterM at hn; rw [h] at hn; exact ⟨n, hn⟩
  · rintro ⟨n, hn⟩
    exact ⟨n + 1, by unfold iterM; rw [h]; exact hn⟩
theorem loopM_done {σ β : Type} {body : σ → Option (Step σ β)} {s : σ} {b : β} (h : body s = some (.done b)) : loopM body s = some b :=
  loopM_iff.2 ⟨1, by unfold iterM; rw [h]⟩
theorem loopM_inv {σ β : Type} {body : σ → Option (Step σ β)} (I : σ → Prop) (μ : σ → Nat) (Post : β → Prop)
    (h : ∀ s, I s → (∃ s', body s = some (.next s') ∧ I s' ∧ μ s' < μ s) ∨ (∃ b, body s = some (.done b) ∧ Post b)) : ∀ s, I s → ∃ b, loopM body s = some b ∧ Post b := by
  intro s hs
  induction hm : μ s using Nat.strongRecOn generalizing s with
  | _ n ih =>
    rcases h s hs with ⟨s', h1, h2, h3⟩ | ⟨b, h1, h2⟩
    · obtain ⟨b, hb, hp⟩ := ih (μ s') (by omega) s' h2 rfl
      exact ⟨b, by rw [loopM_next h1]; exact hb, hp⟩
    · exact ⟨b, loopM_done h1, h2⟩
theorem least_ {p : Nat → Prop} : ∀ n, p n → ∃ m, p m ∧ ∀ k, p k → m ≤ k := by
  intro n
  induction n using Nat.strongRecOn with
  | _ n ih =>
    intro hn
    by_cases h : ∃ k, k < n ∧ p k
    · obtain ⟨k, hk, hp⟩ := h
      exact ih k hk hp
    · exact ⟨n, hn, fun k hk => by
        rcases Nat.lt_or_ge k n with h1 | h1
        · exact absurd ⟨k, h1, hk⟩ h
        · exact h1⟩
open Classical in
theorem wp_loop_nat {R : Option Nat} {P : Program} {Q : Exit → Act → World → Prop} {c : Code} (I : Nat → Act → World → Prop) (n : Nat) {a : Act} {w : World} (h0 : I n a w)
    (round : ∀ n a w, I n a w → c.wpIn (fR R) 0 P (Exit.then (fun a w => ∃ m, m < n ∧ I m a w) Q) a w) : (Code.loop c).wpIn (fR R) 0 P Q a w := by
  have L : ∀ a w, (∃ n, I n a w) → ∃ m, I m a w ∧ ∀ k, I k a w → m ≤ k := fun a w ⟨n, hn⟩ => least_ n hn
  refine wpIn_loop (fun a w => ∃ n, I n a w) (fun a w => if h : ∃ n, I n a w then Classical.choose (L a w h) else 0) ⟨n, h0⟩ ?_
  intro a w h
  refine wpIn_mono (round _ a w (Classical.choose_spec (L a w h)).1) (fun e a' w' q => ?_)
  cases e with
  | normal =>
    obtain ⟨m, hm, hI⟩ := q
    refine ⟨⟨m, hI⟩, ?_⟩
    rw [dif_pos h, dif_pos ⟨m, hI⟩]
    exact Nat.lt_of_le_of_lt ((Classical.choose_spec (L a' w' ⟨m, hI⟩)).2 m hI) hm
  | _ => exact q
theorem k_loop {Rn : Option Nat} {P : Program} {Q : Exit → Act → World → Prop} {a : Act} {w : World} {cs : List Code} {c : Code} {σ β : Type} {body : σ → Option (Step σ β)} {s : σ} {b : β} (hm : loopM body s = some b) (I : σ → Act → World → Prop) (h0 : I s a w)
    (round : ∀ s st a w, I s a w → body s = some st → wpK Rn P (fun e a w => match e with | .normal => ∃ s', st = .next s' ∧ I s' a w | e => ∃ b', st = .done b' ∧ (b' = b → Q e a w)) [c] a w) : wpK Rn P Q (.loop c :: cs) a w := by
  obtain ⟨n, hn⟩ := loopM_iff.1 hm
  refine wp_loop_nat (fun n a w => ∃ s, iterM body n s = some b ∧ I s a w) n ⟨s, hn, h0⟩ ?_
  rintro n a w ⟨s, hn, hi⟩
  cases n with
  | zero => simp [iterM] at hn
  | succ n =>
    unfold iterM at hn
    cases hb : body s with
    | none => rw [hb] at hn; cases hn
    | some st =>
      rw [hb] at hn
      have h := round s st a w hi hb
      refine wpIn_mono (k_one h) (fun e a' w' q => ?_)
      cases st with
      | next s' =>
        cases e with
        | normal =>
          obtain ⟨s2, e2, i2⟩ := q
          simp only [Step.next.injEq] at e2
          subst e2
          exact ⟨n, by omega, s', hn, i2⟩
        | _ => obtain ⟨_, e2, _⟩ := q; cases e2
      | done b' =>
        simp only [Option.some.injEq] at hn
        subst hn
        cases e with
        | normal => obtain ⟨s2, e2, _⟩ := q; cases e2
        | _ =>
          obtain ⟨b2, e2, q⟩ := q
          simp only [Step.done.injEq] at e2
          exact q e2.symm
end Go.Proofs.YtfajmelamonolaaGreatDoor

/- The steps of a region's operations, over frames as short lists and worlds as parts. Plain theorems over any program. -/
set_option linter.unusedVariables false
set_option linter.unusedSimpArgs false
namespace Go.Proofs.YtfajmelamonolaaGreatDoor
open Go.RowKit
section
variable {R : Option Nat} {P : Program} {ops : Array Oper} {Q : Exit → Act → World → Prop} {rest : List Oper} {o : Oper} {a : Act} {w w' : World}
theorem nd_of {n : Next} (hx : (execOp a.eval o).run P w = .ok n w') (hn : ∀ d, n ≠ .defer d) : ∀ c, o.op ≠ .defer c := by
  intro c ho
  simp only [execOp, ho, Sem.run_bind] at hx
  cases h : (resolve a.eval c o.type).run P w with
  | ok d w1 =>
    rw [h] at hx
    simp only [Result.andThen, Sem.run_pure, Result.ok.injEq] at hx
    exact hn d hx.1.symm
  | halt x w1 => rw [h] at hx; simp [Result.andThen] at hx
theorem l_value {v : Value} (wk : Region.wanted o (yielded ops a.tmps) = true) (hx : (execOp a.eval o).run P w = .ok (.value v) w') (K : wpL R P ops Q rest (a.put o.dst v) w') : wpL R P ops Q (o :: rest) a w := by
  cases R with
  | none =>
    show wpList _ _ _ _ _ _
    unfold wpList
    rw [if_pos wk]
    left
    unfold Oper.wp
    rw [hx]
    simp only [Oper.upon]
    exact K
  | some r =>
    show wpListIn _ _ _ _ _ _ _ _
    unfold wpListIn
    rw [if_pos wk]
    refine ⟨fun f _ => fR_fn (some r) f, ?_⟩
    rw [Oper.semAt_eq _ _ _ (nd_of hx (fun d h => by cases h)), hx]
    exact K
theorem l_skip (wk : Region.wanted o (yielded ops a.tmps) = true) (hx : (execOp a.eval o).run P w = .ok .skip w') (K : wpL R P ops Q rest (a.put o.dst undef) w') : wpL R P ops Q (o :: rest) a w := by
  cases R with
  | none =>
    show wpList _ _ _ _ _ _
    unfold wpList
    rw [if_pos wk]
    left
    unfold Oper.wp
    rw [hx]
    simp only [Oper.upon]
    exact K
  | some r =>
    show wpListIn _ _ _ _ _ _ _ _
    unfold wpListIn
    rw [if_pos wk]
    refine ⟨fun f _ => fR_fn (some r) f, ?_⟩
    rw [Oper.semAt_eq _ _ _ (nd_of hx (fun d h => by cases h)), hx]
    exact K
theorem l_pass (wk : Region.wanted o (yielded ops a.tmps) = false) (K : wpL R P ops Q rest (a.put o.dst undef) w) : wpL R P ops Q (o :: rest) a w := by
  cases R with
  | none =>
    show wpList _ _ _ _ _ _
    unfold wpList
    rw [if_neg (by rw [wk]; simp)]
    exact K
  | some r =>
    show wpListIn _ _ _ _ _ _ _ _
    unfold wpListIn
    rw [if_neg (by rw [wk]; simp)]
    exact ⟨fun f _ => fR_fn (some r) f, K⟩
theorem l_enter {f : FuncId} {args : Array Value} {T : Ending → World → Prop} (wk : Region.wanted o (yielded ops a.tmps) = true) (hx : (execOp a.eval o).run P w = .ok (.enter f args) w) (hc : Calls P f args w T) (hr : ∀ e w, T e w → ∃ v, e = .returned v) (K : ∀ v w, T (.returned v) w → wpL R P ops Q rest (a.put o.dst v) w) : wpL R P ops Q (o :: rest) a w := by
  cases R with
  | none =>
    show wpList _ _ _ _ _ _
    unfold wpList
    rw [if_pos wk]
    left
    unfold Oper.wp
    rw [hx]
    refine Calls.mono hc fun e w' hR => ?_
    obtain ⟨v, rfl⟩ := hr e w' hR
    exact K v w' hR
  | some r =>
    show wpListIn _ _ _ _ _ _ _ _
    unfold wpListIn
    rw [if_pos wk]
    refine ⟨fun f _ => fR_fn (some r) f, ?_⟩
    rw [Oper.semAt_eq _ _ _ (nd_of hx (fun d h => by cases h)), hx, Oper.uponIn_enter]
    refine ⟨fR_depth (some r), fR_calls (R := some r) (hc.mono fun e w' hR => ?_)⟩
    obtain ⟨v, rfl⟩ := hr e w' hR
    exact K v w' hR
end
section
variable {ops : Array Oper} {o : Oper} {a : Act} {Df : List Deferred} {N : Nat} {E : Ent}
theorem wk0 (hg : o.guard = none) : Region.wanted o (yielded ops a.tmps) = true := by simp [Region.wanted, hg]
theorem yielded_of (hE : EnvD Df N E a) {j d : Nat} (hj : (ops[j]?).bind (·.dst) = some d) {v : Value} (hl : lk E d = some v) : yielded ops a.tmps j = match v with | .bool b => some b | _ => none := by
  unfold yielded
  rw [hj]
  simp only [Option.bind_some, hE.val d v hl]
  cases v <;> rfl
theorem wk1 (hE : EnvD Df N E a) {j : Nat} {b : Bool} (hg : o.guard = some (j, b)) {d : Nat} (hj : (ops[j]?).bind (·.dst) = some d) {c : Bool} (hl : lk E d = some (.bool c)) (hc : c = b) : Region.wanted o (yielded ops a.tmps) = true := by
  subst hc
  simp [Region.wanted, hg, yielded_of hE hj hl]
theorem wk2 (hE : EnvD Df N E a) {j : Nat} {b : Bool} (hg : o.guard = some (j, b)) {d : Nat} (hj : (ops[j]?).bind (·.dst) = some d) {c : Bool} (hl : lk E d = some (.bool c)) (hc : c = !b) : Region.wanted o (yielded ops a.tmps) = false := by
  subst hc
  simp [Region.wanted, hg, yielded_of hE hj hl]
theorem wk3 (hE : EnvD Df N E a) {j : Nat} {b : Bool} (hg : o.guard = some (j, b)) {d : Nat} (hj : (ops[j]?).bind (·.dst) = some d) (hl : lk E d = some undef) : Region.wanted o (yielded ops a.tmps) = false := by
  have : yielded ops a.tmps j = none := by rw [yielded_of hE hj hl]; rfl
  simp [Region.wanted, hg, this]
end
abbrev Ex (P : Program) (C : World → Prop) (a : Act) (o : Oper) (v : Value) : Prop := ∀ w, C w → (execOp a.eval o).run P w = .ok (.value v) w
section
variable {Rn : Option Nat} {P : Program} {ops : Array Oper} {Q : Exit → Act → World → Prop} {rest : List Oper} {o : Oper} {a : Act} {w : World} {Df : List Deferred} {N : Nat} {E : Ent} {d : Nat} {C : World → Prop}
theorem s_val (wk : Region.wanted o (yielded ops a.tmps) = true) (hd : o.dst = some d) (hN : Nat.blt d N = true) (hE : EnvD Df N E a) (hC : C w) {v : Value} (hx : Ex P C a o v) (K : ∀ a, EnvD Df N ((d, v) :: E) a → wpL Rn P ops Q rest a w) : wpL Rn P ops Q (o :: rest) a w :=
  l_value wk (hx w hC) (by rw [hd]; exact K _ (hE.put hN v))
theorem s_skip (wk : Region.wanted o (yielded ops a.tmps) = false) (hd : o.dst = some d) (hN : Nat.blt d N = true) (hE : EnvD Df N E a) (K : ∀ a, EnvD Df N ((d, undef) :: E) a → wpL Rn P ops Q rest a w) : wpL Rn P ops Q (o :: rest) a w :=
  l_pass wk (by rw [hd]; exact K _ (hE.put hN undef))
theorem s_nil (h : Q .normal a w) : wpL Rn P ops Q [] a w := by cases Rn <;> exact h
theorem q_val {Q : Act → Prop} (wk : Region.wanted o (yielded ops a.tmps) = true) (hd : o.dst = some d) (hN : Nat.blt d N = true) (hE : EnvD Df N E a) {v : Value} (hx : Ex P C a o v) (K : ∀ a, EnvD Df N ((d, v) :: E) a → wpQuiet P ops C Q rest a) : wpQuiet P ops C Q (o :: rest) a := by
  unfold wpQuiet
  rw [if_pos wk]
  refine ⟨v, fun w hw => ?_, ?_⟩
  · unfold Oper.quietAt
    rw [hx w hw]
    exact ⟨rfl, rfl⟩
  · rw [hd]; exact K _ (hE.put hN v)
theorem q_skip {Q : Act → Prop} (wk : Region.wanted o (yielded ops a.tmps) = false) (hd : o.dst = some d) (hN : Nat.blt d N = true) (hE : EnvD Df N E a) (K : ∀ a, EnvD Df N ((d, undef) :: E) a → wpQuiet P ops C Q rest a) : wpQuiet P ops C Q (o :: rest) a := by
  unfold wpQuiet
  rw [if_neg (by rw [wk]; simp), hd]
  exact K _ (hE.put hN undef)
theorem q_nil {Q : Act → Prop} (h : Q a) : wpQuiet P ops C Q [] a := h
theorem wpIn_Q {F : Fence} {n : Nat} {o : Oper} {a : Act} {w : World} {K K' : Act → World → Prop} {Q' : Exit → Act → World → Prop} (h : ∀ a w, K a w → K' a w) (hq : ∀ e a w, e ≠ .normal → Q' e a w → Q e a w)
    (hh : o.wpIn F n P a w K Q') : o.wpIn F n P a w K' Q := by
  unfold Oper.wpIn at *
  refine ⟨hh.1, ?_⟩
  have hh := hh.2
  have hl : LetsOut Q' → LetsOut Q := fun ⟨a, w, h⟩ => ⟨a, w, hq _ _ _ (by simp) h⟩
  generalize (o.semAt F.round a.eval).run P w = r at *
  cases r with
  | ok x w' =>
    cases x <;> simp only [Oper.uponIn] at hh ⊢ <;>
      first
        | exact h _ _ hh
        | exact ⟨hh.1, CallsIn.mono hh.2 (fun e w'' he => by cases e <;> first | exact h _ _ he | exact hq _ _ _ (by simp) he | exact hl he)⟩
        | exact ⟨hh.1, RowsIn.mono hh.2 (fun _ _ he => h _ _ he)⟩
        | exact ⟨hh.1, RoundIn.mono hh.2 (fun e w'' he => by cases e <;> first | exact h _ _ he | exact hq _ _ _ (by simp) he | exact hl he)⟩
  | halt x w' => cases x <;> simp only [Oper.uponIn] at hh ⊢ <;> first | exact hh | exact hq _ _ _ (by simp) hh | exact hl hh
theorem s_cut (l1 : List Oper) {l2 : List Oper} (J : Act → World → Prop) (h : wpL Rn P ops (fun e a w => match e with | .normal => J a w | e => Q e a w) l1 a w) (hk : ∀ a w, J a w → wpL Rn P ops Q l2 a w) : wpL Rn P ops Q (l1 ++ l2) a w := by
  cases Rn with
  | none =>
    change wpList _ _ _ _ _ _ at h
    show wpList _ _ _ _ _ _
    have hk : ∀ a w, J a w → wpList P ops Q l2 a w := hk
    induction l1 generalizing a w with
    | nil => exact hk _ _ h
    | cons o l ih =>
      rw [List.cons_append]
      unfold wpList at h ⊢
      split at h
      · rename_i hw
        rw [if_pos hw]
        rcases h with h | ⟨h1, h2⟩
        · left
          unfold Oper.wp at *
          generalize (execOp a.eval o).run P w = r at *
          cases r with
          | ok n w' =>
            cases n <;> simp only [Oper.upon] at h ⊢
            case value u => exact ih h
            case skip => exact ih h
            case defer => exact ih h
            case enter =>
              refine Calls.mono h fun e w'' he => ?_
              cases e with
              | returned v => exact ih he
              | panicked c => exact he
              | outgrown => obtain ⟨x, y, q⟩ := he; exact ⟨x, y, q⟩
            case row => exact Rows.mono h fun v w'' he => ih he
          | halt x w' => cases x <;> simp only [Oper.upon] at h ⊢ <;> exact h
        · right
          obtain ⟨x, y, q⟩ := h2
          exact ⟨h1, x, y, q⟩
      · rename_i hw
        rw [if_neg hw]
        exact ih h
  | some r =>
    change wpListIn _ _ _ _ _ _ _ _ at h
    show wpListIn _ _ _ _ _ _ _ _
    have hk : ∀ a w, J a w → wpListIn (Fence.wide.inRound r) 0 P ops Q l2 a w := hk
    induction l1 generalizing a w with
    | nil => exact hk _ _ h
    | cons o l ih =>
      rw [List.cons_append]
      unfold wpListIn at h ⊢
      split at h
      · rename_i hw
        rw [if_pos hw]
        exact wpIn_Q (fun a w q => ih q) (fun e a w hne q => by cases e <;> first | exact absurd rfl hne | exact q) h
      · rename_i hw
        rw [if_neg hw]
        exact ⟨h.1, ih h.2⟩
theorem q_cut {Q : Act → Prop} (l1 : List Oper) {l2 : List Oper} (J : Act → Prop) (h : wpQuiet P ops C J l1 a) (hk : ∀ a, J a → wpQuiet P ops C Q l2 a) : wpQuiet P ops C Q (l1 ++ l2) a := by
  induction l1 generalizing a with
  | nil => exact hk _ h
  | cons o l ih =>
    rw [List.cons_append]
    unfold wpQuiet at h ⊢
    split at h
    · rename_i hw
      rw [if_pos hw]
      obtain ⟨v, h1, h2⟩ := h
      exact ⟨v, h1, ih h2⟩
    · rename_i hw
      rw [if_neg hw]
      exact ih h
theorem k_quiet {cs : List Code} {id : Nat} {l : List Oper} {Z : World} {ρ : PH} {L : List Atom} (hm : P.follows .mixedOrders = true) (hB : Region.lexB .any l.toArray = true) (hC : Hp Z ρ L w)
    (h : wpQuiet P l.toArray (Hp Z ρ L) (fun a => ∀ w, Hp Z ρ L w → wpK none P Q cs a w) l a) : wpK none P Q (.region id l.toArray true :: cs) a w :=
  wpIn_wide.2 <| wp_region_quiet (C := Hp Z ρ L) hm hB hC.drew (by
    have e : (fun a => ∀ w, Hp Z ρ L w → wpK none P Q cs a w) = (fun a' => ∀ w', Hp Z ρ L w' → Exit.then (wpK none P Q cs) Q .normal a' w') := rfl
    rw [← e]; simpa using h)
theorem ex_move {x : Operand} (ho : o.op = .move x) (hE : EnvD Df N E a) {v : Value} (hx : evo E x = some v) : Ex P C a o v := fun w _ => by simp [execOp, ho, hE.eval hx]
theorem ex_asn {x : Operand} (ho : o.op = .assign x) (hE : EnvD Df N E a) {v : Value} (hx : evo E x = some v) : Ex P C a o v := fun w _ => by simp [execOp, ho, hE.eval hx]
theorem ex_pick1 {c x y : Operand} (ho : o.op = .pick c x y) (hE : EnvD Df N E a) {b : Bool} (hc : evo E c = some (.bool b)) (hb : b = true) {v : Value} (hx : evo E x = some v) : Ex P C a o v := fun w _ => by
  subst hb; simp [execOp, ho, hE.eval hx, hE.eval hc, asBool]
theorem ex_pick0 {c x y : Operand} (ho : o.op = .pick c x y) (hE : EnvD Df N E a) {b : Bool} (hc : evo E c = some (.bool b)) (hb : b = false) {v : Value} (hx : evo E y = some v) : Ex P C a o v := fun w _ => by
  subst hb; simp [execOp, ho, hE.eval hx, hE.eval hc, asBool]
theorem ex_not {t : TypeId} {x : Operand} (ho : o.op = .unOp .not t x) (hE : EnvD Df N E a) {b : Bool} (hx : evo E x = some (.bool b)) : Ex P C a o (.bool (!b)) := fun w _ => by simp [execOp, ho, hE.eval hx, Op.unary]
theorem ex_neg {t : TypeId} {x : Operand} (ho : o.op = .unOp .neg t x) (hE : EnvD Df N E a) {k : IntKind} {m r : Int} (hx : evo E x = some (.int k m)) (hr : k.wrap (0 - m) = r) : Ex P C a o (.int k r) := fun w _ => by simp [execOp, ho, hE.eval hx, Op.unary, Op.intArith, ← hr]
theorem ex_bin {op : BinOp} {t t' : TypeId} {x y : Operand} (ho : o.op = .binOp op t x y t') (hE : EnvD Df N E a) {p q v : Value} (hx : evo E x = some p) (hy : evo E y = some q) (h : ∀ w, C w → (do eqGuard op t x y p q; binOp op t p q : Sem Value).run P w = .ok v w) : Ex P C a o v := fun w hw => by
  have := h w hw; simp only [execOp, ho, hE.eval hx, hE.eval hy, Sem.run_bind, this]; rfl
theorem ex_lss {t t' : TypeId} {x y : Operand} (ho : o.op = .binOp .lss t x y t') (hE : EnvD Df N E a) {k : IntKind} {m n : Int} (hx : evo E x = some (.int k m)) (hy : evo E y = some (.int k n)) : Ex P C a o (.bool (decide (m < n))) := ex_bin ho hE hx hy fun w _ => by simp [eqGuard, binOp, Op.intCmp]
theorem ex_leq {t t' : TypeId} {x y : Operand} (ho : o.op = .binOp .leq t x y t') (hE : EnvD Df N E a) {k : IntKind} {m n : Int} (hx : evo E x = some (.int k m)) (hy : evo E y = some (.int k n)) : Ex P C a o (.bool (decide (m ≤ n))) := ex_bin ho hE hx hy fun w _ => by simp [eqGuard, binOp, Op.intCmp]
theorem ex_gtr {t t' : TypeId} {x y : Operand} (ho : o.op = .binOp .gtr t x y t') (hE : EnvD Df N E a) {k : IntKind} {m n : Int} (hx : evo E x = some (.int k m)) (hy : evo E y = some (.int k n)) : Ex P C a o (.bool (decide (n < m))) := ex_bin ho hE hx hy fun w _ => by simp [eqGuard, binOp, Op.intCmp]
theorem ex_geq {t t' : TypeId} {x y : Operand} (ho : o.op = .binOp .geq t x y t') (hE : EnvD Df N E a) {k : IntKind} {m n : Int} (hx : evo E x = some (.int k m)) (hy : evo E y = some (.int k n)) : Ex P C a o (.bool (decide (n ≤ m))) := ex_bin ho hE hx hy fun w _ => by simp [eqGuard, binOp, Op.intCmp]
theorem ex_eql {t t' : TypeId} {x y : Operand} (ho : o.op = .binOp .eql t x y t') (hE : EnvD Df N E a) {k : IntKind} {m n : Int} (hx : evo E x = some (.int k m)) (hy : evo E y = some (.int k n)) : Ex P C a o (.bool (decide (m = n))) := ex_bin ho hE hx hy fun w _ => by simp [eqGuard, binOp, Op.intCmp]; by_cases h : m = n <;> simp [h]
theorem ex_neq {t t' : TypeId} {x y : Operand} (ho : o.op = .binOp .neq t x y t') (hE : EnvD Df N E a) {k : IntKind} {m n : Int} (hx : evo E x = some (.int k m)) (hy : evo E y = some (.int k n)) : Ex P C a o (.bool (!decide (m = n))) := ex_bin ho hE hx hy fun w _ => by simp [eqGuard, binOp, Op.intCmp]; by_cases h : m = n <;> simp [h]
theorem ex_add {t t' : TypeId} {x y : Operand} (ho : o.op = .binOp .add t x y t') (hE : EnvD Df N E a) {k : IntKind} {m n r : Int} (hx : evo E x = some (.int k m)) (hy : evo E y = some (.int k n)) (hr : k.wrap (m + n) = r) : Ex P C a o (.int k r) := ex_bin ho hE hx hy fun w _ => by simp [eqGuard, binOp, Op.intArith, ← hr]
theorem ex_sub {t t' : TypeId} {x y : Operand} (ho : o.op = .binOp .sub t x y t') (hE : EnvD Df N E a) {k : IntKind} {m n r : Int} (hx : evo E x = some (.int k m)) (hy : evo E y = some (.int k n)) (hr : k.wrap (m - n) = r) : Ex P C a o (.int k r) := ex_bin ho hE hx hy fun w _ => by simp [eqGuard, binOp, Op.intArith, ← hr]
theorem ex_mul {t t' : TypeId} {x y : Operand} (ho : o.op = .binOp .mul t x y t') (hE : EnvD Df N E a) {k : IntKind} {m n r : Int} (hx : evo E x = some (.int k m)) (hy : evo E y = some (.int k n)) (hr : k.wrap (m * n) = r) : Ex P C a o (.int k r) := ex_bin ho hE hx hy fun w _ => by simp [eqGuard, binOp, Op.intArith, ← hr]
theorem ex_load {t : TypeId} {x : Operand} (ho : o.op = .load t x) (hE : EnvD Df N E a) {p v : Value} (hx : evo E x = some p) (h : ∀ w, C w → (Instr.loadAt t p).run P w = .ok v w) : Ex P C a o v := fun w hw => by simp [execOp, ho, hE.eval hx, h w hw]
theorem ex_field {t : TypeId} {x : Operand} {f : Nat} (ho : o.op = .fieldAddr t x f) (hE : EnvD Df N E a) {p v : Value} (hx : evo E x = some p) (h : ∀ w, (Instr.fieldAt t p f).run P w = .ok v w) : Ex P C a o v := fun w _ => by simp [execOp, ho, hE.eval hx, h w]
theorem ex_index {t : TypeId} {x i : Operand} (ho : o.op = .indexAddr t x i) (hE : EnvD Df N E a) {p q v : Value} (hx : evo E x = some p) (hi : evo E i = some q) (h : ∀ w, (Instr.indexAt t p q).run P w = .ok v w) : Ex P C a o v := fun w _ => by simp [execOp, ho, hE.eval hx, hE.eval hi, h w]
theorem ex_extract {x : Operand} {i : Nat} (ho : o.op = .extract x i) (hE : EnvD Df N E a) {vs : Array Value} {v : Value} (hx : evo E x = some (.tuple vs)) (h : vs[i]? = some v) : Ex P C a o v := fun w _ => by simp [execOp, ho, hE.eval hx, Instr.extract, h]
theorem ex_build {t : TypeId} {parts : Array (Nat × Operand)} (ho : o.op = .build t parts) {v : Value} (h : ∀ w, (Instr.build t (parts.map fun p => (p.1, a.eval p.2))).run P w = .ok v w) : Ex P C a o v := fun w _ => by simp [execOp, ho, h w]
theorem ex_slice {t : TypeId} {x : Operand} {lo hi mx : Option Operand} (ho : o.op = .slice t x lo hi mx) (hE : EnvD Df N E a) {p v : Value} (hx : evo E x = some p) (h : ∀ w, (Instr.sliceAt t p (lo.map a.eval) (hi.map a.eval) (mx.map a.eval)).run P w = .ok v w) : Ex P C a o v := fun w _ => by simp [execOp, ho, hE.eval hx, h w]
theorem ex_b1 {b : Builtin} {t : Array TypeId} {x : Operand} (ho : o.op = .call { callee := .builtin b, args := #[x], argTypes := t }) (hE : EnvD Df N E a) {p v : Value} (hx : evo E x = some p) (h : ∀ w c, C w → (builtin b t o.type c #[p]).run P w = .ok (.value v) w) : Ex P C a o v := fun w hw => by
  have := h w (#[x].map fun | .const _ => true | _ => false) hw
  simp only [execOp, ho, resolve, invoke, Sem.run_bind, Sem.run_pure, Result.andThen_ok, List.map_toArray, List.map_cons, List.map_nil, hE.eval hx] at this ⊢
  exact this
theorem ex_b2 {b : Builtin} {t : Array TypeId} {x y : Operand} (ho : o.op = .call { callee := .builtin b, args := #[x, y], argTypes := t }) (hE : EnvD Df N E a) {p q v : Value} (hx : evo E x = some p) (hy : evo E y = some q) (h : ∀ w c, C w → (builtin b t o.type c #[p, q]).run P w = .ok (.value v) w) : Ex P C a o v := fun w hw => by
  have := h w (#[x, y].map fun | .const _ => true | _ => false) hw
  simp only [execOp, ho, resolve, invoke, Sem.run_bind, Sem.run_pure, Result.andThen_ok, List.map_toArray, List.map_cons, List.map_nil, hE.eval hx, hE.eval hy] at this ⊢
  exact this
theorem ex_len {t : TypeId} {x : Operand} (ho : o.op = .call { callee := .builtin .len, args := #[x], argTypes := #[t] }) (hE : EnvD Df N E a) {p v : Value} (hx : evo E x = some p) (h : ∀ w ty, (Builtin.len_ #[t] ty #[p]).run P w = .ok v w) : Ex P C a o v := ex_b1 ho hE hx fun w c _ => by simp [builtin, h w]
theorem ex_max {t : Array TypeId} {x y : Operand} (ho : o.op = .call { callee := .builtin .max, args := #[x, y], argTypes := t }) (hE : EnvD Df N E a) {k : IntKind} {m n : Int} (hx : evo E x = some (.int k m)) (hy : evo E y = some (.int k n)) : Ex P C a o (.int k (max m n)) := ex_b2 ho hE hx hy fun w c _ => by
  simp [builtin, Builtin.max_, Builtin.max2]; split <;> omega
end
def cellAt (ρ : PH) (b i : Nat) : Option Value := match ρ b with | some (.cells c _ _) => c[i]? | _ => none
theorem cellAt_mono {ρ ρ' : PH} (l : ρ.le ρ') {b i : Nat} {v : Value} (h : cellAt ρ b i = some v) : cellAt ρ' b i = some v := by
  unfold cellAt at *
  cases hb : ρ b with
  | none => rw [hb] at h; cases h
  | some o => rw [hb] at h; rw [l b o hb]; exact h
theorem cell_of {ρ : PH} {w : World} (l : ρ.le (hp w)) {b i : Nat} {v : Value} (h : cellAt ρ b i = some v) : w.cell? ⟨b, i, none⟩ = some v := by
  have := cellAt_mono l h
  unfold cellAt hp at this
  unfold World.cell?
  simp only [Option.isSome_none, Bool.false_eq_true, if_false]
  exact this
def AtP (ρ : PH) (b o : Nat) (cs : List Value) : Prop := ∀ (j : Nat) (u : Value), cs[j]? = some u → cellAt ρ b (o + j) = some u
theorem AtP.mono {ρ ρ' : PH} (l : ρ.le ρ') {b o : Nat} {cs : List Value} (h : AtP ρ b o cs) : AtP ρ' b o cs := fun j u e => cellAt_mono l (h j u e)
theorem AtP.c {ρ : PH} {b o : Nat} {cs : List Value} (h : AtP ρ b o cs) {Z : World} {L : List Atom} (j : Nat) {u : Value} (e : cs[j]? = some u) : ∀ w, Hp Z ρ L w → w.cell? ⟨b, o + j, none⟩ = some u := fun _ hw => cell_of hw.le (h j u e)
theorem Hp.c {Z : World} {ρ : PH} {L : List Atom} {b : Nat} {cs : Array Value} {T : TypeId} {fz : Nat × Nat} (i : Nat) (e : L[i]? = some (Pt b (.cells cs T fz))) (j : Nat) {u : Value} (hu : cs[j]? = some u) : ∀ w, Hp Z ρ L w → w.cell? ⟨b, j, none⟩ = some u := fun w hw => by
  have := hw.look i e
  simp [World.cell?, this, hu]
section
variable {Rn : Option Nat} {P : Program} {ops : Array Oper} {Q : Exit → Act → World → Prop} {rest : List Oper} {o : Oper} {a : Act} {w : World} {Df : List Deferred} {N : Nat} {E : Ent} {d : Nat} {Z : World} {ρ : PH} {L : List Atom}
theorem s_run {v : Value} {w' : World} (wk : Region.wanted o (yielded ops a.tmps) = true) (hd : o.dst = some d) (hN : Nat.blt d N = true) (hE : EnvD Df N E a) (hx : (execOp a.eval o).run P w = .ok (.value v) w') (K : ∀ a, EnvD Df N ((d, v) :: E) a → wpL Rn P ops Q rest a w') : wpL Rn P ops Q (o :: rest) a w :=
  l_value wk hx (by rw [hd]; exact K _ (hE.put hN v))
theorem run_new (T : TypeId) (v : Value) : (newVar T v).run P w = .ok ⟨w.heap.size, 0, none⟩ (w.alloc (.cells v.cells T)) := by
  simp [newVar, go_sem]
theorem s_box (wk : Region.wanted o (yielded ops a.tmps) = true) (hd : o.dst = some d) (hN : Nat.blt d N = true) (hE : EnvD Df N E a) (hp : Hp Z ρ L w) {T : TypeId} {x : Operand} (ho : o.op = .box T x) {v : Value} (hx : evo E x = some v)
    (K : ∀ a w b, EnvD Df N ((d, .pointer (some ⟨b, 0, none⟩)) :: E) a → Hp Z ρ (Pt b (.cells v.cells T) :: L) w → wpL Rn P ops Q rest a w) : wpL Rn P ops Q (o :: rest) a w :=
  s_run wk hd hN hE (v := .pointer (some ⟨w.heap.size, 0, none⟩)) (w' := w.alloc (.cells v.cells T)) (by simp [execOp, ho, hE.eval hx, Instr.box, run_new]) fun a' hE' => K a' _ _ hE' (hp.alloc _)
def evA (E : Ent) : List Operand → List Value → Prop
  | [], [] => True
  | x :: xs, v :: vs => evo E x = some v ∧ evA E xs vs
  | _, _ => False
theorem evA_map (hE : EnvD Df N E a) : ∀ {xs : List Operand} {vs : List Value}, evA E xs vs → xs.map a.eval = vs
  | [], [], _ => rfl
  | x :: xs, v :: vs, h => by rw [List.map_cons, hE.eval h.1, evA_map hE h.2]
  | [], _ :: _, h => h.elim
  | _ :: _, [], h => h.elim
theorem s_call (wk : Region.wanted o (yielded ops a.tmps) = true) (hd : o.dst = some d) (hN : Nat.blt d N = true) (hE : EnvD Df N E a) {f : FuncId} {xs : List Operand} {ts : Array TypeId} (ho : o.op = .call { callee := .value (.func f), args := xs.toArray, argTypes := ts }) (vs : List Value) (hx : evA E xs vs)
    (he : ∀ args w, (callFunc f args).run P w = .ok (.enter f args) w) {R : Ending → World → Prop} (hc : Calls P f vs.toArray w R) (hr : ∀ e w, R e w → ∃ v, e = .returned v)
    (K : ∀ v a w, R (.returned v) w → EnvD Df N ((d, v) :: E) a → wpL Rn P ops Q rest a w) : wpL Rn P ops Q (o :: rest) a w := by
  have hxs : xs.toArray.map a.eval = vs.toArray := by rw [List.map_toArray, evA_map hE hx]
  have hex : (execOp a.eval o).run P w = .ok (.enter f vs.toArray) w := by
    have hf : a.eval (.func f) = .func (.func f) #[] #[] := rfl
    simp only [execOp, ho, resolve, hf, hxs, Deferred.ofValue, invoke, Sem.run_bind, Sem.run_pure, Result.andThen_ok]; simp [he]
  exact l_enter wk hex hc hr (fun v w hR => by rw [hd]; exact K v _ w hR (hE.put hN v))
theorem q_call {Q : Act → Prop} (wk : Region.wanted o (yielded ops a.tmps) = true) (hd : o.dst = some d) (hN : Nat.blt d N = true) (hE : EnvD Df N E a) {f : FuncId} {xs : List Operand} {ts : Array TypeId} (ho : o.op = .call { callee := .value (.func f), args := xs.toArray, argTypes := ts }) (vs : List Value) (hx : evA E xs vs)
    (he : ∀ args w, (callFunc f args).run P w = .ok (.enter f args) w) {v : Value} (hc : ∀ w, Hp Z ρ L w → Calls P f vs.toArray w fun e w' => e = .returned v ∧ Hp Z ρ L w')
    (K : ∀ a, EnvD Df N ((d, v) :: E) a → wpQuiet P ops (Hp Z ρ L) Q rest a) : wpQuiet P ops (Hp Z ρ L) Q (o :: rest) a := by
  have hxs : xs.toArray.map a.eval = vs.toArray := by rw [List.map_toArray, evA_map hE hx]
  unfold wpQuiet
  rw [if_pos wk]
  refine ⟨v, fun w hw => ?_, by rw [hd]; exact K _ (hE.put hN v)⟩
  unfold Oper.quietAt
  have hex : (execOp a.eval o).run P w = .ok (.enter f vs.toArray) w := by
    have hf : a.eval (.func f) = .func (.func f) #[] #[] := rfl
    simp only [execOp, ho, resolve, hf, hxs, Deferred.ofValue, invoke, Sem.run_bind, Sem.run_pure, Result.andThen_ok]; simp [he]
  rw [hex]
  exact ⟨rfl, hc w hw⟩
end
theorem enters {P : Program} {f : FuncId} {fn : Func} {c : Code} (hf : P.funcs[f]? = some fn) (hn : (fn.name == "runtime.NumGoroutine") = false) (hb : fn.body = some c) (args : Array Value) (w : World) : (callFunc f args).run P w = .ok (.enter f args) w := by
  have h1 : ¬ fn.name = "runtime.NumGoroutine" := by simpa using hn
  simp [callFunc, program, Sem.run, bind, Sem.bind, hf, h1, hb, pure]
theorem enter {P : Program} {f : FuncId} {fn : Func} {c : Code} {args : Array Value} {w : World} {R : Ending → World → Prop} {N : Nat} (hf : P.funcs[f]? = some fn) (hb : fn.body = some c) (hN : fn.ntmps = N) (E : Ent) (h1 : Nat.ble args.size N = true) (hE : ∀ p ∈ E, args[p.1]? = some p.2)
    (h : ∀ a, Env N E a → wpK none P (bodyPost P fn R) [c] a w) : Calls P f args w R :=
  calls_of_wp hf hb (by rw [hN]; exact wpIn_wide.1 (k_one (h _ (Env.start N args E (by simpa using h1) hE))))
def argsIn (args : Array Value) : Ent → Prop
  | [] => True
  | p :: r => args[p.1]? = some p.2 ∧ argsIn args r
theorem argsIn_mem {args : Array Value} : ∀ {E : Ent}, argsIn args E → ∀ p ∈ E, args[p.1]? = some p.2
  | [], _, p, h => by simp at h
  | q :: r, ⟨h1, h2⟩, p, h => by
    rcases List.mem_cons.1 h with rfl | h
    · exact h1
    · exact argsIn_mem h2 p h
section
variable {Rn : Option Nat} {P : Program} {fn : Func} {R : Ending → World → Prop} {a : Act} {w : World} {Df : List Deferred} {N : Nat} {E : Ent}
theorem ret1 (hE : Env N E a) {t : Nat} (hr : fn.results = #[.tmp t]) {v : Value} (hv : lk E t = some v) (h : R (.returned v) w) : bodyPost P fn R .ret a w := by
  refine ⟨hE.defers, v, ?_, h⟩
  have := hE.val t v hv
  rw [results_tmp hr]
  simp [Array.getD_eq_getD_getElem?, this]
theorem ret2 (hE : Env N E a) {t u : Nat} (hr : fn.results = #[.tmp t, .tmp u]) {v x : Value} (hv : lk E t = some v) (hx : lk E u = some x) (h : R (.returned (.tuple #[v, x])) w) : bodyPost P fn R .ret a w := by
  refine ⟨hE.defers, _, ?_, h⟩
  have h1 := hE.val t v hv
  have h2 := hE.val u x hx
  simp [results, hr, Array.getD_eq_getD_getElem?, h1, h2]
end
end Go.Proofs.YtfajmelamonolaaGreatDoor

/- What values stand for: elements of a fixed number of cells, slices that are only read, slices that are owned. Plain theorems over any program. -/
set_option linter.unusedVariables false
set_option linter.unusedSimpArgs false
namespace Go.Proofs.YtfajmelamonolaaGreatDoor
open Go.RowKit
class Enc (α : Type) where
  sz : Nat
  enc : α → List Value
  len : ∀ a, (enc a).length = sz
  one : ∀ a v, v ∈ enc a → v.oneCell' = true
  pos : 0 < sz
class Rep (α : Type) where
  sz : Nat
  ok : PH → α → List Value → Prop
  len : ∀ {ρ a cs}, ok ρ a cs → cs.length = sz
  mono : ∀ {ρ ρ' a cs}, ρ.le ρ' → ok ρ a cs → ok ρ' a cs
instance (priority := 100) repEnc {α : Type} [Enc α] : Rep α := ⟨Enc.sz α, fun _ a cs => cs = Enc.enc a, fun h => by rw [h]; exact Enc.len _, fun _ h => h⟩
instance encInt : Enc Int := ⟨1, fun n => [.int .i64 n], fun _ => rfl, fun _ v h => by rw [List.mem_singleton.1 h]; rfl, by decide⟩
instance encBool : Enc Bool := ⟨1, fun b => [.bool b], fun _ => rfl, fun _ v h => by rw [List.mem_singleton.1 h]; rfl, by decide⟩
instance encStr : Enc ByteArray := ⟨1, fun b => [.string b], fun _ => rfl, fun _ v h => by rw [List.mem_singleton.1 h]; rfl, by decide⟩
def idx {α : Type} (l : List α) (i : Int) : Option α := if 0 ≤ i then l[i.toNat]? else none
theorem idx_some {α : Type} {l : List α} {i : Int} {a : α} (h : idx l i = some a) : 0 ≤ i ∧ i < l.length ∧ l[i.toNat]? = some a := by
  unfold idx at h
  split at h
  · have := (List.getElem?_eq_some_iff.1 h).1
    exact ⟨by omega, by omega, h⟩
  · cases h
def RoSl {α : Type} [Rep α] (ρ : PH) (v : Value) (l : List α) : Prop :=
  ∃ A c, v = .slice A l.length c ∧ l.length ≤ c ∧ ∀ i a, l[i]? = some a → ∃ b o cs, A = some ⟨b, o, none⟩ ∧ Rep.ok ρ a cs ∧ AtP ρ b (o + i * Rep.sz α) cs
section
variable {α : Type} [Rep α] {ρ ρ' : PH} {v : Value} {l : List α}
theorem RoSl.mono (h : RoSl ρ v l) (hl : ρ.le ρ') : RoSl ρ' v l := by
  obtain ⟨A, c, h1, h2, h3⟩ := h
  refine ⟨A, c, h1, h2, fun i a hi => ?_⟩
  obtain ⟨b, o, cs, e, h4, h5⟩ := h3 i a hi
  exact ⟨b, o, cs, e, Rep.mono hl h4, h5.mono hl⟩
theorem RoSl.nil (ρ : PH) : RoSl ρ (.slice none 0 0) ([] : List α) := ⟨none, 0, rfl, Nat.le_refl _, fun i a h => by simp at h⟩
theorem RoSl.shape (h : RoSl ρ v l) : ∃ A c, v = .slice A l.length c := by obtain ⟨A, c, h1, _⟩ := h; exact ⟨A, c, h1⟩
end
structure SlTy (P : Program) (T E : TypeId) (sz bytes : Nat) : Prop where
  und : P.underlying T = some (.slice E)
  inf : ∃ i z, P.info? E = some i ∧ i.zero = some z ∧ i.size = sz ∧ i.bytes = bytes ∧ z.cells.size = sz
theorem SlTy.of {P : Program} {T E : TypeId} {sz bytes : Nat} {z : Value} (hu : P.underlying T = some (.slice E)) (hi : (P.info? E).map (fun i => (i.zero, i.size, i.bytes)) = some (some z, sz, bytes)) (hz : z.cells.size = sz) : SlTy P T E sz bytes := by
  refine ⟨hu, ?_⟩
  cases h : P.info? E with
  | none => rw [h] at hi; cases hi
  | some i =>
    rw [h] at hi
    simp only [Option.map_some, Option.some.injEq, Prod.mk.injEq] at hi
    exact ⟨i, z, rfl, hi.1, hi.2.1, hi.2.2, hz⟩
theorem run_index {P : Program} {T E : TypeId} {sz bytes : Nat} (ht : SlTy P T E sz bytes) (b o n c : Nat) {i : Int} (h0 : 0 ≤ i) (h1 : i < n) (w : World) : (Instr.indexAt T (.slice (some ⟨b, o, none⟩) n c) (.int .i64 i)).run P w = .ok (.pointer (some ⟨b, o + i.toNat * sz, none⟩)) w := by
  obtain ⟨j, z, hi, _, hs, _⟩ := ht.inf
  simp [Instr.indexAt, asIntOf, run_underlying ht.und, sizeOf, typeInfo, hi, hs, h0, h1, Addr.add_lit]
section
variable {α : Type} [Rep α] {ρ : PH} {v : Value} {l : List α}
theorem RoSl.at {P : Program} {T E : TypeId} {bytes : Nat} (h : RoSl ρ v l) (ht : SlTy P T E (Rep.sz α) bytes) {i : Int} {a : α} (hi : idx l i = some a) :
    ∃ b o cs, (∀ w, (Instr.indexAt T v (.int .i64 i)).run P w = .ok (.pointer (some ⟨b, o, none⟩)) w) ∧ Rep.ok ρ a cs ∧ AtP ρ b o cs := by
  obtain ⟨A, c, rfl, h2, h3⟩ := h
  obtain ⟨i0, i1, i2⟩ := idx_some hi
  obtain ⟨b, o, cs, rfl, h4, h5⟩ := h3 _ a i2
  exact ⟨b, _, cs, fun w => run_index ht b o _ c i0 i1 w, h4, h5⟩
theorem run_len {P : Program} {T E : TypeId} {sz bytes : Nat} (ht : SlTy P T E sz bytes) (A : Option Addr) (n c : Nat) (w : World) (ty : TypeId) : (Builtin.len_ #[T] ty #[.slice A n c]).run P w = .ok (.int .i64 n) w := by
  simp [Builtin.len_, run_underlying ht.und, goInt]
theorem RoSl.len {P : Program} {T E : TypeId} {sz bytes : Nat} (h : RoSl ρ v l) (ht : SlTy P T E sz bytes) (w : World) (ty : TypeId) : (Builtin.len_ #[T] ty #[v]).run P w = .ok (.int .i64 l.length) w := by
  obtain ⟨A, c, rfl, _⟩ := h
  exact run_len ht A _ c w ty
end
def flat {α : Type} [Enc α] (l : List α) : List Value := l.flatMap Enc.enc
section
variable {α : Type} [Enc α]
theorem flat_app (l m : List α) : flat (l ++ m) = flat l ++ flat m := by simp [flat]
theorem flat_cons (a : α) (l : List α) : flat (a :: l) = Enc.enc a ++ flat l := by simp [flat]
theorem flat_len : ∀ l : List α, (flat l).length = l.length * Enc.sz α
  | [] => by simp [flat]
  | a :: l => by
    rw [flat_cons, List.length_append, flat_len l, Enc.len, List.length_cons, Nat.add_mul]; omega
theorem flat_get : ∀ (l : List α) (i j : Nat) (a : α), l[i]? = some a → j < Enc.sz α → (flat l)[i * Enc.sz α + j]? = (Enc.enc a)[j]?
  | a :: l, 0, j, b, h, hj => by
    simp only [List.getElem?_cons_zero, Option.some.injEq] at h
    subst h
    rw [flat_cons, Nat.zero_mul, Nat.zero_add, List.getElem?_append_left (by rw [Enc.len]; exact hj)]
  | a :: l, i + 1, j, b, h, hj => by
    simp only [List.getElem?_cons_succ] at h
    have := flat_get l i j b h hj
    rw [flat_cons, List.getElem?_append_right (by rw [Enc.len, Nat.add_mul]; omega), Enc.len, show (i + 1) * Enc.sz α + j - Enc.sz α = i * Enc.sz α + j from by rw [Nat.add_mul]; omega]
    exact this
theorem flat_one (l : List α) : ∀ v ∈ flat l, v.oneCell' = true := fun v hv => by
  obtain ⟨a, _, h⟩ := List.mem_flatMap.1 hv
  exact Enc.one a v h
theorem flat_set : ∀ (l : List α) (i : Nat) (a b : α) (j : Nat) (u : Value), l[i]? = some a → (Enc.enc a).set j u = Enc.enc b → j < Enc.sz α → (flat l).set (i * Enc.sz α + j) u = flat (l.set i b)
  | a :: l, 0, a', b, j, u, h, he, hj => by
    simp only [List.getElem?_cons_zero, Option.some.injEq] at h
    subst h
    rw [flat_cons, Nat.zero_mul, Nat.zero_add, List.set_cons_zero, flat_cons, List.set_append, if_pos (by rw [Enc.len]; exact hj), he]
  | a :: l, i + 1, a', b, j, u, h, he, hj => by
    simp only [List.getElem?_cons_succ] at h
    rw [flat_cons, List.set_cons_succ, flat_cons, List.set_append, if_neg (by rw [Enc.len, Nat.add_mul]; omega), Enc.len, show (i + 1) * Enc.sz α + j - Enc.sz α = i * Enc.sz α + j from by rw [Nat.add_mul]; omega]
    rw [flat_set l i a' b j u h he hj]
end
def Row (T : TypeId) (sz : Nat) (v : Value) (n : Nat) (xs : List Value) : Atom := fun k =>
  xs.length = n * sz ∧ ((∃ A, v = .slice A 0 0 ∧ n = 0) ∨
   ∃ g off cap cur, v = .slice (some ⟨g, off, none⟩) n cap ∧ k = PH.one g (.cells cur T (0, 0)) ∧ n ≤ cap ∧ cap ≤ maxLen ∧ cur.size = off + cap * sz ∧ (cur.toList.drop off).take (n * sz) = xs)
def OwnSl {α : Type} [Enc α] (T : TypeId) (v : Value) (l : List α) : Atom := Row T (Enc.sz α) v l.length (flat l)
section
variable {Z : World} {ρ : PH} {L : List Atom} {w : World} {T : TypeId} {sz : Nat} {v : Value} {n : Nat} {xs : List Value}
theorem Row.nil (T : TypeId) (sz : Nat) (A : Option Addr) : Row T sz (.slice A 0 0) 0 [] PH.emp := ⟨by simp, Or.inl ⟨A, rfl, rfl⟩⟩
theorem OwnSl.nilA {α : Type} [Enc α] (T : TypeId) (A : Option Addr) : OwnSl T (.slice A 0 0) ([] : List α) PH.emp := Row.nil T _ A
theorem OwnSl.nil {α : Type} [Enc α] (T : TypeId) : OwnSl T (.slice none 0 0) ([] : List α) PH.emp := OwnSl.nilA T none
theorem Hp.emp {A : Atom} (h : Hp Z ρ L w) (a : A PH.emp) : Hp Z ρ (A :: L) w :=
  h.to fun s => ⟨PH.emp, a, PH.dj_emp ρ, by
    have : ρ.un PH.emp = ρ := by funext b; unfold PH.un PH.emp; cases ρ b <;> rfl
    rw [this]; exact s⟩
theorem Hp.imp {A B : Atom} (h : Hp Z ρ (A :: L) w) (hi : ∀ k, A k → B k) : Hp Z ρ (B :: L) w := h.to fun s => s.imp hi
theorem Hp.row (h : Hp Z ρ (Row T sz v n xs :: L) w) : xs.length = n * sz ∧ ((∃ A, v = .slice A 0 0 ∧ n = 0) ∨
    ∃ g off cap cur, v = .slice (some ⟨g, off, none⟩) n cap ∧ Hp Z ρ (Pt g (.cells cur T (0, 0)) :: L) w ∧ n ≤ cap ∧ cap ≤ maxLen ∧ cur.size = off + cap * sz ∧ (cur.toList.drop off).take (n * sz) = xs) := by
  obtain ⟨k, ⟨h1, h2⟩, d, hs⟩ := h.lend
  refine ⟨h1, ?_⟩
  rcases h2 with ⟨A, rfl, rfl⟩ | ⟨g, off, cap, cur, rfl, rfl, r⟩
  · exact Or.inl ⟨A, rfl, rfl⟩
  · exact Or.inr ⟨g, off, cap, cur, rfl, Hp.back rfl d hs, r⟩
theorem Hp.shutO {g off cap : Nat} {cur : Array Value} (h : Hp Z ρ (Pt g (.cells cur T (0, 0)) :: L) w) (h1 : n ≤ cap) (h2 : cap ≤ maxLen) (h3 : cur.size = off + cap * sz) (h4 : (cur.toList.drop off).take (n * sz) = xs) : Hp Z ρ (Row T sz (.slice (some ⟨g, off, none⟩) n cap) n xs :: L) w :=
  h.imp fun k hk => ⟨by
    rw [← h4, List.length_take, List.length_drop, Array.length_toList, h3, Nat.add_sub_cancel_left]
    exact Nat.min_eq_left (Nat.mul_le_mul_right _ h1), Or.inr ⟨g, off, cap, cur, rfl, hk, h1, h2, h3, h4⟩⟩
theorem Hp.shut {g cap : Nat} {cur : Array Value} (h : Hp Z ρ (Pt g (.cells cur T (0, 0)) :: L) w) (h1 : n ≤ cap) (h2 : cap ≤ maxLen) (h3 : cur.size = cap * sz) (h4 : cur.toList.take (n * sz) = xs) : Hp Z ρ (Row T sz (.slice (some ⟨g, 0, none⟩) n cap) n xs :: L) w :=
  h.shutO h1 h2 (by rw [h3, Nat.zero_add]) (by rw [List.drop_zero]; exact h4)
theorem Hp.set {b : Nat} {o o' : Obj} {w' : World} (h : Hp Z ρ (Pt b o :: L) w) (ho : w'.os = w.os) (ht : w'.tape = w.tape) (hu : w'.output = w.output) (hb : w'.heap[b]? = some o') (hr : ∀ k, k ≠ b → w'.heap[k]? = w.heap[k]?) : Hp Z ρ (Pt b o' :: L) w' := by
  refine h.with_ ho ht hu (h.sep.write fun k hk _ => ?_)
  have hk' : k = PH.one b o := hk
  subst hk'
  refine ⟨PH.one b o', rfl, PH.one_le hb, fun c u e => ?_, fun c hc => Or.inl ?_⟩
  · unfold PH.minus PH.one at e
    by_cases hcb : c = b
    · simp [hcb] at e
    · simp [hcb] at e
      show w'.heap[c]? = some u
      rw [hr c hcb]; exact e
  · unfold PH.one at hc ⊢
    by_cases hcb : c = b
    · simp [hcb]
    · simp [hcb] at hc
theorem Hp.new {o : Obj} {w' : World} {A : Atom} (h : Hp Z ρ (A :: L) w) (ho : w'.os = w.os) (ht : w'.tape = w.tape) (hu : w'.output = w.output) (hh : w'.heap = w.heap.push o) : Hp Z ρ (Pt w.heap.size o :: L) w' := by
  have := h.drop.alloc o
  exact ⟨ho.trans h.os, ht.trans h.tape, hu.trans h.output, by
    have e : hp w' = hp (w.alloc o) := by funext b; show w'.heap[b]? = (w.heap.push o)[b]?; rw [hh]
    rw [e]; exact this.sep⟩
theorem run_app {P : Program} {t E : TypeId} {bytes : Nat} (ht : SlTy P t E sz bytes) (hsz : 0 < sz) (ty : TypeId) (hp : Hp Z ρ (Row E sz v n xs :: L) w) (ad : Addr) (m c : Nat) (news : List Value) (hl : news.length = m * sz) (hnews : ∀ j u, news[j]? = some u → w.cell? (ad.add j) = some u) (h1 : ∀ u ∈ news, u.oneCell' = true)
    (h63 : n + m ≤ maxLen) (hbytes : (n + m) * bytes ≤ 140737488355328) :
    ∃ v' w', (Builtin.append_ #[t, t] ty #[v, .slice (some ad) m c]).run P w = .ok v' w' ∧ Hp Z ρ (Row E sz v' (n + m) (xs ++ news) :: L) w' := by
  obtain ⟨i, z, hi, hz, hsize, hby, hzs⟩ := ht.inf
  subst hsize
  subst hby
  obtain ⟨hxl, hown⟩ := hp.row
  have hlen : (xs ++ news).length = (n + m) * i.size := by rw [List.length_append, hxl, hl, Nat.add_mul]
  have grown : ∀ (old : Nat), old < n + m →
      Hp Z ρ (Row E i.size (.slice (some ⟨w.heap.size, 0, none⟩) (n + m) (grownCap w (n + m) old E)) (n + m) (xs ++ news) :: L) (w.drew.alloc (.cells (xs.toArray ++ news.toArray ++ Builtin.zeroCells z.cells (grownCap w (n + m) old E - (n + m))) E)) := by
    intro old ho
    have hge := grownCap_ge w (n + m) old E
    have hcm : grownCap w (n + m) old E ≤ maxLen := grownCap_le_maxLen w (n + m) old E h63
    refine (hp.drop.drew.alloc _).shut hge hcm ?_ ?_
    · simp only [Array.size_append, List.size_toArray, size_zeroCells, hzs, hxl, hl, ← Nat.add_mul]
      congr 1
      omega
    · simp only [Array.toList_append, List.append_assoc]
      rw [← List.append_assoc, ← hlen]
      exact List.take_left
  rcases hown with ⟨A, rfl, rfl⟩ | ⟨g, off, cap, cur, rfl, hpt, hnc, hcm, hcs, htake⟩
  · have hx : xs = [] := List.eq_nil_of_length_eq_zero (by simpa using hxl)
    subst hx
    by_cases hm : m = 0
    · subst hm
      have hn : news = [] := List.eq_nil_of_length_eq_zero (by simpa using hl)
      subst hn
      refine ⟨.slice A 0 0, w, ?_, hp⟩
      cases A <;> simp [Builtin.append_, run_underlying ht.und, sizeOf, typeInfo, hi, Builtin.lenOf, Builtin.firstCells, loadCells, loadCellsFrom, storeCells]
    · cases A with
      | some ab =>
        have hr := run_append_grow (P := P) w t ty E i z ht.und hi hz ab 0 0 [] (by simp) (fun j u hu => by simp at hu) ad m c news hl hnews (by omega) (by simp only [maxLen] at h63; omega) (growslice_fits (by omega) (by simpa using hbytes))
        have hgr := grown 0 (by omega)
        simp only [Nat.zero_add, List.nil_append, Array.empty_append] at hgr hr ⊢
        exact ⟨_, _, hr, hgr⟩
      | none =>
      have hr := run_append_nil (P := P) w t ty E i z ht.und hi hz ad m c news hl hnews (by omega) (by simp only [maxLen] at h63; omega) (by have hb := hbytes; simp only [Nat.zero_add] at hb; omega)
      have hgr := grown 0 (by omega)
      simp only [Nat.zero_add, List.nil_append, Array.empty_append] at hgr ⊢
      exact ⟨_, _, hr, hgr⟩
  · have hg := hpt.look 0 rfl
    by_cases hroom : n + m ≤ cap
    · have hfit : off + n * i.size + news.length ≤ cur.size := by
        have := Nat.mul_le_mul_right i.size hroom
        rw [hl, hcs, Nat.add_assoc, ← Nat.add_mul]; omega
      have hf := run_firstCells_some (P := P) w i.size m ad m c news hl hnews
      have hst := run_storeCells_at P g (off + n * i.size) E news 0 cur w hg (by simpa using hfit) h1
      simp only [Nat.add_zero] at hst
      have hr : (Builtin.append_ #[t, t] ty #[.slice (some ⟨g, off, none⟩) n cap, .slice (some ad) m c]).run P w =
          .ok (.slice (some ⟨g, off, none⟩) (n + m) cap) (w.setRow g (cur.toList.take (off + n * i.size) ++ news ++ cur.toList.drop (off + n * i.size + news.length)).toArray) := by
        simp [Builtin.append_, run_underlying ht.und, sizeOf, typeInfo, hi, Builtin.lenOf, hroom, hf, Addr.add_lit, hst]
      refine ⟨_, _, hr, (Hp.set (w' := w.setRow g _) hpt rfl rfl rfl (setRow_heap w g cur _ E _ hg) (fun k hk => setRow_other w g k _ hk)).shutO hroom hcm ?_ ?_⟩
      · simp only [List.size_toArray, List.length_append, List.length_take, List.length_drop, Array.length_toList]
        omega
      · have e1 : (cur.toList.take (off + n * i.size)).length = off + n * i.size := by rw [List.length_take, Array.length_toList]; omega
        have e2 : (cur.toList.take (off + n * i.size)).drop off = xs := by
          rw [← htake, List.drop_take, Nat.add_sub_cancel_left]
        show List.take ((n + m) * i.size) (List.drop off (cur.toList.take (off + n * i.size) ++ news ++ cur.toList.drop (off + n * i.size + news.length))) = xs ++ news
        rw [List.append_assoc, List.drop_append_of_le_length (by omega), e2, ← List.append_assoc, ← hlen]
        exact List.take_left
    · have holds : ∀ j u, xs[j]? = some u → w.cell? ((⟨g, off, none⟩ : Addr).add j) = some u := by
        intro j u hu
        rw [Addr.add_lit, cell_of_row w g _ cur E (0, 0) hg]
        rw [← htake, List.getElem?_take] at hu
        split at hu
        · rw [List.getElem?_drop] at hu
          simpa using hu
        · cases hu
      have hr := run_append_grow (P := P) w t ty E i z ht.und hi hz ⟨g, off, none⟩ n cap xs hxl holds ad m c news hl hnews (by omega) (by simp only [maxLen] at h63; omega) (growslice_fits (by omega) hbytes)
      exact ⟨_, _, hr, grown cap (by omega)⟩
end
end Go.Proofs.YtfajmelamonolaaGreatDoor

/- Steps that make or turn what is owned. Plain theorems over any program. -/
set_option linter.unusedVariables false
set_option linter.unusedSimpArgs false
namespace Go.Proofs.YtfajmelamonolaaGreatDoor
open Go.RowKit
def app {α : Type} (l m : List α) : Option (List α) := if l.length + m.length ≤ 4294967296 then some (l ++ m) else none
theorem app_some {α : Type} {l m r : List α} (h : app l m = some r) : l.length + m.length ≤ 4294967296 ∧ r = l ++ m := by
  unfold app at h
  split at h
  · exact ⟨‹_›, (Option.some.inj h).symm⟩
  · cases h
def mk {α : Type} (n : Int) (z : α) : Option (List α) := if 0 ≤ n ∧ n ≤ 4294967296 then some (List.replicate n.toNat z) else none
def sub {α : Type} (l : List α) (i j : Int) : Option (List α) := if 0 ≤ i ∧ i ≤ j ∧ j ≤ l.length then some ((l.take j.toNat).drop i.toNat) else none
theorem sub_some {α : Type} {l r : List α} {i j : Int} (h : sub l i j = some r) : 0 ≤ i ∧ i ≤ j ∧ j ≤ l.length ∧ r = (l.take j.toNat).drop i.toNat := by
  unfold sub at h
  split at h
  · rename_i hh; exact ⟨hh.1, hh.2.1, hh.2.2, (Option.some.inj h).symm⟩
  · cases h
def inK (k : IntKind) (n : Int) : Option Int := if k.wrap n = n then some n else none
theorem inK_some {k : IntKind} {n r : Int} (h : inK k n = some r) : k.wrap n = r := by
  unfold inK at h
  split at h
  · rename_i hh; rw [hh]; exact Option.some.inj h
  · cases h
theorem inK_ok (n : Int) (h1 : -9223372036854775808 ≤ n) (h2 : n ≤ 9223372036854775807) : inK .i64 n = some n := by
  unfold inK
  rw [if_pos (by rw [IntKind.wrap_i64]; omega)]
section
variable {Rn : Option Nat} {P : Program} {ops : Array Oper} {Q : Exit → Act → World → Prop} {rest : List Oper} {o : Oper} {a : Act} {w : World} {Df : List Deferred} {N : Nat} {E : Ent} {d : Nat} {Z : World} {ρ : PH} {L : List Atom}
def evP (E : Ent) : List (Nat × Operand) → List (Nat × Value) → Prop
  | [], [] => True
  | x :: xs, v :: vs => (x.1 = v.1 ∧ evo E x.2 = some v.2) ∧ evP E xs vs
  | _, _ => False
theorem evP_map (hE : EnvD Df N E a) : ∀ {xs : List (Nat × Operand)} {vs : List (Nat × Value)}, evP E xs vs → xs.map (fun p => (p.1, a.eval p.2)) = vs
  | [], [], _ => rfl
  | x :: xs, v :: vs, h => by rw [List.map_cons, hE.eval h.1.2, h.1.1, evP_map hE h.2]
  | [], _ :: _, h => h.elim
  | _ :: _, [], h => h.elim
theorem s_lit (wk : Region.wanted o (yielded ops a.tmps) = true) (hd : o.dst = some d) (hN : Nat.blt d N = true) (hE : EnvD Df N E a) (hp : Hp Z ρ L w) {T : TypeId} {n : Nat} {ps : List (Nat × Operand)} (ho : o.op = .buildSlice T n ps.toArray) (vs : List (Nat × Value)) (hx : evP E ps vs)
    (cs : List Value) (El : TypeId) (hr : ∀ w, (Instr.buildSlice T n vs.toArray).run P w = .ok (.slice (some ⟨w.heap.size, 0, none⟩) n n) (w.alloc (.cells cs.toArray El)))
    (K : ∀ a w b, EnvD Df N ((d, .slice (some ⟨b, 0, none⟩) n n) :: E) a → Hp Z ρ (Pt b (.cells cs.toArray El (0, 0)) :: L) w → wpL Rn P ops Q rest a w) : wpL Rn P ops Q (o :: rest) a w := by
  have hps : ps.toArray.map (fun p => (p.1, a.eval p.2)) = vs.toArray := by rw [List.map_toArray, evP_map hE hx]
  refine s_run wk hd hN hE (v := .slice (some ⟨w.heap.size, 0, none⟩) n n) (w' := w.alloc (.cells cs.toArray El)) ?_ fun a' hE' => K a' _ _ hE' (hp.alloc _)
  simp only [execOp, ho, hps, Sem.run_bind, hr w]
  rfl
theorem ex_bld {C : World → Prop} {t : TypeId} {ps : List (Nat × Operand)} (ho : o.op = .build t ps.toArray) (hE : EnvD Df N E a) (vs : List (Nat × Value)) (hx : evP E ps vs) {v : Value} (h : ∀ w, (Instr.build t vs.toArray).run P w = .ok v w) : Ex P C a o v :=
  ex_build ho fun w => by rw [List.map_toArray, evP_map hE hx]; exact h w
theorem s_new (wk : Region.wanted o (yielded ops a.tmps) = true) (hd : o.dst = some d) (hN : Nat.blt d N = true) (hE : EnvD Df N E a) (hp : Hp Z ρ L w) {T : TypeId} (ho : o.op = .alloc T) (cs : List Value) (hr : ∀ w, (Instr.alloc T true (.tuple #[])).run P w = .ok (.pointer (some ⟨w.heap.size, 0, none⟩)) (w.alloc (.cells cs.toArray T)))
    (K : ∀ a w b, EnvD Df N ((d, .pointer (some ⟨b, 0, none⟩)) :: E) a → Hp Z ρ (Pt b (.cells cs.toArray T (0, 0)) :: L) w → wpL Rn P ops Q rest a w) : wpL Rn P ops Q (o :: rest) a w := by
  refine s_run wk hd hN hE (v := .pointer (some ⟨w.heap.size, 0, none⟩)) (w' := w.alloc (.cells cs.toArray T)) ?_ fun a' hE' => K a' _ _ hE' (hp.alloc _)
  simp only [execOp, ho, Sem.run_bind, hr w]
  rfl
theorem OwnSl.len {α : Type} [Enc α] {T El : TypeId} {sz bytes : Nat} {v : Value} {l : List α} (hp : Hp Z ρ L w) (k : Nat) (hk : L[k]? = some (OwnSl El v l)) (ht : SlTy P T El sz bytes) (w : World) (ty : TypeId) : (Builtin.len_ #[T] ty #[v]).run P w = .ok (.int .i64 l.length) w := by
  rcases (hp.get k hk).row.2 with ⟨A, rfl, hn⟩ | ⟨g, off, cap, cur, rfl, _, _⟩
  · rw [hn]; exact run_len ht A 0 0 w ty
  · exact run_len ht _ _ cap w ty
theorem Hp.drop2 {A B : Atom} (h : Hp Z ρ (A :: B :: L) w) : Hp Z ρ (A :: L) w := h.to fun s => Sep.cons_mono (fun _ _ s => s.drop) s
theorem own_of_pt {α : Type} [Enc α] {b : Nat} {El : TypeId} {l : List α} {n : Nat} (hn : l.length = n) (hl : n ≤ maxLen) {cs : Array Value} (hc : cs = (flat l).toArray) : ∀ k, Pt b (.cells cs El) k → OwnSl El (.slice (some ⟨b, 0, none⟩) n n) l k := fun k hk => by
  subst hn
  refine ⟨flat_len l, Or.inr ⟨b, 0, l.length, cs, rfl, hk, Nat.le_refl _, hl, ?_, ?_⟩⟩
  · rw [hc, List.size_toArray, flat_len, Nat.zero_add]
  · rw [hc, List.toList_toArray, List.drop_zero, List.take_of_length_le (by rw [flat_len]; exact Nat.le_refl _)]
theorem set_get {A _B : Atom} {i : Nat} (h : L[i]? = some A) : (L.eraseIdx i).length + 1 = L.length ∧ i < L.length := by
  have hl := (List.getElem?_eq_some_iff.1 h).1
  exact ⟨by rw [List.length_eraseIdx_of_lt hl]; omega, hl⟩
theorem s_app {α : Type} [Enc α] (wk : Region.wanted o (yielded ops a.tmps) = true) (hd : o.dst = some d) (hN : Nat.blt d N = true) (hE : EnvD Df N E a) (hp : Hp Z ρ L w) {x y : Operand} {t : TypeId} (ho : o.op = .call { callee := .builtin .append, args := #[x, y], argTypes := #[t, t] }) {El : TypeId} {bytes : Nat} (ht : SlTy P t El (Enc.sz α) bytes) (hby : Nat.ble bytes 16384 = true)
    {v : Value} (hx : evo E x = some v) (i : Nat) {l : List α} (hi : L[i]? = some (OwnSl El v l)) {b off m c : Nat} (hy : evo E y = some (.slice (some ⟨b, off, none⟩) m c)) {l2 r : List α} (hm : l2.length = m) (hn : ∀ j u, (flat l2)[j]? = some u → w.cell? ⟨b, off + j, none⟩ = some u) (hr : app l l2 = some r)
    (K : ∀ v' a w, EnvD Df N ((d, v') :: E) a → Hp Z ρ (L.set i (OwnSl El v' r)) w → wpL Rn P ops Q rest a w) : wpL Rn P ops Q (o :: rest) a w := by
  obtain ⟨hlen, rfl⟩ := app_some hr
  have hby' : bytes ≤ 16384 := by simpa using hby
  have hb2 : (l.length + m) * bytes ≤ 4294967296 * 16384 := Nat.mul_le_mul (by omega) hby'
  obtain ⟨v', w', hrun, hp'⟩ := run_app (P := P) ht Enc.pos o.type (hp.get i hi) ⟨b, off, none⟩ m c (flat l2) (by rw [flat_len, hm]) (fun j u hj => by rw [Addr.add_lit]; exact hn j u hj) (flat_one l2) (by unfold maxLen; omega) (by omega)
  refine s_run wk hd hN hE (v := v') (w' := w') ?_ fun a' hE' => K v' a' w' hE' ?_
  · simp only [execOp, ho, resolve, invoke, builtin, Sem.run_bind, Sem.run_pure, Result.andThen_ok, List.map_toArray, List.map_cons, List.map_nil, hE.eval hx, hE.eval hy, hrun]
  · refine Hp.put i (set_get (A := OwnSl El v l) (_B := OwnSl El v l) hi).2 ?_
    unfold OwnSl
    rw [flat_app, List.length_append, hm]
    exact hp'
theorem run_appN {P : Program} {t E : TypeId} {bytes sz : Nat} (ht : SlTy P t E sz bytes) (ty : TypeId) {v : Value} {n : Nat} {xs : List Value} (hp : Hp Z ρ (Row E sz v n xs :: L) w) (c : Nat) :
    (Builtin.append_ #[t, t] ty #[v, .slice none 0 c]).run P w = .ok v w := by
  obtain ⟨i, z, hi, hz, hsize, hby, hzs⟩ := ht.inf
  rcases hp.row.2 with ⟨A, rfl, rfl⟩ | ⟨g, off, cap, cur, rfl, _, hnc, _⟩
  · cases A <;> simp [storeCells, Builtin.append_, run_underlying ht.und, sizeOf, typeInfo, hi, Builtin.lenOf, Builtin.firstCells]
  · simp [Builtin.append_, run_underlying ht.und, sizeOf, typeInfo, hi, Builtin.lenOf, Builtin.firstCells, hnc, storeCells]
theorem s_apps {α : Type} [Enc α] (wk : Region.wanted o (yielded ops a.tmps) = true) (hd : o.dst = some d) (hN : Nat.blt d N = true) (hE : EnvD Df N E a) (hp : Hp Z ρ L w) {x y : Operand} {t : TypeId} (ho : o.op = .call { callee := .builtin .append, args := #[x, y], argTypes := #[t, t] }) {El : TypeId} {bytes : Nat} (ht : SlTy P t El (Enc.sz α) bytes) (hby : Nat.ble bytes 16384 = true)
    {v : Value} (hx : evo E x = some v) (i : Nat) {l : List α} (hi : L[i]? = some (OwnSl El v l)) {v2 : Value} (hy : evo E y = some v2) {l2 r : List α} (hs : RoSl ρ v2 l2) (hr : app l l2 = some r)
    (K : ∀ v' a w, EnvD Df N ((d, v') :: E) a → Hp Z ρ (L.set i (OwnSl El v' r)) w → wpL Rn P ops Q rest a w) : wpL Rn P ops Q (o :: rest) a w := by
  obtain ⟨A, c, rfl, _, hh⟩ := hs
  cases A with
  | some ad =>
    rcases Nat.eq_zero_or_pos l2.length with h0 | h0
    · obtain ⟨b, off, sp⟩ := ad
      have hnil := List.eq_nil_of_length_eq_zero h0
      subst hnil
      obtain ⟨hlen, rfl⟩ := app_some hr
      have hby' : bytes ≤ 16384 := by simpa using hby
      have hb2 : (l.length + 0) * bytes ≤ 4294967296 * 16384 := Nat.mul_le_mul (by simp at hlen; omega) hby'
      obtain ⟨v', w', hrun, hp'⟩ := run_app (P := P) ht Enc.pos o.type (hp.get i hi) ⟨b, off, sp⟩ 0 c [] (by simp) (fun j u hj => by simp at hj) (fun u hu => by simp at hu) (by unfold maxLen; simp at hlen; omega) (by omega)
      refine s_run wk hd hN hE (v := v') (w' := w') ?_ fun a' hE' => K v' a' w' hE' ?_
      · simp only [execOp, ho, resolve, invoke, builtin, Sem.run_bind, Sem.run_pure, Result.andThen_ok, List.map_toArray, List.map_cons, List.map_nil, hE.eval hx, hE.eval hy]
        simp only [List.length_nil, hrun]
        rfl
      · refine Hp.put i (set_get (A := OwnSl El v l) (_B := OwnSl El v l) hi).2 ?_
        unfold OwnSl
        simpa using hp'
    · obtain ⟨b, off, cs, e1, _, _⟩ := hh 0 l2[0] (List.getElem?_eq_getElem h0)
      simp only [Option.some.injEq] at e1
      subst e1
      refine s_app wk hd hN hE hp ho ht hby hx i hi hy rfl (fun j u hj => ?_) hr K
      have hjl : j < l2.length * Enc.sz α := by rw [← flat_len]; exact (List.getElem?_eq_some_iff.1 hj).1
      have hz : 0 < Enc.sz α := Enc.pos
      have hi' : j / Enc.sz α < l2.length := Nat.div_lt_of_lt_mul (by rw [Nat.mul_comm]; exact hjl)
      have he : j = j / Enc.sz α * Enc.sz α + j % Enc.sz α := by rw [Nat.mul_comm]; exact (Nat.div_add_mod j _).symm
      have hm : j % Enc.sz α < Enc.sz α := Nat.mod_lt _ hz
      obtain ⟨b2, o2, cs2, e2, h4, h5⟩ := hh (j / Enc.sz α) l2[j / Enc.sz α] (List.getElem?_eq_getElem hi')
      simp only [Option.some.injEq, Addr.mk.injEq, and_true] at e2
      obtain ⟨rfl, rfl⟩ := e2
      have h4' : cs2 = Enc.enc l2[j / Enc.sz α] := h4
      subst h4'
      rw [he, flat_get l2 _ _ _ (List.getElem?_eq_getElem hi') hm] at hj
      have := cell_of hp.le (h5 _ u hj)
      have e3 : off + j / Enc.sz α * Rep.sz α + j % Enc.sz α = off + j := by
        show off + j / Enc.sz α * Enc.sz α + j % Enc.sz α = off + j
        omega
      rw [e3] at this
      exact this
  | none =>
    have hnil : l2 = [] := by
      rcases Nat.eq_zero_or_pos l2.length with h0 | h0
      · exact List.eq_nil_of_length_eq_zero h0
      · obtain ⟨b, off, cs, e1, _, _⟩ := hh 0 l2[0] (List.getElem?_eq_getElem h0)
        cases e1
    subst hnil
    obtain ⟨hlen, rfl⟩ := app_some hr
    refine s_run wk hd hN hE (v := v) (w' := w) ?_ fun a' hE' => K v a' w hE' ?_
    · have hrun := run_appN (P := P) ht o.type (hp.get i hi) c
      simp only [execOp, ho, resolve, invoke, builtin, Sem.run_bind, Sem.run_pure, Result.andThen_ok, List.map_toArray, List.map_cons, List.map_nil, hE.eval hx, hE.eval hy]
      simp only [List.length_nil, hrun]
      rfl
    · rw [List.append_nil]
      have : L.set i (OwnSl El v l) = L := by
        apply List.ext_getElem?
        intro j
        rw [List.getElem?_set]
        split
        · rename_i e; subst e
          rw [if_pos (List.getElem?_eq_some_iff.1 hi).1, hi]
        · rfl
      rw [this]
      exact hp
theorem OwnSl.ro {α : Type} [Enc α] {T : TypeId} {v : Value} {l : List α} {k : PH} (d : ρ.dj k) (h : OwnSl T v l k) : RoSl (ρ.un k) v l := by
  obtain ⟨hxl, h⟩ := h
  rcases h with ⟨A, rfl, hn⟩ | ⟨g, off, cap, cur, rfl, rfl, h1, h2, h3, h4⟩
  · obtain rfl := List.eq_nil_of_length_eq_zero hn
    exact ⟨A, 0, rfl, Nat.le_refl _, fun i a h => by simp at h⟩
  · refine ⟨some ⟨g, off, none⟩, cap, rfl, h1, fun i a hi => ⟨g, off, Enc.enc a, rfl, rfl, fun j u hj => ?_⟩⟩
    have hjs : j < Enc.sz α := by rw [← Enc.len a]; exact (List.getElem?_eq_some_iff.1 hj).1
    have hg : (ρ.un (PH.one g (.cells cur T (0, 0)))) g = some (.cells cur T (0, 0)) := PH.le_un_r d g _ (by simp [PH.one])
    unfold cellAt
    rw [hg]
    simp only
    have hf := flat_get l i j a hi hjs
    rw [hj, ← h4, List.getElem?_take] at hf
    split at hf
    · rw [List.getElem?_drop, ← Nat.add_assoc] at hf
      rw [← Array.getElem?_toList]
      exact hf
    · cases hf
theorem OwnSl.at {α : Type} [Enc α] {T El : TypeId} {bytes : Nat} {v : Value} {l : List α} (hp : Hp Z ρ L w) (k : Nat) (hk : L[k]? = some (OwnSl El v l)) (ht : SlTy P T El (Enc.sz α) bytes) {i : Int} {e : α} (hi : idx l i = some e) :
    ∃ g off, (∀ w, (Instr.indexAt T v (.int .i64 i)).run P w = .ok (.pointer (some ⟨g, off, none⟩)) w) ∧ (∃ of0 cap, v = .slice (some ⟨g, of0, none⟩) l.length cap ∧ off = of0 + i.toNat * Enc.sz α) ∧ ∀ (j : Nat) (u : Value), (Enc.enc e)[j]? = some u → ∀ ρ' L' w, Hp Z ρ' (OwnSl El v l :: L') w → w.cell? ⟨g, off + j, none⟩ = some u := by
  obtain ⟨i0, i1, i2⟩ := idx_some hi
  rcases (hp.get k hk).row.2 with ⟨_, _, hn⟩ | ⟨g, of0, cap, cur, rfl, _, _⟩
  · omega
  · refine ⟨g, of0 + i.toNat * Enc.sz α, fun w => run_index ht g of0 _ cap i0 i1 w, ⟨of0, cap, rfl, rfl⟩, fun j u hj ρ' L' w' hw' => ?_⟩
    obtain ⟨m, am, dm, hl⟩ := hw'.lend
    obtain ⟨A, c, hA, _, hro⟩ := OwnSl.ro dm am
    obtain ⟨b, off, cs, e1, e2, hat⟩ := hro _ e i2
    simp only [Value.slice.injEq] at hA
    rw [← hA.1] at e1
    simp only [Option.some.injEq, Addr.mk.injEq, and_true] at e1
    obtain ⟨rfl, rfl⟩ := e1
    have e2' : cs = Enc.enc e := e2
    subst e2'
    exact cell_of hl.le (hat j u hj)
theorem run_st1 {t : TypeId} {p : Addr} {u : Value} (hs : ∀ w, (sizeOf t).run P w = .ok 1 w) (h1 : u.cells = #[u]) (h2 : u.oneCell' = true) {c : Value} (hc : w.cell? p = some c) (hf : w.frozen? p = false) : (Instr.storeAt t (.pointer (some p)) u).run P w = .ok () (w.setCell p u) := by
  have hadd : p.add 0 = p := by simp [Addr.add]
  have : (Go.store p u).run P w = .ok () (w.setCell p u) := by
    cases u <;> simp [Value.oneCell'] at h2 <;> simp [Go.store, Sem.run, hc, hf]
  simp [Instr.storeAt, Instr.sureAddr, storeVar, hs w, h1, storeCells, hadd, this]
end
structure VarTy (P : Program) (T : TypeId) (agg : Bool) (sz : Nat) : Prop where
  agg_ : ∀ w, (isAgg T).run P w = .ok agg w
  size_ : ∀ w, (sizeOf T).run P w = .ok sz w
section
variable {Rn : Option Nat} {P : Program} {Z : World} {ρ : PH} {L : List Atom}
theorem run_ld1 {T : TypeId} (ht : VarTy P T false 1) {p : Addr} {v : Value} {w : World} (h : w.cell? p = some v) : (Instr.loadAt T (.pointer (some p))).run P w = .ok v w := by
  simp [Instr.loadAt, Instr.sureAddr, loadVar, ht.agg_ w, load, Sem.run, h]
theorem run_ldN {T : TypeId} {cs : List Value} (ht : VarTy P T true cs.length) {b o : Nat} {w : World} (h : ∀ j u, cs[j]? = some u → w.cell? ⟨b, o + j, none⟩ = some u) : (Instr.loadAt T (.pointer (some ⟨b, o, none⟩))).run P w = .ok (.agg cs.toArray) w := by
  have := run_loadCells_list (P := P) (w := w) ⟨b, o, none⟩ cs (fun j v hj => by rw [Addr.add_lit]; exact h j v hj)
  simp [Instr.loadAt, Instr.sureAddr, loadVar, ht.agg_ w, ht.size_ w, this]
def FldTy (P : Program) (T : TypeId) (f off : Nat) : Prop := ∀ b o w, (Instr.fieldAt T (.pointer (some ⟨b, o, none⟩)) f).run P w = .ok (.pointer (some ⟨b, o + off, none⟩)) w
theorem Hp.cN {b : Nat} {cs : List Value} {T : TypeId} {fz : Nat × Nat} (i : Nat) (e : L[i]? = some (Pt b (.cells cs.toArray T fz))) (o : Nat) (ds : List Value) (hd : ∀ j u, ds[j]? = some u → cs[o + j]? = some u) : ∀ w, Hp Z ρ L w → ∀ j u, ds[j]? = some u → w.cell? ⟨b, o + j, none⟩ = some u := fun w hw j u hj => Hp.c i e (o + j) (by simpa using hd j u hj) w hw
theorem sub_all {ds cs : List Value} {o : Nat} (h : (cs.drop o).take ds.length = ds) : ∀ j u, ds[j]? = some u → cs[o + j]? = some u := fun j u hj => by
  rw [← h, List.getElem?_take] at hj
  split at hj
  · rw [List.getElem?_drop] at hj; exact hj
  · cases hj
variable {ops : Array Oper} {Q : Exit → Act → World → Prop} {rest : List Oper} {o : Oper} {a : Act} {w : World} {Df : List Deferred} {N : Nat} {E : Ent} {d : Nat}
theorem s_unit (wk : Region.wanted o (yielded ops a.tmps) = true) (hd : o.dst = none) (hE : EnvD Df N E a) {w' : World} (hx : (execOp a.eval o).run P w = .ok .skip w') (K : wpL Rn P ops Q rest a w') : wpL Rn P ops Q (o :: rest) a w :=
  l_skip wk hx (by rw [hd]; exact K)
theorem s_store (wk : Region.wanted o (yielded ops a.tmps) = true) (hd : o.dst = none) (hE : EnvD Df N E a) (hp : Hp Z ρ L w) {T : TypeId} {x y : Operand} (ho : o.op = .store T x y) {b off : Nat} (hx : evo E x = some (.pointer (some ⟨b, off, none⟩))) {v : Value} (hy : evo E y = some v) (i : Nat) {cs : List Value} {El : TypeId} (hi : L[i]? = some (Pt b (.cells cs.toArray El (0, 0))))
    (ht : ∀ w, (sizeOf T).run P w = .ok v.cells.size w) (hl : Nat.ble (off + v.cells.size) cs.length = true) (h1 : ∀ u ∈ v.cells.toList, u.oneCell' = true) (cs' : List Value) (hcs : cs' = cs.take off ++ v.cells.toList ++ cs.drop (off + v.cells.size))
    (K : ∀ w, Hp Z ρ (L.set i (Pt b (.cells cs'.toArray El (0, 0)))) w → wpL Rn P ops Q rest a w) : wpL Rn P ops Q (o :: rest) a w := by
  subst hcs
  have hg := hp.look i hi
  have r1 := run_storeCells_at P b off El v.cells.toList 0 cs.toArray w hg (by have := Nat.le_of_ble_eq_true hl; simpa using this) h1
  simp only [Nat.add_zero] at r1
  generalize hcur : ((cs.toArray.toList.take off ++ v.cells.toList ++ cs.toArray.toList.drop (off + v.cells.toList.length)).toArray : Array Value) = cur at r1
  refine s_unit wk hd hE (w' := w.setRow b cur) ?_ (K (w.setRow b cur) ?_)
  · simp [execOp, ho, hE.eval hx, hE.eval hy, Instr.storeAt, Instr.sureAddr, storeVar, ht w, r1]
  · refine Hp.put i (set_get (A := Pt b (.cells cs.toArray El (0, 0))) (_B := Pt b (.cells cs.toArray El (0, 0))) hi).2 (Hp.set (w' := w.setRow b cur) (hp.get i hi) rfl rfl rfl ?_ (fun k hk => setRow_other w b k _ hk))
    rw [setRow_heap w b cs.toArray _ El _ hg, ← hcur]
    simp
end
theorem it {α : Type} {b : Bool} {A B : α} (h : b = true) : (if b = true then A else B) = A := if_pos h
theorem ie {α : Type} {b : Bool} {A B : α} (h : b = false) : (if b = true then A else B) = B := if_neg (by rw [h]; decide)
theorem bnd {α β : Type} {o : Option α} {f : α → Option β} {b : β} (h : o.bind f = some b) : ∃ x, o = some x ∧ f x = some b := Option.bind_eq_some_iff.1 h
inductive Out (σ ρ : Type) where
  | brk (s : σ)
  | ret (r : ρ)
theorem EnvD.eqv {Df : List Deferred} {N d : Nat} {v v' : Value} {E : Ent} {a : Act} (h : EnvD Df N ((d, v) :: E) a) (e : v = v') : EnvD Df N ((d, v') :: E) a := e ▸ h
def Ret (R : Value → World → Prop) : Ending → World → Prop := fun e w => ∃ v, e = .returned v ∧ R v w
theorem Ret.ret {R : Value → World → Prop} : ∀ e w, Ret R e w → ∃ v, e = .returned v := fun _ _ ⟨v, h, _⟩ => ⟨v, h⟩
theorem Ret.of {R : Value → World → Prop} {v : Value} {w : World} (h : Ret R (.returned v) w) : R v w := by
  obtain ⟨v', e, h⟩ := h
  injection e with e
  subst e
  exact h
def QJ (J : Act → World → Prop) : Exit → Act → World → Prop := fun e a w => match e with | .normal => J a w | _ => False
section
variable {Rn : Option Nat} {P : Program} {ops : Array Oper} {a : Act} {w : World} {Df : List Deferred} {N : Nat} {E : Ent} {d : Nat} {Z : World} {ρ : PH} {L : List Atom} {J : Act → World → Prop} {fuel : Nat} {listed : Array Bool} {o : Oper}
theorem h_op {Q : Exit → Act → World → Prop} {i : Nat} {K : Act → World → Prop} (hi : ops[i]? = some o) (h : wpL none P ops (fun e a w => match e with | .normal => K a w | e => Q e a w) [o] a w) : wpOp P ops Q i K a w := by
  change wpList _ _ _ _ _ _ at h
  unfold wpOp
  rw [hi]
  simp only
  unfold wpList at h
  split at h
  · rename_i hw
    rw [if_pos hw]
    rcases h with h | ⟨h1, x, y, q⟩
    · left
      unfold Oper.wp at *
      generalize (execOp a.eval o).run P w = r at *
      cases r with
      | ok n w' =>
        cases n <;> simp only [Oper.upon] at h ⊢ <;> first
          | exact h
          | (refine Calls.mono h fun e w'' he => ?_
             cases e with
             | returned v => exact he
             | panicked c => exact he
             | outgrown => obtain ⟨x, y, q⟩ := he; exact ⟨x, y, q⟩)
          | exact Rows.mono h fun _ _ he => he
      | halt x w' => cases x <;> simp only [Oper.upon] at h ⊢ <;> exact h
    · exact Or.inr ⟨h1, x, y, q⟩
  · rename_i hw
    rw [if_neg hw]
    exact h
end
end Go.Proofs.YtfajmelamonolaaGreatDoor
