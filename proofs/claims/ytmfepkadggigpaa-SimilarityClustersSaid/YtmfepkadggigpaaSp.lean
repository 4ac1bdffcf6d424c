/-
  Parts of heaps and lists of owned parts: what a function may read for ever, and what it owns. Plain theorems over any program; no program is named.
-/
import Derived.WalkKit
import Derived.WalkSpells
import Derived.WalkLawsBesides
import Derived.Lib.Hide
import Derived.Laws.AppendOwn
import Derived.Laws.AppendOwnNone
import Derived.Laws.CopyOwn
import Derived.Deep.QuietTactic
import Derived.BigQuiet
import Derived.OrdersHeld
set_option linter.unusedVariables false
set_option linter.unusedSimpArgs false
namespace Go.Proofs.Ytmfepkadggigpaa
open Go.RowKit

/-- A part of a heap. -/
abbrev PH := Nat → Option Obj
namespace PH
def le (h k : PH) : Prop := ∀ b o, h b = some o → k b = some o
def un (h k : PH) : PH := fun b => match h b with | some o => some o | none => k b
def dj (h k : PH) : Prop := ∀ b, h b = none ∨ k b = none
def one (b : Nat) (o : Obj) : PH := fun b' => if b' = b then some o else none
def emp : PH := fun _ => none
def minus (h k : PH) : PH := fun b => match k b with | some _ => none | none => h b
theorem le.rf (h : PH) : h.le h := fun _ _ e => e
theorem le.tr {a b c : PH} (h : a.le b) (k : b.le c) : a.le c := fun x o e => k x o (h x o e)
theorem le_un (h k : PH) : h.le (h.un k) := fun b o e => by simp [un, e]
theorem le_un_r {h k : PH} (d : h.dj k) : k.le (h.un k) := fun b o e => by
  rcases d b with e' | e'
  · simp [un, e', e]
  · rw [e'] at e; cases e
theorem un_le {a b c : PH} (h : a.le c) (k : b.le c) : (a.un b).le c := fun x o e => by
  unfold un at e
  cases hx : a x with
  | some o' => rw [hx] at e; simp only [Option.some.injEq] at e; subst e; exact h x _ hx
  | none => rw [hx] at e; exact k x o e
theorem dj.symm {h k : PH} (d : h.dj k) : k.dj h := fun b => (d b).symm
theorem dj.mono {h h' k : PH} (l : h'.le h) (d : h.dj k) : h'.dj k := fun b => by
  rcases d b with e | e
  · left
    cases hx : h' b with
    | none => rfl
    | some o => rw [l b o hx] at e; cases e
  · exact Or.inr e
theorem un_none {h k : PH} {b : Nat} : (h.un k) b = none ↔ h b = none ∧ k b = none := by
  unfold un; cases h b <;> simp
theorem dj_un {a b c : PH} : (a.un b).dj c ↔ a.dj c ∧ b.dj c := by
  constructor
  · intro h
    exact ⟨fun x => (h x).imp (fun e => (un_none.1 e).1) id, fun x => (h x).imp (fun e => (un_none.1 e).2) id⟩
  · rintro ⟨h, k⟩ x
    rcases h x with e | e
    · rcases k x with e' | e'
      · exact Or.inl (un_none.2 ⟨e, e'⟩)
      · exact Or.inr e'
    · exact Or.inr e
theorem un_assoc (a b c : PH) : (a.un b).un c = a.un (b.un c) := by
  funext x; unfold un; cases a x <;> rfl
theorem un_comm {a b : PH} (d : a.dj b) : a.un b = b.un a := by
  funext x
  unfold un
  rcases d x with e | e
  · rw [e]; cases b x <;> rfl
  · rw [e]; cases a x <;> rfl
theorem un_right_comm {a b c : PH} (d : b.dj c) : (a.un b).un c = (a.un c).un b := by
  rw [un_assoc, un_assoc, un_comm d]
theorem one_dj {h : PH} {b : Nat} {o : Obj} (e : h b = none) : h.dj (one b o) := fun x => by
  by_cases hx : x = b
  · subst hx; exact Or.inl e
  · right; simp [one, hx]
theorem one_le {h : PH} {b : Nat} {o : Obj} (e : h b = some o) : (one b o).le h := fun x o' e' => by
  by_cases hx : x = b
  · subst hx; simp [one] at e'; subst e'; exact e
  · simp [one, hx] at e'
theorem emp_le (h : PH) : emp.le h := fun _ _ e => by simp [emp] at e
theorem dj_emp (h : PH) : h.dj emp := fun _ => Or.inr rfl
theorem minus_le (h k : PH) : (h.minus k).le h := fun b o e => by
  unfold minus at e
  cases hk : k b with
  | some _ => rw [hk] at e; cases e
  | none => rw [hk] at e; exact e
end PH

/-- What is said of one owned part. -/
abbrev Atom := PH → Prop
/-- ρ lies in h, and beside it, apart from it and from each other, one part for each of the list. -/
def Sep : PH → List Atom → PH → Prop
  | ρ, [], h => ρ.le h
  | ρ, A :: L, h => ∃ k, A k ∧ ρ.dj k ∧ Sep (ρ.un k) L h
namespace Sep
theorem mono {L : List Atom} : ∀ {ρ h h' : PH}, Sep ρ L h → h.le h' → Sep ρ L h' := by
  induction L with
  | nil => intro ρ h h' hs hl; exact PH.le.tr hs hl
  | cons A L ih => rintro ρ h h' ⟨k, a, d, hs⟩ hl; exact ⟨k, a, d, ih hs hl⟩
theorem le {L : List Atom} : ∀ {ρ h : PH}, Sep ρ L h → ρ.le h := by
  induction L with
  | nil => intro ρ h hs; exact hs
  | cons A L ih => rintro ρ h ⟨k, a, d, hs⟩; exact (PH.le_un ρ k).tr (ih hs)
theorem less {L : List Atom} : ∀ {ρ ρ' h : PH}, Sep ρ L h → ρ'.le ρ → Sep ρ' L h := by
  induction L with
  | nil => intro ρ ρ' h hs hl; exact hl.tr hs
  | cons A L ih =>
    rintro ρ ρ' h ⟨k, a, d, hs⟩ hl
    exact ⟨k, a, PH.dj.mono hl d, ih hs (PH.un_le (hl.tr (PH.le_un _ _)) (PH.le_un_r d))⟩
theorem drop {A : Atom} {L : List Atom} {ρ h : PH} (hs : Sep ρ (A :: L) h) : Sep ρ L h := by
  obtain ⟨k, _, _, hs⟩ := hs
  exact less hs (PH.le_un _ _)
theorem swap {A B : Atom} {L : List Atom} {ρ h : PH} (hs : Sep ρ (A :: B :: L) h) : Sep ρ (B :: A :: L) h := by
  obtain ⟨k, a, d, m, b, e, hs⟩ := hs
  obtain ⟨e1, e2⟩ := PH.dj_un.1 e
  exact ⟨m, b, e1, k, a, PH.dj_un.2 ⟨d, e2.symm⟩, by rw [PH.un_right_comm e2.symm]; exact hs⟩
theorem imp {A B : Atom} {L : List Atom} {ρ h : PH} (hs : Sep ρ (A :: L) h) (hi : ∀ k, A k → B k) : Sep ρ (B :: L) h := by
  obtain ⟨k, a, d, hs⟩ := hs
  exact ⟨k, hi k a, d, hs⟩
theorem cons_mono {A : Atom} {L L' : List Atom} (hi : ∀ ρ h, Sep ρ L h → Sep ρ L' h) {ρ h : PH} (hs : Sep ρ (A :: L) h) : Sep ρ (A :: L') h := by
  obtain ⟨k, a, d, hs⟩ := hs
  exact ⟨k, a, d, hi _ _ hs⟩
/-- The part at place i comes to the front. -/
theorem get {A : Atom} : ∀ {L : List Atom} (i : Nat) {ρ h : PH}, Sep ρ L h → L[i]? = some A → Sep ρ (A :: L.eraseIdx i) h
  | [], i, _, _, _, e => by simp at e
  | B :: L, 0, _, _, hs, e => by simp at e; subst e; exact hs
  | B :: L, i + 1, ρ, h, hs, e => by
    simp only [List.getElem?_cons_succ] at e
    exact swap (cons_mono (fun ρ h hs => get i hs e) hs)
/-- .. and goes back to its place, turned. -/
theorem put {A' : Atom} : ∀ {L : List Atom} (i : Nat) {ρ h : PH}, i < L.length → Sep ρ (A' :: L.eraseIdx i) h → Sep ρ (L.set i A') h
  | [], i, _, _, e, _ => by simp at e
  | B :: L, 0, _, _, _, hs => hs
  | B :: L, i + 1, ρ, h, e, hs => by
    simp only [List.length_cons, Nat.add_lt_add_iff_right] at e
    exact cons_mono (fun ρ h hs => put i e hs) (swap (by simpa using hs))
theorem lift {L : List Atom} : ∀ {ρ h k : PH}, ρ.dj k → Sep (ρ.un k) L h → Sep ρ L (h.minus k) := by
  induction L with
  | nil =>
    intro ρ h k d hs b o e
    have hb := hs b o (PH.le_un _ _ b o e)
    unfold PH.minus
    rcases d b with e' | e'
    · rw [e'] at e; cases e
    · rw [e']; exact hb
  | cons A L ih =>
    rintro ρ h k d ⟨m, a, e, hs⟩
    obtain ⟨e1, e2⟩ := PH.dj_un.1 e
    exact ⟨m, a, e1, ih (PH.dj_un.2 ⟨d, e2.symm⟩) (by rw [← PH.un_right_comm e2]; exact hs)⟩
theorem add {A : Atom} {L : List Atom} : ∀ {ρ h h' k : PH}, Sep ρ L h → (∀ b, k b ≠ none → h b = none) → h.le h' → k.le h' → A k → Sep ρ (A :: L) h' := by
  induction L with
  | nil =>
    intro ρ h h' k hs hn hl hk a
    refine ⟨k, a, fun b => ?_, PH.un_le (PH.le.tr hs hl) hk⟩
    cases hb : k b with
    | none => exact Or.inr rfl
    | some o =>
      left
      have := hn b (by rw [hb]; simp)
      cases hr : ρ b with
      | none => rfl
      | some o' => rw [hs b o' hr] at this; cases this
  | cons B L ih =>
    rintro ρ h h' k ⟨m, b, e, hs⟩ hn hl hk a
    exact swap ⟨m, b, e, ih hs hn hl hk a⟩
/-- A part is turned into another one; nothing else turns. -/
theorem write {A A' : Atom} {L : List Atom} {ρ h h' : PH} (hs : Sep ρ (A :: L) h) (hw : ∀ k, A k → k.le h → ∃ k', A' k' ∧ k'.le h' ∧ (h.minus k).le h' ∧ ∀ b, k' b ≠ none → k b ≠ none ∨ h b = none) : Sep ρ (A' :: L) h' := by
  obtain ⟨k, a, d, hs⟩ := hs
  have hk : k.le h := (PH.le_un_r d).tr (le hs)
  obtain ⟨k', a', hk', hm, hb⟩ := hw k a hk
  refine add (lift d hs) (fun b hb' => ?_) hm hk' a'
  unfold PH.minus
  rcases hb b hb' with e | e
  · cases hx : k b with
    | none => exact absurd hx e
    | some o => rfl
  · cases hx : k b with
    | none => exact e
    | some o => rfl
end Sep

/-- The heap of a world. -/
def hp (w : World) : PH := fun b => w.heap[b]?
/-- In the world w: what lies in ρ lies there, the parts of L beside it, and what is no heap is as in Z. -/
structure Hp (Z : World) (ρ : PH) (L : List Atom) (w : World) : Prop where
  os : w.os = Z.os
  tape : w.tape = Z.tape
  output : w.output = Z.output
  sep : Sep ρ L (hp w)
/-- One block. -/
def Pt (b : Nat) (o : Obj) : Atom := fun k => k = PH.one b o
namespace Hp
variable {Z : World} {ρ : PH} {L : List Atom} {w w' : World}
theorem with_ (h : Hp Z ρ L w) (ho : w'.os = w.os) (ht : w'.tape = w.tape) (hu : w'.output = w.output) {ρ' : PH} {L' : List Atom} (hs : Sep ρ' L' (hp w')) : Hp Z ρ' L' w' :=
  ⟨ho.trans h.os, ht.trans h.tape, hu.trans h.output, hs⟩
theorem to {ρ' : PH} {L' : List Atom} (h : Hp Z ρ L w) (hs : Sep ρ L (hp w) → Sep ρ' L' (hp w)) : Hp Z ρ' L' w := ⟨h.os, h.tape, h.output, hs h.sep⟩
theorem drew (h : Hp Z ρ L w) : Hp Z ρ L w.drew := ⟨h.os, h.tape, h.output, h.sep⟩
theorem drewN (h : Hp Z ρ L w) (n : Nat) : Hp Z ρ L (w.drewN n) := ⟨h.os, h.tape, h.output, h.sep⟩
theorem drop {A : Atom} (h : Hp Z ρ (A :: L) w) : Hp Z ρ L w := h.to Sep.drop
theorem get {A : Atom} (h : Hp Z ρ L w) (i : Nat) (e : L[i]? = some A) : Hp Z ρ (A :: L.eraseIdx i) w := h.to fun s => s.get i e
theorem put {A : Atom} (i : Nat) (e : i < L.length) (h : Hp Z ρ (A :: L.eraseIdx i) w) : Hp Z ρ (L.set i A) w := h.to fun s => s.put i e
theorem less {ρ' : PH} (h : Hp Z ρ L w) (l : ρ'.le ρ) : Hp Z ρ' L w := h.to fun s => s.less l
theorem le (h : Hp Z ρ L w) : ρ.le (hp w) := h.sep.le
/-- A part is lent: what reads it may take it as lying for ever. -/
theorem lend {A : Atom} (h : Hp Z ρ (A :: L) w) : ∃ k, A k ∧ ρ.dj k ∧ Hp Z (ρ.un k) L w := by
  obtain ⟨k, a, d, s⟩ := h.sep
  exact ⟨k, a, d, h.os, h.tape, h.output, s⟩
theorem back {A : Atom} {k : PH} (a : A k) (d : ρ.dj k) (h : Hp Z (ρ.un k) L w) : Hp Z ρ (A :: L) w := h.to fun s => ⟨k, a, d, s⟩
theorem alloc (h : Hp Z ρ L w) (o : Obj) : Hp Z ρ (Pt w.heap.size o :: L) (w.alloc o) := by
  refine h.with_ (w' := w.alloc o) rfl rfl rfl (Sep.add (A := Pt w.heap.size o) (k := PH.one w.heap.size o) h.sep (fun b hb => ?_) (fun b o' e => ?_) (PH.one_le ?_) rfl)
  · by_cases e : b = w.heap.size
    · subst e; simp [hp]
    · simp [PH.one, e] at hb
  · unfold hp at *
    have hlt : b < w.heap.size := (Array.getElem?_eq_some_iff.1 e).1
    show (w.heap.push o)[b]? = some o'
    rw [Array.getElem?_push, if_neg (by omega)]
    exact e
  · show (w.heap.push o)[w.heap.size]? = some o
    simp
theorem look {b : Nat} {o : Obj} (h : Hp Z ρ L w) (i : Nat) (e : L[i]? = some (Pt b o)) : w.heap[b]? = some o := by
  obtain ⟨k, a, d, s⟩ := (h.get i e).lend
  have := (PH.le_un_r d).tr s.le b o (by rw [a]; simp [PH.one])
  exact this
/-- An older contract: all that lay in w lies in w' as it did. -/
theorem keep (h : Hp Z ρ L w) (k : Below w.heap.size w w') : Hp Z ρ L w' := by
  refine h.with_ k.os k.tape k.output (h.sep.mono fun b o e => ?_)
  have hlt : b < w.heap.size := (Array.getElem?_eq_some_iff.1 e).1
  exact (k.block b hlt).trans e
end Hp
end Go.Proofs.Ytmfepkadggigpaa
