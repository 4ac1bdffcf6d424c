/-
  Winnowing, in plain terms: the places of the last least hashes of all windows; both models compute them. No program is named.
-/
import Derived.Test.YtlnhijgieblmgaaDoorP1
set_option linter.unusedVariables false
set_option linter.unusedSimpArgs false
namespace Go.Proofs.YtlnhijgieblmgaaDoor
open Go.RowKit

/-! ### The last least place of a window -/
def lmG (g : Nat → Int) (a : Nat) : Nat → Nat
  | 0 => a
  | n + 1 => if g (a + n) ≤ g (lmG g a n) then a + n else lmG g a n
def IsLm (g : Nat → Int) (a b p : Nat) : Prop := a ≤ p ∧ p < b ∧ ∀ j, a ≤ j → j < b → g p ≤ g j ∧ (p < j → g p < g j)
theorem lm_spec (g : Nat → Int) (a : Nat) : ∀ n, 0 < n → IsLm g a (a + n) (lmG g a n)
  | 0, h => absurd h (by decide)
  | 1, _ => by
    unfold lmG lmG
    refine ⟨?_, ?_, ?_⟩
    · split <;> omega
    · split <;> omega
    · intro j h1 h2
      obtain rfl : j = a := by omega
      simp
  | n + 2, _ => by
    obtain ⟨h1, h2, h3⟩ := lm_spec g a (n + 1) (by omega)
    rw [lmG]
    split
    · rename_i h
      refine ⟨by omega, by omega, fun j hj1 hj2 => ⟨?_, fun h => by omega⟩⟩
      by_cases hj : j = a + (n + 1)
      · subst hj; omega
      · have := (h3 j hj1 (by omega)).1; omega
    · rename_i h
      refine ⟨by omega, by omega, fun j hj1 hj2 => ?_⟩
      by_cases hj : j = a + (n + 1)
      · subst hj; exact ⟨by omega, fun _ => by omega⟩
      · exact h3 j hj1 (by omega)
theorem lm_unique {g : Nat → Int} {a b p q : Nat} (hp : IsLm g a b p) (hq : IsLm g a b q) : p = q := by
  obtain ⟨p1, p2, p3⟩ := hp
  obtain ⟨q1, q2, q3⟩ := hq
  have h1 := p3 q q1 q2
  have h2 := q3 p p1 p2
  rcases Nat.lt_trichotomy p q with h | h | h
  · have := h1.2 h; omega
  · exact h
  · have := h2.2 h; omega
theorem lm_mono {g : Nat → Int} {a b p q : Nat} (hp : IsLm g a b p) (hq : IsLm g (a + 1) (b + 1) q) : p ≤ q := by
  obtain ⟨p1, p2, p3⟩ := hp
  obtain ⟨q1, q2, q3⟩ := hq
  apply Classical.byContradiction
  intro h
  have h1 := p3 q (by omega) (by omega)
  have h2 := (q3 p (by omega) (by omega)).2 (by omega)
  omega
theorem lm_monos {g : Nat → Int} {w : Nat} (hw : 0 < w) (a : Nat) : ∀ d, lmG g a w ≤ lmG g (a + d) w
  | 0 => Nat.le_refl _
  | d + 1 => by
    have h1 := lm_spec g (a + d) w hw
    have h2 := lm_spec g (a + d + 1) w hw
    exact Nat.le_trans (lm_monos hw a d) (lm_mono h1 (by rw [show a + d + w + 1 = a + d + 1 + w by omega]; exact h2))

/-! ### What is chosen -/
def Cg (g : Nat → Int) (w m p : Nat) : Bool := (List.range m).any fun j => lmG g j w == p
theorem Cg_iff {g : Nat → Int} {w m p : Nat} : Cg g w m p = true ↔ ∃ j, j < m ∧ lmG g j w = p := by
  unfold Cg; simp [List.any_eq_true]
def Og (g : Nat → Int) (w i : Nat) : List Nat := (List.range i).filter (Cg g w (i + 1 - w))
def gOf (h : List Int) : Nat → Int := fun i => h.getD i 0
def mkG (g : Nat → Int) (i : Nat) : Mark := ⟨g i, i⟩
def winL (h : List Int) (w : Nat) : List Mark := (Og (gOf h) w h.length).map (mkG (gOf h))
def winE (h : List Int) (w : Int) : List Mark × Int := if okK w = false then ([], 2) else if 2048 < (h.length : Int) then ([], 8) else (winL h (min w.toNat h.length), 0)
theorem range_rises (n : Nat) : (List.range n).Pairwise (· < ·) := List.pairwise_lt_range
theorem Og_rises (g : Nat → Int) (w i : Nat) : (Og g w i).Pairwise (· < ·) := (range_rises i).filter _
theorem Og_mem {g : Nat → Int} {w i p : Nat} : p ∈ Og g w i ↔ p < i ∧ ∃ j, j + w ≤ i ∧ lmG g j w = p := by
  unfold Og
  rw [List.mem_filter, List.mem_range, Cg_iff]
  constructor
  · rintro ⟨h1, j, h2, h3⟩; exact ⟨h1, j, by omega, h3⟩
  · rintro ⟨h1, j, h2, h3⟩; exact ⟨h1, j, by omega, h3⟩
theorem rising_nat {l m : List Nat} (hl : l.Pairwise (· < ·)) (hm : m.Pairwise (· < ·)) (h : ∀ x, x ∈ l ↔ x ∈ m) : l = m :=
  rising_ext (r := fun a b : Nat => a < b) (fun a => Nat.lt_irrefl a) (fun a b c => Nat.lt_trans) hl hm h
/-- One window more. -/
theorem Og_step {g : Nat → Int} {w i : Nat} (hw : 0 < w) (hi : w ≤ i + 1) : Og g w (i + 1) = if lmG g (i + 1 - w) w ∈ Og g w i then Og g w i else Og g w i ++ [lmG g (i + 1 - w) w] := by
  have hs := lm_spec g (i + 1 - w) w hw
  have hle : ∀ p ∈ Og g w i, p ≤ lmG g (i + 1 - w) w := by
    intro p hp
    obtain ⟨_, j, hj, rfl⟩ := Og_mem.1 hp
    have := lm_monos (g := g) hw j (i + 1 - w - j)
    rw [show j + (i + 1 - w - j) = i + 1 - w by omega] at this
    exact this
  have hmem : ∀ x, x ∈ Og g w (i + 1) ↔ x ∈ Og g w i ∨ x = lmG g (i + 1 - w) w := by
    intro x
    rw [Og_mem, Og_mem]
    constructor
    · rintro ⟨h1, j, h2, rfl⟩
      by_cases hj : j = i + 1 - w
      · exact Or.inr (by rw [hj])
      · left
        have := lm_spec g j w hw
        exact ⟨by have := this.2.1; omega, j, by omega, rfl⟩
    · rintro (⟨h1, j, h2, h3⟩ | rfl)
      · exact ⟨by omega, j, by omega, h3⟩
      · exact ⟨by have := hs.2.1; omega, i + 1 - w, by omega, rfl⟩
  split
  · rename_i h
    refine rising_nat (Og_rises _ _ _) (Og_rises _ _ _) fun x => ?_
    rw [hmem]
    constructor
    · rintro (h1 | rfl)
      · exact h1
      · exact h
    · exact Or.inl
  · rename_i h
    refine rising_nat (Og_rises _ _ _) ?_ fun x => ?_
    · rw [List.pairwise_append]
      refine ⟨Og_rises _ _ _, by simp, fun a ha b hb => ?_⟩
      simp at hb; subst hb
      have := hle a ha
      rcases Nat.lt_or_ge a (lmG g (i + 1 - w) w) with h2 | h2
      · exact h2
      · exact absurd (by rw [show lmG g (i + 1 - w) w = a by omega]; exact ha) h
    · rw [hmem]; simp
theorem Og_last {g : Nat → Int} {w i : Nat} (hw : 0 < w) (hi : w ≤ i + 1) {q : Nat} (hl : (Og g w i).getLast? = some q) : q = lmG g (i + 1 - w) w ↔ lmG g (i + 1 - w) w ∈ Og g w i := by
  have hq : q ∈ Og g w i := List.mem_of_getLast? hl
  constructor
  · rintro rfl; exact hq
  · intro h
    have hle : q ≤ lmG g (i + 1 - w) w := by
      obtain ⟨_, j, hj, rfl⟩ := Og_mem.1 hq
      have := lm_monos (g := g) hw j (i + 1 - w - j)
      rw [show j + (i + 1 - w - j) = i + 1 - w by omega] at this
      exact this
    obtain ⟨ys, hys⟩ := List.getLast?_eq_some_iff.1 hl
    have hr := Og_rises g w i
    rw [hys] at h hr
    rcases List.mem_append.1 h with h2 | h2
    · have := (List.pairwise_append.1 hr).2.2 _ h2 q (by simp)
      omega
    · simp at h2; exact h2.symm

/-! ### The queue -/
def sm (g : Nat → Int) (i j : Nat) : Bool := (List.range i).all fun t => decide (t ≤ j) || decide (g j < g t)
theorem sm_iff {g : Nat → Int} {i j : Nat} : sm g i j = true ↔ ∀ t, t < i → j < t → g j < g t := by
  unfold sm
  simp only [List.all_eq_true, List.mem_range, Bool.or_eq_true, decide_eq_true_eq]
  constructor
  · intro h t h1 h2; rcases h t h1 with h3 | h3 <;> omega
  · intro h t h1
    by_cases h2 : j < t
    · exact Or.inr (h t h1 h2)
    · exact Or.inl (by omega)
def Qg (g : Nat → Int) (w i : Nat) : List Nat := (List.range i).filter fun j => decide (i - w ≤ j) && sm g i j
theorem Qg_mem {g : Nat → Int} {w i j : Nat} : j ∈ Qg g w i ↔ j < i ∧ i - w ≤ j ∧ ∀ t, t < i → j < t → g j < g t := by
  unfold Qg; rw [List.mem_filter, List.mem_range, Bool.and_eq_true, decide_eq_true_eq, sm_iff]
theorem Qg_rises (g : Nat → Int) (w i : Nat) : (Qg g w i).Pairwise (· < ·) := (range_rises i).filter _
theorem Qg_up (g : Nat → Int) (w i : Nat) : (Qg g w i).Pairwise (fun a b => g a < g b) :=
  (Qg_rises g w i).imp_of_mem fun ha hb h => (Qg_mem.1 ha).2.2 _ (Qg_mem.1 hb).1 h
theorem split_up {α : Type} {f : α → Int} (x : Int) : ∀ {l : List α}, l.Pairwise (fun a b => f a < f b) → l = l.filter (fun a => decide (f a < x)) ++ l.filter (fun a => decide (x ≤ f a))
  | [], _ => rfl
  | a :: l, h => by
    obtain ⟨h1, h2⟩ := List.pairwise_cons.1 h
    by_cases hx : f a < x
    · rw [List.filter_cons_of_pos (by simpa using hx), List.filter_cons_of_neg (by simpa using hx), List.cons_append, ← split_up x h2]
    · have e1 : l.filter (fun a => decide (f a < x)) = [] := List.filter_eq_nil_iff.2 fun b hb => by have := h1 b hb; simp; omega
      have e2 : l.filter (fun a => decide (x ≤ f a)) = l := List.filter_eq_self.2 fun b hb => by have := h1 b hb; simp; omega
      rw [List.filter_cons_of_neg (by simpa using hx), List.filter_cons_of_pos (by simp; omega), e1, e2]; rfl
/-- The queue behind the appending of a place, ahead of the dropping. -/
def Pg (g : Nat → Int) (w i : Nat) : List Nat := (Qg g w i).filter (fun a => decide (g a < g i)) ++ [i]
theorem Pg_mem {g : Nat → Int} {w i j : Nat} : j ∈ Pg g w i ↔ j < i + 1 ∧ (i - w ≤ j) ∧ ∀ t, t < i + 1 → j < t → g j < g t := by
  unfold Pg
  rw [List.mem_append, List.mem_filter, Qg_mem]
  simp only [decide_eq_true_eq, List.mem_singleton]
  constructor
  · rintro (⟨⟨h1, h2, h3⟩, h4⟩ | rfl)
    · refine ⟨by omega, h2, fun t ht hj => ?_⟩
      by_cases h : t = i
      · subst h; exact h4
      · exact h3 t (by omega) hj
    · exact ⟨by omega, by omega, fun t ht hj => by omega⟩
  · rintro ⟨h1, h2, h3⟩
    by_cases h : j = i
    · exact Or.inr h
    · exact Or.inl ⟨⟨by omega, h2, fun t ht hj => h3 t (by omega) hj⟩, h3 i (by omega) (by omega)⟩
theorem Pg_rises (g : Nat → Int) (w i : Nat) : (Pg g w i).Pairwise (· < ·) := by
  unfold Pg
  rw [List.pairwise_append]
  refine ⟨(Qg_rises g w i).filter _, by simp, fun a ha b hb => ?_⟩
  simp at hb; subst hb
  exact (Qg_mem.1 (List.mem_filter.1 ha).1).1
theorem Qg_step {g : Nat → Int} {w i : Nat} (hw : 0 < w) {p : Nat} {r : List Nat} (h : Pg g w i = p :: r) : Qg g w (i + 1) = if p + w ≤ i then r else Pg g w i := by
  have hr := Pg_rises g w i
  rw [h] at hr
  obtain ⟨h1, h2⟩ := List.pairwise_cons.1 hr
  have hm : ∀ x, x ∈ Qg g w (i + 1) ↔ x ∈ Pg g w i ∧ i + 1 - w ≤ x := by
    intro x
    rw [Qg_mem, Pg_mem]
    constructor
    · rintro ⟨a, b, c⟩; exact ⟨⟨a, by omega, c⟩, b⟩
    · rintro ⟨⟨a, b, c⟩, d⟩; exact ⟨a, d, c⟩
  split
  · rename_i hp
    refine rising_nat (Qg_rises _ _ _) h2 fun x => ?_
    rw [hm, h]
    constructor
    · rintro ⟨ha, hb⟩
      rcases List.mem_cons.1 ha with rfl | ha
      · omega
      · exact ha
    · intro hx
      refine ⟨List.mem_cons_of_mem _ hx, ?_⟩
      have hxp := h1 x hx
      have := (Pg_mem.1 (by rw [h]; exact List.mem_cons_self .. : p ∈ Pg g w i)).2.1
      omega
  · rename_i hp
    refine rising_nat (Qg_rises _ _ _) (Pg_rises _ _ _) fun x => ?_
    rw [hm]
    constructor
    · exact And.left
    · intro hx
      refine ⟨hx, ?_⟩
      rw [h] at hx
      rcases List.mem_cons.1 hx with rfl | hx
      · omega
      · have := h1 x hx; omega
/-- The head of the queue is the last least place of the window. -/
theorem Qg_head {g : Nat → Int} {w i : Nat} (hw : 0 < w) : ∃ r, Qg g w (i + 1) = lmG g (i + 1 - w) (i + 1 - (i + 1 - w)) :: r := by
  have hs := lm_spec g (i + 1 - w) (i + 1 - (i + 1 - w)) (by omega)
  rw [show i + 1 - w + (i + 1 - (i + 1 - w)) = i + 1 by omega] at hs
  generalize lmG g (i + 1 - w) (i + 1 - (i + 1 - w)) = p at hs ⊢
  have hp : p ∈ Qg g w (i + 1) := Qg_mem.2 ⟨hs.2.1, hs.1, fun t ht hj => (hs.2.2 t (by have := hs.1; omega) ht).2 hj⟩
  cases hq : Qg g w (i + 1) with
  | nil => rw [hq] at hp; simp at hp
  | cons q r =>
    refine ⟨r, ?_⟩
    have hq0 : q ∈ Qg g w (i + 1) := by rw [hq]; exact List.mem_cons_self ..
    obtain ⟨q1, q2, q3⟩ := Qg_mem.1 hq0
    have hr := Qg_rises g w (i + 1)
    rw [hq] at hp hr
    have hle : q ≤ p := by
      rcases List.mem_cons.1 hp with rfl | h
      · exact Nat.le_refl _
      · exact Nat.le_of_lt ((List.pairwise_cons.1 hr).1 p h)
    congr 1
    rcases Nat.lt_or_ge q p with h | h
    · have := q3 p hs.2.1 h
      have := (hs.2.2 q q2 q1).1
      omega
    · omega
end Go.Proofs.YtlnhijgieblmgaaDoor
