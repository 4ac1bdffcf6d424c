/-
  Plain laws of the attempts' order: the stable sort gives the order by points (downwards) and numbers (upwards).
-/
import Derived.Test.YtmjmoogldbejoaaP53
set_option linter.unusedVariables false
set_option linter.unusedSimpArgs false
namespace Go.Proofs.Ytmjmoogldbejoaa
open Go.RowKit Go.Sort

section
variable {α : Type} [Inhabited α]
/-- What an insertion does with places: those up to i among themselves; all behind i lie still. -/
theorem insInner_mem (lt : α → α → Bool) (a : Nat) : ∀ (i : Nat) (d : Array α), i < d.size → (∀ p, p ≤ i → ∃ q, q ≤ i ∧ (insInner lt a i d)[p]! = d[q]!) ∧ (∀ p, i < p → (insInner lt a i d)[p]! = d[p]!)
  | 0, d, _ => ⟨fun p hp => ⟨p, hp, rfl⟩, fun _ _ => rfl⟩
  | j + 1, d, h => by
    rw [insInner]
    split
    · have ih := insInner_mem lt a j (swp d (j + 1) j) (by rw [size_swp]; omega)
      have sw : ∀ q, q ≤ j + 1 → ∃ q', q' ≤ j + 1 ∧ (swp d (j + 1) j)[q]! = d[q']! := fun q hq => by
        by_cases h1 : q = j + 1
        · subst h1; exact ⟨j, by omega, swp_left d _ _ h (by omega)⟩
        · by_cases h2 : q = j
          · subst h2; exact ⟨q + 1, by omega, swp_right d _ _ (by omega)⟩
          · exact ⟨q, hq, swp_other d _ _ _ h1 h2⟩
      constructor
      · intro p hp
        by_cases hp2 : p ≤ j
        · obtain ⟨q, hq, e⟩ := ih.1 p hp2
          rw [e]
          exact sw q (by omega)
        · rw [ih.2 p (by omega)]
          exact sw p hp
      · intro p hp
        rw [ih.2 p (by omega), swp_other d _ _ _ (by omega) (by omega)]
    · exact ⟨fun p hp => ⟨p, hp, rfl⟩, fun _ _ => rfl⟩
/-- Two orders that agree on the element inserted give the same insertion. -/
theorem insInner_congr (l1 l2 : α → α → Bool) (a : Nat) : ∀ (i : Nat) (d : Array α), i < d.size → (∀ p, p < i → l1 d[i]! d[p]! = l2 d[i]! d[p]!) → insInner l1 a i d = insInner l2 a i d
  | 0, d, _, _ => rfl
  | j + 1, d, h, hc => by
    rw [insInner, insInner, hc j (by omega)]
    split
    · refine insInner_congr l1 l2 a j _ (by rw [size_swp]; omega) ?_
      intro p hp
      rw [swp_right d _ _ (by omega), swp_other d _ _ _ (by omega) (by omega)]
      exact hc p (by omega)
    · rfl
theorem size_insInner2 (lt : α → α → Bool) (a : Nat) : ∀ (i : Nat) (d : Array α), (insInner lt a i d).size = d.size
  | 0, _ => rfl
  | j + 1, d => by
    rw [insInner]
    split
    · rw [size_insInner2, size_swp]
    · rfl
theorem insOuter_congr (l1 l2 : α → α → Bool) (R : α → α → Prop) (hR : ∀ x y, R y x → l1 x y = l2 x y) (b : Nat) : ∀ (m i : Nat) (d : Array α), b - i = m → b ≤ d.size → (∀ p q, p < q → i ≤ q → q < b → R d[p]! d[q]!) → insOuter l1 0 b i d = insOuter l2 0 b i d := by
  intro m
  induction m with
  | zero =>
    intro i d hm _ _
    unfold insOuter
    rw [if_neg (by omega : ¬ i < b), if_neg (by omega : ¬ i < b)]
  | succ m ih =>
    intro i d hm hb h
    unfold insOuter
    rw [if_pos (by omega : i < b), if_pos (by omega : i < b)]
    rw [insInner_congr l1 l2 0 i d (by omega) fun p hp => hR _ _ (h p i hp (Nat.le_refl _) (by omega))]
    have hm2 := insInner_mem l2 0 i d (by omega)
    refine ih (i + 1) _ (by omega) (by rw [size_insInner2]; exact hb) ?_
    intro p q hpq hq hqb
    rw [hm2.2 q (by omega)]
    by_cases hp : p ≤ i
    · obtain ⟨p', hp', e⟩ := hm2.1 p hp
      rw [e]
      exact h p' q (by omega) (by omega) hqb
    · rw [hm2.2 p (by omega)]
      exact h p q hpq (by omega) hqb
end

/-- Points downwards, then numbers upwards. -/
def lexA (x y : Att) : Bool := decide (y.pts < x.pts ∨ (y.pts = x.pts ∧ x.num < y.num))
theorem swoL : SWO lexA := ⟨fun x => by simp [lexA], fun x y z h1 h2 => by simp [lexA] at *; omega, fun x y z h1 h2 => by simp [lexA] at *; omega⟩
/-- Numbers rise along the list. -/
def Rising (l : List Att) : Prop := l.Pairwise fun x y => x.num < y.num
theorem Rising.get {l : List Att} (h : Rising l) {p q : Nat} (hpq : p < q) (hq : q < l.length) : (l.toArray[p]!).num < (l.toArray[q]!).num := by
  have := List.pairwise_iff_getElem.1 h p q (by omega) hq hpq
  simpa [show p < l.length by omega, hq] using this
theorem sortA_eq {l : List Att} (h : Rising l) : sortA l = (Sort.insertionSort lexA l.toArray 0 l.length).toList := by
  unfold sortA insertionSort
  rw [insOuter_congr (ltOf cfA) lexA (fun y x => y.num < x.num) (fun x y hxy => by
    rw [ltA_eq]
    unfold lexA
    congr 1
    simp only [eq_iff_iff]
    omega) l.length _ 1 l.toArray rfl (by simp) fun p q hpq _ hq => h.get hpq hq]
theorem sortA_lex {l : List Att} (h : Rising l) : (sortA l).Pairwise fun x y => lexA y x = false := by
  rw [sortA_eq h]
  have hh := (insertionSort_holds (lt := lexA) swoL l.toArray 0 l.length (Nat.zero_le _) (by simp))
  have hs : (Sort.insertionSort lexA l.toArray 0 l.length).size = l.length := by simpa using hh.1.1
  rw [List.pairwise_iff_getElem]
  intro i j hi hj hij
  have := hh.2 i j (Nat.zero_le _) hij (by simpa [hs] using hj)
  simp only [Array.length_toList] at hi hj
  simpa [hi, hj] using this
end Go.Proofs.Ytmjmoogldbejoaa
