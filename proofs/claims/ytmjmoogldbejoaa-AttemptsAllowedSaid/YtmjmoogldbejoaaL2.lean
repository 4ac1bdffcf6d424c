/-
  Plain laws: what the best attempts' points sum up to rises with each attempt's points.
-/
import Derived.Test.YtmjmoogldbejoaaL1
set_option linter.unusedVariables false
set_option linter.unusedSimpArgs false
namespace Go.Proofs.Ytmjmoogldbejoaa
open Go.RowKit Go.Sort

theorem desc_ge {t : Int} : ∀ {s : List Int}, (s.Pairwise fun x y => y ≤ x) → ∀ (j : Nat) (x : Int), s[j]? = some x → (t ≤ x ↔ j < s.countP (fun y => decide (t ≤ y)))
  | [], _, j, x, h => by simp at h
  | a :: s, hs, 0, x, h => by
    simp only [List.getElem?_cons_zero, Option.some.injEq] at h
    subst h
    rw [List.countP_pos_iff]
    constructor
    · intro h; exact ⟨a, by simp, by simpa using h⟩
    · rintro ⟨y, hy, hty⟩
      simp only [decide_eq_true_eq] at hty
      rcases List.mem_cons.1 hy with rfl | hy
      · exact hty
      · have := (List.pairwise_cons.1 hs).1 y hy
        omega
  | a :: s, hs, j + 1, x, h => by
    simp only [List.getElem?_cons_succ] at h
    have ih := desc_ge (t := t) (List.pairwise_cons.1 hs).2 j x h
    have ha := (List.pairwise_cons.1 hs).1 x (List.mem_of_getElem? h)
    rw [List.countP_cons, ih]
    by_cases hta : t ≤ a
    · simp [hta]
    · have : ¬ t ≤ x := by omega
      rw [ih] at this
      simp [hta]; omega
/-- Place by place. -/
def Dom (l m : List Int) : Prop := l.length = m.length ∧ ∀ (i : Nat) (x y : Int), l[i]? = some x → m[i]? = some y → x ≤ y
theorem Dom.nil : Dom [] [] := ⟨rfl, fun i x y h => by simp at h⟩
theorem Dom.cons_iff {a b : Int} {l m : List Int} : Dom (a :: l) (b :: m) ↔ a ≤ b ∧ Dom l m := by
  constructor
  · rintro ⟨h, hh⟩
    exact ⟨hh 0 a b rfl rfl, by simpa using h, fun i x y h1 h2 => hh (i + 1) x y (by simpa using h1) (by simpa using h2)⟩
  · rintro ⟨hab, h, hh⟩
    refine ⟨by simp [h], fun i x y h1 h2 => ?_⟩
    cases i with
    | zero => simp at h1 h2; omega
    | succ i => exact hh i x y (by simpa using h1) (by simpa using h2)
theorem Dom.countP {t : Int} : ∀ {l m : List Int}, Dom l m → l.countP (fun y => decide (t ≤ y)) ≤ m.countP (fun y => decide (t ≤ y))
  | [], [], _ => Nat.le_refl _
  | a :: l, [], h => by have := h.1; simp at this
  | [], a :: l, h => by have := h.1; simp at this
  | a :: l, b :: m, h => by
    obtain ⟨hab, h⟩ := Dom.cons_iff.1 h
    have ih := Dom.countP (t := t) h
    rw [List.countP_cons, List.countP_cons]
    by_cases h1 : t ≤ a
    · simp [h1, show t ≤ b by omega]; omega
    · simp [h1]; omega
theorem Dom.sum : ∀ {l m : List Int}, Dom l m → l.sum ≤ m.sum
  | [], [], _ => Int.le_refl _
  | a :: l, [], h => by have := h.1; simp at this
  | [], a :: l, h => by have := h.1; simp at this
  | a :: l, b :: m, h => by
    obtain ⟨hab, h⟩ := Dom.cons_iff.1 h
    have ih := Dom.sum h
    simp only [List.sum_cons]
    omega
theorem Dom.take {l m : List Int} (h : Dom l m) (k : Nat) : Dom (l.take k) (m.take k) := by
  refine ⟨by simp [h.1], fun i x y h1 h2 => ?_⟩
  rw [List.getElem?_take] at h1 h2
  split at h1 <;> simp_all
  exact h.2 i x y h1 h2
/-- The lists in order dominate each other as the lists do. -/
theorem Dom.sorted {l m s u : List Int} (h : Dom l m) (hs : s.Perm l) (hu : u.Perm m) (ds : s.Pairwise fun x y => y ≤ x) (du : u.Pairwise fun x y => y ≤ x) : Dom s u := by
  refine ⟨by rw [hs.length_eq, hu.length_eq, h.1], fun i x y h1 h2 => ?_⟩
  have a := (desc_ge (t := x) ds i x h1).1 (Int.le_refl _)
  rw [hs.countP_eq] at a
  have b := h.countP (t := x)
  rw [← hu.countP_eq] at b
  exact (desc_ge (t := x) du i y h2).2 (by omega)
theorem Dom.reverse {l m : List Int} (h : Dom l m) : Dom l.reverse m.reverse := by
  refine ⟨by simp [h.1], fun i x y h1 h2 => ?_⟩
  have hl : i < l.length := by have := (List.getElem?_eq_some_iff.1 h1).1; simpa using this
  rw [List.getElem?_reverse hl] at h1
  rw [List.getElem?_reverse (by rw [← h.1]; exact hl), ← h.1] at h2
  exact h.2 _ x y h1 h2
theorem sortA_desc (l : List Att) : ((sortA l).map Att.pts).Pairwise fun x y => y ≤ x := by
  rw [List.pairwise_map]
  have hh := (insertionSort_holds (lt := ltOf cfA) swoA l.toArray 0 l.length (Nat.zero_le _) (by simp))
  have hs : (Sort.insertionSort (ltOf cfA) l.toArray 0 l.length).size = l.length := by simpa using hh.1.1
  rw [List.pairwise_iff_getElem]
  intro i j hi hj hij
  unfold sortA at *
  have := hh.2 i j (Nat.zero_le _) hij (by simpa [hs] using hj)
  simp only [Array.length_toList] at hi hj
  rw [ltA_eq] at this
  simpa [hi, hj] using this
theorem chosen_dom (r : Rule) {l m : List Att} (h : Dom (l.map Att.pts) (m.map Att.pts)) : Dom ((chosenL r l).map Att.pts) ((chosenL r m).map Att.pts) := by
  unfold chosenL
  split
  · rw [List.map_take, List.map_take, List.map_reverse, List.map_reverse]
    exact h.reverse.take _
  · rw [List.map_take, List.map_take]
    exact (h.sorted ((sortA_perm l).map _) ((sortA_perm m).map _) (sortA_desc l) (sortA_desc m)).take _
/-- THE POINTS RISE WITH EACH ATTEMPT's. -/
theorem points_dom (r : Rule) {l m : List Att} (h : Dom (l.map Att.pts) (m.map Att.pts)) : pointsL r l ≤ pointsL r m := by
  have hd := chosen_dom r h
  have hl : (chosenL r l).length = (chosenL r m).length := by simpa using hd.1
  have hs := hd.sum
  unfold pointsL sumP
  rw [hl]
  split
  · exact Int.le_refl _
  · exact Int.ediv_le_ediv (by omega) (by omega)
theorem Dom.refl : ∀ (l : List Int), Dom l l := fun l => ⟨rfl, fun i x y h1 h2 => by rw [h1] at h2; simp at h2; omega⟩
theorem Dom.append {a b c d : List Int} (h : Dom a b) (k : Dom c d) : Dom (a ++ c) (b ++ d) := by
  refine ⟨by simp [h.1, k.1], fun i x y h1 h2 => ?_⟩
  rw [List.getElem?_append] at h1 h2
  rw [← h.1] at h2
  split at h1
  · rw [if_pos ‹_›] at h2; exact h.2 _ x y h1 h2
  · rw [if_neg ‹_›] at h2; exact k.2 _ x y h1 h2
theorem withP_mono (r : Rule) (l : List Att) {p q : Int} (h : p ≤ q) : withP r l p ≤ withP r l q := by
  unfold withP withL
  refine points_dom r ?_
  rw [List.map_append, List.map_append]
  exact (Dom.refl _).append (Dom.cons_iff.2 ⟨h, Dom.nil⟩)
/-- What Needed answers is one. -/
theorem needed_unique {r : Rule} {l : List Att} {goal k k' : Int} {ok ok' : Bool} (h : NeededIs r l goal k ok) (h' : NeededIs r l goal k' ok') : k = k' ∧ ok = ok' := by
  unfold NeededIs at h h'
  split at h
  · rw [if_pos ‹_›] at h'; simp [h, h']
  · rw [if_neg ‹_›] at h'
    split at h
    · rw [if_pos ‹_›] at h'; simp [h, h']
    · rw [if_neg ‹_›] at h'
      obtain ⟨o1, a1, a2, a3, a4⟩ := h
      obtain ⟨o2, b1, b2, b3, b4⟩ := h'
      refine ⟨?_, by rw [o1, o2]⟩
      rcases Int.lt_trichotomy k k' with hlt | heq | hlt
      · rcases b4 with b4 | b4
        · omega
        · have := withP_mono r l (p := k) (q := k' - 1) (by omega)
          omega
      · exact heq
      · rcases a4 with a4 | a4
        · omega
        · have := withP_mono r l (p := k') (q := k - 1) (by omega)
          omega
end Go.Proofs.Ytmjmoogldbejoaa
