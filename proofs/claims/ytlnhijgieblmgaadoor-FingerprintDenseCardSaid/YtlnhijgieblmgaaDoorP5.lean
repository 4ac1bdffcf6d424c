/-
  FingerprintDense, as a plain law. No program is named.
-/
import Derived.Test.YtlnhijgieblmgaaDoorPA
import Derived.Test.YtlnhijgieblmgaaDoorWDM
set_option linter.unusedVariables false
set_option linter.unusedSimpArgs false
namespace Go.Proofs.YtlnhijgieblmgaaDoor
open Go.RowKit
/-- The place ahead of the k-th one that is chosen. -/
def bef (O : List Nat) : Nat → Int
  | 0 => -1
  | k + 1 => ((O.getD k 0 : Nat) : Int)
theorem getD_of {O : List Nat} {k a : Nat} (h : O[k]? = some a) : O.getD k 0 = a := by simp [List.getD_eq_getElem?_getD, h]
theorem rise_at {O : List Nat} (h : O.Pairwise (· < ·)) {i j a b : Nat} (hi : O[i]? = some a) (hj : O[j]? = some b) (hij : i < j) : a < b := by
  obtain ⟨h1, rfl⟩ := List.getElem?_eq_some_iff.1 hi
  obtain ⟨h2, rfl⟩ := List.getElem?_eq_some_iff.1 hj
  exact List.pairwise_iff_getElem.1 h i j h1 h2 hij
/-- Nothing lies between two successive places. -/
theorem between {O : List Nat} (h : O.Pairwise (· < ·)) {k a b x : Nat} (ha : O[k]? = some a) (hb : O[k + 1]? = some b) (hx : x ∈ O) : x ≤ a ∨ b ≤ x := by
  obtain ⟨i, hi⟩ := List.getElem?_of_mem hx
  rcases Nat.lt_trichotomy i k with h1 | h1 | h1
  · exact Or.inl (Nat.le_of_lt (rise_at h hi ha h1))
  · subst h1; rw [ha] at hi; exact Or.inl (by have := Option.some.inj hi; omega)
  · rcases Nat.lt_trichotomy i (k + 1) with h2 | h2 | h2
    · omega
    · subst h2; rw [hb] at hi; exact Or.inr (by have := Option.some.inj hi; omega)
    · exact Or.inr (Nat.le_of_lt (rise_at h hb hi h2))
theorem first_le {O : List Nat} (h : O.Pairwise (· < ·)) {a x : Nat} (ha : O[0]? = some a) (hx : x ∈ O) : a ≤ x := by
  obtain ⟨i, hi⟩ := List.getElem?_of_mem hx
  rcases Nat.eq_zero_or_pos i with h0 | h0
  · subst h0; rw [ha] at hi; have := Option.some.inj hi; omega
  · exact Nat.le_of_lt (rise_at h ha hi h0)
theorem last_ge {O : List Nat} (h : O.Pairwise (· < ·)) {k a x : Nat} (hk : O.length = k + 1) (ha : O[k]? = some a) (hx : x ∈ O) : x ≤ a := by
  obtain ⟨i, hi⟩ := List.getElem?_of_mem hx
  have := (List.getElem?_eq_some_iff.1 hi).1
  by_cases h0 : i = k
  · subst h0; rw [ha] at hi; have := Option.some.inj hi; omega
  · exact Nat.le_of_lt (rise_at h hi ha (by omega))
theorem law_FingerprintDense (p0 : (List Int)) (p1 : Int) (h0 : LW I64 p0) (h1 : (Lit.int .i64 p1).wf = true) : m_assessorlaw43_FingerprintDense p0 p1 = some true := by
  unfold m_assessorlaw43_FingerprintDense
  rw [awake_m]
  simp only [Option.bind_some, Bool.not_true, Bool.false_eq_true, if_false]
  split
  · rfl
  · rename_i hc
    simp at hc
    obtain ⟨K, rfl⟩ : ∃ K : Nat, p1 = K := ⟨p1.toNat, by omega⟩
    have hk : okK (K : Int) = true := by rw [okK_iff]; omega
    have he : winE p0 K = (winL p0 (min K p0.length), 0) := by
      unfold winE
      rw [hk]
      simp only [Bool.true_eq_false, if_false, reduceCtorEq]
      rw [if_neg (by omega)]; rfl
    rw [Winnow_m, he]
    simp only [Option.bind_some]
    have hO : winL p0 (min K p0.length) = (Og (gOf p0) (min K p0.length) p0.length).map (mkG (gOf p0)) := rfl
    have hr := Og_rises (gOf p0) (min K p0.length) p0.length
    have hmem := fun x => Og_mem (g := gOf p0) (w := min K p0.length) (i := p0.length) (p := x)
    have hll : (winL p0 (min K p0.length)).length = (Og (gOf p0) (min K p0.length) p0.length).length := by rw [hO, List.length_map]
    have hget : ∀ (k a : Nat), (Og (gOf p0) (min K p0.length) p0.length)[k]? = some a → (winL p0 (min K p0.length))[k]? = some (mkG (gOf p0) a) := by
      intro k a h; rw [hO, List.getElem?_map, h]; rfl
    have hin : ∀ j, 0 < p0.length → j + min K p0.length ≤ p0.length → lmG (gOf p0) j (min K p0.length) ∈ Og (gOf p0) (min K p0.length) p0.length := by
      intro j hn hj
      have := lm_spec (gOf p0) j (min K p0.length) (by omega)
      exact (hmem _).2 ⟨by have := this.2.1; omega, j, hj, rfl⟩
    generalize winL p0 (min K p0.length) = l at hll hget ⊢
    clear hO he
    have hw1 : 0 < p0.length → 1 ≤ min K p0.length := by omega
    have hWK : min K p0.length ≤ K := by omega
    have hWn : min K p0.length ≤ p0.length := by omega
    have hWe : K ≤ p0.length → min K p0.length = K := by omega
    generalize min K p0.length = W at hr hmem hll hget hin hw1 hWK hWn hWe
    have hol : (Og (gOf p0) W p0.length).length ≤ p0.length := by
      unfold Og
      have := List.length_filter_le (Cg (gOf p0) W (p0.length + 1 - W)) (List.range p0.length)
      rw [List.length_range] at this; exact this
    generalize hOO : Og (gOf p0) W p0.length = O at hr hmem hll hget hin hol
    have hne : 0 < p0.length → O ≠ [] := fun hn e => by have := hin 0 hn (by omega); rw [e] at this; simp at this
    have hcond : (((!decide True) || ((decide (0 < (p0.length : Int))) && (decide ((l.length : Int) = 0)))) = true) = False := by
      simp only [decide_true, Bool.not_true, Bool.false_or, Bool.and_eq_true, decide_eq_true_eq, eq_iff_iff, iff_false]
      rintro ⟨h, h2⟩
      exact hne (by omega) (List.eq_nil_of_length_eq_zero (by omega))
    rw [if_neg (by rw [hcond]; exact id)]
    have hgap : ∀ k a b, O[k]? = some a → O[k + 1]? = some b → b ≤ a + W := by
      intro k a b ha hb
      apply Classical.byContradiction
      intro hn
      have hbn := ((hmem b).1 (List.mem_of_getElem? hb)).1
      have hx := hin (a + 1) (by omega) (by omega)
      have hs := lm_spec (gOf p0) (a + 1) W (hw1 (by omega))
      rcases between hr ha hb hx with h | h
      · have := hs.1; omega
      · have := hs.2.1; omega
    refine bind_loop (fun k => (bef O k, (k : Int))) l.length (.brk (bef O l.length)) rfl (fun k hk2 => ?_) ?_ ?_
    · obtain ⟨a, ha⟩ : ∃ a, O[k]? = some a := get_of_lt (by omega)
      have han := ((hmem a).1 (List.mem_of_getElem? ha)).1
      have hbef : bef O k < (a : Int) ∧ -1 ≤ bef O k := by
        cases k with
        | zero => simp [bef]; omega
        | succ k =>
          obtain ⟨b, hb⟩ : ∃ b, O[k]? = some b := get_of_lt (by omega)
          have := rise_at hr hb ha (by omega)
          simp only [bef, getD_of hb]; omega
      simp only [m_assessorlaw43_FingerprintDense_lp1]
      rw [if_pos (decide_eq_true (by omega)), idx_nat (hget k a ha)]
      simp only [Option.bind_some, mkG]
      rw [if_neg (by simp; omega), idx_nat (gOf_at han)]
      simp only [Option.bind_some, decide_true, Bool.not_true, Bool.false_eq_true, if_false]
      have hm : (((if (decide (0 < (k : Int))) = true then (inK .i64 ((a : Int) - bef O k)).bind fun x5 => some (decide ((K : Int) < x5)) else some false) : Option Bool).bind fun m3 => some m3) = some false := by
        cases k with
        | zero => simp
        | succ k =>
          obtain ⟨b, hb⟩ : ∃ b, O[k]? = some b := get_of_lt (by omega)
          have hg := hgap k b a hb ha
          have hlt := rise_at hr hb ha (by omega)
          rw [if_pos (decide_eq_true (by omega)), inK_eq (by omega)]
          simp only [Option.bind_some, bef, getD_of hb]
          rw [decide_eq_false (by omega)]
      rw [hm]
      simp only [Option.bind_some, Bool.false_eq_true, if_false]
      rw [inK_succ (by omega)]
      simp [bef, ha]
    · simp only [m_assessorlaw43_FingerprintDense_lp1]
      rw [if_neg (by simp)]
    · simp only
      by_cases hn : p0.length = 0
      · have : O = [] := List.eq_nil_iff_forall_not_mem.2 fun x hx => by have := ((hmem x).1 hx).1; omega
        have hl0 : l.length = 0 := by rw [hll, this]; rfl
        simp [hn, hl0]
      · have hn' : 0 < p0.length := by omega
        have hO1 : 0 < O.length := List.length_pos_iff.2 (hne hn')
        rw [if_neg (by simp only [Bool.and_eq_true, decide_eq_true_eq]; omega), if_pos (decide_eq_true (by omega))]
        by_cases hlt : p0.length < K
        · rw [if_pos (decide_eq_true (by omega))]; rfl
        · have hWe := hWe (by omega)
          rw [if_neg (by rw [decide_eq_true_eq]; omega)]
          obtain ⟨a, ha⟩ : ∃ a, O[0]? = some a := get_of_lt hO1
          have hfa := first_le hr ha (hin 0 hn' (by omega))
          have hs0 := lm_spec (gOf p0) 0 W (hw1 hn')
          obtain ⟨z, hz⟩ : ∃ z, O[O.length - 1]? = some z := get_of_lt (by omega)
          have hlz := last_ge hr (k := O.length - 1) (by omega) hz (hin (p0.length - W) hn' (by omega))
          have hsn := lm_spec (gOf p0) (p0.length - W) W (hw1 hn')
          have hb : bef O l.length = (z : Int) := by
            rw [hll]
            obtain ⟨k, hk⟩ : ∃ k, O.length = k + 1 := ⟨O.length - 1, by omega⟩
            rw [hk] at hz ⊢
            simp only [Nat.add_sub_cancel] at hz
            simp only [bef, getD_of hz]
          have hzn := ((hmem z).1 (List.mem_of_getElem? hz)).1
          rw [idx_of (a := mkG (gOf p0) a) (by decide) (hget 0 a ha), hb]
          simp only [Option.bind_some, mkG]
          rw [if_pos (decide_eq_true (by have := hs0.2.1; omega)), inK_eq (by omega)]
          simp only [Option.bind_some]
          rw [decide_eq_true (by have := hsn.1; omega)]
end Go.Proofs.YtlnhijgieblmgaaDoor
