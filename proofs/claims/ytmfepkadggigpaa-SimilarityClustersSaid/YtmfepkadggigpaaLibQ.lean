/-
  How pairs are ordered: a strict weak order, and the one sorted list of pairs whose numbers differ.
-/
import Derived.Test.YtmfepkadggigpaaLibP
set_option linter.unusedVariables false
set_option linter.unusedSimpArgs false
namespace Go.Proofs.Ytmfepkadggigpaa
open Go.RowKit
theorem prT_pos (x : Pair) : 0 < prT x := by unfold prT; omega
theorem frac_tr {s1 t1 s2 t2 s3 t3 : Int} (h1 : 0 < t1) (h2 : 0 < t2) (h3 : 0 < t3) (a : s1 * t2 ≤ s2 * t1) (b : s2 * t3 ≤ s3 * t2) : s1 * t3 ≤ s3 * t1 ∧ (s1 * t2 < s2 * t1 ∨ s2 * t3 < s3 * t2 → s1 * t3 < s3 * t1) := by
  have e1 : s1 * t3 * t2 = s1 * t2 * t3 := by rw [Int.mul_assoc, Int.mul_comm t3 t2, ← Int.mul_assoc]
  have e2 : s2 * t1 * t3 = s2 * t3 * t1 := by rw [Int.mul_assoc, Int.mul_comm t1 t3, ← Int.mul_assoc]
  have e3 : s3 * t2 * t1 = s3 * t1 * t2 := by rw [Int.mul_assoc, Int.mul_comm t2 t1, ← Int.mul_assoc]
  have a1 := Int.mul_le_mul_of_nonneg_right a (Int.le_of_lt h3)
  have b1 := Int.mul_le_mul_of_nonneg_right b (Int.le_of_lt h1)
  refine ⟨Int.le_of_mul_le_mul_right (by omega) h2, ?_⟩
  rintro (h | h)
  · have a2 := Int.mul_lt_mul_of_pos_right h h3
    exact Int.lt_of_mul_lt_mul_right (by omega) (Int.le_of_lt h2)
  · have b2 := Int.mul_lt_mul_of_pos_right h h1
    exact Int.lt_of_mul_lt_mul_right (by omega) (Int.le_of_lt h2)
/-- Not behind. -/
def prLe (x y : Pair) : Bool := !prLt y x
theorem prLe_iff {x y : Pair} : prLe x y = true ↔ (y.shared * prT x < x.shared * prT y ∨ y.shared * prT x = x.shared * prT y ∧ (x.a < y.a ∨ x.a = y.a ∧ x.b ≤ y.b)) := by
  unfold prLe prLt
  simp only [Bool.not_eq_true', decide_eq_false_iff_not]
  omega
theorem prLe_trans (x y z : Pair) (h1 : prLe x y = true) (h2 : prLe y z = true) : prLe x z = true := by
  rw [prLe_iff] at *
  have f := frac_tr (s1 := z.shared) (t1 := prT z) (s2 := y.shared) (t2 := prT y) (s3 := x.shared) (t3 := prT x) (prT_pos z) (prT_pos y) (prT_pos x) (by omega) (by omega)
  obtain ⟨f1, f2⟩ := f
  rcases h1 with h1 | ⟨h1, h1'⟩
  · exact Or.inl (f2 (Or.inr h1))
  · rcases h2 with h2 | ⟨h2, h2'⟩
    · exact Or.inl (f2 (Or.inl h2))
    · rcases Int.lt_or_eq_of_le f1 with f1 | f1
      · exact Or.inl f1
      · exact Or.inr ⟨f1, by omega⟩
theorem prLe_total (x y : Pair) : (prLe x y || prLe y x) = true := by
  rw [Bool.or_eq_true, prLe_iff, prLe_iff]
  omega
theorem prLe_anti {x y : Pair} (h1 : prLe x y = true) (h2 : prLe y x = true) : x.a = y.a ∧ x.b = y.b := by
  rw [prLe_iff] at *
  omega
/-- Sorted, it is the one that is sorted. -/
theorem prSorted {l m : List Pair} (hn : (l.map fun p => (p.a, p.b)).Nodup) (hp : m.Perm l) (hs : m.Pairwise fun x y => prLe x y = true) : m = l.mergeSort fun x y => !prLt y x := by
  have h2 : (l.mergeSort prLe).Pairwise fun x y => prLe x y = true := List.pairwise_mergeSort prLe_trans prLe_total l
  refine List.Perm.eq_of_pairwise (le := fun x y => prLe x y = true) (fun x y hx hy h3 h4 => ?_) hs h2 (hp.trans (List.mergeSort_perm _ _).symm)
  have hx' := hp.mem_iff.1 hx
  have hy' : y ∈ l := (List.mergeSort_perm l prLe).mem_iff.1 hy
  obtain ⟨e1, e2⟩ := prLe_anti h3 h4
  obtain ⟨i, hi⟩ := List.getElem?_of_mem hx'
  obtain ⟨j, hj⟩ := List.getElem?_of_mem hy'
  have h5 : (l.map fun p => (p.a, p.b))[i]? = (l.map fun p => (p.a, p.b))[j]? := by
    rw [List.getElem?_map, List.getElem?_map, hi, hj]; simp [e1, e2]
  have hlt : i < (l.map fun p => (p.a, p.b)).length := by rw [List.length_map]; exact (List.getElem?_eq_some_iff.1 hi).1
  have := (List.getElem?_inj hlt hn).1 h5
  rw [this, hj] at hi
  exact (Option.some.inj hi).symm
end Go.Proofs.Ytmfepkadggigpaa
