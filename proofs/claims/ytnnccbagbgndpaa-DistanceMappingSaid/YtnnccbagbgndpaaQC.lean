/-
  The laws on the metric and the bounds.
-/
import Derived.Test.YtnnccbagbgndpaaQB
import Derived.Test.YtnnccbagbgndpaaReadN
import Derived.Test.YtnnccbagbgndpaaWTM
import Derived.Test.YtnnccbagbgndpaaWBM
set_option linter.unusedVariables false
set_option linter.unusedSimpArgs false
namespace Go.Proofs.Ytnnccbagbgndpaa
open Go.RowKit
theorem td_small (a b : Node) : td a b ≤ cntN a + cntN b := by
  have h := fd_app [toT a] [] [] [toT b]
  simp only [List.append_nil, List.nil_append] at h
  rw [fd_l0, fd_r0, szL_one, szL_one, sz_toT, sz_toT] at h
  exact h
theorem td_tri (a b c : Node) : td a c ≤ td a b + td b c := fd_tri _ _ _
theorem td_less (a b : Node) : td a b + 1 ≤ cntN a + cntN b := by
  have h := fd_tree_le ⟨a.kind, a.text⟩ ⟨b.kind, b.text⟩ (toR a.kids) (toR b.kids)
  rw [← toT_eq, ← toT_eq, sz_toR, sz_toR] at h
  have h1 := cntN_eq a
  have h2 := cntN_eq b
  unfold td
  omega
theorem law_DistanceMetric (p0 : Node) (p1 : Node) (p2 : Node) (p3 : Int) (h0 : NodeWf p0) (h1 : NodeWf p1) (h2 : NodeWf p2) (h3 : (Lit.int .i64 p3).wf = true) : m_assessorlaw37_DistanceMetric p0 p1 p2 p3 = some true := by
  unfold m_assessorlaw37_DistanceMetric
  rw [awake_m]
  simp only [Option.bind_some]
  obtain ⟨x, hx, k1⟩ := few_m p0 p1 20 (by omega) (by omega)
  obtain ⟨y, hy, k2⟩ := few_m p2 p2 20 (by omega) (by omega)
  rw [if_neg (by simp), hx, hy]
  simp only [Option.bind_some]
  cases x with
  | false => simp
  | true =>
    cases y with
    | false => simp
    | true =>
      have c0 := k1 rfl
      have c2 := k2 rfl
      simp only [Bool.not_true, Bool.false_eq_true, if_false, Option.bind_some]
      rw [Distance_m p0 p1 (by omega) (by omega), Distance_m p1 p0 (by omega) (by omega), Distance_m p1 p2 (by omega) (by omega), Distance_m p0 p2 (by omega) (by omega), Within_m p0 p1 p3 (by omega) (by omega)]
      simp only [Option.bind_some]
      obtain ⟨r, hr, hiff⟩ := Same_m p0 p1 (by omega)
      have s1 := td_small p0 p1
      have s2 := td_small p1 p2
      have ht := td_tri p0 p1 p2
      rw [if_pos (by simp [td_comm]), inK_eq (by omega)]
      simp only [Option.bind_some]
      rw [if_pos (by simp; omega), hr]
      simp only [Option.bind_some, Option.some.injEq]
      have : (decide (((td p0 p1 : Nat) : Int) = 0) == r) = true := by
        cases r with
        | true => have := hiff.1 rfl; rw [this]; rfl
        | false =>
          have : ¬ td p0 p1 = 0 := fun e => by have := hiff.2 e; cases this
          simp [this]
      rw [this]; simp
theorem law_DistanceBounds (p0 : Node) (p1 : Node) (h0 : NodeWf p0) (h1 : NodeWf p1) : m_assessorlaw37_DistanceBounds p0 p1 = some true := by
  unfold m_assessorlaw37_DistanceBounds
  rw [awake_m]
  simp only [Option.bind_some]
  obtain ⟨x, hx, k1⟩ := few_m p0 p1 30 (by omega) (by omega)
  rw [if_neg (by simp), hx]
  simp only [Option.bind_some]
  cases x with
  | false => simp
  | true =>
    have c0 := k1 rfl
    rw [if_neg (by simp)]
    rw [Distance_m p0 p1 (by omega) (by omega), Count_m p0 (by omega), Count_m p1 (by omega), Bound_m p0 p1 (by omega) (by omega), Bound_m p0 p0 (by omega) (by omega), Bound_m p1 p0 (by omega) (by omega)]
    simp only [Option.bind_some]
    have b1 := bound_le p0 p1
    have b2 := inter_le (plabs p0) (plabs p1)
    have b3 := inter_le (plabs p1) (plabs p0)
    have b4 := inter_self (plabs p0)
    have b5 := td_less p0 p1
    rw [inter_comm] at b3
    rw [plabs_len] at b2 b3 b4
    rw [if_pos (by simp), inK_eq (by omega)]
    simp only [Option.bind_some]
    rw [if_pos (by rw [Bool.and_eq_true, decide_eq_true_eq, decide_eq_true_eq]; constructor <;> omega), inK_eq (by omega)]
    simp only [Option.bind_some]
    rw [inK_eq (by omega)]
    simp only [Option.bind_some]
    rw [if_pos (by rw [decide_eq_true_eq]; omega)]
    simp only [Option.bind_some]
    rw [if_pos (by rw [decide_eq_true_eq, b4]; omega)]
    simp only [Option.bind_some, Option.some.injEq, decide_eq_true_eq]
    rw [inter_comm (plabs p1)]
    omega
end Go.Proofs.Ytnnccbagbgndpaa
