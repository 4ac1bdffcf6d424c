/-
  Attempts, in plain terms: the reference's Allowed and Earliest; the example; the law AttemptsAllowed. No program is named.
-/
import Derived.Test.YtmjmoogldbejoaaL2
import Derived.Test.YtmjmoogldbejoaaWAM
set_option linter.unusedVariables false
set_option linter.unusedSimpArgs false
namespace Go.Proofs.Ytmjmoogldbejoaa
open Go.RowKit Go.Sort
def r0 : Rule := ⟨2, 5, 0, 2⟩
def l0 : List Att := [⟨1, 0, 50⟩, ⟨2, 0, 80⟩, ⟨3, 0, 71⟩]
theorem final0 : finalL r0 l0 = (76, 0) := by decide +kernel
theorem counting0 : countingL r0 l0 = [2, 3] := by
  have h : (chosenL r0 l0).map Att.num = [2, 3] := by decide +kernel
  unfold countingL
  rw [if_pos (by decide +kernel), h]
  exact List.mergeSort_of_pairwise (by decide +kernel)
theorem needed0 : NeededIs r0 l0 85 89 true := by
  unfold NeededIs
  rw [if_neg (by decide +kernel), if_neg (by decide +kernel)]
  decide +kernel
theorem awake_m : m_assessorlaw52_awake = some true := by
  unfold m_assessorlaw52_awake
  have e : ([(Att.mk 1 0 50), (Att.mk 2 0 80), (Att.mk 3 0 71)] : List Att) = l0 := rfl
  have er : (Rule.mk 2 5 0 2) = r0 := rfl
  rw [e, er, final_m r0 l0 (by decide), counting_m r0 l0 (by decide), final0, counting0]
  obtain ⟨k, ok, h1, h2⟩ := needed_m r0 l0 85 (by decide)
  obtain ⟨rfl, rfl⟩ := needed_unique h2 needed0
  rw [h1]
  decide +kernel
theorem last_r (l : List Att) (hl : l.length ≤ 1000000) (h : 0 < l.length) : ∃ a, (inK .i64 ((l.length : Int) - 1)) = some ((l.length : Int) - 1) ∧ idx l ((l.length : Int) - 1) = some a ∧ a.tick = lastT l := by
  obtain ⟨n, hn⟩ : ∃ n, l.length = n + 1 := ⟨l.length - 1, by omega⟩
  obtain ⟨a, ha, e⟩ := last_at hn
  refine ⟨a, inK_ok _ (by omega) (by omega), ?_, e.symm⟩
  rw [show (l.length : Int) - 1 = (n : Int) by omega, idx_nat ha]
theorem rallowed_m (r : Rule) (l : List Att) (t : Int) (hl : l.length ≤ 1000000) : m_assessorref52_Allowed r l t = some (allowedE r l t) := by
  unfold m_assessorref52_Allowed allowedE
  rw [rvalid_m r l hl]
  cases hv : validB r l with
  | false => simp
  | true =>
    obtain ⟨t1, t2, t3, t4⟩ := valid_last hv
    simp only [Option.bind_some, time_m, Bool.not_true, Bool.false_eq_true, if_false, Bool.true_eq_false]
    rcases Nat.eq_zero_or_pos l.length with h0 | h0
    · obtain rfl := List.eq_nil_of_length_eq_zero h0
      have e2 : lastT [] = 0 := rfl
      have e3 : nextT r [] = 0 := rfl
      have hi := isTime_iff t
      cases h1 : isTime t with
      | false => simp
      | true =>
        have := hi.1 h1
        by_cases h3 : (0 : Int) = r.most
        · simp [e2, h3]; omega
        · simp [e2, e3, h3, show ¬ t < 0 by omega]
    · have e1 : 0 < (l.length : Int) := by omega
      obtain ⟨a, i1, i2, i3⟩ := last_r l hl h0
      have e3 : nextT r l = lastT l + r.pause := by unfold nextT; rw [if_neg (by omega)]
      simp only [i1, i2, i3, e1, e3, Option.bind_some, decide_true, if_true, inK_ok (lastT l + r.pause) (by omega) (by omega)]
      cases h1 : isTime t <;> by_cases h2 : t < lastT l <;> by_cases h3 : (l.length : Int) = r.most <;> by_cases h4 : t < lastT l + r.pause <;> simp [h2, h3, h4]
theorem rearliest_m (r : Rule) (l : List Att) (hl : l.length ≤ 1000000) : m_assessorref52_Earliest r l = some ((earliestT r l).getD 0, (earliestT r l).isSome) := by
  unfold m_assessorref52_Earliest earliestT
  rw [rvalid_m r l hl]
  cases hv : validB r l with
  | false => simp
  | true =>
    obtain ⟨t1, t2, t3, t4⟩ := valid_last hv
    simp only [Option.bind_some, time_m]
    rcases Nat.eq_zero_or_pos l.length with h0 | h0
    · have e1 : ¬ (0 < l.length) := by omega
      have e3 : nextT r l = 0 := by unfold nextT; rw [if_pos h0]
      have ht : isTime 0 = true := rfl
      by_cases h3 : (l.length : Int) = r.most
      · simp [h3]
      · simp [e1, e3, h3, ht]
    · have e1 : 0 < (l.length : Int) := by omega
      obtain ⟨a, i1, i2, i3⟩ := last_r l hl h0
      have e3 : nextT r l = lastT l + r.pause := by unfold nextT; rw [if_neg (by omega)]
      simp only [i1, i2, i3, e1, e3, Option.bind_some, decide_true, if_true, inK_ok (lastT l + r.pause) (by omega) (by omega)]
      by_cases h3 : (l.length : Int) = r.most <;> cases h2 : isTime (lastT l + r.pause) <;> simp [h3]
theorem law_AttemptsAllowed (p0 : Rule) (p1 : (List Att)) (p2 : Int) (h0 : (fun a : Rule => I64 a.kind ∧ I64 a.most ∧ I64 a.pause ∧ I64 a.keep) p0) (h1 : LW (fun a : Att => I64 a.num ∧ I64 a.tick ∧ I64 a.pts) p1) (h2 : (Lit.int .i64 p2).wf = true) : m_assessorlaw52_AttemptsAllowed p0 p1 p2 = some true := by
  unfold m_assessorlaw52_AttemptsAllowed
  rw [awake_m]
  simp only [Option.bind_some, Bool.not_true, Bool.false_eq_true, if_false]
  by_cases h : 20 < (p1.length : Int)
  · simp [h]
  · simp only [h, decide_false, Bool.false_eq_true, if_false]
    rw [earliest_m p0 p1 (by omega), rearliest_m p0 p1 (by omega), valid_m p0 p1 (by omega), rvalid_m p0 p1 (by omega), allowed_m p0 p1 p2 (by omega), rallowed_m p0 p1 p2 (by omega)]
    simp
end Go.Proofs.Ytmjmoogldbejoaa
