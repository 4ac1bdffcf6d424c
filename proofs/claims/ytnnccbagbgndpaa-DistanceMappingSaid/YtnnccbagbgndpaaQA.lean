/-
  Sizes that are looked at, equal trees, the reference's count; the examples that each law checks first.
-/
import Derived.Test.YtnnccbagbgndpaaQ9
import Derived.Test.YtnnccbagbgndpaaRM
import Derived.Test.YtnnccbagbgndpaaWM
set_option linter.unusedVariables false
set_option linter.unusedSimpArgs false
namespace Go.Proofs.Ytnnccbagbgndpaa
open Go.RowKit
theorem few_r : ∀ (f : Nat) (n : Node), SizeOf.sizeOf n < f → ∀ (left : Int), left ≤ 1000 → -1 ≤ left → ∃ r, m_assessorref37_few_r f n left = some r ∧ -1 ≤ r ∧ r ≤ 1000 ∧ (0 ≤ r → (cntN n : Int) + r = left) := by
  intro f
  induction f with
  | zero => intro n h; omega
  | succ f ih =>
    intro n hsz left hl hl0
    have hcnt := cntN_eq n
    unfold m_assessorref37_few_r m_assessorref37_few_body
    split
    · exact ⟨-1, rfl, by omega, by omega, fun h => by omega⟩
    · rename_i hc
      have hl1 : 1 ≤ left := by
        apply Classical.byContradiction
        intro hn
        apply hc
        rw [Bool.or_eq_true]
        exact Or.inl (decide_eq_true (by omega))
      rw [inK_eq (by omega)]
      simp only [Option.bind_some]
      obtain ⟨r, hr, h1, h2, h3⟩ := loopM_inv (body := fun s => m_assessorref37_few_body_lp1 n (m_assessorref37_few_r f) s.1 s.2) (fun s => ∃ i : Nat, s.2 = (i : Int) ∧ i ≤ n.kids.length ∧ -1 ≤ s.1 ∧ s.1 ≤ 1000 ∧ (0 ≤ s.1 → (cntL (n.kids.take i) : Int) + s.1 = left - 1)) (fun s => n.kids.length - s.2.toNat)
        (fun r => -1 ≤ r ∧ r ≤ 1000 ∧ (0 ≤ r → (cntN n : Int) + r = left))
        (by
          rintro ⟨l, z⟩ ⟨i, e, hi, h1, h2, h3⟩
          simp only at e h1 h2 h3
          subst e
          by_cases hlt : i < n.kids.length ∧ 0 ≤ l
          · left
            obtain ⟨x, hx⟩ := get_of_lt hlt.1
            obtain ⟨r, hr, g1, g2, g3⟩ := ih x (by have := node_sz hx; omega) l h2 h1
            have e1 := cntL_take hx
            have e2 := cntL_len (n.kids.take i)
            rw [List.length_take] at e2
            have e3 := h3 hlt.2
            refine ⟨(r, ((i + 1 : Nat) : Int)), ?_, ⟨i + 1, rfl, by omega, g1, g2, fun h => ?_⟩, by simp; omega⟩
            · simp only [m_assessorref37_few_body_lp1]
              rw [if_pos (by simp; omega), idx_nat hx]
              simp only [Option.bind_some]
              rw [hr]
              simp only [Option.bind_some]
              rw [inK_succ (by omega)]
              rfl
            · have := g3 h
              simp only
              rw [e1]; omega
          · right
            refine ⟨l, ?_, h1, h2, fun h => ?_⟩
            · simp only [m_assessorref37_few_body_lp1]
              rw [if_neg (by
                rw [Bool.and_eq_true, decide_eq_true_eq, decide_eq_true_eq]
                omega)]
            · have h4 := h3 h
              rw [List.take_of_length_le (by omega)] at h4
              omega) (left - 1, 0) ⟨0, rfl, Nat.zero_le _, by simp only; omega, by simp only; omega, fun _ => by simp [cntL]⟩
      rw [hr]
      exact ⟨r, rfl, h1, h2, h3⟩
theorem Few_m (n : Node) (k : Int) (h : k ≤ 1000) (h0 : 0 ≤ k) : ∃ b, m_assessorref37_Few n k = some b ∧ (b = true → (cntN n : Int) ≤ k) := by
  obtain ⟨r, hr, h1, h2, h3⟩ := few_r (SizeOf.sizeOf n + 1) n (by omega) k h (by omega)
  unfold m_assessorref37_Few m_assessorref37_few
  rw [hr]
  refine ⟨_, rfl, fun e => ?_⟩
  have := h3 (by simpa using e)
  have := of_decide_eq_true e
  omega
theorem few_m (a b : Node) (k : Int) (h : k ≤ 1000) (h0 : 0 ≤ k) : ∃ r, m_assessorlaw37_few a b k = some r ∧ (r = true → (cntN a : Int) ≤ k ∧ (cntN b : Int) ≤ k) := by
  obtain ⟨x, hx, h1⟩ := Few_m a k h h0
  obtain ⟨y, hy, h2⟩ := Few_m b k h h0
  unfold m_assessorlaw37_few
  rw [hx, hy]
  simp only [Option.bind_some]
  cases x with
  | true => exact ⟨y, by simp, fun e => ⟨h1 rfl, h2 e⟩⟩
  | false => exact ⟨false, by simp, fun e => by cases e⟩
theorem Count_r : ∀ (f : Nat) (n : Node), SizeOf.sizeOf n < f → cntN n ≤ 100000 → m_assessorref37_Count_r f n = some (cntN n : Int) := by
  intro f
  induction f with
  | zero => intro n h; omega
  | succ f ih =>
    intro n hsz hn
    have hcnt := cntN_eq n
    have hlen := cntL_len n.kids
    unfold m_assessorref37_Count_r m_assessorref37_Count_body
    refine bind_loop (fun i => (((1 + cntL (n.kids.take i) : Nat) : Int), (i : Int))) n.kids.length (((1 + cntL n.kids : Nat) : Int)) (by simp [cntL]) (fun i hi => ?_) ?_ ?_
    · obtain ⟨x, hx⟩ := get_of_lt hi
      have e1 := cntL_take hx
      have e2 := cntL_le n.kids (i + 1)
      simp only [m_assessorref37_Count_body_lp1]
      rw [if_pos (by simp; omega), idx_nat hx]
      simp only [Option.bind_some]
      rw [ih x (by have := node_sz hx; omega) (by omega)]
      simp only [Option.bind_some]
      rw [inK_eq (by omega)]
      simp only [Option.bind_some]
      rw [inK_succ (by omega), e1]
      simp only [Option.bind_some, Option.some.injEq, Step.next.injEq, Prod.mk.injEq, and_true]
      omega
    · simp only [m_assessorref37_Count_body_lp1]
      rw [if_neg (by simp), List.take_of_length_le (Nat.le_refl _)]
    · rw [hcnt]
theorem Count_m (n : Node) (h : cntN n ≤ 100000) : m_assessorref37_Count n = some (cntN n : Int) := Count_r _ n (by omega) h
theorem toR_map : ∀ l, toR l = (l.map toT).reverse
  | [] => by rw [toR]; rfl
  | n :: l => by rw [toR, toR_map l]; simp
theorem toT_ext (a b : Node) : toT a = toT b ↔ (a.kind = b.kind ∧ a.text = b.text) ∧ a.kids.map toT = b.kids.map toT := by
  rw [toT_eq, toT_eq, toR_map, toR_map]
  simp
theorem Same_r : ∀ (f : Nat) (a b : Node), SizeOf.sizeOf a < f → cntN a ≤ 100000 → ∃ r, m_assessorref37_Same_r f a b = some r ∧ (r = true ↔ toT a = toT b) := by
  intro f
  induction f with
  | zero => intro n b h; omega
  | succ f ih =>
    intro a b hsz ha
    have hcnt := cntN_eq a
    have hlen := cntL_len a.kids
    unfold m_assessorref37_Same_r m_assessorref37_Same_body m_assessorref37_Label
    simp only [Option.bind_some]
    by_cases hc : (a.kind = b.kind ∧ a.text = b.text) ∧ a.kids.length = b.kids.length
    · rw [if_neg (by simp [hc])]
      obtain ⟨o, ho, hp⟩ := loopM_inv (body := fun s => m_assessorref37_Same_body_lp1 a b (m_assessorref37_Same_r f) s) (fun s => ∃ i : Nat, s = (i : Int) ∧ i ≤ a.kids.length ∧ ∀ (j : Nat) x y, j < i → a.kids[j]? = some x → b.kids[j]? = some y → toT x = toT y) (fun s => a.kids.length - s.toNat)
        (fun o : Out Unit Bool => (o = .brk () ∧ ∀ (j : Nat) x y, a.kids[j]? = some x → b.kids[j]? = some y → toT x = toT y) ∨ (o = .ret false ∧ ∃ (j : Nat) (x y : Node), a.kids[j]? = some x ∧ b.kids[j]? = some y ∧ toT x ≠ toT y))
        (by
          rintro s ⟨i, rfl, hi, hj⟩
          by_cases hlt : i < a.kids.length
          · obtain ⟨x, hx⟩ := get_of_lt hlt
            obtain ⟨y, hy⟩ := get_of_lt (l := b.kids) (k := i) (by omega)
            have e1 := cntL_take hx
            have e2 := cntL_le a.kids (i + 1)
            obtain ⟨r, hr, hiff⟩ := ih x y (by have := node_sz hx; omega) (by omega)
            cases r with
            | true =>
              left
              refine ⟨((i + 1 : Nat) : Int), ?_, ⟨i + 1, rfl, by omega, fun j x' y' hj' hx' hy' => ?_⟩, by simp; omega⟩
              · simp only [m_assessorref37_Same_body_lp1]
                rw [if_pos (by simp; omega), idx_nat hx]
                simp only [Option.bind_some]
                rw [idx_nat hy]
                simp only [Option.bind_some]
                rw [hr]
                simp only [Option.bind_some]
                rw [if_neg (by simp), inK_succ (by omega)]
                rfl
              · rcases Nat.lt_or_ge j i with h | h
                · exact hj j x' y' h hx' hy'
                · have : j = i := by omega
                  subst this
                  rw [hx] at hx'; rw [hy] at hy'
                  rw [← Option.some.inj hx', ← Option.some.inj hy']; exact hiff.1 rfl
            | false =>
              right
              refine ⟨.ret false, ?_, Or.inr ⟨rfl, i, x, y, hx, hy, fun e => by have := hiff.2 e; cases this⟩⟩
              simp only [m_assessorref37_Same_body_lp1]
              rw [if_pos (by simp; omega), idx_nat hx]
              simp only [Option.bind_some]
              rw [idx_nat hy]
              simp only [Option.bind_some]
              rw [hr]
              simp only [Option.bind_some]
              rw [if_pos (by simp)]
          · right
            refine ⟨.brk (), ?_, Or.inl ⟨rfl, fun j x y hx hy => hj j x y (by have := (List.getElem?_eq_some_iff.1 hx).1; omega) hx hy⟩⟩
            simp only [m_assessorref37_Same_body_lp1]
            rw [if_neg (by simp; omega)]) 0 ⟨0, rfl, Nat.zero_le _, fun j x y h => by omega⟩
      rw [ho]
      simp only [Option.bind_some]
      rcases hp with ⟨rfl, hp⟩ | ⟨rfl, j, x, y, hx, hy, hne⟩
      · refine ⟨true, rfl, ?_⟩
        simp only [true_iff]
        rw [toT_ext]
        refine ⟨hc.1, List.ext_getElem? fun j => ?_⟩
        rw [List.getElem?_map, List.getElem?_map]
        rcases Nat.lt_or_ge j a.kids.length with h | h
        · obtain ⟨x, hx⟩ := get_of_lt h
          obtain ⟨y, hy⟩ := get_of_lt (l := b.kids) (k := j) (by omega)
          rw [hx, hy]
          simp [hp j x y hx hy]
        · rw [List.getElem?_eq_none h, List.getElem?_eq_none (by omega)]
      · refine ⟨false, rfl, ?_⟩
        constructor
        · intro h; cases h
        · intro e
          rw [toT_ext] at e
          have := congrArg (fun l => l[j]?) e.2
          simp only [List.getElem?_map, hx, hy, Option.map_some, Option.some.injEq] at this
          exact absurd this hne
    · refine ⟨false, ?_, ?_⟩
      · rw [if_pos]
        rw [Bool.or_eq_true, Bool.not_eq_true', Bool.not_eq_true', Bool.and_eq_false_iff, decide_eq_false_iff_not, decide_eq_false_iff_not, decide_eq_false_iff_not]
        have := @Classical.not_and_iff_not_or_not
        by_cases h1 : a.kind = b.kind
        · by_cases h2 : a.text = b.text
          · right; intro e; exact hc ⟨⟨h1, h2⟩, by omega⟩
          · left; right; exact h2
        · left; left; exact h1
      · constructor
        · intro h; cases h
        · intro e
          rw [toT_ext] at e
          have h2 := congrArg List.length e.2
          rw [List.length_map, List.length_map] at h2
          exact absurd ⟨e.1, h2⟩ hc
theorem Same_m (a b : Node) (h : cntN a ≤ 100000) : ∃ r, m_assessorref37_Same a b = some r ∧ (r = true ↔ td a b = 0) := by
  obtain ⟨r, hr, h2⟩ := Same_r (SizeOf.sizeOf a + 1) a b (by omega) h
  refine ⟨r, hr, h2.trans ⟨fun e => ?_, fun e => ?_⟩⟩
  · unfold td; rw [e]; exact fd_self _
  · have := fd_zero _ _ e
    simpa using this
end Go.Proofs.Ytnnccbagbgndpaa
