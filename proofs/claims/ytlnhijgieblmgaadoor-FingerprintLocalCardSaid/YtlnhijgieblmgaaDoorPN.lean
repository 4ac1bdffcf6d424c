/-
  Trees that are few and short: the model of Few says so. No program is named.
-/
import Derived.Test.YtlnhijgieblmgaaDoorRM
import Derived.Test.YtlnhijgieblmgaaDoorReadN
import Derived.Test.YtlnhijgieblmgaaDoorPure
set_option linter.unusedVariables false
set_option linter.unusedSimpArgs false
namespace Go.Proofs.YtlnhijgieblmgaaDoor
open Go.RowKit
mutual
/-- The number of nodes. -/
def cnt : Node → Nat
  | ⟨_, _, _, _, ks⟩ => 1 + cnts ks
def cnts : List Node → Nat
  | [] => 0
  | k :: ks => cnt k + cnts ks
end
mutual
/-- No text is longer than 40 bytes. -/
def short : Node → Prop
  | ⟨_, t, _, _, ks⟩ => t.size ≤ 40 ∧ shorts ks
def shorts : List Node → Prop
  | [] => True
  | k :: ks => short k ∧ shorts ks
end
theorem cnt_eq (n : Node) : cnt n = 1 + cnts n.kids := by cases n; rfl
theorem short_eq (n : Node) : short n ↔ n.text.size ≤ 40 ∧ shorts n.kids := by cases n; rfl
theorem cnts_app : ∀ (l m : List Node), cnts (l ++ m) = cnts l + cnts m
  | [], m => by simp [cnts]
  | k :: l, m => by simp only [List.cons_append, cnts, cnts_app l m]; omega
theorem shorts_app : ∀ (l m : List Node), shorts (l ++ m) ↔ shorts l ∧ shorts m
  | [], m => by simp [shorts]
  | k :: l, m => by simp only [List.cons_append, shorts, shorts_app l m, and_assoc]
theorem shorts_mem : ∀ {l : List Node}, shorts l → ∀ k ∈ l, short k
  | [], _, k, h => by simp at h
  | x :: l, ⟨h1, h2⟩, k, h => by
    rcases List.mem_cons.1 h with rfl | h
    · exact h1
    · exact shorts_mem h2 k h
theorem cnts_mem : ∀ {l : List Node} {k : Node}, k ∈ l → cnt k ≤ cnts l
  | x :: l, k, h => by
    rcases List.mem_cons.1 h with rfl | h
    · simp [cnts]
    · have := cnts_mem h; simp [cnts]; omega
theorem cnt_pos (n : Node) : 1 ≤ cnt n := by rw [cnt_eq]; omega
theorem cnts_len : ∀ (l : List Node), l.length ≤ cnts l
  | [] => by simp [cnts]
  | k :: l => by have := cnts_len l; have := cnt_pos k; simp [cnts]; omega
theorem size_kid {n k : Node} (h : k ∈ n.kids) : SizeOf.sizeOf k < SizeOf.sizeOf n := by
  cases n with
  | mk a b c d ks =>
    have := List.sizeOf_lt_of_mem h
    simp only at this
    simp only [Node.mk.sizeOf_spec]
    omega
theorem NodeWf.parts {n : Node} (h : NodeWf n) : I64 n.kind ∧ n.text.size ≤ maxLen ∧ I64 n.at_ ∧ I64 n.fin ∧ n.kids.length ≤ maxLen ∧ ∀ k ∈ n.kids, NodeWf k := by
  cases h with
  | mk kind text at_ fin kids h1 h2 h3 h4 h5 h6 => exact ⟨h1, h2, h3, h4, h5, h6⟩
theorem few_r : ∀ (fuel : Nat) (n : Node) (left : Int), SizeOf.sizeOf n < fuel → -1 ≤ left → left ≤ 4611686018427387904 → n.kids.length ≤ maxLen → NodeWf n →
    ∃ r, m_assessorref37_few_r fuel n left = some r ∧ ((r = left - cnt n ∧ 0 ≤ r ∧ short n) ∨ (r = -1 ∧ ¬ (short n ∧ (cnt n : Int) ≤ left)))
  | 0, n, left, h, _, _, _, _ => by omega
  | fuel + 1, n, left, hs, h0, hl, hk, hw => by
    have hw' := hw.parts
    show ∃ r, m_assessorref37_few_body (m_assessorref37_few_r fuel) n left = some r ∧ _
    unfold m_assessorref37_few_body
    by_cases hc : ((decide (left < 1)) || (decide (40 < (n.text.size : Int)))) = true
    · rw [if_pos hc]
      refine ⟨_, rfl, Or.inr ⟨rfl, ?_⟩⟩
      rw [short_eq]
      have := cnt_pos n
      simp at hc
      omega
    · rw [if_neg hc]
      simp at hc
      rw [inK_eq (by omega)]
      simp only [Option.bind_some]
      obtain ⟨r, hr, hp⟩ := loopM_inv (body := fun s => m_assessorref37_few_body_lp1 n (m_assessorref37_few_r fuel) s.1 s.2)
        (fun s => ∃ k : Nat, k ≤ n.kids.length ∧ s.2 = k ∧ ((s.1 = left - 1 - cnts (n.kids.take k) ∧ 0 ≤ s.1 ∧ shorts (n.kids.take k)) ∨ (s.1 = -1 ∧ ¬ (shorts n.kids ∧ (cnts n.kids : Int) ≤ left - 1))))
        (fun s => n.kids.length - s.2.toNat)
        (fun r => (r = left - 1 - cnts n.kids ∧ 0 ≤ r ∧ shorts n.kids) ∨ (r = -1 ∧ ¬ (shorts n.kids ∧ (cnts n.kids : Int) ≤ left - 1))) (by
          rintro ⟨q, i⟩ ⟨k, hk1, rfl, hq⟩
          simp only at hq ⊢
          simp only [m_assessorref37_few_body_lp1]
          rcases hq with ⟨hq1, hq2, hq3⟩ | ⟨hq1, hq2⟩
          · by_cases hlt : k < n.kids.length
            · obtain ⟨x, hx⟩ := get_of_lt hlt
              have hxm := List.mem_of_getElem? hx
              have hxw := hw'.2.2.2.2.2 x hxm
              rw [if_pos (by simp; omega), idx_nat hx]
              simp only [Option.bind_some]
              obtain ⟨r, hr, hrp⟩ := few_r fuel x q (by have := size_kid hxm; omega) (by omega) (by omega) hxw.parts.2.2.2.2.1 hxw
              rw [hr]
              simp only [Option.bind_some]
              have hml : k ≤ 9223372036854775806 := by unfold maxLen at hk; omega
              rw [inK_eq (by omega)]
              left
              refine ⟨_, rfl, ⟨k + 1, by omega, rfl, ?_⟩, by simp <;> omega⟩
              have e : n.kids = n.kids.take k ++ (x :: n.kids.drop (k + 1)) := by rw [← drop_cons_of hx, List.take_append_drop]
              rcases hrp with ⟨r1, r2, r3⟩ | ⟨r1, r2⟩
              · left
                refine ⟨?_, r2, ?_⟩
                · show r = _
                  rw [take_snoc_of hx, cnts_app]; simp [cnts]; omega
                · rw [take_snoc_of hx, shorts_app]; exact ⟨hq3, r3, trivial⟩
              · right
                refine ⟨r1, fun hh => r2 ?_⟩
                rw [e, shorts_app, cnts_app] at hh
                simp only [shorts, cnts] at hh
                exact ⟨hh.1.2.1, by omega⟩
            · rw [if_neg (by simp; omega)]
              right
              refine ⟨_, rfl, Or.inl ?_⟩
              rw [List.take_of_length_le (by omega)] at hq1 hq3
              exact ⟨hq1, hq2, hq3⟩
          · rw [if_neg (by simp; omega)]
            right
            exact ⟨_, rfl, Or.inr ⟨hq1, hq2⟩⟩) (left - 1, 0) ⟨0, by omega, rfl, Or.inl ⟨by simp [cnts], by simp; omega, by simp [shorts]⟩⟩
      rw [hr]
      refine ⟨r, rfl, ?_⟩
      rw [short_eq, cnt_eq]
      rcases hp with ⟨a, b, c⟩ | ⟨a, b⟩
      · exact Or.inl ⟨by omega, b, by omega, c⟩
      · exact Or.inr ⟨a, fun hh => b ⟨hh.1.2, by omega⟩⟩
open Classical in
theorem Few_m (n : Node) (m : Int) (hw : NodeWf n) (h0 : 0 ≤ m) (hm : m ≤ 1000000) : ∃ b, m_assessorref37_Few n m = some b ∧ (b = true → short n ∧ (cnt n : Int) ≤ m) := by
  unfold m_assessorref37_Few m_assessorref37_few
  obtain ⟨r, hr, hp⟩ := few_r (SizeOf.sizeOf n + 1) n m (by omega) (by omega) (by omega) hw.parts.2.2.2.2.1 hw
  rw [hr]
  refine ⟨_, rfl, fun h => ?_⟩
  simp at h
  rcases hp with ⟨a, b, c⟩ | ⟨a, b⟩
  · exact ⟨c, by omega⟩
  · omega
end Go.Proofs.YtlnhijgieblmgaaDoor
