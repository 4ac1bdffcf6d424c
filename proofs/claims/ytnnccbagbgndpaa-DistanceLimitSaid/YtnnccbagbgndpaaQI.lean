/-
  The law on the limit of the sizes.
-/
import Derived.Test.YtnnccbagbgndpaaQC
import Derived.Test.YtnnccbagbgndpaaWIM
set_option linter.unusedVariables false
set_option linter.unusedSimpArgs false
namespace Go.Proofs.Ytnnccbagbgndpaa
open Go.RowKit
theorem large_yes {l : List Node} {n : Node} (h : n ∈ l) (hn : 256 < cntN n) : (l.any fun n => decide (256 < cntN n)) = true := List.any_eq_true.2 ⟨n, h, by simpa using hn⟩
theorem Distance_l (a b : Node) (ha : cntN a ≤ 100000) (hb : cntN b ≤ 100000) (h : 256 < cntN a ∨ 256 < cntN b) : m_distance_Distance a b = some (0, 8) := by
  unfold m_distance_Distance
  rw [large_m [a, b] (by simp; omega) (by simp)]
  have : ([a, b].any fun n => decide (256 < cntN n)) = true := by
    rcases h with h | h
    · exact large_yes (n := a) (by simp) h
    · exact large_yes (n := b) (by simp) h
  rw [this]; simp
theorem Subtrees_l (a b : Node) (ha : cntN a ≤ 100000) (hb : cntN b ≤ 100000) (h : 256 < cntN a ∨ 256 < cntN b) : m_distance_Subtrees a b = some ([], 8) := by
  unfold m_distance_Subtrees
  rw [large_m [a, b] (by simp; omega) (by simp)]
  have : ([a, b].any fun n => decide (256 < cntN n)) = true := by
    rcases h with h | h
    · exact large_yes (n := a) (by simp) h
    · exact large_yes (n := b) (by simp) h
  rw [this]; simp
theorem Within_l (a b : Node) (m : Int) (ha : cntN a ≤ 100000) (hb : cntN b ≤ 100000) (h : 256 < cntN a ∨ 256 < cntN b) : m_distance_Within a b m = some (false, 8) := by
  unfold m_distance_Within
  rw [Distance_l a b ha hb h]; simp
theorem Matrix_l (a b : Node) (ha : cntN a ≤ 100000) (hb : cntN b ≤ 100000) (h : 256 < cntN a ∨ 256 < cntN b) : m_distance_Matrix [a, b] = some ([], 8) := by
  unfold m_distance_Matrix
  rw [large_m [a, b] (by simp; omega) (by simp)]
  have : ([a, b].any fun n => decide (256 < cntN n)) = true := by
    rcases h with h | h
    · exact large_yes (n := a) (by simp) h
    · exact large_yes (n := b) (by simp) h
  rw [this]; simp
theorem Nearest_l (a : Node) (l : List Node) (hl : l.length ≤ 1000) (ha : cntN a ≤ 100000) (hb : ∀ n ∈ l, cntN n ≤ 100000) (h : 256 < cntN a ∨ ∃ n ∈ l, 256 < cntN n) : m_distance_Nearest a l = some (0, 0, 8) := by
  unfold m_distance_Nearest
  rw [if_neg (by simp; omega), large_m [a] (by simp; omega) (by simp), large_m l hb (by omega)]
  simp only [Option.bind_some]
  by_cases h1 : 256 < cntN a
  · rw [large_yes (l := [a]) (n := a) (by simp) h1]; simp
  · rcases h with h | ⟨n, hn, h⟩
    · exact absurd h h1
    · rw [not_large (l := [a]) (by simp; omega), large_yes hn h]; simp
theorem wide_m (k : Nat) (h1 : 1 ≤ k) (h2 : k ≤ 1000) : ∃ n, m_assessorlaw37_wide (k : Int) = some n ∧ cntN n = k := by
  unfold m_assessorlaw37_wide
  rw [inK_eq (by omega)]
  simp only [Option.bind_some]
  rw [show (k : Int) - 1 = ((k - 1 : Nat) : Int) by omega]
  rw [loop_from (body := fun s => m_assessorlaw37_wide_lp1 ((k - 1 : Nat) : Int) s.1 s.2) (s := (0, [])) (b := List.replicate (k - 1) (nm 97)) (fun j => ((j : Int), List.replicate j (nm 97))) (k - 1) rfl (fun j hj => by
      simp only [m_assessorlaw37_wide_lp1, m_assessorlaw37_name, Option.bind_some]
      rw [if_pos (by simp; omega), app_ok (by simp; omega)]
      simp only [Option.bind_some]
      rw [inK_succ (by omega), List.replicate_succ']
      rfl) (by simp only [m_assessorlaw37_wide_lp1]; rw [if_neg (by simp)])]
  refine ⟨_, rfl, ?_⟩
  rw [cntN_eq]
  have : ∀ j, cntL (List.replicate j (nm 97)) = j := fun j => by
    induction j with
    | zero => rfl
    | succ j ih => rw [List.replicate_succ, cntL_cons, ih, cnt_nm]; omega
  simp only
  rw [this]; omega
theorem node_eta (n : Node) : Node.mk n.kind n.text n.at_ n.fin n.kids = n := by cases n; rfl
theorem tdiv16 {p : Int} (h : -128 ≤ p ∧ p ≤ 127) : -8 ≤ p.tdiv 16 ∧ p.tdiv 16 ≤ 8 := by
  rcases Int.le_total 0 p with h0 | h0
  · rw [Int.tdiv_eq_ediv_of_nonneg h0]; omega
  · have e : p = -(-p) := by omega
    rw [e, Int.neg_tdiv, Int.tdiv_eq_ediv_of_nonneg (by omega)]; omega
theorem I8.r {n : Int} (h : (Lit.int .i8 n).wf = true) : -128 ≤ n ∧ n ≤ 127 := by
  simp [Lit.wf, IntKind.min, IntKind.max, IntKind.signed, IntKind.bits] at h
  omega
theorem limit_core (x y : Node) (k : Nat) (hk : 1 ≤ k ∧ k ≤ 1000) (hx : cntN x ≤ 1000) (hy : cntN y ≤ 1000) (h : (cntN x = k ∧ cntN y ≤ 6) ∨ (cntN x ≤ 6 ∧ cntN y = k)) :
    ∃ d w s nr bo, m_distance_Distance x y = some d ∧ m_distance_Within x y 500 = some w ∧ m_distance_Subtrees x y = some s ∧ m_distance_Nearest x [y] = some nr ∧ m_distance_Bound x y = some bo ∧
      d.2 = (if 256 < k then 8 else 0) ∧ w.2 = (if 256 < k then 8 else 0) ∧ s.2 = (if 256 < k then 8 else 0) ∧ nr.2.2 = (if 256 < k then 8 else 0) ∧ (k : Int) - 6 ≤ bo := by
  have hb := Bound_m x y (by omega) (by omega)
  have i1 := inter_le (plabs x) (plabs y)
  have i2 := inter_le (plabs y) (plabs x)
  rw [inter_comm] at i2
  rw [plabs_len] at i1 i2
  by_cases hl : 256 < k
  · have hor : 256 < cntN x ∨ 256 < cntN y := by omega
    refine ⟨_, _, _, _, _, Distance_l x y (by omega) (by omega) hor, Within_l x y 500 (by omega) (by omega) hor, Subtrees_l x y (by omega) (by omega) hor, Nearest_l x [y] (by simp) (by omega) (by simp; omega) (by simpa using hor), hb, by simp [hl], by simp [hl], by simp [hl], by simp [hl], by omega⟩
  · obtain ⟨o, ho, _⟩ := Subtrees_m x y (by omega) (by omega)
    rcases Nearest_m x [y] (by omega) (by simp; omega) (by simp) with ⟨e, _⟩ | ⟨_, i, d, hn, _⟩
    · cases e
    · exact ⟨_, _, _, _, _, Distance_m x y (by omega) (by omega), Within_m x y 500 (by omega) (by omega), ho, hn, hb, by simp [hl], by simp [hl], by simp [hl], by simp [hl], by omega⟩
theorem law_DistanceLimit (p0 : Node) (p1 : Int) (p2 : Bool) (h0 : NodeWf p0) (h1 : (Lit.int .i8 p1).wf = true) : m_assessorlaw37_DistanceLimit p0 p1 p2 = some true := by
  unfold m_assessorlaw37_DistanceLimit
  rw [awake_m]
  simp only [Option.bind_some]
  obtain ⟨x, hx, k1⟩ := few_m p0 p0 6 (by omega) (by omega)
  rw [if_neg (by simp), hx]
  simp only [Option.bind_some]
  cases x with
  | false => simp
  | true =>
    have c0 := (k1 rfl).1
    have r1 := I8.r h1
    rw [if_neg (by simp), inK_eq (by omega)]
    simp only [Option.bind_some]
    obtain ⟨a1, a2⟩ := tdiv16 r1
    have hq : quoK .i64 p1 16 = some (p1.tdiv 16) := by
      unfold quoK
      rw [if_pos ⟨by omega, by rw [IntKind.wrap_i64]; omega⟩]
    rw [hq]
    simp only [Option.bind_some]
    rw [inK_eq (by omega)]
    simp only [Option.bind_some]
    obtain ⟨k, hk⟩ : ∃ k : Nat, 256 + p1.tdiv 16 = (k : Int) := ⟨(256 + p1.tdiv 16).toNat, by omega⟩
    rw [hk]
    obtain ⟨w, hw, cw⟩ := wide_m k (by omega) (by omega)
    rw [hw]
    simp only [Option.bind_some]
    have hnone : ∃ nr, m_distance_Nearest w [] = some nr ∧ nr.2.2 = (if 256 < k then 8 else 7) := by
      by_cases hl : 256 < k
      · exact ⟨_, Nearest_l w [] (by simp) (by omega) (by simp) (Or.inl (by omega)), by simp [hl]⟩
      · rcases Nearest_m w [] (by omega) (by simp) (by simp) with ⟨_, hn⟩ | ⟨e, _⟩
        · exact ⟨_, hn, by simp [hl]⟩
        · exact absurd rfl e
    obtain ⟨nr0, hn0, hv0⟩ := hnone
    have hmat : ∃ m, m_distance_Matrix [p0, if p2 = true then p0 else w] = some m ∧ (p2 = true ∨ m.2 = (if 256 < k then 8 else 0)) := by
      cases p2 with
      | true =>
        obtain ⟨m, hm, _⟩ := Matrix_m [p0, p0] (by simp; omega) (by simp)
        exact ⟨_, hm, Or.inl rfl⟩
      | false =>
        by_cases hl : 256 < k
        · exact ⟨_, Matrix_l p0 w (by omega) (by omega) (Or.inr (by omega)), Or.inr (by simp [hl])⟩
        · obtain ⟨m, hm, _⟩ := Matrix_m [p0, w] (by simp; omega) (by simp)
          exact ⟨_, hm, Or.inr (by simp [hl])⟩
    obtain ⟨m, hm, hmv⟩ := hmat
    have hj2 : ((if decide (256 < (k : Int)) = true then some 8 else some 0) : Option Int) = some (if 256 < k then 8 else 0) := by
      by_cases hl : 256 < k
      · rw [if_pos (by simp; omega), if_pos hl]
      · rw [if_neg (by simp; omega), if_neg hl]
    obtain ⟨d, wi, s, nr, bo, e1, e2, e3, e4, e5, v1, v2, v3, v4, v5⟩ := limit_core (if p2 = true then p0 else w) (if p2 = true then w else p0) k (by omega) (by split <;> omega) (by split <;> omega) (by cases p2 <;> simp <;> omega)
    have hcond : ¬ (((decide ((k : Int) ≤ 256) && !decide (nr0.2.2 = 7)) || (decide (256 < (k : Int)) && !decide (nr0.2.2 = 8))) = true) := by
      rw [hv0]
      by_cases hl : 256 < k
      · simp [hl]; omega
      · simp [hl]; omega
    cases p2 with
    | true =>
      simp only [if_true] at e1 e2 e3 e4 e5 hm ⊢
      simp only [Option.bind_some, node_eta]
      rw [e1]
      simp only [Option.bind_some]
      rw [e2]
      simp only [Option.bind_some]
      rw [e3]
      simp only [Option.bind_some]
      rw [hm]
      simp only [Option.bind_some]
      rw [e4]
      simp only [Option.bind_some]
      rw [hj2]
      simp only [Option.bind_some]
      rw [hn0]
      simp only [Option.bind_some]
      rw [if_neg hcond, v1, v2, v3, v4, if_pos (by simp), e5]
      simp only [Option.bind_some]
      rw [inK_eq (by omega)]
      simp only [Option.bind_some, Option.some.injEq, decide_eq_true_eq]
      exact v5
    | false =>
      have hmv' : m.2 = if 256 < k then 8 else 0 := by
        rcases hmv with h | h
        · cases h
        · exact h
      simp only [Bool.false_eq_true, if_false] at e1 e2 e3 e4 e5 hm ⊢
      simp only [Option.bind_some, node_eta]
      rw [e1]
      simp only [Option.bind_some]
      rw [e2]
      simp only [Option.bind_some]
      rw [e3]
      simp only [Option.bind_some]
      rw [hm]
      simp only [Option.bind_some]
      rw [e4]
      simp only [Option.bind_some]
      rw [hj2]
      simp only [Option.bind_some]
      rw [hn0]
      simp only [Option.bind_some]
      rw [if_neg hcond, v1, v2, v3, v4, hmv', if_pos (by simp), e5]
      simp only [Option.bind_some]
      rw [inK_eq (by omega)]
      simp only [Option.bind_some, Option.some.injEq, decide_eq_true_eq]
      exact v5
end Go.Proofs.Ytnnccbagbgndpaa
