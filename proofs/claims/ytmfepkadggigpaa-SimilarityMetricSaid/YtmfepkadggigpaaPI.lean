/-
  Overlaps of two lists of marks, as the reference computes them. No program is named.
-/
import Derived.Test.YtmfepkadggigpaaPH
set_option linter.unusedVariables false
set_option linter.unusedSimpArgs false
namespace Go.Proofs.Ytmfepkadggigpaa
open Go.RowKit
def mt (a b : List Mark) (i j : Int) : Bool := a.any fun x => b.any fun y => decide (x.at_ = i ∧ y.at_ = j ∧ x.hash = y.hash)
theorem mt_iff {a b : List Mark} {i j : Int} : mt a b i j = true ↔ Pl a b (j - i) i := by
  unfold mt Pl
  simp only [List.any_eq_true, decide_eq_true_eq]
  constructor
  · rintro ⟨x, hx, y, hy, h1, h2, h3⟩
    exact ⟨x, hx, y, hy, h3, h1, by omega⟩
  · rintro ⟨x, hx, y, hy, h1, h2, h3⟩
    exact ⟨x, hx, y, hy, h2, by omega, h1⟩
theorem match_m (a b : List Mark) (i j : Int) (ha : a.length ≤ 4294967296) (hb : b.length ≤ 4294967296) : m_assessorref44_match a b i j = some (mt a b i j) := by
  have inner : ∀ (k : Nat) (x : Mark), a[k]? = some x → loopM (fun s => m_assessorref44_match_lp2 a b i j (k : Int) s) 0 = some (if (b.any fun y => decide (x.at_ = i ∧ y.at_ = j ∧ x.hash = y.hash)) = true then .ret true else .brk ()) := by
    intro k x hx
    refine any_loop (body := fun s => m_assessorref44_match_lp2 a b i j (k : Int) s) b (fun y => decide (x.at_ = i ∧ y.at_ = j ∧ x.hash = y.hash)) (.ret true) (.brk ()) (fun n y hy => ?_) ?_
    · have hn := (List.getElem?_eq_some_iff.1 hy).1
      simp only [m_assessorref44_match_lp2]
      rw [if_pos (by simpa using hn), idx_nat hx, idx_nat hy, inK_succ (by omega)]
      simp only [Option.bind_some]
      by_cases h1 : x.at_ = i
      · by_cases h2 : y.at_ = j
        · by_cases h3 : x.hash = y.hash <;> simp [h1, h2, h3]
        · simp [h1, h2]
      · simp [h1]
    · simp only [m_assessorref44_match_lp2]
      rw [if_neg (by simp)]
  unfold m_assessorref44_match
  refine bind_any a (fun x => b.any fun y => decide (x.at_ = i ∧ y.at_ = j ∧ x.hash = y.hash)) (.ret true) (.brk ()) (fun k x hx => ?_) ?_ ?_
  · have hk := (List.getElem?_eq_some_iff.1 hx).1
    simp only [m_assessorref44_match_lp1]
    rw [if_pos (by simpa using hk), inner k x hx]
    simp only [Option.bind_some]
    cases (b.any fun y => decide (x.at_ = i ∧ y.at_ = j ∧ x.hash = y.hash)) with
    | true => rfl
    | false =>
      simp only [Bool.false_eq_true, if_false]
      rw [inK_succ (by omega)]
      rfl
  · simp only [m_assessorref44_match_lp1]
    rw [if_neg (by simp)]
  · unfold mt
    cases (a.any fun x => b.any fun y => decide (x.at_ = i ∧ y.at_ = j ∧ x.hash = y.hash)) <;> rfl
/-- The places of marks: they rise. -/
theorem places_m (l : List Mark) (hl : l.length ≤ 2000000) : ∃ r, m_assessorref44_places l = some r ∧ r.Pairwise (· < ·) ∧ (∀ x, x ∈ r ↔ x ∈ l.map Mark.at_) ∧ r.length ≤ l.length := by
  unfold m_assessorref44_places
  obtain ⟨b, hb, hP⟩ := loopM_inv (body := fun s : Int × List Int => m_assessorref44_places_lp1 l s.1 s.2) (fun s => ∃ k : Nat, s.1 = k ∧ k ≤ l.length ∧ s.2.Pairwise (· < ·) ∧ (∀ x, x ∈ s.2 ↔ x ∈ (l.take k).map Mark.at_) ∧ s.2.length ≤ k) (fun s => l.length - s.1.toNat) (fun b => b.Pairwise (· < ·) ∧ (∀ x, x ∈ b ↔ x ∈ l.map Mark.at_) ∧ b.length ≤ l.length) (by
    rintro ⟨i, r⟩ ⟨k, rfl, hk, h1, h2, h3⟩
    simp only at h1 h2 h3
    by_cases hkl : k < l.length
    · obtain ⟨a, ha⟩ := get_of_lt hkl
      obtain ⟨r2, e1, e2, e3, e4⟩ := Add_m r a.at_ (by omega) h1
      refine Or.inl ⟨(((k + 1 : Nat) : Int), r2), ?_, ⟨k + 1, rfl, by omega, e2, fun x => ?_, by simp only; omega⟩, by simp; omega⟩
      · simp only [m_assessorref44_places_lp1]
        rw [if_pos (by simpa using hkl), idx_nat ha]
        simp only [Option.bind_some]
        rw [e1]
        simp only [Option.bind_some]
        rw [inK_succ (by omega)]
        rfl
      · rw [e3, h2, take_snoc_of ha]; simp [or_comm]
    · have : k = l.length := by omega
      subst this
      refine Or.inr ⟨r, ?_, h1, fun x => ?_, h3⟩
      · simp only [m_assessorref44_places_lp1]
        rw [if_neg (by simp)]
      · rw [h2, List.take_length]) (0, []) ⟨0, rfl, by omega, by simp, by simp, by simp⟩
  rw [hb]
  exact ⟨b, rfl, hP⟩
theorem bad44_m (a b : List Mark) (ha : a.length ≤ 2000000) (hb : b.length ≤ 2000000) : loopM (fun s => m_assessorref44_Overlaps_lp1 a b s) 0 = some (if ((a ++ b).any fun m => decide (m.at_ < 0 ∨ 2048 < m.at_)) = true then .ret ([], 2) else .brk ()) := by
  refine any_loop (body := fun s => m_assessorref44_Overlaps_lp1 a b s) (a ++ b) (fun m => decide (m.at_ < 0 ∨ 2048 < m.at_)) (.ret ([], 2)) (.brk ()) (fun k p hp => ?_) ?_
  · have hk := (List.getElem?_eq_some_iff.1 hp).1
    rw [List.length_append] at hk
    simp only [m_assessorref44_Overlaps_lp1]
    rw [inK_eq (by omega)]
    simp only [Option.bind_some]
    rw [if_pos (by simp; omega)]
    have hsel : ((if decide ((k : Int) < (a.length : Int)) = true then (idx a (k : Int)).bind fun x2 => some (x2.hash, x2.at_) else (inK .i64 ((k : Int) - (a.length : Int))).bind fun x3 => (idx b x3).bind fun x4 => some (x4.hash, x4.at_)) : Option (Int × Int)) = some (p.hash, p.at_) := by
      by_cases h : k < a.length
      · rw [List.getElem?_append_left h] at hp
        rw [if_pos (by simpa using h), idx_nat hp]; rfl
      · rw [List.getElem?_append_right (by omega)] at hp
        rw [if_neg (by simpa using h), inK_eq (by omega)]
        simp only [Option.bind_some]
        have e : (k : Int) - (a.length : Int) = ((k - a.length : Nat) : Int) := by omega
        rw [e, idx_nat hp]; rfl
    rw [hsel, inK_succ (by omega)]
    simp only [Option.bind_some]
    by_cases h1 : p.at_ < 0 <;> by_cases h2 : 2048 < p.at_ <;> simp [h1, h2]
  · simp only [m_assessorref44_Overlaps_lp1]
    rw [inK_eq (by omega)]
    simp only [Option.bind_some]
    rw [if_neg (by simp)]
theorem bad44_iff {a b : List Mark} : ((a ++ b).any fun m => decide (m.at_ < 0 ∨ 2048 < m.at_)) = false ↔ AtOk a ∧ AtOk b := by
  rw [List.any_append, Bool.or_eq_false_iff, AtOk_iff, AtOk_iff]
theorem longer_m (p q : Overlap) : m_assessorref44_longer p q = some (ovLt p q) := by
  unfold m_assessorref44_longer ovLt
  by_cases h : p.len = q.len
  · rw [if_neg (by simp [h])]
    simp only [h, Int.lt_irrefl, true_and, false_or, Option.some.injEq]
    rw [Bool.eq_iff_iff]
    simp
  · rw [if_pos (by simp [h])]
    simp only [Option.some.injEq]
    rw [decide_eq_decide]
    omega
/-- An overlap goes to its place. -/
theorem put_m (out : List Overlap) (f x y : Int) (hl : out.length ≤ 4294967295) (hs : out.Pairwise fun x y => ovLe x y = true) : ∃ r, ((loopM (fun s => m_assessorref44_Overlaps_lp6 f out x y s) (out.length : Int) : Option Int).bind fun b23 =>
      (sub out 0 b23).bind fun x33 =>
      (app ([] : List Overlap) x33).bind fun x34 =>
      (app x34 [(Overlap.mk f x y)]).bind fun x35 =>
      (sub out b23 (out.length : Int)).bind fun x36 =>
      (app x35 x36).bind fun x37 =>
      some ((-1 : Int), x37)) = some (-1, r) ∧ (r.Pairwise fun x y => ovLe x y = true) ∧ r.Perm (Overlap.mk f x y :: out) := by
  obtain ⟨k, f1, f2, f3, f4⟩ := ins_loop (body := fun n => m_assessorref44_Overlaps_lp6 f out x y n) out (fun q => ovLt (Overlap.mk f x y) q) (by
    simp only [m_assessorref44_Overlaps_lp6]
    rw [if_neg (by simp)]
    rfl) (fun k q hq => by
    simp only [m_assessorref44_Overlaps_lp6]
    rw [if_pos (by simp <;> omega), inK_eq (by have := (List.getElem?_eq_some_iff.1 hq).1; omega)]
    simp only [Option.bind_some, Int.add_sub_cancel]
    rw [idx_nat (k := k) (by exact hq)]
    simp only [Option.bind_some]
    rw [longer_m]
    simp only [Option.bind_some]
    by_cases hlt : ovLt (Overlap.mk f x y) q = true
    · rw [if_pos hlt, if_pos hlt]
    · rw [if_neg hlt, if_neg hlt])
  refine ⟨out.take k ++ [Overlap.mk f x y] ++ out.drop k, ?_, ins_sorted (le := fun x y => ovLe x y = true) ovLe_trans hs (p := Overlap.mk f x y) (k := k) (fun q => ovLt (Overlap.mk f x y) q) (fun q hq => ovLt_le hq) (fun q hq => by unfold ovLe; rw [hq]; rfl) f1 f3 f4, ?_⟩
  · rw [f2]
    simp only [Option.bind_some]
    rw [sub_ok (by omega) (by omega) (by omega)]
    simp only [Option.bind_some, Int.toNat_natCast, Int.toNat_zero, List.drop_zero]
    rw [app_ok (by simp; omega)]
    simp only [Option.bind_some, List.nil_append]
    rw [app_ok (by simp; omega)]
    simp only [Option.bind_some]
    rw [sub_ok (by omega) (by omega) (by omega)]
    simp only [Option.bind_some, Int.toNat_natCast, List.take_length]
    rw [app_ok (by simp; omega)]
    rfl
  · rw [List.append_assoc, List.singleton_append]
    refine List.perm_middle.trans ?_
    rw [List.take_append_drop]
/-- The diagonals: they rise. -/
theorem diagR_m (a b : List Mark) (ha : a.length ≤ 256) (hb : b.length ≤ 256) (oa : AtOk a) (ob : AtOk b) (X Y : List Int) (hX : ∀ x, x ∈ X ↔ x ∈ a.map Mark.at_) (hY : ∀ x, x ∈ Y ↔ x ∈ b.map Mark.at_) (lX : X.length ≤ 256) (lY : Y.length ≤ 256) :
    ∃ D, loopM (fun s : Int × List Int => m_assessorref44_Overlaps_lp2 a b X Y s.1 s.2) (0, ([] : List Int)) = some D ∧ D.Pairwise (· < ·) ∧ D.length ≤ 65536 ∧ ∀ d, d ∈ D ↔ ∃ i, Pl a b d i := by
  have rX : ∀ x ∈ X, 0 ≤ x ∧ x ≤ 2048 := fun x hx => by
    obtain ⟨m, hm, rfl⟩ := List.mem_map.1 ((hX x).1 hx)
    exact oa m hm
  have rY : ∀ x ∈ Y, 0 ≤ x ∧ x ≤ 2048 := fun x hx => by
    obtain ⟨m, hm, rfl⟩ := List.mem_map.1 ((hY x).1 hx)
    exact ob m hm
  have inner : ∀ (p : Nat) (i : Int) (D : List Int) (N : Nat), X[p]? = some i → N ≤ 1000000 → D.Pairwise (· < ·) → D.length ≤ N → ∃ D', loopM (fun s : Int × List Int => m_assessorref44_Overlaps_lp3 a b X Y (p : Int) s.1 s.2) (0, D) = some D' ∧ D'.Pairwise (· < ·) ∧ D'.length ≤ N + 256 ∧ ∀ d, d ∈ D' ↔ d ∈ D ∨ ∃ j ∈ Y, mt a b i j = true ∧ j - i = d := by
    intro p i D N hi hN hD hDl
    have ri := rX i (List.mem_of_getElem? hi)
    obtain ⟨D', h1, h2, h3, h4⟩ := loopM_inv (body := fun s : Int × List Int => m_assessorref44_Overlaps_lp3 a b X Y (p : Int) s.1 s.2) (fun s => ∃ k : Nat, s.1 = k ∧ k ≤ Y.length ∧ s.2.Pairwise (· < ·) ∧ s.2.length ≤ N + k ∧ ∀ d, d ∈ s.2 ↔ d ∈ D ∨ ∃ j ∈ Y.take k, mt a b i j = true ∧ j - i = d) (fun s => Y.length - s.1.toNat) (fun D' => D'.Pairwise (· < ·) ∧ D'.length ≤ N + 256 ∧ ∀ d, d ∈ D' ↔ d ∈ D ∨ ∃ j ∈ Y, mt a b i j = true ∧ j - i = d) (by
      rintro ⟨k', s⟩ ⟨k, rfl, hk, h1, h2, h3⟩
      simp only at h1 h2 h3
      by_cases hkl : k < Y.length
      · obtain ⟨j, hj⟩ := get_of_lt hkl
        have rj := rY j (List.mem_of_getElem? hj)
        cases hmt : mt a b i j with
        | true =>
          obtain ⟨s2, e1, e2, e3, e4⟩ := Add_m s (j - i) (by omega) h1
          refine Or.inl ⟨(((k + 1 : Nat) : Int), s2), ?_, ⟨k + 1, rfl, by omega, e2, by simp only; omega, fun d => ?_⟩, by simp; omega⟩
          · simp only [m_assessorref44_Overlaps_lp3]
            rw [if_pos (by simpa using hkl), idx_nat hi, idx_nat hj]
            simp only [Option.bind_some]
            rw [match_m a b i j (by omega) (by omega), hmt]
            simp only [Option.bind_some, if_true]
            rw [inK_eq (n := j - i) (by omega)]
            simp only [Option.bind_some]
            rw [e1]
            simp only [Option.bind_some]
            rw [inK_succ (by omega)]
            rfl
          · simp only
            rw [e3, h3, take_snoc_of hj]
            constructor
            · rintro (rfl | h | ⟨j', h4, h5⟩)
              · exact Or.inr ⟨j, by simp, hmt, rfl⟩
              · exact Or.inl h
              · exact Or.inr ⟨j', List.mem_append_left _ h4, h5⟩
            · rintro (h | ⟨j', h4, h5, h6⟩)
              · exact Or.inr (Or.inl h)
              · rcases List.mem_append.1 h4 with h4 | h4
                · exact Or.inr (Or.inr ⟨j', h4, h5, h6⟩)
                · rw [List.mem_singleton] at h4; subst h4; exact Or.inl h6.symm
        | false =>
          refine Or.inl ⟨(((k + 1 : Nat) : Int), s), ?_, ⟨k + 1, rfl, by omega, h1, by simp only; omega, fun d => ?_⟩, by simp; omega⟩
          · simp only [m_assessorref44_Overlaps_lp3]
            rw [if_pos (by simpa using hkl), idx_nat hi, idx_nat hj]
            simp only [Option.bind_some]
            rw [match_m a b i j (by omega) (by omega), hmt]
            simp only [Option.bind_some, Bool.false_eq_true, if_false]
            rw [inK_succ (by omega)]
            rfl
          · simp only
            rw [h3, take_snoc_of hj]
            constructor
            · rintro (h | ⟨j', h4, h5⟩)
              · exact Or.inl h
              · exact Or.inr ⟨j', List.mem_append_left _ h4, h5⟩
            · rintro (h | ⟨j', h4, h5, h6⟩)
              · exact Or.inl h
              · rcases List.mem_append.1 h4 with h4 | h4
                · exact Or.inr ⟨j', h4, h5, h6⟩
                · rw [List.mem_singleton] at h4; subst h4; rw [hmt] at h5; cases h5
      · have : k = Y.length := by omega
        subst this
        refine Or.inr ⟨s, ?_, h1, by omega, ?_⟩
        · simp only [m_assessorref44_Overlaps_lp3]
          rw [if_neg (by simp)]
        · rw [List.take_length] at h3; exact h3) (0, D) ⟨0, rfl, by omega, hD, by simpa using hDl, fun d => by simp⟩
    exact ⟨D', h1, h2, h3, h4⟩
  obtain ⟨D, h1, h2, h3, h4⟩ := loopM_inv (body := fun s : Int × List Int => m_assessorref44_Overlaps_lp2 a b X Y s.1 s.2) (fun s => ∃ k : Nat, s.1 = k ∧ k ≤ X.length ∧ s.2.Pairwise (· < ·) ∧ s.2.length ≤ k * 256 ∧ ∀ d, d ∈ s.2 ↔ ∃ i ∈ X.take k, ∃ j ∈ Y, mt a b i j = true ∧ j - i = d) (fun s => X.length - s.1.toNat) (fun D => D.Pairwise (· < ·) ∧ D.length ≤ 65536 ∧ ∀ d, d ∈ D ↔ ∃ i ∈ X, ∃ j ∈ Y, mt a b i j = true ∧ j - i = d) (by
    rintro ⟨k', s⟩ ⟨k, rfl, hk, h1, h2, h3⟩
    simp only at h1 h2 h3
    by_cases hkl : k < X.length
    · obtain ⟨i, hi⟩ := get_of_lt hkl
      obtain ⟨s', e1, e2, e3, e4⟩ := inner k i s (k * 256) hi (by omega) h1 h2
      refine Or.inl ⟨(((k + 1 : Nat) : Int), s'), ?_, ⟨k + 1, rfl, by omega, e2, by simp only; omega, fun d => ?_⟩, by simp; omega⟩
      · simp only [m_assessorref44_Overlaps_lp2]
        rw [if_pos (by simpa using hkl), e1]
        simp only [Option.bind_some]
        rw [inK_succ (by omega)]
        rfl
      · simp only
        rw [e4, h3, take_snoc_of hi]
        constructor
        · rintro (⟨i', h5, h6⟩ | ⟨j, h5, h6⟩)
          · exact ⟨i', List.mem_append_left _ h5, h6⟩
          · exact ⟨i, by simp, j, h5, h6⟩
        · rintro ⟨i', h5, j, h6, h7⟩
          rcases List.mem_append.1 h5 with h5 | h5
          · exact Or.inl ⟨i', h5, j, h6, h7⟩
          · rw [List.mem_singleton] at h5; subst h5; exact Or.inr ⟨j, h6, h7⟩
    · have : k = X.length := by omega
      subst this
      refine Or.inr ⟨s, ?_, h1, by omega, ?_⟩
      · simp only [m_assessorref44_Overlaps_lp2]
        rw [if_neg (by simp)]
      · rw [List.take_length] at h3; exact h3) (0, []) ⟨0, rfl, by omega, by simp, by simp, fun d => by simp⟩
  refine ⟨D, h1, h2, h3, fun d => ?_⟩
  rw [h4]
  constructor
  · rintro ⟨i, hi, j, hj, h5, rfl⟩
    exact ⟨i, mt_iff.1 h5⟩
  · rintro ⟨i, h5⟩
    obtain ⟨x, hx, y, hy, h6, h7, h8⟩ := h5
    refine ⟨i, (hX i).2 (List.mem_map.2 ⟨x, hx, h7⟩), i + d, (hY _).2 (List.mem_map.2 ⟨y, hy, by omega⟩), mt_iff.2 ?_, by omega⟩
    rw [show i + d - i = d by omega]
    exact ⟨x, hx, y, hy, h6, h7, h8⟩
end Go.Proofs.Ytmfepkadggigpaa
