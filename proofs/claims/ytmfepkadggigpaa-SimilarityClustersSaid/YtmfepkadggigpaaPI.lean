/-
  Overlaps of two lists of marks, as the reference computes them. No program is named.
-/
import Derived.Test.YtmfepkadggigpaaPG
set_option linter.unusedVariables false
set_option linter.unusedSimpArgs false
namespace Go.Proofs.Ytmfepkadggigpaa
open Go.RowKit
def mt (a b : List Mark) (i j : Int) : Bool := a.any fun x => b.any fun y => decide (x.at_ = i ∧ y.at_ = j ∧ x.hash = y.hash)
theorem mt_iff {a b : List Mark} {i j : Int} : mt a b i j = true ↔ Pl a b (j - i) i := by
  unfold mt Pl
  simp only [List.any_eq_true, decide_eq_true_eq]
  constructor
  · rintro ⟨x, hx, y, hy, h1, h2, h3⟩
    exact ⟨x, hx, y, hy, h3, h1, by omega⟩
  · rintro ⟨x, hx, y, hy, h1, h2, h3⟩
    exact ⟨x, hx, y, hy, h2, by omega, h1⟩
theorem match_m (a b : List Mark) (i j : Int) (ha : a.length ≤ 4294967296) (hb : b.length ≤ 4294967296) : m_assessorref44_match a b i j = some (mt a b i j) := by
  have inner : ∀ (k : Nat) (x : Mark), a[k]? = some x → loopM (fun s => m_assessorref44_match_lp2 a b i j (k : Int) s) 0 = some (if (b.any fun y => decide (x.at_ = i ∧ y.at_ = j ∧ x.hash = y.hash)) = true then .ret true else .brk ()) := by
    intro k x hx
    refine any_loop (body := fun s => m_assessorref44_match_lp2 a b i j (k : Int) s) b (fun y => decide (x.at_ = i ∧ y.at_ = j ∧ x.hash = y.hash)) (.ret true) (.brk ()) (fun n y hy => ?_) ?_
    · have hn := (List.getElem?_eq_some_iff.1 hy).1
      simp only [m_assessorref44_match_lp2]
      rw [if_pos (by simpa using hn), idx_nat hx, idx_nat hy, inK_succ (by omega)]
      simp only [Option.bind_some]
      by_cases h1 : x.at_ = i
      · by_cases h2 : y.at_ = j
        · by_cases h3 : x.hash = y.hash <;> simp [h1, h2, h3]
        · simp [h1, h2]
      · simp [h1]
    · simp only [m_assessorref44_match_lp2]
      rw [if_neg (by simp)]
  unfold m_assessorref44_match
  refine bind_any a (fun x => b.any fun y => decide (x.at_ = i ∧ y.at_ = j ∧ x.hash = y.hash)) (.ret true) (.brk ()) (fun k x hx => ?_) ?_ ?_
  · have hk := (List.getElem?_eq_some_iff.1 hx).1
    simp only [m_assessorref44_match_lp1]
    rw [if_pos (by simpa using hk), inner k x hx]
    simp only [Option.bind_some]
    cases (b.any fun y => decide (x.at_ = i ∧ y.at_ = j ∧ x.hash = y.hash)) with
    | true => rfl
    | false =>
      simp only [Bool.false_eq_true, if_false]
      rw [inK_succ (by omega)]
      rfl
  · simp only [m_assessorref44_match_lp1]
    rw [if_neg (by simp)]
  · unfold mt
    cases (a.any fun x => b.any fun y => decide (x.at_ = i ∧ y.at_ = j ∧ x.hash = y.hash)) <;> rfl
/-- The places of marks: they rise. -/
theorem places_m (l : List Mark) (hl : l.length ≤ 2000000) : ∃ r, m_assessorref44_places l = some r ∧ r.Pairwise (· < ·) ∧ (∀ x, x ∈ r ↔ x ∈ l.map Mark.at_) ∧ r.length ≤ l.length := by
  unfold m_assessorref44_places
  obtain ⟨b, hb, hP⟩ := loopM_inv (body := fun s : Int × List Int => m_assessorref44_places_lp1 l s.1 s.2) (fun s => ∃ k : Nat, s.1 = k ∧ k ≤ l.length ∧ s.2.Pairwise (· < ·) ∧ (∀ x, x ∈ s.2 ↔ x ∈ (l.take k).map Mark.at_) ∧ s.2.length ≤ k) (fun s => l.length - s.1.toNat) (fun b => b.Pairwise (· < ·) ∧ (∀ x, x ∈ b ↔ x ∈ l.map Mark.at_) ∧ b.length ≤ l.length) (by
    rintro ⟨i, r⟩ ⟨k, rfl, hk, h1, h2, h3⟩
    simp only at h1 h2 h3
    by_cases hkl : k < l.length
    · obtain ⟨a, ha⟩ := get_of_lt hkl
      obtain ⟨r2, e1, e2, e3, e4⟩ := Add_m r a.at_ (by omega) h1
      refine Or.inl ⟨(((k + 1 : Nat) : Int), r2), ?_, ⟨k + 1, rfl, by omega, e2, fun x => ?_, by simp only; omega⟩, by simp; omega⟩
      · simp only [m_assessorref44_places_lp1]
        rw [if_pos (by simpa using hkl), idx_nat ha]
        simp only [Option.bind_some]
        rw [e1]
        simp only [Option.bind_some]
        rw [inK_succ (by omega)]
        rfl
      · rw [e3, h2, take_snoc_of ha]; simp [or_comm]
    · have : k = l.length := by omega
      subst this
      refine Or.inr ⟨r, ?_, h1, fun x => ?_, h3⟩
      · simp only [m_assessorref44_places_lp1]
        rw [if_neg (by simp)]
      · rw [h2, List.take_length]) (0, []) ⟨0, rfl, by omega, by simp, by simp, by simp⟩
  rw [hb]
  exact ⟨b, rfl, hP⟩
theorem bad44_m (a b : List Mark) (ha : a.length ≤ 2000000) (hb : b.length ≤ 2000000) : loopM (fun s => m_assessorref44_Overlaps_lp1 a b s) 0 = some (if ((a ++ b).any fun m => decide (m.at_ < 0 ∨ 2048 < m.at_)) = true then .ret ([], 2) else .brk ()) := by
  refine any_loop (body := fun s => m_assessorref44_Overlaps_lp1 a b s) (a ++ b) (fun m => decide (m.at_ < 0 ∨ 2048 < m.at_)) (.ret ([], 2)) (.brk ()) (fun k p hp => ?_) ?_
  · have hk := (List.getElem?_eq_some_iff.1 hp).1
    rw [List.length_append] at hk
    simp only [m_assessorref44_Overlaps_lp1]
    rw [inK_eq (by omega)]
    simp only [Option.bind_some]
    rw [if_pos (by simp; omega)]
    have hsel : ((if decide ((k : Int) < (a.length : Int)) = true then (idx a (k : Int)).bind fun x2 => some (x2.hash, x2.at_) else (inK .i64 ((k : Int) - (a.length : Int))).bind fun x3 => (idx b x3).bind fun x4 => some (x4.hash, x4.at_)) : Option (Int × Int)) = some (p.hash, p.at_) := by
      by_cases h : k < a.length
      · rw [List.getElem?_append_left h] at hp
        rw [if_pos (by simpa using h), idx_nat hp]; rfl
      · rw [List.getElem?_append_right (by omega)] at hp
        rw [if_neg (by simpa using h), inK_eq (by omega)]
        simp only [Option.bind_some]
        have e : (k : Int) - (a.length : Int) = ((k - a.length : Nat) : Int) := by omega
        rw [e, idx_nat hp]; rfl
    rw [hsel, inK_succ (by omega)]
    simp only [Option.bind_some]
    by_cases h1 : p.at_ < 0 <;> by_cases h2 : 2048 < p.at_ <;> simp [h1, h2]
  · simp only [m_assessorref44_Overlaps_lp1]
    rw [inK_eq (by omega)]
    simp only [Option.bind_some]
    rw [if_neg (by simp)]
theorem bad44_iff {a b : List Mark} : ((a ++ b).any fun m => decide (m.at_ < 0 ∨ 2048 < m.at_)) = false ↔ AtOk a ∧ AtOk b := by
  rw [List.any_append, Bool.or_eq_false_iff, AtOk_iff, AtOk_iff]
theorem longer_m (p q : Overlap) : m_assessorref44_longer p q = some (ovLt p q) := by
  unfold m_assessorref44_longer ovLt
  by_cases h : p.len = q.len
  · rw [if_neg (by simp [h])]
    simp only [h, Int.lt_irrefl, true_and, false_or, Option.some.injEq]
    rw [Bool.eq_iff_iff]
    simp
  · rw [if_pos (by simp [h])]
    simp only [Option.some.injEq]
    rw [decide_eq_decide]
    omega
/-- An overlap goes to its place. -/
theorem put_m (out : List Overlap) (f x y : Int) (hl : out.length ≤ 4294967295) (hs : out.Pairwise fun x y => ovLe x y = true) : ∃ r, ((loopM (fun s => m_assessorref44_Overlaps_lp6 f out x y s) (out.length : Int) : Option Int).bind fun b23 =>
      (sub out 0 b23).bind fun x33 =>
      (app ([] : List Overlap) x33).bind fun x34 =>
      (app x34 [(Overlap.mk f x y)]).bind fun x35 =>
      (sub out b23 (out.length : Int)).bind fun x36 =>
      (app x35 x36).bind fun x37 =>
      some ((-1 : Int), x37)) = some (-1, r) ∧ (r.Pairwise fun x y => ovLe x y = true) ∧ r.Perm (Overlap.mk f x y :: out) := by
  obtain ⟨k, f1, f2, f3, f4⟩ := ins_loop (body := fun n => m_assessorref44_Overlaps_lp6 f out x y n) out (fun q => ovLt (Overlap.mk f x y) q) (by
    simp only [m_assessorref44_Overlaps_lp6]
    rw [if_neg (by simp)]
    rfl) (fun k q hq => by
    simp only [m_assessorref44_Overlaps_lp6]
    rw [if_pos (by simp <;> omega), inK_eq (by have := (List.getElem?_eq_some_iff.1 hq).1; omega)]
    simp only [Option.bind_some, Int.add_sub_cancel]
    rw [idx_nat (k := k) (by exact hq)]
    simp only [Option.bind_some]
    rw [longer_m]
    simp only [Option.bind_some]
    by_cases hlt : ovLt (Overlap.mk f x y) q = true
    · rw [if_pos hlt, if_pos hlt]
    · rw [if_neg hlt, if_neg hlt])
  refine ⟨out.take k ++ [Overlap.mk f x y] ++ out.drop k, ?_, ins_sorted (le := fun x y => ovLe x y = true) ovLe_trans hs (p := Overlap.mk f x y) (k := k) (fun q => ovLt (Overlap.mk f x y) q) (fun q hq => ovLt_le hq) (fun q hq => by unfold ovLe; rw [hq]; rfl) f1 f3 f4, ?_⟩
  · rw [f2]
    simp only [Option.bind_some]
    rw [sub_ok (by omega) (by omega) (by omega)]
    simp only [Option.bind_some, Int.toNat_natCast, Int.toNat_zero, List.drop_zero]
    rw [app_ok (by simp; omega)]
    simp only [Option.bind_some, List.nil_append]
    rw [app_ok (by simp; omega)]
    simp only [Option.bind_some]
    rw [sub_ok (by omega) (by omega) (by omega)]
    simp only [Option.bind_some, Int.toNat_natCast, List.take_length]
    rw [app_ok (by simp; omega)]
    rfl
  · rw [List.append_assoc, List.singleton_append]
    refine List.perm_middle.trans ?_
    rw [List.take_append_drop]
/-- The diagonals: they rise. -/
theorem diagR_m (a b : List Mark) (ha : a.length ≤ 256) (hb : b.length ≤ 256) (oa : AtOk a) (ob : AtOk b) (X Y : List Int) (hX : ∀ x, x ∈ X ↔ x ∈ a.map Mark.at_) (hY : ∀ x, x ∈ Y ↔ x ∈ b.map Mark.at_) (lX : X.length ≤ 256) (lY : Y.length ≤ 256) :
    ∃ D, loopM (fun s : Int × List Int => m_assessorref44_Overlaps_lp2 a b X Y s.1 s.2) (0, ([] : List Int)) = some D ∧ D.Pairwise (· < ·) ∧ D.length ≤ 65536 ∧ ∀ d, d ∈ D ↔ ∃ i, Pl a b d i := by
  have rX : ∀ x ∈ X, 0 ≤ x ∧ x ≤ 2048 := fun x hx => by
    obtain ⟨m, hm, rfl⟩ := List.mem_map.1 ((hX x).1 hx)
    exact oa m hm
  have rY : ∀ x ∈ Y, 0 ≤ x ∧ x ≤ 2048 := fun x hx => by
    obtain ⟨m, hm, rfl⟩ := List.mem_map.1 ((hY x).1 hx)
    exact ob m hm
  have inner : ∀ (p : Nat) (i : Int) (D : List Int) (N : Nat), X[p]? = some i → N ≤ 1000000 → D.Pairwise (· < ·) → D.length ≤ N → ∃ D', loopM (fun s : Int × List Int => m_assessorref44_Overlaps_lp3 a b X Y (p : Int) s.1 s.2) (0, D) = some D' ∧ D'.Pairwise (· < ·) ∧ D'.length ≤ N + 256 ∧ ∀ d, d ∈ D' ↔ d ∈ D ∨ ∃ j ∈ Y, mt a b i j = true ∧ j - i = d := by
    intro p i D N hi hN hD hDl
    have ri := rX i (List.mem_of_getElem? hi)
    obtain ⟨D', h1, h2, h3, h4⟩ := loopM_inv (body := fun s : Int × List Int => m_assessorref44_Overlaps_lp3 a b X Y (p : Int) s.1 s.2) (fun s => ∃ k : Nat, s.1 = k ∧ k ≤ Y.length ∧ s.2.Pairwise (· < ·) ∧ s.2.length ≤ N + k ∧ ∀ d, d ∈ s.2 ↔ d ∈ D ∨ ∃ j ∈ Y.take k, mt a b i j = true ∧ j - i = d) (fun s => Y.length - s.1.toNat) (fun D' => D'.Pairwise (· < ·) ∧ D'.length ≤ N + 256 ∧ ∀ d, d ∈ D' ↔ d ∈ D ∨ ∃ j ∈ Y, mt a b i j = true ∧ j - i = d) (by
      rintro ⟨k', s⟩ ⟨k, rfl, hk, h1, h2, h3⟩
      simp only at h1 h2 h3
      by_cases hkl : k < Y.length
      · obtain ⟨j, hj⟩ := get_of_lt hkl
        have rj := rY j (List.mem_of_getElem? hj)
        cases hmt : mt a b i j with
        | true =>
          obtain ⟨s2, e1, e2, e3, e4⟩ := Add_m s (j - i) (by omega) h1
          refine Or.inl ⟨(((k + 1 : Nat) : Int), s2), ?_, ⟨k + 1, rfl, by omega, e2, by simp only; omega, fun d => ?_⟩, by simp; omega⟩
          · simp only [m_assessorref44_Overlaps_lp3]
            rw [if_pos (by simpa using hkl), idx_nat hi, idx_nat hj]
            simp only [Option.bind_some]
            rw [match_m a b i j (by omega) (by omega), hmt]
            simp only [Option.bind_some, if_true]
            rw [inK_eq (n := j - i) (by omega)]
            simp only [Option.bind_some]
            rw [e1]
            simp only [Option.bind_some]
            rw [inK_succ (by omega)]
            rfl
          · simp only
            rw [e3, h3, take_snoc_of hj]
            constructor
            · rintro (rfl | h | ⟨j', h4, h5⟩)
              · exact Or.inr ⟨j, by simp, hmt, rfl⟩
              · exact Or.inl h
              · exact Or.inr ⟨j', List.mem_append_left _ h4, h5⟩
            · rintro (h | ⟨j', h4, h5, h6⟩)
              · exact Or.inr (Or.inl h)
              · rcases List.mem_append.1 h4 with h4 | h4
                · exact Or.inr (Or.inr ⟨j', h4, h5, h6⟩)
                · rw [List.mem_singleton] at h4; subst h4; exact Or.inl h6.symm
        | false =>
          refine Or.inl ⟨(((k + 1 : Nat) : Int), s), ?_, ⟨k + 1, rfl, by omega, h1, by simp only; omega, fun d => ?_⟩, by simp; omega⟩
          · simp only [m_assessorref44_Overlaps_lp3]
            rw [if_pos (by simpa using hkl), idx_nat hi, idx_nat hj]
            simp only [Option.bind_some]
            rw [match_m a b i j (by omega) (by omega), hmt]
            simp only [Option.bind_some, Bool.false_eq_true, if_false]
            rw [inK_succ (by omega)]
            rfl
          · simp only
            rw [h3, take_snoc_of hj]
            constructor
            · rintro (h | ⟨j', h4, h5⟩)
              · exact Or.inl h
              · exact Or.inr ⟨j', List.mem_append_left _ h4, h5⟩
            · rintro (h | ⟨j', h4, h5, h6⟩)
              · exact Or.inl h
              · rcases List.mem_append.1 h4 with h4 | h4
                · exact Or.inr ⟨j', h4, h5, h6⟩
                · rw [List.mem_singleton] at h4; subst h4; rw [hmt] at h5; cases h5
      · have : k = Y.length := by omega
        subst this
        refine Or.inr ⟨s, ?_, h1, by omega, ?_⟩
        · simp only [m_assessorref44_Overlaps_lp3]
          rw [if_neg (by simp)]
        · rw [List.take_length] at h3; exact h3) (0, D) ⟨0, rfl, by omega, hD, by simpa using hDl, fun d => by simp⟩
    exact ⟨D', h1, h2, h3, h4⟩
  obtain ⟨D, h1, h2, h3, h4⟩ := loopM_inv (body := fun s : Int × List Int => m_assessorref44_Overlaps_lp2 a b X Y s.1 s.2) (fun s => ∃ k : Nat, s.1 = k ∧ k ≤ X.length ∧ s.2.Pairwise (· < ·) ∧ s.2.length ≤ k * 256 ∧ ∀ d, d ∈ s.2 ↔ ∃ i ∈ X.take k, ∃ j ∈ Y, mt a b i j = true ∧ j - i = d) (fun s => X.length - s.1.toNat) (fun D => D.Pairwise (· < ·) ∧ D.length ≤ 65536 ∧ ∀ d, d ∈ D ↔ ∃ i ∈ X, ∃ j ∈ Y, mt a b i j = true ∧ j - i = d) (by
    rintro ⟨k', s⟩ ⟨k, rfl, hk, h1, h2, h3⟩
    simp only at h1 h2 h3
    by_cases hkl : k < X.length
    · obtain ⟨i, hi⟩ := get_of_lt hkl
      obtain ⟨s', e1, e2, e3, e4⟩ := inner k i s (k * 256) hi (by omega) h1 h2
      refine Or.inl ⟨(((k + 1 : Nat) : Int), s'), ?_, ⟨k + 1, rfl, by omega, e2, by simp only; omega, fun d => ?_⟩, by simp; omega⟩
      · simp only [m_assessorref44_Overlaps_lp2]
        rw [if_pos (by simpa using hkl), e1]
        simp only [Option.bind_some]
        rw [inK_succ (by omega)]
        rfl
      · simp only
        rw [e4, h3, take_snoc_of hi]
        constructor
        · rintro (⟨i', h5, h6⟩ | ⟨j, h5, h6⟩)
          · exact ⟨i', List.mem_append_left _ h5, h6⟩
          · exact ⟨i, by simp, j, h5, h6⟩
        · rintro ⟨i', h5, j, h6, h7⟩
          rcases List.mem_append.1 h5 with h5 | h5
          · exact Or.inl ⟨i', h5, j, h6, h7⟩
          · rw [List.mem_singleton] at h5; subst h5; exact Or.inr ⟨j, h6, h7⟩
    · have : k = X.length := by omega
      subst this
      refine Or.inr ⟨s, ?_, h1, by omega, ?_⟩
      · simp only [m_assessorref44_Overlaps_lp2]
        rw [if_neg (by simp)]
      · rw [List.take_length] at h3; exact h3) (0, []) ⟨0, rfl, by omega, by simp, by simp, fun d => by simp⟩
  refine ⟨D, h1, h2, h3, fun d => ?_⟩
  rw [h4]
  constructor
  · rintro ⟨i, hi, j, hj, h5, rfl⟩
    exact ⟨i, mt_iff.1 h5⟩
  · rintro ⟨i, h5⟩
    obtain ⟨x, hx, y, hy, h6, h7, h8⟩ := h5
    refine ⟨i, (hX i).2 (List.mem_map.2 ⟨x, hx, h7⟩), i + d, (hY _).2 (List.mem_map.2 ⟨y, hy, by omega⟩), mt_iff.2 ?_, by omega⟩
    rw [show i + d - i = d by omega]
    exact ⟨x, hx, y, hy, h6, h7, h8⟩
/-- What is known before a place: no run, or one from f to l. -/
inductive Seen (P : Int → Prop) (k : Int) (T : List Int) (Q : Int → Prop) : Int → Int → Prop
  | none : (∀ x ∈ T, ¬ P x) → (∀ c, Q c ↔ False) → Seen P k T Q (-1) (-1)
  | run (f l : Int) : 0 ≤ f → P f → P l → f ≤ l → l ∈ T → (∀ x ∈ T, P x → x ≤ l) → (∀ x, P x → x < f → x + k < f) → (∀ x, P x → f ≤ x → x < l → ∃ y, P y ∧ x < y ∧ y ≤ x + k) → (∀ c, Q c ↔ c < f) → Seen P k T Q f l
theorem line_m {a b : List Mark} (ha : a.length ≤ 256) (hb : b.length ≤ 256) (oa : AtOk a) (ob : AtOk b) (k d : Int) (hk : 1 ≤ k ∧ k ≤ 64) (hd : -2048 ≤ d ∧ d ≤ 2048) (X : List Int) (hXs : X.Pairwise (· < ·)) (hX : ∀ x, x ∈ X ↔ x ∈ a.map Mark.at_) (lX : X.length ≤ 256) (B : List Int) (n : Nat) (hB : B[n]? = some d)
    (out0 : List Overlap) (hs0 : out0.Pairwise fun x y => ovLe x y = true) (hn0 : out0.Nodup) (hm0 : ∀ o ∈ out0, OvMem a b k o ∧ o.b - o.a ≠ d) :
    ∃ out, loopM (fun s : Int × Int × Int × List Overlap => m_assessorref44_Overlaps_lp5 a b k X B (n : Int) s.1 s.2.1 s.2.2.1 s.2.2.2) (-1, -1, 0, out0) = some out ∧ (out.Pairwise fun x y => ovLe x y = true) ∧ out.Nodup ∧ ∀ o, o ∈ out ↔ o ∈ out0 ∨ OvD a b k d o := by
  have rX : ∀ x ∈ X, 0 ≤ x ∧ x ≤ 2048 := fun x hx => by
    obtain ⟨m, hm, rfl⟩ := List.mem_map.1 ((hX x).1 hx)
    exact oa m hm
  have PX : ∀ x, Pl a b d x → x ∈ X := fun x ⟨z, hz, y, hy, h1, h2, h3⟩ => (hX x).2 (List.mem_map.2 ⟨z, hz, h2⟩)
  have xmono : ∀ (p q : Nat) (x y : Int), p < q → X[p]? = some x → X[q]? = some y → x < y := by
    intro p q x y hpq hx hy
    obtain ⟨h1, e1⟩ := List.getElem?_eq_some_iff.1 hx
    obtain ⟨h2, e2⟩ := List.getElem?_eq_some_iff.1 hy
    have := List.pairwise_iff_getElem.1 hXs p q h1 h2 hpq
    rw [e1, e2] at this
    exact this
  have xtake : ∀ (i : Nat) (c x : Int), X[i]? = some c → x ∈ X → (x ∈ X.take i ↔ x < c) := by
    intro i c x hc hx
    constructor
    · intro h
      obtain ⟨j, hj⟩ := List.getElem?_of_mem h
      rw [List.getElem?_take] at hj
      split at hj
      · exact xmono j i x c (by assumption) hj hc
      · cases hj
    · intro h
      obtain ⟨j, hj⟩ := List.getElem?_of_mem hx
      have hji : j < i := Classical.byContradiction fun hn => by
        by_cases e : j = i
        · subst e; rw [hj] at hc; obtain rfl := Option.some.inj hc; omega
        · have := xmono i j c x (by omega) hc hj; omega
      rw [List.mem_iff_getElem?]
      exact ⟨j, by rw [List.getElem?_take, if_pos hji]; exact hj⟩
  -- a run's overlap goes to its place
  have emit : ∀ (s : List Overlap) (f l : Int), Run (Pl a b d) k f l → (s.Pairwise fun x y => ovLe x y = true) → s.Nodup → (∀ o, o ∈ s ↔ o ∈ out0 ∨ OvD a b k d o ∧ o.a < f) → ∃ s', ((idx B (n : Int)).bind fun x25 =>
      (inK .i64 (f + x25)).bind fun x26 =>
      (inK .i64 (l - f)).bind fun x27 =>
      (inK .i64 (x27 + k)).bind fun x28 =>
      (loopM (fun s' => m_assessorref44_Overlaps_lp6 f s x26 x28 s') (s.length : Int) : Option Int).bind fun b23 =>
      (sub s 0 b23).bind fun x33 =>
      (app ([] : List Overlap) x33).bind fun x34 =>
      (app x34 [(Overlap.mk f x26 x28)]).bind fun x35 =>
      (sub s b23 (s.length : Int)).bind fun x36 =>
      (app x35 x36).bind fun x37 =>
      some ((-1 : Int), x37)) = some (-1, s') ∧ (s'.Pairwise fun x y => ovLe x y = true) ∧ s'.Nodup ∧ ∀ o, o ∈ s' ↔ o ∈ out0 ∨ OvD a b k d o ∧ o.a ≤ l := by
    intro s f l hr hs hn hm
    have r1 := hr.first.range oa ob
    have r2 := hr.last.range oa ob
    have hmemS : ∀ o ∈ s, OvMem a b k o := fun o ho => by
      rcases (hm o).1 ho with h | h
      · exact (hm0 o h).1
      · exact h.1.mem
    have hfew := ov_few oa ob hn hmemS
    have hov : OvD a b k d ⟨f, f + d, l - f + k⟩ := ⟨f, l, hr, rfl⟩
    obtain ⟨s', e1, e2, e3⟩ := put_m s f (f + d) (l - f + k) (by omega) hs
    refine ⟨s', ?_, e2, ?_, fun o => ?_⟩
    · rw [idx_nat hB]
      simp only [Option.bind_some]
      rw [inK_eq (n := f + d) (by omega)]
      simp only [Option.bind_some]
      rw [inK_eq (n := l - f) (by omega)]
      simp only [Option.bind_some]
      rw [inK_eq (n := l - f + k) (by omega)]
      simp only [Option.bind_some]
      exact e1
    · rw [e3.nodup_iff, List.nodup_cons]
      refine ⟨fun h => ?_, hn⟩
      rcases (hm _).1 h with h | h
      · exact (hm0 _ h).2 (by simp only; omega)
      · have := h.2; simp only at this; omega
    · rw [e3.mem_iff, List.mem_cons, hm]
      constructor
      · rintro (rfl | h | ⟨h, h'⟩)
        · exact Or.inr ⟨hov, hr.le⟩
        · exact Or.inl h
        · exact Or.inr ⟨h, by have := hr.le; omega⟩
      · rintro (h | ⟨h, h'⟩)
        · exact Or.inr (Or.inl h)
        · rcases Int.lt_trichotomy o.a f with h1 | h1 | h1
          · exact Or.inr (Or.inr ⟨h, h1⟩)
          · exact Or.inl (OvD.one h hov h1)
          · exfalso
            obtain ⟨f', l', r', rfl⟩ := h
            simp only at h1 h'
            have := hr.apart r' h1
            omega
  obtain ⟨out, h1, h2, h3, h4⟩ := loopM_inv (body := fun s : Int × Int × Int × List Overlap => m_assessorref44_Overlaps_lp5 a b k X B (n : Int) s.1 s.2.1 s.2.2.1 s.2.2.2)
    (fun s => ∃ i : Nat, s.2.2.1 = i ∧ (s.2.2.2.Pairwise fun x y => ovLe x y = true) ∧ s.2.2.2.Nodup ∧ ((i ≤ X.length ∧ ∃ Q, Seen (Pl a b d) k (X.take i) Q s.1 s.2.1 ∧ ∀ o, o ∈ s.2.2.2 ↔ o ∈ out0 ∨ OvD a b k d o ∧ Q o.a) ∨ i = X.length + 1 ∧ ∀ o, o ∈ s.2.2.2 ↔ o ∈ out0 ∨ OvD a b k d o))
    (fun s => X.length + 1 - s.2.2.1.toNat) (fun out => (out.Pairwise fun x y => ovLe x y = true) ∧ out.Nodup ∧ ∀ o, o ∈ out ↔ o ∈ out0 ∨ OvD a b k d o) (by
    rintro ⟨f, l, i', s⟩ ⟨i, rfl, hs, hn, hor⟩
    simp only at hs hn hor
    rcases hor with ⟨hi, Q, hseen, hm⟩ | ⟨rfl, hm⟩
    · by_cases hil : i < X.length
      · obtain ⟨c, hc⟩ := get_of_lt hil
        have rc := rX c (List.mem_of_getElem? hc)
        have hm1 : ((if (decide ((i : Int) < (X.length : Int))) = true then (idx X (i : Int)).bind fun x18 => (idx X (i : Int)).bind fun x19 => (idx B (n : Int)).bind fun x20 => (inK .i64 (x19 + x20)).bind fun x21 => (m_assessorref44_match a b x18 x21).bind fun x22 => some x22 else some false) : Option Bool) = some (mt a b c (c + d)) := by
          rw [if_pos (by simpa using hil), idx_nat hc, idx_nat hB]
          simp only [Option.bind_some]
          rw [inK_eq (by omega)]
          simp only [Option.bind_some]
          rw [match_m a b c (c + d) (by omega) (by omega)]
          rfl
        have hin : (decide ((i : Int) = (X.length : Int))) = false := by simp; omega
        have hPc : mt a b c (c + d) = true ↔ Pl a b d c := by rw [mt_iff, show c + d - c = d by omega]
        have htk : ∀ x, x ∈ X.take (i + 1) ↔ x ∈ X.take i ∨ x = c := fun x => by rw [take_snoc_of hc, List.mem_append, List.mem_singleton]
        cases hmt : mt a b c (c + d) with
        | false =>
          have hnc : ¬ Pl a b d c := fun h => by rw [hPc.2 h] at hmt; cases hmt
          refine Or.inl ⟨(f, l, ((i + 1 : Nat) : Int), s), ?_, ⟨i + 1, rfl, hs, hn, Or.inl ⟨by omega, Q, ?_, hm⟩⟩, by simp; omega⟩
          · simp only [m_assessorref44_Overlaps_lp5]
            rw [if_pos (by simp; omega), hm1, hmt]
            simp only [Option.bind_some, Bool.false_eq_true, if_false, hin]
            by_cases hf : 0 ≤ f
            · rw [if_pos (by simpa using hf), if_neg (by simp)]
              simp only [Option.bind_some, Bool.false_eq_true, if_false]
              rw [if_neg (by simp), inK_succ (by omega)]
              rfl
            · rw [if_neg (by simpa using hf)]
              simp only [Option.bind_some, Bool.false_eq_true, if_false]
              rw [if_neg (by simp), inK_succ (by omega)]
              rfl
          · cases hseen with
            | none g1 g2 =>
              refine Seen.none (fun x hx => ?_) g2
              rcases (htk x).1 hx with h | h
              · exact g1 x h
              · rw [h]; exact hnc
            | run f l g0 g1 g2 g3 g4 g5 g6 g7 g8 =>
              refine Seen.run f l g0 g1 g2 g3 ((htk l).2 (Or.inl g4)) (fun x hx hP => ?_) g6 g7 g8
              rcases (htk x).1 hx with h | h
              · exact g5 x h hP
              · rw [h] at hP; exact absurd hP hnc
        | true =>
          have hc' : Pl a b d c := hPc.1 hmt
          cases hseen with
          | none g1 g2 =>
            refine Or.inl ⟨(c, c, ((i + 1 : Nat) : Int), s), ?_, ⟨i + 1, rfl, hs, hn, Or.inl ⟨by omega, fun x => x < c, Seen.run c c rc.1 hc' hc' (Int.le_refl _) ((htk c).2 (Or.inr rfl)) (fun x hx hP => ?_) (fun x hP hx => ?_) (fun x hP h1 h2 => by omega) (fun x => Iff.rfl), fun o => ?_⟩⟩, by simp; omega⟩
            · simp only [m_assessorref44_Overlaps_lp5]
              rw [if_pos (by simp; omega), hm1, hmt]
              simp only [Option.bind_some, if_true]
              rw [idx_nat hc]
              simp only [Option.bind_some]
              rw [if_neg (by simp)]
              simp only [Option.bind_some, Bool.false_eq_true, if_false]
              rw [if_pos (by simpa using rc.1), if_pos (by simp), inK_succ (by omega)]
              rfl
            · rcases (htk x).1 hx with h | rfl
              · exact absurd hP (g1 x h)
              · exact Int.le_refl _
            · exact absurd hP (g1 x ((xtake i c x hc (PX x hP)).2 hx))
            · simp only
              rw [hm]
              constructor
              · rintro (h | ⟨h, h'⟩)
                · exact Or.inl h
                · exact absurd h' (by rw [g2]; exact id)
              · rintro (h | ⟨h, h'⟩)
                · exact Or.inl h
                · exfalso
                  obtain ⟨f', l', r', rfl⟩ := h
                  exact g1 f' ((xtake i c f' hc (PX _ r'.first)).2 h') r'.first
          | run f l g0 g1 g2 g3 g4 g5 g6 g7 g8 =>
            have rl := rX l (PX l g2)
            have hlc : l < c := (xtake i c l hc (PX l g2)).1 g4
            by_cases hnear : c ≤ l + k
            · refine Or.inl ⟨(f, c, ((i + 1 : Nat) : Int), s), ?_, ⟨i + 1, rfl, hs, hn, Or.inl ⟨by omega, Q, Seen.run f c g0 g1 hc' (by omega) ((htk c).2 (Or.inr rfl)) (fun x hx hP => ?_) g6 (fun x hP h1 h2 => ?_) g8, hm⟩⟩, by simp; omega⟩
              · simp only [m_assessorref44_Overlaps_lp5]
                rw [if_pos (by simp; omega), hm1, hmt]
                simp only [Option.bind_some, if_true]
                rw [idx_nat hc]
                simp only [Option.bind_some, hin, Bool.false_eq_true, if_false]
                rw [if_pos (by simpa using g0), if_pos (by simpa using rc.1), inK_eq (n := l + k) (by omega)]
                simp only [Option.bind_some]
                rw [if_neg (by simp; omega)]
                simp only [Option.bind_some]
                rw [if_pos (by simpa using rc.1), if_neg (by simp; omega), inK_succ (by omega)]
                rfl
              · rcases (htk x).1 hx with h | rfl
                · have := g5 x h hP; omega
                · exact Int.le_refl _
              · by_cases hxl : x < l
                · exact g7 x hP h1 hxl
                · have := g5 x ((xtake i c x hc (PX x hP)).2 h2) hP
                  exact ⟨c, hc', h2, by omega⟩
            · have hrun : Run (Pl a b d) k f l := ⟨g1, g2, g3, g6, fun x hP hx => by
                by_cases hxc : x < c
                · have := g5 x ((xtake i c x hc (PX x hP)).2 hxc) hP; omega
                · omega, g7⟩
              obtain ⟨s', e1, e2, e3, e4⟩ := emit s f l hrun hs hn fun o => by rw [hm, g8]
              refine Or.inl ⟨(c, c, ((i + 1 : Nat) : Int), s'), ?_, ⟨i + 1, rfl, e2, e3, Or.inl ⟨by omega, fun x => x < c, Seen.run c c rc.1 hc' hc' (Int.le_refl _) ((htk c).2 (Or.inr rfl)) (fun x hx hP => ?_) (fun x hP hx => ?_) (fun x hP h1 h2 => by omega) (fun x => Iff.rfl), fun o => ?_⟩⟩, by simp; omega⟩
              · simp only [m_assessorref44_Overlaps_lp5]
                rw [if_pos (by simp; omega), hm1, hmt]
                simp only [Option.bind_some, if_true]
                rw [idx_nat hc]
                simp only [Option.bind_some, hin, Bool.false_eq_true, if_false]
                rw [if_pos (by simpa using g0), if_pos (by simpa using rc.1), inK_eq (n := l + k) (by omega)]
                simp only [Option.bind_some]
                rw [if_pos (by simp; omega), e1]
                simp only [Option.bind_some]
                rw [if_pos (by simpa using rc.1), if_pos (by simp), inK_succ (by omega)]
                rfl
              · rcases (htk x).1 hx with h | rfl
                · have := g5 x h hP; omega
                · exact Int.le_refl _
              · have := g5 x ((xtake i c x hc (PX x hP)).2 hx) hP
                omega
              · simp only
                rw [e4]
                constructor
                · rintro (h | ⟨h, h'⟩)
                  · exact Or.inl h
                  · exact Or.inr ⟨h, by omega⟩
                · rintro (h | ⟨h, h'⟩)
                  · exact Or.inl h
                  · refine Or.inr ⟨h, ?_⟩
                    obtain ⟨f', l', r', rfl⟩ := h
                    exact g5 f' ((xtake i c f' hc (PX _ r'.first)).2 h') r'.first
      · have : i = X.length := by omega
        subst this
        have htl : X.take X.length = X := List.take_length
        rw [htl] at hseen
        cases hseen with
        | none g1 g2 =>
          refine Or.inl ⟨(-1, -1, ((X.length + 1 : Nat) : Int), s), ?_, ⟨X.length + 1, rfl, hs, hn, Or.inr ⟨rfl, fun o => ?_⟩⟩, by simp⟩
          · simp only [m_assessorref44_Overlaps_lp5]
            rw [if_pos (by simp), if_neg (by simp)]
            simp only [Option.bind_some, Bool.false_eq_true, if_false]
            rw [if_neg (by simp)]
            simp only [Option.bind_some, Bool.false_eq_true, if_false]
            rw [if_neg (by simp), inK_succ (by omega)]
            rfl
          · simp only
            rw [hm]
            constructor
            · rintro (h | ⟨h, h'⟩)
              · exact Or.inl h
              · exact Or.inr h
            · rintro (h | h)
              · exact Or.inl h
              · exfalso
                obtain ⟨f', l', r', rfl⟩ := h
                exact g1 f' (PX _ r'.first) r'.first
        | run f l g0 g1 g2 g3 g4 g5 g6 g7 g8 =>
          have hrun : Run (Pl a b d) k f l := ⟨g1, g2, g3, g6, fun x hP hx => by
            have := g5 x (PX x hP) hP; omega, g7⟩
          obtain ⟨s', e1, e2, e3, e4⟩ := emit s f l hrun hs hn fun o => by rw [hm, g8]
          refine Or.inl ⟨(-1, l, ((X.length + 1 : Nat) : Int), s'), ?_, ⟨X.length + 1, rfl, e2, e3, Or.inr ⟨rfl, fun o => ?_⟩⟩, by simp⟩
          · simp only [m_assessorref44_Overlaps_lp5]
            rw [if_pos (by simp), if_neg (by simp)]
            simp only [Option.bind_some, Bool.false_eq_true, if_false]
            rw [if_pos (by simpa using g0), if_pos (by simp)]
            simp only [Option.bind_some, if_true]
            rw [e1]
            simp only [Option.bind_some]
            rw [if_neg (by simp), inK_succ (by omega)]
            rfl
          · simp only
            rw [e4]
            constructor
            · rintro (h | ⟨h, h'⟩)
              · exact Or.inl h
              · exact Or.inr h
            · rintro (h | h)
              · exact Or.inl h
              · refine Or.inr ⟨h, ?_⟩
                obtain ⟨f', l', r', rfl⟩ := h
                exact g5 f' (PX _ r'.first) r'.first
    · refine Or.inr ⟨s, ?_, hs, hn, hm⟩
      simp only [m_assessorref44_Overlaps_lp5]
      rw [if_neg (by simp; omega)]) (-1, -1, 0, out0) ⟨0, rfl, hs0, hn0, Or.inl ⟨by omega, fun _ => False, Seen.none (fun x hx => by simp at hx) (fun _ => Iff.rfl), fun o => by simp⟩⟩
  exact ⟨out, h1, h2, h3, h4⟩
theorem OverlapsR_m (a b : List Mark) (k : Int) (ha : a.length ≤ 256) (hb : b.length ≤ 256) (oa : AtOk a) (ob : AtOk b) (hk : 1 ≤ k ∧ k ≤ 64) : ∃ r, m_assessorref44_Overlaps a b k = some (r, 0) ∧ OvsIs a b k r := by
  unfold m_assessorref44_Overlaps
  rw [if_neg (by simp; omega), bad44_m a b (by omega) (by omega), bad44_iff.2 ⟨oa, ob⟩]
  simp only [Option.bind_some, Bool.false_eq_true, if_false]
  rw [if_neg (by simp; omega)]
  obtain ⟨X, x1, x2, x3, x4⟩ := places_m a (by omega)
  obtain ⟨Y, y1, y2, y3, y4⟩ := places_m b (by omega)
  rw [x1, y1]
  simp only [Option.bind_some]
  obtain ⟨D, d1, d2, d3, d4⟩ := diagR_m a b ha hb oa ob X Y x3 y3 (by omega) (by omega)
  rw [d1]
  simp only [Option.bind_some]
  obtain ⟨r, h1, h2, h3, h4⟩ := loopM_inv (body := fun s : Int × List Overlap => m_assessorref44_Overlaps_lp4 a b k X D s.1 s.2) (fun s => ∃ n : Nat, s.1 = n ∧ n ≤ D.length ∧ (s.2.Pairwise fun x y => ovLe x y = true) ∧ s.2.Nodup ∧ ∀ o, o ∈ s.2 ↔ OvMem a b k o ∧ o.b - o.a ∈ D.take n) (fun s => D.length - s.1.toNat) (fun r => (r.Pairwise fun x y => ovLe x y = true) ∧ r.Nodup ∧ ∀ o, o ∈ r ↔ OvMem a b k o ∧ o.b - o.a ∈ D) (by
    rintro ⟨n', s⟩ ⟨n, rfl, hn, h1, h2, h3⟩
    simp only at h1 h2 h3
    by_cases hnl : n < D.length
    · obtain ⟨d, hd⟩ := get_of_lt hnl
      obtain ⟨i, hi⟩ := (d4 d).1 (List.mem_of_getElem? hd)
      have hrd := hi.range oa ob
      have hnd : d ∉ D.take n := fun h => by
        obtain ⟨j, hj⟩ := List.getElem?_of_mem h
        rw [List.getElem?_take] at hj
        split at hj
        · rename_i hjn
          obtain ⟨p1, q1⟩ := List.getElem?_eq_some_iff.1 hj
          obtain ⟨p2, q2⟩ := List.getElem?_eq_some_iff.1 hd
          have := List.pairwise_iff_getElem.1 d2 j n p1 p2 hjn
          rw [q1, q2] at this
          omega
        · cases hj
      obtain ⟨s', e1, e2, e3, e4⟩ := line_m ha hb oa ob k d hk (by omega) X x2 x3 (by omega) D n hd s h1 h2 fun o ho => ⟨((h3 o).1 ho).1, fun e => hnd (by rw [← e]; exact ((h3 o).1 ho).2)⟩
      refine Or.inl ⟨(((n + 1 : Nat) : Int), s'), ?_, ⟨n + 1, rfl, by omega, e2, e3, fun o => ?_⟩, by simp; omega⟩
      · simp only [m_assessorref44_Overlaps_lp4]
        rw [if_pos (by simpa using hnl), e1]
        simp only [Option.bind_some]
        rw [inK_succ (by omega)]
        rfl
      · simp only
        rw [e4, h3, take_snoc_of hd, List.mem_append, List.mem_singleton]
        constructor
        · rintro (h | h)
          · exact ⟨h.1, Or.inl h.2⟩
          · exact ⟨h.mem, Or.inr h.diag⟩
        · rintro ⟨h, h' | h'⟩
          · exact Or.inl ⟨h, h'⟩
          · exact Or.inr (by rw [← h']; exact h)
    · have : n = D.length := by omega
      subst this
      refine Or.inr ⟨s, ?_, h1, h2, ?_⟩
      · simp only [m_assessorref44_Overlaps_lp4]
        rw [if_neg (by simp)]
      · rw [List.take_length] at h3; exact h3) (0, []) ⟨0, rfl, by omega, by simp, by simp, fun o => by simp⟩
  rw [h1]
  refine ⟨r, rfl, h2, h3, fun o => ?_⟩
  rw [h4]
  refine ⟨fun h => h.1, fun h => ⟨h, ?_⟩⟩
  rw [d4]
  obtain ⟨f, l, r, e⟩ := h
  exact ⟨f, r.first⟩
theorem OverlapsR_bad (a b : List Mark) (k : Int) (hl : a.length ≤ 2000000 ∧ b.length ≤ 2000000) (h : (k < 1 ∨ 64 < k) ∨ ¬ AtOk a ∨ ¬ AtOk b) : m_assessorref44_Overlaps a b k = some ([], 2) := by
  unfold m_assessorref44_Overlaps
  by_cases h1 : k < 1 ∨ 64 < k
  · rw [if_pos (by simpa using h1)]
  · rw [if_neg (by simpa using h1), bad44_m a b hl.1 hl.2]
    have h4 : ((a ++ b).any fun m => decide (m.at_ < 0 ∨ 2048 < m.at_)) = true := by
      cases h5 : ((a ++ b).any fun m => decide (m.at_ < 0 ∨ 2048 < m.at_)) with
      | true => rfl
      | false =>
        have := bad44_iff.1 h5
        rcases h with h | h | h
        · exact absurd h h1
        · exact absurd this.1 h
        · exact absurd this.2 h
    rw [h4]
    rfl
theorem OverlapsR_large (a b : List Mark) (k : Int) (hl : a.length ≤ 2000000 ∧ b.length ≤ 2000000) (oa : AtOk a) (ob : AtOk b) (hk : 1 ≤ k ∧ k ≤ 64) (h : 256 < a.length ∨ 256 < b.length) : m_assessorref44_Overlaps a b k = some ([], 8) := by
  unfold m_assessorref44_Overlaps
  rw [if_neg (by simp; omega), bad44_m a b hl.1 hl.2, bad44_iff.2 ⟨oa, ob⟩]
  simp only [Option.bind_some, Bool.false_eq_true, if_false]
  rw [if_pos (by simp; omega)]
end Go.Proofs.Ytmfepkadggigpaa
