/-
  What two lists of marks share, in plain terms; both models compute it. No program is named.
-/
import Derived.Test.YtlnhijgieblmgaaDoorP1
set_option linter.unusedVariables false
set_option linter.unusedSimpArgs false
namespace Go.Proofs.YtlnhijgieblmgaaDoor
open Go.RowKit

def SharedIs (a b : List Mark) (r : List Int) : Prop := r.Pairwise (· < ·) ∧ ∀ x, x ∈ r ↔ x ∈ a.map Mark.hash ∧ x ∈ b.map Mark.hash
theorem SharedIs.one {a b : List Mark} {r s : List Int} (hr : SharedIs a b r) (hs : SharedIs a b s) : r = s := rising_int hr.1 hs.1 fun x => (hr.2 x).trans (hs.2 x).symm
theorem has_m (l : List Mark) (x : Int) (hl : l.length ≤ 4294967296) : m_assessorref43_has l x = some (decide (x ∈ l.map Mark.hash)) := by
  unfold m_assessorref43_has
  refine bind_any l (fun m => decide (m.hash = x)) (.ret true) (.brk ()) (fun k a ha => ?_) ?_ ?_
  · have hk := (List.getElem?_eq_some_iff.1 ha).1
    simp only [m_assessorref43_has_lp1]
    rw [if_pos (by simpa using hk), idx_nat ha]
    simp only [Option.bind_some]
    rw [inK_succ (by omega)]
    by_cases h : a.hash = x <;> simp [h]
  · simp only [m_assessorref43_has_lp1]
    rw [if_neg (by simp)]
  · have e : l.any (fun m => decide (m.hash = x)) = decide (x ∈ l.map Mark.hash) := by
      rw [Bool.eq_iff_iff]; simp [List.any_eq_true, List.mem_map]
    rw [e]
    by_cases h : x ∈ l.map Mark.hash
    · rw [decide_eq_true h]; rfl
    · rw [decide_eq_false h]; rfl
/-- A number goes into a list that rises. -/
theorem Add_m (l : List Int) (x : Int) (hl : l.length ≤ 4000000) (hr : l.Pairwise (· < ·)) : ∃ r, m_assessorref43_Add l x = some r ∧ r.Pairwise (· < ·) ∧ (∀ y, y ∈ r ↔ y = x ∨ y ∈ l) ∧ r.length ≤ l.length + 1 := by
  unfold m_assessorref43_Add
  have hbody : ∀ (k : Nat) a, l[k]? = some a → m_assessorref43_Add_lp1 l x k = some (if decide (x ≤ a) = true then .done (k : Int) else .next ((k + 1 : Nat) : Int)) := by
    intro k a ha
    have hk := (List.getElem?_eq_some_iff.1 ha).1
    simp only [m_assessorref43_Add_lp1]
    rw [if_pos (by simpa using hk), idx_nat ha]
    simp only [Option.bind_some]
    rw [inK_succ (by omega)]
    by_cases h : a < x
    · have h2 : ¬ x ≤ a := by omega
      simp [h, h2]
    · have h2 : x ≤ a := by omega
      simp [h, h2]
  have hend : m_assessorref43_Add_lp1 l x (l.length : Int) = some (.done (l.length : Int)) := by
    simp only [m_assessorref43_Add_lp1]
    rw [if_neg (by simp)]; rfl
  -- the place
  have hplace : ∃ k : Nat, k ≤ l.length ∧ loopM (fun s => m_assessorref43_Add_lp1 l x s) 0 = some (k : Int) ∧ (∀ j b, j < k → l[j]? = some b → b < x) ∧ (∀ b, l[k]? = some b → x ≤ b) := by
    rcases scan_loop (body := fun s => m_assessorref43_Add_lp1 l x s) l (fun a => decide (x ≤ a)) (fun k _ => (k : Int)) (l.length : Int) hbody hend with ⟨k, a, h1, h2, h3, _, _, h4⟩ | ⟨h1, _, _, h4⟩
    · exact ⟨k, Nat.le_of_lt (List.getElem?_eq_some_iff.1 h1).1, h4, fun j b hj hb => by have := h3 j b hj hb; simp at this; omega, fun b hb => by rw [h1] at hb; obtain rfl := Option.some.inj hb; simpa using h2⟩
    · exact ⟨l.length, Nat.le_refl _, h4, fun j b hj hb => by have := h1 b (List.mem_of_getElem? hb); simp at this; omega, fun b hb => by rw [List.getElem?_eq_none (Nat.le_refl _)] at hb; cases hb⟩
  obtain ⟨k, hk, hloop, hlo, hhi⟩ := hplace
  rw [hloop]
  simp only [Option.bind_some]
  have hsplit : l = l.take k ++ l.drop k := (List.take_append_drop k l).symm
  have htake : ∀ y ∈ l.take k, y < x := by
    intro y hy
    obtain ⟨j, hj⟩ := List.getElem?_of_mem hy
    rw [List.getElem?_take] at hj
    split at hj
    · exact hlo j y (by assumption) hj
    · cases hj
  by_cases hh : ∃ b, l[k]? = some b ∧ b = x
  · obtain ⟨b, hb, rfl⟩ := hh
    have hkl := (List.getElem?_eq_some_iff.1 hb).1
    rw [if_pos (by simpa using hkl), idx_nat hb]
    simp only [Option.bind_some, decide_true, if_true]
    exact ⟨l, rfl, hr, fun y => ⟨Or.inr, fun h => h.elim (fun e => e ▸ List.mem_of_getElem? hb) id⟩, by omega⟩
  · have hcond : ((if (decide ((k : Int) < (l.length : Int))) = true then (idx l (k : Int)).bind fun x3 => some (decide (x3 = x)) else some false) : Option Bool) = some false := by
      by_cases hkl : k < l.length
      · obtain ⟨b, hb⟩ := get_of_lt hkl
        rw [if_pos (by simpa using hkl), idx_nat hb]
        have : b ≠ x := fun e => hh ⟨b, hb, e⟩
        simp [this]
      · rw [if_neg (by simpa using hkl)]
    rw [hcond]
    simp only [Option.bind_some, Bool.false_eq_true, if_false]
    have hgt : ∀ y ∈ l.drop k, x < y := by
      intro y hy
      cases hd : l[k]? with
      | none => rw [List.drop_eq_nil_of_le (List.getElem?_eq_none_iff.1 hd)] at hy; simp at hy
      | some b =>
        have hxb : x < b := by
          have h1 := hhi b hd
          have h2 : b ≠ x := fun e => hh ⟨b, hd, e⟩
          omega
        rw [drop_cons_of hd] at hy
        rcases List.mem_cons.1 hy with rfl | hy
        · exact hxb
        · have hr2 := hr
          rw [hsplit, drop_cons_of hd] at hr2
          have := (List.pairwise_cons.1 (List.pairwise_append.1 hr2).2.1).1 y hy
          omega
    rw [sub_ok (by omega) (by omega) (by omega)]
    simp only [Option.bind_some, Int.toNat_natCast, Int.toNat_zero, List.drop_zero]
    rw [app_ok (by simp <;> omega)]
    simp only [Option.bind_some, List.nil_append]
    rw [app_ok (by simp <;> omega)]
    simp only [Option.bind_some]
    rw [sub_ok (by omega) (by omega) (by omega)]
    simp only [Option.bind_some, Int.toNat_natCast, List.take_length]
    rw [app_ok (by simp <;> omega)]
    refine ⟨_, rfl, ?_, fun y => ?_, by simp <;> omega⟩
    · have h1 := hr
      rw [hsplit, List.pairwise_append] at h1
      simp only [List.append_assoc, List.pairwise_append, List.singleton_append, List.pairwise_cons, List.mem_cons]
      refine ⟨h1.1, ⟨hgt, h1.2.1⟩, fun a ha b hb => ?_⟩
      rcases hb with rfl | hb
      · exact htake a ha
      · exact h1.2.2 a ha b hb
    · simp only [List.append_assoc, List.mem_append, List.singleton_append, List.mem_cons]
      have : y ∈ l ↔ y ∈ l.take k ∨ y ∈ l.drop k := by rw [← List.mem_append, List.take_append_drop]
      rw [this]
      constructor
      · rintro (h | h | h)
        · exact Or.inr (Or.inl h)
        · exact Or.inl h
        · exact Or.inr (Or.inr h)
      · rintro (h | h | h)
        · exact Or.inr (Or.inl h)
        · exact Or.inl h
        · exact Or.inr (Or.inr h)
theorem SharedR_m (a b : List Mark) (ha : a.length ≤ 1000000) (hb : b.length ≤ 1000000) : ∃ r, m_assessorref43_Shared a b = some r ∧ SharedIs a b r := by
  unfold m_assessorref43_Shared
  obtain ⟨r, hr, hp⟩ := loopM_inv (body := fun s => m_assessorref43_Shared_lp1 a b s.1 s.2) (fun s => ∃ k : Nat, k ≤ a.length ∧ s.1 = k ∧ s.2.Pairwise (· < ·) ∧ s.2.length ≤ k ∧ ∀ x, x ∈ s.2 ↔ x ∈ (a.take k).map Mark.hash ∧ x ∈ b.map Mark.hash) (fun s => a.length - s.1.toNat)
    (fun r => SharedIs a b r) (by
      rintro ⟨i, l⟩ ⟨k, hk, rfl, h1, h2, h3⟩
      simp only at h1 h2 h3 ⊢
      simp only [m_assessorref43_Shared_lp1]
      by_cases hlt : k < a.length
      · obtain ⟨m, hm⟩ := get_of_lt hlt
        rw [if_pos (by simpa using hlt), idx_nat hm]
        simp only [Option.bind_some, has_m b _ (by omega)]
        rw [inK_succ (by omega)]
        left
        have ht : (a.take (k + 1)).map Mark.hash = (a.take k).map Mark.hash ++ [m.hash] := by rw [take_snoc_of hm]; simp
        by_cases hx : m.hash ∈ b.map Mark.hash
        · rw [decide_eq_true hx]
          obtain ⟨r, hr, hr1, hr2, hr3⟩ := Add_m l m.hash (by omega) h1
          simp only [if_true, hr, Option.bind_some]
          refine ⟨_, rfl, ⟨k + 1, by omega, rfl, hr1, by show r.length ≤ k + 1; omega, fun x => ?_⟩, by simp <;> omega⟩
          show x ∈ r ↔ _
          rw [hr2, h3, ht, List.mem_append, List.mem_singleton]
          constructor
          · rintro (rfl | h)
            · exact ⟨Or.inr rfl, hx⟩
            · exact ⟨Or.inl h.1, h.2⟩
          · rintro ⟨h | h, h4⟩
            · exact Or.inr ⟨h, h4⟩
            · exact Or.inl h
        · rw [decide_eq_false hx]
          simp only [Bool.false_eq_true, if_false, Option.bind_some]
          refine ⟨_, rfl, ⟨k + 1, by omega, rfl, h1, by show l.length ≤ k + 1; omega, fun x => ?_⟩, by simp <;> omega⟩
          show x ∈ l ↔ _
          rw [h3, ht, List.mem_append, List.mem_singleton]
          constructor
          · rintro ⟨h, h4⟩; exact ⟨Or.inl h, h4⟩
          · rintro ⟨h | rfl, h4⟩
            · exact ⟨h, h4⟩
            · exact absurd h4 hx
      · rw [if_neg (by simpa using hlt)]
        right
        refine ⟨_, rfl, h1, fun x => ?_⟩
        rw [h3, List.take_of_length_le (by omega)]) (0, []) ⟨0, by omega, rfl, List.Pairwise.nil, by simp, by simp⟩
  exact ⟨r, by rw [hr]; rfl, hp⟩
/-- The keys that a fold of stores leaves. -/
theorem sorted_rises {l : List Int} (h : l.Nodup) : (l.mergeSort fun x y => decide (x ≤ y)).Pairwise (· < ·) := by
  have h1 : (l.mergeSort fun x y => decide (x ≤ y)).Pairwise (fun a b => decide (a ≤ b) = true) := List.pairwise_mergeSort (fun a b c h1 h2 => by simp at *; omega) (fun a b => by simp; omega) l
  have h2 : (l.mergeSort fun x y => decide (x ≤ y)).Nodup := (List.mergeSort_perm l _).nodup_iff.2 h
  exact (h1.and h2).imp fun ⟨a, b⟩ => by simp at a; omega
theorem Shared_m (a b : List Mark) (ha : a.length ≤ 1000000) (hb : b.length ≤ 1000000) (hw : ∀ m ∈ b, I64 m.hash) : ∃ r, m_fingerprint_Shared a b = some r ∧ SharedIs a b r ∧ r.length ≤ b.length := by
  unfold m_fingerprint_Shared
  obtain ⟨s, hs, hsk, hsg⟩ : ∃ s : List (Int × Bool), (loopM (fun s => m_fingerprint_Shared_lp1 a s.1 s.2) (0, []) : Option (List (Int × Bool))) = some s ∧ True ∧ ∀ x, (mget s x).getD false = decide (x ∈ a.map Mark.hash) := by
    obtain ⟨r, hr, hp⟩ := loopM_inv (body := fun s => m_fingerprint_Shared_lp1 a s.1 s.2) (fun s => ∃ k : Nat, k ≤ a.length ∧ s.1 = k ∧ ∀ x, (mget s.2 x).getD false = decide (x ∈ (a.take k).map Mark.hash)) (fun s => a.length - s.1.toNat)
      (fun r => ∀ x, (mget r x).getD false = decide (x ∈ a.map Mark.hash)) (by
        rintro ⟨i, l⟩ ⟨k, hk, rfl, h3⟩
        simp only at h3 ⊢
        simp only [m_fingerprint_Shared_lp1]
        by_cases hlt : k < a.length
        · obtain ⟨m, hm⟩ := get_of_lt hlt
          rw [if_pos (by simpa using hlt), idx_nat hm]
          simp only [Option.bind_some]
          rw [inK_succ (by omega)]
          left
          refine ⟨_, rfl, ⟨k + 1, by omega, rfl, fun x => ?_⟩, by simp <;> omega⟩
          show (mget (mput l m.hash true) x).getD false = _
          rw [mget_mput, take_snoc_of hm, List.map_append]
          by_cases hx : x = m.hash
          · subst hx; simp
          · rw [if_neg hx, h3]; simp [hx]
        · rw [if_neg (by simpa using hlt)]
          right
          refine ⟨_, rfl, fun x => ?_⟩
          rw [h3, List.take_of_length_le (by omega)]) (0, []) ⟨0, by omega, rfl, fun x => by simp [mget]⟩
    exact ⟨r, hr, trivial, hp⟩
  rw [hs]
  simp only [Option.bind_some]
  obtain ⟨t, ht, hp1, hp2, hp3⟩ := loopM_inv (body := fun q => m_fingerprint_Shared_lp2 b s q.1 q.2) (fun q => ∃ k : Nat, k ≤ b.length ∧ q.1 = k ∧ (q.2.map (·.1)).Nodup ∧ q.2.length ≤ k ∧ ∀ x, x ∈ q.2.map (·.1) ↔ x ∈ a.map Mark.hash ∧ x ∈ (b.take k).map Mark.hash) (fun q => b.length - q.1.toNat)
    (fun r => (r.map (·.1)).Nodup ∧ r.length ≤ b.length ∧ ∀ x, x ∈ r.map (·.1) ↔ x ∈ a.map Mark.hash ∧ x ∈ b.map Mark.hash) (by
      rintro ⟨i, l⟩ ⟨k, hk, rfl, h1, h2, h3⟩
      simp only at h1 h2 h3 ⊢
      simp only [m_fingerprint_Shared_lp2]
      by_cases hlt : k < b.length
      · obtain ⟨m, hm⟩ := get_of_lt hlt
        rw [if_pos (by simpa using hlt), idx_nat hm]
        simp only [Option.bind_some, hsg]
        rw [inK_succ (by omega)]
        left
        have htk : (b.take (k + 1)).map Mark.hash = (b.take k).map Mark.hash ++ [m.hash] := by rw [take_snoc_of hm]; simp
        by_cases hx : m.hash ∈ a.map Mark.hash
        · rw [decide_eq_true hx]
          simp only [if_true, Option.bind_some]
          refine ⟨_, rfl, ⟨k + 1, by omega, rfl, mput_nodup h1 _ _, by have := mput_len l m.hash true; show (mput l m.hash true).length ≤ k + 1; omega, fun x => ?_⟩, by simp <;> omega⟩
          show x ∈ (mput l m.hash true).map (·.1) ↔ _
          rw [mput_mem, h3, htk, List.mem_append, List.mem_singleton]
          constructor
          · rintro (rfl | h)
            · exact ⟨hx, Or.inr rfl⟩
            · exact ⟨h.1, Or.inl h.2⟩
          · rintro ⟨h4, h | h⟩
            · exact Or.inr ⟨h4, h⟩
            · exact Or.inl h
        · rw [decide_eq_false hx]
          simp only [Bool.false_eq_true, if_false, Option.bind_some]
          refine ⟨_, rfl, ⟨k + 1, by omega, rfl, h1, by show l.length ≤ k + 1; omega, fun x => ?_⟩, by simp <;> omega⟩
          show x ∈ l.map (·.1) ↔ _
          rw [h3, htk, List.mem_append, List.mem_singleton]
          constructor
          · rintro ⟨h, h4⟩; exact ⟨h, Or.inl h4⟩
          · rintro ⟨h4, h | rfl⟩
            · exact ⟨h4, h⟩
            · exact absurd h4 hx
      · rw [if_neg (by simpa using hlt)]
        right
        refine ⟨_, rfl, h1, by show l.length ≤ b.length; omega, fun x => ?_⟩
        show x ∈ l.map (·.1) ↔ _
        rw [h3, List.take_of_length_le (by omega)]) (0, []) ⟨0, by omega, rfl, List.Pairwise.nil, by simp, by simp⟩
  rw [ht]
  simp only [Option.bind_some]
  unfold m_sortedKeys
  have hall : (t.all fun p => decide (-9223372036854775808 ≤ p.1 ∧ p.1 ≤ 9223372036854775807)) = true := List.all_eq_true.2 fun p hp => by
    have h1 : p.1 ∈ t.map (·.1) := List.mem_map_of_mem hp
    obtain ⟨_, h2⟩ := (hp3 _).1 h1
    obtain ⟨m, hm, e⟩ := List.mem_map.1 h2
    have h4 := hw m hm
    unfold I64 at h4
    rw [← e]
    simpa using h4
  rw [if_pos ⟨hall, by omega⟩]
  refine ⟨_, rfl, ⟨sorted_rises hp1, fun x => ?_⟩, by simpa using hp2⟩
  rw [List.mem_mergeSort, hp3]
end Go.Proofs.YtlnhijgieblmgaaDoor
