/-
  Attempts, in plain terms: what counts, the points, what is needed; the example. No program is named.
-/
import Derived.Test.YtmjmoogldbejoaaP52
set_option linter.unusedVariables false
set_option linter.unusedSimpArgs false
namespace Go.Proofs.Ytmjmoogldbejoaa
open Go.RowKit Go.Sort

theorem sub0 {α : Type} {l : List α} {j : Int} (h0 : 0 ≤ j) (h1 : j ≤ l.length) : sub l 0 j = some (l.take j.toNat) := by
  unfold sub
  rw [if_pos ⟨by omega, h0, h1⟩]
  simp
theorem app_ok {α : Type} {l m : List α} (h : l.length + m.length ≤ 4294967296) : app l m = some (l ++ m) := by
  unfold app; rw [if_pos h]
theorem mkc_ok {α : Type} (n : Nat) (z : α) (h : n ≤ 4294967296) : mkc (n : Int) (n : Int) z = some (List.replicate n z) := by
  unfold mkc; rw [if_pos ⟨by omega, by omega, by omega⟩]; simp
theorem cpy_rep {α : Type} (l : List α) (z : α) : cpy (List.replicate l.length z) l = l := by
  unfold cpy; simp
theorem quoK_ok {a b : Int} (ha : 0 ≤ a) (hb : 0 < b) (h2 : a ≤ 9223372036854775807) : quoK .i64 a b = some (a / b) := by
  have e : a.tdiv b = a / b := Int.tdiv_eq_ediv_of_nonneg ha
  have h3 : 0 ≤ a / b := Int.ediv_nonneg ha (by omega)
  have h4 : a / b ≤ a := Int.ediv_le_self b ha
  unfold quoK
  rw [e, if_pos ⟨by omega, by rw [IntKind.wrap_i64]; omega⟩]
theorem chosen_m (r : Rule) (l : List Att) (h : l.length < 20) : m_attempts_chosen r l = some (chosenL r l) := by
  unfold m_attempts_chosen chosenL
  rw [mkc_ok l.length _ (by omega)]
  simp only [Option.bind_some, cpy_rep]
  by_cases hk : r.kind = 1
  · simp only [hk, decide_true, if_true]
    rw [sub0 (by omega) (by omega)]
    simp only [Option.bind_some, Option.some.injEq, List.length_reverse]
    rcases Nat.eq_zero_or_pos l.length with h0 | h0
    · have := List.eq_nil_of_length_eq_zero h0; subst this; rfl
    · rw [show (min 1 (l.length : Int)).toNat = 1 by omega]
  · simp only [hk, decide_false, Bool.false_eq_true, if_false]
    unfold m_sortA
    rw [if_pos h]
    simp only [Option.bind_some]
    rw [sub0 (by omega) (by omega)]
    simp only [Option.bind_some, Option.some.injEq, sortA_len]
    by_cases hkk : r.keep > 1
    · rw [if_pos hkk]
      by_cases hle : r.keep ≤ l.length
      · rw [show (min (max 1 r.keep) (l.length : Int)).toNat = r.keep.toNat by omega]
      · rw [show (min (max 1 r.keep) (l.length : Int)).toNat = l.length by omega, List.take_of_length_le (by rw [sortA_len]; omega), List.take_of_length_le (by rw [sortA_len]; omega)]
    · rw [if_neg hkk]
      rcases Nat.eq_zero_or_pos l.length with h0 | h0
      · rw [List.take_of_length_le (by rw [sortA_len]; omega), List.take_of_length_le (by rw [sortA_len]; omega)]
      · rw [show (min (max 1 r.keep) (l.length : Int)).toNat = 1 by omega]
theorem chosenL_len (r : Rule) (l : List Att) : (chosenL r l).length = min (if r.kind = 1 then 1 else if r.keep > 1 then r.keep.toNat else 1) l.length := by
  unfold chosenL
  split
  · simp
  · rw [List.length_take, sortA_len]
theorem ltA_eq (x y : Att) : ltOf cfA x y = decide (y.pts < x.pts) := by
  unfold ltOf cfA Lib.compareInt
  by_cases h : y.pts < x.pts
  · simp [h]
  · by_cases h2 : y.pts > x.pts
    · simp [h, h2]
    · simp [h, h2]
theorem swoA : SWO (ltOf cfA) := ⟨fun x => by simp [ltA_eq], fun x y z h1 h2 => by simp [ltA_eq] at *; omega, fun x y z h1 h2 => by simp [ltA_eq] at *; omega⟩
theorem sortA_perm (l : List Att) : (sortA l).Perm l := by
  have h := (insertionSort_holds (lt := ltOf cfA) swoA l.toArray 0 l.length (Nat.zero_le _) (by simp)).1
  obtain ⟨hs, _, hp⟩ := h
  have e1 : ((Sort.insertionSort (ltOf cfA) l.toArray 0 l.length).extract 0 l.length).toList = sortA l := by
    unfold sortA
    rw [Array.toList_extract]
    rw [List.extract_eq_take_drop]
    simp only [List.drop_zero, Nat.sub_zero]
    exact List.take_of_length_le (by rw [Array.length_toList, size_insSort]; exact Nat.le_refl _)
  have e2 : (l.toArray.extract 0 l.length).toList = l := by
    rw [Array.toList_extract, List.extract_eq_take_drop]
    simp
  rw [e1, e2] at hp
  exact hp
theorem chosenL_mem {r : Rule} {l : List Att} {a : Att} (h : a ∈ chosenL r l) : a ∈ l := by
  unfold chosenL at h
  split at h
  · exact List.mem_reverse.1 (List.mem_of_mem_take h)
  · exact (sortA_perm l).mem_iff.1 (List.mem_of_mem_take h)
theorem sumP_snoc (l : List Att) (a : Att) : sumP (l ++ [a]) = sumP l + a.pts := by simp [sumP]
theorem sumP_bd : ∀ {l : List Att}, (∀ a ∈ l, 0 ≤ a.pts ∧ a.pts ≤ 100000000) → 0 ≤ sumP l ∧ sumP l ≤ l.length * 100000000
  | [], _ => by simp [sumP]
  | a :: l, h => by
    have h1 := h a (List.mem_cons_self ..)
    have h2 := sumP_bd (l := l) fun b hb => h b (List.mem_cons_of_mem _ hb)
    have e : sumP (a :: l) = a.pts + sumP l := by simp [sumP]
    rw [e, List.length_cons]
    omega
theorem points_m (r : Rule) (l : List Att) (h : l.length < 20) (hp : ∀ a ∈ l, 0 ≤ a.pts ∧ a.pts ≤ 100000000) : m_attempts_points r l = some (pointsL r l) := by
  unfold m_attempts_points pointsL
  rw [chosen_m r l h]
  simp only [Option.bind_some]
  have hc : ∀ a ∈ chosenL r l, 0 ≤ a.pts ∧ a.pts ≤ 100000000 := fun a ha => hp a (chosenL_mem ha)
  have hcl : (chosenL r l).length ≤ l.length := by rw [chosenL_len]; omega
  generalize chosenL r l = c at *
  have hb := sumP_bd hc
  by_cases h0 : c.length = 0
  · simp [h0]
  · have h0' : ¬ ((c.length : Int) = 0) := by omega
    simp only [h0, h0', decide_false, Bool.false_eq_true, if_false]
    obtain ⟨b, hbm, hbp⟩ := loopM_inv (body := fun s : Int × Int => m_attempts_points_lp1 c s.1 s.2) (fun s => ∃ k : Nat, k ≤ c.length ∧ s.2 = k ∧ s.1 = sumP (c.take k)) (fun s => c.length - s.2.toNat) (fun b => b = sumP c) (by
      rintro ⟨t, i⟩ ⟨k, hk, rfl, rfl⟩
      simp only
      unfold m_attempts_points_lp1
      by_cases hlt : k < c.length
      · obtain ⟨a, ha⟩ : ∃ a, c[k]? = some a := ⟨_, List.getElem?_eq_getElem hlt⟩
        have h1 := sumP_bd (l := c.take k) fun a ha => hc a (List.mem_of_mem_take ha)
        have h2 := hc a (List.mem_of_getElem? ha)
        rw [List.length_take] at h1
        simp only [idx_nat ha, Option.bind_some, Int.ofNat_lt, hlt, decide_true, if_true, inK_ok ((k : Int) + 1) (by omega) (by omega), inK_ok (sumP (c.take k) + a.pts) (by omega) (by omega)]
        exact Or.inl ⟨_, rfl, ⟨k + 1, by omega, by simp, by rw [take_snoc_of ha, sumP_snoc]⟩, by simp; omega⟩
      · have : k = c.length := by omega
        subst this
        simp) (0, 0) ⟨0, by omega, rfl, by simp [sumP]⟩
    subst hbp
    rw [hbm]
    simp only [Option.bind_some]
    rw [inK_ok (2 * sumP c) (by omega) (by omega)]
    simp only [Option.bind_some]
    rw [inK_ok (2 * sumP c + (c.length : Int)) (by omega) (by omega)]
    simp only [Option.bind_some]
    rw [inK_ok (2 * (c.length : Int)) (by omega) (by omega)]
    simp only [Option.bind_some]
    rw [quoK_ok (by omega) (by omega) (by omega)]
    rfl
theorem final_m (r : Rule) (l : List Att) (hl : l.length ≤ 1000000) : m_attempts_Final r l = some (finalL r l) := by
  unfold m_attempts_Final finalL
  rw [valid_m r l hl]
  cases hv : validB r l with
  | false => simp
  | true =>
    obtain ⟨f1, f2, f3, f4⟩ := valid_facts hv
    simp [points_m r l (by omega) f1]
theorem counting_m (r : Rule) (l : List Att) (hl : l.length ≤ 1000000) : m_attempts_Counting r l = some (countingL r l) := by
  unfold m_attempts_Counting countingL
  rw [valid_m r l hl]
  cases hv : validB r l with
  | false => simp
  | true =>
    obtain ⟨f1, f2, f3, f4⟩ := valid_facts hv
    simp only [Option.bind_some, Bool.not_true, Bool.false_eq_true, if_false, if_true, chosen_m r l (by omega)]
    have hcl : (chosenL r l).length ≤ l.length := by rw [chosenL_len]; omega
    generalize chosenL r l = c at *
    obtain ⟨b, hbm, hbp⟩ := loopM_inv (body := fun s : Int × List Int => m_attempts_Counting_lp1 c s.1 s.2) (fun s => ∃ k : Nat, k ≤ c.length ∧ s.1 = k ∧ s.2 = (c.take k).map Att.num) (fun s => c.length - s.1.toNat) (fun b => b = c.map Att.num) (by
      rintro ⟨i, o⟩ ⟨k, hk, rfl, rfl⟩
      simp only
      unfold m_attempts_Counting_lp1
      by_cases hlt : k < c.length
      · obtain ⟨a, ha⟩ : ∃ a, c[k]? = some a := ⟨_, List.getElem?_eq_getElem hlt⟩
        simp only [idx_nat ha, Option.bind_some, Int.ofNat_lt, hlt, decide_true, if_true, inK_ok ((k : Int) + 1) (by omega) (by omega)]
        rw [app_ok (by simp; omega)]
        exact Or.inl ⟨_, rfl, ⟨k + 1, by omega, by simp, by simp [take_snoc_of ha]⟩, by simp; omega⟩
      · have : k = c.length := by omega
        subst this
        simp) (0, []) ⟨0, by omega, rfl, by simp⟩
    subst hbp
    rw [hbm]
    simp only [Option.bind_some]
    unfold m_sortI
    rw [if_pos (by simp; omega)]
    rfl
theorem withL_facts {l : List Att} {p : Int} (hp : ∀ a ∈ l, 0 ≤ a.pts ∧ a.pts ≤ 100000000) (h0 : 0 ≤ p) (h1 : p ≤ 100000000) : ∀ a ∈ withL l p, 0 ≤ a.pts ∧ a.pts ≤ 100000000 := by
  intro a ha
  rcases List.mem_append.1 ha with h | h
  · exact hp a h
  · simp at h; subst h; exact ⟨h0, h1⟩
theorem enough_m (r : Rule) (l : List Att) (goal p : Int) (hl : l.length < 19) (hp : ∀ a ∈ l, 0 ≤ a.pts ∧ a.pts ≤ 100000000) (h0 : 0 ≤ p) (h1 : p ≤ 100000000) : m_attempts_Needed_1 p l r goal = some (decide (goal ≤ withP r l p)) := by
  unfold m_attempts_Needed_1
  rw [inK_ok ((l.length : Int) + 1) (by omega) (by omega), last_m l (by omega), app_ok (by simp; omega)]
  simp only [Option.bind_some, List.nil_append]
  rw [app_ok (by simp; omega)]
  simp only [Option.bind_some]
  have e : l ++ [⟨(l.length : Int) + 1, lastT l, p⟩] = withL l p := rfl
  rw [e, points_m r (withL l p) (by simp [withL]; omega) (withL_facts hp h0 h1)]
  rfl
theorem needed_m (r : Rule) (l : List Att) (goal : Int) (hl : l.length ≤ 1000000) : ∃ k ok, m_attempts_Needed r l goal = some (k, ok) ∧ NeededIs r l goal k ok := by
  unfold m_attempts_Needed NeededIs
  rw [valid_m r l hl]
  cases hv : validB r l with
  | false => exact ⟨0, false, by simp, by simp⟩
  | true =>
    obtain ⟨f1, f2, f3, f4⟩ := valid_facts hv
    by_cases hm : (l.length : Int) = r.most
    · exact ⟨0, false, by simp [hm], by simp [hm]⟩
    · simp only [Option.bind_some, hm, decide_false, Bool.not_true, Bool.or_false, Bool.false_eq_true, if_false, enough_m r l goal 100000000 (by omega) f1 (by omega) (by omega), Bool.true_eq_false, or_false]
      by_cases hg : goal ≤ withP r l 100000000
      · simp only [hg, decide_true, Bool.not_true, Bool.false_eq_true, if_false]
        obtain ⟨b, hbm, hbp⟩ := loopM_inv (body := fun s : Int × Int => m_attempts_Needed_lp1 r l goal s.1 s.2) (fun s => 0 ≤ s.1 ∧ s.1 ≤ s.2 ∧ s.2 ≤ 100000000 ∧ goal ≤ withP r l s.2 ∧ (s.1 = 0 ∨ withP r l (s.1 - 1) < goal)) (fun s => (s.2 - s.1).toNat)
          (fun b => 0 ≤ b ∧ b ≤ 100000000 ∧ goal ≤ withP r l b ∧ (b = 0 ∨ withP r l (b - 1) < goal)) (by
            rintro ⟨a, b⟩ ⟨h0, hab, hb, hg1, hg2⟩
            simp only at *
            unfold m_attempts_Needed_lp1
            by_cases hlt : a < b
            · simp only [hlt, decide_true, if_true]
              rw [inK_ok (a + b) (by omega) (by omega)]
              simp only [Option.bind_some]
              rw [quoK_ok (by omega) (by omega) (by omega)]
              simp only [Option.bind_some]
              rw [enough_m r l goal ((a + b) / 2) (by omega) f1 (by omega) (by omega)]
              simp only [Option.bind_some]
              by_cases hw : goal ≤ withP r l ((a + b) / 2)
              · simp only [hw, decide_true, if_true]
                exact Or.inl ⟨_, rfl, ⟨h0, by simp; omega, by simp; omega, hw, hg2⟩, by simp; omega⟩
              · simp only [hw, decide_false, Bool.false_eq_true, if_false]
                rw [inK_ok ((a + b) / 2 + 1) (by omega) (by omega)]
                exact Or.inl ⟨_, rfl, ⟨by simp; omega, by simp; omega, hb, hg1, Or.inr (by simp only [Int.add_sub_cancel]; omega)⟩, by simp; omega⟩
            · obtain rfl : a = b := by omega
              simp only [hlt, decide_false, Bool.false_eq_true, if_false]
              exact Or.inr ⟨_, rfl, h0, hb, hg1, hg2⟩) (0, 100000000) ⟨by simp, by simp, by simp, hg, Or.inl rfl⟩
        rw [hbm]
        exact ⟨b, true, rfl, by rw [if_neg (by omega)]; exact ⟨rfl, hbp⟩⟩
      · simp only [hg, decide_false, Bool.not_false, if_true]
        exact ⟨0, false, rfl, by rw [if_pos (by omega)]; exact ⟨rfl, rfl⟩⟩
end Go.Proofs.Ytmjmoogldbejoaa
