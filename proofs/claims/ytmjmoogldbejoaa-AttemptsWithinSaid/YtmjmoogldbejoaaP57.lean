/-
  Attempts, in plain terms: the law AttemptsFinals (the reference's Counting, Final and Needed). No program is named.
-/
import Derived.Test.YtmjmoogldbejoaaP56
import Derived.Test.YtmjmoogldbejoaaWFM
set_option linter.unusedVariables false
set_option linter.unusedSimpArgs false
namespace Go.Proofs.Ytmjmoogldbejoaa
open Go.RowKit Go.Sort

theorem okFrom_num : ∀ {l : List Att} {i t : Int}, okFrom i t l = true → ∀ (k : Nat) (a : Att), l[k]? = some a → a.num = i + k + 1
  | [], _, _, _, _, _, h => by simp at h
  | b :: l, i, t, ho, k, a, h => by
    rw [okFrom] at ho
    simp only [Bool.and_eq_true, decide_eq_true_eq] at ho
    cases k with
    | zero =>
      simp only [List.getElem?_cons_zero, Option.some.injEq] at h
      subst h
      have := ho.1.1.1.1.1
      omega
    | succ k =>
      rw [List.getElem?_cons_succ] at h
      have := okFrom_num ho.2 k a h
      omega
/-- The attempts are numbered from one. -/
def Numd (l : List Att) : Prop := ∀ (k : Nat) (a : Att), l[k]? = some a → a.num = (k : Int) + 1
theorem numd_of {r : Rule} {l : List Att} (hv : validB r l = true) : Numd l := fun k a h => by
  unfold validB at hv
  simp only [Bool.and_eq_true] at hv
  have := okFrom_num hv.2 k a h
  omega
theorem Numd.rising {l : List Att} (h : Numd l) : Rising l := by
  unfold Rising
  rw [List.pairwise_iff_getElem]
  intro i j hi hj hij
  have a := h i _ (List.getElem?_eq_getElem hi)
  have b := h j _ (List.getElem?_eq_getElem hj)
  omega
theorem countP_take {α : Type} (p : α → Bool) {l : List α} {k : Nat} {a : α} (h : l[k]? = some a) : (l.take (k + 1)).countP p = (l.take k).countP p + if p a then 1 else 0 := by
  rw [take_snoc_of h, List.countP_append]
  simp [List.countP_cons]
theorem better_m {l : List Att} (hn : Numd l) (hl : l.length ≤ 1000000) {i : Nat} {a : Att} (ha : l[i]? = some a) : m_assessorref52_better l i = some ((l.countP fun x => lexA x a : Nat) : Int) := by
  unfold m_assessorref52_better
  obtain ⟨b, hbm, hbp⟩ := loopM_inv (body := fun s : Int × Int => m_assessorref52_better_lp1 l i s.1 s.2) (fun s => ∃ k : Nat, k ≤ l.length ∧ s.2 = k ∧ s.1 = (((l.take k).countP fun x => lexA x a : Nat) : Int)) (fun s => l.length - s.2.toNat) (fun b => b = ((l.countP fun x => lexA x a : Nat) : Int)) (by
    rintro ⟨c, j⟩ ⟨k, hk, rfl, rfl⟩
    simp only
    unfold m_assessorref52_better_lp1
    by_cases hlt : k < l.length
    · obtain ⟨x, hx⟩ : ∃ x, l[k]? = some x := ⟨_, List.getElem?_eq_getElem hlt⟩
      have hc : (l.take k).countP (fun x => lexA x a) ≤ k := Nat.le_trans List.countP_le_length (by simp; omega)
      have hs := countP_take (fun x => lexA x a) hx
      have n1 := hn _ _ hx
      have n2 := hn _ _ ha
      simp only [idx_nat hx, idx_nat ha, Option.bind_some, Int.ofNat_lt, hlt, decide_true, if_true, inK_ok ((k : Int) + 1) (by omega) (by omega), inK_ok ((((l.take k).countP fun x => lexA x a : Nat) : Int) + 1) (by omega) (by omega)]
      by_cases hlx : lexA x a = true
      · rw [if_pos hlx] at hs
        have hm : ((if (decide (a.pts < x.pts)) = true then some true else some ((decide (x.pts = a.pts)) && (decide (k < i)))) : Option Bool) = some true := by
          simp only [lexA, decide_eq_true_eq] at hlx
          by_cases h1 : a.pts < x.pts
          · simp [h1]
          · simp [h1]; omega
        rw [hm]
        exact Or.inl ⟨_, rfl, ⟨k + 1, by omega, by simp, by simp only; rw [hs]; simp⟩, by simp; omega⟩
      · rw [if_neg hlx] at hs
        have hm : ((if (decide (a.pts < x.pts)) = true then some true else some ((decide (x.pts = a.pts)) && (decide (k < i)))) : Option Bool) = some false := by
          simp only [lexA, decide_eq_true_eq] at hlx
          have h1 : ¬ a.pts < x.pts := by omega
          simp [h1]; omega
        rw [hm]
        exact Or.inl ⟨_, rfl, ⟨k + 1, by omega, by simp, by simp only; rw [hs]; simp⟩, by simp; omega⟩
    · have : k = l.length := by omega
      subst this
      simp) (0, 0) ⟨0, by omega, rfl, by simp⟩
  subst hbp
  rw [hbm]; rfl
def manyR (r : Rule) : Nat := if r.keep > 1 then r.keep.toNat else 1
def pickB (r : Rule) (l : List Att) (x : Att) : Bool := if r.kind = 1 then decide (x.num = l.length) else decide ((l.countP fun y => lexA y x) < manyR r)
theorem kind_facts {r : Rule} {l : List Att} (hv : validB r l = true) : (r.kind = 0 ∧ r.keep = 0) ∨ (r.kind = 1 ∧ r.keep = 0) ∨ (r.kind = 2 ∧ 1 ≤ r.keep) := by
  unfold validB rightB at hv
  simp only [Bool.and_eq_true, decide_eq_true_eq] at hv
  have h := hv.1.1.2
  have h2 := hv.1.1.1.1.1.1
  by_cases hk : r.kind = 2
  · rw [if_pos hk] at h
    simp only [Bool.and_eq_true, decide_eq_true_eq] at h
    omega
  · rw [if_neg hk] at h
    simp only [decide_eq_true_eq] at h
    omega
theorem filter_take1 {α : Type} (p : α → Bool) {l : List α} {k : Nat} {a : α} (h : l[k]? = some a) : (l.take (k + 1)).filter p = (l.take k).filter p ++ if p a then [a] else [] := by
  rw [take_snoc_of h, List.filter_append]
  congr 1
  by_cases e : p a <;> simp [e]
theorem rcounting_m (r : Rule) (l : List Att) (hl : l.length ≤ 1000000) : m_assessorref52_Counting r l = some (if validB r l = true then (l.filter (pickB r l)).map Att.num else []) := by
  unfold m_assessorref52_Counting
  rw [rvalid_m r l hl]
  cases hv : validB r l with
  | false => simp
  | true =>
    obtain ⟨f1, f2, f3, f4⟩ := valid_facts hv
    have hn := numd_of hv
    have hk3 := kind_facts hv
    simp only [Option.bind_some, Bool.not_true, Bool.false_eq_true, if_false, if_true]
    obtain ⟨b, hbm, hbp⟩ := loopM_inv (body := fun s : Int × List Int => m_assessorref52_Counting_lp1 r l s.1 s.2) (fun s => ∃ k : Nat, k ≤ l.length ∧ s.1 = k ∧ s.2 = ((l.take k).filter (pickB r l)).map Att.num) (fun s => l.length - s.1.toNat) (fun b => b = (l.filter (pickB r l)).map Att.num) (by
      rintro ⟨i, o⟩ ⟨k, hk, rfl, rfl⟩
      simp only
      unfold m_assessorref52_Counting_lp1
      by_cases hlt : k < l.length
      · obtain ⟨a, ha⟩ : ∃ a, l[k]? = some a := ⟨_, List.getElem?_eq_getElem hlt⟩
        have hf := filter_take1 (pickB r l) ha
        have n1 := hn _ _ ha
        have hcl : ((l.take k).filter (pickB r l)).length ≤ k := Nat.le_trans (List.length_filter_le _ _) (by simp; omega)
        simp only [Option.bind_some, Int.ofNat_lt, hlt, decide_true, if_true, inK_ok ((k : Int) + 1) (by omega) (by omega), inK_ok ((l.length : Int) - 1) (by omega) (by omega), better_m hn hl ha]
        have fin : ∀ m : Bool, pickB r l a = m → ((∃ s', (if m = true then (app (((l.take k).filter (pickB r l)).map Att.num) [(k : Int) + 1]).bind fun x6 => some (Step.next ((k : Int) + 1, x6)) else some (Step.next ((k : Int) + 1, ((l.take k).filter (pickB r l)).map Att.num)) : Option (Step (Int × List Int) (List Int))) = some (Step.next s') ∧ (∃ k : Nat, k ≤ l.length ∧ s'.1 = k ∧ s'.2 = ((l.take k).filter (pickB r l)).map Att.num) ∧ l.length - s'.1.toNat < l.length - (k : Int).toNat) ∨ ∃ b, (if m = true then (app (((l.take k).filter (pickB r l)).map Att.num) [(k : Int) + 1]).bind fun x6 => some (Step.next ((k : Int) + 1, x6)) else some (Step.next ((k : Int) + 1, ((l.take k).filter (pickB r l)).map Att.num)) : Option (Step (Int × List Int) (List Int))) = some (Step.done b) ∧ b = (l.filter (pickB r l)).map Att.num) := by
          intro m hm
          left
          cases m with
          | true =>
            rw [hm, if_pos rfl] at hf
            rw [if_pos rfl, app_ok (by simp; omega)]
            exact ⟨_, rfl, ⟨k + 1, by omega, by simp, by simp only; rw [hf]; simp [n1]⟩, by simp; omega⟩
          | false =>
            rw [hm, if_neg (by simp)] at hf
            exact ⟨_, rfl, ⟨k + 1, by omega, by simp, by simp only; rw [hf]; simp⟩, by simp; omega⟩
        rcases hk3 with ⟨e1, e2⟩ | ⟨e1, e2⟩ | ⟨e1, e2⟩
        · simp only [e1, decide_true, if_true, Option.bind_some, show ¬ ((0 : Int) = 1) by omega, show ¬ ((0 : Int) = 2) by omega, decide_false, Bool.false_eq_true, if_false]
          have hp : pickB r l a = decide (((l.countP fun x => lexA x a : Nat) : Int) = 0) := by
            unfold pickB manyR
            rw [if_neg (by omega), if_neg (by omega)]
            congr 1
            simp only [eq_iff_iff]
            omega
          have := fin _ hp
          cases hd : decide (((l.countP fun x => lexA x a : Nat) : Int) = 0) with
          | true => rw [hd] at this; simpa using this
          | false => rw [hd] at this; simpa using this
        · simp only [e1, decide_true, if_true, Option.bind_some, show ¬ ((1 : Int) = 0) by omega, show ¬ ((1 : Int) = 2) by omega, decide_false, Bool.false_eq_true, if_false]
          have hp : pickB r l a = decide ((k : Int) = (l.length : Int) - 1) := by
            unfold pickB
            rw [if_pos e1]
            congr 1
            simp only [eq_iff_iff]
            omega
          have := fin _ hp
          cases hd : decide ((k : Int) = (l.length : Int) - 1) with
          | true => rw [hd] at this; simpa using this
          | false => rw [hd] at this; simpa using this
        · simp only [e1, decide_true, if_true, Option.bind_some, show ¬ ((2 : Int) = 0) by omega, show ¬ ((2 : Int) = 1) by omega, decide_false, Bool.false_eq_true, if_false]
          have hp : pickB r l a = decide (((l.countP fun x => lexA x a : Nat) : Int) < r.keep) := by
            unfold pickB manyR
            rw [if_neg (by omega)]
            congr 1
            simp only [eq_iff_iff]
            split <;> omega
          have := fin _ hp
          cases hd : decide (((l.countP fun x => lexA x a : Nat) : Int) < r.keep) with
          | true => rw [hd] at this; simpa using this
          | false => rw [hd] at this; simpa using this
      · have : k = l.length := by omega
        subst this
        simp) (0, []) ⟨0, by omega, rfl, by simp⟩
    subst hbp
    rw [hbm]; rfl
theorem filter_rank {α : Type} (lt : α → α → Bool) (irr : ∀ x, lt x x = false) (asym : ∀ x y, lt x y = true → lt y x = false) : ∀ (s : List α) (m : Nat), (s.Pairwise fun x y => lt x y = true) → s.filter (fun x => decide (s.countP (fun y => lt y x) < m)) = s.take m
  | [], _, _ => by simp
  | a :: t, m, h => by
    obtain ⟨h1, h2⟩ := List.pairwise_cons.1 h
    have ha : (a :: t).countP (fun y => lt y a) = 0 := by
      rw [List.countP_eq_zero]
      intro y hy
      rcases List.mem_cons.1 hy with rfl | hy
      · simp [irr]
      · simp [asym _ _ (h1 y hy)]
    have ht : ∀ x ∈ t, (a :: t).countP (fun y => lt y x) = t.countP (fun y => lt y x) + 1 := fun x hx => by
      rw [List.countP_cons, if_pos (h1 x hx)]
    rw [List.filter_cons, ha]
    cases m with
    | zero => simp
    | succ m =>
      rw [if_pos (by simp), List.take_succ_cons, ← filter_rank lt irr asym t m h2]
      congr 1
      apply List.filter_congr
      intro x hx
      rw [ht x hx]
      simp
theorem perm_sum : ∀ {l m : List Int}, l.Perm m → l.sum = m.sum := fun h => by
  induction h with
  | nil => rfl
  | cons x _ ih => simp [ih]
  | swap x y l => simp only [List.sum_cons]; omega
  | trans _ _ a b => exact a.trans b
theorem lex_irr (x : Att) : lexA x x = false := by simp [lexA]
theorem lex_asym (x y : Att) (h : lexA x y = true) : lexA y x = false := by
  simp only [lexA, decide_eq_true_eq, decide_eq_false_iff_not] at *
  omega
theorem sortA_strict {l : List Att} (h : Numd l) : (sortA l).Pairwise fun x y => lexA x y = true := by
  have hd : (sortA l).Pairwise fun x y => x.num ≠ y.num := by
    have : l.Pairwise fun x y => x.num ≠ y.num := h.rising.imp fun h => by omega
    exact (sortA_perm l).symm.pairwise this fun h => Ne.symm h
  refine ((sortA_lex h.rising).and hd).imp fun ⟨a, b⟩ => ?_
  simp only [lexA, decide_eq_true_eq, decide_eq_false_iff_not] at *
  omega
theorem pick_perm {r : Rule} {l : List Att} (h : Numd l) : (l.filter (pickB r l)).Perm (chosenL r l) := by
  unfold chosenL
  by_cases hk : r.kind = 1
  · rw [if_pos hk]
    have e : pickB r l = fun x => decide (x.num = (l.length : Int)) := by funext x; unfold pickB; rw [if_pos hk]
    rw [e]
    rcases List.eq_nil_or_concat l with rfl | ⟨q, z, rfl⟩
    · simp
    · have hz : z.num = q.length + 1 := h q.length z (by simp)
      have hq : q.filter (fun x => decide (x.num = (((q ++ [z]).length : Nat) : Int))) = [] := by
        rw [List.filter_eq_nil_iff]
        intro x hx
        obtain ⟨k, hk2, rfl⟩ := List.mem_iff_getElem.1 hx
        have := h k q[k] (by rw [List.concat_eq_append, List.getElem?_append_left hk2]; exact List.getElem?_eq_getElem hk2)
        simp
        omega
      simp only [List.concat_eq_append] at *
      rw [List.filter_append, hq]
      simp [hz]
  · rw [if_neg hk]
    have e : pickB r l = fun x => decide ((sortA l).countP (fun y => lexA y x) < manyR r) := by
      funext x
      unfold pickB
      rw [if_neg hk, (sortA_perm l).countP_eq]
    rw [e]
    refine ((sortA_perm l).symm.filter _).trans ?_
    rw [filter_rank lexA lex_irr lex_asym (sortA l) (manyR r) (sortA_strict h)]
    exact List.Perm.refl _
theorem counting_eq {r : Rule} {l : List Att} (h : Numd l) : ((chosenL r l).map Att.num).mergeSort (fun x y => decide (x ≤ y)) = (l.filter (pickB r l)).map Att.num := by
  refine List.Perm.eq_of_pairwise (le := fun x y => (x : Int) ≤ y) (fun a b _ _ h1 h2 => by omega) ?_ ?_ ?_
  · have := List.pairwise_mergeSort (le := fun x y : Int => decide (x ≤ y)) (fun a b c h1 h2 => by simp at *; omega) (fun a b => by simp; omega) ((chosenL r l).map Att.num)
    exact this.imp fun h => by simpa using h
  · rw [List.pairwise_map]
    exact (h.rising.filter _).imp fun h => by omega
  · exact (List.mergeSort_perm _ _).trans ((pick_perm h).symm.map _)
theorem rcounting_eq (r : Rule) (l : List Att) (hl : l.length ≤ 1000000) : m_assessorref52_Counting r l = some (countingL r l) := by
  rw [rcounting_m r l hl]
  unfold countingL
  cases hv : validB r l with
  | false => simp
  | true => rw [if_pos rfl, if_pos rfl, counting_eq (numd_of hv)]
theorem numd_idx {l : List Att} (h : Numd l) {a : Att} (ha : a ∈ l) : idx l (a.num - 1) = some a ∧ 1 ≤ a.num ∧ a.num ≤ l.length := by
  obtain ⟨k, hk, rfl⟩ := List.mem_iff_getElem.1 ha
  have := h k _ (List.getElem?_eq_getElem hk)
  rw [this, show ((k : Int) + 1 - 1) = (k : Int) by omega]
  exact ⟨idx_nat (List.getElem?_eq_getElem hk), by omega, by omega⟩
theorem rfinal_m (r : Rule) (l : List Att) (hl : l.length ≤ 1000000) : m_assessorref52_Final r l = some (finalL r l) := by
  unfold m_assessorref52_Final
  rw [rvalid_m r l hl]
  unfold finalL
  cases hv : validB r l with
  | false => simp
  | true =>
    obtain ⟨f1, f2, f3, f4⟩ := valid_facts hv
    have hn := numd_of hv
    have hpp := pick_perm (r := r) hn
    rw [rcounting_m r l hl, hv]
    simp only [Option.bind_some, Bool.not_true, Bool.false_eq_true, if_false, if_true]
    have hmem : ∀ a ∈ l.filter (pickB r l), a ∈ l := fun a ha => (List.mem_filter.1 ha).1
    have hsum : sumP (l.filter (pickB r l)) = sumP (chosenL r l) := perm_sum (hpp.map _)
    have hlen := hpp.length_eq
    have hcl : (l.filter (pickB r l)).length ≤ l.length := List.length_filter_le _ _
    generalize l.filter (pickB r l) = c at hmem hsum hlen hcl hpp ⊢
    unfold pointsL
    by_cases hz : c.length = 0
    · have hz' : (chosenL r l).length = 0 := by omega
      simp [hz, hz']
    · have hz' : ¬ (chosenL r l).length = 0 := by omega
      rw [if_neg hz', ← hsum, ← hlen]
      obtain ⟨b, hbm, hbp⟩ := loopM_inv (body := fun s : Int × Int => m_assessorref52_Final_lp1 l (c.map Att.num) s.1 s.2) (fun s => ∃ k : Nat, k ≤ c.length ∧ s.2 = k ∧ s.1 = sumP (c.take k)) (fun s => c.length - s.2.toNat) (fun b => b = sumP c) (by
        rintro ⟨o, i⟩ ⟨k, hk, rfl, rfl⟩
        simp only
        unfold m_assessorref52_Final_lp1
        by_cases hlt : k < c.length
        · obtain ⟨a, ha⟩ : ∃ a, c[k]? = some a := ⟨_, List.getElem?_eq_getElem hlt⟩
          have hml := hmem a (List.mem_of_getElem? ha)
          have hb := sumP_bd (l := c.take k) fun x hx => f1 x (hmem x (List.mem_of_mem_take hx))
          have hpa := f1 a hml
          obtain ⟨i1, i2, i3⟩ := numd_idx hn hml
          have htl : (c.take k).length ≤ 16 := by simp; omega
          have ham : (c.map Att.num)[k]? = some a.num := by rw [List.getElem?_map, ha]; rfl
          simp only [List.length_map, idx_nat ham, Option.bind_some, Int.ofNat_lt, hlt, decide_true, if_true, inK_ok ((k : Int) + 1) (by omega) (by omega)]
          rw [inK_ok (a.num - 1) (by omega) (by omega)]
          simp only [Option.bind_some, i1]
          rw [inK_ok (sumP (c.take k) + a.pts) (by omega) (by omega)]
          exact Or.inl ⟨_, rfl, ⟨k + 1, by omega, by simp, by simp only; rw [take_snoc_of ha, sumP_snoc]⟩, by simp; omega⟩
        · have : k = c.length := by omega
          subst this
          simp) (0, 0) ⟨0, by omega, rfl, by simp [sumP]⟩
      subst hbp
      have hb := sumP_bd fun x hx => f1 x (hmem x hx)
      simp only [List.length_map, show ¬ ((c.length : Int) = 0) by omega, decide_false, Bool.false_eq_true, if_false]
      rw [hbm]
      simp only [Option.bind_some]
      rw [inK_ok (2 * sumP c) (by omega) (by omega)]
      simp only [Option.bind_some]
      rw [inK_ok (2 * sumP c + (c.length : Int)) (by omega) (by omega)]
      simp only [Option.bind_some]
      rw [inK_ok (2 * (c.length : Int)) (by omega) (by omega)]
      simp only [Option.bind_some]
      rw [quoK_ok (by omega) (by omega) (by omega)]
      rfl
theorem rwith_m (r : Rule) (l : List Att) (p : Int) (hl : l.length ≤ 1000) : m_assessorref52_with r l p = some (finalL r (withL l p)).1 := by
  unfold m_assessorref52_with
  rw [inK_ok ((l.length : Int) + 1) (by omega) (by omega)]
  simp only [Option.bind_some]
  have hj : ((if (decide (0 < (l.length : Int))) = true then
    (inK .i64 ((l.length : Int) - 1)).bind fun x2 =>
    (idx l x2).bind fun x3 =>
    some x3.tick
  else
    some 0) : Option Int) = some (lastT l) := by
    by_cases h : 0 < l.length
    · obtain ⟨a, h1, h2, h3⟩ := last_r l (by omega) h
      rw [if_pos (by simpa using h), h1]
      simp only [Option.bind_some, h2, h3]
    · have : l = [] := by cases l with | nil => rfl | cons => simp at h
      subst this
      rfl
  rw [hj]
  simp only [Option.bind_some]
  rw [app_ok (by simp; omega)]
  simp only [Option.bind_some, List.nil_append]
  rw [app_ok (by simp; omega)]
  simp only [Option.bind_some]
  have e : l ++ [⟨(l.length : Int) + 1, lastT l, p⟩] = withL l p := rfl
  rw [e, rfinal_m r (withL l p) (by simp [withL]; omega)]
  rfl
theorem rwith_valid {r : Rule} {l : List Att} (hv : validB r l = true) (hm : ¬ (l.length : Int) = r.most) (p : Int) (h0 : 0 ≤ p) (h1 : p ≤ 100000000) : m_assessorref52_with r l p = some (withP r l p) := by
  obtain ⟨f1, f2, f3, f4⟩ := valid_facts hv
  rw [rwith_m r l p (by omega)]
  unfold finalL
  rw [valid_with hv hm h0 h1]
  rfl
theorem rneeded_m (r : Rule) (l : List Att) (goal : Int) (hl : l.length ≤ 1000000) : ∃ k ok, m_assessorref52_Needed r l goal = some (k, ok) ∧ NeededIs r l goal k ok := by
  unfold m_assessorref52_Needed NeededIs
  rw [rvalid_m r l hl]
  cases hv : validB r l with
  | false => exact ⟨0, false, by simp, by simp⟩
  | true =>
    obtain ⟨f1, f2, f3, f4⟩ := valid_facts hv
    by_cases hm : (l.length : Int) = r.most
    · exact ⟨0, false, by simp [hm], by simp [hm]⟩
    · simp only [Option.bind_some, hm, decide_false, Bool.not_true, Bool.or_false, Bool.false_eq_true, if_false, rwith_valid hv hm 100000000 (by omega) (by omega), Bool.true_eq_false, or_false]
      by_cases hg : withP r l 100000000 < goal
      · simp only [hg, decide_true, if_true]
        exact ⟨0, false, rfl, rfl, rfl⟩
      · simp only [hg, decide_false, Bool.false_eq_true, if_false]
        obtain ⟨b, hbm, hbp⟩ := loopM_inv (body := fun s : Int × Int => m_assessorref52_Needed_lp1 r l goal s.1 s.2) (fun s => -1 ≤ s.1 ∧ s.1 < s.2 ∧ s.2 ≤ 100000000 ∧ goal ≤ withP r l s.2 ∧ (s.1 = -1 ∨ withP r l s.1 < goal)) (fun s => (s.2 - s.1).toNat)
          (fun b => 0 ≤ b ∧ b ≤ 100000000 ∧ goal ≤ withP r l b ∧ (b = 0 ∨ withP r l (b - 1) < goal)) (by
            rintro ⟨a, b⟩ ⟨h0, hab, hb, hg1, hg2⟩
            simp only at *
            unfold m_assessorref52_Needed_lp1
            rw [inK_ok (b - a) (by omega) (by omega)]
            simp only [Option.bind_some]
            by_cases hlt : 1 < b - a
            · simp only [hlt, decide_true, if_true]
              rw [inK_ok (a + b) (by omega) (by omega)]
              simp only [Option.bind_some]
              rw [quoK_ok (by omega) (by omega) (by omega)]
              simp only [Option.bind_some]
              rw [rwith_valid hv hm ((a + b) / 2) (by omega) (by omega)]
              simp only [Option.bind_some]
              by_cases hw : goal ≤ withP r l ((a + b) / 2)
              · simp only [hw, decide_true, if_true]
                exact Or.inl ⟨_, rfl, ⟨h0, by simp; omega, by simp; omega, hw, hg2⟩, by simp; omega⟩
              · simp only [hw, decide_false, Bool.false_eq_true, if_false]
                exact Or.inl ⟨_, rfl, ⟨by simp; omega, by simp; omega, hb, hg1, Or.inr (by simp only; omega)⟩, by simp; omega⟩
            · obtain rfl : a = b - 1 := by omega
              simp only [hlt, decide_false, Bool.false_eq_true, if_false]
              exact Or.inr ⟨_, rfl, by omega, hb, hg1, hg2.imp (fun h => by omega) id⟩) (-1, 100000000) ⟨by simp, by simp, by simp, by simp only; omega, Or.inl rfl⟩
        rw [hbm]
        exact ⟨b, true, rfl, rfl, hbp⟩
theorem ints_self (c : List Int) (h : c.length ≤ 1000000) : m_assessorref49_Ints c c = some true := by
  unfold m_assessorref49_Ints
  obtain ⟨b, hbm, hbp⟩ := loopM_inv (body := fun s : Int => m_assessorref49_Ints_lp1 c c s) (fun s => ∃ k : Nat, k ≤ c.length ∧ s = k) (fun s => c.length - s.toNat) (fun b => b = Out.brk ()) (by
    rintro i ⟨k, hk, rfl⟩
    unfold m_assessorref49_Ints_lp1
    by_cases hlt : k < c.length
    · obtain ⟨a, ha⟩ : ∃ a, c[k]? = some a := ⟨_, List.getElem?_eq_getElem hlt⟩
      simp only [idx_nat ha, Option.bind_some, Int.ofNat_lt, hlt, decide_true, if_true, Bool.not_true, Bool.false_eq_true, if_false, inK_ok ((k : Int) + 1) (by omega) (by omega)]
      exact Or.inl ⟨_, rfl, ⟨k + 1, by omega, by simp⟩, by simp; omega⟩
    · have : k = c.length := by omega
      subst this
      simp) 0 ⟨0, by omega, rfl⟩
  subst hbp
  simp only [decide_true, Bool.not_true, Bool.false_eq_true, if_false]
  rw [hbm]
  rfl
theorem law_AttemptsFinals (p0 : Rule) (p1 : (List Att)) (p2 : Int) (h0 : (fun a : Rule => I64 a.kind ∧ I64 a.most ∧ I64 a.pause ∧ I64 a.keep) p0) (h1 : LW (fun a : Att => I64 a.num ∧ I64 a.tick ∧ I64 a.pts) p1) (h2 : (Lit.int .i64 p2).wf = true) : m_assessorlaw52_AttemptsFinals p0 p1 p2 = some true := by
  unfold m_assessorlaw52_AttemptsFinals
  rw [awake_m]
  simp only [Option.bind_some, Bool.not_true, Bool.false_eq_true, if_false]
  by_cases h : 20 < (p1.length : Int)
  · simp [h]
  · simp only [h, decide_false, Bool.false_eq_true, if_false]
    obtain ⟨k, ok, hn, hN⟩ := needed_m p0 p1 p2 (by omega)
    obtain ⟨k', ok', hn', hN'⟩ := rneeded_m p0 p1 p2 (by omega)
    obtain ⟨rfl, rfl⟩ := needed_unique hN hN'
    have hcl : (countingL p0 p1).length ≤ 1000000 := by
      unfold countingL
      split
      · rw [List.length_mergeSort, List.length_map, chosenL_len]; omega
      · simp
    rw [hn, hn', final_m p0 p1 (by omega), rfinal_m p0 p1 (by omega), counting_m p0 p1 (by omega), rcounting_eq p0 p1 (by omega)]
    simp only [Option.bind_some]
    rw [ints_self _ hcl]
    simp
end Go.Proofs.Ytmjmoogldbejoaa
