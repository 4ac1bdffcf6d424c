/-
  Attempts, in plain terms: the law AttemptsWithin. No program is named.
-/
import Derived.Test.YtmjmoogldbejoaaP57
import Derived.Test.YtmjmoogldbejoaaWIM
set_option linter.unusedVariables false
set_option linter.unusedSimpArgs false
namespace Go.Proofs.Ytmjmoogldbejoaa
open Go.RowKit Go.Sort

theorem sumP_ge {c : List Att} {M : Int} (h : ∀ a ∈ c, M ≤ a.pts) : c.length * M ≤ sumP c := by
  induction c with
  | nil => simp [sumP]
  | cons a c ih =>
    have e : sumP (a :: c) = a.pts + sumP c := by simp [sumP]
    have h1 := h a (List.mem_cons_self ..)
    have h2 := ih fun b hb => h b (List.mem_cons_of_mem _ hb)
    rw [e, List.length_cons]
    have : ((c.length + 1 : Nat) : Int) * M = (c.length : Int) * M + M := by push_cast; rw [Int.add_mul, Int.one_mul]
    rw [this]; omega
theorem mean_ge {s M : Int} {n : Nat} (hn : 0 < n) (h : n * M ≤ s) : M ≤ (2 * s + n) / (2 * n) := by
  refine Int.le_ediv_of_mul_le (by omega) ?_
  have e : M * (2 * (n : Int)) = 2 * ((n : Int) * M) := by
    rw [← Int.mul_assoc, Int.mul_comm M 2, Int.mul_assoc, Int.mul_comm M]
  rw [e]; omega
theorem mean_eq {s : Int} {n : Nat} (hn : 0 < n) : 2 * ((2 * s + n) / (2 * n) * n) ≤ 2 * s + n ∧ 2 * s < 2 * ((2 * s + n) / (2 * n) * n) + n := by
  have h1 := Int.mul_ediv_self_le (x := 2 * s + n) (k := 2 * (n : Int)) (by omega)
  have h2 := Int.lt_mul_ediv_self_add (x := 2 * s + n) (k := 2 * (n : Int)) (by omega)
  have e : 2 * (n : Int) * ((2 * s + n) / (2 * n)) = 2 * ((2 * s + n) / (2 * n) * n) := by
    rw [Int.mul_assoc, Int.mul_comm (n : Int)]
  rw [e] at h1 h2
  omega
theorem lex_trans (x y z : Att) (h1 : lexA x y = true) (h2 : lexA y z = true) : lexA x z = true := by
  simp only [lexA, decide_eq_true_eq] at *
  omega
theorem pick_best {r : Rule} {l : List Att} {x a : Att} (hk : ¬ r.kind = 1) (hx : pickB r l x = false) (ha : pickB r l a = true) : x.pts ≤ a.pts := by
  unfold pickB at hx ha
  rw [if_neg hk] at hx ha
  simp only [decide_eq_true_eq, decide_eq_false_iff_not] at hx ha
  by_cases h : a.pts < x.pts
  · have hl : lexA x a = true := by simp only [lexA, decide_eq_true_eq]; omega
    have := List.countP_mono_left (l := l) (p := fun y => lexA y x) (q := fun y => lexA y a) fun y _ hy => lex_trans y x a hy hl
    omega
  · omega
theorem law_AttemptsWithin (p0 : Rule) (p1 : (List Att)) (h0 : (fun a : Rule => I64 a.kind ∧ I64 a.most ∧ I64 a.pause ∧ I64 a.keep) p0) (h1 : LW (fun a : Att => I64 a.num ∧ I64 a.tick ∧ I64 a.pts) p1) : m_assessorlaw52_AttemptsWithin p0 p1 = some true := by
  unfold m_assessorlaw52_AttemptsWithin
  rw [awake_m]
  simp only [Option.bind_some, Bool.not_true, Bool.false_eq_true, if_false]
  by_cases h : 20 < (p1.length : Int)
  · simp [h]
  · simp only [h, decide_false, Bool.false_eq_true, if_false]
    rw [counting_m p0 p1 (by omega), final_m p0 p1 (by omega), valid_m p0 p1 (by omega)]
    simp only [Option.bind_some]
    unfold countingL finalL
    cases hv : validB p0 p1 with
    | false => simp
    | true =>
      obtain ⟨f1, f2, f3, f4⟩ := valid_facts hv
      have hn := numd_of hv
      have hk3 := kind_facts hv
      have hcl := chosenL_len p0 p1
      have hpp := pick_perm (r := p0) hn
      have hpl := hpp.length_eq
      have hsum : sumP (p1.filter (pickB p0 p1)) = sumP (chosenL p0 p1) := perm_sum (hpp.map _)
      have hP : pointsL p0 p1 = if (p1.filter (pickB p0 p1)).length = 0 then 0 else (2 * sumP (p1.filter (pickB p0 p1)) + (p1.filter (pickB p0 p1)).length) / (2 * (p1.filter (pickB p0 p1)).length) := by
        unfold pointsL; rw [← hsum, ← hpl]
      simp only [if_true, counting_eq hn, Bool.not_true, Bool.false_eq_true, if_false, List.length_map, decide_true, Bool.false_or]
      have hmem : ∀ a ∈ p1.filter (pickB p0 p1), a ∈ p1 := fun a ha => (List.mem_filter.1 ha).1
      have hpick : ∀ a ∈ p1.filter (pickB p0 p1), pickB p0 p1 a = true := fun a ha => (List.mem_filter.1 ha).2
      have hnot : ∀ x ∈ p1, x ∉ p1.filter (pickB p0 p1) → pickB p0 p1 x = false := fun x hx hx2 => by
        cases e : pickB p0 p1 x with
        | false => rfl
        | true => exact absurd (List.mem_filter.2 ⟨hx, e⟩) hx2
      have hris : Rising (p1.filter (pickB p0 p1)) := hn.rising.filter _
      have hlen : ((p1.filter (pickB p0 p1)).length : Int) = min (p1.length : Int) (max p0.keep 1) := by
        rw [hpl, hcl]
        rcases hk3 with ⟨e1, e2⟩ | ⟨e1, e2⟩ | ⟨e1, e2⟩
        · rw [if_neg (by omega), if_neg (by omega)]; omega
        · rw [if_pos e1]; omega
        · rw [if_neg (by omega)]
          split <;> omega
      have hcm : (p1.filter (pickB p0 p1)).length ≤ p1.length := List.length_filter_le _ _
      rw [hP]
      generalize p1.filter (pickB p0 p1) = c at hmem hpick hnot hris hlen hcm ⊢
      rw [if_neg (by simp; exact hlen)]
      by_cases hz : c.length = 0
      · simp [hz]
      · rw [if_neg (by simpa using hz), if_neg hz]
        obtain ⟨a0, ha0⟩ : ∃ a, p1[0]? = some a := ⟨_, List.getElem?_eq_getElem (by omega)⟩
        rw [show (0 : Int) = ((0 : Nat) : Int) from rfl, idx_nat ha0]
        simp only [Option.bind_some]
        have hfa0 := f1 a0 (List.mem_of_getElem? ha0)
        obtain ⟨⟨lo, hi⟩, hbm, hbp⟩ := loopM_inv (body := fun s : Int × Int × Int => m_assessorlaw52_AttemptsWithin_lp1 p1 s.1 s.2.1 s.2.2) (fun s => ∃ k : Nat, k ≤ p1.length ∧ s.2.2 = k ∧ 0 ≤ s.1 ∧ s.2.1 ≤ 100000000 ∧ ∀ a ∈ p1.take k, s.1 ≤ a.pts ∧ a.pts ≤ s.2.1) (fun s => p1.length - s.2.2.toNat) (fun b => 0 ≤ b.1 ∧ b.2 ≤ 100000000 ∧ ∀ a ∈ p1, b.1 ≤ a.pts ∧ a.pts ≤ b.2) (by
          rintro ⟨lo, hi, i⟩ ⟨k, hk, rfl, g0, g1, g2⟩
          simp only at *
          unfold m_assessorlaw52_AttemptsWithin_lp1
          by_cases hlt : k < p1.length
          · obtain ⟨x, hx⟩ : ∃ x, p1[k]? = some x := ⟨_, List.getElem?_eq_getElem hlt⟩
            have hfx := f1 x (List.mem_of_getElem? hx)
            simp only [idx_nat hx, Option.bind_some, Int.ofNat_lt, hlt, decide_true, if_true, inK_ok ((k : Int) + 1) (by omega) (by omega)]
            refine Or.inl ⟨_, rfl, ⟨k + 1, by omega, by simp, by simp only; omega, by simp only; omega, fun a ha => ?_⟩, by simp; omega⟩
            rw [take_snoc_of hx] at ha
            rcases List.mem_append.1 ha with ha | ha
            · have := g2 a ha
              simp only; omega
            · obtain rfl := List.mem_singleton.1 ha
              simp only; omega
          · have : k = p1.length := by omega
            subst this
            rw [List.take_length] at g2
            simp
            exact ⟨g0, g1, g2⟩) (a0.pts, a0.pts, ((0 : Nat) : Int)) ⟨0, by omega, rfl, by simp; omega, by simp; omega, by simp⟩
        simp only at hbp
        obtain ⟨b0, b1, b2⟩ := hbp
        rw [hbm]
        simp only [Option.bind_some]
        obtain ⟨b, hbm2, worst, rfl, hw⟩ := loopM_inv (body := fun s : Int × Int × Int => m_assessorlaw52_AttemptsWithin_lp2 p1 (c.map Att.num) s.1 s.2.1 s.2.2) (fun s => ∃ k : Nat, k ≤ c.length ∧ s.2.2 = k ∧ s.1 = sumP (c.take k) ∧ ∀ v, v ≤ hi → (∀ a ∈ c.take k, v ≤ a.pts) → v ≤ s.2.1) (fun s => c.length - s.2.2.toNat) (fun b => ∃ worst : Int, b = Out.brk (sumP c, worst) ∧ ∀ v, v ≤ hi → (∀ a ∈ c, v ≤ a.pts) → v ≤ worst) (by
          rintro ⟨o, wo, i⟩ ⟨k, hk, rfl, rfl, g⟩
          simp only at *
          unfold m_assessorlaw52_AttemptsWithin_lp2
          by_cases hlt : k < c.length
          · obtain ⟨x, hx⟩ : ∃ x, c[k]? = some x := ⟨_, List.getElem?_eq_getElem hlt⟩
            have hmx := hmem x (List.mem_of_getElem? hx)
            have hfx := f1 x hmx
            obtain ⟨i1, i2, i3⟩ := numd_idx hn hmx
            have hb := sumP_bd (l := c.take k) fun y hy => f1 y (hmem y (List.mem_of_mem_take hy))
            have htl : (c.take k).length ≤ 16 := by simp; omega
            have hxm : (c.map Att.num)[k]? = some x.num := by rw [List.getElem?_map, hx]; rfl
            have hm1 : ((if ((decide (x.num < 1)) || (decide ((p1.length : Int) < x.num))) = true then some true else ((if (decide (0 < (k : Int))) = true then
        (inK .i64 ((k : Int) - 1)).bind fun x10 =>
        (idx (c.map Att.num) x10).bind fun x11 =>
        some (decide (x.num ≤ x11))
      else
        some false) : Option Bool).bind fun m2 =>
      some m2) : Option Bool) = some false := by
              rw [if_neg (by simp; omega)]
              by_cases hk0 : k = 0
              · subst hk0; rfl
              · obtain ⟨y, hy⟩ : ∃ y, c[k - 1]? = some y := ⟨_, List.getElem?_eq_getElem (by omega)⟩
                have hym : (c.map Att.num)[k - 1]? = some y.num := by rw [List.getElem?_map, hy]; rfl
                have hxy : y.num < x.num := by
                  have := List.pairwise_iff_getElem.1 hris (k - 1) k (by omega) hlt (by omega)
                  rw [(List.getElem?_eq_some_iff.1 hy).2, (List.getElem?_eq_some_iff.1 hx).2] at this
                  exact this
                rw [if_pos (by simp; omega), inK_ok ((k : Int) - 1) (by omega) (by omega), show ((k : Int) - 1) = ((k - 1 : Nat) : Int) by omega]
                simp only [Option.bind_some, idx_nat hym]
                simp; omega
            simp only [List.length_map, idx_nat hxm, Option.bind_some, Int.ofNat_lt, hlt, decide_true, if_true]
            rw [hm1]
            simp only [Option.bind_some, Bool.false_eq_true, if_false]
            rw [inK_ok (x.num - 1) (by omega) (by omega)]
            simp only [Option.bind_some, i1]
            rw [inK_ok (sumP (c.take k) + x.pts) (by omega) (by omega)]
            simp only [Option.bind_some]
            rw [inK_ok ((k : Int) + 1) (by omega) (by omega)]
            refine Or.inl ⟨_, rfl, ⟨k + 1, by omega, by simp, by simp only; rw [take_snoc_of hx, sumP_snoc], fun v hv1 hv2 => ?_⟩, by simp; omega⟩
            rw [take_snoc_of hx] at hv2
            have q1 := g v hv1 fun a ha => hv2 a (List.mem_append_left _ ha)
            have q2 := hv2 x (by simp)
            simp only; omega
          · have : k = c.length := by omega
            subst this
            rw [List.take_length] at g ⊢
            simp
            exact g) (0, hi, 0) ⟨0, by omega, rfl, by simp [sumP], fun v hv1 _ => hv1⟩
        rw [show ((0 : Nat) : Int) = 0 from rfl, hbm2]
        simp only [Option.bind_some]
        obtain ⟨b, hbm3, hbp3⟩ := loopM_inv (body := fun s : Int => m_assessorlaw52_AttemptsWithin_lp3 p0 p1 (c.map Att.num) (sumP c, worst) s) (fun s => ∃ k : Nat, k ≤ p1.length ∧ s = k) (fun s => p1.length - s.toNat) (fun b => b = Out.brk ()) (by
          rintro i ⟨k, hk, rfl⟩
          unfold m_assessorlaw52_AttemptsWithin_lp3
          by_cases hlt : k < p1.length
          · obtain ⟨x, hx⟩ : ∃ x, p1[k]? = some x := ⟨_, List.getElem?_eq_getElem hlt⟩
            have hmx := List.mem_of_getElem? hx
            have hnx := hn k x hx
            simp only [idx_nat hx, Option.bind_some, Int.ofNat_lt, hlt, decide_true, if_true]
            rw [inK_ok ((k : Int) + 1) (by omega) (by omega)]
            have hm3 : ((if (!decide (p0.kind = 1)) = true then
      (some ((k : Int) + 1)).bind fun x19 =>
      (m_containsI (c.map Att.num) x19).bind fun x20 =>
      some (!x20)
    else
      some false) : Option Bool) = some (!decide (p0.kind = 1) && !((c.map Att.num).contains ((k : Int) + 1))) := by
              by_cases hkd : p0.kind = 1
              · simp [hkd]
              · simp only [hkd, decide_false, Bool.not_false, if_true, Option.bind_some, Bool.true_and]
                unfold m_containsI
                rw [if_pos (by simp; omega)]
                rfl
            rw [hm3]
            simp only [Option.bind_some]
            have hmf : ((!decide (p0.kind = 1) && !((c.map Att.num).contains ((k : Int) + 1))) && (decide (worst < x.pts))) = false := by
              by_cases hkd : p0.kind = 1
              · simp [hkd]
              · by_cases hin : x ∈ c
                · have : (c.map Att.num).contains ((k : Int) + 1) = true := by
                    rw [List.contains_iff_mem, ← hnx]
                    exact List.mem_map_of_mem hin
                  rw [this]; simp
                · have := hw x.pts (b2 x hmx).2 fun a ha => pick_best hkd (hnot x hmx hin) (hpick a ha)
                  have h3 : ¬ worst < x.pts := by omega
                  simp [h3]
            rw [hmf]
            simp only [Bool.false_eq_true, if_false]
            exact Or.inl ⟨_, rfl, ⟨k + 1, by omega, by simp⟩, by simp; omega⟩
          · have : k = p1.length := by omega
            subst this
            simp) 0 ⟨0, by omega, rfl⟩
        subst hbp3
        rw [hbm3]
        simp only [Option.bind_some]
        have hs1 := sumP_bd fun x hx => f1 x (hmem x hx)
        have hm1 := mean_le (s := sumP c) (M := hi) (n := c.length) (by omega) (sumP_le fun a ha => (b2 a (hmem a ha)).2)
        have hm2 := mean_ge (s := sumP c) (M := lo) (n := c.length) (by omega) (sumP_ge fun a ha => (b2 a (hmem a ha)).1)
        obtain ⟨e1, e2⟩ := mean_eq (s := sumP c) (n := c.length) (by omega)
        generalize (2 * sumP c + (c.length : Int)) / (2 * (c.length : Int)) = q at *
        generalize q * (c.length : Int) = t at *
        rw [inK_ok t (by omega) (by omega)]
        simp only [Option.bind_some]
        rw [inK_ok (t - sumP c) (by omega) (by omega)]
        simp only [Option.bind_some]
        rw [inK_ok (2 * (t - sumP c)) (by omega) (by omega)]
        simp only [Option.bind_some]
        rw [if_pos (by simp; omega), inK_ok (0 - (c.length : Int)) (by omega) (by omega)]
        simp
        omega
end Go.Proofs.Ytmjmoogldbejoaa
