/-
  Attempts, in plain terms: the law AttemptsBest. No program is named.
-/
import Derived.Test.YtmjmoogldbejoaaP55
set_option linter.unusedVariables false
set_option linter.unusedSimpArgs false
namespace Go.Proofs.Ytmjmoogldbejoaa
open Go.RowKit Go.Sort

theorem desc_unique {s u : List Int} (hp : s.Perm u) (hs : s.Pairwise fun x y => y ≤ x) (hu : u.Pairwise fun x y => y ≤ x) : s = u := by
  have hl := hp.length_eq
  apply List.ext_getElem?
  intro j
  by_cases hj : j < s.length
  · have e1 := List.getElem?_eq_getElem hj
    have e2 := List.getElem?_eq_getElem (show j < u.length by omega)
    rw [e1, e2]
    have a := (desc_ge (t := s[j]) hs j _ e1).1 (Int.le_refl _)
    have b := (desc_ge (t := u[j]) hu j _ e2).1 (Int.le_refl _)
    rw [hp.countP_eq] at a
    rw [← hp.countP_eq] at b
    have c := (desc_ge (t := s[j]) hu j _ e2).2 a
    have d := (desc_ge (t := u[j]) hs j _ e1).2 b
    congr 1; omega
  · rw [List.getElem?_eq_none (by omega), List.getElem?_eq_none (by omega)]
theorem points_perm (r : Rule) {l m : List Att} (h : (l.map Att.pts).Perm (m.map Att.pts)) (hk : ¬ r.kind = 1) : pointsL r l = pointsL r m := by
  have hs : (sortA l).map Att.pts = (sortA m).map Att.pts :=
    desc_unique ((((sortA_perm l).map _).trans h).trans ((sortA_perm m).map _).symm) (sortA_desc l) (sortA_desc m)
  have hc : (chosenL r l).map Att.pts = (chosenL r m).map Att.pts := by
    unfold chosenL
    rw [if_neg hk, if_neg hk, List.map_take, List.map_take, hs]
  have hl : (chosenL r l).length = (chosenL r m).length := by simpa using congrArg List.length hc
  unfold pointsL sumP
  rw [hl, hc]
/-- The best rule. -/
def bestR (r : Rule) : Rule := ⟨0, r.most, r.pause, 0⟩
theorem valid_best {r : Rule} {l : List Att} (hv : validB r l = true) : validB (bestR r) l = true := by
  unfold validB at hv ⊢
  simp only [Bool.and_eq_true] at hv ⊢
  refine ⟨⟨?_, hv.1.2⟩, hv.2⟩
  have h := hv.1.1
  unfold rightB at h ⊢
  simp only [Bool.and_eq_true, decide_eq_true_eq] at h
  simp only [Bool.and_eq_true]
  exact ⟨⟨⟨⟨⟨decide_eq_true (by show (0 : Int) ≤ 0; omega), decide_eq_true (by show (0 : Int) ≤ 2; omega)⟩, decide_eq_true h.1.1.1.2⟩, decide_eq_true h.1.1.2⟩, h.1.2⟩, by simp [bestR]⟩
theorem best_spec (r : Rule) {l : List Att} (hl : 0 < l.length) : (∃ a ∈ l, a.pts = pointsL (bestR r) l) ∧ ∀ b ∈ l, b.pts ≤ pointsL (bestR r) l := by
  have hsl : 0 < (sortA l).length := by rw [sortA_len]; exact hl
  obtain ⟨s, t, hst⟩ : ∃ s t, sortA l = s :: t := by
    cases h : sortA l with
    | nil => rw [h] at hsl; simp at hsl
    | cons s t => exact ⟨s, t, rfl⟩
  have hc : chosenL (bestR r) l = [s] := by
    unfold chosenL
    rw [if_neg (by simp [bestR]), hst]
    simp [bestR]
  have hp : pointsL (bestR r) l = s.pts := by
    unfold pointsL sumP
    rw [hc]
    simp
    omega
  rw [hp]
  refine ⟨⟨s, (sortA_perm l).mem_iff.1 (by rw [hst]; exact List.mem_cons_self ..), rfl⟩, fun b hb => ?_⟩
  have hb2 := (sortA_perm l).mem_iff.2 hb
  have hd := sortA_desc l
  rw [hst] at hb2 hd
  rcases List.mem_cons.1 hb2 with rfl | hb2
  · exact Int.le_refl _
  · rw [List.map_cons] at hd
    exact (List.pairwise_cons.1 hd).1 _ (List.mem_map_of_mem hb2)
theorem sumP_le {c : List Att} {M : Int} (h : ∀ a ∈ c, a.pts ≤ M) : sumP c ≤ c.length * M := by
  induction c with
  | nil => simp [sumP]
  | cons a c ih =>
    have e : sumP (a :: c) = a.pts + sumP c := by simp [sumP]
    have h1 := h a (List.mem_cons_self ..)
    have h2 := ih fun b hb => h b (List.mem_cons_of_mem _ hb)
    rw [e, List.length_cons]
    have : ((c.length + 1 : Nat) : Int) * M = (c.length : Int) * M + M := by push_cast; rw [Int.add_mul, Int.one_mul]
    rw [this]; omega
theorem mean_le {s M : Int} {n : Nat} (hn : 0 < n) (h : s ≤ n * M) : (2 * s + n) / (2 * n) ≤ M := by
  have : (2 * s + n) / (2 * n) < M + 1 := by
    refine Int.ediv_lt_of_lt_mul (by omega) ?_
    have e : (M + 1) * (2 * (n : Int)) = 2 * ((n : Int) * M) + 2 * n := by
      rw [Int.add_mul, Int.one_mul, ← Int.mul_assoc, Int.mul_comm M 2, Int.mul_assoc, Int.mul_comm M]
    rw [e]; omega
  omega
theorem points_le (r : Rule) {l : List Att} {M : Int} (hM : ∀ b ∈ l, b.pts ≤ M) (h0 : 0 ≤ M) : pointsL r l ≤ M := by
  unfold pointsL
  split
  · exact h0
  · exact mean_le (by omega) (sumP_le fun a ha => hM a (chosenL_mem ha))
theorem swap_perm {q : List Int} {x y : Nat} (hx : x < q.length) (hy : y < q.length) : ((q.set x q[y]).set y q[x]).Perm q := by
  have := Array.swap_perm (xs := q.toArray) (i := x) (j := y) (by simpa using hx) (by simpa using hy)
  have h2 := Array.perm_iff_toList_perm.1 this
  have e : (q.toArray.swap x y (by simpa using hx) (by simpa using hy)).toList = (q.set x q[y]).set y q[x] := by
    simp [Array.swap]
  rw [e] at h2
  simpa using h2
theorem law_AttemptsBest (p0 : Rule) (p1 : (List Att)) (p2 : Int) (p3 : Int) (p4 : Int) (h0 : (fun a : Rule => I64 a.kind ∧ I64 a.most ∧ I64 a.pause ∧ I64 a.keep) p0) (h1 : LW (fun a : Att => I64 a.num ∧ I64 a.tick ∧ I64 a.pts) p1) (h2 : (Lit.int .i64 p2).wf = true) (h3 : (Lit.int .u8 p3).wf = true) (h4 : (Lit.int .u8 p4).wf = true) : m_assessorlaw52_AttemptsBest p0 p1 p2 p3 p4 = some true := by
  have hu := U8.of h3
  have hu4 := U8.of h4
  unfold m_assessorlaw52_AttemptsBest
  rw [awake_m]
  simp only [Option.bind_some, Bool.not_true, Bool.false_eq_true, if_false]
  by_cases h : 20 < (p1.length : Int)
  · simp [h]
  · by_cases hz : (p1.length : Int) = 0
    · simp [hz]
    · simp only [h, hz, decide_false, Bool.or_false, Bool.false_eq_true, if_false]
      rw [valid_m p0 p1 (by omega)]
      simp only [Option.bind_some]
      cases hv : validB p0 p1 with
      | false => rfl
      | true =>
        obtain ⟨f1, f2, f3, f4⟩ := valid_facts hv
        have hvb := valid_best hv
        have eR : (Rule.mk 0 p0.most p0.pause 0) = bestR p0 := rfl
        rw [eR]
        have e1 : finalL p0 p1 = (pointsL p0 p1, 0) := by unfold finalL; rw [hv]; rfl
        have e2 : finalL (bestR p0) p1 = (pointsL (bestR p0) p1, 0) := by unfold finalL; rw [hvb]; rfl
        simp only [Bool.not_true, Bool.false_eq_true, if_false]
        rw [final_m (bestR p0) p1 (by omega), final_m p0 p1 (by omega), e1, e2]
        simp only [Option.bind_some]
        rw [app_ok (by simp; omega)]
        simp only [Option.bind_some, List.nil_append]
        obtain ⟨x, hx, hxl⟩ := rem_nat (i := p3) (n := p1.length) hu.1 (by omega)
        obtain ⟨y, hy, hyl⟩ := rem_nat (i := p4) (n := p1.length) hu4.1 (by omega)
        rw [inK_ok p3 (by omega) (by omega)]
        simp only [Option.bind_some]
        rw [hx]
        simp only [Option.bind_some]
        rw [inK_ok p4 (by omega) (by omega)]
        simp only [Option.bind_some]
        rw [hy]
        simp only [Option.bind_some]
        have hax : p1[x]? = some p1[x] := List.getElem?_eq_getElem hxl
        have hay : p1[y]? = some p1[y] := List.getElem?_eq_getElem hyl
        rw [idx_nat hay]
        simp only [Option.bind_some]
        rw [idx_nat hax]
        simp only [Option.bind_some, Int.toNat_natCast]
        have hs1 := same_set hax p1[y].pts
        have hl1 := same_len hs1
        generalize hM1 : p1.set x ⟨p1[x].num, p1[x].tick, p1[y].pts⟩ = M1 at *
        obtain ⟨b, hyM⟩ : ∃ b, M1[y]? = some b := ⟨_, List.getElem?_eq_getElem (by omega)⟩
        rw [idx_nat hyM]
        simp only [Option.bind_some]
        have hs2 := hs1.trans (same_set hyM p1[x].pts)
        have hpts : ((M1.set y ⟨b.num, b.tick, p1[x].pts⟩).map Att.pts) = ((p1.map Att.pts).set x p1[y].pts).set y p1[x].pts := by
          rw [List.map_set, ← hM1, List.map_set]
        generalize hM2 : M1.set y ⟨b.num, b.tick, p1[x].pts⟩ = M2 at *
        have hl2 := same_len hs2
        have hq := swap_perm (q := p1.map Att.pts) (x := x) (y := y) (by simpa using hxl) (by simpa using hyl)
        simp only [List.getElem_map] at hq
        rw [← hpts] at hq
        have hM2p : ∀ a ∈ M2, 0 ≤ a.pts ∧ a.pts ≤ 100000000 := fun a ha => by
          have : a.pts ∈ M2.map Att.pts := List.mem_map_of_mem ha
          rw [hq.mem_iff] at this
          obtain ⟨b, hb, e⟩ := List.mem_map.1 this
          rw [← e]; exact f1 b hb
        have hv2 : validB p0 M2 = true := valid_same hs2 hv hM2p
        have hv2b := valid_best hv2
        have e3 : finalL p0 M2 = (pointsL p0 M2, 0) := by unfold finalL; rw [hv2]; rfl
        have e4 : finalL (bestR p0) M2 = (pointsL (bestR p0) M2, 0) := by unfold finalL; rw [hv2b]; rfl
        rw [final_m (bestR p0) M2 (by omega), final_m p0 M2 (by omega), e3, e4]
        simp only [Option.bind_some, decide_true, Bool.not_true, Bool.false_or]
        obtain ⟨⟨am, ham, hap⟩, hmax⟩ := best_spec p0 (l := p1) (by omega)
        have hle : ¬ pointsL (bestR p0) p1 < pointsL p0 p1 := by
          have := points_le p0 hmax (by rw [← hap]; exact (f1 am ham).1)
          omega
        have hbb : pointsL (bestR p0) p1 = pointsL (bestR p0) M2 := points_perm _ hq.symm (by simp [bestR])
        have hmm : ((!decide (p0.kind = 1)) && (!decide (pointsL p0 p1 = pointsL p0 M2))) = false := by
          by_cases hk : p0.kind = 1
          · simp [hk]
          · simp [hk, points_perm p0 hq.symm hk]
        simp only [hle, hmm, ← hbb, decide_false, decide_true, Bool.not_true, Bool.or_false, Bool.false_eq_true, if_false]
        by_cases hm : (p1.length : Int) = p0.most
        · simp [hm]
        · by_cases hn : p2 < 0
          · simp [hn]
          · by_cases hb : 100000000 < p2
            · simp [hb]
            · simp only [hm, hn, hb, decide_false, Bool.or_false, Bool.false_eq_true, if_false]
              rw [next_law p1 p2 (by omega)]
              simp only [Option.bind_some]
              rw [final_with (r := bestR p0) hvb hm (by omega) (by omega)]
              simp only [Option.bind_some, decide_true, Bool.true_and, Option.some.injEq, decide_eq_true_eq]
              unfold withP
              obtain ⟨⟨bm, hbm, hbp⟩, hbmax⟩ := best_spec p0 (l := withL p1 p2) (by simp [withL])
              have c1 := hbmax ⟨p1.length + 1, lastT p1, p2⟩ (by simp [withL])
              have c2 := hbmax am (by simp [withL, ham])
              simp only at c1
              rcases List.mem_append.1 (show bm ∈ p1 ++ [_] from hbm) with hc | hc
              · have := hmax bm hc
                omega
              · simp only [List.mem_singleton] at hc
                subst hc
                simp only at hbp
                omega
end Go.Proofs.Ytmjmoogldbejoaa
