/-
  Attempts, in plain terms: a further attempt; changed points. No program is named.
-/
import Derived.Test.YtmjmoogldbejoaaLaw1
import Derived.Test.YtmjmoogldbejoaaWNM
import Derived.Test.YtmjmoogldbejoaaWEM
set_option linter.unusedVariables false
set_option linter.unusedSimpArgs false
namespace Go.Proofs.Ytmjmoogldbejoaa
open Go.RowKit Go.Sort

/-- What the ticks are behind a list. -/
def endT (t : Int) (l : List Att) : Int := match l.getLast? with | none => t | some a => a.tick
theorem endT_cons (t : Int) (a : Att) (l : List Att) : endT t (a :: l) = endT a.tick l := by
  cases l with
  | nil => rfl
  | cons b l =>
    unfold endT
    rw [List.getLast?_cons_cons]
    cases h : (b :: l).getLast? with
    | none => simp at h
    | some c => rfl
theorem okFrom_snoc : ∀ (l : List Att) (i t : Int) (x : Att), okFrom i t (l ++ [x]) = (okFrom i t l && (decide (x.num = i + l.length + 1) && !decide (x.tick < endT t l) && isTime x.tick && !decide (x.pts < 0) && !decide (100000000 < x.pts)))
  | [], i, t, x => by simp [okFrom, endT] <;> rfl
  | a :: l, i, t, x => by
    rw [List.cons_append, okFrom, okFrom_snoc l (i + 1) a.tick x, okFrom, endT_cons]
    have e : i + 1 + (l.length : Int) + 1 = i + ((a :: l).length : Int) + 1 := by simp; omega
    rw [e]
    simp only [Bool.and_assoc]
theorem endT_last (l : List Att) : endT 0 l = lastT l := rfl
theorem valid_snoc {r : Rule} {l : List Att} (hv : validB r l = true) (hm : ¬ (l.length : Int) = r.most) {t p : Int} (ht : isTime t = true) (hl : lastT l ≤ t) (h0 : 0 ≤ p) (h1 : p ≤ 100000000) : validB r (l ++ [⟨l.length + 1, t, p⟩]) = true := by
  unfold validB at hv ⊢
  simp only [Bool.and_eq_true, decide_eq_true_eq] at hv ⊢
  obtain ⟨⟨a, b⟩, c⟩ := hv
  refine ⟨⟨a, by simp; omega⟩, ?_⟩
  rw [okFrom_snoc, c, endT_last]
  simp [ht]
  omega
theorem lastT_time {r : Rule} {l : List Att} (hv : validB r l = true) : isTime (lastT l) = true := by
  have := valid_last hv
  rw [isTime_iff]; omega
theorem valid_with {r : Rule} {l : List Att} (hv : validB r l = true) (hm : ¬ (l.length : Int) = r.most) {p : Int} (h0 : 0 ≤ p) (h1 : p ≤ 100000000) : validB r (withL l p) = true :=
  valid_snoc hv hm (lastT_time hv) (Int.le_refl _) h0 h1
theorem final_with {r : Rule} {l : List Att} (hv : validB r l = true) (hm : ¬ (l.length : Int) = r.most) {p : Int} (h0 : 0 ≤ p) (h1 : p ≤ 100000000) : m_attempts_Final r (withL l p) = some (withP r l p, 0) := by
  obtain ⟨_, _, _, hl⟩ := valid_facts hv
  rw [final_m _ _ (by simp [withL]; omega)]
  unfold finalL
  rw [valid_with hv hm h0 h1]
  rfl
theorem next_law (l : List Att) (p : Int) (hl : l.length ≤ 1000000) : m_assessorlaw52_next l p = some (withL l p) := by
  unfold m_assessorlaw52_next
  rw [inK_ok ((l.length : Int) + 1) (by omega) (by omega)]
  simp only [Option.bind_some]
  rcases Nat.eq_zero_or_pos l.length with h0 | h0
  · obtain rfl := List.eq_nil_of_length_eq_zero h0
    rfl
  · obtain ⟨a, i1, i2, i3⟩ := last_r l hl h0
    have e1 : 0 < (l.length : Int) := by omega
    simp only [e1, decide_true, if_true, i1, i2, i3, Option.bind_some]
    rw [app_ok (by simp; omega)]
    simp only [Option.bind_some, List.nil_append]
    rw [app_ok (by simp; omega)]
    rfl
theorem law_AttemptsNeeded (p0 : Rule) (p1 : (List Att)) (p2 : Int) (h0 : (fun a : Rule => I64 a.kind ∧ I64 a.most ∧ I64 a.pause ∧ I64 a.keep) p0) (h1 : LW (fun a : Att => I64 a.num ∧ I64 a.tick ∧ I64 a.pts) p1) (h2 : (Lit.int .i64 p2).wf = true) : m_assessorlaw52_AttemptsNeeded p0 p1 p2 = some true := by
  unfold m_assessorlaw52_AttemptsNeeded
  rw [awake_m]
  simp only [Option.bind_some, Bool.not_true, Bool.false_eq_true, if_false]
  by_cases h : 20 < (p1.length : Int)
  · simp [h]
  · simp only [h, decide_false, Bool.false_eq_true, if_false]
    obtain ⟨k, ok, hn, hN⟩ := needed_m p0 p1 p2 (by omega)
    rw [hn, valid_m p0 p1 (by omega)]
    simp only [Option.bind_some]
    unfold NeededIs at hN
    by_cases hb : validB p0 p1 = false ∨ (p1.length : Int) = p0.most
    · rw [if_pos hb] at hN
      obtain ⟨rfl, rfl⟩ := hN
      have : ((!validB p0 p1) || decide ((p1.length : Int) = p0.most)) = true := by
        rcases hb with hb | hb <;> simp [hb]
      rw [this]; rfl
    · rw [if_neg hb] at hN
      simp only [not_or, Bool.not_eq_false] at hb
      obtain ⟨hv, hm⟩ := hb
      simp only [hv, hm, Bool.not_true, decide_false, Bool.or_false, Bool.false_eq_true, if_false]
      rw [next_law p1 100000000 (by omega)]
      simp only [Option.bind_some]
      rw [final_with hv hm (by omega) (by omega)]
      by_cases hg : withP p0 p1 100000000 < p2
      · rw [if_pos hg] at hN
        obtain ⟨rfl, rfl⟩ := hN
        simp [hg]
      · rw [if_neg hg] at hN
        obtain ⟨rfl, a1, a2, a3, a4⟩ := hN
        have b1 : ¬ k < 0 := by omega
        have b2 : ¬ 100000000 < k := by omega
        simp only [b1, b2, decide_false, Bool.not_true, Bool.or_false, Bool.false_eq_true, if_false]
        rw [next_law p1 k (by omega)]
        simp only [Option.bind_some]
        rw [final_with hv hm a1 a2]
        have b3 : ¬ withP p0 p1 k < p2 := by omega
        simp only [Option.bind_some, b3, decide_true, decide_false, Bool.not_true, Bool.or_false, Bool.false_eq_true, if_false]
        rw [inK_ok (k - 1) (by omega) (by omega)]
        simp only [Option.bind_some]
        rw [next_law p1 (k - 1) (by omega)]
        simp only [Option.bind_some]
        by_cases hk : k = 0
        · subst hk
          rw [final_m _ _ (by simp [withL]; omega)]
          simp
        · rw [final_with hv hm (by omega) (by omega)]
          have : withP p0 p1 (k - 1) < p2 := a4.resolve_left hk
          simp [this]
theorem law_AttemptsEarliest (p0 : Rule) (p1 : (List Att)) (p2 : Int) (h0 : (fun a : Rule => I64 a.kind ∧ I64 a.most ∧ I64 a.pause ∧ I64 a.keep) p0) (h1 : LW (fun a : Att => I64 a.num ∧ I64 a.tick ∧ I64 a.pts) p1) (h2 : (Lit.int .i64 p2).wf = true) : m_assessorlaw52_AttemptsEarliest p0 p1 p2 = some true := by
  unfold m_assessorlaw52_AttemptsEarliest
  rw [awake_m]
  simp only [Option.bind_some, Bool.not_true, Bool.false_eq_true, if_false]
  by_cases h : 20 < (p1.length : Int)
  · simp [h]
  · simp only [h, decide_false, Bool.false_eq_true, if_false]
    rw [valid_m p0 p1 (by omega)]
    simp only [Option.bind_some]
    cases hv : validB p0 p1 with
    | false => rfl
    | true =>
      simp only [Bool.not_true, Bool.false_eq_true, if_false]
      rw [earliest_m p0 p1 (by omega), allowed_m p0 p1 p2 (by omega)]
      simp only [Option.bind_some]
      obtain ⟨t1, t2, t3, t4⟩ := valid_last hv
      have hi := isTime_iff p2
      cases he : earliestT p0 p1 with
      | none =>
        simp only [Option.getD_none, Option.isSome_none, Bool.not_false, if_true]
        have hne : ¬ allowedE p0 p1 p2 = 0 := by
          unfold earliestT at he
          unfold allowedE
          rw [hv] at he ⊢
          simp only [Bool.true_eq_false, false_or, if_false] at he ⊢
          split at he
          · rename_i hh
            split
            · decide
            · rename_i hn
              simp only [not_or, Bool.not_eq_false, Int.not_lt] at hn
              rcases hh with hh | hh
              · rw [if_pos hh]; decide
              · split
                · decide
                · rw [if_pos ?_]
                  · decide
                  · have := isTime_iff (nextT p0 p1)
                    have := hi.1 hn.1
                    have hx : 0 ≤ nextT p0 p1 := by unfold nextT; split <;> omega
                    have : ¬ (nextT p0 p1 ≤ 1099511627776) := fun hc => by rw [(isTime_iff (nextT p0 p1)).2 ⟨hx, hc⟩] at hh; cases hh
                    omega
          · cases he
        simp [hne]
      | some t =>
        have he2 : ¬ ((p1.length : Int) = p0.most) ∧ isTime (nextT p0 p1) = true ∧ t = nextT p0 p1 := by
          unfold earliestT at he
          rw [hv] at he
          simp only [Bool.true_eq_false, false_or] at he
          split at he
          · cases he
          · rename_i hh
            simp only [not_or, Bool.not_eq_false] at hh
            exact ⟨hh.1, hh.2, (Option.some.inj he).symm⟩
        obtain ⟨hm, hit, rfl⟩ := he2
        have hit2 := (isTime_iff _).1 hit
        have hge : lastT p1 ≤ nextT p0 p1 := by
          unfold nextT; split
          · rename_i h0; rw [List.eq_nil_of_length_eq_zero h0]; exact Int.le_refl _
          · omega
        have ha1 : allowedE p0 p1 (nextT p0 p1) = 0 := by
          unfold allowedE
          rw [hv, hit, if_neg (by simp), if_neg (by simp; omega), if_neg hm, if_neg (by omega)]
        have ha2 : (allowedE p0 p1 p2 = 0) ↔ nextT p0 p1 ≤ p2 ∧ p2 ≤ 1099511627776 := by
          unfold allowedE
          rw [hv, if_neg (by simp)]
          by_cases c1 : isTime p2 = false ∨ p2 < lastT p1
          · rw [if_pos c1]
            refine ⟨(fun e => by cases e), fun ⟨e1, e2⟩ => ?_⟩
            exfalso
            rcases c1 with c1 | c1
            · rw [hi.2 ⟨by omega, by omega⟩] at c1; cases c1
            · omega
          · rw [if_neg c1, if_neg hm]
            simp only [not_or, Bool.not_eq_false, Int.not_lt] at c1
            have := hi.1 c1.1
            by_cases c2 : p2 < nextT p0 p1
            · rw [if_pos c2]; exact ⟨(fun e => by cases e), (fun e => by omega)⟩
            · rw [if_neg c2]; exact ⟨(fun _ => by omega), (fun _ => rfl)⟩
        simp only [Option.getD_some, Option.isSome_some, Bool.not_true, Bool.false_eq_true, if_false]
        rw [allowed_m p0 p1 (nextT p0 p1) (by omega), ha1]
        have hbeq : ((decide (nextT p0 p1 ≤ p2) && decide (p2 ≤ 1099511627776)) == decide (allowedE p0 p1 p2 = 0)) = true := by
          by_cases c : allowedE p0 p1 p2 = 0
          · have := ha2.1 c; simp [c, this.1, this.2]
          · have hc : ¬ (nextT p0 p1 ≤ p2 ∧ p2 ≤ 1099511627776) := fun e => c (ha2.2 e)
            rw [← Bool.decide_and, decide_eq_false hc, decide_eq_false c]; rfl
        simp only [Option.bind_some, hbeq, decide_true, Bool.not_true, Bool.or_false, Bool.false_eq_true, if_false]
        rw [app_ok (by simp; omega)]
        simp only [Option.bind_some, List.nil_append]
        obtain ⟨b, hbm, hbp⟩ := loopM_inv (body := fun s : Bool × Int × List Att => m_assessorlaw52_AttemptsEarliest_lp1 p0 s.1 s.2.1 s.2.2) (fun s => validB p0 s.2.2 = true ∧ 0 ≤ s.2.1 ∧ (s.2.2.length : Int) = p1.length + s.2.1) (fun s => (17 - s.2.1).toNat)
          (fun b => ∃ l, b = .brk (false, l) ∧ validB p0 l = true ∧ earliestT p0 l = none) (by
            rintro ⟨ok, i, l⟩ ⟨hvl, hi0, hll⟩
            simp only at *
            obtain ⟨f1, f2, f3, f4⟩ := valid_facts hvl
            unfold m_assessorlaw52_AttemptsEarliest_lp1
            have hi17 : i < 17 := by omega
            simp only [hi17, decide_true, if_true]
            rw [earliest_m p0 l (by omega)]
            simp only [Option.bind_some]
            cases hel : earliestT p0 l with
            | none =>
              exact Or.inr ⟨_, rfl, l, rfl, hvl, hel⟩
            | some t =>
              simp only [Option.getD_some, Option.isSome_some, Bool.not_true, Bool.false_eq_true, if_false]
              have he3 : ¬ ((l.length : Int) = p0.most) ∧ isTime (nextT p0 l) = true ∧ t = nextT p0 l := by
                unfold earliestT at hel
                rw [hvl] at hel
                simp only [Bool.true_eq_false, false_or] at hel
                split at hel
                · cases hel
                · rename_i hh
                  simp only [not_or, Bool.not_eq_false] at hh
                  exact ⟨hh.1, hh.2, (Option.some.inj hel).symm⟩
              obtain ⟨hm3, hit3, rfl⟩ := he3
              have t3' := valid_last hvl
              have hge3 : lastT l ≤ nextT p0 l := by
                unfold nextT; split
                · rename_i h0; rw [List.eq_nil_of_length_eq_zero h0]; exact Int.le_refl _
                · omega
              rw [inK_ok ((l.length : Int) + 1) (by omega) (by omega)]
              simp only [Option.bind_some]
              rw [app_ok (by simp; omega)]
              simp only [Option.bind_some]
              rw [valid_m _ _ (by simp; omega), valid_snoc hvl hm3 hit3 hge3 (by omega) (by omega)]
              simp only [Option.bind_some, Bool.not_true, Bool.false_eq_true, if_false]
              rw [inK_ok (i + 1) (by omega) (by omega)]
              refine Or.inl ⟨_, rfl, ⟨valid_snoc hvl hm3 hit3 hge3 (by omega) (by omega), by simp; omega, by simp; omega⟩, by simp; omega⟩) (true, 0, p1) ⟨hv, by simp, by simp⟩
        obtain ⟨l, rfl, hvl, hel⟩ := hbp
        rw [hbm]
        simp only [Option.bind_some, Bool.not_false, if_true]
        obtain ⟨f1, f2, f3, f4⟩ := valid_facts hvl
        obtain ⟨s1, s2, s3, s4⟩ := valid_last hvl
        have hel2 : (l.length : Int) = p0.most ∨ isTime (nextT p0 l) = false := by
          unfold earliestT at hel
          rw [hvl] at hel
          simp only [Bool.true_eq_false, false_or] at hel
          split at hel
          · assumption
          · cases hel
        by_cases hmm : (l.length : Int) = p0.most
        · simp [hmm]
        · have hit4 : isTime (nextT p0 l) = false := hel2.resolve_left hmm
          have hpos : 0 < l.length := by
            rcases Nat.eq_zero_or_pos l.length with h0 | h0
            · have : nextT p0 l = 0 := by unfold nextT; rw [if_pos h0]
              rw [this] at hit4; cases hit4
            · exact h0
          have hnx : nextT p0 l = lastT l + p0.pause := by unfold nextT; rw [if_neg (by omega)]
          have hbig : 1099511627776 < lastT l + p0.pause := by
            rw [hnx] at hit4
            rcases Int.lt_or_le 1099511627776 (lastT l + p0.pause) with hc | hc
            · exact hc
            · rw [(isTime_iff _).2 ⟨by omega, hc⟩] at hit4; cases hit4
          obtain ⟨a, i1, i2, i3⟩ := last_r l (by omega) hpos
          have e1 : 0 < (l.length : Int) := by omega
          simp only [hmm, decide_false, Bool.false_eq_true, if_false, e1, decide_true, if_true, i1, i2, i3, Option.bind_some]
          rw [inK_ok (1099511627776 - p0.pause) (by omega) (by omega)]
          have : 1099511627776 - p0.pause < lastT l := by omega
          simp [this]
end Go.Proofs.Ytmjmoogldbejoaa
