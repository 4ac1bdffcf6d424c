/-
  Attempts, in plain terms: the law AttemptsRise and AttemptsBest. No program is named.
-/
import Derived.Test.YtmjmoogldbejoaaP54
import Derived.Test.YtmjmoogldbejoaaWRM
import Derived.Test.YtmjmoogldbejoaaWBM
set_option linter.unusedVariables false
set_option linter.unusedSimpArgs false
namespace Go.Proofs.Ytmjmoogldbejoaa
open Go.RowKit Go.Sort

/-- Lists that differ in points only. -/
def Same (l m : List Att) : Prop := l.map (fun a => (a.num, a.tick)) = m.map (fun a => (a.num, a.tick))
theorem okFrom_same : ∀ {l m : List Att} {i t : Int}, Same l m → okFrom i t l = true → (∀ a ∈ m, 0 ≤ a.pts ∧ a.pts ≤ 100000000) → okFrom i t m = true
  | [], [], _, _, _, _, _ => rfl
  | [], b :: m, _, _, h, _, _ => by simp [Same] at h
  | a :: l, [], _, _, h, _, _ => by simp [Same] at h
  | a :: l, b :: m, i, t, h, ho, hp => by
    unfold Same at h
    simp only [List.map_cons, List.cons.injEq, Prod.mk.injEq] at h
    obtain ⟨⟨h1, h2⟩, h3⟩ := h
    rw [okFrom] at ho ⊢
    simp only [Bool.and_eq_true] at ho ⊢
    have := hp b (List.mem_cons_self ..)
    refine ⟨⟨⟨ho.1.1.1.imp (by rw [← h1, ← h2]; exact id) (by rw [← h2]; exact id), by simp; omega⟩, by simp; omega⟩, ?_⟩
    rw [← h2]
    exact okFrom_same h3 ho.2 fun c hc => hp c (List.mem_cons_of_mem _ hc)
theorem same_len {l m : List Att} (h : Same l m) : l.length = m.length := by simpa using congrArg List.length h
theorem valid_same {r : Rule} {l m : List Att} (h : Same l m) (hv : validB r l = true) (hp : ∀ a ∈ m, 0 ≤ a.pts ∧ a.pts ≤ 100000000) : validB r m = true := by
  unfold validB at hv ⊢
  simp only [Bool.and_eq_true] at hv ⊢
  exact ⟨⟨hv.1.1, by rw [← same_len h]; exact hv.1.2⟩, okFrom_same h hv.2 hp⟩
theorem same_set {l : List Att} {k : Nat} {a : Att} (h : l[k]? = some a) (p : Int) : Same l (l.set k ⟨a.num, a.tick, p⟩) := by
  unfold Same
  apply List.ext_getElem?
  intro j
  rw [List.getElem?_map, List.getElem?_map, List.getElem?_set]
  by_cases e : k = j
  · subst e
    have := (List.getElem?_eq_some_iff.1 h).1
    simp [this, h]
    have h2 := (List.getElem?_eq_some_iff.1 h).2
    rw [h2]; exact ⟨rfl, rfl⟩
  · rw [if_neg e]
theorem Same.trans {a b c : List Att} (h : Same a b) (k : Same b c) : Same a c := Eq.trans h k
theorem mem_set_pts {l : List Att} {k : Nat} {x : Att} (hp : ∀ a ∈ l, 0 ≤ a.pts ∧ a.pts ≤ 100000000) (hx : 0 ≤ x.pts ∧ x.pts ≤ 100000000) : ∀ a ∈ l.set k x, 0 ≤ a.pts ∧ a.pts ≤ 100000000 := fun a ha => by
  rcases List.mem_or_eq_of_mem_set ha with h | h
  · exact hp a h
  · subst h; exact hx
theorem rem_nat {i : Int} {n : Nat} (h : 0 ≤ i) (hn : 0 < n) : ∃ k : Nat, remK i (n : Int) = some (k : Int) ∧ k < n := by
  refine ⟨i.toNat % n, ?_, Nat.mod_lt _ hn⟩
  unfold remK
  rw [if_pos (by omega)]
  congr 1
  obtain ⟨m, rfl⟩ : ∃ m : Nat, i = m := ⟨i.toNat, by omega⟩
  rw [Int.toNat_natCast]
  exact (Int.ofNat_tmod m n).symm
theorem law_AttemptsRise (p0 : Rule) (p1 : (List Att)) (p2 : Int) (p3 : Int) (h0 : (fun a : Rule => I64 a.kind ∧ I64 a.most ∧ I64 a.pause ∧ I64 a.keep) p0) (h1 : LW (fun a : Att => I64 a.num ∧ I64 a.tick ∧ I64 a.pts) p1) (h2 : (Lit.int .u8 p2).wf = true) (h3 : (Lit.int .i64 p3).wf = true) : m_assessorlaw52_AttemptsRise p0 p1 p2 p3 = some true := by
  have hu := U8.of h2
  unfold m_assessorlaw52_AttemptsRise
  rw [awake_m]
  simp only [Option.bind_some, Bool.not_true, Bool.false_eq_true, if_false]
  by_cases h : 20 < (p1.length : Int)
  · simp [h]
  · by_cases hz : (p1.length : Int) = 0
    · simp [hz]
    · simp only [h, hz, decide_false, Bool.or_false, Bool.false_eq_true, if_false]
      rw [valid_m p0 p1 (by omega)]
      simp only [Option.bind_some]
      cases hv : validB p0 p1 with
      | false => rfl
      | true =>
        obtain ⟨f1, f2, f3, f4⟩ := valid_facts hv
        simp only [Bool.not_true, Bool.false_eq_true, if_false]
        rw [inK_ok p2 (by omega) (by omega)]
        simp only [Option.bind_some]
        obtain ⟨k, hk, hkl⟩ := rem_nat (i := p2) (n := p1.length) hu.1 (by omega)
        rw [hk]
        simp only [Option.bind_some]
        rw [app_ok (by simp; omega)]
        simp only [Option.bind_some, List.nil_append]
        obtain ⟨a, ha⟩ : ∃ a, p1[k]? = some a := ⟨_, List.getElem?_eq_getElem hkl⟩
        rw [idx_nat ha]
        simp only [Option.bind_some, Int.toNat_natCast]
        have hsame := same_set ha p3
        have hlen := same_len hsame
        generalize hM : p1.set k ⟨a.num, a.tick, p3⟩ = M at *
        rw [final_m p0 p1 (by omega), final_m p0 M (by omega)]
        have e1 : finalL p0 p1 = (pointsL p0 p1, 0) := by unfold finalL; rw [hv]; rfl
        rw [e1]
        simp only [Option.bind_some, decide_true, Bool.not_true, Bool.false_eq_true, if_false]
        have hma : a ∈ p1 := List.mem_of_getElem? ha
        have hpa := f1 a hma
        by_cases hin : 0 ≤ p3 ∧ p3 ≤ 100000000
        · have hvM : validB p0 M = true := valid_same hsame hv (by rw [← hM]; exact mem_set_pts f1 hin)
          have e2 : finalL p0 M = (pointsL p0 M, 0) := by unfold finalL; rw [hvM]; rfl
          rw [e2]
          simp only [decide_true, Bool.not_true, Bool.false_or]
          have hrise : a.pts < p3 → pointsL p0 p1 ≤ pointsL p0 M := fun hlt => by
            refine points_dom p0 ⟨by simp [hlen], fun i x y hx hy => ?_⟩
            rw [List.getElem?_map] at hx hy
            rw [← hM, List.getElem?_set] at hy
            by_cases e : k = i
            · subst e
              rw [ha] at hx
              simp [hkl] at hx hy
              omega
            · rw [if_neg e] at hy
              rw [hx] at hy
              simp only [Option.some.injEq] at hy
              omega
          have hb : ((decide (a.pts < p3) && decide (p3 ≤ 100000000)) && decide (pointsL p0 M < pointsL p0 p1)) = false := by
            by_cases hlt : a.pts < p3
            · have := hrise hlt
              simp; intro _ _; omega
            · simp [hlt]
          rw [hb]
          simp only [Bool.false_eq_true, if_false]
          by_cases hkd : p0.kind = 1
          · simp only [hkd, decide_true, Bool.not_true, Bool.false_eq_true, if_false]
            rw [inK_ok ((p1.length : Int) - 1) (by omega) (by omega)]
            simp only [Option.bind_some]
            by_cases hlast : (k : Int) = (p1.length : Int) - 1
            · simp [hlast]
            · have : pointsL p0 p1 = pointsL p0 M := by
                have hc : (chosenL p0 p1) = (chosenL p0 M) := by
                  unfold chosenL
                  rw [if_pos hkd, if_pos hkd]
                  apply List.ext_getElem?
                  intro i
                  rw [List.getElem?_take, List.getElem?_take]
                  split
                  · rename_i hi
                    rw [List.getElem?_reverse (by omega), List.getElem?_reverse (by omega), ← hM, List.getElem?_set, List.length_set, if_neg (by omega)]
                  · rfl
                unfold pointsL; rw [hc]
              simp [this]
          · simp [hkd]
        · have hvM : validB p0 M = false := by
            cases hc : validB p0 M with
            | false => rfl
            | true =>
              exfalso
              have := (valid_facts hc).1 ⟨a.num, a.tick, p3⟩ (by rw [← hM]; exact List.mem_set hkl _)
              simp only at this
              exact hin this
          have e2 : finalL p0 M = (0, 1) := by unfold finalL; rw [hvM]; rfl
          rw [e2]
          have hb : ((decide (a.pts < p3) && decide (p3 ≤ 100000000)) && true) = false := by
            simp; intro _; omega
          simp [hb]
end Go.Proofs.Ytmjmoogldbejoaa
