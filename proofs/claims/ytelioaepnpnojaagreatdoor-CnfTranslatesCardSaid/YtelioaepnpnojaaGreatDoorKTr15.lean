/- The laws that compare the program's functions with the reference's. -/
import Derived.Test.YtelioaepnpnojaaGreatDoorKTr13
import Derived.Test.YtelioaepnpnojaaGreatDoorKTr14
import Derived.Test.YtelioaepnpnojaaGreatDoorKTr3
import Derived.Test.YtelioaepnpnojaaGreatDoorKTr4
set_option linter.unusedVariables false
set_option linter.unusedSimpArgs false
namespace Go.Proofs.YtelioaepnpnojaaGreatDoor
open Go.RowKit Go.Lib
def exF : Formula := ⟨4, [[-1], [2, -4], [-3, -4], [-2, 3, 4], [4]]⟩
theorem ex_tr : trF ⟨2, [⟨2, 5⟩]⟩ [6] = (exF, 0) := by decide +kernel
theorem ex_valid : validB exF = true := by decide +kernel
theorem ex_fit : FLen exF.clauses := ⟨by decide, by decide⟩
theorem ex_lits : Lits exF.vars exF.clauses [2, -3] := valid_lits ex_valid (by decide)
theorem ex_vo : ValOk exF.vars exF.clauses [2, -3] [0, -1, 2, -3, 4] := by
  refine ⟨rfl, fun v x h => ?_, fun v x h h0 => ?_⟩
  · match v, h with
    | 0, h => simp at h; exact Or.inl h.symm
    | 1, h => simp at h; subst h; exact Or.inr ⟨by decide, rfl⟩
    | 2, h => simp at h; subst h; exact Or.inr ⟨by decide, rfl⟩
    | 3, h => simp at h; subst h; exact Or.inr ⟨by decide, rfl⟩
    | 4, h => simp at h; subst h; exact Or.inr ⟨by decide, rfl⟩
    | n + 5, h => simp at h
  · match v, h with
    | 0, h => simp at h; exact absurd h.symm h0
    | 1, h => simp at h; subst h; exact .unit (c := [-1]) (by decide) (by decide) (fun y hy hn => absurd (List.mem_singleton.1 hy) hn)
    | 2, h => simp at h; subst h; exact .start (by decide)
    | 3, h => simp at h; subst h; exact .start (by decide)
    | 4, h => simp at h; subst h; exact .unit (c := [4]) (by decide) (by decide) (fun y hy hn => absurd (List.mem_singleton.1 hy) hn)
    | n + 5, h => simp at h
theorem ex_st : ∀ l ∈ ([2, -3] : List Int), gv [0, -1, 2, -3, 4] l = some l := by decide
theorem ex_good : ∀ c ∈ exF.clauses, Good [0, -1, 2, -3, 4] c := by
  intro c hc
  have hc : c ∈ [[-1], [2, -4], [-3, -4], [-2, 3, 4], [4]] := hc
  simp only [List.mem_cons, List.not_mem_nil, or_false] at hc
  rcases hc with rfl | rfl | rfl | rfl | rfl
  · exact Or.inl ⟨-1, by decide, by decide⟩
  · exact Or.inl ⟨2, by decide, by decide⟩
  · exact Or.inl ⟨-3, by decide, by decide⟩
  · exact Or.inl ⟨4, by decide, by decide⟩
  · exact Or.inl ⟨4, by decide, by decide⟩
theorem ex_prop : PropOk exF [2, -3] ([-1, 2, -3, 4], true, 0) := by
  unfold PropOk
  rw [if_pos ⟨ex_valid, by decide⟩]
  refine ⟨rfl, Or.inl ⟨rfl, closed_ok ex_lits ex_vo ex_st ex_good, by decide, fun x => ⟨fun h => ?_, fun h => ?_⟩⟩⟩
  · simp only [List.mem_cons, List.not_mem_nil, or_false] at h
    rcases h with rfl | rfl | rfl | rfl
    · exact ex_vo.sound 1 (-1) rfl (by decide)
    · exact ex_vo.sound 2 2 rfl (by decide)
    · exact ex_vo.sound 3 (-3) rfl (by decide)
    · exact ex_vo.sound 4 4 rfl (by decide)
  · have h1 := closed_up ex_lits ex_vo ex_st ex_good h
    have h2 := (h.lit ex_lits).1
    unfold gv at h1
    generalize (vr x).toNat = v at h1
    match v, h1 with
    | 0, h => simp at h; exact absurd h.symm h2
    | 1, h => simp at h; subst h; simp
    | 2, h => simp at h; subst h; simp
    | 3, h => simp at h; subst h; simp
    | 4, h => simp at h; subst h; simp
    | n + 5, h => simp at h
def exG : Formula := ⟨2, [[1, -2]]⟩
theorem itoa_dig {n : Int} (h0 : 0 ≤ n) (h : n < 10) : itoa n = [UInt8.ofNat (48 + n.toNat)] := by
  unfold itoa; rw [if_neg (by omega), dd_small (by omega)]
theorem ex_txt : fmtL exG = [112, 32, 99, 110, 102, 32, 50, 32, 49, 10, 49, 32, 45, 50, 32, 48, 10] := by
  have h1 : itoa 1 = [49] := itoa_dig (by decide) (by decide)
  have h2 : itoa 2 = [50] := itoa_dig (by decide) (by decide)
  have h3 : itoa (-2) = [45, 50] := by unfold itoa; rw [if_pos (by decide), show (-2 : Int).natAbs = 2 from rfl, dd_small (by decide)]; rfl
  unfold fmtL headL exG
  simp [lineL, litL, h1, h2, h3]
theorem ex_gfit : Fits exG.clauses := ⟨by decide, by decide⟩
theorem ex_gvalid : validB exG = true := by decide +kernel
theorem awake_true : m_assessorlaw26_awake = some true := by
  unfold m_assessorlaw26_awake
  rw [cnf_translate (by decide) (by decide) (by decide), bsm, ex_tr]
  obtain ⟨r, h1, h2⟩ := cnf_propagate (f := exF) (S := [2, -3]) ex_fit (by decide) (by decide) (by decide)
  rw [h2.eq ex_prop] at h1
  obtain ⟨q, h3, h4⟩ := cnf_parse (l := [112, 32, 99, 110, 102, 32, 50, 32, 49, 10, 49, 32, 45, 50, 32, 48, 10]) (by decide)
  rw [← ex_txt] at h3 h4
  rw [h4.eq (ParseSpec.fmt ex_gvalid ex_gfit)] at h3
  have e1 : (ByteArray.mk #[112, 32, 99, 110, 102, 32, 50, 32, 49, 10, 49, 32, 45, 50, 32, 48, 10]) = bs (fmtL exG) := by rw [ex_txt]; rfl
  have e2 : fmtB exG = bs (fmtL exG) := by unfold fmtB; rw [if_pos ex_gvalid]
  have n1 : m_cnf_Normal [3, -2, 3] = some ([-2, 3], true) := by rw [cnf_Normal (by decide)]; decide +kernel
  have c1 : m_assessorref26_Clauses exF.clauses [[-1], [2, -4], [-3, -4], [-2, 3, 4], [4]] = some true := by rw [clauses_equal _ _ ex_fit]; rfl
  have l1 : m_slices_Equal_int_int_ [-1, 2, -3, 4] [-1, 2, -3, 4] = some true := by rw [lists_equal _ _ (by decide)]; rfl
  have l2 : m_slices_Equal_int_int_ [-2, 3] [-2, 3] = some true := by rw [lists_equal _ _ (by decide)]; rfl
  have v1 : m_cnf_Valid exF = some true := by rw [cnf_valid ex_fit, ex_valid]
  have o1 : m_cnf_Holds exF [-1, 2, -3, 4] = some true := by rw [cnf_holds ex_fit]; decide +kernel
  have t1 : m_cnf_Literal 5 = some (-3) := by rw [cnf_literal (by decide)]; rfl
  have i1 : ((decide ((0 : Int) = 0)) && (decide (exF.vars = 4))) = true := by decide
  rw [e1, h1, bsm, n1, bsm, h3, bsm, if_pos i1, c1, bsm, bsm, if_pos rfl, l1, bsm, bsm, if_pos (by decide), l2, bsm, bsm, if_pos (by decide), cnf_format ex_gfit, bsm, e2, bsm, if_pos (by simp), v1, bsm, bsm, if_pos rfl, o1, bsm, bsm, if_pos rfl, t1, bsm, bsm]
  rfl
theorem gatesC_short : ∀ (l : List Arr2) (v : Int), ∀ c ∈ gatesC v l, c.length ≤ 9223372036854775807
  | [], v, c, h => by simp [gatesC] at h
  | x :: l, v, c, h => by
    unfold gatesC at h
    rcases List.mem_append.1 h with h | h
    · unfold gateC at h
      simp only [List.mem_cons, List.not_mem_nil, or_false] at h
      rcases h with rfl | rfl | rfl
      · have := normF_len [-v, litF x.x0]; simp only [List.length_cons, List.length_nil] at this; omega
      · have := normF_len [-v, litF x.x1]; simp only [List.length_cons, List.length_nil] at this; omega
      · have := normF_len [v, -litF x.x0, -litF x.x1]; simp only [List.length_cons, List.length_nil] at this; omega
    · exact gatesC_short l (v + 1) c h
theorem law_CnfTranslates (p0 : Gates) (p1 : List Int) (h0 : GWf p0) (h1 : LW I64 p1) : m_assessorlaw26_CnfTranslates p0 p1 = some true := by
  unfold m_assessorlaw26_CnfTranslates
  rw [awake_true, bsm, if_neg (by decide)]
  by_cases hs : ((decide (40 < (p0.gates.length : Int))) || (decide (40 < (p1.length : Int)))) = true
  · rw [if_pos hs]
  · rw [if_neg hs]
    simp only [Bool.or_eq_true, decide_eq_true_eq, not_or] at hs
    have hi : ∀ x ∈ p1, x ≤ 9223372036854775807 := fun x hx => (h1.2 x hx).2
    rw [cnf_translate (by omega) (by omega) hi, bsm, ref_translate (by omega) (by omega) hi, bsm]
    have hfl : FLen (trF p0 p1).1.clauses := by
      unfold trF
      split
      · split
        · exact ⟨by simp, by simp⟩
        · refine ⟨?_, ?_⟩
          · simp only [List.length_append, gatesC_len, List.length_map, List.length_singleton]; omega
          · intro c hc
            simp only [List.mem_append, List.mem_singleton, List.mem_map] at hc
            rcases hc with (rfl | hc) | ⟨x, _, rfl⟩
            · simp
            · exact gatesC_short _ _ c hc
            · simp
      · exact ⟨by simp, by simp⟩
    rw [same_formula _ _ hfl, bsm]
    simp
end Go.Proofs.YtelioaepnpnojaaGreatDoor
