/- The laws of proofs: the law's own examples, and that program and reference agree; soundness. -/
import Derived.Test.YtfajmelamonolaaDoorKTr13
import Derived.Test.YtfajmelamonolaaDoorKTr3
import Derived.Test.YtfajmelamonolaaDoorKTr4
set_option linter.unusedVariables false
set_option linter.unusedSimpArgs false
namespace Go.Proofs.YtfajmelamonolaaDoor
open Go.RowKit Go.Lib
theorem FWf.flen {f : Formula} (h : FWf f) : FLen f.clauses := ⟨h.2.1, fun c hc => (h.2.2 c hc).1⟩
theorem small_ok {f : Formula} {v n : Int} (h : smallB f v n = true) : f.vars ≤ v ∧ (f.clauses.length : Int) ≤ n ∧ ∀ c ∈ f.clauses, c.length ≤ 30 := by
  unfold smallB at h
  simp only [Bool.and_eq_true, decide_eq_true_eq, List.all_eq_true] at h
  exact ⟨h.1.2, h.2, h.1.1⟩
theorem psmall_eq (p : List (List Int)) (k : Int) (hl : p.length ≤ 9223372036854775807) : m_assessorlaw27_small p k = some (smallB ⟨0, p⟩ 0 k) := by
  unfold m_assessorlaw27_small
  rw [small_eq _ _ _ hl, bsm]
theorem psmall_ok {p : List (List Int)} {k : Int} (h : smallB ⟨0, p⟩ 0 k = true) : (p.length : Int) ≤ k ∧ ∀ c ∈ p, c.length ≤ 30 := (small_ok h).2
def goodB (val c : List Int) : Bool := c.any (fun y => decide (gv val y = some y)) || c.any fun y => c.any fun z => decide (y ≠ z) && decide (gv val y = some 0) && decide (gv val z = some 0)
theorem good_of {val c : List Int} (h : goodB val c = true) : Good val c := by
  unfold goodB at h
  rw [Bool.or_eq_true, List.any_eq_true, List.any_eq_true] at h
  rcases h with ⟨y, hy, h⟩ | ⟨y, hy, h⟩
  · exact Or.inl ⟨y, hy, by simpa using h⟩
  · rw [List.any_eq_true] at h
    obtain ⟨z, hz, h⟩ := h
    simp only [Bool.and_eq_true, decide_eq_true_eq] at h
    exact Or.inr ⟨y, hy, z, hz, h.1.1, h.1.2, h.2⟩
theorem vo2 {F : List (List Int)} {S : List Int} {a b : Int} (ha : a = 0 ∨ ((a = 1 ∨ a = -1) ∧ UP F S a)) (hb : b = 0 ∨ ((b = 2 ∨ b = -2) ∧ UP F S b)) : ValOk 2 F S [0, a, b] := by
  refine ⟨rfl, fun v x h => ?_, fun v x h h0 => ?_⟩
  · match v, h with
    | 0, h => simp at h; exact Or.inl h.symm
    | 1, h =>
      simp at h; subst h
      rcases ha with rfl | ⟨rfl | rfl, _⟩
      · exact Or.inl rfl
      · exact Or.inr ⟨by decide, rfl⟩
      · exact Or.inr ⟨by decide, rfl⟩
    | 2, h =>
      simp at h; subst h
      rcases hb with rfl | ⟨rfl | rfl, _⟩
      · exact Or.inl rfl
      · exact Or.inr ⟨by decide, rfl⟩
      · exact Or.inr ⟨by decide, rfl⟩
    | n + 3, h => simp at h
  · match v, h with
    | 0, h => simp at h; exact absurd h.symm h0
    | 1, h => simp at h; subst h; exact (ha.resolve_left h0).2
    | 2, h => simp at h; subst h; exact (hb.resolve_left h0).2
    | n + 3, h => simp at h
theorem nofail {F : List (List Int)} {S val : List Int} (hL : Lits 2 F S) (hv : ValOk 2 F S val) (hs : ∀ l ∈ S, gv val l = some l) (hg : F.all (goodB val) = true) : ¬ Fails F S :=
  closed_ok hL hv hs fun c hc => good_of (List.all_eq_true.1 hg c hc)
def exF : List (List Int) := [[1, 2], [1, -2], [-1, 2], [-1, -2]]
def exP : List (List Int) := [[1], []]
theorem ex_valid : validB ⟨2, exF⟩ = true := by decide +kernel
theorem ex_prov : provB 2 exP = true := by decide +kernel
theorem ex_flen : FLen exF := ⟨by decide, by decide⟩
theorem two {F : List (List Int)} {S : List Int} {x y : Int} {c : List Int} (hc : c ∈ F) (e : c = [x, y]) (h : UP F S (-x)) : UP F S y :=
  .unit hc (by rw [e]; simp) fun z hz hne => by
    rw [e] at hz
    simp only [List.mem_cons, List.not_mem_nil, or_false] at hz
    rcases hz with rfl | rfl
    · exact h
    · exact absurd rfl hne
theorem one_up {F : List (List Int)} {S : List Int} {x : Int} (hc : [x] ∈ F) : UP F S x := .unit hc (by simp) fun z hz hne => absurd (List.mem_singleton.1 hz) hne
theorem ex_f1 : Fails exF (negs [1]) := by
  have h1 : UP exF (negs [1]) (-1) := .start (by decide)
  have h2 : UP exF (negs [1]) 2 := two (c := [1, 2]) (by decide) rfl h1
  refine Or.inr ⟨[1, -2], by decide, fun y hy => ?_⟩
  simp only [List.mem_cons, List.not_mem_nil, or_false] at hy
  rcases hy with rfl | rfl
  · exact h1
  · exact h2
theorem ex_f2 : Fails (exF ++ [[1]]) (negs []) := by
  have h1 : UP (exF ++ [[1]]) (negs []) 1 := one_up (by decide)
  have h2 : UP (exF ++ [[1]]) (negs []) 2 := two (c := [-1, 2]) (x := -1) (by decide) rfl h1
  refine Or.inr ⟨[-1, -2], by decide, fun y hy => ?_⟩
  simp only [List.mem_cons, List.not_mem_nil, or_false] at hy
  rcases hy with rfl | rfl
  · exact h1
  · exact h2
theorem ex_acc : accB exF exP = true := accB_iff.2 ⟨rfl, ex_f1, ex_f2, trivial⟩
theorem ex_chk : chkB ⟨2, exF⟩ exP = true := by rw [chk_acc ex_valid ex_prov]; exact ex_acc
theorem acc_no {F p : List (List Int)} (h : ¬ accP F p) : accB F p = false := by
  cases hb : accB F p with
  | false => rfl
  | true => exact absurd (accB_iff.1 hb).2 h
theorem ex_n0 : accB exF [[]] = false := acc_no fun h =>
  nofail (F := exF) (S := negs []) (val := [0, 0, 0]) ⟨by decide, by decide, by decide, by decide⟩ (vo2 (Or.inl rfl) (Or.inl rfl)) (by decide) (by decide) h.1
theorem ex_c3 : accB (exF.eraseIdx 3) exP = false := acc_no fun h => by
  have h1 : UP (exF.eraseIdx 3 ++ [[1]]) (negs []) 1 := one_up (by decide)
  have h2 : UP (exF.eraseIdx 3 ++ [[1]]) (negs []) 2 := two (c := [-1, 2]) (x := -1) (by decide) rfl h1
  exact nofail (F := exF.eraseIdx 3 ++ [[1]]) (S := negs []) (val := [0, 1, 2]) ⟨by decide, by decide, by decide, by decide⟩ (vo2 (Or.inr ⟨Or.inl rfl, h1⟩) (Or.inr ⟨Or.inl rfl, h2⟩)) (by decide) (by decide) h.2.1
theorem ex_c2 : accB (exF.eraseIdx 2) exP = false := acc_no fun h => by
  have h1 : UP (exF.eraseIdx 2 ++ [[1]]) (negs []) 1 := one_up (by decide)
  have h2 : UP (exF.eraseIdx 2 ++ [[1]]) (negs []) (-2) := two (c := [-1, -2]) (x := -1) (by decide) rfl h1
  exact nofail (F := exF.eraseIdx 2 ++ [[1]]) (S := negs []) (val := [0, 1, -2]) ⟨by decide, by decide, by decide, by decide⟩ (vo2 (Or.inr ⟨Or.inl rfl, h1⟩) (Or.inr ⟨Or.inr rfl, h2⟩)) (by decide) (by decide) h.2.1
theorem ex_c1 : accB (exF.eraseIdx 1) exP = false := acc_no fun h => by
  have h1 : UP (exF.eraseIdx 1) (negs [1]) (-1) := .start (by decide)
  have h2 : UP (exF.eraseIdx 1) (negs [1]) 2 := two (c := [1, 2]) (by decide) rfl h1
  exact nofail (F := exF.eraseIdx 1) (S := negs [1]) (val := [0, -1, 2]) ⟨by decide, by decide, by decide, by decide⟩ (vo2 (Or.inr ⟨Or.inr rfl, h1⟩) (Or.inr ⟨Or.inl rfl, h2⟩)) (by decide) (by decide) h.1
theorem ex_c0 : accB (exF.eraseIdx 0) exP = false := acc_no fun h => by
  have h1 : UP (exF.eraseIdx 0) (negs [1]) (-1) := .start (by decide)
  have h2 : UP (exF.eraseIdx 0) (negs [1]) (-2) := two (c := [1, -2]) (by decide) rfl h1
  exact nofail (F := exF.eraseIdx 0) (S := negs [1]) (val := [0, -1, -2]) ⟨by decide, by decide, by decide, by decide⟩ (vo2 (Or.inr ⟨Or.inr rfl, h1⟩) (Or.inr ⟨Or.inr rfl, h2⟩)) (by decide) (by decide) h.1
theorem ex_trim : trimR ⟨2, exF⟩ exP = (exP, 0) := by
  unfold trimR
  rw [if_pos ex_chk]
  show (trimF (accB exF) 1 exP, (0 : Int)) = (exP, 0)
  unfold trimF trimF
  rw [show exP.eraseIdx 0 = [[]] from rfl, ex_n0]
  rfl
theorem ex_core : coreR ⟨2, exF⟩ exP = ([0, 1, 2, 3], 0) := by
  unfold coreR
  rw [if_pos ex_chk]
  show (coreF (fun F => accB F exP) 4 [] exF, (0 : Int)) = _
  unfold coreF
  rw [ex_c3, if_neg (by decide)]
  unfold coreF
  rw [ex_c2, if_neg (by decide)]
  unfold coreF
  rw [ex_c1, if_neg (by decide)]
  unfold coreF
  rw [ex_c0, if_neg (by decide)]
  rfl
theorem itoa_one : itoa 1 = [49] := by unfold itoa; rw [if_neg (by decide), show (1 : Int).toNat = 1 from rfl, dd_small (by decide)]; rfl
theorem ex_lines : exP.flatMap lineL = [49, 32, 48, 10, 48, 10] := by simp [exP, lineL, litL, itoa_one]
theorem ex_p65 : provB 65536 exP = true := by decide +kernel
theorem awake_true : m_assessorlaw27_awake = some true := by
  have hpl : PLen exP := ⟨by decide, by decide⟩
  have t1 : m_proof_Trim ⟨2, exF⟩ exP = some (exP, 0) := by rw [trim_prog ex_flen hpl, ex_trim]
  have t2 : m_proof_Core ⟨2, exF⟩ exP = some ([0, 1, 2, 3], 0) := by rw [core_prog ex_flen hpl, ex_core]
  have t3 : m_proof_Follows ⟨2, exF⟩ [1] = some (true, 0) := by
    obtain ⟨r, hr, h⟩ := follows_prog (f := ⟨2, exF⟩) (q := [1]) ex_flen (by decide)
    rw [if_pos ⟨ex_valid, by decide +kernel⟩] at h
    rw [hr]
    obtain ⟨a, b⟩ := r
    have h1 : b = 0 := h.1
    have h2 : a = true := h.2.2 ex_f1
    rw [h1, h2]
  have t4 : m_proof_Parse (ByteArray.mk #[49, 32, 48, 10, 48, 10]) = some (exP, 0) := by
    obtain ⟨r, hr, h⟩ := parse_prog (l := [49, 32, 48, 10, 48, 10]) (by decide)
    have : TSpec [49, 32, 48, 10, 48, 10] (exP, 0) := Or.inl ⟨exP, ex_p65, ex_lines.symm, rfl⟩
    rw [h.eq this] at hr
    exact hr
  have t5 : m_proof_Check ⟨2, exF⟩ exP = some true := by rw [check_ok ex_flen hpl, ex_chk]
  have t6 : m_proof_Check ⟨2, exF⟩ [[]] = some false := by
    rw [check_ok ex_flen ⟨by decide, by decide⟩, chk_acc ex_valid (by decide +kernel)]
    exact congrArg some ex_n0
  have t7 : sub exP 1 (exP.length : Int) = some [[]] := by rw [sub_ok (by decide) (by decide) (by decide)]; rfl
  have t8 : m_assessorref26_Clauses exP exP = some true := by rw [clauses_equal _ _ ⟨by decide, by decide⟩]; simp
  have t9 : m_slices_Equal_int_int_ [0, 1, 2, 3] [0, 1, 2, 3] = some true := by rw [lists_equal _ _ (by decide)]; simp
  have t10 : m_proof_Format exP = some (ByteArray.mk #[49, 32, 48, 10, 48, 10]) := by
    rw [fmt_prog ⟨by decide, by decide⟩]
    unfold fmtP
    rw [if_pos ex_p65, ex_lines]; rfl
  unfold m_assessorlaw27_awake
  rw [show (Formula.mk 2 ([([1, 2] : List Int), ([1, (-2)] : List Int), ([(-1), 2] : List Int), ([(-1), (-2)] : List Int)])) = ⟨2, exF⟩ from rfl, show ([([1] : List Int), ([] : List Int)] : List (List Int)) = exP from rfl]
  rw [t1, bsm, t2, bsm, t3, bsm, t4, bsm, t5, bsm, if_pos rfl, t7, bsm, t6, bsm, bsm, if_pos (by decide), t8, bsm, bsm, if_pos (by decide), t9, bsm, bsm, if_pos (by decide), bsm, if_pos rfl, t10, bsm, bsm]
  simp
end Go.Proofs.YtfajmelamonolaaDoor

/- Four laws of proofs: Follows, Checks, Trims, Texts. -/
set_option linter.unusedVariables false
set_option linter.unusedSimpArgs false
namespace Go.Proofs.YtfajmelamonolaaDoor
open Go.RowKit Go.Lib
theorem law_ProofTrims (p0 : Formula) (p1 : (List (List Int))) (h0 : FWf p0) (h1 : LW (LW I64) p1) : m_assessorlaw27_ProofTrims p0 p1 = some true := by
  unfold m_assessorlaw27_ProofTrims
  rw [awake_true, bsm, if_neg (by decide), small_eq _ _ _ h0.2.1, bsm]
  cases hs : smallB p0 20 20 with
  | false => simp
  | true =>
    rw [if_neg (by simp), psmall_eq _ _ h1.1, bsm, bsm]
    cases hp : smallB ⟨0, p1⟩ 0 20 with
    | false => simp
    | true =>
      have hpo := psmall_ok hp
      have hpl : PLen p1 := ⟨by omega, fun c hc => by have := hpo.2 c hc; omega⟩
      have ht : PLen (trimR p0 p1).1 := by
        unfold trimR
        split
        · exact trimF_len (g := accB p0.clauses) (P := PLen) (fun q i h => h.erase i) _ p1 hpl
        · exact ⟨by simp, by simp⟩
      have hcl : (coreR p0 p1).1.length ≤ 9223372036854775807 := by
        have key : ∀ (g : List (List Int) → Bool) (i : Nat) (o : List Int) (F : List (List Int)), (coreF g i o F).length ≤ o.length + i := fun g i => by
          induction i with
          | zero => intro o F; simp [coreF]
          | succ i ih =>
            intro o F
            unfold coreF
            split
            · have := ih o (F.eraseIdx i); omega
            · have := ih ((i : Int) :: o) F; simp at this; omega
        unfold coreR
        have := (small_ok hs).2.1
        split
        · have := key (fun F => accB F p1) p0.clauses.length [] p0.clauses
          simp only [List.length_nil] at this
          show (coreF _ _ _ _).length ≤ _
          omega
        · simp
      rw [if_neg (by simp), trim_prog h0.flen hpl, bsm, trim_ref h0.flen hpl, bsm, core_prog h0.flen hpl, bsm, core_ref h0.flen hpl, bsm, clauses_equal _ _ ⟨by have := ht.1; omega, fun c hc => by have := ht.2 c hc; omega⟩, bsm]
      rw [if_pos (by simp), lists_equal _ _ hcl, bsm, bsm]
      simp
end Go.Proofs.YtfajmelamonolaaDoor
