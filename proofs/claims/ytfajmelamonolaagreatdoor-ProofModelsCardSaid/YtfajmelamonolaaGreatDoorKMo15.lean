/- The laws of proofs: the law's own examples, and that program and reference agree; soundness. -/
import Derived.Test.YtfajmelamonolaaGreatDoorKMo14
import Derived.Test.YtfajmelamonolaaGreatDoorKMo3
import Derived.Test.YtfajmelamonolaaGreatDoorKMo4
import Derived.Test.YtfajmelamonolaaGreatDoorKMo13
set_option linter.unusedVariables false
set_option linter.unusedSimpArgs false
namespace Go.Proofs.YtfajmelamonolaaGreatDoor
open Go.RowKit Go.Lib
theorem FWf.flen {f : Formula} (h : FWf f) : FLen f.clauses := ⟨h.2.1, fun c hc => (h.2.2 c hc).1⟩
theorem small_ok {f : Formula} {v n : Int} (h : smallB f v n = true) : f.vars ≤ v ∧ (f.clauses.length : Int) ≤ n ∧ ∀ c ∈ f.clauses, c.length ≤ 30 := by
  unfold smallB at h
  simp only [Bool.and_eq_true, decide_eq_true_eq, List.all_eq_true] at h
  exact ⟨h.1.2, h.2, h.1.1⟩
def goodB (val c : List Int) : Bool := c.any (fun y => decide (gv val y = some y)) || c.any fun y => c.any fun z => decide (y ≠ z) && decide (gv val y = some 0) && decide (gv val z = some 0)
theorem good_of {val c : List Int} (h : goodB val c = true) : Good val c := by
  unfold goodB at h
  rw [Bool.or_eq_true, List.any_eq_true, List.any_eq_true] at h
  rcases h with ⟨y, hy, h⟩ | ⟨y, hy, h⟩
  · exact Or.inl ⟨y, hy, by simpa using h⟩
  · rw [List.any_eq_true] at h
    obtain ⟨z, hz, h⟩ := h
    simp only [Bool.and_eq_true, decide_eq_true_eq] at h
    exact Or.inr ⟨y, hy, z, hz, h.1.1, h.1.2, h.2⟩
theorem vo2 {F : List (List Int)} {S : List Int} {a b : Int} (ha : a = 0 ∨ ((a = 1 ∨ a = -1) ∧ UP F S a)) (hb : b = 0 ∨ ((b = 2 ∨ b = -2) ∧ UP F S b)) : ValOk 2 F S [0, a, b] := by
  refine ⟨rfl, fun v x h => ?_, fun v x h h0 => ?_⟩
  · match v, h with
    | 0, h => simp at h; exact Or.inl h.symm
    | 1, h =>
      simp at h; subst h
      rcases ha with rfl | ⟨rfl | rfl, _⟩
      · exact Or.inl rfl
      · exact Or.inr ⟨by decide, rfl⟩
      · exact Or.inr ⟨by decide, rfl⟩
    | 2, h =>
      simp at h; subst h
      rcases hb with rfl | ⟨rfl | rfl, _⟩
      · exact Or.inl rfl
      · exact Or.inr ⟨by decide, rfl⟩
      · exact Or.inr ⟨by decide, rfl⟩
    | n + 3, h => simp at h
  · match v, h with
    | 0, h => simp at h; exact absurd h.symm h0
    | 1, h => simp at h; subst h; exact (ha.resolve_left h0).2
    | 2, h => simp at h; subst h; exact (hb.resolve_left h0).2
    | n + 3, h => simp at h
theorem nofail {F : List (List Int)} {S val : List Int} (hL : Lits 2 F S) (hv : ValOk 2 F S val) (hs : ∀ l ∈ S, gv val l = some l) (hg : F.all (goodB val) = true) : ¬ Fails F S :=
  closed_ok hL hv hs fun c hc => good_of (List.all_eq_true.1 hg c hc)
def exF : List (List Int) := [[1, 2], [1, -2], [-1, 2], [-1, -2]]
def exP : List (List Int) := [[1], []]
theorem ex_valid : validB ⟨2, exF⟩ = true := by decide +kernel
theorem ex_prov : provB 2 exP = true := by decide +kernel
theorem ex_flen : FLen exF := ⟨by decide, by decide⟩
theorem two {F : List (List Int)} {S : List Int} {x y : Int} {c : List Int} (hc : c ∈ F) (e : c = [x, y]) (h : UP F S (-x)) : UP F S y :=
  .unit hc (by rw [e]; simp) fun z hz hne => by
    rw [e] at hz
    simp only [List.mem_cons, List.not_mem_nil, or_false] at hz
    rcases hz with rfl | rfl
    · exact h
    · exact absurd rfl hne
theorem one_up {F : List (List Int)} {S : List Int} {x : Int} (hc : [x] ∈ F) : UP F S x := .unit hc (by simp) fun z hz hne => absurd (List.mem_singleton.1 hz) hne
theorem ex_f1 : Fails exF (negs [1]) := by
  have h1 : UP exF (negs [1]) (-1) := .start (by decide)
  have h2 : UP exF (negs [1]) 2 := two (c := [1, 2]) (by decide) rfl h1
  refine Or.inr ⟨[1, -2], by decide, fun y hy => ?_⟩
  simp only [List.mem_cons, List.not_mem_nil, or_false] at hy
  rcases hy with rfl | rfl
  · exact h1
  · exact h2
theorem ex_f2 : Fails (exF ++ [[1]]) (negs []) := by
  have h1 : UP (exF ++ [[1]]) (negs []) 1 := one_up (by decide)
  have h2 : UP (exF ++ [[1]]) (negs []) 2 := two (c := [-1, 2]) (x := -1) (by decide) rfl h1
  refine Or.inr ⟨[-1, -2], by decide, fun y hy => ?_⟩
  simp only [List.mem_cons, List.not_mem_nil, or_false] at hy
  rcases hy with rfl | rfl
  · exact h1
  · exact h2
theorem ex_acc : accB exF exP = true := accB_iff.2 ⟨rfl, ex_f1, ex_f2, trivial⟩
theorem ex_chk : chkB ⟨2, exF⟩ exP = true := by rw [chk_acc ex_valid ex_prov]; exact ex_acc
theorem acc_no {F p : List (List Int)} (h : ¬ accP F p) : accB F p = false := by
  cases hb : accB F p with
  | false => rfl
  | true => exact absurd (accB_iff.1 hb).2 h
theorem ex_n0 : accB exF [[]] = false := acc_no fun h =>
  nofail (F := exF) (S := negs []) (val := [0, 0, 0]) ⟨by decide, by decide, by decide, by decide⟩ (vo2 (Or.inl rfl) (Or.inl rfl)) (by decide) (by decide) h.1
theorem ex_c3 : accB (exF.eraseIdx 3) exP = false := acc_no fun h => by
  have h1 : UP (exF.eraseIdx 3 ++ [[1]]) (negs []) 1 := one_up (by decide)
  have h2 : UP (exF.eraseIdx 3 ++ [[1]]) (negs []) 2 := two (c := [-1, 2]) (x := -1) (by decide) rfl h1
  exact nofail (F := exF.eraseIdx 3 ++ [[1]]) (S := negs []) (val := [0, 1, 2]) ⟨by decide, by decide, by decide, by decide⟩ (vo2 (Or.inr ⟨Or.inl rfl, h1⟩) (Or.inr ⟨Or.inl rfl, h2⟩)) (by decide) (by decide) h.2.1
theorem ex_c2 : accB (exF.eraseIdx 2) exP = false := acc_no fun h => by
  have h1 : UP (exF.eraseIdx 2 ++ [[1]]) (negs []) 1 := one_up (by decide)
  have h2 : UP (exF.eraseIdx 2 ++ [[1]]) (negs []) (-2) := two (c := [-1, -2]) (x := -1) (by decide) rfl h1
  exact nofail (F := exF.eraseIdx 2 ++ [[1]]) (S := negs []) (val := [0, 1, -2]) ⟨by decide, by decide, by decide, by decide⟩ (vo2 (Or.inr ⟨Or.inl rfl, h1⟩) (Or.inr ⟨Or.inr rfl, h2⟩)) (by decide) (by decide) h.2.1
theorem ex_c1 : accB (exF.eraseIdx 1) exP = false := acc_no fun h => by
  have h1 : UP (exF.eraseIdx 1) (negs [1]) (-1) := .start (by decide)
  have h2 : UP (exF.eraseIdx 1) (negs [1]) 2 := two (c := [1, 2]) (by decide) rfl h1
  exact nofail (F := exF.eraseIdx 1) (S := negs [1]) (val := [0, -1, 2]) ⟨by decide, by decide, by decide, by decide⟩ (vo2 (Or.inr ⟨Or.inr rfl, h1⟩) (Or.inr ⟨Or.inl rfl, h2⟩)) (by decide) (by decide) h.1
theorem ex_c0 : accB (exF.eraseIdx 0) exP = false := acc_no fun h => by
  have h1 : UP (exF.eraseIdx 0) (negs [1]) (-1) := .start (by decide)
  have h2 : UP (exF.eraseIdx 0) (negs [1]) (-2) := two (c := [1, -2]) (by decide) rfl h1
  exact nofail (F := exF.eraseIdx 0) (S := negs [1]) (val := [0, -1, -2]) ⟨by decide, by decide, by decide, by decide⟩ (vo2 (Or.inr ⟨Or.inr rfl, h1⟩) (Or.inr ⟨Or.inr rfl, h2⟩)) (by decide) (by decide) h.1
theorem ex_trim : trimR ⟨2, exF⟩ exP = (exP, 0) := by
  unfold trimR
  rw [if_pos ex_chk]
  show (trimF (accB exF) 1 exP, (0 : Int)) = (exP, 0)
  unfold trimF trimF
  rw [show exP.eraseIdx 0 = [[]] from rfl, ex_n0]
  rfl
theorem ex_core : coreR ⟨2, exF⟩ exP = ([0, 1, 2, 3], 0) := by
  unfold coreR
  rw [if_pos ex_chk]
  show (coreF (fun F => accB F exP) 4 [] exF, (0 : Int)) = _
  unfold coreF
  rw [ex_c3, if_neg (by decide)]
  unfold coreF
  rw [ex_c2, if_neg (by decide)]
  unfold coreF
  rw [ex_c1, if_neg (by decide)]
  unfold coreF
  rw [ex_c0, if_neg (by decide)]
  rfl
theorem itoa_one : itoa 1 = [49] := by unfold itoa; rw [if_neg (by decide), show (1 : Int).toNat = 1 from rfl, dd_small (by decide)]; rfl
theorem ex_lines : exP.flatMap lineL = [49, 32, 48, 10, 48, 10] := by simp [exP, lineL, litL, itoa_one]
theorem ex_p65 : provB 65536 exP = true := by decide +kernel
theorem awake_true : m_assessorlaw27_awake = some true := by
  have hpl : PLen exP := ⟨by decide, by decide⟩
  have t1 : m_proof_Trim ⟨2, exF⟩ exP = some (exP, 0) := by rw [trim_prog ex_flen hpl, ex_trim]
  have t2 : m_proof_Core ⟨2, exF⟩ exP = some ([0, 1, 2, 3], 0) := by rw [core_prog ex_flen hpl, ex_core]
  have t3 : m_proof_Follows ⟨2, exF⟩ [1] = some (true, 0) := by
    obtain ⟨r, hr, h⟩ := follows_prog (f := ⟨2, exF⟩) (q := [1]) ex_flen (by decide)
    rw [if_pos ⟨ex_valid, by decide +kernel⟩] at h
    rw [hr]
    obtain ⟨a, b⟩ := r
    have h1 : b = 0 := h.1
    have h2 : a = true := h.2.2 ex_f1
    rw [h1, h2]
  have t4 : m_proof_Parse (ByteArray.mk #[49, 32, 48, 10, 48, 10]) = some (exP, 0) := by
    obtain ⟨r, hr, h⟩ := parse_prog (l := [49, 32, 48, 10, 48, 10]) (by decide)
    have : TSpec [49, 32, 48, 10, 48, 10] (exP, 0) := Or.inl ⟨exP, ex_p65, ex_lines.symm, rfl⟩
    rw [h.eq this] at hr
    exact hr
  have t5 : m_proof_Check ⟨2, exF⟩ exP = some true := by rw [check_ok ex_flen hpl, ex_chk]
  have t6 : m_proof_Check ⟨2, exF⟩ [[]] = some false := by
    rw [check_ok ex_flen ⟨by decide, by decide⟩, chk_acc ex_valid (by decide +kernel)]
    exact congrArg some ex_n0
  have t7 : sub exP 1 (exP.length : Int) = some [[]] := by rw [sub_ok (by decide) (by decide) (by decide)]; rfl
  have t8 : m_assessorref26_Clauses exP exP = some true := by rw [clauses_equal _ _ ⟨by decide, by decide⟩]; simp
  have t9 : m_slices_Equal_int_int_ [0, 1, 2, 3] [0, 1, 2, 3] = some true := by rw [lists_equal _ _ (by decide)]; simp
  have t10 : m_proof_Format exP = some (ByteArray.mk #[49, 32, 48, 10, 48, 10]) := by
    rw [fmt_prog ⟨by decide, by decide⟩]
    unfold fmtP
    rw [if_pos ex_p65, ex_lines]; rfl
  unfold m_assessorlaw27_awake
  rw [show (Formula.mk 2 ([([1, 2] : List Int), ([1, (-2)] : List Int), ([(-1), 2] : List Int), ([(-1), (-2)] : List Int)])) = ⟨2, exF⟩ from rfl, show ([([1] : List Int), ([] : List Int)] : List (List Int)) = exP from rfl]
  rw [t1, bsm, t2, bsm, t3, bsm, t4, bsm, t5, bsm, if_pos rfl, t7, bsm, t6, bsm, bsm, if_pos (by decide), t8, bsm, bsm, if_pos (by decide), t9, bsm, bsm, if_pos (by decide), bsm, if_pos rfl, t10, bsm, bsm]
  simp
end Go.Proofs.YtfajmelamonolaaGreatDoor

/- Proofs are sound: a formula for which a proof is accepted holds for no model. -/
set_option linter.unusedVariables false
set_option linter.unusedSimpArgs false
namespace Go.Proofs.YtfajmelamonolaaGreatDoor
open Go.RowKit Go.Lib
def MdL (m : List Int) : Prop := ∀ (i : Nat) x, m[i]? = some x → x = (i : Int) + 1 ∨ x = -((i : Int) + 1)
theorem MdL.at {m : List Int} (h : MdL m) {x : Int} (hx : x ∈ m) : x ≠ 0 ∧ m[(vr x - 1).toNat]? = some x := by
  obtain ⟨i, hi⟩ := List.getElem?_of_mem hx
  have h1 := h i x hi
  have h2 : vr x = (i : Int) + 1 := by unfold vr; omega
  refine ⟨by omega, ?_⟩
  rw [h2, show ((i : Int) + 1 - 1).toNat = i by omega]; exact hi
theorem MdL.opp {m : List Int} (h : MdL m) {x : Int} (hx : x ∈ m) (hn : -x ∈ m) : False := by
  have h1 := h.at hx
  have h2 := (h.at hn).2
  rw [vr_neg, h1.2] at h2
  simp only [Option.some.injEq] at h2
  omega
theorem mdF_at : ∀ {m : List Int} {i : Int}, mdF i m = true → ∀ (k : Nat) x, m[k]? = some x → x = i + k ∨ x = -(i + k)
  | [], _, _, k, x, hx => by simp at hx
  | a :: m, i, h, 0, x, hx => by
    unfold mdF at h
    simp only [Bool.and_eq_true, Bool.or_eq_true, decide_eq_true_eq] at h
    simp only [List.getElem?_cons_zero, Option.some.injEq] at hx
    omega
  | a :: m, i, h, k + 1, x, hx => by
    unfold mdF at h
    simp only [Bool.and_eq_true] at h
    rw [List.getElem?_cons_succ] at hx
    have := mdF_at h.2 k x hx
    omega
theorem MdL.of {m : List Int} (h : mdF 1 m = true) : MdL m := fun i x hx => by
  have := mdF_at h i x hx
  omega
theorem sat_mem {m c : List Int} (h : satB m c = true) : ∃ y ∈ c, y ∈ m := by
  unfold satB at h
  rw [List.any_eq_true] at h
  obtain ⟨y, hy, h⟩ := h
  exact ⟨y, hy, mem_get (by simpa using h)⟩
theorem model_up {F : List (List Int)} {S m : List Int} (hm : MdL m) (hS : ∀ x ∈ S, x ∈ m) (hF : ∀ c ∈ F, satB m c = true) : ∀ {x}, UP F S x → x ∈ m := by
  intro x hx
  induction hx with
  | start h => exact hS _ h
  | @unit c x hc hxc _ ih =>
    obtain ⟨y, hy, hym⟩ := sat_mem (hF c hc)
    by_cases e : y = x
    · rw [← e]; exact hym
    · exact absurd (ih y hy e) (fun hn => hm.opp hym hn)
theorem model_ok {F : List (List Int)} {S m : List Int} (hm : MdL m) (hS : ∀ x ∈ S, x ∈ m) (hF : ∀ c ∈ F, satB m c = true) : ¬ Fails F S := by
  rintro (⟨l, h1, h2⟩ | ⟨c, hc, hy⟩)
  · exact hm.opp (model_up hm hS hF h1) (model_up hm hS hF h2)
  · obtain ⟨y, hyc, hym⟩ := sat_mem (hF c hc)
    exact hm.opp hym (model_up hm hS hF (hy y hyc))
theorem fails_sat {n : Int} {F : List (List Int)} {m c : List Int} (hm : MdL m) (hn : (m.length : Int) = n) (hF : ∀ c ∈ F, satB m c = true) (hc : ClOk n c) (h : Fails F (negs c)) : satB m c = true := by
  cases hs : satB m c with
  | true => rfl
  | false =>
    refine absurd h (model_ok hm (fun x hx => ?_) hF)
    have hx2 := mem_negs' hx
    obtain ⟨h1, h2⟩ := hc.1 _ hx2
    rw [vr_neg] at h2
    have h3 := vr_nn x
    have h4 : vr x ≠ 0 := fun e => h1 (by have := vr_zero.1 e; omega)
    obtain ⟨y, hy⟩ := get_of_lt (show (vr x - 1).toNat < m.length by omega)
    have h5 := hm _ y hy
    have h6 : y = x ∨ y = -x := by
      have := vr_cases x
      omega
    rcases h6 with rfl | rfl
    · exact mem_get hy
    · unfold satB at hs
      rw [List.any_eq_false] at hs
      exact absurd (by rw [vr_neg, hy]; simp) (hs (-x) hx2)
theorem model_ex {v b : Int} (hv : 0 ≤ v ∧ v ≤ 65536) : ∃ m, m_assessorref27_Model v b = some m ∧ (m.length : Int) = v ∧ MdL m := by
  unfold m_assessorref27_Model
  obtain ⟨m, hm, h1, h2⟩ := loopN (body := fun s : Int × List Int => m_assessorref27_Model_lp1 v b s.1 s.2) (s0 := ((1 : Int), ([] : List Int))) v.toNat (fun k t => (((k + 1 : Nat) : Int), t)) (fun k t => t.length = k ∧ MdL t) (fun m => (m.length : Int) = v ∧ MdL m) (t0 := []) rfl ⟨rfl, fun i x hx => by simp at hx⟩ (by
      rintro k t hk ⟨rfl, h2⟩
      have e0 : (decide (((t.length + 1 : Nat) : Int) ≤ v)) = true := by simp only [decide_eq_true_eq]; omega
      have e1 : inK .i64 (v - ((t.length + 1 : Nat) : Int)) = some (v - ((t.length + 1 : Nat) : Int)) := inK_eq ⟨by omega, by omega⟩
      have e2 : ∃ x, shrK .i64 b (v - ((t.length + 1 : Nat) : Int)) = some x := by unfold shrK; rw [if_neg (by omega)]; exact ⟨_, rfl⟩
      obtain ⟨x, e2⟩ := e2
      have e3 : remK x 2 = some (x.tmod 2) := by unfold remK; rw [if_pos (by decide)]
      have e4 : inK .i64 (0 - ((t.length + 1 : Nat) : Int)) = some (-((t.length + 1 : Nat) : Int)) := inK_at (by omega) ⟨by omega, by omega⟩
      have e5 : inK .i64 (((t.length + 1 : Nat) : Int) + 1) = some ((t.length + 1 + 1 : Nat) : Int) := inK_at rfl ⟨by omega, by omega⟩
      have key : ∀ y : Int, (y = ((t.length + 1 : Nat) : Int) ∨ y = -((t.length + 1 : Nat) : Int)) → (t ++ [y]).length = t.length + 1 ∧ MdL (t ++ [y]) := fun y hy => by
        refine ⟨by simp, fun i x hx => ?_⟩
        rw [List.getElem?_append] at hx
        split at hx
        · exact h2 i x hx
        · rename_i hi
          rcases Nat.lt_or_ge (i - t.length) 1 with h | h
          · have : i = t.length := by omega
            subst this
            simp only [Nat.sub_self, List.getElem?_cons_zero, Option.some.injEq] at hx
            subst hx
            omega
          · rw [List.getElem?_eq_none (by simpa using h)] at hx; cases hx
      by_cases hx : x.tmod 2 = 1
      · refine Or.inl ⟨t ++ [((t.length + 1 : Nat) : Int)], ?_, key _ (Or.inl rfl)⟩
        simp only [m_assessorref27_Model_lp1, e0, if_true, e1, bsm, e2, e3, hx, decide_true, app_ok (show t.length + [((t.length + 1 : Nat) : Int)].length ≤ 4294967296 by simp; omega), e5]
      · refine Or.inl ⟨t ++ [-((t.length + 1 : Nat) : Int)], ?_, key _ (Or.inr rfl)⟩
        simp only [m_assessorref27_Model_lp1, e0, if_true, e1, bsm, e2, e3, hx, decide_false, Bool.false_eq_true, if_false, e4, app_ok (show t.length + [-((t.length + 1 : Nat) : Int)].length ≤ 4294967296 by simp; omega), e5]) (by
      rintro t ⟨h1, h2⟩
      have e0 : ¬ (decide (((v.toNat + 1 : Nat) : Int) ≤ v)) = true := by simp only [decide_eq_true_eq]; omega
      exact ⟨t, by simp only [m_assessorref27_Model_lp1, e0, if_false, Bool.false_eq_true], by omega, h2⟩)
  exact ⟨m, by rw [hm, bsm], h1, h2⟩
theorem shl_ok {v : Int} (hv : 0 ≤ v ∧ v ≤ 8) : ∃ x, shlK .i64 1 v = some x ∧ x ≤ 256 := by
  unfold shlK
  rw [if_neg (by omega)]
  refine ⟨_, rfl, ?_⟩
  have key : ∀ k : Nat, k < 9 → IntKind.wrap .i64 (1 * 2 ^ (min k (IntKind.bits .i64))) ≤ 256 := by decide
  exact key v.toNat (by omega)
end Go.Proofs.YtfajmelamonolaaGreatDoor

/- Normal: the normal form of a clause, by insertion (the reference) and by sorting (the program). -/
set_option linter.unusedVariables false
set_option linter.unusedSimpArgs false
namespace Go.Proofs.YtfajmelamonolaaGreatDoor
open Go.RowKit
def insF (x : Int) : List Int → Option (List Int)
  | [] => some [x]
  | y :: r => if vr y < vr x then (insF x r).map (y :: ·) else if y = -x then none else if y = x then some (y :: r) else some (x :: y :: r)
def rngB (x : Int) : Bool := decide (x ≠ 0) && decide (-1073741824 ≤ x) && decide (x ≤ 1073741824)
def nrm : List Int → List Int → Option (List Int)
  | acc, [] => some acc
  | acc, x :: l => if rngB x = true then (insF x acc).bind fun o => nrm o l else none
def normF (l : List Int) : List Int × Bool := match nrm [] l with
  | some o => (o, true)
  | none => ([], false)
def Inc (l : List Int) : Prop := l.Pairwise fun x y => vr x < vr y
theorem insF_spec {x : Int} (hx : x ≠ 0) : ∀ {acc : List Int}, Inc acc → match insF x acc with
    | some o => Inc o ∧ (∀ z, z ∈ o ↔ z = x ∨ z ∈ acc) ∧ o.length ≤ acc.length + 1
    | none => -x ∈ acc
  | [], _ => by simp [insF, Inc]
  | y :: r, h => by
    have h' := List.pairwise_cons.1 h
    unfold insF
    by_cases h1 : vr y < vr x
    · rw [if_pos h1]
      have ih := insF_spec hx h'.2
      cases hi : insF x r with
      | none => rw [hi] at ih; simp only [Option.map_none]; exact List.mem_cons_of_mem _ ih
      | some o =>
        rw [hi] at ih
        simp only [Option.map_some]
        refine ⟨List.pairwise_cons.2 ⟨fun z hz => ?_, ih.1⟩, fun z => ?_, by simp only [List.length_cons]; omega⟩
        · rcases (ih.2.1 z).1 hz with rfl | hz
          · exact h1
          · exact h'.1 z hz
        · simp only [List.mem_cons, ih.2.1 z]
          constructor
          · rintro (rfl | rfl | h) <;> simp_all
          · rintro (rfl | rfl | h) <;> simp_all
    · rw [if_neg h1]
      by_cases h2 : y = -x
      · rw [if_pos h2]; simp [h2]
      · rw [if_neg h2]
        by_cases h3 : y = x
        · rw [if_pos h3]; exact ⟨h, by intro z; simp [h3], by simp⟩
        · rw [if_neg h3]
          have h4 : vr x < vr y := by
            by_cases h : vr x < vr y
            · exact h
            · have : vr y = vr x := by omega
              rcases vr_eq.1 this with e | e
              · exact absurd e h3
              · exact absurd e h2
          refine ⟨List.pairwise_cons.2 ⟨fun z hz => ?_, h⟩, by intro z; simp, by simp⟩
          rcases List.mem_cons.1 hz with rfl | hz
          · exact h4
          · exact Int.lt_trans h4 (h'.1 z hz)
theorem Inc.noOpp {o : List Int} (h : Inc o) {x : Int} (hx : x ∈ o) (hn : -x ∈ o) (h0 : x ≠ 0) : False := by
  induction o with
  | nil => simp at hx
  | cons y r ih =>
    have h' := List.pairwise_cons.1 h
    rcases List.mem_cons.1 hx with rfl | hx <;> rcases List.mem_cons.1 hn with hn | hn
    · omega
    · have := h'.1 _ hn; rw [vr_neg] at this; omega
    · have := h'.1 _ hx; rw [← hn, vr_neg] at this; omega
    · exact ih h'.2 hx hn
theorem nrm_spec : ∀ (l acc : List Int), Inc acc → (∀ x ∈ acc, x ≠ 0) → match nrm acc l with
    | some o => Inc o ∧ (∀ z, z ∈ o ↔ z ∈ acc ∨ z ∈ l) ∧ (∀ x ∈ l, rngB x = true) ∧ o.length ≤ acc.length + l.length
    | none => (∃ x ∈ l, rngB x = false) ∨ ∃ x, x ≠ 0 ∧ (x ∈ acc ∨ x ∈ l) ∧ (-x ∈ acc ∨ -x ∈ l)
  | [], acc, h, _ => ⟨h, by simp, by simp, by simp⟩
  | x :: l, acc, h, h0 => by
    unfold nrm
    by_cases hr : rngB x = true
    · rw [if_pos hr]
      have hx : x ≠ 0 := by unfold rngB at hr; simp only [Bool.and_eq_true, decide_eq_true_eq] at hr; exact hr.1.1
      have hi := insF_spec hx h
      cases hf : insF x acc with
      | none =>
        rw [hf] at hi
        simp only [Option.bind_none]
        exact Or.inr ⟨x, hx, Or.inr (List.mem_cons_self ..), Or.inl hi⟩
      | some o =>
        rw [hf] at hi
        simp only [Option.bind_some]
        have ih := nrm_spec l o hi.1 (fun z hz => by
          rcases (hi.2.1 z).1 hz with rfl | hz
          · exact hx
          · exact h0 z hz)
        cases hn : nrm o l with
        | none =>
          rw [hn] at ih
          simp only at ih ⊢
          rcases ih with ⟨z, hz, h1⟩ | ⟨z, hz, h1, h2⟩
          · exact Or.inl ⟨z, List.mem_cons_of_mem _ hz, h1⟩
          · refine Or.inr ⟨z, hz, ?_, ?_⟩
            · rcases h1 with h1 | h1
              · rcases (hi.2.1 z).1 h1 with rfl | h1
                · exact Or.inr (List.mem_cons_self ..)
                · exact Or.inl h1
              · exact Or.inr (List.mem_cons_of_mem _ h1)
            · rcases h2 with h1 | h1
              · rcases (hi.2.1 _).1 h1 with e | h1
                · exact Or.inr (e ▸ List.mem_cons_self ..)
                · exact Or.inl h1
              · exact Or.inr (List.mem_cons_of_mem _ h1)
        | some q =>
          rw [hn] at ih
          simp only at ih ⊢
          refine ⟨ih.1, fun z => ?_, fun z hz => ?_, by simp only [List.length_cons]; omega⟩
          · rw [ih.2.1 z, hi.2.1 z]; simp only [List.mem_cons]
            constructor
            · rintro ((rfl | h) | h) <;> simp_all
            · rintro (h | rfl | h) <;> simp_all
          · rcases List.mem_cons.1 hz with rfl | hz
            · exact hr
            · exact ih.2.2.1 z hz
    · rw [if_neg hr]
      exact Or.inl ⟨x, List.mem_cons_self .., by simpa using hr⟩
theorem nrm_eq {l o : List Int} (h1 : Inc o) (h2 : ∀ z, z ∈ o ↔ z ∈ l) (h3 : ∀ x ∈ l, rngB x = true) : nrm [] l = some o := by
  have h := nrm_spec l [] List.Pairwise.nil (by simp)
  cases hn : nrm [] l with
  | none =>
    rw [hn] at h
    simp only at h
    rcases h with ⟨x, hx, e⟩ | ⟨x, h0, hx, hy⟩
    · rw [h3 x hx] at e; cases e
    · simp only [List.not_mem_nil, false_or] at hx hy
      exact (h1.noOpp ((h2 _).2 hx) ((h2 _).2 hy) h0).elim
  | some q =>
    rw [hn] at h
    simp only at h
    congr 1
    exact rising_ext (r := fun x y => vr x < vr y) (fun a => by omega) (fun a b c h1 h2 => by omega) h.1 h1 (fun x => by rw [h.2.1, h2]; simp)
theorem nrm_none {l : List Int} {x : Int} (h : (x ∈ l ∧ rngB x = false) ∨ (x ≠ 0 ∧ x ∈ l ∧ -x ∈ l)) : nrm [] l = none := by
  have h' := nrm_spec l [] List.Pairwise.nil (by simp)
  cases hn : nrm [] l with
  | none => rfl
  | some q =>
    rw [hn] at h'
    simp only at h'
    rcases h with ⟨h1, h2⟩ | ⟨h0, h1, h2⟩
    · rw [h'.2.2.1 x h1] at h2; cases h2
    · exact (h'.1.noOpp ((h'.2.1 _).2 (Or.inr h1)) ((h'.2.1 _).2 (Or.inr h2)) h0).elim
theorem rngB_bnd {x : Int} (h : rngB x = true) : x ≠ 0 ∧ -1073741824 ≤ x ∧ x ≤ 1073741824 := by
  unfold rngB at h; simp only [Bool.and_eq_true, decide_eq_true_eq] at h; exact ⟨h.1.1, h.1.2, h.2⟩
theorem ltN_iff {x y : Int} : ltN x y = true ↔ vr x < vr y ∨ vr x = vr y ∧ x < y := by unfold ltN; simp
theorem ltN_irr (x : Int) : ¬ ltN x x = true := by rw [ltN_iff]; omega
theorem ltN_trans {x y z : Int} (h1 : ltN x y = true) (h2 : ltN y z = true) : ltN x z = true := by
  rw [ltN_iff] at *; omega
theorem ltN_tri {x y : Int} (h1 : ¬ ltN x y = true) (h2 : ¬ ltN y x = true) : x = y := by
  rw [ltN_iff] at *
  have : vr x = vr y := by omega
  omega
theorem sortN_pair (l : List Int) : (l.mergeSort fun x y => !ltN y x).Pairwise fun x y => ¬ ltN y x = true := by
  have key : ∀ x y, (!ltN y x) = true ↔ ¬ ltN y x = true := fun x y => by cases ltN y x <;> simp
  have := List.pairwise_mergeSort (le := fun x y => !ltN y x) (fun a b c h1 h2 => by
    rw [key] at *
    rw [ltN_iff] at *
    omega) (fun a b => by
    rw [Bool.or_eq_true, key, key]
    by_cases h : ltN b a = true
    · right; intro h2; exact ltN_irr _ (ltN_trans h h2)
    · left; exact h) l
  exact this.imp fun h => (key _ _).1 h
open Go.Lib in
theorem compact_strict {d : List Int} (hs : d.Pairwise fun x y => ¬ ltN y x = true) : ∀ m, m ≤ d.length → (compactUpTo d.toArray m).Pairwise (fun x y => ltN x y = true) ∧ (∀ x, x ∈ compactUpTo d.toArray m ↔ x ∈ d.take m)
  | 0, _ => by simp [compactUpTo]
  | m + 1, hm => by
    obtain ⟨ih1, ih2⟩ := compact_strict hs m (by omega)
    obtain ⟨b, hb⟩ := get_of_lt (show m < d.length by omega)
    have hdm : d.toArray[m]! = b := by
      have hlt := len_lt hb
      rw [getElem!_pos _ _ (by simpa using hlt)]
      have := (List.getElem?_eq_some_iff.1 hb).2
      simpa using this
    have hle : ∀ i a, i < m → d[i]? = some a → ¬ ltN b a = true := fun i a hi ha => by
      have h1 := (List.getElem?_eq_some_iff.1 ha)
      have h2 := (List.getElem?_eq_some_iff.1 hb)
      have := List.pairwise_iff_getElem.1 hs i m h1.1 h2.1 hi
      rw [h1.2, h2.2] at this
      exact this
    rw [compactUpTo_succ, take_snoc_of hb, hdm]
    by_cases hk : keeps d.toArray m = true
    · rw [if_pos hk]
      refine ⟨List.pairwise_append.2 ⟨ih1, List.pairwise_singleton _ _, fun x hx y hy => ?_⟩, fun x => by simp [ih2]⟩
      obtain rfl := List.mem_singleton.1 hy
      have hx2 := (ih2 x).1 hx
      obtain ⟨i, hi⟩ := List.getElem?_of_mem hx2
      rw [List.getElem?_take] at hi
      split at hi
      · rename_i him
        have h1 := hle i x him hi
        cases h2 : ltN x y with
        | true => rfl
        | false =>
          exfalso
          have e : x = y := ltN_tri (by rw [h2]; simp) h1
          subst e
          obtain ⟨c, hc⟩ := get_of_lt (show m - 1 < d.length by omega)
          have hcm : d.toArray[m - 1]! = c := by
            rw [getElem!_pos _ _ (by simp; omega)]
            have := (List.getElem?_eq_some_iff.1 hc).2
            simpa using this
          have h3 : c = x := by
            apply ltN_tri
            · by_cases him' : i = m - 1
              · subst him'; rw [hi] at hc; obtain rfl := Option.some.inj hc; exact ltN_irr _
              · have q1 := (List.getElem?_eq_some_iff.1 hi)
                have q2 := (List.getElem?_eq_some_iff.1 hc)
                have := List.pairwise_iff_getElem.1 hs i (m - 1) q1.1 q2.1 (by omega)
                rw [q1.2, q2.2] at this
                exact this
            · exact hle (m - 1) c (by omega) hc
          unfold keeps at hk
          simp only [decide_eq_true_eq, hdm, hcm, h3] at hk
          rcases hk with hk | hk
          · omega
          · exact hk rfl
      · cases hi
    · rw [if_neg hk, List.append_nil]
      refine ⟨ih1, fun x => ?_⟩
      rw [ih2, List.mem_append, List.mem_singleton]
      constructor
      · exact Or.inl
      · rintro (h | rfl)
        · exact h
        · unfold keeps at hk
          simp only [decide_eq_true_eq, not_or, ne_eq, Decidable.not_not, hdm] at hk
          obtain ⟨c, hc⟩ := get_of_lt (show m - 1 < d.length by omega)
          have hcm : d.toArray[m - 1]! = c := by
            rw [getElem!_pos _ _ (by simp; omega)]
            have := (List.getElem?_eq_some_iff.1 hc).2
            simpa using this
          rw [hcm] at hk
          rw [hk.2]
          refine List.mem_of_getElem? (i := m - 1) ?_
          rw [List.getElem?_take, if_pos (by omega)]; exact hc
theorem mem_litOk {l : List Int} (h : ∀ x ∈ l, -1099511627776 ≤ x ∧ x ≤ 1099511627776) : litOk l = true := by
  unfold litOk
  simp only [List.all_eq_true, decide_eq_true_eq]
  intro x hx
  have := h x hx
  omega
theorem compactLen_le (l : List Int) : (Lib.compact l).length ≤ l.length := by
  unfold Lib.compact Lib.compactUpTo
  rw [List.length_map]
  have := List.length_filter_le (Lib.keeps l.toArray) (List.range l.length)
  rw [List.length_range] at this
  exact this
theorem compact_ok {l : List Int} (hl : l.length < 17592186044417) (hr : ∀ x ∈ l, rngB x = true) : ∃ o, ((m_sortN l).bind m_compactI) = some o ∧ o.Pairwise (fun x y => ltN x y = true) ∧ (∀ x, x ∈ o ↔ x ∈ l) ∧ o.length ≤ l.length := by
  have h1 : m_sortN l = some (l.mergeSort fun x y => !ltN y x) := by
    unfold m_sortN
    rw [if_pos ⟨by omega, mem_litOk fun x hx => by have := rngB_bnd (hr x hx); omega⟩]
  obtain ⟨h2, h3⟩ := compact_strict (sortN_pair l) l.length (by simp)
  refine ⟨Lib.compact (l.mergeSort fun x y => !ltN y x), ?_, ?_, fun x => ?_, ?_⟩
  · rw [h1]
    show m_compactI _ = _
    unfold m_compactI
    rw [if_pos (by simp; omega)]
  · unfold Lib.compact
    rw [List.length_mergeSort]; exact h2
  · unfold Lib.compact
    rw [List.length_mergeSort, h3, List.take_of_length_le (by simp), List.mem_mergeSort]
  · have := compactLen_le (l.mergeSort fun x y => !ltN y x)
    rw [List.length_mergeSort] at this
    exact this
theorem Inc.of_strict {o : List Int} (hs : o.Pairwise fun x y => ltN x y = true) (hn : ∀ x ∈ o, -x ∈ o → x = 0) (h0 : ∀ x ∈ o, x ≠ 0) : Inc o := by
  unfold Inc
  induction o with
  | nil => exact List.Pairwise.nil
  | cons y r ih =>
    have h := List.pairwise_cons.1 hs
    refine List.pairwise_cons.2 ⟨fun z hz => ?_, ih h.2 (fun x hx hx' => hn x (List.mem_cons_of_mem _ hx) (List.mem_cons_of_mem _ hx')) (fun x hx => h0 x (List.mem_cons_of_mem _ hx))⟩
    have := h.1 z hz
    rw [ltN_iff] at this
    rcases this with h1 | ⟨h1, h2⟩
    · exact h1
    · rcases vr_eq.1 h1 with e | e
      · omega
      · exfalso
        exact h0 y (List.mem_cons_self ..) (hn y (List.mem_cons_self ..) (by rw [e, Int.neg_neg]; exact List.mem_cons_of_mem _ hz))
def adjF : Int → List Int → Bool
  | _, [] => false
  | t, x :: r => decide (t = -x) || adjF x r
theorem adjF_yes : ∀ {r : List Int} {y : Int}, adjF y r = true → ∃ x, x ∈ y :: r ∧ -x ∈ y :: r
  | [], _, h => by cases h
  | x :: r, y, h => by
    unfold adjF at h
    simp only [Bool.or_eq_true, decide_eq_true_eq] at h
    rcases h with rfl | h
    · exact ⟨x, by simp, by simp⟩
    · obtain ⟨z, h1, h2⟩ := adjF_yes h
      exact ⟨z, List.mem_cons_of_mem _ h1, List.mem_cons_of_mem _ h2⟩
theorem adjF_no : ∀ {r : List Int} {y : Int}, (y :: r).Pairwise (fun x y => ltN x y = true) → adjF y r = false → ∀ x ∈ y :: r, -x ∈ y :: r → x = 0
  | [], y, _, _, x, hx, hn => by
    rw [List.mem_singleton] at hx hn; omega
  | z :: r, y, hs, h, x, hx, hn => by
    unfold adjF at h
    simp only [Bool.or_eq_false_iff, decide_eq_false_iff_not] at h
    have hp := List.pairwise_cons.1 hs
    have key : ∀ w, w ∈ z :: r → w = -y → False := by
      intro w hw e
      have h1 := hp.1 z (List.mem_cons_self ..)
      have h2 : z = w ∨ ltN z w = true := by
        rcases List.mem_cons.1 hw with e | hw
        · exact Or.inl e.symm
        · exact Or.inr ((List.pairwise_cons.1 hp.2).1 w hw)
      have h4 : vr w = vr y := by rw [e, vr_neg]
      rw [ltN_iff] at h1
      rcases h2 with h2 | h2
      · exact h.1 (by omega)
      · rw [ltN_iff] at h2
        have h5 : vr z = vr y := by omega
        rcases vr_eq.1 h5 with e2 | e2
        · omega
        · exact h.1 (by omega)
    rcases List.mem_cons.1 hx with rfl | hx' <;> rcases List.mem_cons.1 hn with hn | hn'
    · omega
    · exact (key _ hn' rfl).elim
    · exact (key _ hx' (by omega)).elim
    · exact adjF_no hp.2 h.2 x hx' hn'
def stAdj (x t : Int) : Step Int (Out Unit (List Int × Bool)) := if (decide (t = -x)) = true then .done (.ret ([], false)) else .next x
theorem runL_adj : ∀ (r : List Int) (t : Int), runL stAdj (fun _ => Out.brk ()) r t = if adjF t r = true then Out.ret ([], false) else Out.brk ()
  | [], t => rfl
  | x :: r, t => by
    unfold runL stAdj adjF
    by_cases h : t = -x
    · simp [h]
    · simp only [h, decide_false, Bool.false_eq_true, if_false, Bool.false_or]
      exact runL_adj r x
theorem cnf_Normal {l : List Int} (hl : l.length < 17592186044417) : m_cnf_Normal l = some (normF l) := by
  unfold m_cnf_Normal
  refine bind_any l (fun x => !rngB x) (Out.ret ([], false)) (Out.brk ()) ?_ ?_ ?_
  · intro k a hk
    have hkl := len_lt hk
    simp only [m_cnf_Normal_lp1, ltB hkl, if_true, idx_nat hk, bsm, inK_up hkl (show l.length ≤ 9223372036854775807 by omega)]
    have e : (((decide (a = 0)) || (decide (a < (-1073741824)))) || (decide (1073741824 < a))) = !rngB a := by
      unfold rngB
      rw [Bool.eq_iff_iff]
      simp only [Bool.or_eq_true, decide_eq_true_eq, Bool.not_eq_true', Bool.and_eq_false_iff, decide_eq_false_iff_not]
      omega
    rw [e]
    cases rngB a <;> rfl
  · simp only [m_cnf_Normal_lp1, ltB', if_false, Bool.false_eq_true]
  · by_cases ha : l.any (fun x => !rngB x) = true
    · rw [if_pos ha]
      obtain ⟨x, hx, h⟩ := List.any_eq_true.1 ha
      unfold normF
      rw [nrm_none (Or.inl ⟨hx, by simpa using h⟩)]
    · rw [if_neg ha]
      have hr : ∀ x ∈ l, rngB x = true := fun x hx => by
        cases h : rngB x with
        | true => rfl
        | false => exact absurd (List.any_eq_true.2 ⟨x, hx, by simp [h]⟩) ha
      obtain ⟨o, h1, h2, h3, h4⟩ := compact_ok hl hr
      obtain ⟨q, hq, ho⟩ := Option.bind_eq_some_iff.1 h1
      have happ : m_cloneI l = some l := cloneI_ok (by omega)
      show ((m_cloneI l).bind fun x3 => _) = _
      rw [happ, bsm, hq, bsm, ho, bsm]
      have hor : ∀ x ∈ o, rngB x = true := fun x hx => hr x ((h3 x).1 hx)
      have hloop : loopM (fun s => m_cnf_Normal_lp2 o s) 1 = some (match o with | [] => Out.brk () | y :: r => if adjF y r = true then Out.ret ([], false) else Out.brk ()) := by
        cases o with
        | nil =>
          refine loopM_done ?_
          simp [m_cnf_Normal_lp2]
        | cons y r =>
          simp only
          rw [← runL_adj]
          refine loopL (body := fun s => m_cnf_Normal_lp2 (y :: r) s) r (fun k t => ((k + 1 : Nat) : Int)) stAdj (fun _ => Out.brk ()) (fun k t => (y :: r)[k]? = some t) (t0 := y) rfl rfl ?_ ?_
          · intro k a t hk ht
            have hk2 : (y :: r)[k + 1]? = some a := by rw [List.getElem?_cons_succ]; exact hk
            have hkl := len_lt hk2
            constructor
            · have e1 : inK .i64 (((k + 1 : Nat) : Int) - 1) = some (k : Int) := by rw [inK_eq ⟨by omega, by omega⟩]; congr 1; omega
              have hb := rngB_bnd (hor a (mem_get hk2))
              have e2 : inK .i64 (0 - a) = some (-a) := by rw [inK_eq ⟨by omega, by omega⟩]; congr 1; omega
              simp only [m_cnf_Normal_lp2, ltB hkl, if_true, e1, bsm, idx_nat ht, idx_nat hk2, e2, inK_up hkl (show (y :: r).length ≤ 9223372036854775807 by omega), stAdj]
              by_cases h : t = -a <;> simp [h]
            · intro t' ht'
              unfold stAdj at ht'
              split at ht'
              · cases ht'
              · obtain rfl := Step.next.inj ht'; exact hk2
          · intro t ht
            have e : (((r.length + 1 : Nat) : Int)) = ((y :: r).length : Int) := rfl
            simp only [m_cnf_Normal_lp2, e, ltB', if_false, Bool.false_eq_true]
      rw [hloop, bsm]
      cases o with
      | nil =>
        simp only
        unfold normF
        rw [nrm_eq (o := []) List.Pairwise.nil h3 hr]
      | cons y r =>
        simp only
        unfold normF
        by_cases hc : adjF y r = true
        · rw [if_pos hc]
          obtain ⟨x, hx, hx'⟩ := adjF_yes hc
          rw [nrm_none (Or.inr ⟨(rngB_bnd (hor x hx)).1, (h3 _).1 hx, (h3 _).1 hx'⟩)]
        · rw [if_neg hc]
          have hi := Inc.of_strict h2 (adjF_no h2 (by simpa using hc)) (fun x hx => (rngB_bnd (hor x hx)).1)
          rw [nrm_eq hi h3 hr]
theorem normF_len (l : List Int) : (normF l).1.length ≤ l.length := by
  have h := nrm_spec l [] List.Pairwise.nil (by simp)
  unfold normF
  cases hn : nrm [] l with
  | none => simp
  | some o => rw [hn] at h; simpa using h.2.2.2
end Go.Proofs.YtfajmelamonolaaGreatDoor

/- ProofModels: what follows has a literal in every model; the clauses of a formula follow, and so do clauses with further literals. -/
set_option linter.unusedVariables false
set_option linter.unusedSimpArgs false
namespace Go.Proofs.YtfajmelamonolaaGreatDoor
open Go.RowKit Go.Lib
theorem clF_inc {v : Int} : ∀ {o : List Int} {t : Int}, Inc o → (∀ x ∈ o, t < vr x ∧ vr x ≤ v) → clF v t o = true
  | [], _, _, _ => rfl
  | x :: o, t, h, hb => by
    have h1 := hb x (List.mem_cons_self ..)
    have h2 := vr_le.1 h1.2
    obtain ⟨hx, hp⟩ := List.pairwise_cons.1 h
    unfold clF
    rw [clF_inc hp fun y hy => ⟨hx y hy, (hb y (List.mem_cons_of_mem _ hy)).2⟩]
    simp only [Bool.and_eq_true, decide_eq_true_eq]
    exact ⟨⟨⟨h2.1, h2.2⟩, h1.1⟩, trivial⟩
theorem normF_ok {l : List Int} (h : (normF l).2 = true) : Inc (normF l).1 ∧ ∀ z, z ∈ (normF l).1 ↔ z ∈ l := by
  have h1 := nrm_spec l [] List.Pairwise.nil (by simp)
  unfold normF at h ⊢
  cases ho : nrm [] l with
  | none => rw [ho] at h; cases h
  | some o =>
    rw [ho] at h1
    exact ⟨h1.1, fun z => by rw [h1.2.1 z]; simp⟩
theorem normF_cl {l : List Int} {v : Int} (h : (normF l).2 = true) (hl : ∀ x ∈ l, x ≠ 0 ∧ vr x ≤ v) : clF v 0 (normF l).1 = true := by
  obtain ⟨h1, h2⟩ := normF_ok h
  refine clF_inc h1 fun x hx => ?_
  have h3 := hl x ((h2 x).1 hx)
  have h4 := vr_nn x
  have h5 := mt vr_zero.1 h3.1
  exact ⟨by omega, h3.2⟩
theorem own_fails {F : List (List Int)} {c : List Int} (h : c ∈ F) : Fails F (negs c) := Or.inr ⟨c, h, fun y hy => .start (mem_negs.2 hy)⟩
theorem anyIn_ok {c m : List Int} (hc : c.length ≤ 9223372036854775807) (hm : m.length ≤ 9223372036854775807) : m_slices_ContainsFunc_assessorlaw27_ProofModels_1 c m = some (c.any fun x => decide (x ∈ m)) := by
  unfold m_slices_ContainsFunc_assessorlaw27_ProofModels_1 m_slices_IndexFunc_assessorlaw27_ProofModels_1
  have h := scan_loop (body := fun s => m_slices_IndexFunc_assessorlaw27_ProofModels_1_lp1 c m s) c (fun l => decide (l ∈ m)) (fun k _ => Out.ret (k : Int)) (Out.brk ()) ?_ ?_
  · rcases h with ⟨k, a, _, _, _, h2, _, e⟩ | ⟨_, h2, _, e⟩
    · rw [e, h2]; simp
    · rw [e, h2]; simp
  · intro k a hk
    simp only [m_slices_IndexFunc_assessorlaw27_ProofModels_1_lp1, ltB (len_lt hk), if_true, idx_nat hk, bsm, m_assessorlaw27_ProofModels_1, contains_int m a hm, inK_up (len_lt hk) hc]
    by_cases h : a ∈ m <;> simp [h]
  · simp only [m_slices_IndexFunc_assessorlaw27_ProofModels_1_lp1, ltB', if_false, Bool.false_eq_true]
theorem law_ProofModels (p0 : Formula) (p1 : (List Int)) (p2 : Int) (h0 : FWf p0) (h1 : LW I64 p1) (h2 : (Lit.int .i64 p2).wf = true) : m_assessorlaw27_ProofModels p0 p1 p2 = some true := by
  unfold m_assessorlaw27_ProofModels
  rw [awake_true, bsm, if_neg (by decide), small_eq _ _ _ h0.2.1, bsm]
  cases hs : smallB p0 8 30 with
  | false => simp
  | true =>
    rw [if_neg (by simp), cnf_valid h0.flen, bsm, bsm]
    by_cases hc : ((!validB p0) || decide (8 < (p1.length : Int))) = true
    · rw [if_pos hc]
    · rw [if_neg hc]
      simp only [Bool.or_eq_true, Bool.not_eq_true', decide_eq_true_eq, not_or, Bool.not_eq_false] at hc
      obtain ⟨hv, hl⟩ := hc
      have hso := small_ok hs
      have hb := valid_bnd hv
      obtain ⟨b, hb2, rfl⟩ := loopN (body := fun s : Int => m_assessorlaw27_ProofModels_lp1 p0 s) (s0 := (0 : Int)) p0.clauses.length (fun k (_ : Unit) => (k : Int)) (fun _ _ => True) (fun b => b = Out.brk ()) (t0 := ()) rfl trivial (by
          rintro k _ hk _
          obtain ⟨c, hck⟩ := get_of_lt hk
          have hcm := mem_get hck
          obtain ⟨r, hr, h⟩ := follows_prog (f := p0) (q := c) h0.flen (by have := hso.2.2 c hcm; omega)
          rw [if_pos ⟨hv, hb.2.2.2 c hcm⟩] at h
          have hr1 := h.2.2 (own_fails hcm)
          refine Or.inl ⟨(), ?_, trivial⟩
          simp only [m_assessorlaw27_ProofModels_lp1, ltB hk, if_true, idx_nat hck, bsm, hr, hr1, h.1, inK_up hk (show p0.clauses.length ≤ 9223372036854775807 by omega)]
          simp) (by
          rintro _ _
          exact ⟨.brk (), by simp only [m_assessorlaw27_ProofModels_lp1, ltB', if_false, Bool.false_eq_true], rfl⟩)
      rw [hb2, bsm]
      simp only
      obtain ⟨r, hr, h⟩ := follows_prog (f := p0) (q := p1) h0.flen (by omega)
      rw [hr, bsm]
      by_cases hq : ((!decide (r.2 = 0)) || (!r.1)) = true
      · rw [if_pos hq]
        by_cases hcl : validB p0 = true ∧ clF p0.vars 0 p1 = true
        · rw [if_pos hcl] at h
          rw [h.1]; simp
        · rw [if_neg hcl] at h
          rw [h]; simp
      · rw [if_neg hq]
        simp only [Bool.or_eq_true, Bool.not_eq_true', decide_eq_false_iff_not, not_or, Bool.not_eq_false, Decidable.not_not] at hq
        by_cases hcl : validB p0 = true ∧ clF p0.vars 0 p1 = true
        · rw [if_pos hcl] at h
          have hfail := h.2.1 hq.2
          have hco := clF_ok hcl.2
          obtain ⟨x8, e8, hx8⟩ := shl_ok (v := p0.vars) ⟨hb.1, hso.1⟩
          rw [e8, bsm]
          obtain ⟨b, hb3, rfl⟩ := loopN (body := fun s : Int => m_assessorlaw27_ProofModels_lp2 p0 p1 x8 s) (s0 := (0 : Int)) x8.toNat (fun k (_ : Unit) => (k : Int)) (fun _ _ => True) (fun b => b = Out.brk ()) (t0 := ()) rfl trivial (by
              rintro k _ hk _
              obtain ⟨m, hm, hml, hmd⟩ := model_ex (v := p0.vars) (b := (k : Int)) ⟨hb.1, hb.2.1⟩
              have e0 : (decide ((k : Int) < x8)) = true := by simp only [decide_eq_true_eq]; omega
              have e1 : inK .i64 ((k : Int) + 1) = some ((k + 1 : Nat) : Int) := inK_at rfl ⟨by omega, by omega⟩
              refine Or.inl ⟨(), ?_, trivial⟩
              simp only [m_assessorlaw27_ProofModels_lp2, e0, if_true, hm, bsm, cnf_holds h0.flen]
              cases hh : holdsB p0 m with
              | false => simp only [Bool.false_eq_true, if_false, bsm, e1]
              | true =>
                have hh2 := hh
                unfold holdsB at hh2
                simp only [Bool.and_eq_true, List.all_eq_true] at hh2
                obtain ⟨y, hy, hym⟩ := sat_mem (fails_sat hmd hml hh2.2 hco hfail)
                have hany : (p1.any fun x => decide (x ∈ m)) = true := List.any_eq_true.2 ⟨y, hy, by simpa using hym⟩
                simp only [if_true, anyIn_ok (c := p1) (m := m) (by omega) (by omega), bsm, hany, Bool.not_true, Bool.false_eq_true, if_false, e1]) (by
              rintro _ _
              have e0 : ¬ (decide ((x8.toNat : Int) < x8)) = true := by simp only [decide_eq_true_eq]; omega
              exact ⟨.brk (), by simp only [m_assessorlaw27_ProofModels_lp2, e0, if_false, Bool.false_eq_true], rfl⟩)
          rw [hb3, bsm]
          simp only
          by_cases hp : (decide (p2 = 0) || decide (p0.vars < p2)) = true
          · rw [if_pos hp, bsm, if_pos rfl]
          · rw [if_neg hp, inK_eq ⟨by omega, by omega⟩, bsm, bsm]
            simp only [Bool.or_eq_true, decide_eq_true_eq, not_or] at hp
            by_cases hp3 : p2 < 0 - p0.vars
            · rw [if_pos (by simpa using hp3)]
            · rw [if_neg (by simpa using hp3), cloneI_ok (by omega), bsm, app_ok (by simp; omega), bsm, cnf_Normal (by simp; omega), bsm]
              cases hn : (normF (p1 ++ [p2])).2 with
              | false => simp
              | true =>
                have hno := normF_ok hn
                have hcl2 : clF p0.vars 0 (normF (p1 ++ [p2])).1 = true := normF_cl hn fun x hx => by
                  rcases List.mem_append.1 hx with hx | hx
                  · exact hco.1 x hx
                  · rw [List.mem_singleton] at hx
                    subst hx
                    exact ⟨hp.1, vr_le.2 ⟨by omega, by omega⟩⟩
                obtain ⟨r2, hr2, h3⟩ := follows_prog (f := p0) (q := (normF (p1 ++ [p2])).1) h0.flen (by have := normF_len (p1 ++ [p2]); simp at this; omega)
                rw [if_pos ⟨hv, hcl2⟩] at h3
                have hr1 := h3.2.2 (hfail.mono (fun _ h => h) fun x hx => by
                  have hx2 := mem_negs' hx
                  have := mem_negs.2 ((hno.2 (-x)).2 (List.mem_append_left _ hx2))
                  rwa [Int.neg_neg] at this)
                rw [if_neg (by simp), hr2, bsm, hr1, h3.1]
                simp
        · rw [if_neg hcl] at h
          rw [h] at hq
          simp at hq
end Go.Proofs.YtfajmelamonolaaGreatDoor
