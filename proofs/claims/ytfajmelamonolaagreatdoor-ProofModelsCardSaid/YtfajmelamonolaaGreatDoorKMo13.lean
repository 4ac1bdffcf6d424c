/- What the functions on clauses and formulas compute: Valid, Literal, Holds, comparisons. -/
import Derived.Test.YtfajmelamonolaaGreatDoorKMo12
import Derived.Test.YtfajmelamonolaaGreatDoorKMo3
import Derived.Test.YtfajmelamonolaaGreatDoorKMo4
set_option linter.unusedVariables false
set_option linter.unusedSimpArgs false
namespace Go.Proofs.YtfajmelamonolaaGreatDoor
open Go.RowKit
theorem var_ok {l : Int} (h : -9223372036854775807 ≤ l ∧ l ≤ 9223372036854775807) : m_cnf_variable l = some (vr l) := by
  unfold m_cnf_variable; rw [inK_eq (by omega)]; rfl
def stCl (v l last : Int) : Step Int (Out Unit Bool) := if ((decide (l < -v)) || (decide (v < l)) || (decide (vr l ≤ last))) = true then Step.done (Out.ret false) else Step.next (vr l)
theorem cnf_normal {c : List Int} {v : Int} (hv : 0 ≤ v ∧ v ≤ 1099511627776) (hc : c.length ≤ 9223372036854775807) : m_cnf_normal c v = some (clF v 0 c) := by
  unfold m_cnf_normal
  have h := loopL (body := fun s : Int × Int => m_cnf_normal_lp1 c v s.1 s.2) (s0 := ((0 : Int), (0 : Int))) c (fun k t => (t, (k : Int)))
    (stCl v) (fun _ => Out.brk ()) (fun _ _ => True) (t0 := (0 : Int)) rfl trivial ?_ ?_
  · rw [h]
    simp only [bsm]
    generalize (0 : Int) = t
    clear h
    induction c generalizing t with
    | nil => simp [runL, clF]
    | cons l r ih =>
      have ih := ih (by simp only [List.length_cons] at hc; omega)
      unfold runL stCl clF
      by_cases hb : ((decide (l < -v)) || (decide (v < l)) || (decide (vr l ≤ t))) = true
      · rw [if_pos hb]
        simp only [Bool.or_eq_true, decide_eq_true_eq] at hb
        have : (decide (-v ≤ l) && decide (l ≤ v) && decide (t < vr l)) = false := by
          simp only [Bool.and_eq_false_iff, decide_eq_false_iff_not]; omega
        simp [this]
      · rw [if_neg hb]
        simp only [Bool.or_eq_true, decide_eq_true_eq, not_or] at hb
        have : (decide (-v ≤ l) && decide (l ≤ v) && decide (t < vr l)) = true := by
          simp only [Bool.and_eq_true, decide_eq_true_eq]; omega
        rw [this, Bool.true_and]
        exact ih (vr l)
  · intro k a t hk _
    refine ⟨?_, fun _ _ => trivial⟩
    simp only [m_cnf_normal_lp1, stCl]
    rw [if_pos (ltB (len_lt hk)), idx_nat hk]
    simp only [bsm]
    rw [inK_eq (by omega)]
    simp only [bsm, Int.zero_sub]
    by_cases h1 : (decide (a < -v) || decide (v < a)) = true
    · simp [h1]
    · rw [if_neg h1]
      simp only [Bool.or_eq_true, decide_eq_true_eq, not_or] at h1
      rw [var_ok (by omega)]
      have h1' : (decide (a < -v) || decide (v < a)) = false := by simp; omega
      simp only [bsm, h1', Bool.false_or]
      by_cases h2 : vr a ≤ t
      · simp [h2]
      · simp [h2, inK_up (len_lt hk) hc]
  · intro t _
    simp only [m_cnf_normal_lp1]
    rw [if_neg ltB']
theorem runL_clF {c : List Int} {v t : Int} (ht : 0 ≤ t) : (match runL (stCl v) (fun _ => (Out.brk () : Out Unit Bool)) c t with | .brk _ => true | .ret r => r) = clF v t c := by
  induction c generalizing t with
  | nil => simp [runL, clF]
  | cons l r ih =>
    unfold runL stCl clF
    by_cases hb : ((decide (l < -v)) || (decide (v < l)) || (decide (vr l ≤ t))) = true
    · rw [if_pos hb]
      simp only [Bool.or_eq_true, decide_eq_true_eq] at hb
      have : (decide (-v ≤ l) && decide (l ≤ v) && decide (t < vr l)) = false := by
        simp only [Bool.and_eq_false_iff, decide_eq_false_iff_not]; omega
      simp [this]
    · rw [if_neg hb]
      simp only [Bool.or_eq_true, decide_eq_true_eq, not_or] at hb
      have : (decide (-v ≤ l) && decide (l ≤ v) && decide (t < vr l)) = true := by
        simp only [Bool.and_eq_true, decide_eq_true_eq]; omega
      rw [this, Bool.true_and]
      exact ih (vr_nn l)
def validB (f : Formula) : Bool := decide (0 ≤ f.vars) && decide (f.vars ≤ 65536) && decide (f.clauses.length ≤ 262144) && f.clauses.all (clF f.vars 0)
def FLen (cs : List (List Int)) : Prop := cs.length ≤ 9223372036854775807 ∧ ∀ c ∈ cs, c.length ≤ 9223372036854775807
theorem any_not_all {α : Type} (p : α → Bool) (l : List α) : (if l.any (fun a => !p a) = true then (Out.ret false : Out Unit Bool) else Out.brk ()) = (if l.all p = true then Out.brk () else Out.ret false) := by
  have : l.any (fun a => !p a) = !l.all p := by simp [List.all_eq_not_any_not]
  rw [this]; cases l.all p <;> rfl
theorem validB_pre (f : Formula) (hp : ¬ (((decide (f.vars < 0)) || (decide (65536 < f.vars))) || (decide (262144 < (f.clauses.length : Int)))) = true) : validB f = f.clauses.all (clF f.vars 0) := by
  simp only [Bool.or_eq_true, decide_eq_true_eq, not_or] at hp
  unfold validB
  have : (decide (0 ≤ f.vars) && decide (f.vars ≤ 65536) && decide (f.clauses.length ≤ 262144)) = true := by simp only [Bool.and_eq_true, decide_eq_true_eq]; omega
  rw [this, Bool.true_and]
theorem validB_no (f : Formula) (hp : (((decide (f.vars < 0)) || (decide (65536 < f.vars))) || (decide (262144 < (f.clauses.length : Int)))) = true) : validB f = false := by
  simp only [Bool.or_eq_true, decide_eq_true_eq] at hp
  unfold validB
  have : (decide (0 ≤ f.vars) && decide (f.vars ≤ 65536) && decide (f.clauses.length ≤ 262144)) = false := by
    simp only [Bool.and_eq_false_iff, decide_eq_false_iff_not]; omega
  rw [this, Bool.false_and]
theorem cnf_valid {f : Formula} (hl : FLen f.clauses) : m_cnf_Valid f = some (validB f) := by
  unfold m_cnf_Valid
  by_cases hp : (((decide (f.vars < 0)) || (decide (65536 < f.vars))) || (decide (262144 < (f.clauses.length : Int)))) = true
  · rw [if_pos hp, validB_no f hp]
  · rw [if_neg hp, validB_pre f hp]
    have hp' := hp
    simp only [Bool.or_eq_true, decide_eq_true_eq, not_or] at hp'
    refine bind_any f.clauses (fun c => !clF f.vars 0 c) (Out.ret false) (Out.brk ()) ?_ ?_ ?_
    · intro k a hk
      simp only [m_cnf_Valid_lp1]
      rw [if_pos (ltB (len_lt hk)), idx_nat hk]
      simp only [bsm]
      rw [cnf_normal ⟨by omega, by omega⟩ (hl.2 a (mem_get hk)), inK_up (len_lt hk) hl.1]
      cases clF f.vars 0 a <;> rfl
    · simp only [m_cnf_Valid_lp1]
      rw [if_neg ltB']
    · rw [any_not_all]
      cases f.clauses.all (clF f.vars 0) <;> rfl
theorem lists_equal (a b : List Int) (ha : a.length ≤ 9223372036854775807) : m_slices_Equal_int_int_ a b = some (decide (a = b)) := by
  unfold m_slices_Equal_int_int_
  by_cases hl : a.length = b.length
  · rw [if_neg (by simp [hl])]
    refine bind_same hl (Out.ret false) (Out.brk ()) ?_ ?_ ?_
    · intro k x y hx hy
      simp only [m_slices_Equal_int_int__lp1]
      rw [if_pos (ltB (len_lt hx)), idx_nat hx, idx_nat hy]
      simp only [bsm]
      rw [inK_up (len_lt hx) ha]
      by_cases h : x = y <;> simp [h]
    · simp only [m_slices_Equal_int_int__lp1]
      rw [if_neg ltB']
    · by_cases h : a = b <;> simp [h]
  · rw [if_pos (by simp; omega)]
    have : a ≠ b := fun e => hl (by rw [e])
    simp [this]
theorem clauses_equal (a b : List (List Int)) (ha : FLen a) : m_assessorref26_Clauses a b = some (decide (a = b)) := by
  unfold m_assessorref26_Clauses
  by_cases hl : a.length = b.length
  · rw [if_neg (by simp [hl])]
    refine bind_same hl (Out.ret false) (Out.brk ()) ?_ ?_ ?_
    · intro k x y hx hy
      simp only [m_assessorref26_Clauses_lp1]
      rw [if_pos (ltB (len_lt hx)), idx_nat hx, idx_nat hy]
      simp only [bsm]
      by_cases hxy : x.length = y.length
      · rw [if_neg (by simp [hxy])]
        have hxl := ha.2 x (mem_get hx)
        refine bind_same hxy (Out.ret false) (Out.brk ()) ?_ ?_ ?_
        · intro j u v hu hv
          simp only [m_assessorref26_Clauses_lp2]
          rw [idx_nat hx]
          simp only [bsm]
          rw [if_pos (ltB (len_lt hu)), idx_nat hu, idx_nat hy]
          simp only [bsm]
          rw [idx_nat hv]
          simp only [bsm]
          rw [inK_up (len_lt hu) hxl]
          by_cases h : u = v <;> simp [h]
        · simp only [m_assessorref26_Clauses_lp2]
          rw [idx_nat hx]
          simp only [bsm]
          rw [if_neg ltB']
        · by_cases h : x = y
          · simp [h, inK_up (len_lt hx) ha.1]
          · simp [h]
      · rw [if_pos (by simp; omega)]
        have : x ≠ y := fun e => hxy (by rw [e])
        simp [this]
    · simp only [m_assessorref26_Clauses_lp1]
      rw [if_neg ltB']
    · by_cases h : a = b <;> simp [h]
  · rw [if_pos (by simp; omega)]
    have : a ≠ b := fun e => hl (by rw [e])
    simp [this]
theorem Formula.ext_ {f g : Formula} (h1 : f.vars = g.vars) (h2 : f.clauses = g.clauses) : f = g := by
  obtain ⟨a, b⟩ := f; obtain ⟨c, d⟩ := g; simp at h1 h2; rw [h1, h2]
instance : DecidableEq Formula := fun f g => if h : f.vars = g.vars ∧ f.clauses = g.clauses then isTrue (Formula.ext_ h.1 h.2) else isFalse (fun e => h (by rw [e]; exact ⟨rfl, rfl⟩))
def smallB (f : Formula) (v n : Int) : Bool := f.clauses.all (fun c => decide (c.length ≤ 30)) && decide (f.vars ≤ v) && decide ((f.clauses.length : Int) ≤ n)
theorem small_eq (f : Formula) (v n : Int) (hl : f.clauses.length ≤ 9223372036854775807) : m_assessorref26_Small f v n = some (smallB f v n) := by
  unfold m_assessorref26_Small smallB
  refine bind_any f.clauses (fun c => !decide (c.length ≤ 30)) (Out.ret false) (Out.brk ()) ?_ ?_ ?_
  · intro k a hk
    simp only [m_assessorref26_Small_lp1]
    rw [if_pos (ltB (len_lt hk)), idx_nat hk]
    simp only [bsm]
    rw [inK_up (len_lt hk) hl]
    by_cases h : a.length ≤ 30
    · rw [if_neg (by simp; omega)]; simp [h]
    · rw [if_pos (by simp; omega)]; simp [h]
  · simp only [m_assessorref26_Small_lp1]
    rw [if_neg ltB']
  · rw [any_not_all]
    cases f.clauses.all (fun c => decide (c.length ≤ 30)) <;> rfl
theorem contains_int (l : List Int) (x : Int) (hl : l.length ≤ 9223372036854775807) : m_slices_Contains_int_int_ l x = some (decide (x ∈ l)) := by
  unfold m_slices_Contains_int_int_ m_slices_Index_int_int_
  have h := scan_loop (body := fun s => m_slices_Index_int_int__lp1 l x s) l (fun a => decide (x = a)) (fun k _ => Out.ret (k : Int)) (Out.brk ()) ?_ ?_
  · rcases h with ⟨k, a, h1, h2, _, _, _, e⟩ | ⟨h1, _, _, e⟩
    · rw [e]
      have h2 : x = a := by simpa using h2
      have : x ∈ l := h2 ▸ mem_get h1
      simp [this]
    · rw [e]
      have : x ∉ l := fun hx => by simpa using h1 x hx
      simp [this]
  · intro k a hk
    simp only [m_slices_Index_int_int__lp1]
    rw [if_pos (ltB (len_lt hk)), idx_nat hk]
    simp only [bsm]
    rw [inK_up (len_lt hk) hl]
    by_cases h : x = a <;> simp [h]
  · simp only [m_slices_Index_int_int__lp1]
    rw [if_neg ltB']
def mdF : Int → List Int → Bool
  | _, [] => true
  | i, l :: r => (decide (l = i) || decide (l = -i)) && mdF (i + 1) r
def satB (m c : List Int) : Bool := c.any fun l => decide (m[(vr l - 1).toNat]? = some l)
def holdsB (f : Formula) (m : List Int) : Bool := validB f && decide ((m.length : Int) = f.vars) && mdF 1 m && f.clauses.all (satB m)
theorem clF_mem {v : Int} : ∀ {t : Int} {c : List Int}, 0 ≤ t → clF v t c = true → ∀ l ∈ c, -v ≤ l ∧ l ≤ v ∧ t < vr l
  | _, [], _, _, l, h => by simp at h
  | t, x :: c, ht, h, l, hl => by
    unfold clF at h
    simp only [Bool.and_eq_true, decide_eq_true_eq] at h
    rcases List.mem_cons.1 hl with rfl | hl
    · exact ⟨h.1.1.1, h.1.1.2, h.1.2⟩
    · have := clF_mem (vr_nn x) h.2 l hl
      exact ⟨this.1, this.2.1, by omega⟩
theorem idx_vr {α : Type} {m : List α} {l : Int} (h0 : 0 < vr l) (h : vr l ≤ m.length) : ∃ x, m[(vr l - 1).toNat]? = some x ∧ idx m (vr l - 1) = some x := by
  obtain ⟨x, hx⟩ := get_of_lt (show (vr l - 1).toNat < m.length by omega)
  exact ⟨x, hx, idx_of (by omega) hx⟩
theorem mdF_loop {m : List Int} {t : Int} (ht : 0 ≤ t) (hm : t + m.length ≤ 9223372036854775800) : runL (fun (a t : Int) => if (!decide (a = t + 1) && !decide (a = -t - 1)) = true then Step.done (Out.ret false : Out Unit Bool) else Step.next (t + 1)) (fun _ => Out.brk ()) m t = if mdF (t + 1) m = true then Out.brk () else Out.ret false := by
  induction m generalizing t with
  | nil => rfl
  | cons a m ih =>
    unfold runL mdF
    by_cases h1 : a = t + 1
    · simp only [h1, decide_true, Bool.not_true, Bool.false_and, Bool.false_eq_true, if_false, Bool.true_or, Bool.true_and]
      exact ih (by omega) (by simp only [List.length_cons] at hm; omega)
    · by_cases h2 : a = -t - 1
      · have h3 : a = -(t + 1) := by omega
        have e : decide (a = -(t + 1)) = true := by simpa using h3
        simp only [e, h2, decide_true, Bool.not_true, Bool.and_false, Bool.false_eq_true, if_false, Bool.or_true, Bool.true_and]
        simp only [← h2, e, Bool.or_true, Bool.true_and]
        exact ih (by omega) (by simp only [List.length_cons] at hm; omega)
      · have h3 : ¬ a = -(t + 1) := by omega
        simp [h1, h2, h3]
theorem holds1_ok {m : List Int} {x : Int} (hb : -1099511627776 ≤ x ∧ x ≤ 1099511627776) (h0 : 0 < vr x) (h : vr x ≤ m.length) : m_cnf_Holds_1 x m = some (decide (m[(vr x - 1).toNat]? = some x)) := by
  unfold m_cnf_Holds_1
  obtain ⟨y, h1, h2⟩ := idx_vr h0 h
  rw [var_ok (by omega)]
  simp only [bsm]
  rw [inK_eq (by have := @vr_le x 1099511627776; omega)]
  simp only [bsm]
  rw [h2, h1]; simp
theorem holdsAny_ok {m c : List Int} (hc : c.length ≤ 9223372036854775807) (h : ∀ x ∈ c, (-1099511627776 ≤ x ∧ x ≤ 1099511627776) ∧ 0 < vr x ∧ vr x ≤ m.length) : m_slices_ContainsFunc_cnf_Holds_1 c m = some (satB m c) := by
  unfold m_slices_ContainsFunc_cnf_Holds_1 m_slices_IndexFunc_cnf_Holds_1
  have h := scan_loop (body := fun s => m_slices_IndexFunc_cnf_Holds_1_lp1 c m s) c (fun l => decide (m[(vr l - 1).toNat]? = some l)) (fun k _ => Out.ret (k : Int)) (Out.brk ()) ?_ ?_
  · unfold satB
    rcases h with ⟨k, a, _, _, _, h2, _, e⟩ | ⟨_, h2, _, e⟩
    · rw [e, h2]; simp
    · rw [e, h2]; simp
  · intro k a hk
    simp only [m_slices_IndexFunc_cnf_Holds_1_lp1]
    rw [if_pos (ltB (len_lt hk)), idx_nat hk]
    simp only [bsm]
    obtain ⟨h1, h2, h3⟩ := h a (mem_get hk)
    rw [holds1_ok h1 h2 h3, inK_up (len_lt hk) hc]
    generalize decide (m[(vr a - 1).toNat]? = some a) = d
    cases d <;> rfl
  · simp only [m_slices_IndexFunc_cnf_Holds_1_lp1]
    rw [if_neg ltB']
theorem valid_bnd {f : Formula} (h : validB f = true) : 0 ≤ f.vars ∧ f.vars ≤ 65536 ∧ f.clauses.length ≤ 262144 ∧ ∀ c ∈ f.clauses, clF f.vars 0 c = true := by
  unfold validB at h
  simp only [Bool.and_eq_true, decide_eq_true_eq, List.all_eq_true] at h
  exact ⟨h.1.1.1, h.1.1.2, h.1.2, h.2⟩
theorem valid_lit {f : Formula} (h : validB f = true) {c : List Int} (hc : c ∈ f.clauses) {l : Int} (hl : l ∈ c) : -f.vars ≤ l ∧ l ≤ f.vars ∧ 0 < vr l ∧ vr l ≤ f.vars := by
  have := clF_mem (Int.le_refl 0) ((valid_bnd h).2.2.2 c hc) l hl
  exact ⟨this.1, this.2.1, this.2.2, vr_le.2 ⟨this.1, this.2.1⟩⟩
theorem cnf_holds {f : Formula} {m : List Int} (hl : FLen f.clauses) : m_cnf_Holds f m = some (holdsB f m) := by
  unfold m_cnf_Holds holdsB
  rw [cnf_valid hl]
  simp only [bsm]
  by_cases hv : validB f = true
  · by_cases hm : (m.length : Int) = f.vars
    · rw [if_neg (by simp [hv, hm])]
      have hb := valid_bnd hv
      rw [loopL (body := fun s => m_cnf_Holds_lp1 m s) (s0 := (0 : Int)) m (fun k t => (k : Int)) (fun (a t : Int) => if (!decide (a = t + 1) && !decide (a = -t - 1)) = true then Step.done (Out.ret false : Out Unit Bool) else Step.next (t + 1)) (fun _ => Out.brk ()) (fun k t => t = (k : Int)) (t0 := 0) rfl rfl ?_ ?_, mdF_loop (by omega) (by omega)]
      · simp only [bsm, hv, hm, decide_true, Bool.true_and, Int.zero_add]
        by_cases h1 : mdF 1 m = true
        · rw [if_pos h1, h1, Bool.true_and]
          refine bind_any f.clauses (fun c => !satB m c) (Out.ret false) (Out.brk ()) ?_ ?_ ?_
          · intro k a hk
            simp only [m_cnf_Holds_lp2]
            rw [if_pos (ltB (len_lt hk)), idx_nat hk]
            simp only [bsm]
            rw [holdsAny_ok (hl.2 a (mem_get hk)) (fun x hx => by have := valid_lit hv (mem_get hk) hx; omega), inK_up (len_lt hk) hl.1]
            cases satB m a <;> rfl
          · simp only [m_cnf_Holds_lp2]
            rw [if_neg ltB']
          · rw [any_not_all]
            cases f.clauses.all (satB m) <;> rfl
        · simp [h1]
      · rintro k a t hk rfl
        refine ⟨?_, fun t' ht' => ?_⟩
        · simp only [m_cnf_Holds_lp1]
          rw [if_pos (ltB (len_lt hk)), idx_nat hk]
          have := len_lt hk
          simp only [bsm]
          rw [inK_up (len_lt hk) (by omega), inK_eq (show -9223372036854775808 ≤ 0 - (k : Int) ∧ 0 - (k : Int) ≤ 9223372036854775807 by omega)]
          simp only [bsm]
          rw [inK_eq (show -9223372036854775808 ≤ 0 - (k : Int) - 1 ∧ 0 - (k : Int) - 1 ≤ 9223372036854775807 by omega)]
          have e : ((k + 1 : Nat) : Int) = (k : Int) + 1 := by omega
          have e2 : 0 - (k : Int) - 1 = -(k : Int) - 1 := by omega
          rw [e, e2]
          by_cases h1 : a = (k : Int) + 1 <;> by_cases h2 : a = -(k : Int) - 1 <;> simp [h1, h2]
        · split at ht'
          · cases ht'
          · exact (Step.next.inj ht').symm
      · rintro t rfl
        simp only [m_cnf_Holds_lp1]
        rw [if_neg ltB']
    · rw [if_pos (by simp [hm])]; simp [hm]
  · rw [if_pos (by simp [hv])]; simp [hv]
end Go.Proofs.YtfajmelamonolaaGreatDoor

/- Unit propagation: what follows, and what the reference's Closure and Propagate compute. -/
set_option linter.unusedVariables false
set_option linter.unusedSimpArgs false
namespace Go.Proofs.YtfajmelamonolaaGreatDoor
open Go.RowKit
inductive UP (F : List (List Int)) (S : List Int) : Int → Prop
  | start {l : Int} : l ∈ S → UP F S l
  | unit {c : List Int} {x : Int} : c ∈ F → x ∈ c → (∀ y ∈ c, y ≠ x → UP F S (-y)) → UP F S x
def Fails (F : List (List Int)) (S : List Int) : Prop := (∃ l, UP F S l ∧ UP F S (-l)) ∨ ∃ c ∈ F, ∀ y ∈ c, UP F S (-y)
structure Lits (n : Int) (F : List (List Int)) (S : List Int) : Prop where
  nn : 0 ≤ n ∧ n ≤ 65536
  cl : ∀ c ∈ F, ∀ y ∈ c, y ≠ 0 ∧ vr y ≤ n
  st : ∀ y ∈ S, y ≠ 0 ∧ vr y ≤ n
  nd : ∀ c ∈ F, c.Nodup
theorem UP.lit {n : Int} {F : List (List Int)} {S : List Int} (h : Lits n F S) {l : Int} (hl : UP F S l) : l ≠ 0 ∧ vr l ≤ n := by
  cases hl with
  | start hs => exact h.st _ hs
  | unit hc hx _ => exact h.cl _ hc _ hx
def gv (val : List Int) (l : Int) : Option Int := val[(vr l).toNat]?
theorem gv_neg (val : List Int) (l : Int) : gv val (-l) = gv val l := by unfold gv; rw [vr_neg]
structure ValOk (n : Int) (F : List (List Int)) (S : List Int) (val : List Int) : Prop where
  len : (val.length : Int) = n + 1
  own : ∀ (v : Nat) x, val[v]? = some x → x = 0 ∨ (x ≠ 0 ∧ vr x = v)
  sound : ∀ (v : Nat) x, val[v]? = some x → x ≠ 0 → UP F S x
theorem ValOk.get {n : Int} {F : List (List Int)} {S : List Int} {val : List Int} (h : ValOk n F S val) {l : Int} (hl : vr l ≤ n) : ∃ x, gv val l = some x ∧ idx val (vr l) = some x ∧ (x = 0 ∨ x = l ∨ x = -l) := by
  have h0 := vr_nn l
  obtain ⟨x, hx⟩ := get_of_lt (show (vr l).toNat < val.length by have := h.len; omega)
  refine ⟨x, hx, idx_of h0 hx, ?_⟩
  rcases h.own _ x hx with h1 | ⟨_, h1⟩
  · exact Or.inl h1
  · exact Or.inr (vr_eq.1 (by omega))
theorem ValOk.up {n : Int} {F : List (List Int)} {S : List Int} {val : List Int} (h : ValOk n F S val) {l : Int} (h0 : l ≠ 0) (hl : gv val l = some l) : UP F S l := h.sound _ l hl h0
theorem ValOk.set {n : Int} {F : List (List Int)} {S : List Int} {val : List Int} (h : ValOk n F S val) {l : Int} (h0 : l ≠ 0) (hl : vr l ≤ n) (hu : UP F S l) : ValOk n F S (val.set (vr l).toNat l) := by
  have hv := vr_nn l
  refine ⟨by rw [List.length_set]; exact h.len, fun v x hx => ?_, fun v x hx hx0 => ?_⟩
  · rw [List.getElem?_set] at hx
    split at hx
    · rename_i e
      split at hx
      · obtain rfl := Option.some.inj hx
        exact Or.inr ⟨h0, by omega⟩
      · cases hx
    · exact h.own v x hx
  · rw [List.getElem?_set] at hx
    split at hx
    · split at hx
      · obtain rfl := Option.some.inj hx; exact hu
      · cases hx
    · exact h.sound v x hx hx0
theorem gv_set {n : Int} {val : List Int} {l m : Int} (hlen : (val.length : Int) = n + 1) (hl : vr l ≤ n) : gv (val.set (vr l).toNat l) m = if vr m = vr l then some l else gv val m := by
  unfold gv
  have h1 := vr_nn l
  have h2 := vr_nn m
  rw [List.getElem?_set]
  by_cases e : vr m = vr l
  · rw [if_pos (by omega), if_pos (by omega), if_pos e]
  · rw [if_neg (by omega), if_neg e]
def Good (val c : List Int) : Prop := (∃ y ∈ c, gv val y = some y) ∨ ∃ y ∈ c, ∃ z ∈ c, y ≠ z ∧ gv val y = some 0 ∧ gv val z = some 0
theorem closed_up {n : Int} {F : List (List Int)} {S : List Int} {val : List Int} (hL : Lits n F S) (h : ValOk n F S val) (hs : ∀ l ∈ S, gv val l = some l) (hg : ∀ c ∈ F, Good val c) : ∀ {l}, UP F S l → gv val l = some l := by
  intro l hl
  induction hl with
  | start hm => exact hs _ hm
  | @unit c x hc hx hy ih =>
    rcases hg c hc with ⟨y, hyc, h1⟩ | ⟨y, hyc, z, hzc, hyz, h1, h2⟩
    · by_cases e : y = x
      · rw [← e]; exact h1
      · have := ih y hyc e
        rw [gv_neg, h1] at this
        have := Option.some.inj this
        exact absurd (show y = 0 by omega) (hL.cl c hc y hyc).1
    · by_cases e : y = x
      · have := ih z hzc (by rw [← e]; exact fun e' => hyz e'.symm)
        rw [gv_neg, h2] at this
        have := Option.some.inj this
        exact absurd (show z = 0 by omega) (hL.cl c hc z hzc).1
      · have := ih y hyc e
        rw [gv_neg, h1] at this
        have := Option.some.inj this
        exact absurd (show y = 0 by omega) (hL.cl c hc y hyc).1
theorem closed_ok {n : Int} {F : List (List Int)} {S : List Int} {val : List Int} (hL : Lits n F S) (h : ValOk n F S val) (hs : ∀ l ∈ S, gv val l = some l) (hg : ∀ c ∈ F, Good val c) : ¬ Fails F S := by
  rintro (⟨l, h1, h2⟩ | ⟨c, hc, hy⟩)
  · have e1 := closed_up hL h hs hg h1
    have e2 := closed_up hL h hs hg h2
    rw [gv_neg, e1] at e2
    have := Option.some.inj e2
    exact (h1.lit hL).1 (by omega)
  · rcases hg c hc with ⟨y, hyc, h1⟩ | ⟨y, hyc, z, hzc, hyz, h1, h2⟩
    · have := closed_up hL h hs hg (hy y hyc)
      rw [gv_neg, h1] at this
      have := Option.some.inj this
      exact (hL.cl c hc y hyc).1 (by omega)
    · have := closed_up hL h hs hg (hy y hyc)
      rw [gv_neg, h1] at this
      have := Option.some.inj this
      exact (hL.cl c hc y hyc).1 (by omega)
def sOk (v x : Int) : Bool := decide (x ≠ 0) && decide (-v ≤ x) && decide (x ≤ v)
def PropOk (f : Formula) (S : List Int) (r : List Int × Bool × Int) : Prop :=
  if validB f = true ∧ ∀ x ∈ S, sOk f.vars x = true then
    r.2.2 = 0 ∧ ((r.2.1 = true ∧ ¬ Fails f.clauses S ∧ (r.1.Pairwise fun x y => vr x < vr y) ∧ ∀ x, x ∈ r.1 ↔ UP f.clauses S x) ∨ (r.2.1 = false ∧ r.1 = [] ∧ Fails f.clauses S))
  else r = ([], false, 1)
theorem PropOk.eq {f : Formula} {S : List Int} {r q : List Int × Bool × Int} (h1 : PropOk f S r) (h2 : PropOk f S q) : r = q := by
  unfold PropOk at *
  split at h1
  · rename_i hv
    rw [if_pos hv] at h2
    obtain ⟨r1, r2, r3⟩ := r
    obtain ⟨q1, q2, q3⟩ := q
    obtain ⟨e1, h1⟩ := h1
    obtain ⟨e2, h2⟩ := h2
    simp only at e1 e2 h1 h2
    subst e1 e2
    rcases h1 with ⟨rfl, a1, a2, a3⟩ | ⟨rfl, rfl, a1⟩ <;> rcases h2 with ⟨rfl, b1, b2, b3⟩ | ⟨rfl, rfl, b1⟩
    · rw [rising_ext (r := fun x y => vr x < vr y) (fun a => by omega) (fun a b c h1 h2 => by omega) a2 b2 (fun x => by rw [a3, b3])]
    · exact absurd b1 a1
    · exact absurd a1 b1
    · rfl
  · rename_i hv
    rw [if_neg hv] at h2
    rw [h1, h2]
end Go.Proofs.YtfajmelamonolaaGreatDoor

/- Clauses of which two literals are watched: what holds of the lists whatever is looked at next. No program in sight. -/
set_option linter.unusedVariables false
set_option linter.unusedSimpArgs false
namespace Go.Proofs.YtfajmelamonolaaGreatDoor
open Go.RowKit
def ixL (l : Int) : Nat := (if l < 0 then -2 * l + 1 else 2 * l).toNat
theorem ixL_inj {l m : Int} (h : ixL l = ixL m) : l = m := by
  unfold ixL at h; split at h <;> split at h <;> omega
def Pair (c : List Int) (w o : Int) : Prop := (c[0]? = some w ∧ c[1]? = some o) ∨ (c[1]? = some w ∧ c[0]? = some o)
theorem Pair.comm {c : List Int} {w o : Int} (h : Pair c w o) : Pair c o w := by
  rcases h with ⟨a, b⟩ | ⟨a, b⟩
  · exact Or.inr ⟨b, a⟩
  · exact Or.inl ⟨b, a⟩
theorem Pair.mem {c : List Int} {w o : Int} (h : Pair c w o) : w ∈ c ∧ o ∈ c := by
  rcases h with ⟨a, b⟩ | ⟨a, b⟩
  · exact ⟨mem_get a, mem_get b⟩
  · exact ⟨mem_get a, mem_get b⟩
theorem nodup_ix {α : Type} : ∀ {c : List α}, c.Nodup → ∀ {i j : Nat} {a : α}, c[i]? = some a → c[j]? = some a → i = j
  | [], _, i, j, a, h, _ => by simp at h
  | x :: c, hn, 0, 0, a, _, _ => rfl
  | x :: c, hn, 0, j + 1, a, h1, h2 => by
    simp only [List.getElem?_cons_zero, Option.some.injEq] at h1
    rw [List.getElem?_cons_succ] at h2
    exact absurd (h1 ▸ mem_get h2) (List.nodup_cons.1 hn).1
  | x :: c, hn, i + 1, 0, a, h1, h2 => by
    simp only [List.getElem?_cons_zero, Option.some.injEq] at h2
    rw [List.getElem?_cons_succ] at h1
    exact absurd (h2 ▸ mem_get h1) (List.nodup_cons.1 hn).1
  | x :: c, hn, i + 1, j + 1, a, h1, h2 => by
    rw [List.getElem?_cons_succ] at h1 h2
    rw [nodup_ix (List.nodup_cons.1 hn).2 h1 h2]
theorem Pair.ne {c : List Int} {w o : Int} (hn : c.Nodup) (h : Pair c w o) : w ≠ o := by
  rintro rfl
  rcases h with ⟨a, b⟩ | ⟨a, b⟩
  · have := nodup_ix hn a b; omega
  · have := nodup_ix hn a b; omega
theorem Pair.other {c : List Int} {l o w p : Int} (h : Pair c l o) (h' : Pair c w p) : (w = l ∧ p = o) ∨ (w = o ∧ p = l) := by
  rcases h with ⟨a, b⟩ | ⟨a, b⟩ <;> rcases h' with ⟨a', b'⟩ | ⟨a', b'⟩
  · exact Or.inl ⟨Option.some.inj (a'.symm.trans a), Option.some.inj (b'.symm.trans b)⟩
  · exact Or.inr ⟨Option.some.inj (a'.symm.trans b), Option.some.inj (b'.symm.trans a)⟩
  · exact Or.inr ⟨Option.some.inj (a'.symm.trans b), Option.some.inj (b'.symm.trans a)⟩
  · exact Or.inl ⟨Option.some.inj (a'.symm.trans a), Option.some.inj (b'.symm.trans b)⟩
theorem UP.mono {F G : List (List Int)} {S T : List Int} (hF : ∀ c ∈ F, c ∈ G) (hS : ∀ x ∈ S, x ∈ T) : ∀ {x}, UP F S x → UP G T x := by
  intro x h
  induction h with
  | start h => exact .start (hS _ h)
  | unit hc hx _ ih => exact .unit (hF _ hc) hx ih
structure Eng (n : Int) (F : List (List Int)) (S : List Int) (np nc : Nat) (D : Nat → Int → Prop) (val trail : List Int) (ws : List (List Nat)) (cl : List (List Int)) : Prop where
  vo : ValOk n F S val
  tr : ∀ x, x ∈ trail ↔ x ≠ 0 ∧ gv val x = some x
  nd : trail.Nodup
  nn : np ≤ nc ∧ nc ≤ trail.length
  bs : ∀ x ∈ trail.take nc, UP F [] x
  wl : (ws.length : Int) = 2 * n + 2
  ok : ∀ (id : Nat) c, cl[id]? = some c → 2 ≤ c.length ∧ c.Nodup ∧ ∀ y ∈ c, y ≠ 0 ∧ vr y ≤ n
  src : ∀ (id : Nat) c, cl[id]? = some c → ∃ o ∈ F, (∀ y ∈ c, y ∈ o) ∧ ∀ y ∈ o, y ∉ c → -y ∈ trail.take nc
  cov : ∀ o ∈ F, (∃ y ∈ o, y ∈ trail.take nc) ∨ ∃ (id : Nat) (c : List Int), cl[id]? = some c ∧ ∀ y ∈ c, y ∈ o
  row : ∀ (r : Nat) ids, ws[r]? = some ids → ids.Nodup ∧ ∀ id, id ∈ ids ↔ ∃ c w o, cl[id]? = some c ∧ Pair c w o ∧ ixL w = r
  base : ∀ (id : Nat) c w o, cl[id]? = some c → Pair c w o → -w ∈ trail.take np → o ∈ trail.take np
  pr : ∀ (id : Nat) c w o, cl[id]? = some c → Pair c w o → D id w → o ∈ trail
section
variable {n : Int} {F : List (List Int)} {S : List Int} {np nc : Nat} {D : Nat → Int → Prop} {val trail : List Int} {ws : List (List Nat)} {cl : List (List Int)}
theorem Eng.less (h : Eng n F S np nc D val trail ws cl) {D' : Nat → Int → Prop} (hD : ∀ id w, D' id w → D id w) : Eng n F S np nc D' val trail ws cl :=
  { h with pr := fun id c w o h1 h2 h3 => h.pr id c w o h1 h2 (hD _ _ h3) }
theorem Eng.up (h : Eng n F S np nc D val trail ws cl) {x : Int} (hx : x ∈ trail) : UP F S x := h.vo.up ((h.tr x).1 hx).1 ((h.tr x).1 hx).2
theorem Eng.opp (h : Eng n F S np nc D val trail ws cl) {x : Int} (hx : x ∈ trail) (hn : -x ∈ trail) : False := by
  have h1 := (h.tr x).1 hx
  have h2 := (h.tr (-x)).1 hn
  rw [gv_neg, h1.2] at h2
  have := Option.some.inj h2.2
  exact h1.1 (by omega)
theorem Eng.cases (h : Eng n F S np nc D val trail ws cl) {x : Int} (h0 : x ≠ 0) (hx : vr x ≤ n) : (gv val x = some x ∧ x ∈ trail) ∨ (gv val x = some (-x) ∧ -x ∈ trail) ∨ (gv val x = some 0 ∧ x ∉ trail ∧ -x ∉ trail) := by
  obtain ⟨y, h1, _, h2⟩ := h.vo.get hx
  rcases h2 with rfl | rfl | rfl
  · refine Or.inr (Or.inr ⟨h1, fun hm => ?_, fun hm => ?_⟩)
    · have := ((h.tr x).1 hm).2; rw [h1] at this; exact h0 (Option.some.inj this).symm
    · have := ((h.tr (-x)).1 hm).2; rw [gv_neg, h1] at this; have := Option.some.inj this; omega
  · exact Or.inl ⟨h1, (h.tr _).2 ⟨h0, h1⟩⟩
  · exact Or.inr (Or.inl ⟨h1, (h.tr _).2 ⟨by omega, by rw [gv_neg]; exact h1⟩⟩)
theorem Eng.done (h : Eng n F S np nc D val trail ws cl) {id : Nat} {c : List Int} {l o : Int} (hc : cl[id]? = some c) (hp : Pair c l o) (ho : o ∈ trail) : Eng n F S np nc (fun i w => D i w ∨ (i = id ∧ w = l)) val trail ws cl := by
  refine { h with pr := fun i c' w p h1 h2 h3 => ?_ }
  rcases h3 with h3 | ⟨rfl, rfl⟩
  · exact h.pr i c' w p h1 h2 h3
  · obtain rfl := Option.some.inj (hc.symm.trans h1)
    rcases hp.other h2 with ⟨_, rfl⟩ | ⟨e, _⟩
    · exact ho
    · exact absurd e (hp.ne (h.ok _ _ hc).2.1)
structure Same (c c' : List Int) : Prop where
  len : c'.length = c.length
  nd : c'.Nodup
  mem : ∀ y, y ∈ c' ↔ y ∈ c
theorem get_set_cases {α : Type} {l : List α} {i j : Nat} {a b : α} (h : (l.set i a)[j]? = some b) : (j = i ∧ b = a) ∨ (j ≠ i ∧ l[j]? = some b) := by
  rw [List.getElem?_set] at h
  split at h
  · rename_i e
    split at h
    · exact Or.inl ⟨e.symm, (Option.some.inj h).symm⟩
    · cases h
  · rename_i e
    exact Or.inr ⟨fun e' => e e'.symm, h⟩
theorem get_set_ne {α : Type} {l : List α} {i j : Nat} {a : α} (h : j ≠ i) : (l.set i a)[j]? = l[j]? := by
  rw [List.getElem?_set, if_neg (fun e => h e.symm)]
theorem get_set_eq {α : Type} {l : List α} {i : Nat} {a b : α} (h : l[i]? = some b) : (l.set i a)[i]? = some a := by
  rw [List.getElem?_set, if_pos rfl, if_pos (List.getElem?_eq_some_iff.1 h).1]
theorem Eng.turn (h : Eng n F S np nc D val trail ws cl) {id : Nat} {c c' : List Int} (hc : cl[id]? = some c) (hs : Same c c') (hp : ∀ w o, Pair c' w o ↔ Pair c w o) : Eng n F S np nc D val trail ws (cl.set id c') := by
  have back : ∀ (i : Nat) d, (cl.set id c')[i]? = some d → ∃ d0, cl[i]? = some d0 ∧ (∀ y, y ∈ d ↔ y ∈ d0) ∧ ∀ w o, Pair d w o ↔ Pair d0 w o := fun i d hd => by
    rcases get_set_cases hd with ⟨rfl, rfl⟩ | ⟨_, hd⟩
    · exact ⟨c, hc, hs.mem, hp⟩
    · exact ⟨d, hd, fun _ => Iff.rfl, fun _ _ => Iff.rfl⟩
  have forth : ∀ (i : Nat) d, cl[i]? = some d → ∃ d', (cl.set id c')[i]? = some d' ∧ (∀ y, y ∈ d' ↔ y ∈ d) ∧ ∀ w o, Pair d' w o ↔ Pair d w o := fun i d hd => by
    by_cases e : i = id
    · subst e
      obtain rfl := Option.some.inj (hc.symm.trans hd)
      exact ⟨c', get_set_eq hc, hs.mem, hp⟩
    · exact ⟨d, by rw [get_set_ne e]; exact hd, fun _ => Iff.rfl, fun _ _ => Iff.rfl⟩
  refine { h with ok := fun i d hd => ?_, src := fun i d hd => ?_, cov := fun o ho => ?_, row := fun r ids hr => ?_, base := fun i d w o hd hw hb => ?_, pr := fun i d w o hd hw hb => ?_ }
  · rcases get_set_cases hd with ⟨rfl, rfl⟩ | ⟨_, hd⟩
    · have := h.ok _ _ hc
      exact ⟨by rw [hs.len]; exact this.1, hs.nd, fun y hy => this.2.2 y ((hs.mem y).1 hy)⟩
    · exact h.ok _ _ hd
  · obtain ⟨d0, h1, h2, _⟩ := back i d hd
    obtain ⟨o, ho, h3, h4⟩ := h.src i d0 h1
    exact ⟨o, ho, fun y hy => h3 y ((h2 y).1 hy), fun y hy hn => h4 y hy fun hm => hn ((h2 y).2 hm)⟩
  · rcases h.cov o ho with h1 | ⟨i, d, h1, h2⟩
    · exact Or.inl h1
    · obtain ⟨d', h3, h4, _⟩ := forth i d h1
      exact Or.inr ⟨i, d', h3, fun y hy => h2 y ((h4 y).1 hy)⟩
  · obtain ⟨h1, h2⟩ := h.row r ids hr
    refine ⟨h1, fun i => (h2 i).trans ⟨?_, ?_⟩⟩
    · rintro ⟨d, w, o, h3, h4, h5⟩
      obtain ⟨d', h6, _, h7⟩ := forth i d h3
      exact ⟨d', w, o, h6, (h7 w o).2 h4, h5⟩
    · rintro ⟨d, w, o, h3, h4, h5⟩
      obtain ⟨d0, h6, _, h7⟩ := back i d h3
      exact ⟨d0, w, o, h6, (h7 w o).1 h4, h5⟩
  · obtain ⟨d0, h1, _, h2⟩ := back i d hd
    exact h.base i d0 w o h1 ((h2 w o).1 hw) hb
  · obtain ⟨d0, h1, _, h2⟩ := back i d hd
    exact h.pr i d0 w o h1 ((h2 w o).1 hw) hb
theorem Eng.hold (h : Eng n F S np nc D val trail ws cl) {x : Int} (h0 : x ≠ 0) (hx : vr x ≤ n) (hz : gv val x = some 0) (hu : UP F S x) : Eng n F S np nc D (val.set (vr x).toNat x) (trail ++ [x]) ws cl := by
  have hnx : x ∉ trail := fun hm => by have := ((h.tr x).1 hm).2; rw [hz] at this; exact h0 (Option.some.inj this).symm
  have hnn : -x ∉ trail := fun hm => by have := ((h.tr (-x)).1 hm).2; rw [gv_neg, hz] at this; have := Option.some.inj this; omega
  have ht : ∀ k, k ≤ trail.length → (trail ++ [x]).take k = trail.take k := fun k hk => List.take_append_of_le_length hk
  have e1 := ht np (Nat.le_trans h.nn.1 h.nn.2)
  have e2 := ht nc h.nn.2
  refine { vo := h.vo.set h0 hx hu, tr := fun y => ?_, nd := ?_, nn := ⟨h.nn.1, by rw [List.length_append]; have := h.nn.2; omega⟩, bs := by rw [e2]; exact h.bs, wl := h.wl, ok := h.ok, src := by rw [e2]; exact h.src, cov := by rw [e2]; exact h.cov, row := h.row, base := by rw [e1]; exact h.base, pr := fun id c w o a b d => List.mem_append_left _ (h.pr id c w o a b d) }
  · rw [gv_set h.vo.len hx, List.mem_append, List.mem_singleton]
    by_cases e : vr y = vr x
    · rw [if_pos e]
      rcases vr_eq.1 e with rfl | rfl
      · exact ⟨fun _ => ⟨h0, rfl⟩, fun _ => Or.inr rfl⟩
      · constructor
        · rintro (hm | hm)
          · exact absurd hm hnn
          · omega
        · rintro ⟨_, hm⟩
          have := Option.some.inj hm; omega
    · rw [if_neg e]
      refine ⟨fun hm => (h.tr y).1 (hm.resolve_right fun e' => e (by rw [e'])), fun hm => Or.inl ((h.tr y).2 hm)⟩
  · rw [List.nodup_append]
    exact ⟨h.nd, by simp, fun a ha b hb => by rw [List.mem_singleton] at hb; subst hb; exact fun e => hnx (e ▸ ha)⟩
theorem Eng.unit (h : Eng n F S np nc D val trail ws cl) {id : Nat} {c : List Int} {x : Int} (hc : cl[id]? = some c) (hx : x ∈ c) (hall : ∀ y ∈ c, y ≠ x → -y ∈ trail) : UP F S x := by
  obtain ⟨o, ho, h1, h2⟩ := h.src id c hc
  refine .unit ho (h1 x hx) fun y hy hne => h.up ?_
  by_cases hm : y ∈ c
  · exact hall y hm hne
  · exact List.mem_of_mem_take (h2 y hy hm)
theorem Eng.fail (h : Eng n F S np nc D val trail ws cl) {id : Nat} {c : List Int} (hc : cl[id]? = some c) (hall : ∀ y ∈ c, -y ∈ trail) : Fails F S := by
  obtain ⟨o, ho, h1, h2⟩ := h.src id c hc
  refine Or.inr ⟨o, ho, fun y hy => h.up ?_⟩
  by_cases hm : y ∈ c
  · exact hall y hm
  · exact List.mem_of_mem_take (h2 y hy hm)
theorem Eng.move (h : Eng n F S np nc D val trail ws cl) {id : Nat} {c c' : List Int} {l o y : Int} {V1 V2 R : List Nat} (hc : cl[id]? = some c) (hs : Same c c') (hp : Pair c l o) (hp' : Pair c' y o) (hyl : y ≠ l) (hyo : y ≠ o)
    (hl : -l ∈ trail) (hy : -y ∉ trail) (ho : o ∉ trail) (hD : ∀ i w, D i w → -w ∈ trail) (hr : ws[ixL l]? = some (V1 ++ id :: V2)) (hR : ws[ixL y]? = some R) :
    Eng n F S np nc D val trail ((ws.set (ixL y) (R ++ [id])).set (ixL l) (V1 ++ V2)) (cl.set id c') := by
  have hlo := hp.ne (h.ok _ _ hc).2.1
  have hix : ixL y ≠ ixL l := fun e => hyl (ixL_inj e)
  refine { vo := h.vo, tr := h.tr, nd := h.nd, nn := h.nn, bs := h.bs, wl := by rw [List.length_set, List.length_set]; exact h.wl, ok := fun i d hd => ?_, src := fun i d hd => ?_, cov := fun q hq => ?_, row := fun r ids hrr => ?_, base := fun i d w p hd hw hb => ?_, pr := fun i d w p hd hw hb => ?_ }
  · rcases get_set_cases hd with ⟨rfl, rfl⟩ | ⟨_, hd⟩
    · have := h.ok _ _ hc
      exact ⟨by rw [hs.len]; exact this.1, hs.nd, fun y hy => this.2.2 y ((hs.mem y).1 hy)⟩
    · exact h.ok _ _ hd
  · rcases get_set_cases hd with ⟨rfl, rfl⟩ | ⟨_, hd⟩
    · obtain ⟨q, hq, h3, h4⟩ := h.src _ c hc
      exact ⟨q, hq, fun z hz => h3 z ((hs.mem z).1 hz), fun z hz hn => h4 z hz fun hm => hn ((hs.mem z).2 hm)⟩
    · exact h.src _ _ hd
  · rcases h.cov q hq with h1 | ⟨i, d, h1, h2⟩
    · exact Or.inl h1
    · by_cases e : i = id
      · subst e
        obtain rfl := Option.some.inj (hc.symm.trans h1)
        exact Or.inr ⟨i, c', get_set_eq hc, fun z hz => h2 z ((hs.mem z).1 hz)⟩
      · exact Or.inr ⟨i, d, by rw [get_set_ne e]; exact h1, h2⟩
  ·
    have oth : ∀ i r', i ≠ id → ((∃ c w o, (cl.set id c')[i]? = some c ∧ Pair c w o ∧ ixL w = r') ↔ ∃ c w o, cl[i]? = some c ∧ Pair c w o ∧ ixL w = r') := fun i r' e => by rw [get_set_ne e]
    have own : ∀ r', (∃ d w p, (cl.set id c')[id]? = some d ∧ Pair d w p ∧ ixL w = r') ↔ (r' = ixL y ∨ r' = ixL o) := fun r' => by
      rw [get_set_eq hc]
      constructor
      · rintro ⟨d, w, p, h1, h2, h3⟩
        obtain rfl := Option.some.inj h1
        rcases hp'.other h2 with ⟨rfl, _⟩ | ⟨rfl, _⟩
        · exact Or.inl h3.symm
        · exact Or.inr h3.symm
      · rintro (rfl | rfl)
        · exact ⟨c', y, o, rfl, hp', rfl⟩
        · exact ⟨c', o, y, rfl, hp'.comm, rfl⟩
    have was : ∀ r', (∃ d w p, cl[id]? = some d ∧ Pair d w p ∧ ixL w = r') ↔ (r' = ixL l ∨ r' = ixL o) := fun r' => by
      constructor
      · rintro ⟨d, w, p, h1, h2, h3⟩
        obtain rfl := Option.some.inj (hc.symm.trans h1)
        rcases hp.other h2 with ⟨rfl, _⟩ | ⟨rfl, _⟩
        · exact Or.inl h3.symm
        · exact Or.inr h3.symm
      · rintro (rfl | rfl)
        · exact ⟨c, l, o, hc, hp, rfl⟩
        · exact ⟨c, o, l, hc, hp.comm, rfl⟩
    rcases get_set_cases hrr with ⟨rfl, rfl⟩ | ⟨hne, hrr⟩
    · obtain ⟨h1, h2⟩ := h.row _ _ hr
      have hn : id ∉ V1 ++ V2 := by
        intro hm
        rw [List.nodup_append] at h1
        obtain ⟨a1, a2, a3⟩ := h1
        rw [List.nodup_cons] at a2
        rcases List.mem_append.1 hm with hm | hm
        · exact a3 id hm id (List.mem_cons_self ..) rfl
        · exact a2.1 hm
      refine ⟨h1.sublist ((List.sublist_cons_self _ _).append_left _), fun i => ?_⟩
      by_cases e : i = id
      · subst e
        rw [own]
        refine ⟨fun hm => absurd hm hn, fun hm => ?_⟩
        rcases hm with hm | hm
        · exact absurd hm.symm hix
        · exact absurd (ixL_inj hm) hlo
      · rw [oth i _ e, ← h2 i]
        simp [e]
    · rcases get_set_cases hrr with ⟨rfl, rfl⟩ | ⟨hne2, hrr⟩
      · obtain ⟨h1, h2⟩ := h.row _ _ hR
        have hn : id ∉ R := fun hm => by
          rcases (was _).1 ((h2 id).1 hm) with e | e
          · exact hix e
          · exact hyo (ixL_inj e)
        refine ⟨?_, fun i => ?_⟩
        · rw [List.nodup_append]
          exact ⟨h1, by simp, fun a ha b hb => by rw [List.mem_singleton] at hb; subst hb; exact fun e => hn (e ▸ ha)⟩
        · by_cases e : i = id
          · subst e
            rw [own]
            exact ⟨fun _ => Or.inl rfl, fun _ => by simp⟩
          · rw [oth i _ e, ← h2 i]
            simp [e]
      · obtain ⟨h1, h2⟩ := h.row _ _ hrr
        refine ⟨h1, fun i => ?_⟩
        by_cases e : i = id
        · subst e
          rw [own, h2 i, was]
          exact ⟨fun hm => Or.inr (hm.resolve_left hne), fun hm => Or.inr (hm.resolve_left hne2)⟩
        · rw [oth i _ e, ← h2 i]
  · rcases get_set_cases hd with ⟨rfl, rfl⟩ | ⟨_, hd⟩
    · rcases hp'.other hw with ⟨rfl, _⟩ | ⟨rfl, _⟩
      · exact absurd (List.mem_of_mem_take hb) hy
      · have := h.base _ _ _ _ hc hp.comm hb
        exact (h.opp (List.mem_of_mem_take this) hl).elim
    · exact h.base _ _ _ _ hd hw hb
  · rcases get_set_cases hd with ⟨rfl, rfl⟩ | ⟨_, hd⟩
    · rcases hp'.other hw with ⟨rfl, _⟩ | ⟨rfl, rfl⟩
      · exact absurd (hD _ _ hb) hy
      · have := h.pr _ _ _ _ hc hp.comm hb
        exact (h.opp this hl).elim
    · exact h.pr _ _ _ _ hd hw hb
theorem Eng.closed (h : Eng n F S np nc D val trail ws cl) (hD : ∀ id w, -w ∈ trail → D id w) : ∀ o ∈ F, Good val o := by
  intro o ho
  rcases h.cov o ho with ⟨y, hy, hm⟩ | ⟨id, c, hc, hsub⟩
  · exact Or.inl ⟨y, hy, ((h.tr y).1 (List.mem_of_mem_take hm)).2⟩
  · obtain ⟨h1, h2, h3⟩ := h.ok id c hc
    obtain ⟨a, ha⟩ := get_of_lt (show 0 < c.length by omega)
    obtain ⟨b, hb⟩ := get_of_lt (show 1 < c.length by omega)
    have hp : Pair c a b := Or.inl ⟨ha, hb⟩
    have hA := h3 a (mem_get ha)
    have hB := h3 b (mem_get hb)
    have good : ∀ y ∈ c, y ∈ trail → Good val o := fun y hy hm => Or.inl ⟨y, hsub y hy, ((h.tr y).1 hm).2⟩
    rcases h.cases hA.1 hA.2 with ⟨_, hm⟩ | ⟨_, hm⟩ | ⟨ea, _, _⟩
    · exact good a (mem_get ha) hm
    · exact good b (mem_get hb) (h.pr id c a b hc hp (hD id a hm))
    · rcases h.cases hB.1 hB.2 with ⟨_, hm⟩ | ⟨_, hm⟩ | ⟨eb, _, _⟩
      · exact good b (mem_get hb) hm
      · exact good a (mem_get ha) (h.pr id c b a hc hp.comm (hD id b hm))
      · exact Or.inr ⟨a, hsub a (mem_get ha), b, hsub b (mem_get hb), hp.ne h2, ea, eb⟩
theorem Eng.rebase (h : Eng n F [] np nc D val trail ws cl) (hD : ∀ id w, -w ∈ trail → D id w) : Eng n F [] trail.length trail.length (fun _ w => -w ∈ trail) val trail ws cl := by
  have e : trail.take trail.length = trail := List.take_length
  refine { vo := h.vo, tr := h.tr, nd := h.nd, nn := ⟨Nat.le_refl _, Nat.le_refl _⟩, bs := fun x hx => h.up (by rw [e] at hx; exact hx), wl := h.wl, ok := h.ok, src := fun id c hc => ?_, cov := fun o ho => ?_, row := h.row, base := fun id c w o hc hp hb => ?_, pr := fun id c w o hc hp hb => h.pr id c w o hc hp (hD id w hb) }
  · obtain ⟨o, ho, h1, h2⟩ := h.src id c hc
    exact ⟨o, ho, h1, fun y hy hn => by rw [e]; exact List.mem_of_mem_take (h2 y hy hn)⟩
  · rcases h.cov o ho with ⟨y, hy, hm⟩ | h1
    · exact Or.inl ⟨y, hy, by rw [e]; exact List.mem_of_mem_take hm⟩
    · exact Or.inr h1
  · rw [e] at hb ⊢
    exact h.pr id c w o hc hp (hD id w hb)
theorem Eng.reset (h : Eng n F S np np D val trail ws cl) {val' : List Int} (hl : val'.length = val.length) (hv : ∀ (v : Nat), (∃ x ∈ trail.drop np, (vr x).toNat = v) → val'[v]? = some 0 ∨ val.length ≤ v) (hk : ∀ (v : Nat), (∀ x ∈ trail.drop np, (vr x).toNat ≠ v) → val'[v]? = val[v]?) (T : List Int) :
    Eng n F T np np (fun _ w => -w ∈ trail.take np) val' (trail.take np) ws cl := by
  have e : (trail.take np).take np = trail.take np := by rw [List.take_take, Nat.min_self]
  have hdis : ∀ x, x ∈ trail.take np → x ∉ trail.drop np := fun x h1 h2 => by
    have hn := h.nd
    rw [← List.take_append_drop np trail, List.nodup_append] at hn
    exact hn.2.2 x h1 x h2 rfl
  have sp : ∀ x, x ∈ trail → x ∈ trail.take np ∨ x ∈ trail.drop np := fun x hx => by
    rw [← List.take_append_drop np trail] at hx; exact List.mem_append.1 hx
  have stay : ∀ (v : Nat) x, val'[v]? = some x → x ≠ 0 → val[v]? = some x ∧ ∀ z ∈ trail.drop np, (vr z).toNat ≠ v := fun v x hx h0 => by
    by_cases hz : ∃ z ∈ trail.drop np, (vr z).toNat = v
    · rcases hv v hz with e1 | e1
      · rw [e1] at hx; exact absurd (Option.some.inj hx).symm h0
      · have := len_lt hx; omega
    · have hz' : ∀ z ∈ trail.drop np, (vr z).toNat ≠ v := fun z h1 h2 => hz ⟨z, h1, h2⟩
      rw [hk v hz'] at hx
      exact ⟨hx, hz'⟩
  have tr' : ∀ x, x ∈ trail.take np ↔ x ≠ 0 ∧ gv val' x = some x := fun x => by
    constructor
    · intro hx
      have h1 := (h.tr x).1 (List.mem_of_mem_take hx)
      refine ⟨h1.1, ?_⟩
      have : ∀ z ∈ trail.drop np, (vr z).toNat ≠ (vr x).toNat := fun z hz e1 => by
        have a := vr_nn z
        have b := vr_nn x
        rcases vr_eq.1 (show vr z = vr x by omega) with rfl | rfl
        · exact hdis _ hx hz
        · exact h.opp (List.mem_of_mem_take hx) (List.mem_of_mem_drop hz)
      unfold gv
      rw [hk _ this]
      exact h1.2
    · rintro ⟨h0, hx⟩
      obtain ⟨h1, h2⟩ := stay _ x hx h0
      have hm := (h.tr x).2 ⟨h0, h1⟩
      rcases sp x hm with hm | hm
      · exact hm
      · exact absurd rfl (h2 x hm)
  refine { vo := ⟨by have := h.vo.len; omega, fun v x hx => ?_, fun v x hx h0 => ?_⟩, tr := tr', nd := h.nd.sublist (List.take_sublist _ _), nn := ⟨Nat.le_refl _, by rw [List.length_take]; have := h.nn.2; omega⟩, bs := by rw [e]; exact h.bs, wl := h.wl, ok := h.ok, src := by rw [e]; exact h.src, cov := by rw [e]; exact h.cov, row := h.row, base := by rw [e]; exact h.base, pr := fun id c w o hc hp hb => h.base id c w o hc hp hb }
  · by_cases h0 : x = 0
    · exact Or.inl h0
    · exact h.vo.own v x (stay v x hx h0).1
  · have h1 := stay v x hx h0
    have h2 : gv val x = some x := by
      rcases h.vo.own v x h1.1 with e1 | ⟨_, e1⟩
      · exact absurd e1 h0
      · unfold gv; rw [e1]; simpa using h1.1
    have hm := (h.tr x).2 ⟨h0, h2⟩
    rcases sp x hm with hm | hm
    · exact (h.bs x hm).mono (fun _ h => h) (by simp)
    · have : (vr x).toNat = v := by
        rcases h.vo.own v x h1.1 with e1 | ⟨_, e1⟩
        · exact absurd e1 h0
        · omega
      exact absurd this (h1.2 x hm)
end
end Go.Proofs.YtfajmelamonolaaGreatDoor

/- Clauses of which two literals are watched: a further clause. No program in sight. -/
set_option linter.unusedVariables false
set_option linter.unusedSimpArgs false
namespace Go.Proofs.YtfajmelamonolaaGreatDoor
open Go.RowKit
theorem ValOk.mono {n : Int} {F G : List (List Int)} {S T val : List Int} (h : ValOk n F S val) (hF : ∀ c ∈ F, c ∈ G) (hS : ∀ x ∈ S, x ∈ T) : ValOk n G T val :=
  ⟨h.len, h.own, fun v x hx h0 => (h.sound v x hx h0).mono hF hS⟩
theorem Fails.mono {F G : List (List Int)} {S T : List Int} (hF : ∀ c ∈ F, c ∈ G) (hS : ∀ x ∈ S, x ∈ T) : Fails F S → Fails G T := by
  rintro (⟨l, a, b⟩ | ⟨c, hc, hy⟩)
  · exact Or.inl ⟨l, a.mono hF hS, b.mono hF hS⟩
  · exact Or.inr ⟨c, hF c hc, fun y h => (hy y h).mono hF hS⟩
section
variable {n : Int} {F : List (List Int)} {S : List Int} {np nc : Nat} {D : Nat → Int → Prop} {val trail : List Int} {ws : List (List Nat)} {cl : List (List Int)}
theorem Eng.assume (h : Eng n F [] np nc D val trail ws cl) (S : List Int) : Eng n F S np nc D val trail ws cl :=
  { h with vo := h.vo.mono (fun _ h => h) (by simp) }
theorem Eng.addSat (h : Eng n F S np nc D val trail ws cl) {q : List Int} {y : Int} (hy : y ∈ q) (hm : y ∈ trail.take nc) : Eng n (F ++ [q]) S np nc D val trail ws cl := by
  have hF : ∀ c ∈ F, c ∈ F ++ [q] := fun c hc => List.mem_append_left _ hc
  refine { h with vo := h.vo.mono hF (fun _ h => h), bs := fun x hx => (h.bs x hx).mono hF (fun _ h => h), src := fun id c hc => ?_, cov := fun o ho => ?_ }
  · obtain ⟨o, ho, h1⟩ := h.src id c hc
    exact ⟨o, hF o ho, h1⟩
  · rcases List.mem_append.1 ho with ho | ho
    · exact h.cov o ho
    · rw [List.mem_singleton] at ho
      subst ho
      exact Or.inl ⟨y, hy, hm⟩
theorem Eng.addUnit (h : Eng n F [] trail.length trail.length D val trail ws cl) {q : List Int} {x : Int} (hx : x ∈ q) (h0 : x ≠ 0) (hn : vr x ≤ n) (hz : gv val x = some 0) (hall : ∀ y ∈ q, y ≠ x → -y ∈ trail) :
    Eng n (F ++ [q]) [] trail.length (trail.length + 1) D (val.set (vr x).toNat x) (trail ++ [x]) ws cl := by
  have hF : ∀ c ∈ F, c ∈ F ++ [q] := fun c hc => List.mem_append_left _ hc
  have hu : UP (F ++ [q]) [] x := .unit (List.mem_append_right _ (List.mem_singleton.2 rfl)) hx fun y hy hne => (h.up (hall y hy hne)).mono hF (fun _ h => h)
  have hnx : x ∉ trail := fun hm => by have := ((h.tr x).1 hm).2; rw [hz] at this; exact h0 (Option.some.inj this).symm
  have hnn : -x ∉ trail := fun hm => by have := ((h.tr (-x)).1 hm).2; rw [gv_neg, hz] at this; have := Option.some.inj this; omega
  have e1 : (trail ++ [x]).take trail.length = trail := List.take_left' rfl
  have e2 : (trail ++ [x]).take (trail.length + 1) = trail ++ [x] := List.take_of_length_le (by simp)
  have e3 : trail.take trail.length = trail := List.take_length
  refine { vo := (h.vo.mono hF (fun _ h => h)).set h0 hn hu, tr := fun y => ?_, nd := ?_, nn := ⟨by omega, by simp⟩, bs := fun y hy => ?_, wl := h.wl, ok := h.ok, src := fun id c hc => ?_, cov := fun o ho => ?_, row := h.row, base := ?_, pr := fun id c w o a b d => List.mem_append_left _ (h.pr id c w o a b d) }
  · rw [gv_set h.vo.len hn, List.mem_append, List.mem_singleton]
    by_cases e : vr y = vr x
    · rw [if_pos e]
      rcases vr_eq.1 e with rfl | rfl
      · exact ⟨fun _ => ⟨h0, rfl⟩, fun _ => Or.inr rfl⟩
      · constructor
        · rintro (hm | hm)
          · exact absurd hm hnn
          · omega
        · rintro ⟨_, hm⟩
          have := Option.some.inj hm; omega
    · rw [if_neg e]
      refine ⟨fun hm => (h.tr y).1 (hm.resolve_right fun e' => e (by rw [e'])), fun hm => Or.inl ((h.tr y).2 hm)⟩
  · rw [List.nodup_append]
    exact ⟨h.nd, by simp, fun a ha b hb => by rw [List.mem_singleton] at hb; subst hb; exact fun e => hnx (e ▸ ha)⟩
  · rw [e2] at hy
    rcases List.mem_append.1 hy with hy | hy
    · exact (h.up hy).mono hF (fun _ h => h)
    · rw [List.mem_singleton.1 hy]; exact hu
  · obtain ⟨o, ho, h1, h2⟩ := h.src id c hc
    rw [e3] at h2
    exact ⟨o, hF o ho, h1, fun y hy hm => by rw [e2]; exact List.mem_append_left _ (h2 y hy hm)⟩
  · rw [e2]
    rcases List.mem_append.1 ho with ho | ho
    · rcases h.cov o ho with ⟨y, hy, hm⟩ | h1
      · rw [e3] at hm
        exact Or.inl ⟨y, hy, List.mem_append_left _ hm⟩
      · exact Or.inr h1
    · rw [List.mem_singleton] at ho
      subst ho
      exact Or.inl ⟨x, hx, List.mem_append_right _ (List.mem_singleton.2 rfl)⟩
  · rw [e1]
    intro id c w o a b d
    have := h.base id c w o a b
    rw [e3] at this
    exact this d
theorem Eng.addCl (h : Eng n F S np nc D val trail ws cl) {q d : List Int} {a b : Int} {Ra Rb : List Nat} (ha : d[0]? = some a) (hb : d[1]? = some b) (hnd : d.Nodup) (hlit : ∀ y ∈ d, y ≠ 0 ∧ vr y ≤ n) (hsub : ∀ y ∈ d, y ∈ q) (hout : ∀ y ∈ q, y ∉ d → -y ∈ trail.take nc)
    (hfa : -a ∉ trail) (hfb : -b ∉ trail) (hD : ∀ i w, D i w → -w ∈ trail) (hra : ws[ixL a]? = some Ra) (hrb : ws[ixL b]? = some Rb) :
    Eng n (F ++ [q]) S np nc D val trail ((ws.set (ixL a) (Ra ++ [cl.length])).set (ixL b) (Rb ++ [cl.length])) (cl ++ [d]) := by
  have hF : ∀ c ∈ F, c ∈ F ++ [q] := fun c hc => List.mem_append_left _ hc
  have hab : a ≠ b := by rintro rfl; have := nodup_ix hnd ha hb; omega
  have hix : ixL a ≠ ixL b := fun e => hab (ixL_inj e)
  have hp : Pair d a b := Or.inl ⟨ha, hb⟩
  have cases : ∀ (i : Nat) c, (cl ++ [d])[i]? = some c → (i = cl.length ∧ c = d) ∨ (i < cl.length ∧ cl[i]? = some c) := fun i c hc => by
    rw [List.getElem?_append] at hc
    split at hc
    · rename_i hi; exact Or.inr ⟨hi, hc⟩
    · rename_i hi
      rcases Nat.lt_or_ge (i - cl.length) 1 with h1 | h1
      · have e : i = cl.length := by omega
        subst e
        simp only [Nat.sub_self, List.getElem?_cons_zero, Option.some.injEq] at hc
        exact Or.inl ⟨rfl, hc.symm⟩
      · rw [List.getElem?_eq_none (by simpa using h1)] at hc; cases hc
  have old : ∀ (i : Nat) c, cl[i]? = some c → (cl ++ [d])[i]? = some c := fun i c hc => by
    rw [List.getElem?_append_left (len_lt hc)]; exact hc
  have new : (cl ++ [d])[cl.length]? = some d := by rw [List.getElem?_append_right (Nat.le_refl _)]; simp
  refine { vo := h.vo.mono hF (fun _ h => h), tr := h.tr, nd := h.nd, nn := h.nn, bs := fun x hx => (h.bs x hx).mono hF (fun _ h => h), wl := by rw [List.length_set, List.length_set]; exact h.wl, ok := fun i c hc => ?_, src := fun i c hc => ?_, cov := fun o ho => ?_, row := fun r ids hr => ?_, base := fun i c w o hc hw hbb => ?_, pr := fun i c w o hc hw hbb => ?_ }
  · rcases cases i c hc with ⟨_, rfl⟩ | ⟨_, hc⟩
    · exact ⟨by have := len_lt hb; omega, hnd, hlit⟩
    · exact h.ok i c hc
  · rcases cases i c hc with ⟨_, rfl⟩ | ⟨_, hc⟩
    · exact ⟨q, List.mem_append_right _ (List.mem_singleton.2 rfl), hsub, hout⟩
    · obtain ⟨o, ho, h1⟩ := h.src i c hc
      exact ⟨o, hF o ho, h1⟩
  · rcases List.mem_append.1 ho with ho | ho
    · rcases h.cov o ho with h1 | ⟨i, c, h1, h2⟩
      · exact Or.inl h1
      · exact Or.inr ⟨i, c, old i c h1, h2⟩
    · rw [List.mem_singleton] at ho
      subst ho
      exact Or.inr ⟨_, d, new, hsub⟩
  · have oth : ∀ i r', i ≠ cl.length → ((∃ c w o, (cl ++ [d])[i]? = some c ∧ Pair c w o ∧ ixL w = r') ↔ ∃ c w o, cl[i]? = some c ∧ Pair c w o ∧ ixL w = r') := fun i r' e => by
      constructor
      · rintro ⟨c, w, o, h1, h2⟩
        rcases cases i c h1 with ⟨e', _⟩ | ⟨_, h1⟩
        · exact absurd e' e
        · exact ⟨c, w, o, h1, h2⟩
      · rintro ⟨c, w, o, h1, h2⟩
        exact ⟨c, w, o, old i c h1, h2⟩
    have own : ∀ r', (∃ c w o, (cl ++ [d])[cl.length]? = some c ∧ Pair c w o ∧ ixL w = r') ↔ (r' = ixL a ∨ r' = ixL b) := fun r' => by
      rw [new]
      constructor
      · rintro ⟨c, w, o, h1, h2, h3⟩
        obtain rfl := Option.some.inj h1
        rcases hp.other h2 with ⟨rfl, _⟩ | ⟨rfl, _⟩
        · exact Or.inl h3.symm
        · exact Or.inr h3.symm
      · rintro (rfl | rfl)
        · exact ⟨d, a, b, rfl, hp, rfl⟩
        · exact ⟨d, b, a, rfl, hp.comm, rfl⟩
    have none_ : ∀ r' ids', ws[r']? = some ids' → cl.length ∉ ids' := fun r' ids' hr' hm => by
      obtain ⟨c, w, o, h1, _⟩ := ((h.row r' ids' hr').2 _).1 hm
      have := len_lt h1; omega
    have snoc : ∀ (R : List Nat), cl.length ∉ R → R.Nodup → (R ++ [cl.length]).Nodup := fun R h1 h2 => by
      rw [List.nodup_append]
      exact ⟨h2, by simp, fun x hx y hy => by rw [List.mem_singleton] at hy; subst hy; exact fun e => h1 (e ▸ hx)⟩
    rcases get_set_cases hr with ⟨rfl, rfl⟩ | ⟨hne, hr⟩
    · obtain ⟨h1, h2⟩ := h.row _ _ hrb
      refine ⟨snoc _ (none_ _ _ hrb) h1, fun i => ?_⟩
      by_cases e : i = cl.length
      · subst e; rw [own]; exact ⟨fun _ => Or.inr rfl, fun _ => by simp⟩
      · rw [oth i _ e, ← h2 i]; simp [e]
    · rcases get_set_cases hr with ⟨rfl, rfl⟩ | ⟨hne2, hr⟩
      · obtain ⟨h1, h2⟩ := h.row _ _ hra
        refine ⟨snoc _ (none_ _ _ hra) h1, fun i => ?_⟩
        by_cases e : i = cl.length
        · subst e; rw [own]; exact ⟨fun _ => Or.inl rfl, fun _ => by simp⟩
        · rw [oth i _ e, ← h2 i]; simp [e]
      · obtain ⟨h1, h2⟩ := h.row _ _ hr
        refine ⟨h1, fun i => ?_⟩
        by_cases e : i = cl.length
        · subst e
          rw [own]
          refine ⟨fun hm => absurd hm (none_ _ _ hr), fun hm => ?_⟩
          rcases hm with hm | hm
          · exact absurd hm hne2
          · exact absurd hm hne
        · rw [oth i _ e, ← h2 i]
  · rcases cases i c hc with ⟨_, rfl⟩ | ⟨_, hc⟩
    · rcases hp.other hw with ⟨rfl, _⟩ | ⟨rfl, _⟩
      · exact absurd (List.mem_of_mem_take hbb) hfa
      · exact absurd (List.mem_of_mem_take hbb) hfb
    · exact h.base i c w o hc hw hbb
  · rcases cases i c hc with ⟨_, rfl⟩ | ⟨_, hc⟩
    · rcases hp.other hw with ⟨rfl, _⟩ | ⟨rfl, _⟩
      · exact absurd (hD _ _ hbb) hfa
      · exact absurd (hD _ _ hbb) hfb
    · exact h.pr i c w o hc hw hbb
end
theorem Eng.start {n : Int} (h0 : 0 ≤ n) : Eng n [] [] 0 0 (fun _ w => -w ∈ ([] : List Int)) (List.replicate (n + 1).toNat 0) [] (List.replicate (2 * n + 2).toNat []) [] := by
  have hz : ∀ (v : Nat) x, (List.replicate (n + 1).toNat (0 : Int))[v]? = some x → x = 0 := fun v x hx => List.eq_of_mem_replicate (List.mem_of_getElem? hx)
  refine { vo := ⟨by rw [List.length_replicate]; omega, fun v x hx => Or.inl (hz v x hx), fun v x hx hne => absurd (hz v x hx) hne⟩, tr := fun x => ?_, nd := List.nodup_nil, nn := ⟨Nat.le_refl _, Nat.le_refl _⟩, bs := by simp, wl := by rw [List.length_replicate]; omega, ok := by simp, src := by simp, cov := by simp, row := fun r ids hr => ?_, base := by simp, pr := by simp }
  · refine ⟨fun hm => absurd hm (by simp), fun ⟨hne, hx⟩ => absurd (hz _ x hx) hne⟩
  · have : ids = [] := List.eq_of_mem_replicate (List.mem_of_getElem? hr)
    subst this
    exact ⟨List.nodup_nil, fun id => by simp⟩
end Go.Proofs.YtfajmelamonolaaGreatDoor

/- The engine of proofs: index, of, hold, and how the literals of a clause are looked at. -/
set_option linter.unusedVariables false
set_option linter.unusedSimpArgs false
namespace Go.Proofs.YtfajmelamonolaaGreatDoor
open Go.RowKit
theorem nodup_lt : ∀ (m : Nat) (l : List Nat), l.Nodup → (∀ x ∈ l, x < m) → l.length ≤ m
  | 0, [], _, _ => Nat.le_refl _
  | 0, x :: _, _, h => absurd (h x (List.mem_cons_self ..)) (by omega)
  | m + 1, l, hn, h => by
    have h1 := nodup_lt m (l.erase m) (hn.erase m) (fun x hx => by
      have h2 := h x (List.mem_of_mem_erase hx)
      have h3 : x ≠ m := fun e => by subst e; exact hn.not_mem_erase hx
      omega)
    by_cases hm : m ∈ l
    · rw [List.length_erase_of_mem hm] at h1; omega
    · rw [List.erase_of_not_mem hm] at h1; omega
section
variable {n : Int} {F : List (List Int)} {S : List Int} {np nc : Nat} {D : Nat → Int → Prop} {val trail : List Int} {ws : List (List Nat)} {cl : List (List Int)}
theorem Eng.rowLen (h : Eng n F S np nc D val trail ws cl) {r : Nat} {ids : List Nat} (hr : ws[r]? = some ids) : ids.length ≤ cl.length :=
  nodup_lt _ _ (h.row r ids hr).1 fun id hid => by
    obtain ⟨c, _, _, hc, _⟩ := ((h.row r ids hr).2 id).1 hid
    exact len_lt hc
theorem Eng.lit (h : Eng n F S np nc D val trail ws cl) {x : Int} (hx : x ∈ trail) : x ≠ 0 ∧ vr x ≤ n := by
  obtain ⟨h0, h1⟩ := (h.tr x).1 hx
  have h2 := len_lt h1
  have h3 := h.vo.len
  have h4 := vr_nn x
  exact ⟨h0, by omega⟩
theorem Eng.trailLen (h : Eng n F S np nc D val trail ws cl) (hn : 0 ≤ n) : (trail.length : Int) ≤ n := by
  have h1 := nodup_lt n.toNat (trail.map fun x => (vr x).toNat - 1) (by
    unfold List.Nodup
    rw [List.pairwise_map]
    refine List.Pairwise.imp_of_mem (fun {a b} ha hb hne he => ?_) h.nd
    have h1 := h.lit ha
    have h2 := h.lit hb
    have h3 := vr_nn a
    have h4 := vr_nn b
    have h5 : vr a ≠ 0 := fun e => h1.1 (vr_zero.1 e)
    have h6 : vr b ≠ 0 := fun e => h2.1 (vr_zero.1 e)
    rcases vr_eq.1 (show vr a = vr b by omega) with e | e
    · exact hne e
    · exact h.opp hb (e ▸ ha)) (fun x hx => by
    obtain ⟨y, hy, rfl⟩ := List.mem_map.1 hx
    have h1 := h.lit hy
    have h3 := vr_nn y
    have h5 : vr y ≠ 0 := fun e => h1.1 (vr_zero.1 e)
    omega)
  rw [List.length_map] at h1
  omega
theorem Eng.void (h : Eng n F S np nc D val trail ws cl) {id : Nat} {c : List Int} {l : Int} (hc : cl[id]? = some c) (hv : ∀ o, ¬ Pair c l o) : Eng n F S np nc (fun i w => D i w ∨ (i = id ∧ w = l)) val trail ws cl := by
  refine { h with pr := fun i c' w p h1 h2 h3 => ?_ }
  rcases h3 with h3 | ⟨rfl, rfl⟩
  · exact h.pr i c' w p h1 h2 h3
  · obtain rfl := Option.some.inj (hc.symm.trans h1)
    exact absurd h2 (hv p)
end
theorem index_ok {l : Int} (h : -1099511627776 ≤ l ∧ l ≤ 1099511627776) : m_proof_index l = some (ixL l : Int) := by
  unfold m_proof_index ixL
  by_cases h0 : l < 0
  · rw [if_pos (by simpa using h0), if_pos h0, inK_eq ⟨by omega, by omega⟩, bsm, inK_eq ⟨by omega, by omega⟩, bsm]
    congr 1; omega
  · rw [if_neg (by simpa using h0), if_neg h0, inK_eq ⟨by omega, by omega⟩, bsm]
    congr 1; omega
theorem ixL_bnd {l n : Int} (hl : vr l ≤ n) : (ixL l : Int) < 2 * n + 2 := by
  have h1 := vr_le.1 hl
  unfold ixL; split <;> omega
section
variable {n : Int} {F : List (List Int)} {S : List Int} {np nc : Nat} {D : Nat → Int → Prop} {val trail : List Int} {ws : List (List Nat)} {cl : List (List Int)}
theorem Eng.rowAt (h : Eng n F S np nc D val trail ws cl) {l : Int} (hl : vr l ≤ n) : ∃ R, ws[ixL l]? = some R :=
  get_of_lt (by have := ixL_bnd hl; have := h.wl; omega)
theorem of_ok (h : Eng n F S np nc D val trail ws cl) {l : Int} (h0 : l ≠ 0) (hl : vr l ≤ n) (hn : n ≤ 65536) {tr : List Int} {hd : Int} {W : List (List Nat) × List (List Int)} {fl : Bool} :
    ∃ r, m_proof_engine_of (PEng.mk val tr hd W fl) l = some r ∧ ((r = 1 ∧ l ∈ trail) ∨ (r = -1 ∧ -l ∈ trail) ∨ (r = 0 ∧ gv val l = some 0 ∧ l ∉ trail ∧ -l ∉ trail)) := by
  have hb := vr_le.1 hl
  unfold m_proof_engine_of
  have key : ∀ y, gv val l = some y → idx val (max l (0 - l)) = some y := fun y hy => idx_of (vr_nn l) hy
  rw [inK_eq ⟨by omega, by omega⟩, bsm]
  simp only
  rcases h.cases h0 hl with ⟨h1, h2⟩ | ⟨h1, h2⟩ | ⟨h1, h2, h3⟩
  · rw [key _ h1, bsm]
    exact ⟨1, by simp [h0], Or.inl ⟨rfl, h2⟩⟩
  · rw [key _ h1, bsm]
    have e1 : ¬ (-l = 0) := by omega
    have e2 : ¬ (-l = l) := by omega
    exact ⟨-1, by simp [e1, e2], Or.inr (Or.inl ⟨rfl, h2⟩)⟩
  · rw [key _ h1, bsm]
    exact ⟨0, by simp, Or.inr (Or.inr ⟨rfl, h1, h2, h3⟩)⟩
theorem hold_ok (h : Eng n F S np nc D val trail ws cl) {l : Int} (hl : vr l ≤ n) (hn : n ≤ 65536) (hn0 : 0 ≤ n) {hd : Int} {W : List (List Nat) × List (List Int)} {fl : Bool} :
    m_proof_engine_hold (PEng.mk val trail hd W fl) l = some (PEng.mk (val.set (vr l).toNat l) (trail ++ [l]) hd W fl) := by
  have hb := vr_le.1 hl
  have ht := h.trailLen hn0
  obtain ⟨y, h1, _, _⟩ := h.vo.get hl
  unfold m_proof_engine_hold
  rw [inK_eq ⟨by omega, by omega⟩, bsm]
  simp only
  rw [show idx val (max l (0 - l)) = some y from idx_of (vr_nn l) h1, bsm, app_ok (by simp; omega), bsm]
  rfl
theorem seek_ok (h : Eng n F S np nc D val trail ws cl) (hn : n ≤ 65536) {c : List Int} (hc : ∀ y ∈ c, y ≠ 0 ∧ vr y ≤ n) (hlen : 2 ≤ c.length) (hc4 : c.length ≤ 4294967296) {tr : List Int} {hd : Int} {W : List (List Nat) × List (List Int)} {fl : Bool} :
    ∃ b : Nat, loopM (fun s => m_proof_engine_propagate_lp3 W hd fl val tr c s) 2 = some (b : Int) ∧ 2 ≤ b ∧ b ≤ c.length ∧ (∀ j y, 2 ≤ j → j < b → c[j]? = some y → -y ∈ trail) ∧ (∀ y, c[b]? = some y → -y ∉ trail) := by
  have key : ∀ (m k : Nat), k + m = c.length → 2 ≤ k → (∀ j y, 2 ≤ j → j < k → c[j]? = some y → -y ∈ trail) →
      ∃ b : Nat, loopM (fun s => m_proof_engine_propagate_lp3 W hd fl val tr c s) (k : Int) = some (b : Int) ∧ 2 ≤ b ∧ b ≤ c.length ∧ (∀ j y, 2 ≤ j → j < b → c[j]? = some y → -y ∈ trail) ∧ (∀ y, c[b]? = some y → -y ∉ trail) := by
    intro m
    induction m with
    | zero =>
      intro k hk h2 hi
      obtain rfl : k = c.length := by omega
      refine ⟨c.length, loopM_done ?_, h2, Nat.le_refl _, hi, fun y hy => by rw [List.getElem?_eq_none (Nat.le_refl _)] at hy; cases hy⟩
      simp only [m_proof_engine_propagate_lp3, ltB', if_false, Bool.false_eq_true, bsm]
    | succ m ih =>
      intro k hk h2 hi
      have hlt : k < c.length := by omega
      obtain ⟨y, hy⟩ := get_of_lt hlt
      obtain ⟨r, hr, hcase⟩ := of_ok h (hc y (mem_get hy)).1 (hc y (mem_get hy)).2 hn (tr := tr) (hd := hd) (W := W) (fl := fl)
      by_cases hneg : -y ∈ trail
      · have er : r = -1 := by
          rcases hcase with ⟨_, e⟩ | ⟨e, _⟩ | ⟨_, _, _, e⟩
          · exact (h.opp e hneg).elim
          · exact e
          · exact absurd hneg e
        subst er
        obtain ⟨b, hb, h3⟩ := ih (k + 1) (by omega) (by omega) (fun j z hj2 hj hz => by
          by_cases e : j = k
          · subst e; rw [hy] at hz; exact Option.some.inj hz ▸ hneg
          · exact hi j z hj2 (by omega) hz)
        refine ⟨b, ?_, h3⟩
        rw [loopM_next (s' := ((k + 1 : Nat) : Int)) ?_]
        · exact hb
        · simp only [m_proof_engine_propagate_lp3, ltB hlt, if_true, idx_nat hy, bsm, hr, inK_up hlt (show c.length ≤ 9223372036854775807 by omega)]
          rfl
      · have er : ¬ r < 0 := by
          rcases hcase with ⟨e, _⟩ | ⟨_, e⟩ | ⟨e, _⟩
          · omega
          · exact absurd e hneg
          · omega
        refine ⟨k, loopM_done ?_, h2, by omega, hi, fun z hz => by rw [hy] at hz; exact Option.some.inj hz ▸ hneg⟩
        simp only [m_proof_engine_propagate_lp3, ltB hlt, if_true, idx_nat hy, bsm, hr, er, decide_false, if_false, Bool.false_eq_true]
  have := key (c.length - 2) 2 (by omega) (Nat.le_refl _) (fun j y h1 h2 => by omega)
  simpa using this
end
end Go.Proofs.YtfajmelamonolaaGreatDoor

/- The engine of proofs: propagate. -/
set_option linter.unusedVariables false
set_option linter.unusedSimpArgs false
namespace Go.Proofs.YtfajmelamonolaaGreatDoor
open Go.RowKit
theorem swap_same {c : List Int} {i j : Nat} {a b : Int} (hn : c.Nodup) (hi : c[i]? = some a) (hj : c[j]? = some b) : Same c ((c.set i b).set j a) := by
  obtain ⟨h1, rfl⟩ := List.getElem?_eq_some_iff.1 hi
  obtain ⟨h2, rfl⟩ := List.getElem?_eq_some_iff.1 hj
  have hp := List.set_set_perm h1 h2
  exact ⟨by simp, hp.nodup_iff.2 hn, fun y => hp.mem_iff⟩
theorem guardEq_self {κ : Type} [DecidableEq κ] (a : κ) : guardEq a a = some () := by unfold guardEq; rw [if_pos rfl]
theorem guardNe_nat {a b : Nat} (h : a ≠ b) : guardNe (a : Int) (b : Int) = some () := by unfold guardNe; rw [if_neg (by simpa using h)]
theorem mem_le2 {c : List Int} {y : Int} (h : y ∈ c) {P : Int → Prop} (h0 : ∀ z, c[0]? = some z → P z) (h1 : ∀ z, c[1]? = some z → P z) (h2 : ∀ j z, 2 ≤ j → c[j]? = some z → P z) : P y := by
  obtain ⟨j, hj⟩ := List.getElem?_of_mem h
  match j, hj with
  | 0, hj => exact h0 _ hj
  | 1, hj => exact h1 _ hj
  | j + 2, hj => exact h2 _ _ (by omega) hj
section
variable {n : Int} {F : List (List Int)} {S : List Int} {np nc : Nat} {D : Nat → Int → Prop} {val trail : List Int} {ws : List (List Nat)} {cl : List (List Int)}
theorem Eng.clLen (h : Eng n F S np nc D val trail ws cl) (hn : 0 ≤ n ∧ n ≤ 65536) {id : Nat} {c : List Int} (hc : cl[id]? = some c) : c.length ≤ 131074 := by
  obtain ⟨_, h2, h3⟩ := h.ok id c hc
  have h1 := nodup_lt 131074 (c.map ixL) (by
    unfold List.Nodup
    rw [List.pairwise_map]
    exact List.Pairwise.imp (fun {a b} hne he => hne (ixL_inj he)) h2) (fun x hx => by
    obtain ⟨y, hy, rfl⟩ := List.mem_map.1 hx
    have := ixL_bnd (h3 y hy).2
    omega)
  rwa [List.length_map] at h1
end
structure Amid (n : Int) (F : List (List Int)) (S : List Int) (np nc : Nat) (l : Int) (list : List Nat) (h cN : Nat) (tr0 : List Int) (k : Nat) (kept : List Nat) (W : List (List Nat) × List (List Int)) (val trail : List Int) : Prop where
  eng : Eng n F S np nc (fun id w => -w ∈ trail.take h ∨ (w = l ∧ id ∉ list.drop k)) val trail (W.1.set (ixL l) (kept ++ list.drop k)) W.2
  row : W.1[ixL l]? = some list
  ext : ∃ e, trail = tr0 ++ e
  at_ : trail[h]? = some (-l)
  kl : kept.length ≤ k
  cn : W.2.length = cN
  ll : list.length ≤ cN
section
variable {n : Int} {F : List (List Int)} {S : List Int} {np nc : Nat}
theorem pair01 {c d : List Int} {a b : Int} (h0 : c[0]? = some a) (h1 : c[1]? = some b) (d0 : d[0]? = some b) (d1 : d[1]? = some a) (w o : Int) : Pair d w o ↔ Pair c w o := by
  unfold Pair
  rw [h0, h1, d0, d1]
  exact ⟨fun h => h.elim (fun ⟨x, y⟩ => Or.inr ⟨x, y⟩) (fun ⟨x, y⟩ => Or.inl ⟨x, y⟩), fun h => h.elim (fun ⟨x, y⟩ => Or.inr ⟨x, y⟩) (fun ⟨x, y⟩ => Or.inl ⟨x, y⟩)⟩
set_option maxHeartbeats 1000000 in
theorem amid_round {l : Int} {list : List Nat} {h cN : Nat} {tr0 : List Int} {k : Nat} {kept : List Nat} {W : List (List Nat) × List (List Int)} {val trail : List Int} {hd : Int} {fl : Bool} (hn : 0 ≤ n ∧ n ≤ 65536) (hcN : cN ≤ 1000000000)
    (hA : Amid n F S np nc l list h cN tr0 k kept W val trail) (hk : k < list.length) :
    (∃ kept' W' val' trail', m_proof_engine_propagate_lp2 l (ixL l : Int) list (k : Int) kept W hd fl val trail = some (.next (((k + 1 : Nat) : Int), kept', W', hd, fl, val', trail')) ∧ Amid n F S np nc l list h cN tr0 (k + 1) kept' W' val' trail') ∨
    (∃ W', m_proof_engine_propagate_lp2 l (ixL l : Int) list (k : Int) kept W hd fl val trail = some (.done (.ret (false, PEng.mk val trail hd W' fl))) ∧ Fails F S ∧ (∃ D, Eng n F S np nc D val trail W'.1 W'.2) ∧ W'.2.length = cN) := by
  have hE := hA.eng
  obtain ⟨id, hid⟩ := get_of_lt hk
  have hdrop := drop_cons_of hid
  have hlm : -l ∈ trail := mem_get hA.at_
  have hl0 := hE.lit hlm
  have hl : l ≠ 0 ∧ vr l ≤ n := ⟨by omega, by rw [← vr_neg]; exact hl0.2⟩
  have hlb := vr_le.1 hl.2
  have hvr : (W.1.set (ixL l) (kept ++ list.drop k))[ixL l]? = some (kept ++ list.drop k) := get_set_eq hA.row
  have hrl := hE.rowLen hvr
  have hlist : list.length - k ≤ cN := by rw [List.length_append, List.length_drop, hA.cn] at hrl; omega
  have hkept : kept.length ≤ cN := by rw [List.length_append, hA.cn] at hrl; omega
  obtain ⟨c, w, o, hc, hp, hw⟩ := ((hE.row _ _ hvr).2 id).1 (by rw [hdrop]; simp)
  have hwl := ixL_inj hw
  rw [hwl] at hp
  obtain ⟨hc2, hcn, hcl⟩ := hE.ok id c hc
  have hc4 := hE.clLen hn hc
  have hlo := hp.ne hcn
  have ho := hcl o hp.mem.2
  have hcn' := hA.cn
  obtain ⟨a, ha, j1, hjm, hs, hpj, hj0, hj1l⟩ : ∃ a, c[0]? = some a ∧ ∃ j1, (if (decide (a = l)) = true then
      (idx c 1).bind fun x9 =>
      (some a).bind fun x10 =>
      (some a).bind fun x11 =>
      (idx (c.set (0 : Int).toNat x9) 1).bind fun x12 =>
      some ((c.set (0 : Int).toNat x9).set (1 : Int).toNat x10)
    else some c) = some j1 ∧ Same c j1 ∧ (∀ w o, Pair j1 w o ↔ Pair c w o) ∧ j1[0]? = some o ∧ j1[1]? = some l := by
    rcases hp with ⟨e0, e1⟩ | ⟨e1, e0⟩
    · refine ⟨l, e0, (c.set 0 o).set 1 l, ?_, swap_same hcn e0 e1, ?_, ?_, ?_⟩
      · rw [if_pos (by simp), show idx c 1 = some o from idx_of (by decide) e1, bsm, bsm, bsm,
          show idx (c.set (0 : Int).toNat o) 1 = some o from idx_of (by decide) (by rw [get_set_ne (by decide)]; exact e1), bsm]
        rfl
      · exact pair01 e0 e1 (by rw [get_set_ne (by decide)]; exact get_set_eq e0) (get_set_eq (by rw [get_set_ne (by decide)]; exact e1))
      · rw [get_set_ne (by decide)]; exact get_set_eq e0
      · exact get_set_eq (by rw [get_set_ne (by decide)]; exact e1)
    · refine ⟨o, e0, c, ?_, ⟨rfl, hcn, fun _ => Iff.rfl⟩, fun _ _ => Iff.rfl, e0, e1⟩
      rw [if_neg (by simpa using fun e : o = l => hlo e.symm)]
  have hjlen := hs.len
  have hjcl : ∀ y ∈ j1, y ≠ 0 ∧ vr y ≤ n := fun y hy => hcl y ((hs.mem y).1 hy)
  have hpl : Pair j1 l o := Or.inr ⟨hj1l, hj0⟩
  obtain ⟨b, hb, hb2, hble, hball, hbno⟩ := seek_ok hE hn.2 hjcl (by omega) (by omega) (tr := trail) (hd := hd) (W := W) (fl := fl)
  obtain ⟨r, hr, hcase⟩ := of_ok hE ho.1 ho.2 hn.2 (tr := trail) (hd := hd) (W := W) (fl := fl)
  have hT := hE.turn hc hs hpj
  have hset : (W.2.set id j1)[id]? = some j1 := get_set_eq hc
  have hins : id ∉ list.drop (k + 1) := by
    have h1 := (hE.row _ _ hvr).1
    rw [hdrop] at h1
    have h2 := (List.nodup_append.1 h1).2.1
    exact (List.nodup_cons.1 h2).1
  have weak : ∀ (tr : List Int) (id' : Nat) (w' : Int), (-w' ∈ tr.take h ∨ (w' = l ∧ id' ∉ list.drop (k + 1))) → (-w' ∈ tr.take h ∨ (w' = l ∧ id' ∉ list.drop k)) ∨ (id' = id ∧ w' = l) := fun tr id' w' hd => by
    rcases hd with hd | ⟨e, hd⟩
    · exact Or.inl (Or.inl hd)
    · by_cases e' : id' = id
      · exact Or.inr ⟨e', e⟩
      · exact Or.inl (Or.inr ⟨e, by rw [hdrop]; simp [e', hd]⟩)
  have hap : app kept [id] = some (kept ++ [id]) := app_ok (by simp; omega)
  have hup := inK_up hk (show list.length ≤ 9223372036854775807 by have := hA.ll; omega)
  have hsnoc : W.1.set (ixL l) (kept ++ list.drop k) = W.1.set (ixL l) ((kept ++ [id]) ++ list.drop (k + 1)) := by rw [hdrop, List.append_assoc, List.singleton_append]
  unfold m_proof_engine_propagate_lp2
  rw [if_pos (ltB hk), idx_nat hid, bsm, hc, bsm, show idx c 0 = some a from idx_of (by decide) ha, bsm, hjm, bsm, hb, bsm, show idx j1 0 = some o from idx_of (by decide) hj0, bsm, hr, bsm]
  by_cases hom : o ∈ trail
  ·
    have er : r = 1 := by
      rcases hcase with ⟨e, _⟩ | ⟨_, e⟩ | ⟨_, _, e, _⟩
      · exact e
      · exact (hE.opp hom e).elim
      · exact absurd hom e
    rw [if_pos (by rw [er]; decide), hap, bsm, hup, bsm]
    refine Or.inl ⟨kept ++ [id], (W.1, W.2.set id j1), val, trail, rfl, ?_, hA.row, hA.ext, hA.at_, by simp; exact hA.kl, by simp [hcn'], hA.ll⟩
    have h1 := (hT.done hset hpl hom).less (weak trail)
    rwa [hsnoc] at h1
  · have er : ¬ (0 < r) := by
      rcases hcase with ⟨_, e⟩ | ⟨e, _⟩ | ⟨e, _⟩
      · exact absurd e hom
      · omega
      · omega
    rw [if_neg (by simpa using er)]
    by_cases hbl : b < j1.length
    ·
      obtain ⟨y, hy⟩ := get_of_lt hbl
      have hyn := hbno y hy
      have hyl := hjcl y (mem_get hy)
      have hyb := vr_le.1 hyl.2
      have hb1 : b ≠ 1 := by omega
      have hb0 : b ≠ 0 := by omega
      have hyne : y ≠ l := fun e => hyn (e ▸ hlm)
      have hyo : y ≠ o := fun e => by have := nodup_ix hs.nd hy (e ▸ hj0); omega
      have hix : ixL y ≠ ixL l := fun e => hyne (ixL_inj e)
      obtain ⟨R, hR⟩ := hE.rowAt hyl.2
      have hRl := hE.rowLen hR
      have hR' : W.1[ixL y]? = some R := by rwa [get_set_ne hix] at hR
      have g1 : (j1.set 1 y)[b]? = some y := by rw [get_set_ne hb1]; exact hy
      have g2 : ((j1.set 1 y).set b l)[1]? = some y := by rw [get_set_ne (Ne.symm hb1)]; exact get_set_eq hj1l
      have g3 : ((j1.set 1 y).set b l)[0]? = some o := by rw [get_set_ne (Ne.symm hb0), get_set_ne (by decide)]; exact hj0
      have e1 : idx j1 1 = some l := idx_of (by decide) hj1l
      have e2 : idx (j1.set (1 : Int).toNat y) (b : Int) = some y := idx_nat g1
      have e3 : idx ((j1.set (1 : Int).toNat y).set (b : Int).toNat l) 1 = some y := idx_of (by decide) g2
      have e4 := index_ok (l := y) (by omega)
      rw [if_pos (by simpa using hbl), idx_nat hy, bsm, e1, bsm, bsm, e2, bsm, e3, bsm, e4, bsm, bsm, e4, bsm, idx_nat hR', bsm, guardNe_nat hix, bsm, app_ok (by simp; omega), bsm, guardEq_self, bsm, hup, bsm]
      refine Or.inl ⟨kept, (W.1.set (ixL y) (R ++ [id]), W.2.set id ((j1.set 1 y).set b l)), val, trail, rfl, ?_, by rw [get_set_ne (Ne.symm hix)]; exact hA.row, hA.ext, hA.at_, by have := hA.kl; omega, by simp [hcn'], hA.ll⟩
      have hs2 : Same j1 ((j1.set 1 y).set b l) := swap_same hs.nd hj1l hy
      have hp2 : Pair ((j1.set 1 y).set b l) y o := Or.inr ⟨g2, g3⟩
      have hD : ∀ (i : Nat) (w' : Int), (-w' ∈ trail.take h ∨ (w' = l ∧ i ∉ list.drop k)) → -w' ∈ trail := fun i w' hd => by
        rcases hd with hd | ⟨e, _⟩
        · exact List.mem_of_mem_take hd
        · rw [e]; exact hlm
      have h1 := hT.move hset hs2 hpl hp2 hyne hyo hlm hyn hom hD (V1 := kept) (V2 := list.drop (k + 1)) (by rw [← hdrop]; exact hvr) hR
      rw [List.set_comm _ _ (Ne.symm hix), List.set_set, List.set_set] at h1
      refine (h1.void (id := id) (l := l) (get_set_eq hc) fun p hq => ?_).less (weak trail)
      rcases hp2.other hq with ⟨e, _⟩ | ⟨e, _⟩
      · exact hyne e.symm
      · exact hlo e
    ·
      have hbe : b = j1.length := by omega
      have hrest : ∀ y ∈ j1, y ≠ o → -y ∈ trail := fun y hy => mem_le2 hy (P := fun y => y ≠ o → -y ∈ trail)
        (fun z hz hne => by rw [hj0] at hz; exact absurd (Option.some.inj hz).symm hne) (fun z hz _ => by rw [hj1l] at hz; exact Option.some.inj hz ▸ hlm)
        (fun j z hj hz _ => hball j z hj (by have := len_lt hz; omega) hz)
      rw [if_neg (by simpa using hbl), bsm, hr, bsm]
      by_cases hon : -o ∈ trail
      · have er : r = -1 := by
          rcases hcase with ⟨_, e⟩ | ⟨e, _⟩ | ⟨_, _, _, e⟩
          · exact absurd e hom
          · exact e
          · exact absurd hon e
        have e1 := index_ok (l := l) (by omega)
        have e2 : sub list (k : Int) (list.length : Int) = some (list.drop k) := by
          rw [sub_ok (by omega) (by omega) (by omega)]
          simp
        rw [if_pos (by rw [er]; decide), e1, bsm, e2, bsm, app_ok (by rw [List.length_drop]; omega), bsm, idx_nat hA.row, bsm, guardEq_self, bsm]
        refine Or.inr ⟨(W.1.set (ixL l) (kept ++ list.drop k), W.2.set id j1), rfl, hE.fail hc fun y hy => ?_, ⟨_, hT⟩, by simp [hcn']⟩
        by_cases e : y = o
        · rw [e]; exact hon
        · exact hrest y ((hs.mem y).2 hy) e
      · obtain ⟨er, hz⟩ : r = 0 ∧ gv val o = some 0 := by
          rcases hcase with ⟨_, e⟩ | ⟨_, e⟩ | ⟨e, e', _⟩
          · exact absurd e hom
          · exact absurd e hon
          · exact ⟨e, e'⟩
        have hu : UP F S o := hE.unit hc hp.mem.2 fun y hy hne => hrest y ((hs.mem y).2 hy) hne
        rw [if_neg (by rw [er]; decide), hap, bsm, bsm, hold_ok hE ho.2 hn.2 hn.1, bsm, hup, bsm]
        have hlt := len_lt hA.at_
        have htk : (trail ++ [o]).take h = trail.take h := List.take_append_of_le_length (by omega)
        refine Or.inl ⟨kept ++ [id], (W.1, W.2.set id j1), val.set (vr o).toNat o, trail ++ [o], rfl, ?_, hA.row, ?_, by rw [List.getElem?_append_left hlt]; exact hA.at_, by simp; exact hA.kl, by simp [hcn'], hA.ll⟩
        · have h1 := hT.hold ho.1 ho.2 hz hu
          have h2 := (h1.done hset hpl (List.mem_append_right _ (List.mem_singleton.2 rfl))).less (weak trail)
          rw [← htk] at h2
          rwa [hsnoc] at h2
        · obtain ⟨e, he⟩ := hA.ext
          exact ⟨e ++ [o], by rw [he, List.append_assoc]⟩
theorem amid_loop {l : Int} {list : List Nat} {h cN : Nat} {tr0 : List Int} {W : List (List Nat) × List (List Int)} {val trail : List Int} {hd : Int} {fl : Bool} (hn : 0 ≤ n ∧ n ≤ 65536) (hcN : cN ≤ 1000000000)
    (hA : Amid n F S np nc l list h cN tr0 0 [] W val trail) :
    ∃ b, loopM (fun s : Int × List Nat × (List (List Nat) × List (List Int)) × Int × Bool × List Int × List Int => m_proof_engine_propagate_lp2 l (ixL l : Int) list s.1 s.2.1 s.2.2.1 s.2.2.2.1 s.2.2.2.2.1 s.2.2.2.2.2.1 s.2.2.2.2.2.2) (0, [], W, hd, fl, val, trail) = some b ∧
      (match b with
        | .brk s => ∃ kept W val trail, s = (kept, W, hd, fl, val, trail) ∧ Amid n F S np nc l list h cN tr0 list.length kept W val trail
        | .ret r => ∃ val trail W', r = (false, PEng.mk val trail hd W' fl) ∧ Fails F S ∧ (∃ D, Eng n F S np nc D val trail W'.1 W'.2) ∧ W'.2.length = cN ∧ ∃ e, trail = tr0 ++ e) := by
  refine loopN (body := fun s : Int × List Nat × (List (List Nat) × List (List Int)) × Int × Bool × List Int × List Int => m_proof_engine_propagate_lp2 l (ixL l : Int) list s.1 s.2.1 s.2.2.1 s.2.2.2.1 s.2.2.2.2.1 s.2.2.2.2.2.1 s.2.2.2.2.2.2) list.length
    (fun k (t : List Nat × (List (List Nat) × List (List Int)) × List Int × List Int) => ((k : Int), t.1, t.2.1, hd, fl, t.2.2.1, t.2.2.2)) (fun k t => Amid n F S np nc l list h cN tr0 k t.1 t.2.1 t.2.2.1 t.2.2.2) _ (t0 := ([], W, val, trail)) rfl hA ?_ ?_
  · rintro k ⟨kept, W, val, trail⟩ hk hA
    rcases amid_round hn hcN hA hk (hd := hd) (fl := fl) with ⟨kept', W', val', trail', h1, h2⟩ | ⟨W', h1, h2, h3, h4⟩
    · exact Or.inl ⟨(kept', W', val', trail'), h1, h2⟩
    · exact Or.inr ⟨_, h1, val, trail, W', rfl, h2, h3, h4, hA.ext⟩
  · rintro ⟨kept, W, val, trail⟩ hA
    refine ⟨.brk (kept, W, hd, fl, val, trail), ?_, kept, W, val, trail, rfl, hA⟩
    simp only [m_proof_engine_propagate_lp2, ltB', if_false, Bool.false_eq_true]
theorem propagate_ok {val trail : List Int} {W : List (List Nat) × List (List Int)} {h : Nat} {fl : Bool} (hn : 0 ≤ n ∧ n ≤ 65536) (hcN : W.2.length ≤ 1000000000)
    (hE : Eng n F S np nc (fun _ w => -w ∈ trail.take h) val trail W.1 W.2) (hh : h ≤ trail.length) :
    ∃ ok val' ext W' h', m_proof_engine_propagate (PEng.mk val trail (h : Int) W fl) = some (ok, PEng.mk val' (trail ++ ext) h' W' fl) ∧ W'.2.length = W.2.length ∧
      ((ok = true ∧ h' = ((trail ++ ext).length : Int) ∧ Eng n F S np nc (fun _ w => -w ∈ trail ++ ext) val' (trail ++ ext) W'.1 W'.2) ∨ (ok = false ∧ Fails F S ∧ ∃ D, Eng n F S np nc D val' (trail ++ ext) W'.1 W'.2)) := by
  refine Exists.elim (loopM_inv (body := fun s : Int × Bool × List Int × List Int × (List (List Nat) × List (List Int)) => m_proof_engine_propagate_lp1 s.1 s.2.1 s.2.2.1 s.2.2.2.1 s.2.2.2.2)
    (fun t => ∃ h' : Nat, t.1 = h' ∧ t.2.1 = fl ∧ h' ≤ t.2.2.2.1.length ∧ (∃ e, t.2.2.2.1 = trail ++ e) ∧ t.2.2.2.2.2.length = W.2.length ∧ Eng n F S np nc (fun _ w => -w ∈ t.2.2.2.1.take h') t.2.2.1 t.2.2.2.1 t.2.2.2.2.1 t.2.2.2.2.2)
    (fun t => (n + 1 - t.1).toNat)
    (fun b => match b with
      | .brk s => ∃ val' tr' W', s = ((tr'.length : Int), fl, val', tr', W') ∧ (∃ e, tr' = trail ++ e) ∧ W'.2.length = W.2.length ∧ Eng n F S np nc (fun _ w => -w ∈ tr') val' tr' W'.1 W'.2
      | .ret r => ∃ val' tr' W' hd, r = (false, PEng.mk val' tr' hd W' fl) ∧ (∃ e, tr' = trail ++ e) ∧ W'.2.length = W.2.length ∧ Fails F S ∧ ∃ D, Eng n F S np nc D val' tr' W'.1 W'.2) ?_ ((h : Int), fl, val, trail, W) ⟨h, rfl, rfl, hh, ⟨[], by simp⟩, rfl, hE⟩) ?_
  · rintro ⟨hd, fl', val, tr, W1⟩ ⟨h', rfl, rfl, hle, ⟨e, he⟩, hcl, hE⟩
    simp only at hle he hcl hE ⊢
    have htl := hE.trailLen hn.1
    unfold m_proof_engine_propagate_lp1
    by_cases hlt : h' < tr.length
    · obtain ⟨x, hx⟩ := get_of_lt hlt
      have hx0 := hE.lit (mem_get hx)
      have hxb := vr_le.1 hx0.2
      have hlv : vr (-x) ≤ n := by rw [vr_neg]; exact hx0.2
      obtain ⟨list, hlist⟩ := hE.rowAt hlv
      have i1 : inK .i64 (0 - x) = some (-x) := inK_at (by omega) ⟨by omega, by omega⟩
      have i2 : inK .i64 ((h' : Int) + 1) = some ((h' + 1 : Nat) : Int) := inK_at rfl ⟨by omega, by omega⟩
      have hA : Amid n F S np nc (-x) list h' W.2.length trail 0 [] W1 val tr := by
        refine ⟨?_, hlist, ⟨e, he⟩, by rw [Int.neg_neg]; exact hx, Nat.le_refl _, hcl, by have := hE.rowLen hlist; omega⟩
        have hsame : W1.1.set (ixL (-x)) ([] ++ list.drop 0) = W1.1 := by
          rw [List.nil_append, List.drop_zero]; exact set_self hlist
        rw [hsame]
        have hn2 := (hE.row _ _ hlist).2
        refine { hE with pr := fun id c w o hc hp hd => ?_ }
        rcases hd with hd | ⟨rfl, hd⟩
        · exact hE.pr id c w o hc hp hd
        · exact absurd ((hn2 id).2 ⟨c, _, o, hc, hp, rfl⟩) hd
      obtain ⟨b, hb, hpost⟩ := amid_loop hn hcN hA (hd := ((h' + 1 : Nat) : Int)) (fl := fl')
      rw [if_pos (by simpa using hlt), idx_nat hx, bsm, i1, bsm, i2, bsm, index_ok (by omega), bsm, idx_nat hlist, bsm, hb, bsm]
      cases b with
      | brk s =>
        obtain ⟨kept, W2, val2, tr2, rfl, hA2⟩ := hpost
        simp only
        rw [bsm, idx_nat hA2.row, bsm, guardEq_self, bsm]
        have hlt2 := len_lt hA2.at_
        refine Or.inl ⟨_, rfl, ⟨h' + 1, rfl, rfl, by show h' + 1 ≤ tr2.length; omega, hA2.ext, hA2.cn, ?_⟩, ?_⟩
        · have h3 := hA2.eng
          rw [List.drop_length, List.append_nil] at h3
          refine h3.less fun id w hd => ?_
          have h4 : tr2.take (h' + 1) = tr2.take h' ++ [x] := take_snoc_of (by have := hA2.at_; rwa [Int.neg_neg] at this)
          have hd : -w ∈ tr2.take (h' + 1) := hd
          rw [h4, List.mem_append, List.mem_singleton] at hd
          rcases hd with hd | hd
          · exact Or.inl hd
          · exact Or.inr ⟨by omega, by simp⟩
        · show (n + 1 - ((h' + 1 : Nat) : Int)).toNat < (n + 1 - (h' : Int)).toNat
          omega
      | ret r =>
        obtain ⟨val2, tr2, W2, rfl, h1, h2, h3, h4⟩ := hpost
        exact Or.inr ⟨_, rfl, val2, tr2, W2, _, rfl, h4, h3, h1, h2⟩
    · rw [if_neg (by simpa using hlt)]
      have : h' = tr.length := by omega
      subst this
      rw [List.take_length] at hE
      exact Or.inr ⟨_, rfl, val, tr, W1, rfl, ⟨e, he⟩, hcl, hE⟩
  · rintro b ⟨hb, hp⟩
    unfold m_proof_engine_propagate
    simp only
    rw [hb, bsm]
    cases b with
    | brk s =>
      obtain ⟨val', tr', W', rfl, ⟨e, rfl⟩, h1, h2⟩ := hp
      exact ⟨true, val', e, W', _, rfl, h1, Or.inl ⟨rfl, rfl, h2⟩⟩
    | ret r =>
      obtain ⟨val', tr', W', hd, rfl, ⟨e, rfl⟩, h1, h2, h3⟩ := hp
      exact ⟨false, val', e, W', hd, rfl, h1, Or.inr ⟨rfl, h2, h3⟩⟩
end
end Go.Proofs.YtfajmelamonolaaGreatDoor
