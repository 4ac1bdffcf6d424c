/- What the functions on clauses and formulas compute: Valid, Literal, Holds, comparisons. -/
import Derived.Test.YtelioaepnpnojaaGreatDoorKTr12
import Derived.Test.YtelioaepnpnojaaGreatDoorKTr3
import Derived.Test.YtelioaepnpnojaaGreatDoorKTr4
set_option linter.unusedVariables false
set_option linter.unusedSimpArgs false
namespace Go.Proofs.YtelioaepnpnojaaGreatDoor
open Go.RowKit
theorem var_ok {l : Int} (h : -9223372036854775807 ≤ l ∧ l ≤ 9223372036854775807) : m_cnf_variable l = some (vr l) := by
  unfold m_cnf_variable; rw [inK_eq (by omega)]; rfl
theorem rvar_ok {l : Int} (h : -9223372036854775807 ≤ l ∧ l ≤ 9223372036854775807) : m_assessorref26_Variable l = some (vr l) := by
  unfold m_assessorref26_Variable
  by_cases h0 : l < 0
  · rw [if_pos (by simpa using h0), inK_eq (by omega)]
    simp only [bsm]; congr 1; unfold vr; omega
  · rw [if_neg (by simpa using h0)]; congr 1; unfold vr; omega
def stCl (v l last : Int) : Step Int (Out Unit Bool) := if ((decide (l < -v)) || (decide (v < l)) || (decide (vr l ≤ last))) = true then Step.done (Out.ret false) else Step.next (vr l)
theorem cnf_normal {c : List Int} {v : Int} (hv : 0 ≤ v ∧ v ≤ 1099511627776) (hc : c.length ≤ 9223372036854775807) : m_cnf_normal c v = some (clF v 0 c) := by
  unfold m_cnf_normal
  have h := loopL (body := fun s : Int × Int => m_cnf_normal_lp1 c v s.1 s.2) (s0 := ((0 : Int), (0 : Int))) c (fun k t => (t, (k : Int)))
    (stCl v) (fun _ => Out.brk ()) (fun _ _ => True) (t0 := (0 : Int)) rfl trivial ?_ ?_
  · rw [h]
    simp only [bsm]
    generalize (0 : Int) = t
    clear h
    induction c generalizing t with
    | nil => simp [runL, clF]
    | cons l r ih =>
      have ih := ih (by simp only [List.length_cons] at hc; omega)
      unfold runL stCl clF
      by_cases hb : ((decide (l < -v)) || (decide (v < l)) || (decide (vr l ≤ t))) = true
      · rw [if_pos hb]
        simp only [Bool.or_eq_true, decide_eq_true_eq] at hb
        have : (decide (-v ≤ l) && decide (l ≤ v) && decide (t < vr l)) = false := by
          simp only [Bool.and_eq_false_iff, decide_eq_false_iff_not]; omega
        simp [this]
      · rw [if_neg hb]
        simp only [Bool.or_eq_true, decide_eq_true_eq, not_or] at hb
        have : (decide (-v ≤ l) && decide (l ≤ v) && decide (t < vr l)) = true := by
          simp only [Bool.and_eq_true, decide_eq_true_eq]; omega
        rw [this, Bool.true_and]
        exact ih (vr l)
  · intro k a t hk _
    refine ⟨?_, fun _ _ => trivial⟩
    simp only [m_cnf_normal_lp1, stCl]
    rw [if_pos (ltB (len_lt hk)), idx_nat hk]
    simp only [bsm]
    rw [inK_eq (by omega)]
    simp only [bsm, Int.zero_sub]
    by_cases h1 : (decide (a < -v) || decide (v < a)) = true
    · simp [h1]
    · rw [if_neg h1]
      simp only [Bool.or_eq_true, decide_eq_true_eq, not_or] at h1
      rw [var_ok (by omega)]
      have h1' : (decide (a < -v) || decide (v < a)) = false := by simp; omega
      simp only [bsm, h1', Bool.false_or]
      by_cases h2 : vr a ≤ t
      · simp [h2]
      · simp [h2, inK_up (len_lt hk) hc]
  · intro t _
    simp only [m_cnf_normal_lp1]
    rw [if_neg ltB']
def validB (f : Formula) : Bool := decide (0 ≤ f.vars) && decide (f.vars ≤ 65536) && decide (f.clauses.length ≤ 262144) && f.clauses.all (clF f.vars 0)
def FLen (cs : List (List Int)) : Prop := cs.length ≤ 9223372036854775807 ∧ ∀ c ∈ cs, c.length ≤ 9223372036854775807
theorem any_not_all {α : Type} (p : α → Bool) (l : List α) : (if l.any (fun a => !p a) = true then (Out.ret false : Out Unit Bool) else Out.brk ()) = (if l.all p = true then Out.brk () else Out.ret false) := by
  have : l.any (fun a => !p a) = !l.all p := by simp [List.all_eq_not_any_not]
  rw [this]; cases l.all p <;> rfl
theorem validB_pre (f : Formula) (hp : ¬ (((decide (f.vars < 0)) || (decide (65536 < f.vars))) || (decide (262144 < (f.clauses.length : Int)))) = true) : validB f = f.clauses.all (clF f.vars 0) := by
  simp only [Bool.or_eq_true, decide_eq_true_eq, not_or] at hp
  unfold validB
  have : (decide (0 ≤ f.vars) && decide (f.vars ≤ 65536) && decide (f.clauses.length ≤ 262144)) = true := by simp only [Bool.and_eq_true, decide_eq_true_eq]; omega
  rw [this, Bool.true_and]
theorem validB_no (f : Formula) (hp : (((decide (f.vars < 0)) || (decide (65536 < f.vars))) || (decide (262144 < (f.clauses.length : Int)))) = true) : validB f = false := by
  simp only [Bool.or_eq_true, decide_eq_true_eq] at hp
  unfold validB
  have : (decide (0 ≤ f.vars) && decide (f.vars ≤ 65536) && decide (f.clauses.length ≤ 262144)) = false := by
    simp only [Bool.and_eq_false_iff, decide_eq_false_iff_not]; omega
  rw [this, Bool.false_and]
theorem cnf_valid {f : Formula} (hl : FLen f.clauses) : m_cnf_Valid f = some (validB f) := by
  unfold m_cnf_Valid
  by_cases hp : (((decide (f.vars < 0)) || (decide (65536 < f.vars))) || (decide (262144 < (f.clauses.length : Int)))) = true
  · rw [if_pos hp, validB_no f hp]
  · rw [if_neg hp, validB_pre f hp]
    have hp' := hp
    simp only [Bool.or_eq_true, decide_eq_true_eq, not_or] at hp'
    refine bind_any f.clauses (fun c => !clF f.vars 0 c) (Out.ret false) (Out.brk ()) ?_ ?_ ?_
    · intro k a hk
      simp only [m_cnf_Valid_lp1]
      rw [if_pos (ltB (len_lt hk)), idx_nat hk]
      simp only [bsm]
      rw [cnf_normal ⟨by omega, by omega⟩ (hl.2 a (mem_get hk)), inK_up (len_lt hk) hl.1]
      cases clF f.vars 0 a <;> rfl
    · simp only [m_cnf_Valid_lp1]
      rw [if_neg ltB']
    · rw [any_not_all]
      cases f.clauses.all (clF f.vars 0) <;> rfl
def litF (x : Int) : Int := if x < 0 then 0 else if x % 2 = 0 then x / 2 + 1 else -(x / 2 + 1)
theorem cnf_literal {x : Int} (h : x ≤ 9223372036854775807) : m_cnf_Literal x = some (litF x) := by
  unfold m_cnf_Literal litF
  by_cases h0 : x < 0
  · simp [h0]
  · rw [if_neg (by simpa using h0), if_neg h0, remK_pos (by omega) (by decide), quoK_pos (by omega) (by decide) h]
    simp only [bsm]
    rw [inK_eq (by omega)]
    simp only [bsm]
    by_cases h2 : x % 2 = 0
    · simp [h2]
    · rw [inK_eq (by omega)]; simp [h2]
theorem ref_literal {x : Int} (h : x ≤ 9223372036854775807) : m_assessorref26_Literal x = some (litF x) := cnf_literal h
theorem lists_equal (a b : List Int) (ha : a.length ≤ 9223372036854775807) : m_slices_Equal_int_int_ a b = some (decide (a = b)) := by
  unfold m_slices_Equal_int_int_
  by_cases hl : a.length = b.length
  · rw [if_neg (by simp [hl])]
    refine bind_same hl (Out.ret false) (Out.brk ()) ?_ ?_ ?_
    · intro k x y hx hy
      simp only [m_slices_Equal_int_int__lp1]
      rw [if_pos (ltB (len_lt hx)), idx_nat hx, idx_nat hy]
      simp only [bsm]
      rw [inK_up (len_lt hx) ha]
      by_cases h : x = y <;> simp [h]
    · simp only [m_slices_Equal_int_int__lp1]
      rw [if_neg ltB']
    · by_cases h : a = b <;> simp [h]
  · rw [if_pos (by simp; omega)]
    have : a ≠ b := fun e => hl (by rw [e])
    simp [this]
theorem clauses_equal (a b : List (List Int)) (ha : FLen a) : m_assessorref26_Clauses a b = some (decide (a = b)) := by
  unfold m_assessorref26_Clauses
  by_cases hl : a.length = b.length
  · rw [if_neg (by simp [hl])]
    refine bind_same hl (Out.ret false) (Out.brk ()) ?_ ?_ ?_
    · intro k x y hx hy
      simp only [m_assessorref26_Clauses_lp1]
      rw [if_pos (ltB (len_lt hx)), idx_nat hx, idx_nat hy]
      simp only [bsm]
      by_cases hxy : x.length = y.length
      · rw [if_neg (by simp [hxy])]
        have hxl := ha.2 x (mem_get hx)
        refine bind_same hxy (Out.ret false) (Out.brk ()) ?_ ?_ ?_
        · intro j u v hu hv
          simp only [m_assessorref26_Clauses_lp2]
          rw [idx_nat hx]
          simp only [bsm]
          rw [if_pos (ltB (len_lt hu)), idx_nat hu, idx_nat hy]
          simp only [bsm]
          rw [idx_nat hv]
          simp only [bsm]
          rw [inK_up (len_lt hu) hxl]
          by_cases h : u = v <;> simp [h]
        · simp only [m_assessorref26_Clauses_lp2]
          rw [idx_nat hx]
          simp only [bsm]
          rw [if_neg ltB']
        · by_cases h : x = y
          · simp [h, inK_up (len_lt hx) ha.1]
          · simp [h]
      · rw [if_pos (by simp; omega)]
        have : x ≠ y := fun e => hxy (by rw [e])
        simp [this]
    · simp only [m_assessorref26_Clauses_lp1]
      rw [if_neg ltB']
    · by_cases h : a = b <;> simp [h]
  · rw [if_pos (by simp; omega)]
    have : a ≠ b := fun e => hl (by rw [e])
    simp [this]
theorem Formula.ext_ {f g : Formula} (h1 : f.vars = g.vars) (h2 : f.clauses = g.clauses) : f = g := by
  obtain ⟨a, b⟩ := f; obtain ⟨c, d⟩ := g; simp at h1 h2; rw [h1, h2]
instance : DecidableEq Formula := fun f g => if h : f.vars = g.vars ∧ f.clauses = g.clauses then isTrue (Formula.ext_ h.1 h.2) else isFalse (fun e => h (by rw [e]; exact ⟨rfl, rfl⟩))
theorem same_formula (f g : Formula) (ha : FLen f.clauses) : m_assessorref26_Same f g = some (decide (f = g)) := by
  unfold m_assessorref26_Same
  by_cases h : f.vars = g.vars
  · rw [if_pos (by simpa using h), clauses_equal _ _ ha]
    simp only [bsm]
    by_cases h2 : f.clauses = g.clauses
    · simp [h2, Formula.ext_ h h2]
    · have : f ≠ g := fun e => h2 (by rw [e])
      simp [h2, this]
  · rw [if_neg (by simpa using h)]
    have : f ≠ g := fun e => h (by rw [e])
    simp [this]
def mdF : Int → List Int → Bool
  | _, [] => true
  | i, l :: r => (decide (l = i) || decide (l = -i)) && mdF (i + 1) r
def satB (m c : List Int) : Bool := c.any fun l => decide (m[(vr l - 1).toNat]? = some l)
def holdsB (f : Formula) (m : List Int) : Bool := validB f && decide ((m.length : Int) = f.vars) && mdF 1 m && f.clauses.all (satB m)
theorem clF_mem {v : Int} : ∀ {t : Int} {c : List Int}, 0 ≤ t → clF v t c = true → ∀ l ∈ c, -v ≤ l ∧ l ≤ v ∧ t < vr l
  | _, [], _, _, l, h => by simp at h
  | t, x :: c, ht, h, l, hl => by
    unfold clF at h
    simp only [Bool.and_eq_true, decide_eq_true_eq] at h
    rcases List.mem_cons.1 hl with rfl | hl
    · exact ⟨h.1.1.1, h.1.1.2, h.1.2⟩
    · have := clF_mem (vr_nn x) h.2 l hl
      exact ⟨this.1, this.2.1, by omega⟩
theorem idx_vr {α : Type} {m : List α} {l : Int} (h0 : 0 < vr l) (h : vr l ≤ m.length) : ∃ x, m[(vr l - 1).toNat]? = some x ∧ idx m (vr l - 1) = some x := by
  obtain ⟨x, hx⟩ := get_of_lt (show (vr l - 1).toNat < m.length by omega)
  exact ⟨x, hx, idx_of (by omega) hx⟩
theorem mdF_loop {m : List Int} {t : Int} (ht : 0 ≤ t) (hm : t + m.length ≤ 9223372036854775800) : runL (fun (a t : Int) => if (!decide (a = t + 1) && !decide (a = -t - 1)) = true then Step.done (Out.ret false : Out Unit Bool) else Step.next (t + 1)) (fun _ => Out.brk ()) m t = if mdF (t + 1) m = true then Out.brk () else Out.ret false := by
  induction m generalizing t with
  | nil => rfl
  | cons a m ih =>
    unfold runL mdF
    by_cases h1 : a = t + 1
    · simp only [h1, decide_true, Bool.not_true, Bool.false_and, Bool.false_eq_true, if_false, Bool.true_or, Bool.true_and]
      exact ih (by omega) (by simp only [List.length_cons] at hm; omega)
    · by_cases h2 : a = -t - 1
      · have h3 : a = -(t + 1) := by omega
        have e : decide (a = -(t + 1)) = true := by simpa using h3
        simp only [e, h2, decide_true, Bool.not_true, Bool.and_false, Bool.false_eq_true, if_false, Bool.or_true, Bool.true_and]
        simp only [← h2, e, Bool.or_true, Bool.true_and]
        exact ih (by omega) (by simp only [List.length_cons] at hm; omega)
      · have h3 : ¬ a = -(t + 1) := by omega
        simp [h1, h2, h3]
theorem holds1_ok {m : List Int} {x : Int} (hb : -1099511627776 ≤ x ∧ x ≤ 1099511627776) (h0 : 0 < vr x) (h : vr x ≤ m.length) : m_cnf_Holds_1 x m = some (decide (m[(vr x - 1).toNat]? = some x)) := by
  unfold m_cnf_Holds_1
  obtain ⟨y, h1, h2⟩ := idx_vr h0 h
  rw [var_ok (by omega)]
  simp only [bsm]
  rw [inK_eq (by have := @vr_le x 1099511627776; omega)]
  simp only [bsm]
  rw [h2, h1]; simp
theorem holdsAny_ok {m c : List Int} (hc : c.length ≤ 9223372036854775807) (h : ∀ x ∈ c, (-1099511627776 ≤ x ∧ x ≤ 1099511627776) ∧ 0 < vr x ∧ vr x ≤ m.length) : m_slices_ContainsFunc_cnf_Holds_1 c m = some (satB m c) := by
  unfold m_slices_ContainsFunc_cnf_Holds_1 m_slices_IndexFunc_cnf_Holds_1
  have h := scan_loop (body := fun s => m_slices_IndexFunc_cnf_Holds_1_lp1 c m s) c (fun l => decide (m[(vr l - 1).toNat]? = some l)) (fun k _ => Out.ret (k : Int)) (Out.brk ()) ?_ ?_
  · unfold satB
    rcases h with ⟨k, a, _, _, _, h2, _, e⟩ | ⟨_, h2, _, e⟩
    · rw [e, h2]; simp
    · rw [e, h2]; simp
  · intro k a hk
    simp only [m_slices_IndexFunc_cnf_Holds_1_lp1]
    rw [if_pos (ltB (len_lt hk)), idx_nat hk]
    simp only [bsm]
    obtain ⟨h1, h2, h3⟩ := h a (mem_get hk)
    rw [holds1_ok h1 h2 h3, inK_up (len_lt hk) hc]
    generalize decide (m[(vr a - 1).toNat]? = some a) = d
    cases d <;> rfl
  · simp only [m_slices_IndexFunc_cnf_Holds_1_lp1]
    rw [if_neg ltB']
theorem valid_bnd {f : Formula} (h : validB f = true) : 0 ≤ f.vars ∧ f.vars ≤ 65536 ∧ f.clauses.length ≤ 262144 ∧ ∀ c ∈ f.clauses, clF f.vars 0 c = true := by
  unfold validB at h
  simp only [Bool.and_eq_true, decide_eq_true_eq, List.all_eq_true] at h
  exact ⟨h.1.1.1, h.1.1.2, h.1.2, h.2⟩
theorem valid_lit {f : Formula} (h : validB f = true) {c : List Int} (hc : c ∈ f.clauses) {l : Int} (hl : l ∈ c) : -f.vars ≤ l ∧ l ≤ f.vars ∧ 0 < vr l ∧ vr l ≤ f.vars := by
  have := clF_mem (Int.le_refl 0) ((valid_bnd h).2.2.2 c hc) l hl
  exact ⟨this.1, this.2.1, this.2.2, vr_le.2 ⟨this.1, this.2.1⟩⟩
theorem cnf_holds {f : Formula} {m : List Int} (hl : FLen f.clauses) : m_cnf_Holds f m = some (holdsB f m) := by
  unfold m_cnf_Holds holdsB
  rw [cnf_valid hl]
  simp only [bsm]
  by_cases hv : validB f = true
  · by_cases hm : (m.length : Int) = f.vars
    · rw [if_neg (by simp [hv, hm])]
      have hb := valid_bnd hv
      rw [loopL (body := fun s => m_cnf_Holds_lp1 m s) (s0 := (0 : Int)) m (fun k t => (k : Int)) (fun (a t : Int) => if (!decide (a = t + 1) && !decide (a = -t - 1)) = true then Step.done (Out.ret false : Out Unit Bool) else Step.next (t + 1)) (fun _ => Out.brk ()) (fun k t => t = (k : Int)) (t0 := 0) rfl rfl ?_ ?_, mdF_loop (by omega) (by omega)]
      · simp only [bsm, hv, hm, decide_true, Bool.true_and, Int.zero_add]
        by_cases h1 : mdF 1 m = true
        · rw [if_pos h1, h1, Bool.true_and]
          refine bind_any f.clauses (fun c => !satB m c) (Out.ret false) (Out.brk ()) ?_ ?_ ?_
          · intro k a hk
            simp only [m_cnf_Holds_lp2]
            rw [if_pos (ltB (len_lt hk)), idx_nat hk]
            simp only [bsm]
            rw [holdsAny_ok (hl.2 a (mem_get hk)) (fun x hx => by have := valid_lit hv (mem_get hk) hx; omega), inK_up (len_lt hk) hl.1]
            cases satB m a <;> rfl
          · simp only [m_cnf_Holds_lp2]
            rw [if_neg ltB']
          · rw [any_not_all]
            cases f.clauses.all (satB m) <;> rfl
        · simp [h1]
      · rintro k a t hk rfl
        refine ⟨?_, fun t' ht' => ?_⟩
        · simp only [m_cnf_Holds_lp1]
          rw [if_pos (ltB (len_lt hk)), idx_nat hk]
          have := len_lt hk
          simp only [bsm]
          rw [inK_up (len_lt hk) (by omega), inK_eq (show -9223372036854775808 ≤ 0 - (k : Int) ∧ 0 - (k : Int) ≤ 9223372036854775807 by omega)]
          simp only [bsm]
          rw [inK_eq (show -9223372036854775808 ≤ 0 - (k : Int) - 1 ∧ 0 - (k : Int) - 1 ≤ 9223372036854775807 by omega)]
          have e : ((k + 1 : Nat) : Int) = (k : Int) + 1 := by omega
          have e2 : 0 - (k : Int) - 1 = -(k : Int) - 1 := by omega
          rw [e, e2]
          by_cases h1 : a = (k : Int) + 1 <;> by_cases h2 : a = -(k : Int) - 1 <;> simp [h1, h2]
        · split at ht'
          · cases ht'
          · exact (Step.next.inj ht').symm
      · rintro t rfl
        simp only [m_cnf_Holds_lp1]
        rw [if_neg ltB']
    · rw [if_pos (by simp [hm])]; simp [hm]
  · rw [if_pos (by simp [hv])]; simp [hv]
end Go.Proofs.YtelioaepnpnojaaGreatDoor

/- Normal: the normal form of a clause, by insertion (the reference) and by sorting (the program). -/
set_option linter.unusedVariables false
set_option linter.unusedSimpArgs false
namespace Go.Proofs.YtelioaepnpnojaaGreatDoor
open Go.RowKit
def insF (x : Int) : List Int → Option (List Int)
  | [] => some [x]
  | y :: r => if vr y < vr x then (insF x r).map (y :: ·) else if y = -x then none else if y = x then some (y :: r) else some (x :: y :: r)
def rngB (x : Int) : Bool := decide (x ≠ 0) && decide (-1073741824 ≤ x) && decide (x ≤ 1073741824)
def nrm : List Int → List Int → Option (List Int)
  | acc, [] => some acc
  | acc, x :: l => if rngB x = true then (insF x acc).bind fun o => nrm o l else none
def normF (l : List Int) : List Int × Bool := match nrm [] l with
  | some o => (o, true)
  | none => ([], false)
theorem insF_split {x : Int} : ∀ {l1 l2 : List Int}, (∀ y ∈ l1, vr y < vr x) → (∀ z, l2[0]? = some z → ¬ vr z < vr x) → insF x (l1 ++ l2) = match l2 with
    | [] => some (l1 ++ [x])
    | z :: r => if z = -x then none else if z = x then some (l1 ++ z :: r) else some (l1 ++ x :: z :: r)
  | [], [], _, _ => rfl
  | [], z :: r, _, h => by
    have := h z rfl
    simp only [List.nil_append, insF, this, if_false]
  | y :: l1, l2, h1, h2 => by
    have h := h1 y (List.mem_cons_self ..)
    have ih := insF_split (l1 := l1) (l2 := l2) (fun w hw => h1 w (List.mem_cons_of_mem _ hw)) h2
    rw [List.cons_append, insF, if_pos h, ih]
    cases l2 with
    | nil => rfl
    | cons z r =>
      simp only
      split
      · rfl
      · split <;> rfl
def Inc (l : List Int) : Prop := l.Pairwise fun x y => vr x < vr y
theorem insF_spec {x : Int} (hx : x ≠ 0) : ∀ {acc : List Int}, Inc acc → match insF x acc with
    | some o => Inc o ∧ (∀ z, z ∈ o ↔ z = x ∨ z ∈ acc) ∧ o.length ≤ acc.length + 1
    | none => -x ∈ acc
  | [], _ => by simp [insF, Inc]
  | y :: r, h => by
    have h' := List.pairwise_cons.1 h
    unfold insF
    by_cases h1 : vr y < vr x
    · rw [if_pos h1]
      have ih := insF_spec hx h'.2
      cases hi : insF x r with
      | none => rw [hi] at ih; simp only [Option.map_none]; exact List.mem_cons_of_mem _ ih
      | some o =>
        rw [hi] at ih
        simp only [Option.map_some]
        refine ⟨List.pairwise_cons.2 ⟨fun z hz => ?_, ih.1⟩, fun z => ?_, by simp only [List.length_cons]; omega⟩
        · rcases (ih.2.1 z).1 hz with rfl | hz
          · exact h1
          · exact h'.1 z hz
        · simp only [List.mem_cons, ih.2.1 z]
          constructor
          · rintro (rfl | rfl | h) <;> simp_all
          · rintro (rfl | rfl | h) <;> simp_all
    · rw [if_neg h1]
      by_cases h2 : y = -x
      · rw [if_pos h2]; simp [h2]
      · rw [if_neg h2]
        by_cases h3 : y = x
        · rw [if_pos h3]; exact ⟨h, by intro z; simp [h3], by simp⟩
        · rw [if_neg h3]
          have h4 : vr x < vr y := by
            by_cases h : vr x < vr y
            · exact h
            · have : vr y = vr x := by omega
              rcases vr_eq.1 this with e | e
              · exact absurd e h3
              · exact absurd e h2
          refine ⟨List.pairwise_cons.2 ⟨fun z hz => ?_, h⟩, by intro z; simp, by simp⟩
          rcases List.mem_cons.1 hz with rfl | hz
          · exact h4
          · exact Int.lt_trans h4 (h'.1 z hz)
theorem Inc.noOpp {o : List Int} (h : Inc o) {x : Int} (hx : x ∈ o) (hn : -x ∈ o) (h0 : x ≠ 0) : False := by
  induction o with
  | nil => simp at hx
  | cons y r ih =>
    have h' := List.pairwise_cons.1 h
    rcases List.mem_cons.1 hx with rfl | hx <;> rcases List.mem_cons.1 hn with hn | hn
    · omega
    · have := h'.1 _ hn; rw [vr_neg] at this; omega
    · have := h'.1 _ hx; rw [← hn, vr_neg] at this; omega
    · exact ih h'.2 hx hn
theorem nrm_spec : ∀ (l acc : List Int), Inc acc → (∀ x ∈ acc, x ≠ 0) → match nrm acc l with
    | some o => Inc o ∧ (∀ z, z ∈ o ↔ z ∈ acc ∨ z ∈ l) ∧ (∀ x ∈ l, rngB x = true) ∧ o.length ≤ acc.length + l.length
    | none => (∃ x ∈ l, rngB x = false) ∨ ∃ x, x ≠ 0 ∧ (x ∈ acc ∨ x ∈ l) ∧ (-x ∈ acc ∨ -x ∈ l)
  | [], acc, h, _ => ⟨h, by simp, by simp, by simp⟩
  | x :: l, acc, h, h0 => by
    unfold nrm
    by_cases hr : rngB x = true
    · rw [if_pos hr]
      have hx : x ≠ 0 := by unfold rngB at hr; simp only [Bool.and_eq_true, decide_eq_true_eq] at hr; exact hr.1.1
      have hi := insF_spec hx h
      cases hf : insF x acc with
      | none =>
        rw [hf] at hi
        simp only [Option.bind_none]
        exact Or.inr ⟨x, hx, Or.inr (List.mem_cons_self ..), Or.inl hi⟩
      | some o =>
        rw [hf] at hi
        simp only [Option.bind_some]
        have ih := nrm_spec l o hi.1 (fun z hz => by
          rcases (hi.2.1 z).1 hz with rfl | hz
          · exact hx
          · exact h0 z hz)
        cases hn : nrm o l with
        | none =>
          rw [hn] at ih
          simp only at ih ⊢
          rcases ih with ⟨z, hz, h1⟩ | ⟨z, hz, h1, h2⟩
          · exact Or.inl ⟨z, List.mem_cons_of_mem _ hz, h1⟩
          · refine Or.inr ⟨z, hz, ?_, ?_⟩
            · rcases h1 with h1 | h1
              · rcases (hi.2.1 z).1 h1 with rfl | h1
                · exact Or.inr (List.mem_cons_self ..)
                · exact Or.inl h1
              · exact Or.inr (List.mem_cons_of_mem _ h1)
            · rcases h2 with h1 | h1
              · rcases (hi.2.1 _).1 h1 with e | h1
                · exact Or.inr (e ▸ List.mem_cons_self ..)
                · exact Or.inl h1
              · exact Or.inr (List.mem_cons_of_mem _ h1)
        | some q =>
          rw [hn] at ih
          simp only at ih ⊢
          refine ⟨ih.1, fun z => ?_, fun z hz => ?_, by simp only [List.length_cons]; omega⟩
          · rw [ih.2.1 z, hi.2.1 z]; simp only [List.mem_cons]
            constructor
            · rintro ((rfl | h) | h) <;> simp_all
            · rintro (h | rfl | h) <;> simp_all
          · rcases List.mem_cons.1 hz with rfl | hz
            · exact hr
            · exact ih.2.2.1 z hz
    · rw [if_neg hr]
      exact Or.inl ⟨x, List.mem_cons_self .., by simpa using hr⟩
theorem nrm_eq {l o : List Int} (h1 : Inc o) (h2 : ∀ z, z ∈ o ↔ z ∈ l) (h3 : ∀ x ∈ l, rngB x = true) : nrm [] l = some o := by
  have h := nrm_spec l [] List.Pairwise.nil (by simp)
  cases hn : nrm [] l with
  | none =>
    rw [hn] at h
    simp only at h
    rcases h with ⟨x, hx, e⟩ | ⟨x, h0, hx, hy⟩
    · rw [h3 x hx] at e; cases e
    · simp only [List.not_mem_nil, false_or] at hx hy
      exact (h1.noOpp ((h2 _).2 hx) ((h2 _).2 hy) h0).elim
  | some q =>
    rw [hn] at h
    simp only at h
    congr 1
    exact rising_ext (r := fun x y => vr x < vr y) (fun a => by omega) (fun a b c h1 h2 => by omega) h.1 h1 (fun x => by rw [h.2.1, h2]; simp)
theorem nrm_none {l : List Int} {x : Int} (h : (x ∈ l ∧ rngB x = false) ∨ (x ≠ 0 ∧ x ∈ l ∧ -x ∈ l)) : nrm [] l = none := by
  have h' := nrm_spec l [] List.Pairwise.nil (by simp)
  cases hn : nrm [] l with
  | none => rfl
  | some q =>
    rw [hn] at h'
    simp only at h'
    rcases h with ⟨h1, h2⟩ | ⟨h0, h1, h2⟩
    · rw [h'.2.2.1 x h1] at h2; cases h2
    · exact (h'.1.noOpp ((h'.2.1 _).2 (Or.inr h1)) ((h'.2.1 _).2 (Or.inr h2)) h0).elim
theorem sub_fst {α : Type} (l1 l2 : List α) : sub (l1 ++ l2) 0 ((l1.length : Nat) : Int) = some l1 := by
  rw [sub_ok (by omega) (by omega) (by simp only [List.length_append]; omega)]; simp
theorem sub_snd {α : Type} (l1 l2 : List α) : sub (l1 ++ l2) ((l1.length : Nat) : Int) ((l1 ++ l2).length : Int) = some l2 := by
  rw [sub_ok (by omega) (by simp only [List.length_append]; omega) (by omega), show (((l1 ++ l2).length : Int)).toNat = (l1 ++ l2).length from rfl, List.take_length]
  simp
def stNrm (x : Int) (acc : List Int) : Step (List Int) (Out (List Int) (List Int × Bool)) :=
  if rngB x = true then (match insF x acc with | some o => .next o | none => .done (.ret ([], false))) else .done (.ret ([], false))
theorem runL_nrm : ∀ (l acc : List Int), (match runL stNrm (fun o => Out.brk o) l acc with | .brk o => (o, true) | .ret r => r) = (match nrm acc l with | some o => (o, true) | none => ([], false))
  | [], acc => rfl
  | x :: l, acc => by
    unfold runL nrm stNrm
    by_cases hr : rngB x = true
    · rw [if_pos hr, if_pos hr]
      cases hi : insF x acc with
      | none => rfl
      | some o => exact runL_nrm l o
    · rw [if_neg hr, if_neg hr]
theorem rngB_bnd {x : Int} (h : rngB x = true) : x ≠ 0 ∧ -1073741824 ≤ x ∧ x ≤ 1073741824 := by
  unfold rngB at h; simp only [Bool.and_eq_true, decide_eq_true_eq] at h; exact ⟨h.1.1, h.1.2, h.2⟩
theorem ref_normal {l : List Int} (hl : l.length ≤ 1073741824) : m_assessorref26_Normal l = some (normF l) := by
  unfold m_assessorref26_Normal normF
  rw [loopL (body := fun s : Int × List Int => m_assessorref26_Normal_lp1 l s.1 s.2) (s0 := ((0 : Int), ([] : List Int))) l (fun k t => ((k : Int), t)) stNrm (fun o => Out.brk o)
    (fun k acc => Inc acc ∧ (∀ x ∈ acc, rngB x = true) ∧ acc.length ≤ k) (t0 := []) rfl ⟨List.Pairwise.nil, by simp, by simp⟩ ?_ ?_]
  · rw [bsm, ← runL_nrm l []]
    generalize runL stNrm (fun o => Out.brk o) l [] = o
    cases o <;> rfl
  · rintro k x acc hk ⟨hI, hA, hn⟩
    have hkl := len_lt hk
    constructor
    · by_cases hr : rngB x = true
      · have hb := rngB_bnd hr
        have hm2 : ((if (if x = 0 then some true else some (decide (x < -1073741824))) = some true then some true else some (decide (1073741824 < x))) : Option Bool) = some false := by
          have h1 : ¬ x < -1073741824 := by omega
          have h2 : ¬ 1073741824 < x := by omega
          simp [hb.1, h1, h2]
        have hlp : ∀ s, m_assessorref26_Normal_lp2 l (k : Int) acc s = m_assessorref26_Normal_lp2 l (k : Int) acc s := fun _ => rfl
        have hscan := scan_loop (body := fun s => m_assessorref26_Normal_lp2 l (k : Int) acc s) acc (fun a => !decide (vr a < vr x)) (fun j _ => (j : Int)) (acc.length : Int) ?_ ?_
        · have key : ∃ l1 l2, acc = l1 ++ l2 ∧ (∀ y ∈ l1, vr y < vr x) ∧ (∀ z, l2[0]? = some z → ¬ vr z < vr x) ∧ loopM (fun s => m_assessorref26_Normal_lp2 l (k : Int) acc s) 0 = some ((l1.length : Nat) : Int) := by
            rcases hscan with ⟨j, a, h1, h2, h3, _, _, e⟩ | ⟨h1, _, _, e⟩
            · have hj := len_lt h1
              refine ⟨acc.take j, acc.drop j, (List.take_append_drop j acc).symm, fun y hy => ?_, fun z hz => ?_, ?_⟩
              · obtain ⟨i, hi⟩ := List.getElem?_of_mem hy
                rw [List.getElem?_take] at hi
                split at hi
                · have := h3 i y (by assumption) hi; simpa using this
                · cases hi
              · rw [List.getElem?_drop, Nat.add_zero, h1] at hz
                obtain rfl := Option.some.inj hz
                simpa using h2
              · rw [e, List.length_take, Nat.min_eq_left (Nat.le_of_lt hj)]
            · exact ⟨acc, [], by simp, fun y hy => by have := h1 y hy; simpa using this, fun z hz => by simp at hz, e⟩
          obtain ⟨l1, l2, hacc, h1, h2, e⟩ := key
          have hlen : acc.length = l1.length + l2.length := by rw [hacc, List.length_append]
          have hx0 : ¬ x < -1073741824 := by omega
          have hx1 : ¬ 1073741824 < x := by omega
          have eneg : inK .i64 (0 - x) = some (-x) := by rw [inK_eq ⟨by omega, by omega⟩]; congr 1; omega
          simp only [m_assessorref26_Normal_lp1, ltB hkl, if_true, idx_nat hk, bsm, hb.1, decide_false, hx0, hx1, Bool.false_eq_true, if_false, e, eneg]
          have hs := insF_split h1 h2
          rw [← hacc] at hs
          unfold stNrm
          rw [if_pos hr, hs]
          have hsub0 : sub acc 0 ((l1.length : Nat) : Int) = some l1 := by rw [hacc]; exact sub_fst l1 l2
          have hsub1 : sub acc ((l1.length : Nat) : Int) (acc.length : Int) = some l2 := by rw [hacc]; exact sub_snd l1 l2
          have happ0 : app ([] : List Int) l1 = some l1 := by rw [app_ok (by simp; omega)]; rfl
          have happ1 : app l1 [x] = some (l1 ++ [x]) := app_ok (by simp; omega)
          have happ2 : app (l1 ++ [x]) l2 = some (l1 ++ [x] ++ l2) := app_ok (by simp; omega)
          cases l2 with
          | nil =>
            have hll : ¬ (decide (((l1.length : Nat) : Int) < (acc.length : Int))) = true := by rw [hlen]; simp
            simp only [hll, if_false, bsm, Bool.false_eq_true, hsub0, happ0, happ1, hsub1, happ2, inK_up hkl (by omega), List.append_nil]
          | cons z r =>
            have hll : (decide (((l1.length : Nat) : Int) < (acc.length : Int))) = true := by rw [hlen]; simp; omega
            have hz : acc[l1.length]? = some z := by rw [hacc]; simp
            by_cases hz1 : z = -x
            · simp only [hll, if_true, idx_nat hz, bsm, hz1, decide_true]
            · by_cases hz2 : z = x
              · simp only [hll, if_true, idx_nat hz, bsm, hz1, hz2, decide_true, decide_false, Bool.false_eq_true, if_false, inK_up hkl (show l.length ≤ 9223372036854775807 by omega)]
                have : ¬ x = -x := by omega
                simp only [this, decide_false, Bool.false_eq_true, if_false, bsm, hacc, hz2]
              · simp only [hll, if_true, idx_nat hz, bsm, hz1, hz2, decide_false, Bool.false_eq_true, if_false, hsub0, happ0, happ1, hsub1, happ2, inK_up hkl (show l.length ≤ 9223372036854775807 by omega), List.append_assoc, List.singleton_append]
        · intro j a hj
          have ha := rngB_bnd (hA a (mem_get hj))
          have hjl := len_lt hj
          simp only [m_assessorref26_Normal_lp2, ltB hjl, if_true, idx_nat hj, bsm, rvar_ok (show -9223372036854775807 ≤ a ∧ a ≤ 9223372036854775807 by omega), idx_nat hk, rvar_ok (show -9223372036854775807 ≤ x ∧ x ≤ 9223372036854775807 by omega), inK_up hjl (by omega)]
          by_cases h : vr a < vr x <;> simp [h]
        · simp only [m_assessorref26_Normal_lp2, ltB', if_false, bsm, Bool.false_eq_true]
      · have hr' : rngB x = false := by simpa using hr
        unfold stNrm
        rw [if_neg hr]
        unfold rngB at hr'
        simp only [Bool.and_eq_false_iff, decide_eq_false_iff_not, Decidable.not_not] at hr'
        simp only [m_assessorref26_Normal_lp1, ltB hkl, if_true, idx_nat hk, bsm]
        by_cases h0 : x = 0
        · simp [h0]
        · by_cases h1 : x < -1073741824
          · simp [h0, h1]
          · have h2 : 1073741824 < x := by omega
            simp [h0, h1, h2]
    · intro t' ht'
      unfold stNrm at ht'
      by_cases hr : rngB x = true
      · rw [if_pos hr] at ht'
        have hi := insF_spec (rngB_bnd hr).1 hI
        cases hf : insF x acc with
        | none => rw [hf] at ht'; cases ht'
        | some o =>
          rw [hf] at ht' hi
          obtain rfl := Step.next.inj ht'
          refine ⟨hi.1, fun z hz => ?_, by omega⟩
          rcases (hi.2.1 z).1 hz with rfl | hz
          · exact hr
          · exact hA z hz
      · rw [if_neg hr] at ht'; cases ht'
  · rintro t ⟨_, _, hn⟩
    simp only [m_assessorref26_Normal_lp1, ltB', if_false, Bool.false_eq_true]
theorem ltN_iff {x y : Int} : ltN x y = true ↔ vr x < vr y ∨ vr x = vr y ∧ x < y := by unfold ltN; simp
theorem ltN_irr (x : Int) : ¬ ltN x x = true := by rw [ltN_iff]; omega
theorem ltN_trans {x y z : Int} (h1 : ltN x y = true) (h2 : ltN y z = true) : ltN x z = true := by
  rw [ltN_iff] at *; omega
theorem ltN_tri {x y : Int} (h1 : ¬ ltN x y = true) (h2 : ¬ ltN y x = true) : x = y := by
  rw [ltN_iff] at *
  have : vr x = vr y := by omega
  omega
theorem sortN_pair (l : List Int) : (l.mergeSort fun x y => !ltN y x).Pairwise fun x y => ¬ ltN y x = true := by
  have key : ∀ x y, (!ltN y x) = true ↔ ¬ ltN y x = true := fun x y => by cases ltN y x <;> simp
  have := List.pairwise_mergeSort (le := fun x y => !ltN y x) (fun a b c h1 h2 => by
    rw [key] at *
    rw [ltN_iff] at *
    omega) (fun a b => by
    rw [Bool.or_eq_true, key, key]
    by_cases h : ltN b a = true
    · right; intro h2; exact ltN_irr _ (ltN_trans h h2)
    · left; exact h) l
  exact this.imp fun h => (key _ _).1 h
open Go.Lib in
theorem compact_strict {d : List Int} (hs : d.Pairwise fun x y => ¬ ltN y x = true) : ∀ m, m ≤ d.length → (compactUpTo d.toArray m).Pairwise (fun x y => ltN x y = true) ∧ (∀ x, x ∈ compactUpTo d.toArray m ↔ x ∈ d.take m)
  | 0, _ => by simp [compactUpTo]
  | m + 1, hm => by
    obtain ⟨ih1, ih2⟩ := compact_strict hs m (by omega)
    obtain ⟨b, hb⟩ := get_of_lt (show m < d.length by omega)
    have hdm : d.toArray[m]! = b := by
      have hlt := len_lt hb
      rw [getElem!_pos _ _ (by simpa using hlt)]
      have := (List.getElem?_eq_some_iff.1 hb).2
      simpa using this
    have hle : ∀ i a, i < m → d[i]? = some a → ¬ ltN b a = true := fun i a hi ha => by
      have h1 := (List.getElem?_eq_some_iff.1 ha)
      have h2 := (List.getElem?_eq_some_iff.1 hb)
      have := List.pairwise_iff_getElem.1 hs i m h1.1 h2.1 hi
      rw [h1.2, h2.2] at this
      exact this
    rw [compactUpTo_succ, take_snoc_of hb, hdm]
    by_cases hk : keeps d.toArray m = true
    · rw [if_pos hk]
      refine ⟨List.pairwise_append.2 ⟨ih1, List.pairwise_singleton _ _, fun x hx y hy => ?_⟩, fun x => by simp [ih2]⟩
      obtain rfl := List.mem_singleton.1 hy
      have hx2 := (ih2 x).1 hx
      obtain ⟨i, hi⟩ := List.getElem?_of_mem hx2
      rw [List.getElem?_take] at hi
      split at hi
      · rename_i him
        have h1 := hle i x him hi
        cases h2 : ltN x y with
        | true => rfl
        | false =>
          exfalso
          have e : x = y := ltN_tri (by rw [h2]; simp) h1
          subst e
          obtain ⟨c, hc⟩ := get_of_lt (show m - 1 < d.length by omega)
          have hcm : d.toArray[m - 1]! = c := by
            rw [getElem!_pos _ _ (by simp; omega)]
            have := (List.getElem?_eq_some_iff.1 hc).2
            simpa using this
          have h3 : c = x := by
            apply ltN_tri
            · by_cases him' : i = m - 1
              · subst him'; rw [hi] at hc; obtain rfl := Option.some.inj hc; exact ltN_irr _
              · have q1 := (List.getElem?_eq_some_iff.1 hi)
                have q2 := (List.getElem?_eq_some_iff.1 hc)
                have := List.pairwise_iff_getElem.1 hs i (m - 1) q1.1 q2.1 (by omega)
                rw [q1.2, q2.2] at this
                exact this
            · exact hle (m - 1) c (by omega) hc
          unfold keeps at hk
          simp only [decide_eq_true_eq, hdm, hcm, h3] at hk
          rcases hk with hk | hk
          · omega
          · exact hk rfl
      · cases hi
    · rw [if_neg hk, List.append_nil]
      refine ⟨ih1, fun x => ?_⟩
      rw [ih2, List.mem_append, List.mem_singleton]
      constructor
      · exact Or.inl
      · rintro (h | rfl)
        · exact h
        · unfold keeps at hk
          simp only [decide_eq_true_eq, not_or, ne_eq, Decidable.not_not, hdm] at hk
          obtain ⟨c, hc⟩ := get_of_lt (show m - 1 < d.length by omega)
          have hcm : d.toArray[m - 1]! = c := by
            rw [getElem!_pos _ _ (by simp; omega)]
            have := (List.getElem?_eq_some_iff.1 hc).2
            simpa using this
          rw [hcm] at hk
          rw [hk.2]
          refine List.mem_of_getElem? (i := m - 1) ?_
          rw [List.getElem?_take, if_pos (by omega)]; exact hc
theorem mem_litOk {l : List Int} (h : ∀ x ∈ l, -1099511627776 ≤ x ∧ x ≤ 1099511627776) : litOk l = true := by
  unfold litOk
  simp only [List.all_eq_true, decide_eq_true_eq]
  intro x hx
  have := h x hx
  omega
theorem compactLen_le (l : List Int) : (Lib.compact l).length ≤ l.length := by
  unfold Lib.compact Lib.compactUpTo
  rw [List.length_map]
  have := List.length_filter_le (Lib.keeps l.toArray) (List.range l.length)
  rw [List.length_range] at this
  exact this
theorem compact_ok {l : List Int} (hl : l.length ≤ 1073741824) (hr : ∀ x ∈ l, rngB x = true) : ∃ o, ((m_sortN l).bind m_compactI) = some o ∧ o.Pairwise (fun x y => ltN x y = true) ∧ (∀ x, x ∈ o ↔ x ∈ l) ∧ o.length ≤ l.length := by
  have h1 : m_sortN l = some (l.mergeSort fun x y => !ltN y x) := by
    unfold m_sortN
    rw [if_pos ⟨by omega, mem_litOk fun x hx => by have := rngB_bnd (hr x hx); omega⟩]
  obtain ⟨h2, h3⟩ := compact_strict (sortN_pair l) l.length (by simp)
  refine ⟨Lib.compact (l.mergeSort fun x y => !ltN y x), ?_, ?_, fun x => ?_, ?_⟩
  · rw [h1]
    show m_compactI _ = _
    unfold m_compactI
    rw [if_pos (by simp; omega)]
  · unfold Lib.compact
    rw [List.length_mergeSort]; exact h2
  · unfold Lib.compact
    rw [List.length_mergeSort, h3, List.take_of_length_le (by simp), List.mem_mergeSort]
  · have := compactLen_le (l.mergeSort fun x y => !ltN y x)
    rw [List.length_mergeSort] at this
    exact this
theorem Inc.of_strict {o : List Int} (hs : o.Pairwise fun x y => ltN x y = true) (hn : ∀ x ∈ o, -x ∈ o → x = 0) (h0 : ∀ x ∈ o, x ≠ 0) : Inc o := by
  unfold Inc
  induction o with
  | nil => exact List.Pairwise.nil
  | cons y r ih =>
    have h := List.pairwise_cons.1 hs
    refine List.pairwise_cons.2 ⟨fun z hz => ?_, ih h.2 (fun x hx hx' => hn x (List.mem_cons_of_mem _ hx) (List.mem_cons_of_mem _ hx')) (fun x hx => h0 x (List.mem_cons_of_mem _ hx))⟩
    have := h.1 z hz
    rw [ltN_iff] at this
    rcases this with h1 | ⟨h1, h2⟩
    · exact h1
    · rcases vr_eq.1 h1 with e | e
      · omega
      · exfalso
        exact h0 y (List.mem_cons_self ..) (hn y (List.mem_cons_self ..) (by rw [e, Int.neg_neg]; exact List.mem_cons_of_mem _ hz))
def adjF : Int → List Int → Bool
  | _, [] => false
  | t, x :: r => decide (t = -x) || adjF x r
theorem adjF_yes : ∀ {r : List Int} {y : Int}, adjF y r = true → ∃ x, x ∈ y :: r ∧ -x ∈ y :: r
  | [], _, h => by cases h
  | x :: r, y, h => by
    unfold adjF at h
    simp only [Bool.or_eq_true, decide_eq_true_eq] at h
    rcases h with rfl | h
    · exact ⟨x, by simp, by simp⟩
    · obtain ⟨z, h1, h2⟩ := adjF_yes h
      exact ⟨z, List.mem_cons_of_mem _ h1, List.mem_cons_of_mem _ h2⟩
theorem adjF_no : ∀ {r : List Int} {y : Int}, (y :: r).Pairwise (fun x y => ltN x y = true) → adjF y r = false → ∀ x ∈ y :: r, -x ∈ y :: r → x = 0
  | [], y, _, _, x, hx, hn => by
    rw [List.mem_singleton] at hx hn; omega
  | z :: r, y, hs, h, x, hx, hn => by
    unfold adjF at h
    simp only [Bool.or_eq_false_iff, decide_eq_false_iff_not] at h
    have hp := List.pairwise_cons.1 hs
    have key : ∀ w, w ∈ z :: r → w = -y → False := by
      intro w hw e
      have h1 := hp.1 z (List.mem_cons_self ..)
      have h2 : z = w ∨ ltN z w = true := by
        rcases List.mem_cons.1 hw with e | hw
        · exact Or.inl e.symm
        · exact Or.inr ((List.pairwise_cons.1 hp.2).1 w hw)
      have h4 : vr w = vr y := by rw [e, vr_neg]
      rw [ltN_iff] at h1
      rcases h2 with h2 | h2
      · exact h.1 (by omega)
      · rw [ltN_iff] at h2
        have h5 : vr z = vr y := by omega
        rcases vr_eq.1 h5 with e2 | e2
        · omega
        · exact h.1 (by omega)
    rcases List.mem_cons.1 hx with rfl | hx' <;> rcases List.mem_cons.1 hn with hn | hn'
    · omega
    · exact (key _ hn' rfl).elim
    · exact (key _ hx' (by omega)).elim
    · exact adjF_no hp.2 h.2 x hx' hn'
def stAdj (x t : Int) : Step Int (Out Unit (List Int × Bool)) := if (decide (t = -x)) = true then .done (.ret ([], false)) else .next x
theorem runL_adj : ∀ (r : List Int) (t : Int), runL stAdj (fun _ => Out.brk ()) r t = if adjF t r = true then Out.ret ([], false) else Out.brk ()
  | [], t => rfl
  | x :: r, t => by
    unfold runL stAdj adjF
    by_cases h : t = -x
    · simp [h]
    · simp only [h, decide_false, Bool.false_eq_true, if_false, Bool.false_or]
      exact runL_adj r x
theorem cnf_Normal {l : List Int} (hl : l.length ≤ 1073741824) : m_cnf_Normal l = some (normF l) := by
  unfold m_cnf_Normal
  refine bind_any l (fun x => !rngB x) (Out.ret ([], false)) (Out.brk ()) ?_ ?_ ?_
  · intro k a hk
    have hkl := len_lt hk
    simp only [m_cnf_Normal_lp1, ltB hkl, if_true, idx_nat hk, bsm, inK_up hkl (show l.length ≤ 9223372036854775807 by omega)]
    have e : (((decide (a = 0)) || (decide (a < (-1073741824)))) || (decide (1073741824 < a))) = !rngB a := by
      unfold rngB
      rw [Bool.eq_iff_iff]
      simp only [Bool.or_eq_true, decide_eq_true_eq, Bool.not_eq_true', Bool.and_eq_false_iff, decide_eq_false_iff_not]
      omega
    rw [e]
    cases rngB a <;> rfl
  · simp only [m_cnf_Normal_lp1, ltB', if_false, Bool.false_eq_true]
  · by_cases ha : l.any (fun x => !rngB x) = true
    · rw [if_pos ha]
      obtain ⟨x, hx, h⟩ := List.any_eq_true.1 ha
      unfold normF
      rw [nrm_none (Or.inl ⟨hx, by simpa using h⟩)]
    · rw [if_neg ha]
      have hr : ∀ x ∈ l, rngB x = true := fun x hx => by
        cases h : rngB x with
        | true => rfl
        | false => exact absurd (List.any_eq_true.2 ⟨x, hx, by simp [h]⟩) ha
      obtain ⟨o, h1, h2, h3, h4⟩ := compact_ok hl hr
      obtain ⟨q, hq, ho⟩ := Option.bind_eq_some_iff.1 h1
      have happ : app [] l = some l := by rw [app_ok (by simp; omega)]; rfl
      show ((app [] l).bind fun x3 => _) = _
      rw [happ, bsm, hq, bsm, ho, bsm]
      have hor : ∀ x ∈ o, rngB x = true := fun x hx => hr x ((h3 x).1 hx)
      have hloop : loopM (fun s => m_cnf_Normal_lp2 o s) 1 = some (match o with | [] => Out.brk () | y :: r => if adjF y r = true then Out.ret ([], false) else Out.brk ()) := by
        cases o with
        | nil =>
          refine loopM_done ?_
          simp [m_cnf_Normal_lp2]
        | cons y r =>
          simp only
          rw [← runL_adj]
          refine loopL (body := fun s => m_cnf_Normal_lp2 (y :: r) s) r (fun k t => ((k + 1 : Nat) : Int)) stAdj (fun _ => Out.brk ()) (fun k t => (y :: r)[k]? = some t) (t0 := y) rfl rfl ?_ ?_
          · intro k a t hk ht
            have hk2 : (y :: r)[k + 1]? = some a := by rw [List.getElem?_cons_succ]; exact hk
            have hkl := len_lt hk2
            constructor
            · have e1 : inK .i64 (((k + 1 : Nat) : Int) - 1) = some (k : Int) := by rw [inK_eq ⟨by omega, by omega⟩]; congr 1; omega
              have hb := rngB_bnd (hor a (mem_get hk2))
              have e2 : inK .i64 (0 - a) = some (-a) := by rw [inK_eq ⟨by omega, by omega⟩]; congr 1; omega
              simp only [m_cnf_Normal_lp2, ltB hkl, if_true, e1, bsm, idx_nat ht, idx_nat hk2, e2, inK_up hkl (show (y :: r).length ≤ 9223372036854775807 by omega), stAdj]
              by_cases h : t = -a <;> simp [h]
            · intro t' ht'
              unfold stAdj at ht'
              split at ht'
              · cases ht'
              · obtain rfl := Step.next.inj ht'; exact hk2
          · intro t ht
            have e : (((r.length + 1 : Nat) : Int)) = ((y :: r).length : Int) := rfl
            simp only [m_cnf_Normal_lp2, e, ltB', if_false, Bool.false_eq_true]
      rw [hloop, bsm]
      cases o with
      | nil =>
        simp only
        unfold normF
        rw [nrm_eq (o := []) List.Pairwise.nil h3 hr]
      | cons y r =>
        simp only
        unfold normF
        by_cases hc : adjF y r = true
        · rw [if_pos hc]
          obtain ⟨x, hx, hx'⟩ := adjF_yes hc
          rw [nrm_none (Or.inr ⟨(rngB_bnd (hor x hx)).1, (h3 _).1 hx, (h3 _).1 hx'⟩)]
        · rw [if_neg hc]
          have hi := Inc.of_strict h2 (adjF_no h2 (by simpa using hc)) (fun x hx => (rngB_bnd (hor x hx)).1)
          rw [nrm_eq hi h3 hr]
theorem normF_len (l : List Int) : (normF l).1.length ≤ l.length := by
  have h := nrm_spec l [] List.Pairwise.nil (by simp)
  unfold normF
  cases hn : nrm [] l with
  | none => simp
  | some o => rw [hn] at h; simpa using h.2.2.2
end Go.Proofs.YtelioaepnpnojaaGreatDoor

/- Circuits that are valid; Translate: the formula of a circuit. -/
set_option linter.unusedVariables false
set_option linter.unusedSimpArgs false
namespace Go.Proofs.YtelioaepnpnojaaGreatDoor
open Go.RowKit
def notF (x : Int) : Int := if x % 2 = 0 then x + 1 else x - 1
theorem xor1 {x : Int} (h0 : 0 ≤ x) (h1 : x ≤ 4611686018427387904) : xorK .i64 x 1 = notF x := by
  unfold xorK notF
  have e1 : (BitVec.ofInt (IntKind.bits .i64) x).toNat = x.toNat := by
    rw [BitVec.toNat_ofInt]; show (x % (2 ^ 64 : Nat)).toNat = x.toNat; congr 1; omega
  have e2 : (BitVec.ofInt (IntKind.bits .i64) 1).toNat = 1 := rfl
  have e3 : (BitVec.ofInt (IntKind.bits .i64) x ^^^ BitVec.ofInt (IntKind.bits .i64) 1).toNat = x.toNat ^^^ 1 := by
    rw [BitVec.toNat_xor, e1, e2]
  rw [e3]
  have h2 := @Nat.xor_div_two x.toNat 1
  have h3 := @Nat.xor_mod_two_eq_one x.toNat 1
  have h4 : (1 : Nat) / 2 = 0 := rfl
  rw [h4, Nat.xor_zero] at h2
  generalize x.toNat ^^^ 1 = y at *
  have h5 : IntKind.wrap .i64 (y : Int) = (y : Int) := by rw [IntKind.wrap_i64]; omega
  rw [h5]
  split <;> omega
theorem ref_not {x : Int} (h0 : 0 ≤ x) (h1 : x ≤ 4611686018427387904) : m_assessorref24_Not x = some (notF x) := by
  have e1 : inK .i64 (x + 1) = some (x + 1) := inK_eq ⟨by omega, by omega⟩
  have e2 : inK .i64 (x - 1) = some (x - 1) := inK_eq ⟨by omega, by omega⟩
  simp only [m_assessorref24_Not, remK_pos h0 (show (0 : Int) < 2 by decide), bsm, e1, e2]
  unfold notF
  by_cases h : x % 2 = 0 <;> simp [h]
def okG (n : Int) (x : Arr2) : Bool := decide (2 ≤ x.x0) && decide (x.x0 < x.x1) && decide (x.x1 < 2 * n) && decide (x.x1 ≠ notF x.x0)
def gF : Int → List Arr2 → List Arr2 → Bool
  | _, _, [] => true
  | n, seen, x :: r => (okG n x && !decide (x ∈ seen)) && gF (n + 1) (seen ++ [x]) r
def gvB (g : Gates) : Bool := decide (0 ≤ g.inputs) && decide (g.inputs ≤ 1024) && decide (1 + g.inputs + (g.gates.length : Int) ≤ 65536) && gF (1 + g.inputs) [] g.gates
def stG (seen : List (Arr2 × Bool) → Arr2 → Bool) (x : Arr2) (t : Int × List (Arr2 × Bool)) : Step (Int × List (Arr2 × Bool)) (Out (List (Arr2 × Bool)) Bool) :=
  if (okG t.1 x && !seen t.2 x) = true then .next (t.1 + 1, mput t.2 x true) else .done (.ret false)
theorem runL_g : ∀ (l : List Arr2) (n : Int) (m : List (Arr2 × Bool)) (seen : List Arr2), (∀ y, (mget m y).getD false = decide (y ∈ seen)) →
    (match runL (stG fun m x => (mget m x).getD false) (fun t => Out.brk t.2) l (n, m) with | .brk _ => true | .ret r => r) = gF n seen l
  | [], _, _, _, _ => rfl
  | x :: l, n, m, seen, h => by
    unfold runL stG gF
    simp only [h x]
    by_cases hc : (okG n x && !decide (x ∈ seen)) = true
    · rw [if_pos hc, hc, Bool.true_and]
      refine runL_g l (n + 1) (mput m x true) (seen ++ [x]) fun y => ?_
      rw [mget_mput]
      by_cases e : y = x
      · simp [e]
      · rw [if_neg e, h y]; simp [e]
    · rw [if_neg hc]
      have : (okG n x && !decide (x ∈ seen)) = false := by simpa using hc
      rw [this]; rfl
theorem okG_no {n : Int} {x : Arr2} (h : ((decide (x.x0 < 2)) || (decide (x.x1 ≤ x.x0))) = true) : okG n x = false := by
  simp only [Bool.or_eq_true, decide_eq_true_eq] at h
  unfold okG
  have : (decide (2 ≤ x.x0) && decide (x.x0 < x.x1)) = false := by simp only [Bool.and_eq_false_iff, decide_eq_false_iff_not]; omega
  rw [this]; rfl
theorem okG_no2 {n : Int} {x : Arr2} (h : 2 * n ≤ x.x1) : okG n x = false := by
  unfold okG
  have : decide (x.x1 < 2 * n) = false := by simp; omega
  rw [this]; simp
theorem okG_eq {n : Int} {x : Arr2} (h : ¬ ((decide (x.x0 < 2)) || (decide (x.x1 ≤ x.x0))) = true) (h2 : ¬ 2 * n ≤ x.x1) : okG n x = !decide (x.x1 = notF x.x0) := by
  simp only [Bool.or_eq_true, decide_eq_true_eq, not_or] at h
  unfold okG
  have : (decide (2 ≤ x.x0) && decide (x.x0 < x.x1) && decide (x.x1 < 2 * n)) = true := by simp only [Bool.and_eq_true, decide_eq_true_eq]; omega
  rw [this]; simp
theorem gates_valid {g : Gates} (hl : g.gates.length ≤ 1048576) : m_gates_Valid g = some (gvB g) := by
  unfold m_gates_Valid gvB
  by_cases h0 : (decide (g.inputs < 0) || decide (1024 < g.inputs)) = true
  · rw [if_pos h0, bsm, if_pos rfl]
    have : (decide (0 ≤ g.inputs) && decide (g.inputs ≤ 1024)) = false := by
      simp only [Bool.or_eq_true, decide_eq_true_eq] at h0
      simp only [Bool.and_eq_false_iff, decide_eq_false_iff_not]; omega
    rw [this]; rfl
  · rw [if_neg h0]
    simp only [Bool.or_eq_true, decide_eq_true_eq, not_or] at h0
    have e1 : inK .i64 (1 + g.inputs) = some (1 + g.inputs) := inK_eq ⟨by omega, by omega⟩
    have e2 : inK .i64 (1 + g.inputs + (g.gates.length : Int)) = some (1 + g.inputs + (g.gates.length : Int)) := inK_eq ⟨by omega, by omega⟩
    have hb : (decide (0 ≤ g.inputs) && decide (g.inputs ≤ 1024)) = true := by simp only [Bool.and_eq_true, decide_eq_true_eq]; omega
    simp only [m_gates_nodes, e1, e2, bsm]
    by_cases h1 : 65536 < 1 + g.inputs + (g.gates.length : Int)
    · rw [if_pos (by simpa using h1)]
      have : decide (1 + g.inputs + (g.gates.length : Int) ≤ 65536) = false := by simpa using h1
      rw [hb, this]; rfl
    · rw [if_neg (by simpa using h1)]
      have hd : decide (1 + g.inputs + (g.gates.length : Int) ≤ 65536) = true := by simpa using h1
      rw [hb, hd, ← runL_g g.gates (1 + g.inputs) [] [] (fun y => by simp [mget])]
      rw [loopL (body := fun s : Int × List (Arr2 × Bool) => m_gates_Valid_lp1 g s.1 s.2) (s0 := ((0 : Int), ([] : List (Arr2 × Bool)))) g.gates (fun k t => ((k : Int), t.2)) (stG fun m x => (mget m x).getD false) (fun t => Out.brk t.2)
        (fun k t => t.1 = 1 + g.inputs + (k : Int)) (t0 := (1 + g.inputs, [])) rfl (by simp) ?_ ?_]
      · rw [bsm]
        generalize runL (stG fun m x => (mget m x).getD false) (fun t => Out.brk t.2) g.gates (1 + g.inputs, []) = o
        cases o <;> rfl
      · rintro k x ⟨n, m⟩ hk hn
        have hn : n = 1 + g.inputs + (k : Int) := hn
        have hkl := len_lt hk
        constructor
        · have e3 : inK .i64 (1 + g.inputs + (k : Int)) = some n := by rw [hn]; exact inK_eq ⟨by omega, by omega⟩
          have e4 : inK .i64 (2 * n) = some (2 * n) := inK_eq ⟨by omega, by omega⟩
          simp only [m_gates_Valid_lp1, ltB hkl, if_true, idx_nat hk, bsm, e1, e3, e4, inK_up hkl (show g.gates.length ≤ 9223372036854775807 by omega), stG]
          by_cases h2 : ((decide (x.x0 < 2)) || (decide (x.x1 ≤ x.x0))) = true
          · simp [h2, okG_no h2]
          · rw [if_neg h2, bsm]
            by_cases h3 : 2 * n ≤ x.x1
            · simp [h3, okG_no2 h3]
            · rw [if_neg (by simpa using h3), okG_eq h2 h3]
              simp only [Bool.or_eq_true, decide_eq_true_eq, not_or] at h2
              simp only [m_gates_Not, bsm, xor1 (show 0 ≤ x.x0 by omega) (show x.x0 ≤ 4611686018427387904 by omega)]
              generalize (mget m x).getD false = q
              by_cases h4 : x.x1 = notF x.x0
              · simp [h4]
              · cases q <;> simp [h4]
        · intro t' ht'
          unfold stG at ht'
          split at ht'
          · obtain rfl := Step.next.inj ht'; show n + 1 = _; rw [hn]; omega
          · cases ht'
      · rintro ⟨n, m⟩ _
        simp only [m_gates_Valid_lp1, ltB', if_false, Bool.false_eq_true]
def stR (x : Arr2) (t : Int × List Arr2) : Step (Int × List Arr2) (Out Unit Bool) :=
  if (okG t.1 x && !decide (x ∈ t.2)) = true then .next (t.1 + 1, t.2 ++ [x]) else .done (.ret false)
theorem runL_r : ∀ (l : List Arr2) (n : Int) (seen : List Arr2), (match runL stR (fun _ => Out.brk ()) l (n, seen) with | .brk _ => true | .ret r => r) = gF n seen l
  | [], _, _ => rfl
  | x :: l, n, seen => by
    unfold runL stR gF
    by_cases hc : (okG n x && !decide (x ∈ seen)) = true
    · rw [if_pos hc, hc, Bool.true_and]
      exact runL_r l (n + 1) (seen ++ [x])
    · rw [if_neg hc]
      have : (okG n x && !decide (x ∈ seen)) = false := by simpa using hc
      rw [this]; rfl
theorem arr2_eq (x y : Arr2) : ((decide (x.x0 = y.x0)) && (decide (x.x1 = y.x1))) = decide (x = y) := by
  obtain ⟨a, b⟩ := x; obtain ⟨c, d⟩ := y
  rw [Bool.eq_iff_iff]; simp
theorem refG_valid {g : Gates} (hl : g.gates.length ≤ 1048576) : m_assessorref24_Valid g = some (gvB g) := by
  unfold m_assessorref24_Valid gvB
  by_cases h0 : (decide (g.inputs < 0) || decide (1024 < g.inputs) || decide (65536 < (g.gates.length : Int))) = true
  · rw [if_pos h0, bsm, if_pos rfl]
    have : (decide (0 ≤ g.inputs) && decide (g.inputs ≤ 1024) && decide (1 + g.inputs + (g.gates.length : Int) ≤ 65536)) = false := by
      simp only [Bool.or_eq_true, decide_eq_true_eq] at h0
      simp only [Bool.and_eq_false_iff, decide_eq_false_iff_not]; omega
    rw [this]; rfl
  · rw [if_neg h0]
    simp only [Bool.or_eq_true, decide_eq_true_eq, not_or] at h0
    have e1 : inK .i64 (1 + g.inputs) = some (1 + g.inputs) := inK_eq ⟨by omega, by omega⟩
    have e2 : inK .i64 (1 + g.inputs + (g.gates.length : Int)) = some (1 + g.inputs + (g.gates.length : Int)) := inK_eq ⟨by omega, by omega⟩
    have hb : (decide (0 ≤ g.inputs) && decide (g.inputs ≤ 1024)) = true := by simp only [Bool.and_eq_true, decide_eq_true_eq]; omega
    simp only [m_assessorref24_Nodes, e1, e2, bsm]
    by_cases h1 : 65536 < 1 + g.inputs + (g.gates.length : Int)
    · rw [if_pos (by simpa using h1)]
      have : decide (1 + g.inputs + (g.gates.length : Int) ≤ 65536) = false := by simpa using h1
      rw [hb, this]; rfl
    · rw [if_neg (by simpa using h1)]
      have hd : decide (1 + g.inputs + (g.gates.length : Int) ≤ 65536) = true := by simpa using h1
      rw [hb, hd, ← runL_r g.gates (1 + g.inputs) []]
      rw [loopL (body := fun s : Int => m_assessorref24_Valid_lp1 g s) (s0 := (0 : Int)) g.gates (fun k t => (k : Int)) stR (fun _ => Out.brk ())
        (fun k t => t.1 = 1 + g.inputs + (k : Int) ∧ t.2 = g.gates.take k) (t0 := (1 + g.inputs, [])) rfl (by simp) ?_ ?_]
      · rw [bsm]
        generalize runL stR (fun _ => Out.brk ()) g.gates (1 + g.inputs, []) = o
        cases o <;> rfl
      · rintro k x ⟨n, seen⟩ hk ⟨hn, hs⟩
        have hn : n = 1 + g.inputs + (k : Int) := hn
        have hs : seen = g.gates.take k := hs
        have hkl := len_lt hk
        constructor
        · have e3 : inK .i64 (1 + g.inputs + (k : Int)) = some n := by rw [hn]; exact inK_eq ⟨by omega, by omega⟩
          have e4 : inK .i64 (2 * n) = some (2 * n) := inK_eq ⟨by omega, by omega⟩
          simp only [m_assessorref24_Valid_lp1, ltB hkl, if_true, idx_nat hk, bsm, e1, e3, e4, inK_up hkl (show g.gates.length ≤ 9223372036854775807 by omega), stR]
          by_cases h2 : ((decide (x.x0 < 2)) || (decide (x.x1 ≤ x.x0))) = true
          · simp [h2, okG_no h2]
          · rw [if_neg h2, bsm]
            by_cases h3 : 2 * n ≤ x.x1
            · simp [h3, okG_no2 h3]
            · rw [if_neg (by simpa using h3), okG_eq h2 h3]
              simp only [Bool.or_eq_true, decide_eq_true_eq, not_or] at h2
              simp only [bsm, ref_not (show 0 ≤ x.x0 by omega) (show x.x0 ≤ 4611686018427387904 by omega)]
              by_cases h4 : x.x1 = notF x.x0
              · simp [h4]
              · have h4' : ¬ notF x.x0 = x.x1 := fun e => h4 e.symm
                simp only [h4, h4', decide_false, Bool.false_eq_true, if_false, Bool.not_false, Bool.true_and, bsm]
                have hlen : (g.gates.take k).length = k := by rw [List.length_take]; omega
                rw [any_loop (body := fun s => m_assessorref24_Valid_lp2 g (k : Int) s) (g.gates.take k) (fun y => decide (y = x)) (Out.ret false) (Out.brk ()) ?_ ?_]
                · rw [bsm]
                  have e5 : (g.gates.take k).any (fun y => decide (y = x)) = decide (x ∈ seen) := by
                    rw [hs, Bool.eq_iff_iff]; simp
                  rw [e5]
                  by_cases h5 : x ∈ seen <;> simp [h5]
                · intro j y hj
                  have hj' : g.gates[j]? = some y := by rw [List.getElem?_take] at hj; split at hj; exact hj; cases hj
                  have hjk : j < k := by have := len_lt hj; rwa [hlen] at this
                  simp only [m_assessorref24_Valid_lp2, ltB hjk, if_true, idx_nat hj', idx_nat hk, bsm, arr2_eq, inK_up hjk (show k ≤ 9223372036854775807 by omega)]
                  by_cases h6 : y = x <;> simp [h6]
                · rw [hlen]
                  simp only [m_assessorref24_Valid_lp2, ltB', if_false, Bool.false_eq_true]
        · intro t' ht'
          unfold stR at ht'
          split at ht'
          · obtain rfl := Step.next.inj ht'
            refine ⟨?_, ?_⟩
            · show n + 1 = _; rw [hn]; omega
            · show seen ++ [x] = _; rw [take_snoc_of hk, hs]
          · cases ht'
      · rintro ⟨n, m⟩ _
        simp only [m_assessorref24_Valid_lp1, ltB', if_false, Bool.false_eq_true]
def gateC (v : Int) (x : Arr2) : List (List Int) := [(normF [-v, litF x.x0]).1, (normF [-v, litF x.x1]).1, (normF [v, -litF x.x0, -litF x.x1]).1]
def gatesC : Int → List Arr2 → List (List Int)
  | _, [] => []
  | v, x :: r => gateC v x ++ gatesC (v + 1) r
def nodesF (g : Gates) : Int := 1 + g.inputs + (g.gates.length : Int)
def badL (n x : Int) : Bool := decide (x < 0) || decide (2 * n ≤ x)
def trF (g : Gates) (lits : List Int) : Formula × Int :=
  if gvB g = true then (if lits.any (badL (nodesF g)) = true then (⟨0, []⟩, 1) else (⟨nodesF g, [[-1]] ++ gatesC (g.inputs + 2) g.gates ++ lits.map fun x => [litF x]⟩, 0)) else (⟨0, []⟩, 1)
theorem gvB_bnd {g : Gates} (h : gvB g = true) : 0 ≤ g.inputs ∧ g.inputs ≤ 1024 ∧ nodesF g ≤ 65536 ∧ 1 ≤ nodesF g := by
  unfold gvB at h
  simp only [Bool.and_eq_true, decide_eq_true_eq] at h
  unfold nodesF
  exact ⟨h.1.1.1, h.1.1.2, h.1.2, by omega⟩
theorem gF_lits : ∀ {l : List Arr2} {n : Int} {seen : List Arr2}, gF n seen l = true → ∀ (k : Nat) (x : Arr2), l[k]? = some x → okG (n + k) x = true
  | [], _, _, _, k, x, hk => by simp at hk
  | y :: l, n, seen, h, k, x, hk => by
    unfold gF at h
    simp only [Bool.and_eq_true] at h
    cases k with
    | zero => simp at hk; subst hk; simpa using h.1.1
    | succ k =>
      rw [List.getElem?_cons_succ] at hk
      have := gF_lits h.2 k x hk
      rwa [show n + 1 + (k : Int) = n + ((k + 1 : Nat) : Int) by omega] at this
theorem litF_rng {x n : Int} (h0 : 0 ≤ x) (h1 : x < 2 * n) : litF x ≠ 0 ∧ -n ≤ litF x ∧ litF x ≤ n ∧ vr (litF x) = x / 2 + 1 := by
  unfold litF
  rw [if_neg (by omega)]
  split <;> (unfold vr; omega)
theorem okG_bnd {n : Int} {x : Arr2} (h : okG n x = true) : 2 ≤ x.x0 ∧ x.x0 < x.x1 ∧ x.x1 < 2 * n ∧ x.x1 ≠ notF x.x0 := by
  unfold okG at h
  simp only [Bool.and_eq_true, decide_eq_true_eq] at h
  exact ⟨h.1.1.1, h.1.1.2, h.1.2, h.2⟩
theorem translate1 (c : List Int) (f : Formula) (hc : c.length ≤ 1000) (hf : f.clauses.length ≤ 1000000) : m_cnf_Translate_1 c f = some ⟨f.vars, f.clauses ++ [(normF c).1]⟩ := by
  simp only [m_cnf_Translate_1, cnf_Normal (show c.length ≤ 1073741824 by omega), bsm, app_ok (show f.clauses.length + [(normF c).1].length ≤ 4294967296 by simp; omega)]
theorem normF_one {x : Int} (h : rngB x = true) : normF [x] = ([x], true) := by simp [normF, nrm, insF, h]
theorem runL_gates {β : Type} (h : List (List Int) → β) : ∀ (l : List Arr2) (v : Int) (acc : List (List Int)), runL (fun (x : Arr2) (t : Int × List (List Int)) => (Step.next (t.1 + 1, t.2 ++ gateC t.1 x) : Step (Int × List (List Int)) β)) (fun t => h t.2) l (v, acc) = h (acc ++ gatesC v l)
  | [], v, acc => by simp [runL, gatesC]
  | x :: l, v, acc => by
    unfold runL gatesC
    simp only
    rw [runL_gates h l (v + 1)]
    simp
theorem gatesC_len : ∀ (l : List Arr2) (v : Int), (gatesC v l).length = 3 * l.length
  | [], _ => rfl
  | x :: l, v => by unfold gatesC; rw [List.length_append, gatesC_len l, List.length_cons]; simp only [gateC, List.length_cons, List.length_nil]; omega
theorem runL_lits {β : Type} (h : List (List Int) → β) : ∀ (l : List Int) (acc : List (List Int)), runL (fun (x : Int) (t : List (List Int)) => (Step.next (t ++ [[litF x]]) : Step (List (List Int)) β)) h l acc = h (acc ++ l.map fun x => [litF x])
  | [], acc => by simp [runL]
  | x :: l, acc => by
    unfold runL
    simp only
    rw [runL_lits h l]
    simp
theorem cnf_translate {g : Gates} {lits : List Int} (hg : g.gates.length ≤ 1000) (hl : lits.length ≤ 1000) (hi : ∀ x ∈ lits, x ≤ 9223372036854775807) : m_cnf_Translate g lits = some (trF g lits) := by
  unfold m_cnf_Translate trF
  rw [gates_valid (by omega), bsm]
  by_cases hv : gvB g = true
  · rw [if_neg (by simp [hv]), if_pos hv]
    obtain ⟨b1, b2, b3, b4⟩ := gvB_bnd hv
    have e1 : inK .i64 (1 + g.inputs) = some (1 + g.inputs) := inK_eq ⟨by omega, by omega⟩
    have e2 : inK .i64 (1 + g.inputs + (g.gates.length : Int)) = some (nodesF g) := inK_eq ⟨by omega, by omega⟩
    rw [e1, bsm, e2, bsm]
    have e3 : inK .i64 (2 * nodesF g) = some (2 * nodesF g) := inK_eq ⟨by omega, by omega⟩
    refine bind_any lits (badL (nodesF g)) (Out.ret (⟨0, []⟩, 1)) (Out.brk ()) ?_ ?_ ?_
    · intro k a hk
      have hkl := len_lt hk
      simp only [m_cnf_Translate_lp1, ltB hkl, if_true, idx_nat hk, bsm, e3, inK_up hkl (show lits.length ≤ 9223372036854775807 by omega), badL]
      by_cases h0 : a < 0
      · simp [h0]
      · by_cases h1 : 2 * nodesF g ≤ a <;> simp [h0, h1]
    · simp only [m_cnf_Translate_lp1, ltB', if_false, Bool.false_eq_true]
    · by_cases hb : lits.any (badL (nodesF g)) = true
      · rw [if_pos hb, if_pos hb]
      · rw [if_neg hb, if_neg hb]
        have e4 : inK .i64 (3 * (g.gates.length : Int)) = some (3 * (g.gates.length : Int)) := inK_eq ⟨by omega, by omega⟩
        have e5 : inK .i64 (1 + 3 * (g.gates.length : Int)) = some (1 + 3 * (g.gates.length : Int)) := inK_eq ⟨by omega, by omega⟩
        have e6 : inK .i64 (1 + 3 * (g.gates.length : Int) + (lits.length : Int)) = some (1 + 3 * (g.gates.length : Int) + (lits.length : Int)) := inK_eq ⟨by omega, by omega⟩
        simp only [e4, bsm, e5, e6]
        rw [if_neg (by simp; omega)]
        have hgood : ∀ x ∈ lits, 0 ≤ x ∧ x < 2 * nodesF g := fun x hx => by
          cases hq : badL (nodesF g) x with
          | true => exact absurd (List.any_eq_true.2 ⟨x, hx, hq⟩) hb
          | false => unfold badL at hq; simp only [Bool.or_eq_false_iff, decide_eq_false_iff_not] at hq; omega
        have hgf : gF (1 + g.inputs) [] g.gates = true := by
          unfold gvB at hv; simp only [Bool.and_eq_true] at hv; exact hv.2
        rw [loopL (body := fun s : Int × Int × List (List Int) => m_cnf_Translate_lp2 g s.1 s.2.1 s.2.2) (s0 := ((0 : Int), nodesF g, [[-1]])) g.gates (fun k t => ((k : Int), nodesF g, t.2)) (fun (x : Arr2) (t : Int × List (List Int)) => Step.next (t.1 + 1, t.2 ++ gateC t.1 x)) (fun t => (nodesF g, t.2))
          (fun k t => t.1 = g.inputs + 2 + (k : Int) ∧ t.2.length ≤ 1 + 3 * k) (t0 := (g.inputs + 2, [[-1]])) rfl (by simp) ?_ ?_]
        · rw [runL_gates (fun c => (nodesF g, c)), bsm]
          rw [loopL (body := fun s : Int × Int × List (List Int) => m_cnf_Translate_lp3 lits s.1 s.2.1 s.2.2) (s0 := ((0 : Int), nodesF g, [[-1]] ++ gatesC (g.inputs + 2) g.gates)) lits (fun k t => ((k : Int), nodesF g, t)) (fun (x : Int) (t : List (List Int)) => Step.next (t ++ [[litF x]])) (fun t => (nodesF g, t))
            (fun k t => t.length ≤ 1 + 3 * g.gates.length + k) (t0 := [[-1]] ++ gatesC (g.inputs + 2) g.gates) rfl (by rw [List.length_append, gatesC_len]; simp) ?_ ?_]
          · rw [runL_lits (fun c => (nodesF g, c))]; rfl
          · intro k x t hk ht
            have hkl := len_lt hk
            have hx := hgood x (mem_get hk)
            have hr := litF_rng hx.1 hx.2
            have hrb : rngB (litF x) = true := by unfold rngB; simp only [Bool.and_eq_true, decide_eq_true_eq]; omega
            constructor
            · simp only [m_cnf_Translate_lp3, ltB hkl, if_true, idx_nat hk, bsm, cnf_literal (hi x (mem_get hk)), translate1 [litF x] ⟨nodesF g, t⟩ (by simp) (by simp only; omega), normF_one hrb, inK_up hkl (show lits.length ≤ 9223372036854775807 by omega)]
            · intro t' ht'
              obtain rfl := Step.next.inj ht'
              simp; omega
          · intro t ht
            simp only [m_cnf_Translate_lp3, ltB', if_false, Bool.false_eq_true]
        · rintro k x ⟨v, acc⟩ hk ⟨hv1, ha⟩
          have hv1 : v = g.inputs + 2 + (k : Int) := hv1
          have ha : acc.length ≤ 1 + 3 * k := ha
          have hkl := len_lt hk
          obtain ⟨q0, q1, q2, q3⟩ := okG_bnd (gF_lits hgf k x hk)
          have hnl : 1 + g.inputs + (k : Int) ≤ nodesF g := by unfold nodesF; omega
          have hx0 := litF_rng (n := nodesF g) (x := x.x0) (by omega) (by omega)
          have hx1 := litF_rng (n := nodesF g) (x := x.x1) (by omega) (by omega)
          constructor
          · have i1 : inK .i64 (g.inputs + (k : Int)) = some (g.inputs + (k : Int)) := inK_eq ⟨by omega, by omega⟩
            have i2 : inK .i64 (g.inputs + (k : Int) + 2) = some v := inK_at (by omega) ⟨by omega, by omega⟩
            have i3 : inK .i64 (0 - v) = some (-v) := inK_at (by omega) ⟨by omega, by omega⟩
            have i4 : inK .i64 (0 - litF x.x0) = some (-litF x.x0) := inK_at (by omega) ⟨by omega, by omega⟩
            have i5 : inK .i64 (0 - litF x.x1) = some (-litF x.x1) := inK_at (by omega) ⟨by omega, by omega⟩
            simp only [m_cnf_Translate_lp2, ltB hkl, if_true, idx_nat hk, bsm, i1, i2, i3, i4, i5, cnf_literal (show x.x0 ≤ 9223372036854775807 by omega), cnf_literal (show x.x1 ≤ 9223372036854775807 by omega)]
            rw [translate1 _ _ (by simp) (by simp only; omega), bsm, translate1 _ _ (by simp) (by simp only [List.length_append, List.length_singleton]; omega), bsm, translate1 _ _ (by simp) (by simp only [List.length_append, List.length_singleton]; omega), bsm, inK_up hkl (show g.gates.length ≤ 9223372036854775807 by omega), bsm]
            simp [gateC]
          · intro t' ht'
            obtain rfl := Step.next.inj ht'
            exact ⟨by show v + 1 = _; omega, by show (acc ++ gateC v x).length ≤ _; simp [gateC]; omega⟩
        · rintro ⟨v, acc⟩ _
          simp only [m_cnf_Translate_lp2, ltB', if_false, Bool.false_eq_true]
  · rw [if_pos (by simp [hv]), if_neg hv]
theorem ref_translate {g : Gates} {lits : List Int} (hg : g.gates.length ≤ 1000) (hl : lits.length ≤ 1000) (hi : ∀ x ∈ lits, x ≤ 9223372036854775807) : m_assessorref26_Translate g lits = some (trF g lits) := by
  unfold m_assessorref26_Translate trF
  rw [refG_valid (by omega), bsm]
  by_cases hv : gvB g = true
  · rw [if_neg (by simp [hv]), if_pos hv]
    obtain ⟨b1, b2, b3, b4⟩ := gvB_bnd hv
    have e1 : inK .i64 (1 + g.inputs) = some (1 + g.inputs) := inK_eq ⟨by omega, by omega⟩
    have e2 : inK .i64 (1 + g.inputs + (g.gates.length : Int)) = some (nodesF g) := inK_eq ⟨by omega, by omega⟩
    have hnodes : m_assessorref24_Nodes g = some (nodesF g) := by simp only [m_assessorref24_Nodes, e1, e2, bsm]
    have e3 : inK .i64 (2 * nodesF g) = some (2 * nodesF g) := inK_eq ⟨by omega, by omega⟩
    refine bind_any lits (badL (nodesF g)) (Out.ret (⟨0, []⟩, 1)) (Out.brk ()) ?_ ?_ ?_
    · intro k a hk
      have hkl := len_lt hk
      simp only [m_assessorref26_Translate_lp1, m_assessorref24_IsLiteral, hnodes, ltB hkl, if_true, idx_nat hk, bsm, e3, inK_up hkl (show lits.length ≤ 9223372036854775807 by omega), badL]
      by_cases h0 : a < 0
      · have : ¬ 0 ≤ a := by omega
        simp [h0, this]
      · have : 0 ≤ a := by omega
        by_cases h1 : 2 * nodesF g ≤ a
        · have h2 : ¬ a < 2 * nodesF g := by omega
          simp [h0, h1, this, h2]
        · have h2 : a < 2 * nodesF g := by omega
          simp [h0, h1, this, h2]
    · simp only [m_assessorref26_Translate_lp1, ltB', if_false, Bool.false_eq_true]
    · by_cases hb : lits.any (badL (nodesF g)) = true
      · rw [if_pos hb, if_pos hb]
      · rw [if_neg hb, if_neg hb]
        have e4 : inK .i64 (3 * (g.gates.length : Int)) = some (3 * (g.gates.length : Int)) := inK_eq ⟨by omega, by omega⟩
        have e5 : inK .i64 (1 + 3 * (g.gates.length : Int)) = some (1 + 3 * (g.gates.length : Int)) := inK_eq ⟨by omega, by omega⟩
        have e6 : inK .i64 (1 + 3 * (g.gates.length : Int) + (lits.length : Int)) = some (1 + 3 * (g.gates.length : Int) + (lits.length : Int)) := inK_eq ⟨by omega, by omega⟩
        simp only [e4, bsm, e5, e6, hnodes]
        rw [if_neg (by simp; omega)]
        have hgf : gF (1 + g.inputs) [] g.gates = true := by
          unfold gvB at hv; simp only [Bool.and_eq_true] at hv; exact hv.2
        rw [loopL (body := fun s : Int × List (List Int) => m_assessorref26_Translate_lp2 g s.1 s.2) (s0 := ((0 : Int), [[-1]])) g.gates (fun k t => ((k : Int), t.2)) (fun (x : Arr2) (t : Int × List (List Int)) => Step.next (t.1 + 1, t.2 ++ gateC t.1 x)) (fun t => t.2)
          (fun k t => t.1 = g.inputs + 2 + (k : Int) ∧ t.2.length ≤ 1 + 3 * k) (t0 := (g.inputs + 2, [[-1]])) rfl (by simp) ?_ ?_]
        · rw [runL_gates (fun c => c), bsm]
          rw [loopL (body := fun s : Int × List (List Int) => m_assessorref26_Translate_lp3 lits s.1 s.2) (s0 := ((0 : Int), [[-1]] ++ gatesC (g.inputs + 2) g.gates)) lits (fun k t => ((k : Int), t)) (fun (x : Int) (t : List (List Int)) => Step.next (t ++ [[litF x]])) (fun t => t)
            (fun k t => t.length ≤ 1 + 3 * g.gates.length + k) (t0 := [[-1]] ++ gatesC (g.inputs + 2) g.gates) rfl (by rw [List.length_append, gatesC_len]; simp) ?_ ?_]
          · rw [runL_lits (fun c => c)]; rfl
          · intro k x t hk ht
            have hkl := len_lt hk
            constructor
            · simp only [m_assessorref26_Translate_lp3, ltB hkl, if_true, idx_nat hk, bsm, ref_literal (hi x (mem_get hk)), app_ok (show t.length + [[litF x]].length ≤ 4294967296 by simp; omega), inK_up hkl (show lits.length ≤ 9223372036854775807 by omega)]
            · intro t' ht'
              obtain rfl := Step.next.inj ht'
              simp; omega
          · intro t ht
            simp only [m_assessorref26_Translate_lp3, ltB', if_false, Bool.false_eq_true]
        · rintro k x ⟨v, acc⟩ hk ⟨hv1, ha⟩
          have hv1 : v = g.inputs + 2 + (k : Int) := hv1
          have ha : acc.length ≤ 1 + 3 * k := ha
          have hkl := len_lt hk
          obtain ⟨q0, q1, q2, q3⟩ := okG_bnd (gF_lits hgf k x hk)
          have hnl : 1 + g.inputs + (k : Int) ≤ nodesF g := by unfold nodesF; omega
          have hx0 := litF_rng (n := nodesF g) (x := x.x0) (by omega) (by omega)
          have hx1 := litF_rng (n := nodesF g) (x := x.x1) (by omega) (by omega)
          constructor
          · have i1 : inK .i64 (1 + g.inputs + (k : Int)) = some (1 + g.inputs + (k : Int)) := inK_eq ⟨by omega, by omega⟩
            have i2 : inK .i64 (1 + g.inputs + (k : Int) + 1) = some v := inK_at (by omega) ⟨by omega, by omega⟩
            have i3 : inK .i64 (0 - v) = some (-v) := inK_at (by omega) ⟨by omega, by omega⟩
            have i4 : inK .i64 (0 - litF x.x0) = some (-litF x.x0) := inK_at (by omega) ⟨by omega, by omega⟩
            have i5 : inK .i64 (0 - litF x.x1) = some (-litF x.x1) := inK_at (by omega) ⟨by omega, by omega⟩
            simp only [m_assessorref26_Translate_lp2, ltB hkl, if_true, idx_nat hk, bsm, e1, i1, i2, i3, i4, i5, ref_literal (show x.x0 ≤ 9223372036854775807 by omega), ref_literal (show x.x1 ≤ 9223372036854775807 by omega)]
            rw [ref_normal (by simp), bsm, ref_normal (by simp), bsm, ref_normal (by simp), bsm, app_ok (by simp only [List.length_cons, List.length_nil]; omega), bsm, inK_up hkl (show g.gates.length ≤ 9223372036854775807 by omega), bsm]
            simp [gateC]
          · intro t' ht'
            obtain rfl := Step.next.inj ht'
            exact ⟨by show v + 1 = _; omega, by show (acc ++ gateC v x).length ≤ _; simp [gateC]; omega⟩
        · rintro ⟨v, acc⟩ _
          simp only [m_assessorref26_Translate_lp2, ltB', if_false, Bool.false_eq_true]
  · rw [if_pos (by simp [hv]), if_neg hv]
end Go.Proofs.YtelioaepnpnojaaGreatDoor

/- Unit propagation: what follows, and what the reference's Closure and Propagate compute. -/
set_option linter.unusedVariables false
set_option linter.unusedSimpArgs false
namespace Go.Proofs.YtelioaepnpnojaaGreatDoor
open Go.RowKit
inductive UP (F : List (List Int)) (S : List Int) : Int → Prop
  | start {l : Int} : l ∈ S → UP F S l
  | unit {c : List Int} {x : Int} : c ∈ F → x ∈ c → (∀ y ∈ c, y ≠ x → UP F S (-y)) → UP F S x
def Fails (F : List (List Int)) (S : List Int) : Prop := (∃ l, UP F S l ∧ UP F S (-l)) ∨ ∃ c ∈ F, ∀ y ∈ c, UP F S (-y)
structure Lits (n : Int) (F : List (List Int)) (S : List Int) : Prop where
  nn : 0 ≤ n ∧ n ≤ 65536
  cl : ∀ c ∈ F, ∀ y ∈ c, y ≠ 0 ∧ vr y ≤ n
  st : ∀ y ∈ S, y ≠ 0 ∧ vr y ≤ n
  nd : ∀ c ∈ F, c.Nodup
theorem UP.lit {n : Int} {F : List (List Int)} {S : List Int} (h : Lits n F S) {l : Int} (hl : UP F S l) : l ≠ 0 ∧ vr l ≤ n := by
  cases hl with
  | start hs => exact h.st _ hs
  | unit hc hx _ => exact h.cl _ hc _ hx
def gv (val : List Int) (l : Int) : Option Int := val[(vr l).toNat]?
theorem gv_neg (val : List Int) (l : Int) : gv val (-l) = gv val l := by unfold gv; rw [vr_neg]
structure ValOk (n : Int) (F : List (List Int)) (S : List Int) (val : List Int) : Prop where
  len : (val.length : Int) = n + 1
  own : ∀ (v : Nat) x, val[v]? = some x → x = 0 ∨ (x ≠ 0 ∧ vr x = v)
  sound : ∀ (v : Nat) x, val[v]? = some x → x ≠ 0 → UP F S x
theorem ValOk.get {n : Int} {F : List (List Int)} {S : List Int} {val : List Int} (h : ValOk n F S val) {l : Int} (hl : vr l ≤ n) : ∃ x, gv val l = some x ∧ idx val (vr l) = some x ∧ (x = 0 ∨ x = l ∨ x = -l) := by
  have h0 := vr_nn l
  obtain ⟨x, hx⟩ := get_of_lt (show (vr l).toNat < val.length by have := h.len; omega)
  refine ⟨x, hx, idx_of h0 hx, ?_⟩
  rcases h.own _ x hx with h1 | ⟨_, h1⟩
  · exact Or.inl h1
  · exact Or.inr (vr_eq.1 (by omega))
theorem ValOk.up {n : Int} {F : List (List Int)} {S : List Int} {val : List Int} (h : ValOk n F S val) {l : Int} (h0 : l ≠ 0) (hl : gv val l = some l) : UP F S l := h.sound _ l hl h0
theorem ValOk.set {n : Int} {F : List (List Int)} {S : List Int} {val : List Int} (h : ValOk n F S val) {l : Int} (h0 : l ≠ 0) (hl : vr l ≤ n) (hu : UP F S l) : ValOk n F S (val.set (vr l).toNat l) := by
  have hv := vr_nn l
  refine ⟨by rw [List.length_set]; exact h.len, fun v x hx => ?_, fun v x hx hx0 => ?_⟩
  · rw [List.getElem?_set] at hx
    split at hx
    · rename_i e
      split at hx
      · obtain rfl := Option.some.inj hx
        exact Or.inr ⟨h0, by omega⟩
      · cases hx
    · exact h.own v x hx
  · rw [List.getElem?_set] at hx
    split at hx
    · split at hx
      · obtain rfl := Option.some.inj hx; exact hu
      · cases hx
    · exact h.sound v x hx hx0
theorem gv_set {n : Int} {val : List Int} {l m : Int} (hlen : (val.length : Int) = n + 1) (hl : vr l ≤ n) : gv (val.set (vr l).toNat l) m = if vr m = vr l then some l else gv val m := by
  unfold gv
  have h1 := vr_nn l
  have h2 := vr_nn m
  rw [List.getElem?_set]
  by_cases e : vr m = vr l
  · rw [if_pos (by omega), if_pos (by omega), if_pos e]
  · rw [if_neg (by omega), if_neg e]
def Good (val c : List Int) : Prop := (∃ y ∈ c, gv val y = some y) ∨ ∃ y ∈ c, ∃ z ∈ c, y ≠ z ∧ gv val y = some 0 ∧ gv val z = some 0
theorem closed_up {n : Int} {F : List (List Int)} {S : List Int} {val : List Int} (hL : Lits n F S) (h : ValOk n F S val) (hs : ∀ l ∈ S, gv val l = some l) (hg : ∀ c ∈ F, Good val c) : ∀ {l}, UP F S l → gv val l = some l := by
  intro l hl
  induction hl with
  | start hm => exact hs _ hm
  | @unit c x hc hx hy ih =>
    rcases hg c hc with ⟨y, hyc, h1⟩ | ⟨y, hyc, z, hzc, hyz, h1, h2⟩
    · by_cases e : y = x
      · rw [← e]; exact h1
      · have := ih y hyc e
        rw [gv_neg, h1] at this
        have := Option.some.inj this
        exact absurd (show y = 0 by omega) (hL.cl c hc y hyc).1
    · by_cases e : y = x
      · have := ih z hzc (by rw [← e]; exact fun e' => hyz e'.symm)
        rw [gv_neg, h2] at this
        have := Option.some.inj this
        exact absurd (show z = 0 by omega) (hL.cl c hc z hzc).1
      · have := ih y hyc e
        rw [gv_neg, h1] at this
        have := Option.some.inj this
        exact absurd (show y = 0 by omega) (hL.cl c hc y hyc).1
theorem closed_ok {n : Int} {F : List (List Int)} {S : List Int} {val : List Int} (hL : Lits n F S) (h : ValOk n F S val) (hs : ∀ l ∈ S, gv val l = some l) (hg : ∀ c ∈ F, Good val c) : ¬ Fails F S := by
  rintro (⟨l, h1, h2⟩ | ⟨c, hc, hy⟩)
  · have e1 := closed_up hL h hs hg h1
    have e2 := closed_up hL h hs hg h2
    rw [gv_neg, e1] at e2
    have := Option.some.inj e2
    exact (h1.lit hL).1 (by omega)
  · rcases hg c hc with ⟨y, hyc, h1⟩ | ⟨y, hyc, z, hzc, hyz, h1, h2⟩
    · have := closed_up hL h hs hg (hy y hyc)
      rw [gv_neg, h1] at this
      have := Option.some.inj this
      exact (hL.cl c hc y hyc).1 (by omega)
    · have := closed_up hL h hs hg (hy y hyc)
      rw [gv_neg, h1] at this
      have := Option.some.inj this
      exact (hL.cl c hc y hyc).1 (by omega)
def sOk (v x : Int) : Bool := decide (x ≠ 0) && decide (-v ≤ x) && decide (x ≤ v)
def PropOk (f : Formula) (S : List Int) (r : List Int × Bool × Int) : Prop :=
  if validB f = true ∧ ∀ x ∈ S, sOk f.vars x = true then
    r.2.2 = 0 ∧ ((r.2.1 = true ∧ ¬ Fails f.clauses S ∧ (r.1.Pairwise fun x y => vr x < vr y) ∧ ∀ x, x ∈ r.1 ↔ UP f.clauses S x) ∨ (r.2.1 = false ∧ r.1 = [] ∧ Fails f.clauses S))
  else r = ([], false, 1)
theorem PropOk.eq {f : Formula} {S : List Int} {r q : List Int × Bool × Int} (h1 : PropOk f S r) (h2 : PropOk f S q) : r = q := by
  unfold PropOk at *
  split at h1
  · rename_i hv
    rw [if_pos hv] at h2
    obtain ⟨r1, r2, r3⟩ := r
    obtain ⟨q1, q2, q3⟩ := q
    obtain ⟨e1, h1⟩ := h1
    obtain ⟨e2, h2⟩ := h2
    simp only at e1 e2 h1 h2
    subst e1 e2
    rcases h1 with ⟨rfl, a1, a2, a3⟩ | ⟨rfl, rfl, a1⟩ <;> rcases h2 with ⟨rfl, b1, b2, b3⟩ | ⟨rfl, rfl, b1⟩
    · rw [rising_ext (r := fun x y => vr x < vr y) (fun a => by omega) (fun a b c h1 h2 => by omega) a2 b2 (fun x => by rw [a3, b3])]
    · exact absurd b1 a1
    · exact absurd a1 b1
    · rfl
  · rename_i hv
    rw [if_neg hv] at h2
    rw [h1, h2]
theorem valid_lits {f : Formula} {S : List Int} (h : validB f = true) (hs : ∀ x ∈ S, sOk f.vars x = true) : Lits f.vars f.clauses S := by
  have hb := valid_bnd h
  refine ⟨⟨hb.1, hb.2.1⟩, fun c hc y hy => ?_, fun y hy => ?_, fun c hc => ?_⟩
  · have := valid_lit h hc hy
    exact ⟨fun e => by rw [e] at this; simp [vr] at this, this.2.2.2⟩
  · have := hs y hy
    unfold sOk at this
    simp only [Bool.and_eq_true, decide_eq_true_eq] at this
    exact ⟨this.1.1, vr_le.2 ⟨this.1.2, this.2⟩⟩
  · have : ∀ (t : Int) (c : List Int), 0 ≤ t → clF f.vars t c = true → c.Nodup := by
      intro t c
      induction c generalizing t with
      | nil => intro _ _; exact List.nodup_nil
      | cons x c ih =>
        intro ht hc
        unfold clF at hc
        simp only [Bool.and_eq_true, decide_eq_true_eq] at hc
        refine List.nodup_cons.2 ⟨fun hx => ?_, ih (vr x) (vr_nn x) hc.2⟩
        have := (clF_mem (vr_nn x) hc.2 x hx).2.2
        omega
    exact this 0 c (Int.le_refl 0) (hb.2.2.2 c hc)
def zeros (val : List Int) : Nat := (val.filter fun x => decide (x = 0)).length
theorem zeros_set {x : Int} (hx : x ≠ 0) : ∀ {val : List Int} {i : Nat}, val[i]? = some 0 → zeros (val.set i x) + 1 = zeros val
  | [], i, h => by simp at h
  | y :: val, 0, h => by
    simp at h; subst h
    simp [zeros, hx]
  | y :: val, i + 1, h => by
    rw [List.getElem?_cons_succ] at h
    have := zeros_set hx h
    unfold zeros at *
    rw [List.set_cons_succ, List.filter_cons, List.filter_cons]
    split
    · simp only [List.length_cons]; omega
    · exact this
theorem valOk_init {f : Formula} {S : List Int} (hL : Lits f.vars f.clauses S) : ValOk f.vars f.clauses S (List.replicate (f.vars + 1).toNat 0) := by
  have hn := hL.nn
  refine ⟨by rw [List.length_replicate]; omega, fun v x hx => ?_, fun v x hx h0 => ?_⟩
  · have := List.mem_of_getElem? hx
    exact Or.inl (List.eq_of_mem_replicate this)
  · have := List.mem_of_getElem? hx
    exact absurd (List.eq_of_mem_replicate this) h0
end Go.Proofs.YtelioaepnpnojaaGreatDoor
