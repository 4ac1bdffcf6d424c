/- The laws that compare the program's functions with the reference's. -/
import Derived.Test.YtelioaepnpnojaaGreatDoorKCi14
import Derived.Test.YtelioaepnpnojaaGreatDoorKCi15
import Derived.Test.YtelioaepnpnojaaGreatDoorKCi3
import Derived.Test.YtelioaepnpnojaaGreatDoorKCi4
set_option linter.unusedVariables false
set_option linter.unusedSimpArgs false
namespace Go.Proofs.YtelioaepnpnojaaGreatDoor
open Go.RowKit Go.Lib
def exF : Formula := ⟨4, [[-1], [2, -4], [-3, -4], [-2, 3, 4], [4]]⟩
theorem ex_tr : trF ⟨2, [⟨2, 5⟩]⟩ [6] = (exF, 0) := by decide +kernel
theorem ex_valid : validB exF = true := by decide +kernel
theorem ex_fit : FLen exF.clauses := ⟨by decide, by decide⟩
theorem ex_lits : Lits exF.vars exF.clauses [2, -3] := valid_lits ex_valid (by decide)
theorem ex_vo : ValOk exF.vars exF.clauses [2, -3] [0, -1, 2, -3, 4] := by
  refine ⟨rfl, fun v x h => ?_, fun v x h h0 => ?_⟩
  · match v, h with
    | 0, h => simp at h; exact Or.inl h.symm
    | 1, h => simp at h; subst h; exact Or.inr ⟨by decide, rfl⟩
    | 2, h => simp at h; subst h; exact Or.inr ⟨by decide, rfl⟩
    | 3, h => simp at h; subst h; exact Or.inr ⟨by decide, rfl⟩
    | 4, h => simp at h; subst h; exact Or.inr ⟨by decide, rfl⟩
    | n + 5, h => simp at h
  · match v, h with
    | 0, h => simp at h; exact absurd h.symm h0
    | 1, h => simp at h; subst h; exact .unit (c := [-1]) (by decide) (by decide) (fun y hy hn => absurd (List.mem_singleton.1 hy) hn)
    | 2, h => simp at h; subst h; exact .start (by decide)
    | 3, h => simp at h; subst h; exact .start (by decide)
    | 4, h => simp at h; subst h; exact .unit (c := [4]) (by decide) (by decide) (fun y hy hn => absurd (List.mem_singleton.1 hy) hn)
    | n + 5, h => simp at h
theorem ex_st : ∀ l ∈ ([2, -3] : List Int), gv [0, -1, 2, -3, 4] l = some l := by decide
theorem ex_good : ∀ c ∈ exF.clauses, Good [0, -1, 2, -3, 4] c := by
  intro c hc
  have hc : c ∈ [[-1], [2, -4], [-3, -4], [-2, 3, 4], [4]] := hc
  simp only [List.mem_cons, List.not_mem_nil, or_false] at hc
  rcases hc with rfl | rfl | rfl | rfl | rfl
  · exact Or.inl ⟨-1, by decide, by decide⟩
  · exact Or.inl ⟨2, by decide, by decide⟩
  · exact Or.inl ⟨-3, by decide, by decide⟩
  · exact Or.inl ⟨4, by decide, by decide⟩
  · exact Or.inl ⟨4, by decide, by decide⟩
theorem ex_prop : PropOk exF [2, -3] ([-1, 2, -3, 4], true, 0) := by
  unfold PropOk
  rw [if_pos ⟨ex_valid, by decide⟩]
  refine ⟨rfl, Or.inl ⟨rfl, closed_ok ex_lits ex_vo ex_st ex_good, by decide, fun x => ⟨fun h => ?_, fun h => ?_⟩⟩⟩
  · simp only [List.mem_cons, List.not_mem_nil, or_false] at h
    rcases h with rfl | rfl | rfl | rfl
    · exact ex_vo.sound 1 (-1) rfl (by decide)
    · exact ex_vo.sound 2 2 rfl (by decide)
    · exact ex_vo.sound 3 (-3) rfl (by decide)
    · exact ex_vo.sound 4 4 rfl (by decide)
  · have h1 := closed_up ex_lits ex_vo ex_st ex_good h
    have h2 := (h.lit ex_lits).1
    unfold gv at h1
    generalize (vr x).toNat = v at h1
    match v, h1 with
    | 0, h => simp at h; exact absurd h.symm h2
    | 1, h => simp at h; subst h; simp
    | 2, h => simp at h; subst h; simp
    | 3, h => simp at h; subst h; simp
    | 4, h => simp at h; subst h; simp
    | n + 5, h => simp at h
def exG : Formula := ⟨2, [[1, -2]]⟩
theorem itoa_dig {n : Int} (h0 : 0 ≤ n) (h : n < 10) : itoa n = [UInt8.ofNat (48 + n.toNat)] := by
  unfold itoa; rw [if_neg (by omega), dd_small (by omega)]
theorem ex_txt : fmtL exG = [112, 32, 99, 110, 102, 32, 50, 32, 49, 10, 49, 32, 45, 50, 32, 48, 10] := by
  have h1 : itoa 1 = [49] := itoa_dig (by decide) (by decide)
  have h2 : itoa 2 = [50] := itoa_dig (by decide) (by decide)
  have h3 : itoa (-2) = [45, 50] := by unfold itoa; rw [if_pos (by decide), show (-2 : Int).natAbs = 2 from rfl, dd_small (by decide)]; rfl
  unfold fmtL headL exG
  simp [lineL, litL, h1, h2, h3]
theorem ex_gfit : Fits exG.clauses := ⟨by decide, by decide⟩
theorem ex_gvalid : validB exG = true := by decide +kernel
theorem awake_true : m_assessorlaw26_awake = some true := by
  unfold m_assessorlaw26_awake
  rw [cnf_translate (by decide) (by decide) (by decide), bsm, ex_tr]
  obtain ⟨r, h1, h2⟩ := cnf_propagate (f := exF) (S := [2, -3]) ex_fit (by decide) (by decide) (by decide)
  rw [h2.eq ex_prop] at h1
  obtain ⟨q, h3, h4⟩ := cnf_parse (l := [112, 32, 99, 110, 102, 32, 50, 32, 49, 10, 49, 32, 45, 50, 32, 48, 10]) (by decide)
  rw [← ex_txt] at h3 h4
  rw [h4.eq (ParseSpec.fmt ex_gvalid ex_gfit)] at h3
  have e1 : (ByteArray.mk #[112, 32, 99, 110, 102, 32, 50, 32, 49, 10, 49, 32, 45, 50, 32, 48, 10]) = bs (fmtL exG) := by rw [ex_txt]; rfl
  have e2 : fmtB exG = bs (fmtL exG) := by unfold fmtB; rw [if_pos ex_gvalid]
  have n1 : m_cnf_Normal [3, -2, 3] = some ([-2, 3], true) := by rw [cnf_Normal (by decide)]; decide +kernel
  have c1 : m_assessorref26_Clauses exF.clauses [[-1], [2, -4], [-3, -4], [-2, 3, 4], [4]] = some true := by rw [clauses_equal _ _ ex_fit]; rfl
  have l1 : m_slices_Equal_int_int_ [-1, 2, -3, 4] [-1, 2, -3, 4] = some true := by rw [lists_equal _ _ (by decide)]; rfl
  have l2 : m_slices_Equal_int_int_ [-2, 3] [-2, 3] = some true := by rw [lists_equal _ _ (by decide)]; rfl
  have v1 : m_cnf_Valid exF = some true := by rw [cnf_valid ex_fit, ex_valid]
  have o1 : m_cnf_Holds exF [-1, 2, -3, 4] = some true := by rw [cnf_holds ex_fit]; decide +kernel
  have t1 : m_cnf_Literal 5 = some (-3) := by rw [cnf_literal (by decide)]; rfl
  have i1 : ((decide ((0 : Int) = 0)) && (decide (exF.vars = 4))) = true := by decide
  rw [e1, h1, bsm, n1, bsm, h3, bsm, if_pos i1, c1, bsm, bsm, if_pos rfl, l1, bsm, bsm, if_pos (by decide), l2, bsm, bsm, if_pos (by decide), cnf_format ex_gfit, bsm, e2, bsm, if_pos (by simp), v1, bsm, bsm, if_pos rfl, o1, bsm, bsm, if_pos rfl, t1, bsm, bsm]
  rfl
theorem gatesC_short : ∀ (l : List Arr2) (v : Int), ∀ c ∈ gatesC v l, c.length ≤ 9223372036854775807
  | [], v, c, h => by simp [gatesC] at h
  | x :: l, v, c, h => by
    unfold gatesC at h
    rcases List.mem_append.1 h with h | h
    · unfold gateC at h
      simp only [List.mem_cons, List.not_mem_nil, or_false] at h
      rcases h with rfl | rfl | rfl
      · have := normF_len [-v, litF x.x0]; simp only [List.length_cons, List.length_nil] at this; omega
      · have := normF_len [-v, litF x.x1]; simp only [List.length_cons, List.length_nil] at this; omega
      · have := normF_len [v, -litF x.x0, -litF x.x1]; simp only [List.length_cons, List.length_nil] at this; omega
    · exact gatesC_short l (v + 1) c h
end Go.Proofs.YtelioaepnpnojaaGreatDoor

/- CnfFollows: what Propagate derives lies in every model that the start lies in; and to derive again derives no more. -/
set_option linter.unusedVariables false
set_option linter.unusedSimpArgs false
namespace Go.Proofs.YtelioaepnpnojaaGreatDoor
open Go.RowKit Go.Lib
def MdL (m : List Int) : Prop := ∀ (i : Nat) x, m[i]? = some x → x = (i : Int) + 1 ∨ x = -((i : Int) + 1)
theorem MdL.at {m : List Int} (h : MdL m) {x : Int} (hx : x ∈ m) : x ≠ 0 ∧ m[(vr x - 1).toNat]? = some x := by
  obtain ⟨i, hi⟩ := List.getElem?_of_mem hx
  have h1 := h i x hi
  have h2 : vr x = (i : Int) + 1 := by unfold vr; omega
  refine ⟨by omega, ?_⟩
  rw [h2, show ((i : Int) + 1 - 1).toNat = i by omega]; exact hi
theorem MdL.opp {m : List Int} (h : MdL m) {x : Int} (hx : x ∈ m) (hn : -x ∈ m) : False := by
  have h1 := h.at hx
  have h2 := (h.at hn).2
  rw [vr_neg, h1.2] at h2
  simp only [Option.some.injEq] at h2
  omega
theorem sat_mem {m c : List Int} (h : satB m c = true) : ∃ y ∈ c, y ∈ m := by
  unfold satB at h
  rw [List.any_eq_true] at h
  obtain ⟨y, hy, h⟩ := h
  exact ⟨y, hy, mem_get (by simpa using h)⟩
theorem model_up {F : List (List Int)} {S m : List Int} (hm : MdL m) (hS : ∀ x ∈ S, x ∈ m) (hF : ∀ c ∈ F, satB m c = true) : ∀ {x}, UP F S x → x ∈ m := by
  intro x hx
  induction hx with
  | start h => exact hS _ h
  | @unit c x hc hxc _ ih =>
    obtain ⟨y, hy, hym⟩ := sat_mem (hF c hc)
    by_cases e : y = x
    · rw [← e]; exact hym
    · exact absurd (ih y hy e) (fun hn => hm.opp hym hn)
theorem model_ok {F : List (List Int)} {S m : List Int} (hm : MdL m) (hS : ∀ x ∈ S, x ∈ m) (hF : ∀ c ∈ F, satB m c = true) : ¬ Fails F S := by
  rintro (⟨l, h1, h2⟩ | ⟨c, hc, hy⟩)
  · exact hm.opp (model_up hm hS hF h1) (model_up hm hS hF h2)
  · obtain ⟨y, hyc, hym⟩ := sat_mem (hF c hc)
    exact hm.opp hym (model_up hm hS hF (hy y hyc))
theorem sOk_lit {v x : Int} (h : sOk v x = true) : x ≠ 0 ∧ -v ≤ x ∧ x ≤ v := by
  unfold sOk at h
  simp only [Bool.and_eq_true, decide_eq_true_eq] at h
  exact ⟨h.1.1, h.1.2, h.2⟩
theorem MdL.snoc {m : List Int} (h : MdL m) {x : Int} (hx : x = (m.length : Int) + 1 ∨ x = -((m.length : Int) + 1)) : MdL (m ++ [x]) := by
  intro i y hy
  rw [List.getElem?_append] at hy
  split at hy
  · exact h i y hy
  · rename_i hi
    rcases Nat.lt_or_ge (i - m.length) 1 with h1 | h1
    · have e : i = m.length := by omega
      subst e
      simp only [Nat.sub_self, List.getElem?_cons_zero, Option.some.injEq] at hy
      subst hy; exact hx
    · rw [List.getElem?_eq_none (by simpa using h1)] at hy; cases hy
theorem MdL.set {m : List Int} (h : MdL m) {x : Int} (h0 : x ≠ 0) : MdL (m.set (vr x - 1).toNat x) := by
  intro i y hy
  rw [List.getElem?_set] at hy
  split at hy
  · rename_i e
    split at hy
    · simp only [Option.some.injEq] at hy
      subst hy
      unfold vr at e
      omega
    · cases hy
  · exact h i y hy
end Go.Proofs.YtelioaepnpnojaaGreatDoor

/- CnfCircuits: what is derived of a circuit's inputs in its formula is the circuit's run. -/
set_option linter.unusedVariables false
set_option linter.unusedSimpArgs false
namespace Go.Proofs.YtelioaepnpnojaaGreatDoor
open Go.RowKit Go.Lib
theorem clF_inc {v : Int} : ∀ {o : List Int} {t : Int}, Inc o → (∀ x ∈ o, t < vr x ∧ vr x ≤ v) → clF v t o = true
  | [], _, _, _ => rfl
  | x :: o, t, h, hb => by
    have h1 := hb x (List.mem_cons_self ..)
    have h2 := vr_le.1 h1.2
    obtain ⟨hx, hp⟩ := List.pairwise_cons.1 h
    unfold clF
    rw [clF_inc hp fun y hy => ⟨hx y hy, (hb y (List.mem_cons_of_mem _ hy)).2⟩]
    simp only [Bool.and_eq_true, decide_eq_true_eq]
    exact ⟨⟨⟨h2.1, h2.2⟩, h1.1⟩, trivial⟩
theorem normF_spec {l : List Int} {v : Int} (hv : v ≤ 1073741824) (hr : ∀ x ∈ l, x ≠ 0 ∧ vr x ≤ v) (hn : ∀ x ∈ l, -x ∉ l) : clF v 0 (normF l).1 = true ∧ ∀ z, z ∈ (normF l).1 ↔ z ∈ l := by
  have h := nrm_spec l [] List.Pairwise.nil (by simp)
  unfold normF
  cases ho : nrm [] l with
  | none =>
    rw [ho] at h
    rcases h with ⟨x, hx, hb⟩ | ⟨x, _, h1, h2⟩
    · have h1 := hr x hx
      have h2 := vr_le.1 h1.2
      unfold rngB at hb
      simp only [Bool.and_eq_false_iff, decide_eq_false_iff_not] at hb
      omega
    · simp only [List.not_mem_nil, false_or] at h1 h2
      exact absurd h2 (hn x h1)
  | some o =>
    rw [ho] at h
    obtain ⟨h1, h2, _, _⟩ := h
    have hm : ∀ z, z ∈ o ↔ z ∈ l := fun z => by rw [h2 z]; simp
    refine ⟨clF_inc h1 fun x hx => ?_, hm⟩
    have := hr x ((hm x).1 hx)
    have h3 := vr_nn x
    have h4 := mt vr_zero.1 this.1
    exact ⟨by omega, this.2⟩
def evL (vals : List Bool) (x : Int) : Bool := !(vals.getD (x / 2).toNat false == decide (x % 2 = 1))
def runG : List Bool → List Arr2 → List Bool
  | vals, [] => vals
  | vals, x :: r => runG (vals ++ [evL vals x.x0 && evL vals x.x1]) r
theorem getD_app {a b : List Bool} {k : Nat} (h : k < a.length) : (a ++ b).getD k false = a.getD k false := by
  rw [List.getD_eq_getElem?_getD, List.getD_eq_getElem?_getD, List.getElem?_append_left h]
theorem runG_len : ∀ (l : List Arr2) (vals : List Bool), (runG vals l).length = vals.length + l.length
  | [], vals => rfl
  | x :: l, vals => by unfold runG; rw [runG_len l]; simp only [List.length_append, List.length_cons, List.length_nil]; omega
theorem runG_pre : ∀ (l : List Arr2) (vals : List Bool) (k : Nat), k < vals.length → (runG vals l).getD k false = vals.getD k false
  | [], vals, k, _ => rfl
  | x :: l, vals, k, h => by
    unfold runG
    rw [runG_pre l _ k (by rw [List.length_append]; omega), getD_app h]
def Kids (n : Nat) (l : List Arr2) : Prop := ∀ (j : Nat) x, l[j]? = some x → 0 ≤ x.x0 ∧ x.x0 < 2 * ((n + j : Nat) : Int) ∧ 0 ≤ x.x1 ∧ x.x1 < 2 * ((n + j : Nat) : Int)
theorem evL_pre {l : List Arr2} {vals : List Bool} {x : Int} (h0 : 0 ≤ x) (h : x < 2 * (vals.length : Int)) : evL (runG vals l) x = evL vals x := by
  unfold evL
  rw [runG_pre l vals _ (by omega)]
theorem runG_at : ∀ (l : List Arr2) (vals : List Bool) (j : Nat) (x : Arr2), Kids vals.length l → l[j]? = some x → (runG vals l).getD (vals.length + j) false = (evL (runG vals l) x.x0 && evL (runG vals l) x.x1)
  | [], vals, j, x, _, h => by simp at h
  | y :: l, vals, 0, x, hk, h => by
    simp only [List.getElem?_cons_zero, Option.some.injEq] at h
    subst h
    have h1 := hk 0 y rfl
    rw [evL_pre h1.1 (by omega), evL_pre h1.2.2.1 (by omega)]
    unfold runG
    rw [runG_pre l _ _ (by simp), List.getD_eq_getElem?_getD, List.getElem?_append_right (by omega)]
    simp
  | y :: l, vals, j + 1, x, hk, h => by
    rw [List.getElem?_cons_succ] at h
    unfold runG
    have := runG_at l (vals ++ [evL vals y.x0 && evL vals y.x1]) j x (fun i z hz => by
      have := hk (i + 1) z (by rw [List.getElem?_cons_succ]; exact hz)
      rw [List.length_append, List.length_singleton, show vals.length + 1 + i = vals.length + (i + 1) by omega]; exact this) h
    rw [List.length_append, List.length_singleton, show vals.length + 1 + j = vals.length + (j + 1) by omega] at this
    exact this
def nodeL (vals : List Bool) (k : Nat) : Int := if vals.getD k false = true then (k : Int) + 1 else -((k : Int) + 1)
def modelOf (vals : List Bool) : List Int := (List.range vals.length).map (nodeL vals)
theorem mod_get {vals : List Bool} {k : Nat} (h : k < vals.length) : (modelOf vals)[k]? = some (nodeL vals k) := by
  unfold modelOf
  rw [List.getElem?_map, List.getElem?_range h]; rfl
theorem mod_len (vals : List Bool) : (modelOf vals).length = vals.length := by unfold modelOf; simp
theorem nodeL_or (vals : List Bool) (k : Nat) : nodeL vals k = (k : Int) + 1 ∨ nodeL vals k = -((k : Int) + 1) := by
  unfold nodeL; split
  · exact Or.inl rfl
  · exact Or.inr rfl
theorem mod_mdL (vals : List Bool) : MdL (modelOf vals) := fun i x h => by
  have hl := len_lt h
  rw [mod_len] at hl
  rw [mod_get hl] at h
  simp only [Option.some.injEq] at h
  subst h
  exact nodeL_or vals i
theorem mod_mem {vals : List Bool} {k : Nat} (h : k < vals.length) : nodeL vals k ∈ modelOf vals := mem_get (mod_get h)
theorem lit_node {vals : List Bool} {x : Int} (h0 : 0 ≤ x) : (evL vals x = true → litF x = nodeL vals (x / 2).toNat) ∧ (evL vals x = false → -litF x = nodeL vals (x / 2).toNat) := by
  have hk : (((x / 2).toNat : Nat) : Int) = x / 2 := by omega
  unfold evL litF nodeL
  rw [if_neg (by omega), hk]
  generalize vals.getD (x / 2).toNat false = b
  by_cases h2 : x % 2 = 0
  · have h3 : ¬ x % 2 = 1 := by omega
    cases b <;> simp [h2, h3]
  · have h3 : x % 2 = 1 := by omega
    cases b <;> simp [h2, h3]
theorem mem_gatesC : ∀ {l : List Arr2} {v : Int} {c : List Int}, c ∈ gatesC v l ↔ ∃ (j : Nat) (x : Arr2), l[j]? = some x ∧ c ∈ gateC (v + (j : Int)) x
  | [], v, c => by simp [gatesC]
  | y :: l, v, c => by
    unfold gatesC
    rw [List.mem_append, mem_gatesC]
    constructor
    · rintro (h | ⟨j, x, h1, h2⟩)
      · exact ⟨0, y, rfl, by simpa using h⟩
      · exact ⟨j + 1, x, by rw [List.getElem?_cons_succ]; exact h1, by rw [show v + ((j + 1 : Nat) : Int) = v + 1 + (j : Int) by omega]; exact h2⟩
    · rintro ⟨j, x, h1, h2⟩
      cases j with
      | zero => simp at h1; subst h1; exact Or.inl (by simpa using h2)
      | succ j => exact Or.inr ⟨j, x, by rw [List.getElem?_cons_succ] at h1; exact h1, by rw [show v + 1 + (j : Int) = v + ((j + 1 : Nat) : Int) by omega]; exact h2⟩
structure GateOk (n v : Int) (x : Arr2) : Prop where
  a0 : litF x.x0 ≠ 0
  b0 : litF x.x1 ≠ 0
  av : vr (litF x.x0) < v
  bv : vr (litF x.x1) < v
  ne : vr (litF x.x0) ≠ vr (litF x.x1)
  vn : v ≤ n
theorem gate_ok {n m : Int} {x : Arr2} (h : okG m x = true) (hm : m + 1 ≤ n) : GateOk n (m + 1) x := by
  have h1 := okG_bnd h
  have ha := litF_rng (n := m) (show 0 ≤ x.x0 by omega) (by omega)
  have hb := litF_rng (n := m) (show 0 ≤ x.x1 by omega) h1.2.2.1
  refine ⟨ha.1, hb.1, by omega, by omega, ?_, hm⟩
  rw [ha.2.2.2, hb.2.2.2]
  intro e
  have h2 := h1.2.2.2
  unfold notF at h2
  split at h2 <;> omega
theorem vr_pos {v : Int} (h : 0 < v) : vr v = v := by unfold vr; omega
section
variable {n v : Int} {x : Arr2} (hg : GateOk n v x) (hn : n ≤ 65536)
include hg hn
theorem gate_c1 : clF n 0 (normF [-v, litF x.x0]).1 = true ∧ ∀ z, z ∈ (normF [-v, litF x.x0]).1 ↔ z = -v ∨ z = litF x.x0 := by
  obtain ⟨a0, b0, av, bv, ne, vn⟩ := hg
  have h1 := vr_nn (litF x.x0)
  have hvv := vr_pos (show 0 < v by omega)
  have h := normF_spec (l := [-v, litF x.x0]) (v := n) (by omega) (fun y hy => by
    simp only [List.mem_cons, List.not_mem_nil, or_false] at hy
    rcases hy with rfl | rfl
    · rw [vr_neg, hvv]; exact ⟨by omega, vn⟩
    · exact ⟨a0, by omega⟩) (fun y hy hn => by
    simp only [List.mem_cons, List.not_mem_nil, or_false] at hy hn
    have e : ∀ p q : Int, p = q → vr p = vr q := fun p q e => by rw [e]
    rcases hy with rfl | rfl <;> rcases hn with hn | hn
    · omega
    · have := e _ _ hn; rw [vr_neg, vr_neg, hvv] at this; omega
    · have := e _ _ hn; rw [vr_neg, vr_neg, hvv] at this; omega
    · omega)
  exact ⟨h.1, fun z => by rw [h.2 z]; simp⟩
theorem gate_c2 : clF n 0 (normF [-v, litF x.x1]).1 = true ∧ ∀ z, z ∈ (normF [-v, litF x.x1]).1 ↔ z = -v ∨ z = litF x.x1 := by
  obtain ⟨a0, b0, av, bv, ne, vn⟩ := hg
  have h1 := vr_nn (litF x.x1)
  have hvv := vr_pos (show 0 < v by omega)
  have h := normF_spec (l := [-v, litF x.x1]) (v := n) (by omega) (fun y hy => by
    simp only [List.mem_cons, List.not_mem_nil, or_false] at hy
    rcases hy with rfl | rfl
    · rw [vr_neg, hvv]; exact ⟨by omega, vn⟩
    · exact ⟨b0, by omega⟩) (fun y hy hn => by
    simp only [List.mem_cons, List.not_mem_nil, or_false] at hy hn
    have e : ∀ p q : Int, p = q → vr p = vr q := fun p q e => by rw [e]
    rcases hy with rfl | rfl <;> rcases hn with hn | hn
    · omega
    · have := e _ _ hn; rw [vr_neg, vr_neg, hvv] at this; omega
    · have := e _ _ hn; rw [vr_neg, vr_neg, hvv] at this; omega
    · omega)
  exact ⟨h.1, fun z => by rw [h.2 z]; simp⟩
theorem gate_c3 : clF n 0 (normF [v, -litF x.x0, -litF x.x1]).1 = true ∧ ∀ z, z ∈ (normF [v, -litF x.x0, -litF x.x1]).1 ↔ z = v ∨ z = -litF x.x0 ∨ z = -litF x.x1 := by
  obtain ⟨a0, b0, av, bv, ne, vn⟩ := hg
  have h1 := vr_nn (litF x.x0)
  have h2 := vr_nn (litF x.x1)
  have hvv := vr_pos (show 0 < v by omega)
  have h := normF_spec (l := [v, -litF x.x0, -litF x.x1]) (v := n) (by omega) (fun y hy => by
    simp only [List.mem_cons, List.not_mem_nil, or_false] at hy
    rcases hy with rfl | rfl | rfl
    · rw [hvv]; exact ⟨by omega, vn⟩
    · rw [vr_neg]; exact ⟨by omega, by omega⟩
    · rw [vr_neg]; exact ⟨by omega, by omega⟩) (fun y hy hn => by
    simp only [List.mem_cons, List.not_mem_nil, or_false] at hy hn
    have e : ∀ p q : Int, p = q → vr p = vr q := fun p q e => by rw [e]
    rcases hy with rfl | rfl | rfl <;> rcases hn with hn | hn | hn
    · omega
    · have := e _ _ hn; simp only [vr_neg, hvv] at this; omega
    · have := e _ _ hn; simp only [vr_neg, hvv] at this; omega
    · have := e _ _ hn; simp only [vr_neg, hvv] at this; omega
    · omega
    · have := e _ _ hn; simp only [vr_neg] at this; exact ne this
    · have := e _ _ hn; simp only [vr_neg, hvv] at this; omega
    · have := e _ _ hn; simp only [vr_neg] at this; exact ne this.symm
    · omega)
  exact ⟨h.1, fun z => by rw [h.2 z]; simp⟩
end
structure CirOk (g : Gates) (lits : List Int) (ins : List Bool) : Prop where
  v : gvB g = true
  good : ∀ x ∈ lits, 0 ≤ x ∧ x < 2 * nodesF g
  ins : (ins.length : Int) = g.inputs
  gl : g.gates.length ≤ 1000
  ll : lits.length ≤ 1000
def clausesF (g : Gates) (lits : List Int) : List (List Int) := [[-1]] ++ gatesC (g.inputs + 2) g.gates ++ lits.map fun x => [litF x]
def valsF (g : Gates) (ins : List Bool) : List Bool := runG ([false] ++ ins) g.gates
section
variable {g : Gates} {lits : List Int} {ins : List Bool} (hc : CirOk g lits ins)
include hc
theorem gate_at {j : Nat} {x : Arr2} (h : g.gates[j]? = some x) : okG (1 + g.inputs + (j : Int)) x = true ∧ 1 + g.inputs + (j : Int) + 1 ≤ nodesF g := by
  have hgf : gF (1 + g.inputs) [] g.gates = true := by
    have hv := hc.v
    unfold gvB at hv; simp only [Bool.and_eq_true] at hv; exact hv.2
  refine ⟨gF_lits hgf j x h, ?_⟩
  have := len_lt h
  unfold nodesF; omega
theorem gok {j : Nat} {x : Arr2} (h : g.gates[j]? = some x) : GateOk (nodesF g) (g.inputs + 2 + (j : Int)) x := by
  obtain ⟨h1, h2⟩ := gate_at hc h
  have := gate_ok h1 h2
  rwa [show 1 + g.inputs + (j : Int) + 1 = g.inputs + 2 + (j : Int) by omega] at this
theorem vals_len : ((valsF g ins).length : Int) = nodesF g := by
  unfold valsF nodesF
  rw [runG_len, List.length_append, List.length_singleton]
  have := hc.ins
  omega
theorem kids_ok : Kids ([false] ++ ins).length g.gates := fun j x h => by
  have h1 := okG_bnd (gate_at hc h).1
  have h2 := hc.ins
  rw [List.length_append, List.length_singleton]
  refine ⟨by omega, by omega, by omega, by omega⟩
theorem vals_at {j : Nat} {x : Arr2} (h : g.gates[j]? = some x) : (valsF g ins).getD (g.inputs.toNat + 1 + j) false = (evL (valsF g ins) x.x0 && evL (valsF g ins) x.x1) := by
  have := runG_at g.gates ([false] ++ ins) j x (kids_ok hc) h
  rw [List.length_append, List.length_singleton] at this
  have h2 := hc.ins
  rw [show g.inputs.toNat + 1 + j = 1 + ins.length + j by omega]
  exact this
theorem vals_zero : (valsF g ins).getD 0 false = false := by
  have _h := hc
  unfold valsF; rw [runG_pre _ _ 0 (by simp)]; rfl
theorem vals_in {k : Nat} (h : k < ins.length) : (valsF g ins).getD (k + 1) false = ins.getD k false := by
  have _h := hc
  unfold valsF; rw [runG_pre _ _ _ (by simp; omega)]; rfl
theorem cl_valid : validB ⟨nodesF g, clausesF g lits⟩ = true := by
  obtain ⟨b1, b2, b3, b4⟩ := gvB_bnd hc.v
  unfold validB
  simp only [Bool.and_eq_true, decide_eq_true_eq, List.all_eq_true]
  refine ⟨⟨⟨by omega, b3⟩, ?_⟩, fun c h => ?_⟩
  · unfold clausesF
    simp only [List.length_append, gatesC_len, List.length_map, List.length_singleton]
    have := hc.gl; have := hc.ll; omega
  · unfold clausesF at h
    simp only [List.mem_append, List.mem_singleton, List.mem_map] at h
    rcases h with (rfl | h) | ⟨x, hx, rfl⟩
    · unfold clF clF
      simp only [Bool.and_eq_true, decide_eq_true_eq]
      exact ⟨⟨⟨by omega, by omega⟩, by decide⟩, trivial⟩
    · obtain ⟨j, x, h1, h2⟩ := mem_gatesC.1 h
      have hg := gok hc h1
      unfold gateC at h2
      simp only [List.mem_cons, List.not_mem_nil, or_false] at h2
      rcases h2 with rfl | rfl | rfl
      · exact (gate_c1 hg b3).1
      · exact (gate_c2 hg b3).1
      · exact (gate_c3 hg b3).1
    · have h1 := hc.good x hx
      have h2 := litF_rng h1.1 h1.2
      unfold clF clF
      simp only [Bool.and_eq_true, decide_eq_true_eq]
      have := vr_nn (litF x)
      have := mt vr_zero.1 h2.1
      exact ⟨⟨⟨h2.2.1, h2.2.2.1⟩, by omega⟩, trivial⟩
def startF (ins : List Bool) : List Int := (List.range ins.length).map fun k => if ins.getD k false = true then (k : Int) + 2 else -((k : Int) + 2)
omit hc in
theorem start_mem {x : Int} : x ∈ startF ins ↔ ∃ k, k < ins.length ∧ x = (if ins.getD k false = true then (k : Int) + 2 else -((k : Int) + 2)) := by
  unfold startF
  rw [List.mem_map]
  constructor
  · rintro ⟨k, h1, h2⟩; exact ⟨k, List.mem_range.1 h1, h2.symm⟩
  · rintro ⟨k, h1, h2⟩; exact ⟨k, List.mem_range.2 h1, h2.symm⟩
theorem start_node {k : Nat} (h : k < ins.length) : (if ins.getD k false = true then (k : Int) + 2 else -((k : Int) + 2)) = nodeL (valsF g ins) (k + 1) := by
  unfold nodeL
  rw [vals_in hc h]
  split <;> omega
theorem start_sok : ∀ x ∈ startF ins, sOk (nodesF g) x = true := fun x hx => by
  obtain ⟨k, h1, h2⟩ := start_mem.1 hx
  have := hc.ins
  have hn : nodesF g = 1 + g.inputs + (g.gates.length : Int) := rfl
  unfold sOk
  simp only [Bool.and_eq_true, decide_eq_true_eq]
  split at h2 <;> (subst h2; exact ⟨⟨by omega, by omega⟩, by omega⟩)
theorem child_up {x : Int} (h0 : 0 ≤ x) (hup : UP (clausesF g lits) (startF ins) (nodeL (valsF g ins) (x / 2).toNat)) :
    (evL (valsF g ins) x = true → UP (clausesF g lits) (startF ins) (litF x)) ∧ (evL (valsF g ins) x = false → UP (clausesF g lits) (startF ins) (-litF x)) := by
  have _h := hc
  exact ⟨fun h => by rw [(lit_node h0).1 h]; exact hup, fun h => by rw [(lit_node h0).2 h]; exact hup⟩
theorem node_up : ∀ (k : Nat), k < (valsF g ins).length → UP (clausesF g lits) (startF ins) (nodeL (valsF g ins) k) := by
  obtain ⟨b1, b2, b3, b4⟩ := gvB_bnd hc.v
  have hl := vals_len hc
  have hin := hc.ins
  have hn : nodesF g = 1 + g.inputs + (g.gates.length : Int) := rfl
  intro k
  induction k using Nat.strongRecOn with
  | _ k ih =>
    intro hk
    rcases Nat.eq_zero_or_pos k with rfl | hkp
    · have : nodeL (valsF g ins) 0 = -1 := by unfold nodeL; rw [vals_zero hc]; rfl
      rw [this]
      refine .unit (c := [-1]) (by unfold clausesF; simp) (by simp) fun y hy hne => absurd (List.mem_singleton.1 hy) hne
    · by_cases hki : k ≤ ins.length
      · obtain ⟨j, rfl⟩ : ∃ j, k = j + 1 := ⟨k - 1, by omega⟩
        rw [← start_node hc (show j < ins.length by omega)]
        exact .start (start_mem.2 ⟨j, by omega, rfl⟩)
      · obtain ⟨j, rfl⟩ : ∃ j, k = g.inputs.toNat + 1 + j := ⟨k - (g.inputs.toNat + 1), by omega⟩
        obtain ⟨x, hx⟩ := get_of_lt (show j < g.gates.length by omega)
        have hgk := gok hc hx
        have hob := okG_bnd (gate_at hc hx).1
        have hva := vals_at hc hx
        have hv : ((g.inputs.toNat + 1 + j : Nat) : Int) + 1 = g.inputs + 2 + (j : Int) := by omega
        have h0 := child_up hc (x := x.x0) (by omega) (ih _ (by omega) (by omega))
        have h1 := child_up hc (x := x.x1) (by omega) (ih _ (by omega) (by omega))
        have hin3 : ∀ c, c ∈ gateC (g.inputs + 2 + (j : Int)) x → c ∈ clausesF g lits := fun c hcm => by
          unfold clausesF
          exact List.mem_append_left _ (List.mem_append_right _ (mem_gatesC.2 ⟨j, x, hx, hcm⟩))
        unfold nodeL
        rw [hva, hv]
        cases e0 : evL (valsF g ins) x.x0 with
        | false =>
          simp only [Bool.false_and, Bool.false_eq_true, if_false]
          have hm := (gate_c1 hgk b3).2
          refine .unit (hin3 _ (by unfold gateC; simp)) ((hm _).2 (Or.inl rfl)) fun y hy hne => ?_
          rcases (hm y).1 hy with e | e
          · exact absurd e hne
          · rw [e]; exact h0.2 e0
        | true =>
          cases e1 : evL (valsF g ins) x.x1 with
          | false =>
            simp only [Bool.and_false, Bool.false_eq_true, if_false]
            have hm := (gate_c2 hgk b3).2
            refine .unit (hin3 _ (by unfold gateC; simp)) ((hm _).2 (Or.inl rfl)) fun y hy hne => ?_
            rcases (hm y).1 hy with e | e
            · exact absurd e hne
            · rw [e]; exact h1.2 e1
          | true =>
            simp only [Bool.and_self, if_true]
            have hm := (gate_c3 hgk b3).2
            refine .unit (hin3 _ (by unfold gateC; simp)) ((hm _).2 (Or.inl rfl)) fun y hy hne => ?_
            rcases (hm y).1 hy with e | e | e
            · exact absurd e hne
            · rw [e, Int.neg_neg]; exact h0.1 e0
            · rw [e, Int.neg_neg]; exact h1.1 e1
theorem lit_up {x : Int} (hx : 0 ≤ x ∧ x < 2 * nodesF g) : (evL (valsF g ins) x = true → litF x ∈ modelOf (valsF g ins)) ∧ (evL (valsF g ins) x = false → -litF x ∈ modelOf (valsF g ins) ∧ UP (clausesF g lits) (startF ins) (-litF x)) := by
  have hl := vals_len hc
  have hk : (x / 2).toNat < (valsF g ins).length := by omega
  exact ⟨fun h => by rw [(lit_node hx.1).1 h]; exact mod_mem hk, fun h => ⟨by rw [(lit_node hx.1).2 h]; exact mod_mem hk, (child_up hc hx.1 (node_up hc _ hk)).2 h⟩⟩
omit hc in
theorem sat_of {m c : List Int} (hm : MdL m) {y : Int} (hy : y ∈ c) (h : y ∈ m) : satB m c = true := by
  unfold satB
  rw [List.any_eq_true]
  exact ⟨y, hy, by simpa using (hm.at h).2⟩
theorem run_sat {c : List Int} (h : c = [-1] ∨ c ∈ gatesC (g.inputs + 2) g.gates) : satB (modelOf (valsF g ins)) c = true := by
  obtain ⟨b1, b2, b3, b4⟩ := gvB_bnd hc.v
  have hl := vals_len hc
  have hn : nodesF g = 1 + g.inputs + (g.gates.length : Int) := rfl
  have hM := mod_mdL (valsF g ins)
  rcases h with rfl | h
  · have : nodeL (valsF g ins) 0 = -1 := by unfold nodeL; rw [vals_zero hc]; rfl
    exact sat_of hM (y := -1) (by simp) (this ▸ mod_mem (by omega))
  · obtain ⟨j, x, hx, hcm⟩ := mem_gatesC.1 h
    have hgk := gok hc hx
    have hjl := len_lt hx
    have hob := okG_bnd (gate_at hc hx).1
    have hva := vals_at hc hx
    have hv : ((g.inputs.toNat + 1 + j : Nat) : Int) + 1 = g.inputs + 2 + (j : Int) := by omega
    have hnode : nodeL (valsF g ins) (g.inputs.toNat + 1 + j) ∈ modelOf (valsF g ins) := mod_mem (by omega)
    unfold nodeL at hnode
    rw [hva, hv] at hnode
    have h0 := lit_up hc (x := x.x0) ⟨by omega, by omega⟩
    have h1 := lit_up hc (x := x.x1) ⟨by omega, by omega⟩
    unfold gateC at hcm
    simp only [List.mem_cons, List.not_mem_nil, or_false] at hcm
    cases e0 : evL (valsF g ins) x.x0 with
    | false =>
      rw [e0] at hnode
      simp only [Bool.false_and, Bool.false_eq_true, if_false] at hnode
      rcases hcm with rfl | rfl | rfl
      · exact sat_of hM (((gate_c1 hgk b3).2 _).2 (Or.inl rfl)) hnode
      · exact sat_of hM (((gate_c2 hgk b3).2 _).2 (Or.inl rfl)) hnode
      · exact sat_of hM (((gate_c3 hgk b3).2 _).2 (Or.inr (Or.inl rfl))) (h0.2 e0).1
    | true =>
      cases e1 : evL (valsF g ins) x.x1 with
      | false =>
        rw [e0, e1] at hnode
        simp only [Bool.and_false, Bool.false_eq_true, if_false] at hnode
        rcases hcm with rfl | rfl | rfl
        · exact sat_of hM (((gate_c1 hgk b3).2 _).2 (Or.inl rfl)) hnode
        · exact sat_of hM (((gate_c2 hgk b3).2 _).2 (Or.inl rfl)) hnode
        · exact sat_of hM (((gate_c3 hgk b3).2 _).2 (Or.inr (Or.inr rfl))) (h1.2 e1).1
      | true =>
        rw [e0, e1] at hnode
        simp only [Bool.and_self, if_true] at hnode
        rcases hcm with rfl | rfl | rfl
        · exact sat_of hM (((gate_c1 hgk b3).2 _).2 (Or.inr rfl)) (h0.1 e0)
        · exact sat_of hM (((gate_c2 hgk b3).2 _).2 (Or.inr rfl)) (h1.1 e1)
        · exact sat_of hM (((gate_c3 hgk b3).2 _).2 (Or.inl rfl)) hnode
omit hc in
theorem mdF_of : ∀ (m : List Int) (t : Int), (∀ (i : Nat) x, m[i]? = some x → x = t + (i : Int) ∨ x = -(t + (i : Int))) → mdF t m = true
  | [], _, _ => rfl
  | x :: m, t, h => by
    unfold mdF
    rw [mdF_of m (t + 1) fun i y hy => by
      have := h (i + 1) y (by rw [List.getElem?_cons_succ]; exact hy)
      rw [show t + 1 + (i : Int) = t + ((i + 1 : Nat) : Int) by omega]; exact this]
    have := h 0 x rfl
    simp only [Bool.and_true, Bool.or_eq_true, decide_eq_true_eq]
    rcases this with h | h
    · exact Or.inl (by omega)
    · exact Or.inr (by omega)
theorem holds_run : holdsB ⟨nodesF g, clausesF g lits⟩ (modelOf (valsF g ins)) = lits.all (evL (valsF g ins)) := by
  have hl := vals_len hc
  have hM := mod_mdL (valsF g ins)
  unfold holdsB
  have hmd : mdF 1 (modelOf (valsF g ins)) = true := mdF_of _ 1 fun i x hx => by
    have := hM i x hx
    rcases this with h | h
    · exact Or.inl (by omega)
    · exact Or.inr (by omega)
  rw [cl_valid hc, hmd, decide_eq_true (show ((modelOf (valsF g ins)).length : Int) = (Formula.mk (nodesF g) (clausesF g lits)).vars by rw [mod_len]; exact hl)]
  simp only [Bool.true_and]
  rw [Bool.eq_iff_iff, List.all_eq_true, List.all_eq_true]
  constructor
  · intro h x hx
    have hs := h [litF x] (by unfold clausesF; exact List.mem_append_right _ (List.mem_map.2 ⟨x, hx, rfl⟩))
    obtain ⟨y, hy, hym⟩ := sat_mem hs
    rw [List.mem_singleton] at hy
    subst hy
    cases e : evL (valsF g ins) x with
    | true => rfl
    | false => exact (hM.opp hym ((lit_up hc (hc.good x hx)).2 e).1).elim
  · intro h c hcm
    unfold clausesF at hcm
    simp only [List.mem_append, List.mem_singleton, List.mem_map] at hcm
    rcases hcm with hcm | ⟨x, hx, rfl⟩
    · exact run_sat hc hcm
    · exact sat_of hM (List.mem_singleton.2 rfl) ((lit_up hc (hc.good x hx)).1 (h x hx))
theorem start_in : ∀ x ∈ startF ins, x ∈ modelOf (valsF g ins) := fun x hx => by
  obtain ⟨k, h1, h2⟩ := start_mem.1 hx
  have hl := vals_len hc
  have hin := hc.ins
  have hn : nodesF g = 1 + g.inputs + (g.gates.length : Int) := rfl
  rw [h2, start_node hc h1]
  exact mod_mem (by omega)
theorem prop_run {r : List Int × Bool × Int} (h : PropOk ⟨nodesF g, clausesF g lits⟩ (startF ins) r) :
    (lits.all (evL (valsF g ins)) = true → r = (modelOf (valsF g ins), true, 0)) ∧ (lits.all (evL (valsF g ins)) = false → r.2.1 = false ∧ r.2.2 = 0) := by
  have hv := cl_valid hc
  have hs := start_sok hc
  have hM := mod_mdL (valsF g ins)
  constructor
  · intro hall
    have hhold := holds_run hc
    rw [hall] at hhold
    unfold holdsB at hhold
    simp only [Bool.and_eq_true, List.all_eq_true] at hhold
    have hF := hhold.2
    refine h.eq ?_
    unfold PropOk
    rw [if_pos ⟨hv, hs⟩]
    refine ⟨rfl, Or.inl ⟨rfl, model_ok hM (start_in hc) hF, ?_, fun x => ⟨fun hx => ?_, fun hx => model_up hM (start_in hc) hF hx⟩⟩⟩
    · show (modelOf (valsF g ins)).Pairwise fun x y => vr x < vr y
      unfold modelOf
      rw [List.pairwise_map]
      refine (List.pairwise_lt_range).imp fun {a b} hab => ?_
      have e : ∀ k, vr (nodeL (valsF g ins) k) = (k : Int) + 1 := fun k => by
        rcases nodeL_or (valsF g ins) k with e | e <;> rw [e] <;> unfold vr <;> omega
      rw [e, e]; omega
    · obtain ⟨k, hk⟩ := List.getElem?_of_mem hx
      have hkl := len_lt hk
      rw [mod_len] at hkl
      rw [mod_get hkl] at hk
      simp only [Option.some.injEq] at hk
      rw [← hk]
      exact node_up hc k hkl
  · intro hall
    obtain ⟨x, hx, he⟩ : ∃ x ∈ lits, evL (valsF g ins) x = false := by
      have := List.all_eq_false.1 hall
      obtain ⟨x, hx, hb⟩ := this
      exact ⟨x, hx, by simpa using hb⟩
    unfold PropOk at h
    rw [if_pos ⟨hv, hs⟩] at h
    refine ⟨?_, h.1⟩
    rcases h.2 with ⟨_, hnf, _⟩ | ⟨h1, _⟩
    · refine absurd (Or.inr ⟨[litF x], ?_, fun y hy => ?_⟩) hnf
      · show [litF x] ∈ clausesF g lits
        unfold clausesF; exact List.mem_append_right _ (List.mem_map.2 ⟨x, hx, rfl⟩)
      · rw [List.mem_singleton.1 hy]; exact ((lit_up hc (hc.good x hx)).2 he).2
    · exact h1
end
end Go.Proofs.YtelioaepnpnojaaGreatDoor

/- CnfCircuits: Eval runs the circuit; the law. -/
set_option linter.unusedVariables false
set_option linter.unusedSimpArgs false
namespace Go.Proofs.YtelioaepnpnojaaGreatDoor
open Go.RowKit Go.Lib
theorem known_ok {g : Gates} {lits : List Int} (hg : g.gates.length ≤ 1000) (hl : lits.length ≤ 1000000) : m_gates_known g lits = some (gvB g && !lits.any (badL (nodesF g))) := by
  unfold m_gates_known
  rw [gates_valid (by omega), bsm]
  by_cases hv : gvB g = true
  · obtain ⟨b1, b2, b3, b4⟩ := gvB_bnd hv
    have hn : nodesF g = 1 + g.inputs + (g.gates.length : Int) := rfl
    have e1 : inK .i64 (1 + g.inputs) = some (1 + g.inputs) := inK_eq ⟨by omega, by omega⟩
    have e2 : inK .i64 (1 + g.inputs + (g.gates.length : Int)) = some (nodesF g) := inK_eq ⟨by omega, by omega⟩
    have e3 : inK .i64 (2 * nodesF g) = some (2 * nodesF g) := inK_eq ⟨by omega, by omega⟩
    have e4 : m_gates_nodes g = some (nodesF g) := by unfold m_gates_nodes; rw [e1, bsm, e2, bsm]
    have h : m_gates_Builder_literal ⟨g, [], 0⟩ lits = some (!lits.any (badL (nodesF g))) := by
      unfold m_gates_Builder_literal
      refine bind_any lits (badL (nodesF g)) (Out.ret false) (Out.brk ()) ?_ ?_ ?_
      · intro k a hk
        have hkl := len_lt hk
        simp only [m_gates_Builder_literal_lp1, ltB hkl, if_true, idx_nat hk, bsm, e4, e3, inK_up hkl (show lits.length ≤ 9223372036854775807 by omega), badL]
        by_cases h0 : a < 0
        · simp [h0]
        · by_cases h1 : 2 * nodesF g ≤ a <;> simp [h0, h1]
      · simp only [m_gates_Builder_literal_lp1, ltB', if_false, Bool.false_eq_true]
      · cases lits.any (badL (nodesF g)) <;> rfl
    rw [if_pos hv, h, bsm, bsm, hv, Bool.true_and]
  · have hv' : gvB g = false := by simpa using hv
    rw [if_neg hv, bsm, hv', Bool.false_and]
theorem eval1_ok {vals : List Bool} {x : Int} (h0 : 0 ≤ x) (h1 : x < 2 * (vals.length : Int)) (hl : vals.length ≤ 1000000) : m_gates_Eval_1 x vals = some (evL vals x) := by
  obtain ⟨b, hb⟩ := get_of_lt (show (x / 2).toNat < vals.length by omega)
  have e1 : idx vals (x / 2) = some b := idx_of (by omega) hb
  have e2 : vals.getD (x / 2).toNat false = b := by rw [List.getD_eq_getElem?_getD, hb]; rfl
  simp only [m_gates_Eval_1, quoK_pos h0 (show (0 : Int) < 2 by decide) (show x ≤ 9223372036854775807 by omega), bsm, e1, remK_pos h0 (show (0 : Int) < 2 by decide)]
  unfold evL
  rw [e2]
theorem runG_snoc : ∀ (l : List Arr2) (x : Arr2) (vals : List Bool), runG vals (l ++ [x]) = runG vals l ++ [evL (runG vals l) x.x0 && evL (runG vals l) x.x1]
  | [], x, vals => rfl
  | y :: l, x, vals => by rw [List.cons_append]; unfold runG; exact runG_snoc l x _
theorem eval_loop {g : Gates} {vals : List Bool} (hk : Kids vals.length g.gates) (hg : g.gates.length ≤ 1000) (hv : vals.length ≤ 100000) :
    loopM (fun s : Int × List Bool => m_gates_Eval_lp1 g s.1 s.2) (0, vals) = some (runG vals g.gates) := by
  have h : ∃ b, loopM (fun s : Int × List Bool => m_gates_Eval_lp1 g s.1 s.2) (0, vals) = some b ∧ b = runG vals g.gates := by
    refine loopN (body := fun s : Int × List Bool => m_gates_Eval_lp1 g s.1 s.2) g.gates.length (fun k t => ((k : Int), t)) (fun k t => t = runG vals (g.gates.take k)) _ (t0 := vals) rfl rfl ?_ ?_
    · rintro k t hkl rfl
      obtain ⟨x, hx⟩ := get_of_lt hkl
      have hkk := hk k x hx
      have hlen : (runG vals (g.gates.take k)).length = vals.length + k := by rw [runG_len, List.length_take]; omega
      have e0 : m_gates_Eval_1 x.x0 (runG vals (g.gates.take k)) = some (evL (runG vals (g.gates.take k)) x.x0) := eval1_ok hkk.1 (by rw [hlen]; exact hkk.2.1) (by omega)
      have e1 : m_gates_Eval_1 x.x1 (runG vals (g.gates.take k)) = some (evL (runG vals (g.gates.take k)) x.x1) := eval1_ok hkk.2.2.1 (by rw [hlen]; exact hkk.2.2.2) (by omega)
      have hm : ((if evL (runG vals (g.gates.take k)) x.x0 = true then (m_gates_Eval_1 x.x1 (runG vals (g.gates.take k))).bind fun x5 => some x5 else some false) : Option Bool) = some (evL (runG vals (g.gates.take k)) x.x0 && evL (runG vals (g.gates.take k)) x.x1) := by
        rw [e1, bsm]
        cases evL (runG vals (g.gates.take k)) x.x0 <;> rfl
      refine Or.inl ⟨_, ?_, rfl⟩
      have e2 : app (runG vals (g.gates.take k)) [evL (runG vals (g.gates.take k)) x.x0 && evL (runG vals (g.gates.take k)) x.x1] = some (runG vals (g.gates.take (k + 1))) := by
        rw [app_ok (by simp only [List.length_singleton]; omega), take_snoc_of hx, runG_snoc]
      simp only [m_gates_Eval_lp1, ltB hkl, if_true, idx_nat hx, bsm, e0]
      rw [hm, bsm, e2, bsm, inK_up hkl (by omega), bsm]
    · rintro t rfl
      exact ⟨_, by simp only [m_gates_Eval_lp1, ltB', if_false, Bool.false_eq_true, List.take_length], rfl⟩
  obtain ⟨b, hb, rfl⟩ := h
  exact hb
theorem outs_loop {lits : List Int} {vals : List Bool} (h : ∀ x ∈ lits, 0 ≤ x ∧ x < 2 * (vals.length : Int)) (hl : lits.length ≤ 1000000) (hv : vals.length ≤ 1000000) :
    loopM (fun s : Int × List Bool => m_gates_Eval_lp2 lits vals s.1 s.2) (0, []) = some (lits.map (evL vals)) := by
  have h : ∃ b, loopM (fun s : Int × List Bool => m_gates_Eval_lp2 lits vals s.1 s.2) (0, []) = some b ∧ b = lits.map (evL vals) := by
    refine loopN (body := fun s : Int × List Bool => m_gates_Eval_lp2 lits vals s.1 s.2) lits.length (fun k t => ((k : Int), t)) (fun k t => t = (lits.take k).map (evL vals)) _ (t0 := []) rfl rfl ?_ ?_
    · rintro k t hkl rfl
      obtain ⟨x, hx⟩ := get_of_lt hkl
      have hb := h x (mem_get hx)
      have e2 : app ((lits.take k).map (evL vals)) [evL vals x] = some ((lits.take (k + 1)).map (evL vals)) := by
        rw [app_ok (by simp only [List.length_map, List.length_take, List.length_singleton]; omega), take_snoc_of hx, List.map_append]; rfl
      exact Or.inl ⟨_, by simp only [m_gates_Eval_lp2, ltB hkl, if_true, idx_nat hx, bsm, eval1_ok hb.1 hb.2 hv, e2, inK_up hkl (show lits.length ≤ 9223372036854775807 by omega)], rfl⟩
    · rintro t rfl
      exact ⟨_, by simp only [m_gates_Eval_lp2, ltB', if_false, Bool.false_eq_true, List.take_length], rfl⟩
  obtain ⟨b, hb, rfl⟩ := h
  exact hb
theorem eval_ok {g : Gates} {lits : List Int} {ins : List Bool} (hg : g.gates.length ≤ 1000) (hv : gvB g = true) (hi : (ins.length : Int) = g.inputs) (hl : lits.length ≤ 1000000) (hgood : ∀ x ∈ lits, 0 ≤ x ∧ x < 2 * nodesF g) :
    m_gates_Eval g ins lits = some (lits.map (evL (valsF g ins)), 0) := by
  obtain ⟨b1, b2, b3, b4⟩ := gvB_bnd hv
  have hc : CirOk g [] ins := ⟨hv, by simp, hi, hg, by simp⟩
  have hno : lits.any (badL (nodesF g)) = false := by
    rw [List.any_eq_false]
    intro x hx
    have := hgood x hx
    unfold badL
    simp only [Bool.or_eq_true, decide_eq_true_eq]
    omega
  have hvl := vals_len hc
  unfold m_gates_Eval
  rw [known_ok hg hl, bsm, hv, hno]
  rw [if_neg (by simp [hi]), app_ok (by simp only [List.length_singleton]; omega), bsm, eval_loop (kids_ok hc) hg (by simp; omega), bsm, show runG ([false] ++ ins) g.gates = valsF g ins from rfl, outs_loop (vals := valsF g ins) (fun x hx => by rw [hvl]; exact hgood x hx) hl (by omega), bsm]
theorem eval_bad {g : Gates} {lits : List Int} {ins : List Bool} (hg : g.gates.length ≤ 1000) (hl : lits.length ≤ 1000000) (h : (gvB g && !lits.any (badL (nodesF g))) = false) : m_gates_Eval g ins lits = some ([], 1) := by
  unfold m_gates_Eval
  rw [known_ok hg hl, bsm, h]
  rw [if_pos (by simp)]
theorem inputs_loop {ins : List Bool} (hl : ins.length ≤ 100000) : loopM (fun s : Int × List Int => m_assessorlaw26_CnfCircuits_lp1 ins s.1 s.2) (0, []) = some (startF ins) := by
  have h : ∃ b, loopM (fun s : Int × List Int => m_assessorlaw26_CnfCircuits_lp1 ins s.1 s.2) (0, []) = some b ∧ b = startF ins := by
    refine loopN (body := fun s : Int × List Int => m_assessorlaw26_CnfCircuits_lp1 ins s.1 s.2) ins.length (fun k t => ((k : Int), t)) (fun k t => t = (List.range k).map fun k => if ins.getD k false = true then (k : Int) + 2 else -((k : Int) + 2)) _ (t0 := []) rfl rfl ?_ ?_
    · rintro k t hkl rfl
      obtain ⟨b, hb⟩ := get_of_lt hkl
      have hg : ins.getD k false = b := by rw [List.getD_eq_getElem?_getD, hb]; rfl
      have e1 : inK .i64 ((k : Int) + 1) = some ((k + 1 : Nat) : Int) := inK_up hkl (by omega)
      have e2 : inK .i64 (2 * ((k + 1 : Nat) : Int)) = some (2 * ((k + 1 : Nat) : Int)) := inK_eq ⟨by omega, by omega⟩
      have e3 : inK .i64 (2 * ((k + 1 : Nat) : Int) + 1) = some (2 * ((k + 1 : Nat) : Int) + 1) := inK_eq ⟨by omega, by omega⟩
      have e4 : m_cnf_Literal (2 * ((k + 1 : Nat) : Int)) = some ((k : Int) + 2) := by
        rw [cnf_literal (by omega)]; unfold litF; rw [if_neg (by omega), if_pos (by omega)]; congr 1; omega
      have e5 : m_cnf_Literal (2 * ((k + 1 : Nat) : Int) + 1) = some (-((k : Int) + 2)) := by
        rw [cnf_literal (by omega)]; unfold litF; rw [if_neg (by omega), if_neg (by omega)]; congr 1; omega
      refine Or.inl ⟨_, ?_, rfl⟩
      have e6 : ∀ y : Int, app ((List.range k).map fun k => if ins.getD k false = true then (k : Int) + 2 else -((k : Int) + 2)) [y] = some (((List.range k).map fun k => if ins.getD k false = true then (k : Int) + 2 else -((k : Int) + 2)) ++ [y]) := fun y =>
        app_ok (by simp only [List.length_map, List.length_range, List.length_singleton]; omega)
      rw [List.range_succ, List.map_append]
      simp only [List.map_cons, List.map_nil, hg]
      cases b with
      | true => simp only [m_assessorlaw26_CnfCircuits_lp1, ltB hkl, if_true, idx_nat hb, bsm, e1, e2, Bool.not_true, Bool.false_eq_true, if_false, e4, e6]
      | false => simp only [m_assessorlaw26_CnfCircuits_lp1, ltB hkl, if_true, idx_nat hb, bsm, e1, e2, e3, Bool.not_false, Bool.false_eq_true, if_false, e5, e6]
    · rintro t rfl
      exact ⟨_, by simp only [m_assessorlaw26_CnfCircuits_lp1, ltB', if_false, Bool.false_eq_true]; rfl, rfl⟩
  obtain ⟨b, hb, rfl⟩ := h
  exact hb
theorem nodes_loop {n : Nat} (hn : n ≤ 100000) : loopM (fun s : Int × List Int => m_assessorlaw26_CnfCircuits_lp2 (n : Int) s.1 s.2) (0, []) = some ((List.range n).map fun k : Nat => 2 * (k : Int)) := by
  have h : ∃ b, loopM (fun s : Int × List Int => m_assessorlaw26_CnfCircuits_lp2 (n : Int) s.1 s.2) (0, []) = some b ∧ b = (List.range n).map fun k : Nat => 2 * (k : Int) := by
    refine loopN (body := fun s : Int × List Int => m_assessorlaw26_CnfCircuits_lp2 (n : Int) s.1 s.2) n (fun k t => ((k : Int), t)) (fun k t => t = (List.range k).map fun k : Nat => 2 * (k : Int)) _ (t0 := []) rfl rfl ?_ ?_
    · rintro k t hkl rfl
      have e1 : inK .i64 (2 * (k : Int)) = some (2 * (k : Int)) := inK_eq ⟨by omega, by omega⟩
      have e2 : app ((List.range k).map fun k : Nat => 2 * (k : Int)) [2 * (k : Int)] = some ((List.range (k + 1)).map fun k : Nat => 2 * (k : Int)) := by
        rw [app_ok (by simp only [List.length_map, List.length_range, List.length_singleton]; omega), List.range_succ, List.map_append]; rfl
      exact Or.inl ⟨_, by simp only [m_assessorlaw26_CnfCircuits_lp2, ltB hkl, if_true, bsm, e1, e2, inK_up hkl (show n ≤ 9223372036854775807 by omega)], rfl⟩
    · rintro t rfl
      exact ⟨_, by simp only [m_assessorlaw26_CnfCircuits_lp2, ltB', if_false, Bool.false_eq_true], rfl⟩
  obtain ⟨b, hb, rfl⟩ := h
  exact hb
theorem model_loop {vals : List Bool} (e : Int) (hl : vals.length ≤ 100000) : loopM (fun s : Int × List Int => m_assessorlaw26_CnfCircuits_lp3 (vals, e) s.1 s.2) (0, []) = some (modelOf vals) := by
  have h : ∃ b, loopM (fun s : Int × List Int => m_assessorlaw26_CnfCircuits_lp3 (vals, e) s.1 s.2) (0, []) = some b ∧ b = modelOf vals := by
    refine loopN (body := fun s : Int × List Int => m_assessorlaw26_CnfCircuits_lp3 (vals, e) s.1 s.2) vals.length (fun k t => ((k : Int), t)) (fun k t => t = (List.range k).map (nodeL vals)) _ (t0 := []) rfl rfl ?_ ?_
    · rintro k t hkl rfl
      obtain ⟨b, hb⟩ := get_of_lt hkl
      have hg : vals.getD k false = b := by rw [List.getD_eq_getElem?_getD, hb]; rfl
      have e1 : inK .i64 ((k : Int) + 1) = some ((k + 1 : Nat) : Int) := inK_up hkl (by omega)
      have e2 : inK .i64 (0 - (k : Int)) = some (-(k : Int)) := inK_at (by omega) ⟨by omega, by omega⟩
      have e3 : inK .i64 (-(k : Int) - 1) = some (-((k : Int) + 1)) := inK_at (by omega) ⟨by omega, by omega⟩
      have e6 : ∀ y : Int, app ((List.range k).map (nodeL vals)) [y] = some (((List.range k).map (nodeL vals)) ++ [y]) := fun y =>
        app_ok (by simp only [List.length_map, List.length_range, List.length_singleton]; omega)
      refine Or.inl ⟨_, ?_, rfl⟩
      rw [List.range_succ, List.map_append]
      simp only [List.map_cons, List.map_nil, nodeL, hg]
      cases b with
      | true => simp only [m_assessorlaw26_CnfCircuits_lp3, ltB hkl, if_true, idx_nat hb, bsm, e1, ← nodeL.eq_1, e6]; rfl
      | false => simp only [m_assessorlaw26_CnfCircuits_lp3, ltB hkl, if_true, idx_nat hb, bsm, e1, e2, e3, Bool.false_eq_true, if_false, ← nodeL.eq_1, e6]
    · rintro t rfl
      exact ⟨_, by simp only [m_assessorlaw26_CnfCircuits_lp3, ltB', if_false, Bool.false_eq_true]; rfl, rfl⟩
  obtain ⟨b, hb, rfl⟩ := h
  exact hb
theorem vals_back (vals : List Bool) : ((List.range vals.length).map fun k : Nat => 2 * (k : Int)).map (evL vals) = vals := by
  apply List.ext_getElem?
  intro k
  by_cases hk : k < vals.length
  · obtain ⟨b, hb⟩ := get_of_lt hk
    rw [List.getElem?_map, List.getElem?_map, List.getElem?_range hk, hb]
    have hg : vals.getD k false = b := by rw [List.getD_eq_getElem?_getD, hb]; rfl
    show some (evL vals (2 * (k : Int))) = some b
    unfold evL
    rw [show (2 * (k : Int) / 2).toNat = k by omega, hg, decide_eq_false (show ¬ 2 * (k : Int) % 2 = 1 by omega)]
    cases b <;> rfl
  · rw [List.getElem?_eq_none (by simp; omega), List.getElem?_eq_none (by omega)]
theorem law_CnfCircuits (p0 : Gates) (p1 : List Int) (p2 : List Bool) (h0 : GWf p0) (h1 : LW I64 p1) (h2 : LW (fun _ => True) p2) : m_assessorlaw26_CnfCircuits p0 p1 p2 = some true := by
  unfold m_assessorlaw26_CnfCircuits
  rw [awake_true, bsm, if_neg (by decide)]
  by_cases hs : ((((decide (40 < (p0.gates.length : Int))) || (decide (40 < (p1.length : Int)))) || (decide (10 < p0.inputs))) || (!decide ((p2.length : Int) = p0.inputs))) = true
  · rw [if_pos hs]
  rw [if_neg hs]
  simp only [Bool.or_eq_true, decide_eq_true_eq, not_or, Bool.not_eq_true', decide_eq_false_iff_not, Classical.not_not] at hs
  obtain ⟨⟨⟨hg, hl⟩, hi10⟩, hi⟩ := hs
  have hi64 : ∀ x ∈ p1, x ≤ 9223372036854775807 := fun x hx => (h1.2 x hx).2
  rw [cnf_translate (by omega) (by omega) hi64, bsm]
  by_cases hk : (gvB p0 && !p1.any (badL (nodesF p0))) = true
  · simp only [Bool.and_eq_true, Bool.not_eq_true'] at hk
    obtain ⟨hv, hno⟩ := hk
    have hgood : ∀ x ∈ p1, 0 ≤ x ∧ x < 2 * nodesF p0 := fun x hx => by
      have := List.any_eq_false.1 hno x hx
      unfold badL at this
      simp only [Bool.or_eq_true, decide_eq_true_eq, not_or] at this
      omega
    have hc : CirOk p0 p1 p2 := ⟨hv, hgood, hi, by omega, by omega⟩
    have hvl := vals_len hc
    obtain ⟨b1, b2, b3, b4⟩ := gvB_bnd hv
    have hnd : nodesF p0 = 1 + p0.inputs + (p0.gates.length : Int) := rfl
    have htr : trF p0 p1 = (⟨nodesF p0, clausesF p0 p1⟩, 0) := by
      unfold trF clausesF; rw [if_pos hv, if_neg (by simp [hno])]
    have hn24 : m_assessorref24_Nodes p0 = some (((valsF p0 p2).length : Nat) : Int) := by
      unfold m_assessorref24_Nodes
      rw [inK_eq ⟨by omega, by omega⟩, bsm, inK_eq ⟨by omega, by omega⟩, bsm, hvl, hnd]
    have hflen : FLen (clausesF p0 p1) := by
      refine ⟨?_, fun c hcm => ?_⟩
      · unfold clausesF
        simp only [List.length_append, gatesC_len, List.length_map, List.length_singleton]; omega
      · unfold clausesF at hcm
        simp only [List.mem_append, List.mem_singleton, List.mem_map] at hcm
        rcases hcm with (rfl | hcm) | ⟨x, _, rfl⟩
        · simp
        · exact gatesC_short _ _ c hcm
        · simp
    have hc4 : ∀ c ∈ clausesF p0 p1, c.length ≤ 4294967296 := fun c hcm => by
      unfold clausesF at hcm
      simp only [List.mem_append, List.mem_singleton, List.mem_map] at hcm
      rcases hcm with (rfl | hcm) | ⟨x, _, rfl⟩
      · simp
      · obtain ⟨j, x, _, h⟩ := mem_gatesC.1 hcm
        unfold gateC at h
        simp only [List.mem_cons, List.not_mem_nil, or_false] at h
        rcases h with rfl | rfl | rfl
        · have := normF_len [-(p0.inputs + 2 + (j : Int)), litF x.x0]; simp only [List.length_cons, List.length_nil] at this; omega
        · have := normF_len [-(p0.inputs + 2 + (j : Int)), litF x.x1]; simp only [List.length_cons, List.length_nil] at this; omega
        · have := normF_len [p0.inputs + 2 + (j : Int), -litF x.x0, -litF x.x1]; simp only [List.length_cons, List.length_nil] at this; omega
      · simp
    have hsl : (startF p2).length ≤ 4294967296 := by unfold startF; simp; omega
    obtain ⟨r, e1, q1⟩ := cnf_propagate (f := ⟨nodesF p0, clausesF p0 p1⟩) (S := startF p2) hflen hsl (fun x hx => by
      have := sOk_lit (start_sok hc x hx); omega) hc4
    have hp := prop_run hc q1
    have hh := holds_run hc
    have hx25 : decide (false ∈ p1.map (evL (valsF p0 p2))) = !p1.all (evL (valsF p0 p2)) := by
      rw [Bool.eq_iff_iff, decide_eq_true_eq, Bool.not_eq_true', List.all_eq_false, List.mem_map]
      constructor
      · rintro ⟨x, hx, he⟩; exact ⟨x, hx, by simp [he]⟩
      · rintro ⟨x, hx, he⟩; exact ⟨x, hx, by simpa using he⟩
    have hb6 : ∀ x ∈ (List.range (valsF p0 p2).length).map (fun k : Nat => 2 * (k : Int)), 0 ≤ x ∧ x < 2 * nodesF p0 := fun x hx => by
      obtain ⟨k, hk, rfl⟩ := List.mem_map.1 hx
      have := List.mem_range.1 hk
      omega
    rw [eval_ok (by omega) hv hi (by omega) hgood, bsm, htr, if_neg (by simp), inputs_loop (by omega), bsm, hn24, bsm, nodes_loop (by omega), bsm,
      eval_ok (by omega) hv hi (by simp; omega) hb6, bsm, vals_back, model_loop 0 (by omega), bsm, e1, bsm, contains_bool _ _ (by simp; omega), bsm, hx25, Bool.not_not]
    cases hall : p1.all (evL (valsF p0 p2)) with
    | true =>
      rw [hall] at hh
      rw [hp.1 hall]
      rw [if_pos (by simp), cnf_holds hflen, hh, bsm, bsm, if_pos (by simp), if_neg (by simp), lists_equal _ _ (by rw [mod_len]; omega), bsm, bsm, bsm]
      simp
    | false =>
      rw [hall] at hh
      obtain ⟨r1, r2⟩ := hp.2 hall
      rw [if_pos (by simp [r1, r2]), cnf_holds hflen, hh, bsm, bsm, if_pos (by simp), if_pos (by simp), bsm, bsm]
  · have hk' : (gvB p0 && !p1.any (badL (nodesF p0))) = false := by simpa using hk
    have htr : trF p0 p1 = (⟨0, []⟩, 1) := by
      unfold trF
      by_cases hv : gvB p0 = true
      · rw [if_pos hv, if_pos (by rw [hv] at hk'; simpa using hk')]
      · rw [if_neg hv]
    rw [eval_bad (by omega) (by omega) hk', bsm, htr, if_pos (by simp)]
    rfl
end Go.Proofs.YtelioaepnpnojaaGreatDoor
