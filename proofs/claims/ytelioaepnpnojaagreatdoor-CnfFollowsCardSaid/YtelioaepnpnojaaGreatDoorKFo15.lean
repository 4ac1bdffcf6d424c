/- The laws that compare the program's functions with the reference's. -/
import Derived.Test.YtelioaepnpnojaaGreatDoorKFo13
import Derived.Test.YtelioaepnpnojaaGreatDoorKFo14
import Derived.Test.YtelioaepnpnojaaGreatDoorKFo3
import Derived.Test.YtelioaepnpnojaaGreatDoorKFo4
set_option linter.unusedVariables false
set_option linter.unusedSimpArgs false
namespace Go.Proofs.YtelioaepnpnojaaGreatDoor
open Go.RowKit Go.Lib
def exF : Formula := ⟨4, [[-1], [2, -4], [-3, -4], [-2, 3, 4], [4]]⟩
theorem ex_tr : trF ⟨2, [⟨2, 5⟩]⟩ [6] = (exF, 0) := by decide +kernel
theorem ex_valid : validB exF = true := by decide +kernel
theorem ex_fit : FLen exF.clauses := ⟨by decide, by decide⟩
theorem ex_lits : Lits exF.vars exF.clauses [2, -3] := valid_lits ex_valid (by decide)
theorem ex_vo : ValOk exF.vars exF.clauses [2, -3] [0, -1, 2, -3, 4] := by
  refine ⟨rfl, fun v x h => ?_, fun v x h h0 => ?_⟩
  · match v, h with
    | 0, h => simp at h; exact Or.inl h.symm
    | 1, h => simp at h; subst h; exact Or.inr ⟨by decide, rfl⟩
    | 2, h => simp at h; subst h; exact Or.inr ⟨by decide, rfl⟩
    | 3, h => simp at h; subst h; exact Or.inr ⟨by decide, rfl⟩
    | 4, h => simp at h; subst h; exact Or.inr ⟨by decide, rfl⟩
    | n + 5, h => simp at h
  · match v, h with
    | 0, h => simp at h; exact absurd h.symm h0
    | 1, h => simp at h; subst h; exact .unit (c := [-1]) (by decide) (by decide) (fun y hy hn => absurd (List.mem_singleton.1 hy) hn)
    | 2, h => simp at h; subst h; exact .start (by decide)
    | 3, h => simp at h; subst h; exact .start (by decide)
    | 4, h => simp at h; subst h; exact .unit (c := [4]) (by decide) (by decide) (fun y hy hn => absurd (List.mem_singleton.1 hy) hn)
    | n + 5, h => simp at h
theorem ex_st : ∀ l ∈ ([2, -3] : List Int), gv [0, -1, 2, -3, 4] l = some l := by decide
theorem ex_good : ∀ c ∈ exF.clauses, Good [0, -1, 2, -3, 4] c := by
  intro c hc
  have hc : c ∈ [[-1], [2, -4], [-3, -4], [-2, 3, 4], [4]] := hc
  simp only [List.mem_cons, List.not_mem_nil, or_false] at hc
  rcases hc with rfl | rfl | rfl | rfl | rfl
  · exact Or.inl ⟨-1, by decide, by decide⟩
  · exact Or.inl ⟨2, by decide, by decide⟩
  · exact Or.inl ⟨-3, by decide, by decide⟩
  · exact Or.inl ⟨4, by decide, by decide⟩
  · exact Or.inl ⟨4, by decide, by decide⟩
theorem ex_prop : PropOk exF [2, -3] ([-1, 2, -3, 4], true, 0) := by
  unfold PropOk
  rw [if_pos ⟨ex_valid, by decide⟩]
  refine ⟨rfl, Or.inl ⟨rfl, closed_ok ex_lits ex_vo ex_st ex_good, by decide, fun x => ⟨fun h => ?_, fun h => ?_⟩⟩⟩
  · simp only [List.mem_cons, List.not_mem_nil, or_false] at h
    rcases h with rfl | rfl | rfl | rfl
    · exact ex_vo.sound 1 (-1) rfl (by decide)
    · exact ex_vo.sound 2 2 rfl (by decide)
    · exact ex_vo.sound 3 (-3) rfl (by decide)
    · exact ex_vo.sound 4 4 rfl (by decide)
  · have h1 := closed_up ex_lits ex_vo ex_st ex_good h
    have h2 := (h.lit ex_lits).1
    unfold gv at h1
    generalize (vr x).toNat = v at h1
    match v, h1 with
    | 0, h => simp at h; exact absurd h.symm h2
    | 1, h => simp at h; subst h; simp
    | 2, h => simp at h; subst h; simp
    | 3, h => simp at h; subst h; simp
    | 4, h => simp at h; subst h; simp
    | n + 5, h => simp at h
def exG : Formula := ⟨2, [[1, -2]]⟩
theorem itoa_dig {n : Int} (h0 : 0 ≤ n) (h : n < 10) : itoa n = [UInt8.ofNat (48 + n.toNat)] := by
  unfold itoa; rw [if_neg (by omega), dd_small (by omega)]
theorem ex_txt : fmtL exG = [112, 32, 99, 110, 102, 32, 50, 32, 49, 10, 49, 32, 45, 50, 32, 48, 10] := by
  have h1 : itoa 1 = [49] := itoa_dig (by decide) (by decide)
  have h2 : itoa 2 = [50] := itoa_dig (by decide) (by decide)
  have h3 : itoa (-2) = [45, 50] := by unfold itoa; rw [if_pos (by decide), show (-2 : Int).natAbs = 2 from rfl, dd_small (by decide)]; rfl
  unfold fmtL headL exG
  simp [lineL, litL, h1, h2, h3]
theorem ex_gfit : Fits exG.clauses := ⟨by decide, by decide⟩
theorem ex_gvalid : validB exG = true := by decide +kernel
theorem awake_true : m_assessorlaw26_awake = some true := by
  unfold m_assessorlaw26_awake
  rw [cnf_translate (by decide) (by decide) (by decide), bsm, ex_tr]
  obtain ⟨r, h1, h2⟩ := cnf_propagate (f := exF) (S := [2, -3]) ex_fit (by decide) (by decide) (by decide)
  rw [h2.eq ex_prop] at h1
  obtain ⟨q, h3, h4⟩ := cnf_parse (l := [112, 32, 99, 110, 102, 32, 50, 32, 49, 10, 49, 32, 45, 50, 32, 48, 10]) (by decide)
  rw [← ex_txt] at h3 h4
  rw [h4.eq (ParseSpec.fmt ex_gvalid ex_gfit)] at h3
  have e1 : (ByteArray.mk #[112, 32, 99, 110, 102, 32, 50, 32, 49, 10, 49, 32, 45, 50, 32, 48, 10]) = bs (fmtL exG) := by rw [ex_txt]; rfl
  have e2 : fmtB exG = bs (fmtL exG) := by unfold fmtB; rw [if_pos ex_gvalid]
  have n1 : m_cnf_Normal [3, -2, 3] = some ([-2, 3], true) := by rw [cnf_Normal (by decide)]; decide +kernel
  have c1 : m_assessorref26_Clauses exF.clauses [[-1], [2, -4], [-3, -4], [-2, 3, 4], [4]] = some true := by rw [clauses_equal _ _ ex_fit]; rfl
  have l1 : m_slices_Equal_int_int_ [-1, 2, -3, 4] [-1, 2, -3, 4] = some true := by rw [lists_equal _ _ (by decide)]; rfl
  have l2 : m_slices_Equal_int_int_ [-2, 3] [-2, 3] = some true := by rw [lists_equal _ _ (by decide)]; rfl
  have v1 : m_cnf_Valid exF = some true := by rw [cnf_valid ex_fit, ex_valid]
  have o1 : m_cnf_Holds exF [-1, 2, -3, 4] = some true := by rw [cnf_holds ex_fit]; decide +kernel
  have t1 : m_cnf_Literal 5 = some (-3) := by rw [cnf_literal (by decide)]; rfl
  have i1 : ((decide ((0 : Int) = 0)) && (decide (exF.vars = 4))) = true := by decide
  rw [e1, h1, bsm, n1, bsm, h3, bsm, if_pos i1, c1, bsm, bsm, if_pos rfl, l1, bsm, bsm, if_pos (by decide), l2, bsm, bsm, if_pos (by decide), cnf_format ex_gfit, bsm, e2, bsm, if_pos (by simp), v1, bsm, bsm, if_pos rfl, o1, bsm, bsm, if_pos rfl, t1, bsm, bsm]
  rfl
theorem FWf.flen {f : Formula} (h : FWf f) : FLen f.clauses := ⟨h.2.1, fun c hc => (h.2.2 c hc).1⟩
theorem small_ok {f : Formula} {v n : Int} (h : smallB f v n = true) : f.vars ≤ v ∧ (f.clauses.length : Int) ≤ n ∧ ∀ c ∈ f.clauses, c.length ≤ 30 := by
  unfold smallB at h
  simp only [Bool.and_eq_true, decide_eq_true_eq, List.all_eq_true] at h
  exact ⟨h.1.2, h.2, h.1.1⟩
theorem pair_len {n : Int} : ∀ (l : List Int) (a : Int), a ≤ n → (l.Pairwise fun x y => vr x < vr y) → (∀ x ∈ l, a < vr x ∧ vr x ≤ n) → (l.length : Int) ≤ n - a
  | [], a, h, _, _ => by simp; omega
  | x :: l, a, h, hp, hb => by
    have h1 := hb x (List.mem_cons_self ..)
    obtain ⟨hx, hp⟩ := List.pairwise_cons.1 hp
    have := pair_len l (vr x) h1.2 hp fun y hy => ⟨hx y hy, (hb y (List.mem_cons_of_mem _ hy)).2⟩
    rw [List.length_cons]; omega
theorem prop_len {f : Formula} {S : List Int} {r : List Int × Bool × Int} (h : PropOk f S r) : (r.1.length : Int) ≤ 65536 := by
  unfold PropOk at h
  split at h
  · rename_i hv
    rcases h.2 with ⟨_, _, hp, hm⟩ | ⟨_, h, _⟩
    · have hL := valid_lits hv.1 hv.2
      have hbnd := valid_bnd hv.1
      have hlen := pair_len (n := f.vars) r.1 0 hbnd.1 hp fun x hx => by
        have h1 := ((hm x).1 hx).lit hL
        have h2 := vr_nn x
        have h3 := mt vr_zero.1 h1.1
        exact ⟨by omega, h1.2⟩
      omega
    · rw [h]; simp
  · rw [h]; simp
end Go.Proofs.YtelioaepnpnojaaGreatDoor

/- CnfFollows: what Propagate derives lies in every model that the start lies in; and to derive again derives no more. -/
set_option linter.unusedVariables false
set_option linter.unusedSimpArgs false
namespace Go.Proofs.YtelioaepnpnojaaGreatDoor
open Go.RowKit Go.Lib
def MdL (m : List Int) : Prop := ∀ (i : Nat) x, m[i]? = some x → x = (i : Int) + 1 ∨ x = -((i : Int) + 1)
theorem MdL.at {m : List Int} (h : MdL m) {x : Int} (hx : x ∈ m) : x ≠ 0 ∧ m[(vr x - 1).toNat]? = some x := by
  obtain ⟨i, hi⟩ := List.getElem?_of_mem hx
  have h1 := h i x hi
  have h2 : vr x = (i : Int) + 1 := by unfold vr; omega
  refine ⟨by omega, ?_⟩
  rw [h2, show ((i : Int) + 1 - 1).toNat = i by omega]; exact hi
theorem MdL.opp {m : List Int} (h : MdL m) {x : Int} (hx : x ∈ m) (hn : -x ∈ m) : False := by
  have h1 := h.at hx
  have h2 := (h.at hn).2
  rw [vr_neg, h1.2] at h2
  simp only [Option.some.injEq] at h2
  omega
theorem sat_mem {m c : List Int} (h : satB m c = true) : ∃ y ∈ c, y ∈ m := by
  unfold satB at h
  rw [List.any_eq_true] at h
  obtain ⟨y, hy, h⟩ := h
  exact ⟨y, hy, mem_get (by simpa using h)⟩
theorem model_up {F : List (List Int)} {S m : List Int} (hm : MdL m) (hS : ∀ x ∈ S, x ∈ m) (hF : ∀ c ∈ F, satB m c = true) : ∀ {x}, UP F S x → x ∈ m := by
  intro x hx
  induction hx with
  | start h => exact hS _ h
  | @unit c x hc hxc _ ih =>
    obtain ⟨y, hy, hym⟩ := sat_mem (hF c hc)
    by_cases e : y = x
    · rw [← e]; exact hym
    · exact absurd (ih y hy e) (fun hn => hm.opp hym hn)
theorem model_ok {F : List (List Int)} {S m : List Int} (hm : MdL m) (hS : ∀ x ∈ S, x ∈ m) (hF : ∀ c ∈ F, satB m c = true) : ¬ Fails F S := by
  rintro (⟨l, h1, h2⟩ | ⟨c, hc, hy⟩)
  · exact hm.opp (model_up hm hS hF h1) (model_up hm hS hF h2)
  · obtain ⟨y, hyc, hym⟩ := sat_mem (hF c hc)
    exact hm.opp hym (model_up hm hS hF (hy y hyc))
theorem up_again {F : List (List Int)} {S T : List Int} (h1 : ∀ x ∈ T, UP F S x) : ∀ {x}, UP F T x → UP F S x := by
  intro x hx
  induction hx with
  | start h => exact h1 _ h
  | unit hc hxc _ ih => exact .unit hc hxc ih
theorem fails_again {F : List (List Int)} {S T : List Int} (h1 : ∀ x ∈ T, UP F S x) : Fails F T → Fails F S := by
  rintro (⟨l, a, b⟩ | ⟨c, hc, hy⟩)
  · exact Or.inl ⟨l, up_again h1 a, up_again h1 b⟩
  · exact Or.inr ⟨c, hc, fun y h => up_again h1 (hy y h)⟩
theorem sOk_of {n : Int} {F : List (List Int)} {S : List Int} (hL : Lits n F S) {x : Int} (hx : UP F S x) : sOk n x = true := by
  have h := hx.lit hL
  have := vr_le.1 h.2
  unfold sOk
  simp only [Bool.and_eq_true, decide_eq_true_eq]
  exact ⟨⟨h.1, this.1⟩, this.2⟩
theorem prop_again {f : Formula} {S : List Int} {r : List Int × Bool × Int} (h : PropOk f S r) (hv : validB f = true ∧ ∀ x ∈ S, sOk f.vars x = true) (hok : r.2.1 = true) : PropOk f r.1 r := by
  unfold PropOk at h
  rw [if_pos hv] at h
  obtain ⟨h0, ⟨_, hnf, hp, hm⟩ | ⟨h1, _, _⟩⟩ := h
  · have hL := valid_lits hv.1 hv.2
    unfold PropOk
    rw [if_pos ⟨hv.1, fun x hx => sOk_of hL ((hm x).1 hx)⟩]
    refine ⟨h0, Or.inl ⟨hok, fun hf => hnf (fails_again (fun x hx => (hm x).1 hx) hf), hp, fun x => ⟨fun hx => .start hx, fun hx => (hm x).2 (up_again (fun y hy => (hm y).1 hy) hx)⟩⟩⟩
  · rw [hok] at h1; cases h1
theorem not_all {S m : List Int} (hm : m.length ≤ 9223372036854775807) (hS : S.length ≤ 9223372036854775807) : m_slices_ContainsFunc_assessorlaw26_CnfFollows_1 S m = some (S.any fun x => !decide (x ∈ m)) := by
  unfold m_slices_ContainsFunc_assessorlaw26_CnfFollows_1 m_slices_IndexFunc_assessorlaw26_CnfFollows_1
  have h := scan_loop (body := fun s => m_slices_IndexFunc_assessorlaw26_CnfFollows_1_lp1 S m s) S (fun l => !decide (l ∈ m)) (fun k _ => Out.ret (k : Int)) (Out.brk ()) ?_ ?_
  · rcases h with ⟨k, a, _, _, _, h2, _, e⟩ | ⟨_, h2, _, e⟩
    · rw [e, h2]; simp
    · rw [e, h2]; simp
  · intro k a hk
    simp only [m_slices_IndexFunc_assessorlaw26_CnfFollows_1_lp1]
    rw [if_pos (ltB (len_lt hk)), idx_nat hk]
    simp only [bsm, m_assessorlaw26_CnfFollows_1]
    rw [contains_int m a hm, inK_up (len_lt hk) hS]
    generalize decide (a ∈ m) = d
    cases d <;> rfl
  · simp only [m_slices_IndexFunc_assessorlaw26_CnfFollows_1_lp1]
    rw [if_neg ltB']
theorem not_all2 {S m : List Int} (hm : m.length ≤ 9223372036854775807) (hS : S.length ≤ 9223372036854775807) : m_slices_ContainsFunc_assessorlaw26_CnfFollows_2 S m = some (S.any fun x => !decide (x ∈ m)) := not_all hm hS
theorem not_all3 {S m : List Int} (hm : m.length ≤ 9223372036854775807) (hS : S.length ≤ 9223372036854775807) : m_slices_ContainsFunc_assessorlaw26_CnfFollows_3 S m = some (S.any fun x => !decide (x ∈ m)) := not_all hm hS
theorem sOk_lit {v x : Int} (h : sOk v x = true) : x ≠ 0 ∧ -v ≤ x ∧ x ≤ v := by
  unfold sOk at h
  simp only [Bool.and_eq_true, decide_eq_true_eq] at h
  exact ⟨h.1.1, h.1.2, h.2⟩
theorem clauses_ok {f : Formula} {S : List Int} (hv : 0 ≤ f.vars ∧ f.vars ≤ 65536) (hS : S.length ≤ 4294967296) (hs : ∀ x ∈ S, sOk f.vars x = true) : loopM (fun s => m_assessorlaw26_CnfFollows_lp1 f S s) 0 = some (.brk ()) := by
  have h : ∃ b, loopM (fun s => m_assessorlaw26_CnfFollows_lp1 f S s) 0 = some b ∧ b = .brk () := by
    refine loopN (body := fun s => m_assessorlaw26_CnfFollows_lp1 f S s) S.length (fun k (t : Unit) => (k : Int)) (fun k t => True) _ (t0 := ()) rfl trivial ?_ ?_
    · rintro k t hk _
      obtain ⟨x, hx⟩ := get_of_lt hk
      have hb := sOk_lit (hs x (mem_get hx))
      have e1 : inK .i64 ((k : Int) + 1) = some ((k + 1 : Nat) : Int) := inK_up hk (by omega)
      have e2 : sub S (k : Int) ((k + 1 : Nat) : Int) = some [x] := by
        rw [sub_ok (by omega) (by omega) (by omega)]
        congr 1
        rw [Int.toNat_natCast, Int.toNat_natCast, take_snoc_of hx]
        rw [List.drop_append_of_le_length (by rw [List.length_take]; omega), List.drop_take_self]; rfl
      have e3 : m_assessorref26_IsClause [x] f.vars = some true := by
        rw [ref_isClause (by omega) (by simp)]
        have : clF f.vars 0 [x] = true := by
          have h1 := mt vr_zero.1 hb.1
          have h2 := vr_nn x
          simp only [clF, Bool.and_eq_true, decide_eq_true_eq, Bool.and_true]
          first | omega | exact ⟨⟨by omega, by omega⟩, by omega⟩ | exact ⟨by omega, by omega⟩
        rw [this]
      exact Or.inl ⟨(), by simp only [m_assessorlaw26_CnfFollows_lp1, ltB hk, if_true, e1, e2, e3, bsm, Bool.not_true, Bool.false_eq_true, if_false], trivial⟩
    · rintro t _
      exact ⟨_, by simp only [m_assessorlaw26_CnfFollows_lp1, ltB', if_false, Bool.false_eq_true], rfl⟩
  obtain ⟨b, hb, rfl⟩ := h
  exact hb
theorem MdL.snoc {m : List Int} (h : MdL m) {x : Int} (hx : x = (m.length : Int) + 1 ∨ x = -((m.length : Int) + 1)) : MdL (m ++ [x]) := by
  intro i y hy
  rw [List.getElem?_append] at hy
  split at hy
  · exact h i y hy
  · rename_i hi
    rcases Nat.lt_or_ge (i - m.length) 1 with h1 | h1
    · have e : i = m.length := by omega
      subst e
      simp only [Nat.sub_self, List.getElem?_cons_zero, Option.some.injEq] at hy
      subst hy; exact hx
    · rw [List.getElem?_eq_none (by simpa using h1)] at hy; cases hy
theorem model_built {f : Formula} {p2 : Int} (hv : 0 ≤ f.vars ∧ f.vars ≤ 65536) : ∃ m, loopM (fun s : Int × List Int => m_assessorlaw26_CnfFollows_lp2 f p2 s.1 s.2) (1, []) = some m ∧ (m.length : Int) = f.vars ∧ MdL m := by
  refine loopN (body := fun s : Int × List Int => m_assessorlaw26_CnfFollows_lp2 f p2 s.1 s.2) f.vars.toNat (fun k t => (((k + 1 : Nat) : Int), t)) (fun k t => t.length = k ∧ MdL t) _ (t0 := []) rfl ⟨rfl, by intro i x h; simp at h⟩ ?_ ?_
  · rintro k t hk ⟨hl, hm⟩
    have e1 : (decide (((k + 1 : Nat) : Int) ≤ f.vars)) = true := by rw [decide_eq_true_eq]; omega
    have e2 : inK .i64 (((k + 1 : Nat) : Int) - 1) = some (k : Int) := inK_at (by omega) ⟨by omega, by omega⟩
    have e3 : ∃ y, shrK .u16 p2 (k : Int) = some y := ⟨_, by unfold shrK; rw [if_neg (by omega)]⟩
    obtain ⟨y, e3⟩ := e3
    have e4 : inK .i64 (((k + 1 : Nat) : Int) + 1) = some ((k + 1 + 1 : Nat) : Int) := inK_at (by omega) ⟨by omega, by omega⟩
    have e5 : inK .i64 (0 - ((k + 1 : Nat) : Int)) = some (-((k : Int) + 1)) := inK_at (by omega) ⟨by omega, by omega⟩
    by_cases hb : (decide ((andK .u16 y 1) = 1)) = true
    · refine Or.inl ⟨t ++ [((k + 1 : Nat) : Int)], ?_, by simp [hl], hm.snoc (Or.inl (by omega))⟩
      simp only [m_assessorlaw26_CnfFollows_lp2, e1, if_true, e2, e3, bsm, hb, e4, app_ok (show t.length + [((k + 1 : Nat) : Int)].length ≤ 4294967296 by simp only [List.length_singleton]; omega)]
    · refine Or.inl ⟨t ++ [-((k : Int) + 1)], ?_, by simp [hl], hm.snoc (Or.inr (by omega))⟩
      simp only [m_assessorlaw26_CnfFollows_lp2, e1, if_true, e2, e3, bsm, hb, Bool.false_eq_true, if_false, e4, e5, app_ok (show t.length + [-((k : Int) + 1)].length ≤ 4294967296 by simp only [List.length_singleton]; omega)]
  · rintro t ⟨hl, hm⟩
    have e1 : ¬ (decide (((f.vars.toNat + 1 : Nat) : Int) ≤ f.vars)) = true := by rw [decide_eq_true_eq]; omega
    exact ⟨t, by simp only [m_assessorlaw26_CnfFollows_lp2, e1, if_false, Bool.false_eq_true], by omega, hm⟩
theorem MdL.set {m : List Int} (h : MdL m) {x : Int} (h0 : x ≠ 0) : MdL (m.set (vr x - 1).toNat x) := by
  intro i y hy
  rw [List.getElem?_set] at hy
  split at hy
  · rename_i e
    split at hy
    · simp only [Option.some.injEq] at hy
      subst hy
      unfold vr at e
      omega
    · cases hy
  · exact h i y hy
theorem start_laid {f : Formula} {S m : List Int} (hv : 0 ≤ f.vars ∧ f.vars ≤ 65536) (hS : S.length ≤ 4294967296) (hs : ∀ x ∈ S, sOk f.vars x = true) (hl : (m.length : Int) = f.vars) (hm : MdL m) :
    ∃ b, loopM (fun s : Int × List Int => m_assessorlaw26_CnfFollows_lp3 S s.1 s.2) (0, m) = some b ∧ (b.length : Int) = f.vars ∧ MdL b := by
  refine loopN (body := fun s : Int × List Int => m_assessorlaw26_CnfFollows_lp3 S s.1 s.2) S.length (fun k t => ((k : Int), t)) (fun k t => (t.length : Int) = f.vars ∧ MdL t) _ (t0 := m) rfl ⟨hl, hm⟩ ?_ ?_
  · rintro k t hk ⟨hl, hm⟩
    obtain ⟨x, hx⟩ := get_of_lt hk
    have hb := sOk_lit (hs x (mem_get hx))
    have h1 := mt vr_zero.1 hb.1
    have h2 := vr_nn x
    have h3 : vr x ≤ f.vars := vr_le.2 ⟨hb.2.1, hb.2.2⟩
    have e1 : m_assessorref26_Variable x = some (vr x) := rvar_ok (by omega)
    have e2 : inK .i64 (vr x - 1) = some (vr x - 1) := inK_eq ⟨by omega, by omega⟩
    obtain ⟨y, hy⟩ := get_of_lt (show (vr x - 1).toNat < t.length by omega)
    have e3 : idx t (vr x - 1) = some y := idx_of (by omega) hy
    refine Or.inl ⟨_, ?_, by rw [List.length_set]; exact hl, hm.set hb.1⟩
    simp only [m_assessorlaw26_CnfFollows_lp3, ltB hk, if_true, idx_nat hx, bsm, e1, e2, e3, inK_up hk (show S.length ≤ 9223372036854775807 by omega)]
  · rintro t ⟨hl, hm⟩
    exact ⟨t, by simp only [m_assessorlaw26_CnfFollows_lp3, ltB', if_false, Bool.false_eq_true], hl, hm⟩
theorem law_CnfFollows (p0 : Formula) (p1 : List Int) (p2 : Int) (h0 : FWf p0) (h1 : LW I64 p1) (h2 : (Lit.int .u16 p2).wf = true) : m_assessorlaw26_CnfFollows p0 p1 p2 = some true := by
  unfold m_assessorlaw26_CnfFollows
  rw [awake_true, bsm, if_neg (by decide), small_eq _ _ _ h0.2.1, bsm]
  by_cases hs : ((!smallB p0 12 40) || decide (12 < (p1.length : Int))) = true
  · rw [if_pos hs]
  rw [if_neg hs]
  simp only [Bool.or_eq_true, Bool.not_eq_true', decide_eq_true_eq, not_or, Bool.not_eq_false] at hs
  have hsm := small_ok hs.1
  have hc4 : ∀ c ∈ p0.clauses, c.length ≤ 4294967296 := fun c hc => by have := hsm.2.2 c hc; omega
  obtain ⟨r, e1, q1⟩ := cnf_propagate (f := p0) (S := p1) h0.flen (by omega) h1.2 hc4
  rw [e1, bsm]
  by_cases hv : validB p0 = true ∧ ∀ x ∈ p1, sOk p0.vars x = true
  · have q0 := q1
    unfold PropOk at q0
    rw [if_pos hv] at q0
    obtain ⟨hz, hcase⟩ := q0
    have hb := valid_bnd hv.1
    have hvb : 0 ≤ p0.vars ∧ p0.vars ≤ 65536 := ⟨hb.1, hb.2.1⟩
    have hL := valid_lits hv.1 hv.2
    rw [if_neg (by simp [hz]), clauses_ok hvb (by omega) hv.2, bsm]
    obtain ⟨m, em, hml, hmm⟩ := model_built (f := p0) (p2 := p2) hvb
    obtain ⟨b, eb, hbl, hbm⟩ := start_laid hvb (by omega) hv.2 hml hmm
    simp only [em, bsm, eb, cnf_holds h0.flen, not_all (show b.length ≤ 9223372036854775807 by omega) (show p1.length ≤ 9223372036854775807 by omega)]
    have hrl := prop_len q1
    have hend : (if (!r.2.1) = true then (some (decide ((r.1.length : Int) = 0)) : Option Bool)
        else (m_cnf_Propagate p0 r.1).bind fun x23 =>
          ((if (x23.2.1 && (decide (x23.2.2 = 0))) = true then (m_slices_Equal_int_int_ x23.1 r.1).bind fun x24 => some x24 else some false) : Option Bool).bind fun m3 =>
          ((if m3 = true then (m_slices_ContainsFunc_assessorlaw26_CnfFollows_3 p1 r.1).bind fun x25 => some (!x25) else some false) : Option Bool).bind fun m4 => some m4) = some true := by
      rcases hcase with ⟨hok, hnf, hp, hmem⟩ | ⟨hok, hnil, _⟩
      · rw [if_neg (by simp [hok])]
        obtain ⟨r', e2, q2⟩ := cnf_propagate (f := p0) (S := r.1) h0.flen (by omega) (fun x hx => by
          have := sOk_lit (sOk_of hL ((hmem x).1 hx)); omega) hc4
        rw [q2.eq (prop_again q1 hv hok)] at e2
        rw [e2, bsm, if_pos (by simp [hok, hz]), lists_equal _ _ (by omega), bsm, bsm, if_pos (by simp), not_all3 (by omega) (by omega), bsm, bsm]
        have : (p1.any fun x => !decide (x ∈ r.1)) = false := by
          rw [List.any_eq_false]
          intro x hx
          simp [(hmem x).2 (.start hx)]
        rw [this]; rfl
      · rw [if_pos (by simp [hok]), hnil]; rfl
    by_cases hh : holdsB p0 b = true
    · rw [if_pos hh]
      by_cases ha : (p1.any fun x => !decide (x ∈ b)) = true
      · simp only [ha, Bool.not_true, bsm, Bool.false_eq_true, if_false]
        exact hend
      · have ha' : (p1.any fun x => !decide (x ∈ b)) = false := by simpa using ha
        simp only [ha', Bool.not_false, bsm, if_true]
        have hin : ∀ x ∈ p1, x ∈ b := fun x hx => by
          have := List.any_eq_false.1 ha' x hx
          simpa using this
        unfold holdsB at hh
        simp only [Bool.and_eq_true, decide_eq_true_eq, List.all_eq_true] at hh
        have hF := hh.2
        rcases hcase with ⟨hok, hnf, hp, hmem⟩ | ⟨hok, hnil, hf⟩
        · have hno : (r.1.any fun x => !decide (x ∈ b)) = false := by
            rw [List.any_eq_false]
            intro x hx
            simp [model_up hbm hin hF ((hmem x).1 hx)]
          have hm2 : ((if (!r.2.1) = true then some true else (m_slices_ContainsFunc_assessorlaw26_CnfFollows_2 r.1 b).bind fun x22 => some x22) : Option Bool) = some false := by
            rw [if_neg (by simp [hok]), not_all2 (by omega) (by omega), bsm, hno]
          rw [hm2, bsm, if_neg (by decide)]
          exact hend
        · exact absurd hf (model_ok hbm hin hF)
    · simp only [hh, if_false, bsm, Bool.false_eq_true]
      exact hend
  · unfold PropOk at q1
    rw [if_neg hv] at q1
    subst q1
    rw [if_pos (by simp)]; rfl
end Go.Proofs.YtelioaepnpnojaaGreatDoor
