/- Unit propagation: what follows, and what the reference's Closure and Propagate compute. -/
import Derived.Test.YtelioaepnpnojaaGreatDoorKPr12
import Derived.Test.YtelioaepnpnojaaGreatDoorKPr4
set_option linter.unusedVariables false
set_option linter.unusedSimpArgs false
namespace Go.Proofs.YtelioaepnpnojaaGreatDoor
open Go.RowKit
inductive UP (F : List (List Int)) (S : List Int) : Int → Prop
  | start {l : Int} : l ∈ S → UP F S l
  | unit {c : List Int} {x : Int} : c ∈ F → x ∈ c → (∀ y ∈ c, y ≠ x → UP F S (-y)) → UP F S x
def Fails (F : List (List Int)) (S : List Int) : Prop := (∃ l, UP F S l ∧ UP F S (-l)) ∨ ∃ c ∈ F, ∀ y ∈ c, UP F S (-y)
structure Lits (n : Int) (F : List (List Int)) (S : List Int) : Prop where
  nn : 0 ≤ n ∧ n ≤ 65536
  cl : ∀ c ∈ F, ∀ y ∈ c, y ≠ 0 ∧ vr y ≤ n
  st : ∀ y ∈ S, y ≠ 0 ∧ vr y ≤ n
  nd : ∀ c ∈ F, c.Nodup
theorem UP.lit {n : Int} {F : List (List Int)} {S : List Int} (h : Lits n F S) {l : Int} (hl : UP F S l) : l ≠ 0 ∧ vr l ≤ n := by
  cases hl with
  | start hs => exact h.st _ hs
  | unit hc hx _ => exact h.cl _ hc _ hx
def gv (val : List Int) (l : Int) : Option Int := val[(vr l).toNat]?
theorem gv_neg (val : List Int) (l : Int) : gv val (-l) = gv val l := by unfold gv; rw [vr_neg]
structure ValOk (n : Int) (F : List (List Int)) (S : List Int) (val : List Int) : Prop where
  len : (val.length : Int) = n + 1
  own : ∀ (v : Nat) x, val[v]? = some x → x = 0 ∨ (x ≠ 0 ∧ vr x = v)
  sound : ∀ (v : Nat) x, val[v]? = some x → x ≠ 0 → UP F S x
theorem ValOk.get {n : Int} {F : List (List Int)} {S : List Int} {val : List Int} (h : ValOk n F S val) {l : Int} (hl : vr l ≤ n) : ∃ x, gv val l = some x ∧ idx val (vr l) = some x ∧ (x = 0 ∨ x = l ∨ x = -l) := by
  have h0 := vr_nn l
  obtain ⟨x, hx⟩ := get_of_lt (show (vr l).toNat < val.length by have := h.len; omega)
  refine ⟨x, hx, idx_of h0 hx, ?_⟩
  rcases h.own _ x hx with h1 | ⟨_, h1⟩
  · exact Or.inl h1
  · exact Or.inr (vr_eq.1 (by omega))
theorem ValOk.up {n : Int} {F : List (List Int)} {S : List Int} {val : List Int} (h : ValOk n F S val) {l : Int} (h0 : l ≠ 0) (hl : gv val l = some l) : UP F S l := h.sound _ l hl h0
theorem ValOk.set {n : Int} {F : List (List Int)} {S : List Int} {val : List Int} (h : ValOk n F S val) {l : Int} (h0 : l ≠ 0) (hl : vr l ≤ n) (hu : UP F S l) : ValOk n F S (val.set (vr l).toNat l) := by
  have hv := vr_nn l
  refine ⟨by rw [List.length_set]; exact h.len, fun v x hx => ?_, fun v x hx hx0 => ?_⟩
  · rw [List.getElem?_set] at hx
    split at hx
    · rename_i e
      split at hx
      · obtain rfl := Option.some.inj hx
        exact Or.inr ⟨h0, by omega⟩
      · cases hx
    · exact h.own v x hx
  · rw [List.getElem?_set] at hx
    split at hx
    · split at hx
      · obtain rfl := Option.some.inj hx; exact hu
      · cases hx
    · exact h.sound v x hx hx0
theorem gv_set {n : Int} {val : List Int} {l m : Int} (hlen : (val.length : Int) = n + 1) (hl : vr l ≤ n) : gv (val.set (vr l).toNat l) m = if vr m = vr l then some l else gv val m := by
  unfold gv
  have h1 := vr_nn l
  have h2 := vr_nn m
  rw [List.getElem?_set]
  by_cases e : vr m = vr l
  · rw [if_pos (by omega), if_pos (by omega), if_pos e]
  · rw [if_neg (by omega), if_neg e]
def Good (val c : List Int) : Prop := (∃ y ∈ c, gv val y = some y) ∨ ∃ y ∈ c, ∃ z ∈ c, y ≠ z ∧ gv val y = some 0 ∧ gv val z = some 0
theorem closed_up {n : Int} {F : List (List Int)} {S : List Int} {val : List Int} (hL : Lits n F S) (h : ValOk n F S val) (hs : ∀ l ∈ S, gv val l = some l) (hg : ∀ c ∈ F, Good val c) : ∀ {l}, UP F S l → gv val l = some l := by
  intro l hl
  induction hl with
  | start hm => exact hs _ hm
  | @unit c x hc hx hy ih =>
    rcases hg c hc with ⟨y, hyc, h1⟩ | ⟨y, hyc, z, hzc, hyz, h1, h2⟩
    · by_cases e : y = x
      · rw [← e]; exact h1
      · have := ih y hyc e
        rw [gv_neg, h1] at this
        have := Option.some.inj this
        exact absurd (show y = 0 by omega) (hL.cl c hc y hyc).1
    · by_cases e : y = x
      · have := ih z hzc (by rw [← e]; exact fun e' => hyz e'.symm)
        rw [gv_neg, h2] at this
        have := Option.some.inj this
        exact absurd (show z = 0 by omega) (hL.cl c hc z hzc).1
      · have := ih y hyc e
        rw [gv_neg, h1] at this
        have := Option.some.inj this
        exact absurd (show y = 0 by omega) (hL.cl c hc y hyc).1
theorem closed_ok {n : Int} {F : List (List Int)} {S : List Int} {val : List Int} (hL : Lits n F S) (h : ValOk n F S val) (hs : ∀ l ∈ S, gv val l = some l) (hg : ∀ c ∈ F, Good val c) : ¬ Fails F S := by
  rintro (⟨l, h1, h2⟩ | ⟨c, hc, hy⟩)
  · have e1 := closed_up hL h hs hg h1
    have e2 := closed_up hL h hs hg h2
    rw [gv_neg, e1] at e2
    have := Option.some.inj e2
    exact (h1.lit hL).1 (by omega)
  · rcases hg c hc with ⟨y, hyc, h1⟩ | ⟨y, hyc, z, hzc, hyz, h1, h2⟩
    · have := closed_up hL h hs hg (hy y hyc)
      rw [gv_neg, h1] at this
      have := Option.some.inj this
      exact (hL.cl c hc y hyc).1 (by omega)
    · have := closed_up hL h hs hg (hy y hyc)
      rw [gv_neg, h1] at this
      have := Option.some.inj this
      exact (hL.cl c hc y hyc).1 (by omega)
def sOk (v x : Int) : Bool := decide (x ≠ 0) && decide (-v ≤ x) && decide (x ≤ v)
def PropOk (f : Formula) (S : List Int) (r : List Int × Bool × Int) : Prop :=
  if validB f = true ∧ ∀ x ∈ S, sOk f.vars x = true then
    r.2.2 = 0 ∧ ((r.2.1 = true ∧ ¬ Fails f.clauses S ∧ (r.1.Pairwise fun x y => vr x < vr y) ∧ ∀ x, x ∈ r.1 ↔ UP f.clauses S x) ∨ (r.2.1 = false ∧ r.1 = [] ∧ Fails f.clauses S))
  else r = ([], false, 1)
theorem PropOk.eq {f : Formula} {S : List Int} {r q : List Int × Bool × Int} (h1 : PropOk f S r) (h2 : PropOk f S q) : r = q := by
  unfold PropOk at *
  split at h1
  · rename_i hv
    rw [if_pos hv] at h2
    obtain ⟨r1, r2, r3⟩ := r
    obtain ⟨q1, q2, q3⟩ := q
    obtain ⟨e1, h1⟩ := h1
    obtain ⟨e2, h2⟩ := h2
    simp only at e1 e2 h1 h2
    subst e1 e2
    rcases h1 with ⟨rfl, a1, a2, a3⟩ | ⟨rfl, rfl, a1⟩ <;> rcases h2 with ⟨rfl, b1, b2, b3⟩ | ⟨rfl, rfl, b1⟩
    · rw [rising_ext (r := fun x y => vr x < vr y) (fun a => by omega) (fun a b c h1 h2 => by omega) a2 b2 (fun x => by rw [a3, b3])]
    · exact absurd b1 a1
    · exact absurd a1 b1
    · rfl
  · rename_i hv
    rw [if_neg hv] at h2
    rw [h1, h2]
theorem valid_lits {f : Formula} {S : List Int} (h : validB f = true) (hs : ∀ x ∈ S, sOk f.vars x = true) : Lits f.vars f.clauses S := by
  have hb := valid_bnd h
  refine ⟨⟨hb.1, hb.2.1⟩, fun c hc y hy => ?_, fun y hy => ?_, fun c hc => ?_⟩
  · have := valid_lit h hc hy
    exact ⟨fun e => by rw [e] at this; simp [vr] at this, this.2.2.2⟩
  · have := hs y hy
    unfold sOk at this
    simp only [Bool.and_eq_true, decide_eq_true_eq] at this
    exact ⟨this.1.1, vr_le.2 ⟨this.1.2, this.2⟩⟩
  · have : ∀ (t : Int) (c : List Int), 0 ≤ t → clF f.vars t c = true → c.Nodup := by
      intro t c
      induction c generalizing t with
      | nil => intro _ _; exact List.nodup_nil
      | cons x c ih =>
        intro ht hc
        unfold clF at hc
        simp only [Bool.and_eq_true, decide_eq_true_eq] at hc
        refine List.nodup_cons.2 ⟨fun hx => ?_, ih (vr x) (vr_nn x) hc.2⟩
        have := (clF_mem (vr_nn x) hc.2 x hx).2.2
        omega
    exact this 0 c (Int.le_refl 0) (hb.2.2.2 c hc)
def stScan (val : List Int) (y : Int) (t : Int × Int × Bool) : Step (Int × Int × Bool) (Int × Int × Bool) :=
  match gv val y with
  | some x => if x = 0 then .next (t.1 + 1, y, t.2.2) else if x = y then .next (t.1, t.2.1, true) else .next t
  | none => .next t
def scanR (val c : List Int) (t : Int × Int × Bool) : Int × Int × Bool := runL (stScan val) (fun t => t) c t
theorem scanR_cons (val : List Int) (y : Int) (c : List Int) (t : Int × Int × Bool) : scanR val (y :: c) t = (match gv val y with
  | some x => if x = 0 then scanR val c (t.1 + 1, y, t.2.2) else if x = y then scanR val c (t.1, t.2.1, true) else scanR val c t
  | none => scanR val c t) := by
  cases hg : gv val y with
  | none => simp only [scanR, runL, stScan, hg]
  | some x =>
    by_cases h0 : x = 0
    · simp only [scanR, runL, stScan, hg, h0, if_true]
    · by_cases h1 : x = y
      · simp only [scanR, runL, stScan, hg, h0, if_false, h1, if_true]
        rw [← h1]; simp only [h0, if_false]
      · simp only [scanR, runL, stScan, hg, h0, if_false, h1]
theorem scan_facts (val : List Int) : ∀ (c : List Int) (t : Int × Int × Bool), c.Nodup → (∀ y ∈ c, y ≠ 0) →
    t.1 ≤ (scanR val c t).1 ∧ ((scanR val c t).2.2 = true ↔ t.2.2 = true ∨ ∃ y ∈ c, gv val y = some y) ∧
    ((scanR val c t).1 = t.1 → (∀ y ∈ c, gv val y ≠ some 0) ∧ (scanR val c t).2.1 = t.2.1) ∧
    ((scanR val c t).1 = t.1 + 1 → ∃ y ∈ c, gv val y = some 0 ∧ (scanR val c t).2.1 = y ∧ ∀ z ∈ c, gv val z = some 0 → z = y) ∧
    (t.1 + 2 ≤ (scanR val c t).1 → ∃ y ∈ c, ∃ z ∈ c, y ≠ z ∧ gv val y = some 0 ∧ gv val z = some 0)
  | [], t, _, _ => by
    show t.1 ≤ t.1 ∧ (t.2.2 = true ↔ _) ∧ (t.1 = t.1 → _) ∧ (t.1 = t.1 + 1 → _) ∧ (t.1 + 2 ≤ t.1 → _)
    refine ⟨Int.le_refl _, by simp, fun _ => ⟨by simp, rfl⟩, fun h => ?_, fun h => ?_⟩ <;> omega
  | y :: c, t, hn, h0 => by
    have hn' := List.nodup_cons.1 hn
    have h0' : ∀ z ∈ c, z ≠ 0 := fun z hz => h0 z (List.mem_cons_of_mem _ hz)
    have hy0 := h0 y (List.mem_cons_self ..)
    rw [scanR_cons]
    have skip : gv val y ≠ some 0 → gv val y ≠ some y → _ := fun e1 e2 => (scan_facts val c t hn'.2 h0')
    cases hg : gv val y with
    | none =>
      simp only
      obtain ⟨a1, a2, a3, a4, a5⟩ := scan_facts val c t hn'.2 h0'
      refine ⟨a1, ?_, fun h => ?_, fun h => ?_, fun h => ?_⟩
      · rw [a2]; simp [hg]
      · obtain ⟨b1, b2⟩ := a3 h
        exact ⟨fun z hz => by rcases List.mem_cons.1 hz with rfl | hz; rw [hg]; simp; exact b1 z hz, b2⟩
      · obtain ⟨z, hz, b1, b2, b3⟩ := a4 h
        exact ⟨z, List.mem_cons_of_mem _ hz, b1, b2, fun w hw hw0 => by rcases List.mem_cons.1 hw with rfl | hw; rw [hg] at hw0; cases hw0; exact b3 w hw hw0⟩
      · obtain ⟨z, hz, w, hw, b⟩ := a5 h
        exact ⟨z, List.mem_cons_of_mem _ hz, w, List.mem_cons_of_mem _ hw, b⟩
    | some x =>
      simp only
      by_cases hx0 : x = 0
      · rw [if_pos hx0]
        subst hx0
        obtain ⟨a1, a2, a3, a4, a5⟩ := scan_facts val c (t.1 + 1, y, t.2.2) hn'.2 h0'
        simp only at a1 a2 a3 a4 a5
        refine ⟨by omega, ?_, fun h => by omega, fun h => ?_, fun h => ?_⟩
        · rw [a2]
          constructor
          · rintro (h | ⟨z, hz, h⟩)
            · exact Or.inl h
            · exact Or.inr ⟨z, List.mem_cons_of_mem _ hz, h⟩
          · rintro (h | ⟨z, hz, h⟩)
            · exact Or.inl h
            · rcases List.mem_cons.1 hz with rfl | hz
              · rw [hg] at h; exact absurd (Option.some.inj h).symm hy0
              · exact Or.inr ⟨z, hz, h⟩
        · obtain ⟨b1, b2⟩ := a3 (by omega)
          exact ⟨y, List.mem_cons_self .., hg, b2, fun z hz hz0 => by
            rcases List.mem_cons.1 hz with e | hz
            · exact e
            · exact absurd hz0 (b1 z hz)⟩
        · by_cases hh : (scanR val c (t.1 + 1, y, t.2.2)).1 = t.1 + 1 + 1
          · obtain ⟨z, hz, b1, _⟩ := a4 hh
            exact ⟨y, List.mem_cons_self .., z, List.mem_cons_of_mem _ hz, fun e => hn'.1 (e ▸ hz), hg, b1⟩
          · obtain ⟨z, hz, w, hw, b⟩ := a5 (by omega)
            exact ⟨z, List.mem_cons_of_mem _ hz, w, List.mem_cons_of_mem _ hw, b⟩
      · rw [if_neg hx0]
        have hne : gv val y ≠ some 0 := by rw [hg]; intro e; exact hx0 (Option.some.inj e)
        by_cases hxy : x = y
        · rw [if_pos hxy]
          subst hxy
          obtain ⟨a1, a2, a3, a4, a5⟩ := scan_facts val c (t.1, t.2.1, true) hn'.2 h0'
          simp only at a1 a2 a3 a4 a5
          refine ⟨a1, ?_, fun h => ?_, fun h => ?_, fun h => ?_⟩
          · rw [a2]; simp [hg]
          · obtain ⟨b1, b2⟩ := a3 h
            exact ⟨fun z hz => by rcases List.mem_cons.1 hz with rfl | hz; exact hne; exact b1 z hz, b2⟩
          · obtain ⟨z, hz, b1, b2, b3⟩ := a4 h
            exact ⟨z, List.mem_cons_of_mem _ hz, b1, b2, fun w hw hw0 => by rcases List.mem_cons.1 hw with rfl | hw; exact absurd hw0 hne; exact b3 w hw hw0⟩
          · obtain ⟨z, hz, w, hw, b⟩ := a5 h
            exact ⟨z, List.mem_cons_of_mem _ hz, w, List.mem_cons_of_mem _ hw, b⟩
        · rw [if_neg hxy]
          obtain ⟨a1, a2, a3, a4, a5⟩ := scan_facts val c t hn'.2 h0'
          refine ⟨a1, ?_, fun h => ?_, fun h => ?_, fun h => ?_⟩
          · rw [a2]; simp [hg, hxy]
          · obtain ⟨b1, b2⟩ := a3 h
            exact ⟨fun z hz => by rcases List.mem_cons.1 hz with rfl | hz; exact hne; exact b1 z hz, b2⟩
          · obtain ⟨z, hz, b1, b2, b3⟩ := a4 h
            exact ⟨z, List.mem_cons_of_mem _ hz, b1, b2, fun w hw hw0 => by rcases List.mem_cons.1 hw with rfl | hw; exact absurd hw0 hne; exact b3 w hw hw0⟩
          · obtain ⟨z, hz, w, hw, b⟩ := a5 h
            exact ⟨z, List.mem_cons_of_mem _ hz, w, List.mem_cons_of_mem _ hw, b⟩
theorem closure_scan {n : Int} {F : List (List Int)} {S : List Int} {val c : List Int} (hL : Lits n F S) (h : ValOk n F S val) (hc : c ∈ F) (hl : c.length ≤ 4294967296) :
    loopM (fun s : Int × Int × Bool × Int => m_assessorref26_Closure_lp4 val c s.1 s.2.1 s.2.2.1 s.2.2.2) (0, 0, false, 0) = some (scanR val c (0, 0, false)) := by
  refine loopL (body := fun s : Int × Int × Bool × Int => m_assessorref26_Closure_lp4 val c s.1 s.2.1 s.2.2.1 s.2.2.2) c (fun k t => (t.1, t.2.1, t.2.2, (k : Int))) (stScan val) (fun t => t) (fun k t => 0 ≤ t.1 ∧ t.1 ≤ k) (t0 := (0, 0, false)) rfl (by simp) ?_ ?_
  · rintro k y ⟨o, la, t1⟩ hk ⟨ho1, ho2⟩
    simp only at ho1 ho2
    have hkl := len_lt hk
    obtain ⟨hy0, hyn⟩ := hL.cl c hc y (mem_get hk)
    have hn := hL.nn
    obtain ⟨x, hx1, hx2, hx3⟩ := h.get hyn
    have hy := vr_le.1 hyn
    have e1 : inK .i64 (o + 1) = some (o + 1) := inK_eq ⟨by omega, by omega⟩
    constructor
    · simp only [m_assessorref26_Closure_lp4, ltB hkl, if_true, idx_nat hk, bsm, rvar_ok (show -9223372036854775807 ≤ y ∧ y ≤ 9223372036854775807 by omega), hx2, e1, inK_up hkl (show c.length ≤ 9223372036854775807 by omega), stScan, hx1]
      by_cases h0 : x = 0
      · simp [h0]
      · by_cases h1 : x = y <;> simp [h0, h1, hy0]
    · intro t' ht'
      unfold stScan at ht'
      rw [hx1] at ht'
      simp only at ht'
      split at ht'
      · obtain rfl := Step.next.inj ht'; simp only; omega
      · split at ht' <;> (obtain rfl := Step.next.inj ht'; simp only; omega)
  · rintro ⟨o, la, t1⟩ _
    simp only [m_assessorref26_Closure_lp4, ltB', if_false, Bool.false_eq_true]
def zeros (val : List Int) : Nat := (val.filter fun x => decide (x = 0)).length
theorem zeros_set {x : Int} (hx : x ≠ 0) : ∀ {val : List Int} {i : Nat}, val[i]? = some 0 → zeros (val.set i x) + 1 = zeros val
  | [], i, h => by simp at h
  | y :: val, 0, h => by
    simp at h; subst h
    simp [zeros, hx]
  | y :: val, i + 1, h => by
    rw [List.getElem?_cons_succ] at h
    have := zeros_set hx h
    unfold zeros at *
    rw [List.set_cons_succ, List.filter_cons, List.filter_cons]
    split
    · simp only [List.length_cons]; omega
    · exact this
theorem ValOk.excl {n : Int} {F : List (List Int)} {S : List Int} {val : List Int} (h : ValOk n F S val) {y : Int} (hy : vr y ≤ n) (h0 : gv val y ≠ some 0) (h1 : gv val y ≠ some y) : UP F S (-y) := by
  obtain ⟨x, e, _, hx⟩ := h.get hy
  have hx0 : x ≠ 0 := fun e0 => h0 (e0 ▸ e)
  rcases hx with hx | hx | hx
  · exact absurd hx hx0
  · exact absurd (hx ▸ e) h1
  · exact hx ▸ h.sound _ x e hx0
theorem gv_mono {n : Int} {val : List Int} {y l : Int} (hlen : (val.length : Int) = n + 1) (hy : vr y ≤ n) (h0 : gv val y = some 0) (hl0 : l ≠ 0) (hl : gv val l = some l) : gv (val.set (vr y).toNat y) l = some l := by
  rw [gv_set hlen hy]
  by_cases e : vr l = vr y
  · unfold gv at h0 hl
    rw [e, h0] at hl
    exact absurd (Option.some.inj hl).symm hl0
  · rw [if_neg e]; exact hl
theorem closure_round {f : Formula} {S : List Int} {val : List Int} (hL : Lits f.vars f.clauses S) (hv : ValOk f.vars f.clauses S val) (hlen : f.clauses.length ≤ 4294967296) (hl : ∀ c ∈ f.clauses, c.length ≤ 4294967296) :
    ∃ b, loopM (fun s : Bool × Int × List Int => m_assessorref26_Closure_lp3 f s.1 s.2.1 s.2.2) (false, 0, val) = some b ∧ (match b with
      | .ret r => r.2 = false ∧ Fails f.clauses S
      | .brk t => ValOk f.vars f.clauses S t.2 ∧ (∀ l, l ≠ 0 → gv val l = some l → gv t.2 l = some l) ∧ (t.1 = false → t.2 = val ∧ ∀ c ∈ f.clauses, Good val c) ∧ (t.1 = true → zeros t.2 < zeros val)) := by
  refine loopN (body := fun s : Bool × Int × List Int => m_assessorref26_Closure_lp3 f s.1 s.2.1 s.2.2) f.clauses.length (fun k t => (t.1, (k : Int), t.2))
    (fun k t => ValOk f.vars f.clauses S t.2 ∧ (∀ l, l ≠ 0 → gv val l = some l → gv t.2 l = some l) ∧ (t.1 = false → t.2 = val ∧ ∀ j c, j < k → f.clauses[j]? = some c → Good val c) ∧ (t.1 = true → zeros t.2 < zeros val))
    _ (t0 := (false, val)) rfl ⟨hv, fun _ _ h => h, fun _ => ⟨rfl, fun j c hj => by omega⟩, fun h => by cases h⟩ ?_ ?_
  · rintro k ⟨more, v⟩ hk ⟨i1, i2, i3, i4⟩
    simp only at i1 i2 i3 i4
    obtain ⟨c, hc⟩ := get_of_lt hk
    have hcm := mem_get hc
    have hcl := hl c hcm
    have hn := hL.nn
    have hz : zeros v ≤ zeros val := by
      cases more with
      | false => rw [(i3 rfl).1]; exact Nat.le_refl _
      | true => exact Nat.le_of_lt (i4 rfl)
    obtain ⟨a1, a2, a3, a4, a5⟩ := scan_facts v c (0, 0, false) (hL.nd c hcm) (fun y hy => (hL.cl c hcm y hy).1)
    simp only at a1 a2 a3 a4 a5
    have step : ∀ q, q = scanR v c (0, 0, false) → m_assessorref26_Closure_lp3 f more (k : Int) v = (((if (q.2.2 || (decide (1 < q.1))) = true then some (.brk (more, v)) else if (decide (q.1 = 0)) = true then some (.ret (v, false)) else
        (m_assessorref26_Variable q.2.1).bind fun x23 => (idx v x23).bind fun x24 => some (.brk (true, v.set x23.toNat q.2.1))) : Option (Out (Bool × List Int) (List Int × Bool))).bind fun j1 => match j1 with
        | .brk j1s => some (.next (j1s.1, ((k + 1 : Nat) : Int), j1s.2))
        | .ret r => some (.done (.ret r))) := by
      intro q hq
      simp only [m_assessorref26_Closure_lp3, ltB hk, if_true, idx_nat hc, bsm, closure_scan hL i1 hcm hcl, ← hq, inK_up hk (show f.clauses.length ≤ 9223372036854775807 by omega)]
      congr 1
    obtain ⟨q, hq⟩ : ∃ q, q = scanR v c (0, 0, false) := ⟨_, rfl⟩
    rw [← hq] at a1 a2 a3 a4 a5
    have step := step q hq
    by_cases h1 : (q.2.2 || (decide (1 < q.1))) = true
    · rw [if_pos h1, bsm] at step
      refine Or.inl ⟨(more, v), step, i1, i2, fun hm => ⟨(i3 hm).1, fun j d hj hd => ?_⟩, i4⟩
      by_cases e : j = k
      · subst e
        rw [hc] at hd
        obtain rfl := Option.some.inj hd
        have hvv := (i3 hm).1
        subst hvv
        simp only [Bool.or_eq_true, decide_eq_true_eq] at h1
        rcases h1 with h1 | h1
        · rcases a2.1 h1 with h | ⟨y, hy, h⟩
          · cases h
          · exact Or.inl ⟨y, hy, h⟩
        · exact Or.inr (a5 (by omega))
      · exact (i3 hm).2 j d (by omega) hd
    · rw [if_neg h1] at step
      simp only [Bool.or_eq_true, decide_eq_true_eq, not_or] at h1
      have hno : ∀ y ∈ c, gv v y ≠ some y := fun y hy e => h1.1 (a2.2 (Or.inr ⟨y, hy, e⟩))
      by_cases h2 : q.1 = 0
      · rw [if_pos (by simpa using h2), bsm] at step
        refine Or.inr ⟨_, step, rfl, Or.inr ⟨c, hcm, fun y hy => ?_⟩⟩
        exact i1.excl (hL.cl c hcm y hy).2 ((a3 h2).1 y hy) (hno y hy)
      · rw [if_neg (by simpa using h2)] at step
        obtain ⟨y, hy, hy0, hy1, hy2⟩ := a4 (by omega)
        obtain ⟨hyn0, hyn⟩ := hL.cl c hcm y hy
        have hyb := vr_le.1 hyn
        obtain ⟨x, hx1, hx2, _⟩ := i1.get hyn
        rw [hy1, rvar_ok (show -9223372036854775807 ≤ y ∧ y ≤ 9223372036854775807 by omega), bsm, hx2, bsm, bsm] at step
        have hu : UP f.clauses S y := UP.unit hcm hy fun z hz hzy => i1.excl (hL.cl c hcm z hz).2 (fun e => hzy (hy2 z hz e)) (hno z hz)
        refine Or.inl ⟨(true, v.set (vr y).toNat y), step, i1.set hyn0 hyn hu, fun l hl0 hl => ?_, fun h => (by cases h), fun _ => ?_⟩
        · exact gv_mono i1.len hyn hy0 hl0 (i2 l hl0 hl)
        · have := zeros_set hyn0 (val := v) (i := (vr y).toNat) hy0
          show zeros (v.set (vr y).toNat y) < _
          omega
  · rintro ⟨more, v⟩ ⟨i1, i2, i3, i4⟩
    refine ⟨.brk (more, v), ?_, i1, i2, fun h => ⟨(i3 h).1, fun c hc => ?_⟩, i4⟩
    · simp only [m_assessorref26_Closure_lp3, ltB', if_false, Bool.false_eq_true]
    · obtain ⟨j, hj⟩ := List.getElem?_of_mem hc
      exact (i3 h).2 j c (len_lt hj) hj
theorem closure_while {f : Formula} {S : List Int} {val : List Int} (hL : Lits f.vars f.clauses S) (hv : ValOk f.vars f.clauses S val) (hs : ∀ l ∈ S, gv val l = some l) (hlen : f.clauses.length ≤ 4294967296) (hl : ∀ c ∈ f.clauses, c.length ≤ 4294967296) :
    ∃ b, loopM (fun s : Bool × List Int => m_assessorref26_Closure_lp2 f s.1 s.2) (true, val) = some b ∧ (match b with
      | .ret r => r.2 = false ∧ Fails f.clauses S
      | .brk v => ValOk f.vars f.clauses S v ∧ (∀ l ∈ S, gv v l = some l) ∧ ∀ c ∈ f.clauses, Good v c) := by
  refine loopM_inv (body := fun s : Bool × List Int => m_assessorref26_Closure_lp2 f s.1 s.2) (fun t => ValOk f.vars f.clauses S t.2 ∧ (∀ l ∈ S, gv t.2 l = some l) ∧ (t.1 = false → ∀ c ∈ f.clauses, Good t.2 c)) (fun t => 2 * zeros t.2 + (if t.1 = true then 1 else 0)) _ ?_ (true, val) ⟨hv, hs, fun h => by cases h⟩
  rintro ⟨more, v⟩ ⟨i1, i2, i3⟩
  simp only at i1 i2 i3
  cases more with
  | false =>
    exact Or.inr ⟨.brk v, by simp only [m_assessorref26_Closure_lp2, if_false, Bool.false_eq_true], i1, i2, i3 rfl⟩
  | true =>
    obtain ⟨b, hb, hp⟩ := closure_round hL i1 hlen hl
    cases b with
    | ret r => exact Or.inr ⟨.ret r, by simp only [m_assessorref26_Closure_lp2, if_true, hb, bsm], hp⟩
    | brk t =>
      obtain ⟨p1, p2, p3, p4⟩ := hp
      refine Or.inl ⟨(t.1, t.2), by simp only [m_assessorref26_Closure_lp2, if_true, hb, bsm], ⟨p1, fun l hl => p2 l (hL.st l hl).1 (i2 l hl), fun h => ?_⟩, ?_⟩
      · have := p3 h
        intro c hc
        show Good t.2 c
        rw [this.1]; exact this.2 c hc
      · cases h : t.1 with
        | true => have := p4 h; simp only [if_true]; omega
        | false => have := (p3 h).1; simp only [this, if_true, Bool.false_eq_true, if_false]; omega
theorem closure_start {f : Formula} {S : List Int} (hL : Lits f.vars f.clauses S) {val : List Int} (hv : ValOk f.vars f.clauses S val) (hS : S.length ≤ 4294967296) :
    ∃ b, loopM (fun s : Int × List Int => m_assessorref26_Closure_lp1 S s.1 s.2) (0, val) = some b ∧ (match b with
      | .ret r => r.2 = false ∧ Fails f.clauses S
      | .brk v => ValOk f.vars f.clauses S v ∧ ∀ l ∈ S, gv v l = some l) := by
  refine loopN (body := fun s : Int × List Int => m_assessorref26_Closure_lp1 S s.1 s.2) S.length (fun k t => ((k : Int), t)) (fun k v => ValOk f.vars f.clauses S v ∧ ∀ j l, j < k → S[j]? = some l → gv v l = some l) _ (t0 := val) rfl ⟨hv, fun j l hj => by omega⟩ ?_ ?_
  · rintro k v hk ⟨i1, i2⟩
    obtain ⟨x, hx⟩ := get_of_lt hk
    obtain ⟨hx0, hxn⟩ := hL.st x (mem_get hx)
    have hn := hL.nn
    have hxb := vr_le.1 hxn
    obtain ⟨y, hy1, hy2, hy3⟩ := i1.get hxn
    have e1 : inK .i64 (0 - x) = some (-x) := by rw [inK_eq ⟨by omega, by omega⟩]; congr 1; omega
    have step : m_assessorref26_Closure_lp1 S (k : Int) v = if y = -x then some (.done (.ret (v, false))) else some (.next (((k + 1 : Nat) : Int), v.set (vr x).toNat x)) := by
      simp only [m_assessorref26_Closure_lp1, ltB hk, if_true, idx_nat hx, bsm, rvar_ok (show -9223372036854775807 ≤ x ∧ x ≤ 9223372036854775807 by omega), hy2, e1, inK_up hk (show S.length ≤ 9223372036854775807 by omega)]
      by_cases h : y = -x <;> simp [h]
    by_cases h : y = -x
    · rw [if_pos h] at step
      refine Or.inr ⟨_, step, rfl, Or.inl ⟨x, UP.start (mem_get hx), ?_⟩⟩
      exact h ▸ i1.sound _ y hy1 (by omega)
    · rw [if_neg h] at step
      refine Or.inl ⟨v.set (vr x).toNat x, step, i1.set hx0 hxn (UP.start (mem_get hx)), fun j l hj hl => ?_⟩
      rw [gv_set i1.len hxn]
      by_cases e : vr l = vr x
      · rw [if_pos e]
        by_cases ej : j = k
        · subst ej; rw [hx] at hl; exact hl
        · have h1 := i2 j l (by omega) hl
          unfold gv at h1 hy1
          rw [e, hy1] at h1
          have h2 := Option.some.inj h1
          have h3 := (hL.st l (mem_get hl)).1
          rcases vr_eq.1 e with h4 | h4
          · rw [h4]
          · omega
      · rw [if_neg e]
        by_cases ej : j = k
        · subst ej; rw [hx] at hl; obtain rfl := Option.some.inj hl; exact absurd rfl e
        · exact i2 j l (by omega) hl
  · rintro v ⟨i1, i2⟩
    refine ⟨.brk v, ?_, i1, fun l hl => ?_⟩
    · simp only [m_assessorref26_Closure_lp1, ltB', if_false, Bool.false_eq_true]
    · obtain ⟨j, hj⟩ := List.getElem?_of_mem hl
      exact i2 j l (len_lt hj) hj
theorem valOk_init {f : Formula} {S : List Int} (hL : Lits f.vars f.clauses S) : ValOk f.vars f.clauses S (List.replicate (f.vars + 1).toNat 0) := by
  have hn := hL.nn
  refine ⟨by rw [List.length_replicate]; omega, fun v x hx => ?_, fun v x hx h0 => ?_⟩
  · have := List.mem_of_getElem? hx
    exact Or.inl (List.eq_of_mem_replicate this)
  · have := List.mem_of_getElem? hx
    exact absurd (List.eq_of_mem_replicate this) h0
theorem ref_closure {f : Formula} {S : List Int} (hL : Lits f.vars f.clauses S) (hS : S.length ≤ 4294967296) (hlen : f.clauses.length ≤ 4294967296) (hl : ∀ c ∈ f.clauses, c.length ≤ 4294967296) :
    ∃ r, m_assessorref26_Closure f S = some r ∧ ((r.2 = true ∧ ValOk f.vars f.clauses S r.1 ∧ (∀ l ∈ S, gv r.1 l = some l) ∧ ∀ c ∈ f.clauses, Good r.1 c) ∨ (r.2 = false ∧ Fails f.clauses S)) := by
  have hn := hL.nn
  unfold m_assessorref26_Closure
  rw [inK_eq ⟨by omega, by omega⟩, bsm, mkc_ok ⟨by omega, by omega, by omega⟩, bsm]
  obtain ⟨b, hb, hp⟩ := closure_start hL (valOk_init hL) hS
  rw [hb, bsm]
  cases b with
  | ret r => exact ⟨r, rfl, Or.inr hp⟩
  | brk v =>
    obtain ⟨b, hb2, hp2⟩ := closure_while hL hp.1 hp.2 hlen hl
    simp only
    rw [hb2, bsm]
    cases b with
    | ret r => exact ⟨r, rfl, Or.inr hp2⟩
    | brk w => exact ⟨(w, true), rfl, Or.inl ⟨rfl, hp2⟩⟩
theorem filter_inc : ∀ (l : List Int) (t : Nat), (∀ (i : Nat) x, l[i]? = some x → x = 0 ∨ (x ≠ 0 ∧ vr x = ((t + i : Nat) : Int))) →
    (l.filter fun x => decide (x ≠ 0)).Pairwise (fun x y => vr x < vr y) ∧ ∀ x ∈ l.filter fun x => decide (x ≠ 0), (t : Int) ≤ vr x
  | [], t, _ => by simp
  | y :: l, t, h => by
    obtain ⟨h1, h2⟩ := filter_inc l (t + 1) fun i x hx => by
      have := h (i + 1) x (by rw [List.getElem?_cons_succ]; exact hx)
      rwa [show t + 1 + i = t + (i + 1) by omega]
    rw [List.filter_cons]
    have hy := h 0 y rfl
    split
    · rename_i hy0
      have hy0 : y ≠ 0 := by simpa using hy0
      have hvy : vr y = (t : Int) := by
        rcases hy with hy | hy
        · exact absurd hy hy0
        · simpa using hy.2
      refine ⟨List.pairwise_cons.2 ⟨fun z hz => ?_, h1⟩, fun z hz => ?_⟩
      · have := h2 z hz; omega
      · rcases List.mem_cons.1 hz with rfl | hz
        · omega
        · have := h2 z hz; omega
    · exact ⟨h1, fun z hz => by have := h2 z hz; omega⟩
def outF (val : List Int) : List Int := (val.drop 1).filter fun x => decide (x ≠ 0)
theorem outF_mem {n : Int} {F : List (List Int)} {S : List Int} {val : List Int} (h : ValOk n F S val) (x : Int) : x ∈ outF val ↔ x ≠ 0 ∧ gv val x = some x := by
  unfold outF
  rw [List.mem_filter]
  constructor
  · rintro ⟨h1, h2⟩
    have h2 : x ≠ 0 := by simpa using h2
    obtain ⟨i, hi⟩ := List.getElem?_of_mem h1
    rw [List.getElem?_drop] at hi
    refine ⟨h2, ?_⟩
    rcases h.own _ x hi with e | ⟨_, e⟩
    · exact absurd e h2
    · unfold gv
      rw [show (vr x).toNat = 1 + i by omega]; exact hi
  · rintro ⟨h1, h2⟩
    refine ⟨?_, by simpa using h1⟩
    have hv := vr_nn x
    have hv0 : vr x ≠ 0 := fun e => h1 (vr_zero.1 e)
    refine List.mem_of_getElem? (i := (vr x).toNat - 1) ?_
    rw [List.getElem?_drop, show 1 + ((vr x).toNat - 1) = (vr x).toNat by omega]
    exact h2
theorem outF_inc {n : Int} {F : List (List Int)} {S : List Int} {val : List Int} (h : ValOk n F S val) : (outF val).Pairwise fun x y => vr x < vr y :=
  (filter_inc (val.drop 1) 1 fun i x hx => by rw [List.getElem?_drop] at hx; exact h.own _ x hx).1
theorem clF_one (v x : Int) : clF v 0 [x] = sOk v x := by
  unfold clF clF sOk
  rw [Bool.eq_iff_iff]
  simp only [Bool.and_eq_true, decide_eq_true_eq, Bool.and_true]
  have := vr_nn x
  have := @vr_zero x
  constructor
  · rintro ⟨⟨a, b⟩, c⟩; exact ⟨⟨fun e => by rw [e] at c; simp [vr] at c, a⟩, b⟩
  · rintro ⟨⟨a, b⟩, c⟩; exact ⟨⟨b, c⟩, by omega⟩
def stOut (x : Int) (t : List Int) : Step (List Int) (List Int) := if x = 0 then .next t else .next (t ++ [x])
theorem runL_out : ∀ (l t : List Int), runL stOut (fun t => t) l t = t ++ l.filter fun x => decide (x ≠ 0)
  | [], t => by simp [runL]
  | x :: l, t => by
    by_cases h0 : x = 0
    · simp only [runL, stOut, h0, if_true]
      rw [runL_out l t, List.filter_cons, if_neg (by simp)]
    · simp only [runL, stOut, h0, if_false]
      rw [runL_out l (t ++ [x]), List.filter_cons, if_pos (by simpa using h0), List.append_assoc, List.singleton_append]
theorem ref_propagate {f : Formula} {S : List Int} (hl : FLen f.clauses) (hS : S.length ≤ 4294967296) (hc4 : ∀ c ∈ f.clauses, c.length ≤ 4294967296) : ∃ r, m_assessorref26_Propagate f S = some r ∧ PropOk f S r := by
  unfold m_assessorref26_Propagate
  rw [ref_valid hl, bsm]
  by_cases hv : validB f = true
  · rw [if_neg (by simp [hv])]
    have hb := valid_bnd hv
    rw [any_loop (body := fun s => m_assessorref26_Propagate_lp1 f S s) S (fun x => !sOk f.vars x) (Out.ret ([], false, 1)) (Out.brk ()) ?_ ?_, bsm]
    · by_cases hs : S.any (fun x => !sOk f.vars x) = true
      · rw [if_pos hs]
        refine ⟨_, rfl, ?_⟩
        unfold PropOk
        obtain ⟨x, hx, h⟩ := List.any_eq_true.1 hs
        rw [if_neg (fun h' => by have := h'.2 x hx; rw [this] at h; cases h)]
      · rw [if_neg hs]
        have hs' : ∀ x ∈ S, sOk f.vars x = true := fun x hx => by
          cases h : sOk f.vars x with
          | true => rfl
          | false => exact absurd (List.any_eq_true.2 ⟨x, hx, by simp [h]⟩) hs
        have hL := valid_lits hv hs'
        obtain ⟨r, hr, hp⟩ := ref_closure hL hS (by omega) hc4
        simp only
        rw [hr, bsm]
        rcases hp with ⟨e, h1, h2, h3⟩ | ⟨e, h1⟩
        · rw [if_neg (by simp [e])]
          have hlen := h1.len
          have hdl : (r.1.drop 1).length = f.vars.toNat := by rw [List.length_drop]; omega
          rw [loopL (body := fun s : Int × List Int => m_assessorref26_Propagate_lp2 f r s.1 s.2) (s0 := ((1 : Int), ([] : List Int))) (r.1.drop 1) (fun k t => (((k + 1 : Nat) : Int), t)) stOut (fun t => t) (fun k t => t.length ≤ k) (t0 := []) rfl (by simp) ?_ ?_]
          · rw [bsm]
            refine ⟨_, rfl, ?_⟩
            unfold PropOk
            rw [if_pos ⟨hv, hs'⟩]
            refine ⟨rfl, Or.inl ⟨rfl, closed_ok hL h1 h2 h3, ?_⟩⟩
            rw [runL_out, List.nil_append]
            refine ⟨outF_inc h1, fun x => ?_⟩
            show x ∈ outF r.1 ↔ _
            rw [outF_mem h1]
            exact ⟨fun h => h1.up h.1 h.2, fun h => ⟨(h.lit hL).1, closed_up hL h1 h2 h3 h⟩⟩
          · intro k x t hk ht
            have hkl := len_lt hk
            have hk' : r.1[k + 1]? = some x := by rw [List.getElem?_drop] at hk; rwa [Nat.add_comm] at hk
            constructor
            · have e1 : (decide (((k + 1 : Nat) : Int) ≤ f.vars)) = true := by simp only [decide_eq_true_eq]; omega
              have e2 : inK .i64 (((k + 1 : Nat) : Int) + 1) = some ((k + 1 + 1 : Nat) : Int) := inK_at rfl ⟨by omega, by omega⟩
              simp only [m_assessorref26_Propagate_lp2, e1, if_true, idx_nat hk', bsm, app_ok (show t.length + [x].length ≤ 4294967296 by simp; omega), e2, stOut]
              by_cases h0 : x = 0 <;> simp [h0]
            · intro t' ht'
              unfold stOut at ht'
              split at ht'
              · obtain rfl := Step.next.inj ht'; omega
              · obtain rfl := Step.next.inj ht'; simp; omega
          · intro t ht
            have e1 : ¬ (decide ((((r.1.drop 1).length + 1 : Nat) : Int) ≤ f.vars)) = true := by simp only [decide_eq_true_eq]; omega
            simp only [m_assessorref26_Propagate_lp2, e1, if_false, Bool.false_eq_true]
        · rw [if_pos (by simp [e])]
          refine ⟨_, rfl, ?_⟩
          unfold PropOk
          rw [if_pos ⟨hv, hs'⟩]
          exact ⟨rfl, Or.inr ⟨rfl, rfl, h1⟩⟩
    · intro k a hk
      have hkl := len_lt hk
      have e1 : sub S (k : Int) ((k + 1 : Nat) : Int) = some [a] := by
        rw [sub_ok (by omega) (by omega) (by omega)]
        congr 1
        show (S.take (k + 1)).drop k = [a]
        rw [take_snoc_of hk, List.drop_left' (by rw [List.length_take]; omega)]
      simp only [m_assessorref26_Propagate_lp1, ltB hkl, if_true, inK_up hkl (show S.length ≤ 9223372036854775807 by omega), bsm, e1, ref_isClause (show 0 ≤ f.vars ∧ f.vars ≤ 1099511627776 by omega) (show [a].length ≤ 9223372036854775807 by simp), clF_one]
      cases sOk f.vars a <;> rfl
    · simp only [m_assessorref26_Propagate_lp1, ltB', if_false, Bool.false_eq_true]
  · rw [if_pos (by simp [hv])]
    refine ⟨_, rfl, ?_⟩
    unfold PropOk
    rw [if_neg (fun h => hv h.1)]
end Go.Proofs.YtelioaepnpnojaaGreatDoor

/- The program's Propagate: what it computes is unit propagation. -/
set_option linter.unusedVariables false
set_option linter.unusedSimpArgs false
namespace Go.Proofs.YtelioaepnpnojaaGreatDoor
open Go.RowKit
structure PSt (n : Int) (F : List (List Int)) (S val lst : List Int) (fails : Bool) : Prop where
  vok : ValOk n F S val
  mem : ∀ x, x ∈ lst ↔ x ≠ 0 ∧ gv val x = some x
  nd : (lst.map vr).Nodup
  fl : fails = true → Fails F S
  len : (lst.length : Int) + zeros val = n + 1
structure Ext (val lst : List Int) (fails : Bool) (val' lst' : List Int) (fails' : Bool) : Prop where
  app : ∃ m, lst' = lst ++ m
  val : ∀ x, gv val x ≠ some 0 → gv val' x = gv val x
  fl : fails = true → fails' = true
theorem Ext.rf (val lst : List Int) (fails : Bool) : Ext val lst fails val lst fails := ⟨⟨[], by simp⟩, fun _ _ => rfl, fun h => h⟩
theorem Ext.tr {v1 l1 v2 l2 v3 l3 : List Int} {f1 f2 f3 : Bool} (h : Ext v1 l1 f1 v2 l2 f2) (k : Ext v2 l2 f2 v3 l3 f3) : Ext v1 l1 f1 v3 l3 f3 := by
  obtain ⟨m, hm⟩ := h.app
  obtain ⟨m', hm'⟩ := k.app
  refine ⟨⟨m ++ m', by rw [hm', hm, List.append_assoc]⟩, fun x hx => ?_, fun e => k.fl (h.fl e)⟩
  rw [k.val x (by rw [h.val x hx]; exact hx), h.val x hx]
theorem PSt.lit {n : Int} {F : List (List Int)} {S val lst : List Int} {fails : Bool} (hL : Lits n F S) (h : PSt n F S val lst fails) {x : Int} (hx : x ∈ lst) : x ≠ 0 ∧ vr x ≤ n ∧ UP F S x := by
  obtain ⟨h0, h1⟩ := (h.mem x).1 hx
  have hu := h.vok.up h0 h1
  exact ⟨h0, (hu.lit hL).2, hu⟩
theorem add_ok {n : Int} {F : List (List Int)} {S : List Int} (hL : Lits n F S) {p : PSet} (h : PSt n F S p.value p.list p.fails) {l : Int} (hu : UP F S l) :
    ∃ p', m_cnf_set_add p l = some p' ∧ p'.f = p.f ∧ p'.places = p.places ∧ p'.left = p.left ∧ PSt n F S p'.value p'.list p'.fails ∧ Ext p.value p.list p.fails p'.value p'.list p'.fails ∧ gv p'.value l ≠ some 0 ∧ (gv p'.value l = some l ∨ p'.fails = true) := by
  obtain ⟨h0, hn⟩ := hu.lit hL
  have hnn := hL.nn
  have hb := vr_le.1 hn
  obtain ⟨x, hx1, hx2, hx3⟩ := h.vok.get hn
  have e1 : inK .i64 (0 - l) = some (-l) := inK_at (by omega) ⟨by omega, by omega⟩
  have hlen := h.len
  have happ : app p.list [l] = some (p.list ++ [l]) := app_ok (by simp; omega)
  by_cases hx0 : x = 0
  · subst hx0
    refine ⟨⟨p.f, p.value.set (vr l).toNat l, p.places, p.left, p.list ++ [l], p.fails⟩, ?_, rfl, rfl, rfl, ?_, ?_, ?_, Or.inl (by simp only; rw [gv_set h.vok.len hn, if_pos rfl])⟩
    · simp only [m_cnf_set_add, var_ok (show -9223372036854775807 ≤ l ∧ l ≤ 9223372036854775807 by omega), bsm, hx2, happ, decide_true, if_true]
    · refine ⟨h.vok.set h0 hn hu, fun y => ?_, ?_, h.fl, ?_⟩
      · rw [List.mem_append, List.mem_singleton, h.mem]
        simp only
        rw [gv_set h.vok.len hn]
        by_cases e : vr y = vr l
        · rw [if_pos e]
          constructor
          · rintro (⟨a, b⟩ | rfl)
            · unfold gv at b hx1
              rw [e, hx1] at b
              exact absurd (Option.some.inj b).symm a
            · exact ⟨h0, rfl⟩
          · rintro ⟨a, b⟩
            exact Or.inr (Option.some.inj b).symm
        · rw [if_neg e]
          constructor
          · rintro (h | rfl)
            · exact h
            · exact absurd rfl e
          · exact Or.inl
      · simp only [List.map_append, List.map_cons, List.map_nil]
        refine List.nodup_append.2 ⟨h.nd, by simp, fun a ha b hb e => ?_⟩
        obtain rfl := List.mem_singleton.1 hb
        obtain ⟨y, hy, hya⟩ := List.mem_map.1 ha
        obtain ⟨hy0, hy1⟩ := (h.mem y).1 hy
        unfold gv at hy1 hx1
        rw [hya, e, hx1] at hy1
        exact hy0 (Option.some.inj hy1).symm
      · have hz := zeros_set h0 (val := p.value) (i := (vr l).toNat) hx1
        simp only [List.length_append, List.length_singleton]
        omega
    · refine ⟨⟨[l], rfl⟩, fun y hy => ?_, fun e => e⟩
      simp only
      rw [gv_set h.vok.len hn]
      by_cases e : vr y = vr l
      · unfold gv at hy hx1
        rw [e, hx1] at hy
        exact absurd rfl hy
      · rw [if_neg e]
    · simp only
      rw [gv_set h.vok.len hn, if_pos rfl]
      intro e
      exact h0 (Option.some.inj e)
  · by_cases hxl : x = -l
    · subst hxl
      refine ⟨⟨p.f, p.value, p.places, p.left, p.list, true⟩, ?_, rfl, rfl, rfl, ⟨h.vok, h.mem, h.nd, fun _ => ?_, h.len⟩, ⟨⟨[], by simp⟩, fun _ _ => rfl, fun _ => rfl⟩, ?_, Or.inr rfl⟩
      · simp only [m_cnf_set_add, var_ok (show -9223372036854775807 ≤ l ∧ l ≤ 9223372036854775807 by omega), bsm, hx2, hx0, decide_false, Bool.false_eq_true, if_false, e1, decide_true, if_true]
      · exact Or.inl ⟨l, hu, h.vok.sound _ _ hx1 hx0⟩
      · rw [show gv p.value l = some (-l) from hx1]; intro e; exact hx0 (Option.some.inj e)
    · refine ⟨p, ?_, rfl, rfl, rfl, h, Ext.rf _ _ _, ?_, Or.inl (by rcases hx3 with e | e | e; exact absurd e hx0; rw [hx1, e]; exact absurd e hxl)⟩
      · simp only [m_cnf_set_add, var_ok (show -9223372036854775807 ≤ l ∧ l ≤ 9223372036854775807 by omega), bsm, hx2, hx0, hxl, decide_false, Bool.false_eq_true, if_false, e1]
      · rw [hx1]; intro e; exact hx0 (Option.some.inj e)
def cnt (proc c : List Int) : Nat := (c.filter fun y => !decide (-y ∈ proc)).length
theorem cnt_zero {proc c : List Int} (h : cnt proc c = 0) : ∀ y ∈ c, -y ∈ proc := by
  intro y hy
  unfold cnt at h
  have := List.eq_nil_of_length_eq_zero h
  have h2 := List.filter_eq_nil_iff.1 this y hy
  simpa using h2
theorem cnt_one {proc c : List Int} (h : cnt proc c = 1) : ∃ y ∈ c, -y ∉ proc ∧ ∀ z ∈ c, -z ∉ proc → z = y := by
  unfold cnt at h
  obtain ⟨y, hy⟩ := List.length_eq_one_iff.1 h
  have h1 : y ∈ c.filter fun y => !decide (-y ∈ proc) := by rw [hy]; simp
  rw [List.mem_filter] at h1
  refine ⟨y, h1.1, by simpa using h1.2, fun z hz hz' => ?_⟩
  have : z ∈ c.filter fun y => !decide (-y ∈ proc) := List.mem_filter.2 ⟨hz, by simpa using hz'⟩
  rw [hy] at this
  exact List.mem_singleton.1 this
theorem cnt_two {proc c : List Int} (hn : c.Nodup) (h : 2 ≤ cnt proc c) : ∃ y ∈ c, ∃ z ∈ c, y ≠ z ∧ -y ∉ proc ∧ -z ∉ proc := by
  unfold cnt at h
  have hnf := hn.filter (fun y => !decide (-y ∈ proc))
  generalize hl : (c.filter fun y => !decide (-y ∈ proc)) = l at h hnf
  match l, h, hnf with
  | y :: z :: r, _, hnf =>
    have hy : y ∈ c.filter fun y => !decide (-y ∈ proc) := by rw [hl]; simp
    have hz : z ∈ c.filter fun y => !decide (-y ∈ proc) := by rw [hl]; simp
    rw [List.mem_filter] at hy hz
    refine ⟨y, hy.1, z, hz.1, ?_, by simpa using hy.2, by simpa using hz.2⟩
    intro e
    subst e
    simp at hnf
theorem cnt_nil (c : List Int) : cnt [] c = c.length := by
  unfold cnt
  rw [List.filter_eq_self.2 (fun a _ => by simp)]
theorem cnt_same {proc c : List Int} {x : Int} (h : -x ∉ c) : cnt (proc ++ [x]) c = cnt proc c := by
  unfold cnt
  congr 1
  refine List.filter_congr fun y hy => ?_
  have : ¬ -y = x := fun e => h (by rw [← e, Int.neg_neg]; exact hy)
  simp [this]
theorem cnt_less {proc : List Int} {x : Int} (hx : x ∉ proc) : ∀ {c : List Int}, c.Nodup → -x ∈ c → cnt (proc ++ [x]) c + 1 = cnt proc c
  | [], _, h => by simp at h
  | y :: c, hn, h => by
    have hn' := List.nodup_cons.1 hn
    have hc : ∀ (q : List Int), cnt q (y :: c) = (if -y ∈ q then 0 else 1) + cnt q c := by
      intro q
      unfold cnt
      rw [List.filter_cons]
      by_cases hq : -y ∈ q
      · simp [hq]
      · simp [hq]; omega
    rw [hc, hc]
    by_cases e : y = -x
    · subst e
      have h1 : - -x ∈ proc ++ [x] := by simp
      have h2 : ¬ - -x ∈ proc := by rw [Int.neg_neg]; exact hx
      rw [if_pos h1, if_neg h2, cnt_same hn'.1]; omega
    · have h1 : -x ∈ c := by rcases List.mem_cons.1 h with h | h; exact absurd h.symm e; exact h
      have ih := cnt_less hx hn'.2 h1
      have h2 : (-y ∈ proc ++ [x]) ↔ (-y ∈ proc) := by
        rw [List.mem_append, List.mem_singleton]
        exact ⟨fun h => h.elim id (fun h => absurd (show y = -x by omega) e), Or.inl⟩
      by_cases hq : -y ∈ proc
      · rw [if_pos (h2.2 hq), if_pos hq]; omega
      · rw [if_neg (fun h => hq (h2.1 h)), if_neg hq]; omega
def WW (proc c val : List Int) (fails : Bool) : Prop := cnt proc c < 2 → fails = true ∨ ∃ y ∈ c, -y ∉ proc ∧ gv val y ≠ some 0
theorem WW.mono {proc c val lst val' lst' : List Int} {fails fails' : Bool} (h : WW proc c val fails) (k : Ext val lst fails val' lst' fails') : WW proc c val' fails' := fun hc => by
  rcases h hc with e | ⟨y, hy, h1, h2⟩
  · exact Or.inl (k.fl e)
  · exact Or.inr ⟨y, hy, h1, by rw [k.val y h2]; exact h2⟩
theorem WW.same {proc c val : List Int} {fails : Bool} {x : Int} (hx : -x ∉ c) (h : WW proc c val fails) : WW (proc ++ [x]) c val fails := fun hc => by
  rw [cnt_same hx] at hc
  rcases h hc with e | ⟨y, hy, h1, h2⟩
  · exact Or.inl e
  · refine Or.inr ⟨y, hy, fun h => ?_, h2⟩
    rcases List.mem_append.1 h with h | h
    · exact h1 h
    · exact hx (by rw [← List.mem_singleton.1 h, Int.neg_neg]; exact hy)
theorem look_ok {n : Int} {S : List Int} {p : PSet} (hL : Lits n p.f.clauses S) (h : PSt n p.f.clauses S p.value p.list p.fails) {i : Int} {c : List Int} (hi : idx p.f.clauses i = some c) {proc : List Int} (hp : ∀ x ∈ proc, x ∈ p.list) (hl : idx p.left i = some (cnt proc c : Int)) (hcl : c.length ≤ 4294967296) :
    ∃ p', m_cnf_set_look p i = some p' ∧ p'.f = p.f ∧ p'.places = p.places ∧ p'.left = p.left ∧ PSt n p.f.clauses S p'.value p'.list p'.fails ∧ Ext p.value p.list p.fails p'.value p'.list p'.fails ∧ WW proc c p'.value p'.fails := by
  have hcm : c ∈ p.f.clauses := mem_get (idx_some hi).2.2
  have hnn := hL.nn
  by_cases h0 : cnt proc c = 0
  · refine ⟨⟨p.f, p.value, p.places, p.left, p.list, true⟩, ?_, rfl, rfl, rfl, ⟨h.vok, h.mem, h.nd, fun _ => Or.inr ⟨c, hcm, fun y hy => ?_⟩, h.len⟩, ⟨⟨[], by simp⟩, fun _ _ => rfl, fun _ => rfl⟩, fun _ => Or.inl rfl⟩
    · simp only [m_cnf_set_look, hl, bsm, h0]; rfl
    · exact (h.lit hL (hp _ (cnt_zero h0 y hy))).2.2
  · by_cases h1 : cnt proc c = 1
    · obtain ⟨y0, hy0, hy1, hy2⟩ := cnt_one h1
      have hscan := scan_loop (body := fun s => m_cnf_set_look_lp1 p c s) c (fun y => !decide (gv p.value y = some (-y))) (fun k y => match m_cnf_set_add p y with | some x7 => Out.ret (PSet.mk p.f x7.value p.places x7.left x7.list x7.fails) | none => Out.brk ()) (Out.brk ()) ?_ ?_
      · rcases hscan with ⟨k, y, a1, a2, _, _, _, e⟩ | ⟨a1, _, _, e⟩
        · have hyc := mem_get a1
          have a2 : gv p.value y ≠ some (-y) := by simpa using a2
          have hyp : -y ∉ proc := fun hq => a2 (by rw [← gv_neg]; exact ((h.mem _).1 (hp _ hq)).2)
          have hyu : UP p.f.clauses S y := by
            refine UP.unit hcm hyc fun z hz hzy => ?_
            have : -z ∈ proc := Decidable.byContradiction fun hq => hzy ((hy2 z hz hq).trans (hy2 y hyc hyp).symm)
            exact (h.lit hL (hp _ this)).2.2
          obtain ⟨p', b1, b2, b3, b4, b5, b6, b7, _⟩ := add_ok hL h hyu
          rw [b1] at e
          refine ⟨⟨p.f, p'.value, p.places, p'.left, p'.list, p'.fails⟩, ?_, rfl, rfl, b4, b5, b6, fun _ => Or.inr ⟨y, hyc, hyp, b7⟩⟩
          simp only [m_cnf_set_look, hl, bsm, h1, hi, e]; rfl
        · refine ⟨p, ?_, rfl, rfl, rfl, h, Ext.rf _ _ _, fun _ => Or.inr ⟨y0, hy0, hy1, ?_⟩⟩
          · simp only [m_cnf_set_look, hl, bsm, h1, hi, e]; rfl
          · have := a1 y0 hy0
            have : gv p.value y0 = some (-y0) := by simpa using this
            rw [this]
            intro e
            exact (hL.cl c hcm y0 hy0).1 (by have := Option.some.inj e; omega)
      · intro k y hk
        have hkl := len_lt hk
        obtain ⟨g0, g1⟩ := hL.cl c hcm y (mem_get hk)
        have gb := vr_le.1 g1
        obtain ⟨x, hx1, hx2, hx3⟩ := h.vok.get g1
        have e1 : inK .i64 (0 - y) = some (-y) := inK_at (by omega) ⟨by omega, by omega⟩
        simp only [m_cnf_set_look_lp1, ltB hkl, if_true, idx_nat hk, bsm, var_ok (show -9223372036854775807 ≤ y ∧ y ≤ 9223372036854775807 by omega), hx2, e1, inK_up hkl (show c.length ≤ 9223372036854775807 by omega), hx1]
        by_cases hxy : x = -y
        · simp [hxy]
        · have hne : ¬ some x = some (-y) := fun e => hxy (Option.some.inj e)
          simp only [hxy, hne, decide_false, Bool.not_false, if_true]
          have hsome : ∃ q, m_cnf_set_add p y = some q := by
            have happ : app p.list [y] = some (p.list ++ [y]) := app_ok (by have := h.len; simp; omega)
            simp only [m_cnf_set_add, var_ok (show -9223372036854775807 ≤ y ∧ y ≤ 9223372036854775807 by omega), bsm, hx2, happ, e1]
            split
            · exact ⟨_, rfl⟩
            · split <;> exact ⟨_, rfl⟩
          obtain ⟨q, hq⟩ := hsome
          simp only [hq, bsm]
      · simp only [m_cnf_set_look_lp1, ltB', if_false, Bool.false_eq_true]
    · refine ⟨p, ?_, rfl, rfl, rfl, h, Ext.rf _ _ _, fun hc => by omega⟩
      have c0 : ¬ (cnt proc c : Int) = 0 := by omega
      have c1 : ¬ (cnt proc c : Int) = 1 := by omega
      simp only [m_cnf_set_look, hl, bsm, c0, c1, decide_false, Bool.false_eq_true, if_false]
def idxL (l : Int) : Int := if l < 0 then -2 * l + 1 else 2 * l
theorem index_ok {l : Int} (h : -1099511627776 ≤ l ∧ l ≤ 1099511627776) : m_cnf_index l = some (idxL l) := by
  unfold m_cnf_index idxL
  by_cases h0 : l < 0
  · rw [if_pos (by simpa using h0), if_pos h0, inK_eq ⟨by omega, by omega⟩, bsm, inK_eq ⟨by omega, by omega⟩, bsm]
  · rw [if_neg (by simpa using h0), if_neg h0, inK_eq ⟨by omega, by omega⟩, bsm]
theorem idxL_inj {l m : Int} (h : idxL l = idxL m) (h0 : l ≠ 0) : l = m := by
  unfold idxL at h
  split at h <;> split at h <;> omega
theorem idxL_bnd {l n : Int} (h : -n ≤ l ∧ l ≤ n) : 0 ≤ idxL l ∧ idxL l < 2 * n + 2 := by
  unfold idxL; split <;> omega
structure Tab (n : Int) (F : List (List Int)) (k : Nat) (c : List Int) (tab : List (List Int)) : Prop where
  len : (tab.length : Int) = 2 * n + 2
  at_ : ∀ l, l ≠ 0 → vr l ≤ n → ∃ ps, tab[(idxL l).toNat]? = some ps ∧ ps.Nodup ∧ ps.length ≤ k + 1 ∧ (∀ i, i ∈ ps ↔ ((∃ (j : Nat) (d : List Int), i = (j : Int) ∧ j < k ∧ F[j]? = some d ∧ l ∈ d) ∨ (i = (k : Int) ∧ l ∈ c)))
theorem tab_lp2 {n : Int} {F : List (List Int)} {S : List Int} (hL : Lits n F S) {k : Nat} {c : List Int} (hk : F[k]? = some c) (hc : c.length ≤ 4294967296) (hkb : k ≤ 262144) {tab : List (List Int)} (h : Tab n F k [] tab) :
    ∃ b, loopM (fun s : Int × List (List Int) => m_cnf_Propagate_lp2 (k : Int) c s.1 s.2) (0, tab) = some b ∧ Tab n F k c b := by
  have hnn := hL.nn
  refine loopN (body := fun s : Int × List (List Int) => m_cnf_Propagate_lp2 (k : Int) c s.1 s.2) c.length (fun j t => ((j : Int), t)) (fun j t => Tab n F k (c.take j) t) (fun b => Tab n F k c b) (t0 := tab) rfl (by simpa using h) ?_ ?_
  · intro j t hj hT
    obtain ⟨y, hy⟩ := get_of_lt hj
    obtain ⟨y0, yn⟩ := hL.cl c (mem_get hk) y (mem_get hy)
    have yb := vr_le.1 yn
    have hib := idxL_bnd yb
    obtain ⟨ps, hps, hnd, hpl, hpm⟩ := hT.at_ y y0 yn
    have hyt : y ∉ c.take j := by
      intro hm
      have := hL.nd c (mem_get hk)
      rw [← List.take_append_drop j c, drop_cons_of hy] at this
      exact (List.nodup_append.1 this).2.2 y hm y (List.mem_cons_self ..) rfl
    refine Or.inl ⟨t.set (idxL y).toNat (ps ++ [(k : Int)]), ?_, ?_⟩
    · simp only [m_cnf_Propagate_lp2, ltB hj, if_true, idx_nat hy, bsm, index_ok (show -1099511627776 ≤ y ∧ y ≤ 1099511627776 by omega), idx_of hib.1 hps, app_ok (show ps.length + [(k : Int)].length ≤ 4294967296 by simp; omega), inK_up hj (show c.length ≤ 9223372036854775807 by omega), guardEq, if_true]
    · refine ⟨by rw [List.length_set]; exact hT.len, fun l l0 ln => ?_⟩
      have hlb := idxL_bnd (vr_le.1 ln)
      have hlen := hT.len
      by_cases e : l = y
      · subst e
        refine ⟨ps ++ [(k : Int)], ?_, ?_, ?_, fun i => ?_⟩
        · rw [List.getElem?_set, if_pos rfl, if_pos (by omega)]
        · refine List.nodup_append.2 ⟨hnd, by simp, fun a ha b hb e => ?_⟩
          obtain rfl := List.mem_singleton.1 hb
          subst e
          rcases (hpm _).1 ha with ⟨j', d, e1, e2, _⟩ | ⟨_, h2⟩
          · omega
          · exact hyt h2
        ·
          have hlt : ∀ a ∈ ps, 0 ≤ a ∧ a < (k : Int) := fun a ha => by
            rcases (hpm a).1 ha with ⟨j', d, e1, e2, _⟩ | ⟨_, h2⟩
            · omega
            · exact absurd h2 hyt
          have hle : ps.length ≤ k := by
            have hsub : ∀ (m : Nat) (q : List Int), q.Nodup → (∀ a ∈ q, 0 ≤ a ∧ a < (m : Int)) → q.length ≤ m := by
              intro m
              induction m with
              | zero => intro q _ hq; cases q with | nil => simp | cons a q => have := hq a (List.mem_cons_self ..); omega
              | succ m ih =>
                intro q hq hb
                have h1 := ih (q.filter fun a => decide (a ≠ (m : Int))) (hq.filter _) (fun a ha => by
                  rw [List.mem_filter] at ha
                  have := hb a ha.1
                  have : a ≠ (m : Int) := by simpa using ha.2
                  omega)
                have h2 : ∀ (q : List Int), q.Nodup → q.length ≤ (q.filter fun a => decide (a ≠ (m : Int))).length + 1 := by
                  intro q
                  induction q with
                  | nil => intro _; simp
                  | cons a q ih =>
                    intro hn
                    have hn' := List.nodup_cons.1 hn
                    rw [List.filter_cons]
                    by_cases e : a = (m : Int)
                    · have : q.filter (fun a => decide (a ≠ (m : Int))) = q := List.filter_eq_self.2 fun b hb => by
                        have : b ≠ (m : Int) := fun e' => hn'.1 (by rw [e, ← e']; exact hb)
                        simpa using this
                      rw [if_neg (by simp [e]), this]; simp
                    · rw [if_pos (by simpa using e)]
                      have := ih hn'.2
                      simp only [List.length_cons]; omega
                have := h2 q hq
                omega
            exact hsub k ps hnd hlt
          simp; omega
        · rw [List.mem_append, List.mem_singleton, hpm, take_snoc_of hy]
          constructor
          · rintro ((h | ⟨h1, h2⟩) | h)
            · exact Or.inl h
            · exact Or.inr ⟨h1, List.mem_append_left _ h2⟩
            · exact Or.inr ⟨h, by simp⟩
          · rintro (h | ⟨h1, h2⟩)
            · exact Or.inl (Or.inl h)
            · exact Or.inr h1
      · obtain ⟨qs, hq1, hq2, hq3, hq4⟩ := hT.at_ l l0 ln
        refine ⟨qs, ?_, hq2, hq3, fun i => ?_⟩
        · rw [List.getElem?_set, if_neg ?_]
          · exact hq1
          · intro e2
            exact e (idxL_inj (by omega) l0)
        · rw [hq4, take_snoc_of hy, List.mem_append, List.mem_singleton]
          constructor
          · rintro (h | ⟨h1, h2⟩)
            · exact Or.inl h
            · exact Or.inr ⟨h1, Or.inl h2⟩
          · rintro (h | ⟨h1, h2 | h2⟩)
            · exact Or.inl h
            · exact Or.inr ⟨h1, h2⟩
            · exact absurd h2 e
  · intro t hT
    refine ⟨t, ?_, ?_⟩
    · simp only [m_cnf_Propagate_lp2, ltB', if_false, Bool.false_eq_true]
    · rw [List.take_length] at hT; exact hT
theorem Tab.next {n : Int} {F : List (List Int)} {k : Nat} {c : List Int} {tab : List (List Int)} (h : Tab n F k c tab) (hk : F[k]? = some c) : Tab n F (k + 1) [] tab := by
  refine ⟨h.len, fun l l0 ln => ?_⟩
  obtain ⟨ps, h1, h2, h3, h4⟩ := h.at_ l l0 ln
  refine ⟨ps, h1, h2, by omega, fun i => ?_⟩
  rw [h4]
  constructor
  · rintro (⟨j, d, a, b, e⟩ | ⟨a, b⟩)
    · exact Or.inl ⟨j, d, a, by omega, e⟩
    · exact Or.inl ⟨k, c, a, by omega, hk, b⟩
  · rintro (⟨j, d, a, b, e1, e2⟩ | ⟨_, b⟩)
    · by_cases e : j = k
      · subst e; rw [hk] at e1; obtain rfl := Option.some.inj e1; exact Or.inr ⟨a, e2⟩
      · exact Or.inl ⟨j, d, a, by omega, e1, e2⟩
    · simp at b
theorem tab_lp1 {f : Formula} {S : List Int} (hL : Lits f.vars f.clauses S) (hlen : f.clauses.length ≤ 262144) (hl : ∀ c ∈ f.clauses, c.length ≤ 4294967296) :
    ∃ b, loopM (fun s : Int × List Int × List (List Int) => m_cnf_Propagate_lp1 f s.1 s.2.1 s.2.2) (0, [], List.replicate (2 * f.vars + 2).toNat []) = some b ∧ b.1 = f.clauses.map (fun c => (c.length : Int)) ∧ Tab f.vars f.clauses f.clauses.length [] b.2 := by
  have hnn := hL.nn
  refine loopN (body := fun s : Int × List Int × List (List Int) => m_cnf_Propagate_lp1 f s.1 s.2.1 s.2.2) f.clauses.length (fun k t => ((k : Int), t.1, t.2)) (fun k t => t.1 = (f.clauses.take k).map (fun c => (c.length : Int)) ∧ Tab f.vars f.clauses k [] t.2) _ (t0 := ([], List.replicate (2 * f.vars + 2).toNat [])) rfl ⟨rfl, ?_⟩ ?_ ?_
  · refine ⟨by rw [List.length_replicate]; omega, fun l l0 ln => ⟨[], ?_, List.nodup_nil, by simp, fun i => ?_⟩⟩
    · have := idxL_bnd (vr_le.1 ln)
      rw [List.getElem?_replicate, if_pos (by omega)]
    · simp
  · rintro k ⟨left, tab⟩ hk ⟨h1, h2⟩
    simp only at h1 h2
    obtain ⟨c, hc⟩ := get_of_lt hk
    obtain ⟨b, hb, hT⟩ := tab_lp2 hL hc (hl c (mem_get hc)) (by omega) h2
    refine Or.inl ⟨(left ++ [(c.length : Int)], b), ?_, ?_, hT.next hc⟩
    · have hll : left.length ≤ 262144 := by rw [h1, List.length_map, List.length_take]; omega
      simp only [m_cnf_Propagate_lp1, ltB hk, if_true, idx_nat hc, bsm, app_ok (show left.length + [(c.length : Int)].length ≤ 4294967296 by simp; omega), hb, inK_up hk (show f.clauses.length ≤ 9223372036854775807 by omega)]
    · simp only
      rw [h1, take_snoc_of hc, List.map_append]; rfl
  · rintro ⟨left, tab⟩ ⟨h1, h2⟩
    refine ⟨(left, tab), ?_, ?_, h2⟩
    · simp only [m_cnf_Propagate_lp1, ltB', if_false, Bool.false_eq_true]
    · rw [List.take_length] at h1; exact h1
abbrev LT := List Int × List Int × Bool × List Int
def LP (n : Int) (F : List (List Int)) (S : List Int) (t : LT) : Prop := PSt n F S t.2.2.2 t.1 t.2.2.1
def LE (t u : LT) : Prop := Ext t.2.2.2 t.1 t.2.2.1 u.2.2.2 u.1 u.2.2.1
theorem LE.rf (t : LT) : LE t t := Ext.rf _ _ _
theorem start_mono {val lst val' lst' : List Int} {fa fa' : Bool} {y : Int} (h0 : y ≠ 0) (h : gv val y = some y ∨ fa = true) (k : Ext val lst fa val' lst' fa') : gv val' y = some y ∨ fa' = true := by
  rcases h with h | h
  · left
    rw [k.val y (by rw [h]; intro e; exact h0 (Option.some.inj e))]; exact h
  · exact Or.inr (k.fl h)
theorem prop_lp3 {f : Formula} {S : List Int} (hL : Lits f.vars f.clauses S) (hS : S.length ≤ 4294967296) (b5 : List Int × List (List Int)) {t0 : LT} (h0 : LP f.vars f.clauses S t0) :
    ∃ t, loopM (fun s : Int × LT => m_cnf_Propagate_lp3 f S b5 s.1 s.2.1 s.2.2.1 s.2.2.2.1 s.2.2.2.2) (0, t0) = some t ∧ LP f.vars f.clauses S t ∧ t.2.1 = t0.2.1 ∧ ∀ x ∈ S, gv t.2.2.2 x = some x ∨ t.2.2.1 = true := by
  refine loopN (body := fun s : Int × LT => m_cnf_Propagate_lp3 f S b5 s.1 s.2.1 s.2.2.1 s.2.2.2.1 s.2.2.2.2) S.length (fun k t => ((k : Int), t)) (fun k t => LP f.vars f.clauses S t ∧ t.2.1 = t0.2.1 ∧ ∀ j x, j < k → S[j]? = some x → gv t.2.2.2 x = some x ∨ t.2.2.1 = true) _ (t0 := t0) rfl ⟨h0, rfl, fun j x hj => by omega⟩ ?_ ?_
  · rintro k ⟨li, le, fa, va⟩ hk ⟨h1, h2, h3⟩
    obtain ⟨x, hx⟩ := get_of_lt hk
    obtain ⟨p', a1, a2, a3, a4, a5, a6, _, a7⟩ := add_ok hL (p := ⟨f, va, b5.2, le, li, fa⟩) h1 (UP.start (mem_get hx))
    refine Or.inl ⟨(p'.list, p'.left, p'.fails, p'.value), ?_, a5, ?_, fun j y hj hy => ?_⟩
    · simp only [m_cnf_Propagate_lp3, ltB hk, if_true, idx_nat hx, bsm, a1, inK_up hk (show S.length ≤ 9223372036854775807 by omega)]
    · show p'.left = _; rw [a4]; exact h2
    · by_cases e : j = k
      · subst e; rw [hx] at hy; obtain rfl := Option.some.inj hy; exact a7
      · exact start_mono (hL.st y (mem_get hy)).1 (h3 j y (by omega) hy) a6
  · rintro ⟨li, le, fa, va⟩ ⟨h1, h2, h3⟩
    refine ⟨(li, le, fa, va), ?_, h1, h2, fun x hx => ?_⟩
    · simp only [m_cnf_Propagate_lp3, ltB', if_false, Bool.false_eq_true]
    · obtain ⟨j, hj⟩ := List.getElem?_of_mem hx
      exact h3 j x (len_lt hj) hj
def LeftOk (F : List (List Int)) (proc : Int → List Int) (left : List Int) : Prop := left.length = F.length ∧ ∀ (i : Nat) c, F[i]? = some c → left[i]? = some (cnt (proc i) c : Int)
theorem prop_lp4 {f : Formula} {S : List Int} (hL : Lits f.vars f.clauses S) (hlen : f.clauses.length ≤ 262144) (hl : ∀ c ∈ f.clauses, c.length ≤ 4294967296) (b5 : List Int × List (List Int)) {t0 : LT} (h0 : LP f.vars f.clauses S t0) (hleft : LeftOk f.clauses (fun _ => []) t0.2.1) :
    ∃ t, loopM (fun s : Int × LT => m_cnf_Propagate_lp4 f b5 s.1 s.2.1 s.2.2.1 s.2.2.2.1 s.2.2.2.2) (0, t0) = some t ∧ LP f.vars f.clauses S t ∧ LE t0 t ∧ t.2.1 = t0.2.1 ∧ ∀ c ∈ f.clauses, WW [] c t.2.2.2 t.2.2.1 := by
  refine loopN (body := fun s : Int × LT => m_cnf_Propagate_lp4 f b5 s.1 s.2.1 s.2.2.1 s.2.2.2.1 s.2.2.2.2) f.clauses.length (fun k t => ((k : Int), t)) (fun k t => LP f.vars f.clauses S t ∧ LE t0 t ∧ t.2.1 = t0.2.1 ∧ ∀ j c, j < k → f.clauses[j]? = some c → WW [] c t.2.2.2 t.2.2.1) _ (t0 := t0) rfl ⟨h0, LE.rf _, rfl, fun j x hj => by omega⟩ ?_ ?_
  · rintro k ⟨li, le, fa, va⟩ hk ⟨h1, h2, h3, h4⟩
    simp only at h3
    obtain ⟨c, hc⟩ := get_of_lt hk
    have hle : le[k]? = some (cnt [] c : Int) := by rw [h3]; exact hleft.2 k c hc
    by_cases h2c : (cnt [] c : Int) < 2
    · obtain ⟨p', a1, a2, a3, a4, a5, a6, a7⟩ := look_ok (p := ⟨f, va, b5.2, le, li, fa⟩) hL h1 (idx_nat hc) (proc := []) (by simp) (idx_nat hle) (hl c (mem_get hc))
      refine Or.inl ⟨(p'.list, p'.left, p'.fails, p'.value), ?_, a5, Ext.tr h2 a6, ?_, fun j d hj hd => ?_⟩
      · simp only [m_cnf_Propagate_lp4, ltB hk, if_true, idx_nat hle, bsm, h2c, decide_true, a1, inK_up hk (show f.clauses.length ≤ 9223372036854775807 by omega)]
      · show p'.left = _; rw [a4]; exact h3
      · by_cases e : j = k
        · subst e; rw [hc] at hd; obtain rfl := Option.some.inj hd; exact a7
        · exact (h4 j d (by omega) hd).mono a6
    · refine Or.inl ⟨(li, le, fa, va), ?_, h1, h2, h3, fun j d hj hd => ?_⟩
      · simp only [m_cnf_Propagate_lp4, ltB hk, if_true, idx_nat hle, bsm, h2c, decide_false, Bool.false_eq_true, if_false, inK_up hk (show f.clauses.length ≤ 9223372036854775807 by omega)]
      · by_cases e : j = k
        · subst e; rw [hc] at hd; obtain rfl := Option.some.inj hd; intro hh; omega
        · exact h4 j d (by omega) hd
  · rintro ⟨li, le, fa, va⟩ ⟨h1, h2, h3, h4⟩
    refine ⟨(li, le, fa, va), ?_, h1, h2, h3, fun c hc => ?_⟩
    · simp only [m_cnf_Propagate_lp4, ltB', if_false, Bool.false_eq_true]
    · obtain ⟨j, hj⟩ := List.getElem?_of_mem hc
      exact h4 j c (len_lt hj) hj
def procI (proc : List Int) (x : Int) (q : List Int) (i : Int) : List Int := if i ∈ q then proc else proc ++ [x]
theorem pI_y {proc q : List Int} {x i : Int} (h : i ∈ q) : procI proc x q i = proc := if_pos h
theorem pI_n {proc q : List Int} {x i : Int} (h : i ∉ q) : procI proc x q i = proc ++ [x] := if_neg h
theorem prop_lp6 {f : Formula} {S : List Int} (hL : Lits f.vars f.clauses S) (hlen : f.clauses.length ≤ 262144) (hl : ∀ c ∈ f.clauses, c.length ≤ 4294967296) (b5 : List Int × List (List Int)) {t0 : LT} (h0 : LP f.vars f.clauses S t0)
    {proc : List Int} {x : Int} (hx : x ∉ proc) (hpx : ∀ y ∈ proc ++ [x], y ∈ t0.1) {ps : List Int} (hnd : ps.Nodup) (hpl : ps.length ≤ 4294967296) (hps : ∀ i, i ∈ ps ↔ ∃ (j : Nat) (d : List Int), i = (j : Int) ∧ f.clauses[j]? = some d ∧ -x ∈ d)
    (hleft : LeftOk f.clauses (fun _ => proc) t0.2.1) (hW : ∀ c ∈ f.clauses, WW proc c t0.2.2.2 t0.2.2.1) :
    ∃ t, loopM (fun s : Int × LT => m_cnf_Propagate_lp6 f b5 ps s.1 s.2.1 s.2.2.1 s.2.2.2.1 s.2.2.2.2) (0, t0) = some t ∧ LP f.vars f.clauses S t ∧ LE t0 t ∧ LeftOk f.clauses (fun _ => proc ++ [x]) t.2.1 ∧ ∀ c ∈ f.clauses, WW (proc ++ [x]) c t.2.2.2 t.2.2.1 := by
  have hno : ∀ (i : Nat) c, f.clauses[i]? = some c → (i : Int) ∉ ps → -x ∉ c := fun i c hc hi hm => hi ((hps _).2 ⟨i, c, rfl, hc, hm⟩)
  refine loopN (body := fun s : Int × LT => m_cnf_Propagate_lp6 f b5 ps s.1 s.2.1 s.2.2.1 s.2.2.2.1 s.2.2.2.2) ps.length (fun k t => ((k : Int), t))
    (fun k t => LP f.vars f.clauses S t ∧ LE t0 t ∧ LeftOk f.clauses (procI proc x (ps.drop k)) t.2.1 ∧ ∀ (j : Nat) c, f.clauses[j]? = some c → WW (procI proc x (ps.drop k) j) c t.2.2.2 t.2.2.1) _ (t0 := t0) rfl ⟨h0, LE.rf _, ⟨hleft.1, fun i c hc => ?_⟩, fun j c hc => ?_⟩ ?_ ?_
  · rw [List.drop_zero]
    by_cases hi : (i : Int) ∈ ps
    · rw [pI_y hi]; exact hleft.2 i c hc
    · rw [pI_n hi, cnt_same (hno i c hc hi)]; exact hleft.2 i c hc
  · rw [List.drop_zero]
    by_cases hi : (j : Int) ∈ ps
    · rw [pI_y hi]; exact hW c (mem_get hc)
    · rw [pI_n hi]; exact (hW c (mem_get hc)).same (hno j c hc hi)
  · rintro k ⟨li, le, fa, va⟩ hk ⟨h1, h2, h3, h4⟩
    simp only at h3 h4
    obtain ⟨i, hi⟩ := get_of_lt hk
    obtain ⟨i, d, rfl, hd, hxd⟩ := (hps i).1 (mem_get hi)
    have hdm := mem_get hd
    have hdrop := drop_cons_of hi
    have hmem : (i : Int) ∈ ps.drop k := by rw [hdrop]; exact List.mem_cons_self ..
    have hnmem : (i : Int) ∉ ps.drop (k + 1) := by
      have := hnd
      rw [← List.take_append_drop k ps, hdrop] at this
      exact (List.nodup_cons.1 (List.nodup_append.1 this).2.1).1
    have hother : ∀ j : Int, j ≠ (i : Int) → (j ∈ ps.drop k ↔ j ∈ ps.drop (k + 1)) := fun j hj => by rw [hdrop]; simp [hj]
    have hle : le[i]? = some (cnt proc d : Int) := by have := h3.2 i d hd; rwa [pI_y hmem] at this
    have hcl := cnt_less hx (hL.nd d hdm) hxd
    have hil := len_lt hle
    have e31 : inK .i64 ((cnt proc d : Int) - 1) = some (cnt (proc ++ [x]) d : Int) := inK_at (by omega) ⟨by omega, by
      have : cnt (proc ++ [x]) d ≤ d.length := by unfold cnt; exact List.length_filter_le ..
      have := hl d hdm
      omega⟩
    have hset : (le.set ((i : Int)).toNat (cnt (proc ++ [x]) d : Int))[i]? = some (cnt (proc ++ [x]) d : Int) := by
      rw [List.getElem?_set, if_pos (by omega), if_pos (by omega)]
    have hleft' : LeftOk f.clauses (procI proc x (ps.drop (k + 1))) (le.set ((i : Int)).toNat (cnt (proc ++ [x]) d : Int)) := by
      refine ⟨by rw [List.length_set]; exact h3.1, fun j c hc => ?_⟩
      by_cases e : j = i
      · subst e
        rw [hd] at hc
        obtain rfl := Option.some.inj hc
        rw [pI_n hnmem]; exact hset
      · rw [List.getElem?_set, if_neg (by omega), h3.2 j c hc]
        have := hother j (by omega)
        by_cases hj : (j : Int) ∈ ps.drop k
        · rw [pI_y hj, pI_y (this.1 hj)]
        · rw [pI_n hj, pI_n (fun h => hj (this.2 h))]
    by_cases h2c : (cnt (proc ++ [x]) d : Int) < 2
    · obtain ⟨p', a1, a2, a3, a4, a5, a6, a7⟩ := look_ok (p := ⟨f, va, b5.2, le.set ((i : Int)).toNat (cnt (proc ++ [x]) d : Int), li, fa⟩) hL h1 (idx_nat hd) (proc := proc ++ [x]) (fun y hy => by
        obtain ⟨m, hm⟩ := h2.app
        show y ∈ li
        have : li = t0.1 ++ m := hm
        rw [this]
        exact List.mem_append_left _ (hpx y hy)) (idx_nat hset) (hl d hdm)
      refine Or.inl ⟨(p'.list, p'.left, p'.fails, p'.value), ?_, a5, Ext.tr h2 a6, ?_, fun j c hc => ?_⟩
      · simp only [m_cnf_Propagate_lp6, ltB hk, if_true, idx_nat hi, idx_nat hle, bsm, e31, idx_nat hset, h2c, decide_true, a1, inK_up hk (show ps.length ≤ 9223372036854775807 by omega)]
      · show LeftOk _ _ p'.left; rw [a4]; exact hleft'
      · by_cases e : j = i
        · subst e
          rw [hd] at hc
          obtain rfl := Option.some.inj hc
          rw [pI_n hnmem]; exact a7
        · have h5 := (h4 j c hc).mono a6
          have := hother j (by omega)
          by_cases hj : (j : Int) ∈ ps.drop k
          · rw [pI_y hj] at h5; rw [pI_y (this.1 hj)]; exact h5
          · rw [pI_n hj] at h5; rw [pI_n (fun h => hj (this.2 h))]; exact h5
    · refine Or.inl ⟨(li, le.set ((i : Int)).toNat (cnt (proc ++ [x]) d : Int), fa, va), ?_, h1, h2, hleft', fun j c hc => ?_⟩
      · simp only [m_cnf_Propagate_lp6, ltB hk, if_true, idx_nat hi, idx_nat hle, bsm, e31, idx_nat hset, h2c, decide_false, Bool.false_eq_true, if_false, inK_up hk (show ps.length ≤ 9223372036854775807 by omega)]
      · by_cases e : j = i
        · subst e
          rw [hd] at hc
          obtain rfl := Option.some.inj hc
          rw [pI_n hnmem]; intro hh; omega
        · have h5 := h4 j c hc
          have := hother j (by omega)
          by_cases hj : (j : Int) ∈ ps.drop k
          · rw [pI_y hj] at h5; rw [pI_y (this.1 hj)]; exact h5
          · rw [pI_n hj] at h5; rw [pI_n (fun h => hj (this.2 h))]; exact h5
  · rintro ⟨li, le, fa, va⟩ ⟨h1, h2, h3, h4⟩
    simp only at h3 h4
    refine ⟨(li, le, fa, va), ?_, h1, h2, ?_, fun c hc => ?_⟩
    · simp only [m_cnf_Propagate_lp6, ltB', if_false, Bool.false_eq_true]
    · refine ⟨h3.1, fun i c hc => ?_⟩
      have := h3.2 i c hc
      rwa [List.drop_length, pI_n (by simp)] at this
    · obtain ⟨j, hj⟩ := List.getElem?_of_mem hc
      have := h4 j c hj
      rwa [List.drop_length, pI_n (by simp)] at this
theorem prop_lp5 {f : Formula} {S : List Int} (hL : Lits f.vars f.clauses S) (hlen : f.clauses.length ≤ 262144) (hl : ∀ c ∈ f.clauses, c.length ≤ 4294967296) (b5 : List Int × List (List Int)) (hT : Tab f.vars f.clauses f.clauses.length [] b5.2) {t0 : LT} (h0 : LP f.vars f.clauses S t0)
    (hs : ∀ x ∈ S, gv t0.2.2.2 x = some x ∨ t0.2.2.1 = true) (hleft : LeftOk f.clauses (fun _ => []) t0.2.1) (hW : ∀ c ∈ f.clauses, WW [] c t0.2.2.2 t0.2.2.1) :
    ∃ t, loopM (fun s : Int × LT => m_cnf_Propagate_lp5 f b5 s.1 s.2.1 s.2.2.1 s.2.2.2.1 s.2.2.2.2) (0, t0) = some t ∧ LP f.vars f.clauses S t ∧ (∀ x ∈ S, gv t.2.2.2 x = some x ∨ t.2.2.1 = true) ∧ (t.2.2.1 = true ∨ ∀ c ∈ f.clauses, WW t.1 c t.2.2.2 t.2.2.1) := by
  have hnn := hL.nn
  refine loopM_inv (body := fun s : Int × LT => m_cnf_Propagate_lp5 f b5 s.1 s.2.1 s.2.2.1 s.2.2.2.1 s.2.2.2.2)
    (fun s => ∃ k : Nat, s.1 = (k : Int) ∧ k ≤ s.2.1.length ∧ LP f.vars f.clauses S s.2 ∧ (∀ x ∈ S, gv s.2.2.2.2 x = some x ∨ s.2.2.2.1 = true) ∧ LeftOk f.clauses (fun _ => s.2.1.take k) s.2.2.1 ∧ ∀ c ∈ f.clauses, WW (s.2.1.take k) c s.2.2.2.2 s.2.2.2.1)
    (fun s => (f.vars + 2 - s.1).toNat) _ ?_ (0, t0) ⟨0, rfl, Nat.zero_le _, h0, hs, by simpa using hleft, by simpa using hW⟩
  rintro ⟨i, li, le, fa, va⟩ ⟨k, hi, hk, h1, h2, h3, h4⟩
  simp only at hi hk h2 h3 h4
  subst hi
  cases fa with
  | true =>
    refine Or.inr ⟨(li, le, true, va), ?_, h1, h2, Or.inl rfl⟩
    simp only [m_cnf_Propagate_lp5, Bool.not_true, Bool.and_false, if_false, Bool.false_eq_true]
  | false =>
    by_cases hkl : k < li.length
    · obtain ⟨x, hx⟩ := get_of_lt hkl
      obtain ⟨x0, xn, xu⟩ := h1.lit hL (mem_get hx)
      have xb := vr_le.1 xn
      have e26 : inK .i64 (0 - x) = some (-x) := inK_at (by omega) ⟨by omega, by omega⟩
      obtain ⟨ps, p1, p2, p3, p4⟩ := hT.at_ (-x) (by omega) (by rw [vr_neg]; exact xn)
      have hib := idxL_bnd (l := -x) (n := f.vars) (by omega)
      have hlen' := h1.len
      simp only at hlen'
      have hxp : x ∉ li.take k := by
        intro hm
        have hnd := h1.nd
        simp only at hnd
        rw [← List.take_append_drop k li, drop_cons_of hx, List.map_append] at hnd
        exact (List.nodup_append.1 hnd).2.2 _ (List.mem_map_of_mem hm) _ (List.mem_map_of_mem (List.mem_cons_self ..)) rfl
      have htake := take_snoc_of hx
      obtain ⟨t, q1, q2, q3, q4, q5⟩ := prop_lp6 hL hlen hl b5 h1 hxp (fun y hy => by
        show y ∈ li
        rw [← htake] at hy
        exact List.mem_of_mem_take hy) p2 (by omega) (fun i => by
        rw [p4]
        constructor
        · rintro (⟨j, d, a, b, c, e⟩ | ⟨_, h⟩)
          · exact ⟨j, d, a, c, e⟩
          · simp at h
        · rintro ⟨j, d, a, c, e⟩
          exact Or.inl ⟨j, d, a, len_lt c, c, e⟩) h3 h4
      have hk1 : inK .i64 ((k : Int) + 1) = some ((k + 1 : Nat) : Int) := inK_at rfl ⟨by omega, by omega⟩
      obtain ⟨m, hm⟩ := q3.app
      have hm : t.1 = li ++ m := hm
      have htk : t.1.take (k + 1) = li.take k ++ [x] := by
        rw [← htake, hm, List.take_append_of_le_length (by omega)]
      refine Or.inl ⟨(((k + 1 : Nat) : Int), t), ?_, ⟨k + 1, rfl, ?_, q2, fun y hy => ?_, ?_, ?_⟩, ?_⟩
      · simp only [m_cnf_Propagate_lp5, ltB hkl, Bool.not_false, Bool.and_true, if_true, idx_nat hx, bsm, e26, index_ok (show -1099511627776 ≤ -x ∧ -x ≤ 1099511627776 by omega), idx_of hib.1 p1]
        rw [q1, bsm, hk1, bsm]
      · show k + 1 ≤ t.1.length; rw [hm, List.length_append]; omega
      · exact start_mono (hL.st y hy).1 (h2 y hy) q3
      · show LeftOk _ (fun _ => t.1.take (k + 1)) _; rw [htk]; exact q4
      · show ∀ c ∈ f.clauses, WW (t.1.take (k + 1)) c _ _; rw [htk]; exact q5
      · show (f.vars + 2 - ((k + 1 : Nat) : Int)).toNat < (f.vars + 2 - (k : Int)).toNat
        omega
    · refine Or.inr ⟨(li, le, false, va), ?_, h1, h2, Or.inr ?_⟩
      · have : (decide ((k : Int) < (li.length : Int))) = false := by simpa using hkl
        simp only [m_cnf_Propagate_lp5, this, Bool.false_and, if_false, Bool.false_eq_true]
      · show ∀ c ∈ f.clauses, WW li c va false
        rw [List.take_of_length_le (by omega)] at h4
        exact h4
theorem sorted_inc {l : List Int} (h : (l.map vr).Nodup) : (l.mergeSort fun x y => !ltN y x).Pairwise fun x y => vr x < vr y := by
  have h1 := sortN_pair l
  have h2 : ((l.mergeSort fun x y => !ltN y x).map vr).Nodup := ((List.mergeSort_perm l _).map vr).nodup_iff.2 h
  have h3 : (l.mergeSort fun x y => !ltN y x).Pairwise fun x y => vr x ≠ vr y := List.pairwise_map.1 h2
  refine (h1.and h3).imp fun {a b} hab => ?_
  have := hab.1
  rw [ltN_iff] at this
  have := hab.2
  omega
theorem cnf_propagate {f : Formula} {S : List Int} (hl : FLen f.clauses) (hS : S.length ≤ 4294967296) (hSb : ∀ x ∈ S, -9223372036854775808 ≤ x ∧ x ≤ 9223372036854775807) (hc4 : ∀ c ∈ f.clauses, c.length ≤ 4294967296) : ∃ r, m_cnf_Propagate f S = some r ∧ PropOk f S r := by
  unfold m_cnf_Propagate
  rw [cnf_valid hl, bsm]
  by_cases hv : validB f = true
  · have hb := valid_bnd hv
    have hchk : m_slices_ContainsFunc_cnf_Propagate_1 S f = some (S.any fun x => !sOk f.vars x) := by
      unfold m_slices_ContainsFunc_cnf_Propagate_1 m_slices_IndexFunc_cnf_Propagate_1
      have h := scan_loop (body := fun s => m_slices_IndexFunc_cnf_Propagate_1_lp1 S f s) S (fun x => !sOk f.vars x) (fun k _ => Out.ret (k : Int)) (Out.brk ()) ?_ ?_
      · rcases h with ⟨k, a, _, _, _, h2, _, e⟩ | ⟨_, h2, _, e⟩
        · rw [e, h2, bsm]; simp
        · rw [e, h2, bsm]; simp
      · intro k a hk
        have hkl := len_lt hk
        have e1 : inK .i64 (0 - f.vars) = some (-f.vars) := inK_at (by omega) ⟨by omega, by omega⟩
        simp only [m_slices_IndexFunc_cnf_Propagate_1_lp1, m_cnf_Propagate_1, ltB hkl, if_true, idx_nat hk, bsm, e1, inK_up hkl (show S.length ≤ 9223372036854775807 by omega)]
        unfold sOk
        by_cases h0 : a = 0
        · simp [h0]
        · by_cases h1 : a < -f.vars
          · have : ¬ -f.vars ≤ a := by omega
            simp [h0, h1, this]
          · by_cases h2 : f.vars < a
            · have : ¬ a ≤ f.vars := by omega
              simp [h0, h1, h2, this]
            · have h3 : -f.vars ≤ a := by omega
              have h4 : a ≤ f.vars := by omega
              simp [h0, h1, h2, h3, h4]
      · simp only [m_slices_IndexFunc_cnf_Propagate_1_lp1, ltB', if_false, Bool.false_eq_true]
    rw [if_neg (by simp [hv]), hchk, bsm, bsm]
    by_cases hs : S.any (fun x => !sOk f.vars x) = true
    · rw [if_pos hs]
      refine ⟨_, rfl, ?_⟩
      unfold PropOk
      obtain ⟨x, hx, h⟩ := List.any_eq_true.1 hs
      rw [if_neg (fun h' => by have := h'.2 x hx; rw [this] at h; cases h)]
    · rw [if_neg hs]
      have hs' : ∀ x ∈ S, sOk f.vars x = true := fun x hx => by
        cases h : sOk f.vars x with
        | true => rfl
        | false => exact absurd (List.any_eq_true.2 ⟨x, hx, by simp [h]⟩) hs
      have hL := valid_lits hv hs'
      rw [inK_eq ⟨by omega, by omega⟩, bsm, mkc_ok ⟨by omega, by omega, by omega⟩, bsm, inK_eq ⟨by omega, by omega⟩, bsm, inK_eq ⟨by omega, by omega⟩, bsm, mkc_ok ⟨by omega, by omega, by omega⟩, bsm]
      obtain ⟨b5, g1, g2, g3⟩ := tab_lp1 hL hb.2.2.1 hc4
      rw [g1, bsm]
      have hz0 : zeros (List.replicate (f.vars + 1).toNat 0) = (f.vars + 1).toNat := by
        unfold zeros
        rw [List.filter_eq_self.2 (fun a ha => by simpa using List.eq_of_mem_replicate ha), List.length_replicate]
      have hp0 : LP f.vars f.clauses S ([], b5.1, false, List.replicate (f.vars + 1).toNat 0) := by
        refine ⟨valOk_init hL, fun x => ?_, List.nodup_nil, fun h => (by cases h), ?_⟩
        · constructor
          · intro h; cases h
          · rintro ⟨h0, h1⟩
            exact absurd (List.eq_of_mem_replicate (List.mem_of_getElem? h1)) h0
        · simp only [hz0, List.length_nil]; omega
      obtain ⟨t1, a1, a2, a3, a4⟩ := prop_lp3 hL hS b5 hp0
      have hleft : LeftOk f.clauses (fun _ => []) t1.2.1 := by
        rw [a3]
        simp only
        rw [g2]
        refine ⟨List.length_map .., fun i c hc => ?_⟩
        rw [List.getElem?_map, hc, cnt_nil]; rfl
      rw [show (loopM (fun s : Int × LT => m_cnf_Propagate_lp3 f S b5 s.1 s.2.1 s.2.2.1 s.2.2.2.1 s.2.2.2.2) (0, [], b5.1, false, List.replicate (f.vars + 1).toNat 0)) = some t1 from a1, bsm]
      obtain ⟨t2, c1, c2, c3, c4, c5⟩ := prop_lp4 hL hb.2.2.1 hc4 b5 a2 hleft
      rw [show (loopM (fun s : Int × LT => m_cnf_Propagate_lp4 f b5 s.1 s.2.1 s.2.2.1 s.2.2.2.1 s.2.2.2.2) (0, t1.1, t1.2.1, t1.2.2.1, t1.2.2.2)) = some t2 from c1, bsm]
      obtain ⟨t3, d1, d2, d3, d4⟩ := prop_lp5 hL hb.2.2.1 hc4 b5 g3 c2 (fun x hx => start_mono (hL.st x hx).1 (a4 x hx) c3) (by rw [c4]; exact hleft) c5
      rw [show (loopM (fun s : Int × LT => m_cnf_Propagate_lp5 f b5 s.1 s.2.1 s.2.2.1 s.2.2.2.1 s.2.2.2.2) (0, t2.1, t2.2.1, t2.2.2.1, t2.2.2.2)) = some t3 from d1, bsm]
      by_cases hf : t3.2.2.1 = true
      · rw [if_pos hf]
        refine ⟨_, rfl, ?_⟩
        unfold PropOk
        rw [if_pos ⟨hv, hs'⟩]
        exact ⟨rfl, Or.inr ⟨rfl, rfl, d2.fl hf⟩⟩
      · rw [if_neg hf]
        have hlen3 := d2.len
        have hso : m_sortV t3.1 = some (t3.1.mergeSort fun x y => !ltN y x) := by
          unfold m_sortV
          rw [if_pos ⟨by omega, mem_litOk fun x hx => by have := vr_le.1 (d2.lit hL hx).2.1; omega, d2.nd⟩]
        rw [hso, bsm]
        refine ⟨_, rfl, ?_⟩
        unfold PropOk
        rw [if_pos ⟨hv, hs'⟩]
        have hst : ∀ x ∈ S, gv t3.2.2.2 x = some x := fun x hx => (d3 x hx).resolve_right hf
        have hgood : ∀ c ∈ f.clauses, Good t3.2.2.2 c := by
          intro c hc
          have hW := d4.resolve_left hf c hc
          have hval : ∀ y ∈ c, -y ∉ t3.1 → gv t3.2.2.2 y = some 0 ∨ gv t3.2.2.2 y = some y := by
            intro y hy hn
            obtain ⟨y0, yn⟩ := hL.cl c hc y hy
            obtain ⟨x, e1, _, e3⟩ := d2.vok.get yn
            rcases e3 with e | e | e
            · exact Or.inl (e ▸ e1)
            · exact Or.inr (e ▸ e1)
            · exact absurd ((d2.mem _).2 ⟨by omega, by rw [gv_neg, e1, e]⟩) hn
          by_cases h2 : cnt t3.1 c < 2
          · rcases hW h2 with h | ⟨y, hy, h3, h4⟩
            · exact absurd h hf
            · exact Or.inl ⟨y, hy, (hval y hy h3).resolve_left h4⟩
          · obtain ⟨y, hy, z, hz, hyz, h3, h4⟩ := cnt_two (proc := t3.1) (hL.nd c hc) (by omega)
            rcases hval y hy h3 with h5 | h5
            · rcases hval z hz h4 with h6 | h6
              · exact Or.inr ⟨y, hy, z, hz, hyz, h5, h6⟩
              · exact Or.inl ⟨z, hz, h6⟩
            · exact Or.inl ⟨y, hy, h5⟩
        refine ⟨rfl, Or.inl ⟨rfl, closed_ok hL d2.vok hst hgood, sorted_inc d2.nd, fun x => ?_⟩⟩
        rw [List.mem_mergeSort, d2.mem]
        exact ⟨fun h => d2.vok.up h.1 h.2, fun h => ⟨(h.lit hL).1, closed_up hL d2.vok hst hgood h⟩⟩
  · rw [if_pos (by simp [hv]), bsm, if_pos rfl]
    refine ⟨_, rfl, ?_⟩
    unfold PropOk
    rw [if_neg (fun h => hv h.1)]
end Go.Proofs.YtelioaepnpnojaaGreatDoor
