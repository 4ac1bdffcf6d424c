/-
  The least cost of all mappings, by trying all of them: it is the distance. The law on mappings.
-/
import Derived.Test.YtnnccbagbgndpaaQM
import Derived.Test.YtnnccbagbgndpaaQC
import Derived.Test.YtnnccbagbgndpaaWPM
set_option linter.unusedVariables false
set_option linter.unusedSimpArgs false
namespace Go.Proofs.Ytnnccbagbgndpaa
open Go.RowKit
/-- The nodes of a forest in preorder, with the numbers behind their subtrees. -/
structure Flats (F : List Tr) (off : Nat) (l : List LFlat) : Prop where
  len : l.length = szL F
  at_ : ∀ i : Nat, i < szL F → ∃ f : LFlat, l[i]? = some f ∧ (Lbl.mk f.n.kind f.n.text) = labF F i ∧ f.last = ((off + lastF F i : Nat) : Int)
theorem Flats.nil (off : Nat) : Flats [] off [] := ⟨by simp [szL], fun i h => by simp [szL] at h⟩
theorem Flats.cons {T : Tr} {F : List Tr} {off : Nat} {l l' : List LFlat} (h : Flats F off l) (h' : Flats [T] (off + szL F) l') : Flats (T :: F) off (l ++ l') := by
  obtain ⟨b, ks⟩ := T
  have z := szL_node b ks F
  have z1 := szL_node b ks []
  have z0 : szL [] = 0 := by simp [szL]
  refine ⟨by rw [List.length_append, h.len, h'.len]; omega, fun i hi => ?_⟩
  rcases Nat.lt_trichotomy i (szL F) with c | c | c
  · obtain ⟨f, h1, h2, h3⟩ := h.at_ i c
    exact ⟨f, by rw [List.getElem?_append_left (by rw [h.len]; exact c)]; exact h1, by rw [lab_lt c]; exact h2, by rw [last_lt c]; exact h3⟩
  · subst c
    obtain ⟨f, h1, h2, h3⟩ := h'.at_ (szL []) (by omega)
    rw [lab_eq] at h2
    rw [last_eq] at h3
    rw [z0] at h1 h3
    refine ⟨f, by rw [List.getElem?_append_right (by rw [h.len]; exact Nat.le_refl _), h.len, Nat.sub_self]; exact h1, by rw [lab_eq]; exact h2, by rw [last_eq, h3]; omega⟩
  · obtain ⟨j, rfl⟩ : ∃ j, i = szL F + 1 + j := ⟨i - szL F - 1, by omega⟩
    obtain ⟨f, h1, h2, h3⟩ := h'.at_ (szL [] + 1 + j) (by omega)
    rw [lab_gt] at h2
    rw [last_gt] at h3
    rw [z0] at h1 h3
    refine ⟨f, by rw [List.getElem?_append_right (by rw [h.len]; omega), h.len, show szL F + 1 + j - szL F = 0 + 1 + j by omega]; exact h1, by rw [lab_gt]; exact h2, by rw [last_gt, h3]; omega⟩
theorem Flats.root {n : Node} {off : Nat} {l : List LFlat} (h : Flats (toR n.kids) (off + 1) l) : Flats [toT n] off (⟨n, ((off + (l.length + 1) : Nat) : Int)⟩ :: l) := by
  have z0 : szL [] = 0 := by simp [szL]
  have z := szL_node ⟨n.kind, n.text⟩ (toR n.kids) []
  have hl := h.len
  rw [toT_eq]
  refine ⟨by rw [List.length_cons]; omega, fun i hi => ?_⟩
  rcases Nat.eq_zero_or_pos i with c | c
  · subst c
    have e1 := lab_eq (a := ⟨n.kind, n.text⟩) (ks := toR n.kids) (F := [])
    have e2 := last_eq (a := ⟨n.kind, n.text⟩) (ks := toR n.kids) (F := [])
    rw [z0] at e1 e2
    exact ⟨_, rfl, by rw [e1], by rw [e2]; simp only; omega⟩
  · obtain ⟨j, rfl⟩ : ∃ j, i = j + 1 := ⟨i - 1, by omega⟩
    obtain ⟨f, h1, h2, h3⟩ := h.at_ j (by omega)
    have e1 := lab_gt (a := ⟨n.kind, n.text⟩) (ks := toR n.kids) (F := []) j
    have e2 := last_gt (a := ⟨n.kind, n.text⟩) (ks := toR n.kids) (F := []) j
    rw [z0, show 0 + 1 + j = j + 1 by omega] at e1 e2
    exact ⟨f, by rw [List.getElem?_cons_succ]; exact h1, by rw [e1]; exact h2, by rw [e2, h3]; omega⟩
theorem list_r : ∀ (f : Nat) (n : Node), SizeOf.sizeOf n < f → ∀ (off : Nat), off + cntN n ≤ 100000 → ∃ l, m_assessorlaw37_list_r f n (off : Int) = some l ∧ Flats [toT n] off l := by
  intro f
  induction f with
  | zero => intro n h; omega
  | succ f ih =>
    intro n hsz off hoff
    have hcnt := cntN_eq n
    have hlen := cntL_len n.kids
    unfold m_assessorlaw37_list_r m_assessorlaw37_list_body
    obtain ⟨r, hr, l, rfl, hl⟩ := loop_for (body := fun s => m_assessorlaw37_list_body_lp1 n (off : Int) (m_assessorlaw37_list_r f) s.1 s.2) (fun j s => s.1 = (j : Int) ∧ ∃ l, s.2 = (⟨n, 0⟩ : LFlat) :: l ∧ Flats (toR (n.kids.take j)) (off + 1) l) (fun r => ∃ l, r = (⟨n, 0⟩ : LFlat) :: l ∧ Flats (toR n.kids) (off + 1) l) n.kids.length 0 (0, [⟨n, 0⟩])
      ⟨rfl, [], rfl, by rw [List.take_zero, toR_nil]; exact Flats.nil _⟩
      (by
        rintro j ⟨z, out⟩ _ hj ⟨e, l, e2, hl⟩
        simp only at e e2
        subst e; subst e2
        obtain ⟨x, hx⟩ := get_of_lt (l := n.kids) (k := j) (by omega)
        have e1 := cntL_take hx
        have e3 := cntL_le n.kids (j + 1)
        have hll := hl.len
        rw [sz_toR] at hll
        obtain ⟨l', h1, h2⟩ := ih x (by have := node_sz hx; omega) (off + (l.length + 1)) (by omega)
        have hl' := h2.len
        rw [szL_one, sz_toT] at hl'
        refine ⟨(((j + 1 : Nat) : Int), (⟨n, 0⟩ : LFlat) :: (l ++ l')), ?_, rfl, l ++ l', rfl, ?_⟩
        · simp only [m_assessorlaw37_list_body_lp1]
          rw [if_pos (by simp; omega), idx_nat hx]
          simp only [Option.bind_some]
          rw [List.length_cons, inK_eq (by omega)]
          simp only [Option.bind_some]
          rw [show (off : Int) + ((l.length + 1 : Nat) : Int) = ((off + (l.length + 1) : Nat) : Int) by omega, h1]
          simp only [Option.bind_some]
          rw [app_ok (by simp; omega)]
          simp only [Option.bind_some]
          rw [inK_succ (by omega)]
          rfl
        · rw [toR_take hx]
          refine hl.cons ?_
          rw [sz_toR, ← hll, show off + 1 + l.length = off + (l.length + 1) by omega]
          exact h2)
      (by
        rintro ⟨z, out⟩ ⟨e, l, e2, hl⟩
        simp only at e e2
        rw [Nat.zero_add] at e hl
        subst e; subst e2
        refine ⟨_, ?_, l, rfl, by rw [List.take_of_length_le (Nat.le_refl _)] at hl; exact hl⟩
        simp only [m_assessorlaw37_list_body_lp1]
        rw [if_neg (by simp)])
    rw [hr]
    simp only [Option.bind_some]
    have hll := hl.len
    rw [sz_toR] at hll
    rw [List.length_cons, inK_eq (by omega)]
    simp only [Option.bind_some]
    rw [show (0 : Int) = ((0 : Nat) : Int) from rfl, idx_nat (a := (⟨n, 0⟩ : LFlat)) rfl]
    refine ⟨_, rfl, ?_⟩
    simp only [Int.toNat_natCast, List.set_cons_zero]
    rw [show (off : Int) + ((l.length + 1 : Nat) : Int) = ((off + (l.length + 1) : Nat) : Int) by omega]
    exact hl.root
theorem list_m (n : Node) (h : cntN n ≤ 100000) : ∃ l, m_assessorlaw37_list n 0 = some l ∧ Flats [toT n] 0 l := by
  obtain ⟨l, h1, h2⟩ := list_r (SizeOf.sizeOf n + 1) n (by omega) 0 (by omega)
  exact ⟨l, h1, h2⟩
/-! ### Pairs, as the program holds them -/
def mOf (p : List Int) (i : Nat) : Option Nat := match p[i]? with
  | some x => if 0 ≤ x then some x.toNat else none
  | none => none
theorem mOf_some {p : List Int} {i t : Nat} : mOf p i = some t ↔ p[i]? = some (t : Int) := by
  unfold mOf
  cases h : p[i]? with
  | none => simp
  | some x =>
    simp only
    split
    · simp only [Option.some.injEq]; omega
    · simp only [Option.some.injEq, false_iff, reduceCtorEq]; omega
theorem mOf_app {p : List Int} {x : Int} {i : Nat} (h : i < p.length) : mOf (p ++ [x]) i = mOf p i := by
  unfold mOf; rw [List.getElem?_append_left h]
section
variable {F G : List Tr} {A B : List LFlat}
structure Pv (F G : List Tr) (p : List Int) : Prop where
  rng : ∀ x ∈ p, -1 ≤ x ∧ x < (szL G : Int)
  ord : ∀ s i u t, s < i → mOf p s = some u → mOf p i = some t → u < t ∧ (i < lastF F s ↔ t < lastF G u)
theorem mOf_lt {p : List Int} {i t : Nat} (h : mOf p i = some t) : i < p.length := (List.getElem?_eq_some_iff.1 (mOf_some.1 h)).1
theorem Pv.snocN {p : List Int} (h : Pv F G p) : Pv F G (p ++ [-1]) := by
  have hn : mOf (p ++ [-1]) p.length = none := by
    unfold mOf; simp
  refine ⟨fun x hx => ?_, fun s i u t hsi hu ht => ?_⟩
  · rcases List.mem_append.1 hx with hx | hx
    · exact h.rng x hx
    · rw [List.mem_singleton] at hx; omega
  · have c1 := mOf_lt ht
    rw [List.length_append, List.length_singleton] at c1
    have c2 : i ≠ p.length := fun e => by rw [e, hn] at ht; cases ht
    rw [mOf_app (by omega)] at hu ht
    exact h.ord s i u t hsi hu ht
def Fits (F G : List Tr) (p : List Int) (t : Nat) (k : Nat) : Prop := ∀ s u, s < k → mOf p s = some u → u < t ∧ (p.length < lastF F s ↔ t < lastF G u)
theorem Pv.snoc {p : List Int} {t : Nat} (h : Pv F G p) (ht : t < szL G) (hf : Fits F G p t p.length) : Pv F G (p ++ [(t : Int)]) := by
  have hn : mOf (p ++ [(t : Int)]) p.length = some t := mOf_some.2 (by simp)
  refine ⟨fun x hx => ?_, fun s i u t' hsi hu ht' => ?_⟩
  · rcases List.mem_append.1 hx with hx | hx
    · exact h.rng x hx
    · rw [List.mem_singleton] at hx; omega
  · have c1 := mOf_lt ht'
    rw [List.length_append, List.length_singleton] at c1
    rw [mOf_app (by omega)] at hu
    by_cases c2 : i = p.length
    · subst c2
      rw [hn] at ht'
      obtain rfl := Option.some.inj ht'
      exact hf s u hsi hu
    · rw [mOf_app (by omega)] at ht'
      exact h.ord s i u t' hsi hu ht'
theorem Pv.pre {p q : List Int} (h : Pv F G q) (hp : p <+: q) : Pv F G p := by
  obtain ⟨r, rfl⟩ := hp
  refine ⟨fun x hx => h.rng x (List.mem_append_left _ hx), fun s i u t hsi hu ht => ?_⟩
  have c := mOf_lt ht
  refine h.ord s i u t hsi ?_ ?_
  · unfold mOf at hu ⊢; rw [List.getElem?_append_left (by omega)]; exact hu
  · unfold mOf at ht ⊢; rw [List.getElem?_append_left (by omega)]; exact ht
theorem Pv.fits {p : List Int} {t : Nat} (h : Pv F G (p ++ [(t : Int)])) : Fits F G p t p.length := fun s u hs hu => by
  have hn : mOf (p ++ [(t : Int)]) p.length = some t := mOf_some.2 (by simp)
  exact h.ord s p.length u t hs (by rw [mOf_app hs]; exact hu) hn
theorem Pv.vm {p : List Int} (h : Pv F G p) (hl : p.length = szL F) : Vm F G (mOf p) := by
  refine ⟨fun i t hi ht => ?_, fun s i u t hsi hi hu ht => h.ord s i u t hsi hu ht⟩
  have := h.rng _ (List.mem_of_getElem? (mOf_some.1 ht))
  omega
theorem vm_pv {m : Nat → Option Nat} (h : Vm F G m) : ∃ p, p.length = szL F ∧ Pv F G p ∧ cst F G (mOf p) = cst F G m := by
  have hm : ∀ i, i < szL F → mOf ((List.range (szL F)).map fun i => match m i with | some t => (t : Int) | none => -1) i = m i := fun i hi => by
    unfold mOf
    rw [List.getElem?_map, List.getElem?_range hi]
    simp only [Option.map_some]
    cases m i with
    | none => rfl
    | some t => simp
  refine ⟨(List.range (szL F)).map fun i => match m i with | some t => (t : Int) | none => -1, by simp, ⟨fun x hx => ?_, fun s i u t hsi hu ht => ?_⟩, ?_⟩
  · obtain ⟨i, hi, rfl⟩ := List.mem_map.1 hx
    rw [List.mem_range] at hi
    cases hh : m i with
    | none => simp; omega
    | some t => have := h.rng i t hi hh; simp; omega
  · have c := mOf_lt ht
    rw [List.length_map, List.length_range] at c
    rw [hm s (by omega)] at hu
    rw [hm i c] at ht
    exact h.ord s i u t hsi c hu ht
  · unfold cst
    rw [sm_congr fun i hi => ?_]
    unfold one
    rw [hm i hi]
theorem sm_bound (f : Nat → Int) (h : ∀ i, -1 ≤ f i ∧ f i ≤ 1) : ∀ n : Nat, -(n : Int) ≤ sm f n ∧ sm f n ≤ n
  | 0 => by simp [sm]
  | n + 1 => by have := sm_bound f h n; have := h n; rw [sm]; omega
theorem one_bound (F G : List Tr) (m : Nat → Option Nat) (i : Nat) : -1 ≤ one F G m i ∧ one F G m i ≤ 1 := by
  unfold one
  cases m i with
  | none => simp
  | some t => have := rl_le (labF F i) (labF G t); simp only; omega
theorem cost_m (hA : Flats F 0 A) (hB : Flats G 0 B) (hF : szL F ≤ 1000) (hG : szL G ≤ 1000) {p : List Int} (hp : Pv F G p) (hl : p.length = szL F) :
    loopM (fun s => m_assessorlaw37_cheapest_body_lp1 A B p s.1 s.2) ((B.length : Int), 0) = some (cst F G (mOf p)) := by
  refine loop_from (fun i => ((szL G : Int) + sm (one F G (mOf p)) i, (i : Int))) p.length (by simp [sm, hB.len]) (fun i hi => ?_) ?_
  · obtain ⟨x, hx⟩ := get_of_lt hi
    have hr := hp.rng x (List.mem_of_getElem? hx)
    have b1 := sm_bound _ (one_bound F G (mOf p)) i
    simp only [m_assessorlaw37_cheapest_body_lp1]
    rw [if_pos (by simp; omega), idx_nat hx]
    simp only [Option.bind_some]
    by_cases h0 : x < 0
    · have e : one F G (mOf p) i = 1 := one_none (by unfold mOf; rw [hx]; simp only; rw [if_neg (by omega)])
      rw [if_pos (by simpa using h0), inK_eq (by omega)]
      simp only [Option.bind_some]
      rw [inK_succ (by omega), sm, e, ← Int.add_assoc]
      rfl
    · obtain ⟨t, rfl⟩ : ∃ t : Nat, x = (t : Int) := ⟨x.toNat, by omega⟩
      have e : one F G (mOf p) i = (rl (labF F i) (labF G t) : Int) - 1 := one_some (mOf_some.2 hx)
      obtain ⟨f, f1, f2, _⟩ := hA.at_ i (by omega)
      obtain ⟨g, g1, g2, _⟩ := hB.at_ t (by omega)
      rw [if_neg (by simp), idx_nat f1, idx_nat g1]
      simp only [Option.bind_some, m_assessorref37_Label]
      by_cases hlb : f.n.kind = g.n.kind ∧ f.n.text = g.n.text
      · have : rl (labF F i) (labF G t) = 0 := by rw [← f2, ← g2, hlb.1, hlb.2]; exact rl_self _
        rw [if_pos (by simp [hlb]), inK_eq (by omega)]
        simp only [Option.bind_some]
        rw [inK_succ (by omega), sm, e, this]
        simp only [Option.bind_some, Option.some.injEq, Step.next.injEq, Prod.mk.injEq, and_true]
        omega
      · have : rl (labF F i) (labF G t) = 1 := by
          rw [← f2, ← g2]; unfold rl
          rw [if_neg (fun e => hlb (by simpa using e))]
        rw [if_neg (by
          rw [Bool.and_eq_true, decide_eq_true_eq, decide_eq_true_eq]; exact hlb), inK_succ (by omega), sm, e, this]
        simp only [Option.bind_some, Option.some.injEq, Step.next.injEq, Prod.mk.injEq, and_true]
        omega
  · simp only [m_assessorlaw37_cheapest_body_lp1]
    rw [if_neg (by simp)]
    unfold cst
    rw [hl]
theorem fits_m (hA : Flats F 0 A) (hB : Flats G 0 B) (hF : szL F ≤ 1000) (hG : szL G ≤ 1000) {p : List Int} (hp : Pv F G p) (hl : p.length ≤ szL F) (t : Nat) :
    ∃ b, loopM (fun s => m_assessorlaw37_cheapest_body_lp3 A B p (t : Int) s.1 s.2) (true, 0) = some b ∧ (b = true ↔ Fits F G p t p.length) := by
  refine loop_for (fun k s => s.2 = (k : Int) ∧ (s.1 = true ↔ Fits F G p t k)) _ p.length 0 _ ⟨rfl, by simp [Fits]⟩ ?_ ?_
  · rintro k ⟨b, z⟩ _ hk ⟨e, hb⟩
    simp only at e hb
    subst e
    obtain ⟨x, hx⟩ := get_of_lt (l := p) (k := k) (by omega)
    have hr := hp.rng x (List.mem_of_getElem? hx)
    have hstep : ∀ b' : Bool, (b' = true ↔ (b = true ∧ ∀ u, mOf p k = some u → u < t ∧ (p.length < lastF F k ↔ t < lastF G u))) → (b' = true ↔ Fits F G p t (k + 1)) := fun b' hb' => by
      rw [hb', hb]
      constructor
      · rintro ⟨h1, h2⟩ s u hs hu
        rcases Nat.lt_or_ge s k with c | c
        · exact h1 s u c hu
        · have : s = k := by omega
          subst this; exact h2 u hu
      · intro h
        exact ⟨fun s u hs hu => h s u (by omega) hu, fun u hu => h k u (by omega) hu⟩
    simp only [m_assessorlaw37_cheapest_body_lp3]
    rw [if_pos (by simp; omega), idx_nat hx]
    simp only [Option.bind_some]
    cases b with
    | false =>
      refine ⟨(false, ((k + 1 : Nat) : Int)), ?_, rfl, hstep false (by simp)⟩
      rw [if_neg (by simp)]
      simp only [Option.bind_some]
      rw [inK_succ (by omega)]
      rfl
    | true =>
      rw [if_pos rfl]
      by_cases h0 : x < 0
      · refine ⟨(true, ((k + 1 : Nat) : Int)), ?_, rfl, hstep true ?_⟩
        · rw [if_pos (by simpa using h0)]
          simp only [Option.bind_some]
          rw [inK_succ (by omega)]
          rfl
        · have : mOf p k = none := by unfold mOf; rw [hx]; simp only; rw [if_neg (by omega)]
          simp [this]
      · obtain ⟨u, rfl⟩ : ∃ u : Nat, x = (u : Int) := ⟨x.toNat, by omega⟩
        have hm : mOf p k = some u := mOf_some.2 hx
        rw [if_neg (by simp)]
        by_cases hut : u < t
        · obtain ⟨f, f1, _, f3⟩ := hA.at_ k (by omega)
          obtain ⟨g, g1, _, g3⟩ := hB.at_ u (by omega)
          rw [if_pos (by simpa using hut), idx_nat f1, idx_nat g1]
          simp only [Option.bind_some]
          refine ⟨((decide ((p.length : Int) < f.last) == decide ((t : Int) < g.last)), ((k + 1 : Nat) : Int)), by rw [inK_succ (by omega)]; rfl, rfl, hstep _ ?_⟩
          rw [f3, g3]
          simp only [Nat.zero_add]
          have d1 : decide ((p.length : Int) < ((lastF F k : Nat) : Int)) = decide (p.length < lastF F k) := decide_eq_decide.2 (by omega)
          have d2 : decide ((t : Int) < ((lastF G u : Nat) : Int)) = decide (t < lastF G u) := decide_eq_decide.2 (by omega)
          rw [d1, d2]
          constructor
          · intro h
            refine ⟨trivial, fun u' hu' => ?_⟩
            rw [hm] at hu'
            obtain rfl := Option.some.inj hu'
            refine ⟨hut, ?_⟩
            have h2 : decide (p.length < lastF F k) = decide (t < lastF G u) := eq_of_beq h
            exact decide_eq_decide.1 h2
          · rintro ⟨_, h⟩
            have h2 : decide (p.length < lastF F k) = decide (t < lastF G u) := decide_eq_decide.2 (h u hm).2
            rw [h2]; exact beq_self_eq_true _
        · refine ⟨(false, ((k + 1 : Nat) : Int)), ?_, rfl, hstep false ?_⟩
          · rw [if_neg (by simpa using hut)]
            simp only [Option.bind_some]
            rw [inK_succ (by omega)]
            rfl
          · simp only [Bool.false_eq_true, false_iff, not_and]
            intro _ h
            exact hut (h u hm).1
  · rintro ⟨b, z⟩ ⟨e, hb⟩
    simp only at e hb
    rw [Nat.zero_add] at e hb
    subst e
    refine ⟨b, ?_, hb⟩
    simp only [m_assessorlaw37_cheapest_body_lp3]
    rw [if_neg (by simp)]
/-- c is the least cost of what begins with p and goes on with something less than t. -/
structure Best (F G : List Tr) (p : List Int) (t : Int) (c : Int) : Prop where
  ex : ∃ q, p <+: q ∧ q.length = szL F ∧ Pv F G q ∧ cst F G (mOf q) = c
  le : ∀ q x, p <+: q → q.length = szL F → Pv F G q → q[p.length]? = some x → x < t → c ≤ cst F G (mOf q)
theorem cheapest_r (hA : Flats F 0 A) (hB : Flats G 0 B) (hF : szL F ≤ 1000) (hG : szL G ≤ 1000) : ∀ (f : Nat) (p : List Int), szL F + 1 - p.length ≤ f → p.length ≤ szL F → Pv F G p →
    ∃ c, m_assessorlaw37_cheapest_r f A B p = some c ∧ (∃ q, p <+: q ∧ q.length = szL F ∧ Pv F G q ∧ cst F G (mOf q) = c) ∧ ∀ q, p <+: q → q.length = szL F → Pv F G q → c ≤ cst F G (mOf q) := by
  intro f
  induction f with
  | zero => intro p h1 h2; omega
  | succ f ih =>
    intro p h1 h2 hp
    have la := hA.len
    have lb := hB.len
    unfold m_assessorlaw37_cheapest_r m_assessorlaw37_cheapest_body
    by_cases hl : p.length = szL F
    · rw [if_pos (by simp; omega), cost_m hA hB hF hG hp hl]
      refine ⟨_, rfl, ⟨p, List.prefix_refl _, hl, hp, rfl⟩, fun q hq hql _ => ?_⟩
      have : p = q := hq.eq_of_length (by omega)
      rw [this]; exact Int.le_refl _
    · rw [if_neg (by simp; omega), app_ok (by simp; omega)]
      simp only [Option.bind_some, List.nil_append]
      rw [app_ok (by simp; omega)]
      simp only [Option.bind_some]
      obtain ⟨c0, hc0, ⟨q0, a1, a2, a3, a4⟩, hmin0⟩ := ih (p ++ [-1]) (by simp; omega) (by simp; omega) hp.snocN
      rw [hc0]
      simp only [Option.bind_some]
      have ext : ∀ (q : List Int) (x : Int), p <+: q → q[p.length]? = some x → p ++ [x] <+: q := fun q x hq hx => by
        obtain ⟨r, rfl⟩ := hq
        rw [List.getElem?_append_right (Nat.le_refl _), Nat.sub_self] at hx
        cases r with
        | nil => simp at hx
        | cons y r =>
          simp only [List.getElem?_cons_zero, Option.some.injEq] at hx
          subst hx
          exact ⟨r, by simp⟩
      obtain ⟨c, hc, hbest⟩ := loop_for (body := fun s => m_assessorlaw37_cheapest_body_lp2 A B p (m_assessorlaw37_cheapest_r f) s.1 s.2) (fun t s => s.2 = (t : Int) ∧ Best F G p (t : Int) s.1) (fun c => Best F G p (szL G : Int) c) (szL G) 0 (c0, 0)
        ⟨rfl, ⟨q0, (List.prefix_append p [-1]).trans a1, a2, a3, a4⟩, fun q x hq hql hqv hx hlt => by
          have hr := hqv.rng x (List.mem_of_getElem? hx)
          have : x = -1 := by omega
          subst this
          exact hmin0 q (ext q _ hq hx) hql hqv⟩
        (by
          rintro t ⟨c, z⟩ _ ht ⟨e, hb⟩
          simp only at e hb
          subst e
          obtain ⟨b, hbm, hbi⟩ := fits_m hA hB hF hG hp h2 t
          simp only [m_assessorlaw37_cheapest_body_lp2]
          rw [if_pos (by simp [lb]; omega), hbm]
          simp only [Option.bind_some]
          cases b with
          | true =>
            obtain ⟨c2, hc2, ⟨q2, b1, b2, b3, b4⟩, hmin2⟩ := ih (p ++ [(t : Int)]) (by simp; omega) (by simp; omega) (hp.snoc (by omega) (hbi.1 rfl))
            rw [if_pos rfl, app_ok (by simp; omega)]
            simp only [Option.bind_some, List.nil_append]
            rw [app_ok (by simp; omega)]
            simp only [Option.bind_some]
            rw [hc2]
            simp only [Option.bind_some]
            refine ⟨(min c c2, ((t + 1 : Nat) : Int)), by rw [inK_succ (by omega)]; rfl, rfl, ?_, fun q x hq hql hqv hx hlt => ?_⟩
            · rcases Int.le_total c c2 with h | h
              · simp only [Int.min_eq_left h]; exact hb.ex
              · simp only [Int.min_eq_right h]
                exact ⟨q2, (List.prefix_append p [(t : Int)]).trans b1, b2, b3, b4⟩
            · simp only
              by_cases hxt : x = (t : Int)
              · subst hxt
                have := hmin2 q (ext q _ hq hx) hql hqv
                omega
              · have := hb.le q x hq hql hqv hx (by omega)
                omega
          | false =>
            rw [if_neg (by simp)]
            refine ⟨(c, ((t + 1 : Nat) : Int)), by rw [inK_succ (by omega)]; rfl, rfl, hb.ex, fun q x hq hql hqv hx hlt => ?_⟩
            by_cases hxt : x = (t : Int)
            · subst hxt
              have h3 := hqv.pre (ext q _ hq hx)
              have := hbi.2 h3.fits
              cases this
            · exact hb.le q x hq hql hqv hx (by omega))
        (by
          rintro ⟨c, z⟩ ⟨e, hb⟩
          simp only at e hb
          rw [Nat.zero_add] at e hb
          subst e
          refine ⟨c, ?_, hb⟩
          simp only [m_assessorlaw37_cheapest_body_lp2]
          rw [if_neg (by simp [lb])])
      rw [hc]
      refine ⟨c, rfl, hbest.ex, fun q hq hql hqv => ?_⟩
      obtain ⟨x, hx⟩ := get_of_lt (l := q) (k := p.length) (by omega)
      exact hbest.le q x hq hql hqv hx (hqv.rng x (List.mem_of_getElem? hx)).2
theorem cheapest_m (hA : Flats F 0 A) (hB : Flats G 0 B) (hF : szL F ≤ 1000) (hG : szL G ≤ 1000) : m_assessorlaw37_cheapest A B [] = some ((fd F G : Nat) : Int) := by
  unfold m_assessorlaw37_cheapest
  obtain ⟨c, hc, ⟨q, _, h2, h3, h4⟩, hmin⟩ := cheapest_r hA hB hF hG (A.length + 1 - ([] : List Int).length) [] (by rw [hA.len]; simp) (by simp) ⟨fun x hx => by simp at hx, fun s i u t _ hu => by simp [mOf] at hu⟩
  rw [hc]
  obtain ⟨m, hv, hm⟩ := cst_ex F G
  obtain ⟨p, p1, p2, p3⟩ := vm_pv hv
  have e1 := hmin p (List.nil_prefix) p1 p2
  have e2 := cst_le F G _ (h3.vm h2)
  congr 1
  omega
end
theorem law_DistanceMapping (p0 : Node) (p1 : Node) (h0 : NodeWf p0) (h1 : NodeWf p1) : m_assessorlaw37_DistanceMapping p0 p1 = some true := by
  unfold m_assessorlaw37_DistanceMapping
  rw [awake_m]
  simp only [Option.bind_some]
  obtain ⟨x, hx, k1⟩ := few_m p0 p1 5 (by omega) (by omega)
  rw [if_neg (by simp), hx]
  simp only [Option.bind_some]
  cases x with
  | false => simp
  | true =>
    have c0 := k1 rfl
    obtain ⟨A, hA, fA⟩ := list_m p0 (by omega)
    obtain ⟨B, hB, fB⟩ := list_m p1 (by omega)
    rw [if_neg (by simp), Distance_m p0 p1 (by omega) (by omega)]
    simp only [Option.bind_some]
    rw [if_pos (by simp), hA]
    simp only [Option.bind_some]
    rw [hB]
    simp only [Option.bind_some]
    rw [cheapest_m fA fB (by rw [szL_one, sz_toT]; omega) (by rw [szL_one, sz_toT]; omega)]
    simp [td]
end Go.Proofs.Ytnnccbagbgndpaa
