/-
  The roots of a tree's chains, sorted; the tables of all pairs of subtrees.
-/
import Derived.Test.YtnnccbagbgndpaaQ6
import Derived.Test.YtnnccbagbgndpaaDDM
set_option linter.unusedVariables false
set_option linter.unusedSimpArgs false
namespace Go.Proofs.Ytnnccbagbgndpaa
open Go.RowKit
/-- No later node begins with the same leaf. -/
def isRoot (T : Tr) (i : Nat) : Prop := i < szT T ∧ ∀ j, i < j → j < szT T → lf T j ≠ lf T i
theorem root_of (T : Tr) : ∀ (m s : Nat), s < szT T → szT T - s ≤ m → ∃ r, isRoot T r ∧ lf T r = lf T s ∧ s ≤ r
  | 0, s, h, h2 => by omega
  | m + 1, s, h, h2 => by
    by_cases hr : isRoot T s
    · exact ⟨s, hr, rfl, Nat.le_refl _⟩
    · unfold isRoot at hr
      have : ∃ j, s < j ∧ j < szT T ∧ lf T j = lf T s := by
        apply Classical.byContradiction
        intro hn
        exact hr ⟨h, fun j h1 h3 e => hn ⟨j, h1, h3, e⟩⟩
      obtain ⟨j, h1, h3, e⟩ := this
      obtain ⟨r, a1, a2, a3⟩ := root_of T m j h3 (by omega)
      exact ⟨r, a1, a2.trans e, by omega⟩
theorem root_uniq {T : Tr} {i j : Nat} (hi : isRoot T i) (hj : isRoot T j) (e : lf T i = lf T j) : i = j := by
  rcases Nat.lt_trichotomy i j with h | h | h
  · exact absurd e.symm (hi.2 j h hj.1)
  · exact h
  · exact absurd e (hj.2 i h hi.1)
theorem lf_le {T : Tr} {s : Nat} (h : s < szT T) : lf T s ≤ s := by
  obtain ⟨u, hu, h2⟩ := at_lt h
  have := szT_pos u
  rw [lf_at hu]; omega
theorem laminar {T : Tr} {i j : Nat} (h : i < j) (hj : j < szT T) : lf T j ≤ lf T i ∨ i < lf T j := by
  obtain ⟨t, ht, h2⟩ := at_lt hj
  have pt := szT_pos t
  by_cases hc : i < lf T j
  · exact Or.inr hc
  · left
    rw [lf_at ht] at hc ⊢
    obtain ⟨u, hu, h3⟩ := at_lt (T := T) (s := i) (by omega)
    have e := sub_at ht (x := i - (j + 1 - szT t)) (by omega)
    rw [show j + 1 - szT t + (i - (j + 1 - szT t)) = i by omega, hu] at e
    have := (po_seg [t] e).1
    have pu := szT_pos u
    rw [lf_at hu]; omega
theorem root_in {T : Tr} {i s r : Nat} (hi : isRoot T i) (h1 : lf T i ≤ s) (h2 : s ≤ i) (hr : isRoot T r) (e : lf T r = lf T s) : r ≤ i := by
  apply Classical.byContradiction
  intro hn
  have hs := lf_le (T := T) (s := s) (by have := hi.1; omega)
  have a := laminar (T := T) (i := i) (j := r) (by omega) hr.1
  have b : lf T i ≤ lf T s := by
    rcases Nat.lt_or_ge s i with h | h
    · rcases laminar h hi.1 with h3 | h3 <;> omega
    · rw [show s = i by omega]; exact Nat.le_refl _
  exact hi.2 r (by omega) hr.1 (by omega)
/-! ### The list of the roots -/
theorem mem_mget {κ β : Type} [DecidableEq κ] {l : List (κ × β)} (hn : (l.map (·.1)).Nodup) {a : κ} {b : β} : (a, b) ∈ l ↔ mget l a = some b := by
  constructor
  · intro h
    obtain ⟨j, hj⟩ := List.getElem?_of_mem h
    exact mget_at hn hj
  · intro h
    unfold mget at h
    obtain ⟨p, hp, e⟩ := Option.map_eq_some_iff.1 h
    have h1 := List.mem_of_find?_eq_some hp
    have h2 := List.find?_some hp
    simp only [decide_eq_true_eq] at h2
    obtain ⟨x, y⟩ := p
    simp only at h2 e
    subst h2; subst e; exact h1
theorem sortedN {l : List Int} (h : l.Nodup) : (l.mergeSort fun x y => decide (x ≤ y)).Pairwise (· < ·) := by
  have h1 : (l.mergeSort fun x y => decide (x ≤ y)).Pairwise fun a b => decide (a ≤ b) = true := List.pairwise_mergeSort (fun a b c h k => by simp at *; omega) (fun a b => by simp; omega) l
  have h2 : (l.mergeSort fun x y => decide (x ≤ y)).Nodup := (List.mergeSort_perm l _).nodup_iff.2 h
  exact (h1.and h2).imp fun h => by
    have := h.1
    simp at this
    have := h.2
    omega
structure Roots (T : Tr) (R : List Nat) : Prop where
  rise : R.Pairwise (· < ·)
  mem : ∀ i, i ∈ R ↔ isRoot T i
theorem roots_m {c : DFlat} {T : Tr} (h : ArrOf c T) (hT : szT T ≤ 100000) : ∃ R, m_distance_flat_roots c = some (R.map fun i : Nat => (i : Int)) ∧ Roots T R ∧ R.length ≤ szT T := by
  unfold m_distance_flat_roots
  obtain ⟨l, hl, hn, hg, hlen⟩ := loop_for (body := fun s => m_distance_flat_roots_lp1 c s.1 s.2) (fun k s => s.1 = (k : Int) ∧ (s.2.map (·.1)).Nodup ∧ (∀ a b, mget s.2 a = some b ↔ ∃ i : Nat, i < k ∧ b = (i : Int) ∧ a = ((lf T i : Nat) : Int) ∧ ∀ j, i < j → j < k → lf T j ≠ lf T i) ∧ s.2.length ≤ k)
    (fun l => (l.map (·.1)).Nodup ∧ (∀ a b, mget l a = some b ↔ ∃ i : Nat, i < szT T ∧ b = (i : Int) ∧ a = ((lf T i : Nat) : Int) ∧ ∀ j, i < j → j < szT T → lf T j ≠ lf T i) ∧ l.length ≤ szT T) (szT T) 0 (0, [])
    ⟨rfl, List.nodup_nil, fun a b => by simp [mget], Nat.le_refl _⟩
    (by
      rintro k ⟨x, l⟩ _ hk ⟨e, hn, hg, hlen⟩
      simp only at e hn hg hlen
      subst e
      refine ⟨(((k + 1 : Nat) : Int), mput l ((lf T k : Nat) : Int) (k : Int)), ?_, rfl, mput_nodup hn _ _, fun a b => ?_, ?_⟩
      · simp only [m_distance_flat_roots_lp1]
        rw [if_pos (by simp [h.leftn]; omega), idx_nat (h.left k (by omega))]
        simp only [Option.bind_some]
        rw [inK_succ (by omega)]
        rfl
      · simp only
        rw [mget_mput]
        split
        · rename_i ha
          subst ha
          constructor
          · intro hb
            exact ⟨k, by omega, (Option.some.inj hb).symm, rfl, fun j h1 h2 => by omega⟩
          · rintro ⟨i, h1, rfl, h3, h4⟩
            by_cases hik : i = k
            · rw [hik]
            · exact absurd (by omega) (h4 k (by omega) (by omega))
        · rename_i ha
          rw [hg]
          constructor
          · rintro ⟨i, h1, h2, h3, h4⟩
            refine ⟨i, by omega, h2, h3, fun j a1 a2 => ?_⟩
            by_cases hjk : j = k
            · subst hjk; intro e; apply ha; rw [h3, e]
            · exact h4 j a1 (by omega)
          · rintro ⟨i, h1, h2, h3, h4⟩
            have hik : i ≠ k := fun e => by subst e; exact ha h3
            exact ⟨i, by omega, h2, h3, fun j a1 a2 => h4 j a1 (by omega)⟩
      · have := mput_len l ((lf T k : Nat) : Int) (k : Int)
        simp only; omega)
    (by
      rintro ⟨x, l⟩ ⟨e, hn, hg, hlen⟩
      simp only at e hn hg hlen
      rw [Nat.zero_add] at e hg hlen
      subst e
      refine ⟨l, ?_, hn, hg, hlen⟩
      simp only [m_distance_flat_roots_lp1]
      rw [if_neg (by simp [h.leftn])])
  rw [hl]
  simp only [Option.bind_some]
  have hmem : ∀ p ∈ l, ∃ i : Nat, i < szT T ∧ p = (((lf T i : Nat) : Int), (i : Int)) ∧ ∀ j, i < j → j < szT T → lf T j ≠ lf T i := fun p hp => by
    obtain ⟨i, a1, a2, a3, a4⟩ := (hg p.1 p.2).1 ((mem_mget hn).1 hp)
    exact ⟨i, a1, by rw [← a2, ← a3], a4⟩
  unfold m_sortedVals
  rw [if_pos ⟨List.all_eq_true.2 fun p hp => by
    obtain ⟨i, a1, rfl, _⟩ := hmem p hp
    have := lf_le a1
    simp only [Bool.and_eq_true, decide_eq_true_eq]
    omega, by omega⟩]
  simp only [Option.bind_some]
  have hnd : (l.map (·.2)).Nodup := by
    rw [List.nodup_iff_pairwise_ne, List.pairwise_map]
    rw [List.nodup_iff_pairwise_ne, List.pairwise_map] at hn
    refine List.Pairwise.imp_of_mem (fun {p q} hp hq hne => ?_) hn
    obtain ⟨i, a1, rfl, _⟩ := hmem p hp
    obtain ⟨j, b1, rfl, _⟩ := hmem q hq
    simp only at hne ⊢
    intro e
    apply hne
    have : i = j := by omega
    rw [this]
  have hs := sortedN hnd
  have hm : ∀ x, x ∈ ((l.map (·.2)).mergeSort fun x y => decide (x ≤ y)) ↔ ∃ i : Nat, x = (i : Int) ∧ isRoot T i := fun x => by
    rw [List.mem_mergeSort, List.mem_map]
    constructor
    · rintro ⟨p, hp, rfl⟩
      obtain ⟨i, a1, rfl, a3⟩ := hmem p hp
      exact ⟨i, rfl, a1, a3⟩
    · rintro ⟨i, rfl, h1, h2⟩
      exact ⟨(((lf T i : Nat) : Int), (i : Int)), (mem_mget hn).2 ((hg _ _).2 ⟨i, h1, rfl, rfl, h2⟩), rfl⟩
  have hvl : ((l.map (·.2)).mergeSort fun x y => decide (x ≤ y)).length ≤ szT T := by rw [List.length_mergeSort, List.length_map]; exact hlen
  generalize (l.map (·.2)).mergeSort (fun x y => decide (x ≤ y)) = V at hs hm hvl ⊢
  refine ⟨V.map Int.toNat, ?_, ⟨?_, fun i => ?_⟩, by rw [List.length_map]; exact hvl⟩
  · rw [List.map_map]
    have : V.map ((fun i : Nat => (i : Int)) ∘ Int.toNat) = V.map id := List.map_congr_left fun x hx => by
      obtain ⟨i, rfl, _⟩ := (hm x).1 hx
      simp
    rw [this, List.map_id]
  · rw [List.pairwise_map]
    refine List.Pairwise.imp_of_mem (fun {a b} ha hb hab => ?_) hs
    obtain ⟨i, rfl, _⟩ := (hm a).1 ha
    obtain ⟨j, rfl, _⟩ := (hm b).1 hb
    omega
  · rw [List.mem_map]
    constructor
    · rintro ⟨x, hx, rfl⟩
      obtain ⟨j, rfl, h2⟩ := (hm x).1 hx
      simpa using h2
    · intro hi
      exact ⟨(i : Int), (hm _).2 ⟨i, rfl, hi⟩, by simp⟩

/-! ### All pairs of roots -/
structure Good (T T' : Tr) (R R' : List Nat) (a b : Nat) (D : List (List Int)) : Prop where
  dim : Dim D (szT T) (szT T')
  val : ∀ s t u u' r r', (po [T])[s]? = some u → (po [T'])[t]? = some u' → isRoot T r → lf T r = lf T s → isRoot T' r' → lf T' r' = lf T' t →
    (r ∈ R.take a ∨ R[a]? = some r ∧ r' ∈ R'.take b) → at2 D s t = some ((fd [u] [u'] : Nat) : Int)
theorem rise_before {R : List Nat} (h : R.Pairwise (· < ·)) {a i r : Nat} (ha : R[a]? = some i) (hr : r ∈ R) (hlt : r < i) : r ∈ R.take a := by
  obtain ⟨j, hj⟩ := List.getElem?_of_mem hr
  obtain ⟨h1, h2⟩ := List.getElem?_eq_some_iff.1 hj
  obtain ⟨h3, h4⟩ := List.getElem?_eq_some_iff.1 ha
  rw [List.pairwise_iff_getElem] at h
  have : j < a := by
    rcases Nat.lt_trichotomy j a with hh | hh | hh
    · exact hh
    · subst hh; omega
    · have := h a j h3 h1 hh; omega
  exact List.mem_of_getElem? (i := j) (by rw [List.getElem?_take, if_pos this]; exact hj)
theorem rise_take {R : List Nat} {a i r : Nat} (ha : R[a]? = some i) : r ∈ R.take (a + 1) ↔ r ∈ R.take a ∨ r = i := by
  rw [take_snoc_of ha, List.mem_append, List.mem_singleton]
theorem pair_m {c0 c1 : DFlat} {T T' : Tr} {R R' : List Nat} (h0 : ArrOf c0 T) (h1 : ArrOf c1 T') (hT : szT T ≤ 100000) (hT' : szT T' ≤ 100000) (hR : Roots T R) (hR' : Roots T' R') {a b i k : Nat} (ha : R[a]? = some i) (hb : R'[b]? = some k) {D : List (List Int)} (hD : Good T T' R R' a b D) :
    ∃ D', m_distance_filler_1 (i : Int) (k : Int) c0 c1 D = some D' ∧ Good T T' R R' a (b + 1) D' := by
  have ri := (hR.mem i).1 (List.mem_of_getElem? ha)
  have rk := (hR'.mem k).1 (List.mem_of_getElem? hb)
  obtain ⟨ti, hti, si⟩ := at_lt ri.1
  obtain ⟨tk, htk, sk⟩ := at_lt rk.1
  have pi := szT_pos ti
  have pk := szT_pos tk
  have ei := lf_at hti
  have ek := lf_at htk
  obtain ⟨D', hD', hd⟩ := filler_m h0 h1 hT hT' hti htk hD.dim (fun s t u u' a1 a2 a3 a4 hu hu' hne => by
    have ls := lt_at hu
    have lt := lt_at hu'
    obtain ⟨r, b1, b2, b3⟩ := root_of T _ s ls (Nat.le_refl _)
    obtain ⟨r', c1, c2, c3⟩ := root_of T' _ t lt (Nat.le_refl _)
    have d1 := root_in ri (by rw [ei]; exact a1) a2 b1 b2
    have d2 := root_in rk (by rw [ek]; exact a3) a4 c1 c2
    refine hD.val s t u u' r r' hu hu' b1 b2 c1 c2 ?_
    rcases Nat.lt_or_ge r i with h | h
    · exact Or.inl (rise_before hR.rise ha ((hR.mem r).2 b1) h)
    · have : r = i := by omega
      subst this
      refine Or.inr ⟨ha, rise_before hR'.rise hb ((hR'.mem r').2 c1) ?_⟩
      rcases Nat.lt_or_ge r' k with h2 | h2
      · exact h2
      · have : r' = k := by omega
        subst this
        exact absurd ⟨by rw [← b2, ei], by rw [← c2, ek]⟩ hne)
  refine ⟨D', hD', hd.dim, fun s t u u' r r' hu hu' b1 b2 c1 c2 hr => ?_⟩
  have ls := lt_at hu
  have lt := lt_at hu'
  by_cases hik : r = i ∧ r' = k
  · obtain ⟨rfl, rfl⟩ := hik
    refine hd.new s t u u' hu hu' ?_ (by rw [← b2, ei]) (by rw [← c2, ek])
    have e1 := lf_le ls
    have e2 := lf_le lt
    have f1 : s ≤ r := by
      apply Classical.byContradiction
      intro hn
      exact b1.2 s (by omega) ls b2.symm
    have f2 : t ≤ r' := by
      apply Classical.byContradiction
      intro hn
      exact c1.2 t (by omega) lt c2.symm
    unfold come
    omega
  · rw [hd.old s t (fun hh => hik ⟨root_uniq b1 ri (by rw [b2, hh.2.1, ei]), root_uniq c1 rk (by rw [c2, hh.2.2, ek])⟩)]
    refine hD.val s t u u' r r' hu hu' b1 b2 c1 c2 ?_
    rcases hr with hr | ⟨hr, hr2⟩
    · exact Or.inl hr
    · rcases (rise_take hb).1 hr2 with h | h
      · exact Or.inr ⟨hr, h⟩
      · rw [ha] at hr
        exact absurd ⟨(Option.some.inj hr).symm, h⟩ hik
theorem pairs_m {c0 c1 : DFlat} {T T' : Tr} {R R' : List Nat} (h0 : ArrOf c0 T) (h1 : ArrOf c1 T') (hT : szT T ≤ 100000) (hT' : szT T' ≤ 100000) (hR : Roots T R) (hR' : Roots T' R') (hroots : m_distance_flat_roots c1 = some (R'.map fun i : Nat => (i : Int)))
    (hl : R.length ≤ 100000) (hl' : R'.length ≤ 100000) {D : List (List Int)} (hD : Dim D (szT T) (szT T')) :
    ∃ D', loopM (fun s => m_distance_subtrees_lp1 c0 c1 (R.map fun i : Nat => (i : Int)) s.1 s.2) (0, D) = some D' ∧ Dim D' (szT T) (szT T') ∧ ∀ s t u u', (po [T])[s]? = some u → (po [T'])[t]? = some u' → at2 D' s t = some ((fd [u] [u'] : Nat) : Int) := by
  refine loop_for (fun a s => s.1 = (a : Int) ∧ Good T T' R R' a 0 s.2) _ R.length 0 _ ⟨rfl, hD, fun s t u u' r r' _ _ _ _ _ _ h => by simp at h⟩ ?_ ?_
  · rintro a ⟨x, D⟩ _ ha ⟨e, hg⟩
    simp only at e hg
    subst e
    obtain ⟨i, hi⟩ := get_of_lt (l := R) (k := a) (by omega)
    obtain ⟨D', hD', hg'⟩ := loop_for (body := fun s => m_distance_subtrees_lp2 c0 c1 (i : Int) (R'.map fun i : Nat => (i : Int)) s.1 s.2) (fun b s => s.1 = (b : Int) ∧ Good T T' R R' a b s.2) (fun D => Good T T' R R' (a + 1) 0 D) R'.length 0 (0, D) ⟨rfl, hg⟩
      (by
        rintro b ⟨x, D⟩ _ hb ⟨e, hg⟩
        simp only at e hg
        subst e
        obtain ⟨k, hk⟩ := get_of_lt (l := R') (k := b) (by omega)
        obtain ⟨D', hD', hg'⟩ := pair_m h0 h1 hT hT' hR hR' hi hk hg
        refine ⟨(((b + 1 : Nat) : Int), D'), ?_, rfl, hg'⟩
        simp only [m_distance_subtrees_lp2]
        rw [if_pos (by simp; omega), idx_nat (by rw [List.getElem?_map, hk]; rfl)]
        simp only [Option.bind_some]
        rw [hD']
        simp only [Option.bind_some]
        rw [inK_succ (by omega)]
        rfl)
      (by
        rintro ⟨x, D⟩ ⟨e, hg⟩
        simp only at e hg
        rw [Nat.zero_add] at e hg
        subst e
        refine ⟨D, ?_, hg.dim, fun s t u u' r r' hu hu' b1 b2 c1 c2 hr => ?_⟩
        · simp only [m_distance_subtrees_lp2]
          rw [if_neg (by simp)]
        · refine hg.val s t u u' r r' hu hu' b1 b2 c1 c2 ?_
          rcases hr with hr | hr
          · rcases (rise_take hi).1 hr with h | h
            · exact Or.inl h
            · subst h
              exact Or.inr ⟨hi, by rw [List.take_of_length_le (Nat.le_refl _)]; exact (hR'.mem r').2 c1⟩
          · simp at hr)
    refine ⟨(((a + 1 : Nat) : Int), D'), ?_, rfl, hg'⟩
    simp only [m_distance_subtrees_lp1]
    rw [if_pos (by simp; omega), idx_nat (by rw [List.getElem?_map, hi]; rfl)]
    simp only [Option.bind_some]
    rw [hroots]
    simp only [Option.bind_some]
    rw [hD']
    simp only [Option.bind_some]
    rw [inK_succ (by omega)]
    rfl
  · rintro ⟨x, D⟩ ⟨e, hg⟩
    simp only at e hg
    rw [Nat.zero_add] at e hg
    subst e
    refine ⟨D, ?_, hg.dim, fun s t u u' hu hu' => ?_⟩
    · simp only [m_distance_subtrees_lp1]
      rw [if_neg (by simp)]
    · obtain ⟨r, b1, b2, b3⟩ := root_of T _ s (lt_at hu) (Nat.le_refl _)
      obtain ⟨r', c1, c2, c3⟩ := root_of T' _ t (lt_at hu') (Nat.le_refl _)
      exact hg.val s t u u' r r' hu hu' b1 b2 c1 c2 (Or.inl (by rw [List.take_of_length_le (Nat.le_refl _)]; exact (hR.mem r).2 b1))
end Go.Proofs.Ytnnccbagbgndpaa
