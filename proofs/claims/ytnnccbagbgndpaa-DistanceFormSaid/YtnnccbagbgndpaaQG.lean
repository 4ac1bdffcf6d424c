/-
  The reference's tables of all pairs, and its distances by number.
-/
import Derived.Test.YtnnccbagbgndpaaQF
set_option linter.unusedVariables false
set_option linter.unusedSimpArgs false
namespace Go.Proofs.Ytnnccbagbgndpaa
open Go.RowKit
section
variable {c0 c1 : RFlat} {T T' ti tk : Tr} {i k : Nat}
theorem rrow_m (h0 : RArr c0 T) (h1 : RArr c1 T') (hT : szT T ≤ 100000) (hT' : szT T' ≤ 100000) (hi : (po [T])[i]? = some ti) (hk : (po [T'])[k]? = some tk) {D : List (List Int)}
    (need : ∀ s t u u', i + 1 - szT ti ≤ s → s ≤ i → k + 1 - szT tk ≤ t → t ≤ k → (po [T])[s]? = some u → (po [T'])[t]? = some u' → ¬ (lf T s = i + 1 - szT ti ∧ lf T' t = k + 1 - szT tk) → at2 D s t = some ((fd [u] [u'] : Nat) : Int))
    {x : Nat} (hx : x < szT ti) {f D' : List (List Int)} (hf : FI ti tk x 0 f) (hd : DI T T' (i + 1 - szT ti) (k + 1 - szT tk) (szT tk) x 0 D D') :
    ∃ r, loopM (fun s => m_assessorref37_forests_lp4 c0 c1 (k : Int) ((i + 1 - szT ti : Nat) : Int) ((k + 1 - szT tk : Nat) : Int) ((x + 1 : Nat) : Int) s.1 s.2.1 s.2.2) (1, f, D') = some r ∧ FI ti tk (x + 1) 0 r.1 ∧ DI T T' (i + 1 - szT ti) (k + 1 - szT tk) (szT tk) (x + 1) 0 D r.2 := by
  have hsk := (po_seg [T'] hk).1
  have hkT := lt_at hk
  refine loop_for (fun y s => s.1 = ((y + 1 : Nat) : Int) ∧ FI ti tk x y s.2.1 ∧ DI T T' (i + 1 - szT ti) (k + 1 - szT tk) (szT tk) x y D s.2.2) _ (szT tk) 0 _ ⟨rfl, hf, hd⟩ ?_ ?_
  · rintro y ⟨a, f, D'⟩ _ hy ⟨e, hf, hd⟩
    simp only at e hf hd
    subst e
    obtain ⟨f2, D2, h, a1, a2⟩ := rinner_m h0 h1 hT hT' hi hk need hx (by omega) hf hd
    exact ⟨_, h, rfl, a1, a2⟩
  · rintro ⟨a, f, D'⟩ ⟨e, hf, hd⟩
    simp only at e hf hd
    rw [Nat.zero_add] at e hf hd
    subst e
    refine ⟨(f, D'), ?_, hf.row, hd.row⟩
    simp only [m_assessorref37_forests_lp4]
    rw [inK_eq (by omega)]
    simp only [Option.bind_some]
    rw [inK_eq (by omega)]
    simp only [Option.bind_some]
    rw [if_neg (by rw [decide_eq_true_eq]; omega)]
theorem rrows_m (h0 : RArr c0 T) (h1 : RArr c1 T') (hT : szT T ≤ 100000) (hT' : szT T' ≤ 100000) (hi : (po [T])[i]? = some ti) (hk : (po [T'])[k]? = some tk) {D : List (List Int)} (hD : Dim D (szT T) (szT T'))
    (need : ∀ s t u u', i + 1 - szT ti ≤ s → s ≤ i → k + 1 - szT tk ≤ t → t ≤ k → (po [T])[s]? = some u → (po [T'])[t]? = some u' → ¬ (lf T s = i + 1 - szT ti ∧ lf T' t = k + 1 - szT tk) → at2 D s t = some ((fd [u] [u'] : Nat) : Int))
    {f : List (List Int)} (hf : FI ti tk 0 0 f) :
    ∃ r, loopM (fun s => m_assessorref37_forests_lp3 c0 c1 (i : Int) (k : Int) ((i + 1 - szT ti : Nat) : Int) ((k + 1 - szT tk : Nat) : Int) s.1 s.2.1 s.2.2) (1, f, D) = some r ∧ DI T T' (i + 1 - szT ti) (k + 1 - szT tk) (szT tk) (szT ti) 0 D r.2 := by
  have hsi := (po_seg [T] hi).1
  have hiT := lt_at hi
  refine loop_for (fun x s => s.1 = ((x + 1 : Nat) : Int) ∧ FI ti tk x 0 s.2.1 ∧ DI T T' (i + 1 - szT ti) (k + 1 - szT tk) (szT tk) x 0 D s.2.2) _ (szT ti) 0 _ ⟨rfl, hf, DI.start hD⟩ ?_ ?_
  · rintro x ⟨a, f, D'⟩ _ hx ⟨e, hf, hd⟩
    simp only at e hf hd
    subst e
    obtain ⟨r, h, a1, a2⟩ := rrow_m h0 h1 hT hT' hi hk need (x := x) (by omega) hf hd
    refine ⟨(((x + 1 + 1 : Nat) : Int), r.1, r.2), ?_, rfl, a1, a2⟩
    simp only [m_assessorref37_forests_lp3]
    rw [inK_eq (by omega)]
    simp only [Option.bind_some]
    rw [inK_eq (by omega)]
    simp only [Option.bind_some]
    rw [if_pos (by rw [decide_eq_true_eq]; omega), h]
    simp only [Option.bind_some]
    rw [inK_succ (by omega)]
    rfl
  · rintro ⟨a, f, D'⟩ ⟨e, hf, hd⟩
    simp only at e hf hd
    rw [Nat.zero_add] at e hf hd
    subst e
    refine ⟨(f, D'), ?_, hd⟩
    simp only [m_assessorref37_forests_lp3]
    rw [inK_eq (by omega)]
    simp only [Option.bind_some]
    rw [inK_eq (by omega)]
    simp only [Option.bind_some]
    rw [if_neg (by rw [decide_eq_true_eq]; omega)]
/-- The borders, from 1 on. -/
theorem rborder_m {p q : Nat} (hp : p ≤ i) (hq : q ≤ k) (hi : i ≤ 100000) (hk : k ≤ 100000) {f : List (List Int)} (hf : Dim f (i - p + 2) (k - q + 2)) (hz : at2 f 0 0 = some 0) :
    ∃ g, loopM (fun s => m_assessorref37_forests_lp1 (i : Int) (p : Int) s.1 s.2) (1, f) = some g ∧
      ∃ g', loopM (fun s => m_assessorref37_forests_lp2 (k : Int) (q : Int) s.1 s.2) (1, g) = some g' ∧ Dim g' (i - p + 2) (k - q + 2) ∧ (∀ x, x < i - p + 2 → at2 g' x 0 = some (x : Int)) ∧ (∀ y, y < k - q + 2 → at2 g' 0 y = some (y : Int)) := by
  obtain ⟨g, hg, hd, hv⟩ := loop_for (body := fun s => m_assessorref37_forests_lp1 (i : Int) (p : Int) s.1 s.2) (fun k' s => s.1 = ((k' + 1 : Nat) : Int) ∧ Dim s.2 (i - p + 2) (k - q + 2) ∧ ∀ x, x < k' + 1 → at2 s.2 x 0 = some (x : Int)) (fun g => Dim g (i - p + 2) (k - q + 2) ∧ ∀ x, x < i - p + 2 → at2 g x 0 = some (x : Int)) (i - p + 1) 0 (1, f) ⟨rfl, hf, fun x h => by
      have : x = 0 := by omega
      subst this; exact hz⟩
    (by
      rintro x ⟨a, f'⟩ _ hx ⟨e, hd, hv⟩
      simp only at e hd hv
      subst e
      obtain ⟨r, v, a1, a2, _, a4⟩ := hd.get (s := x + 1) (t := 0) (by omega) (by omega)
      refine ⟨(((x + 1 + 1 : Nat) : Int), f'.set (x + 1) (r.set 0 ((x + 1 : Nat) : Int))), ?_, rfl, hd.set a1 _, fun x' hx' => ?_⟩
      · simp only [m_assessorref37_forests_lp1]
        rw [inK_eq (by omega)]
        simp only [Option.bind_some]
        rw [inK_eq (by omega)]
        simp only [Option.bind_some]
        rw [if_pos (by rw [decide_eq_true_eq]; omega), idx_nat a1]
        simp only [Option.bind_some]
        rw [show (0 : Int) = ((0 : Nat) : Int) from rfl, idx_nat a2]
        simp only [Option.bind_some, Int.toNat_natCast]
        rw [inK_succ (by omega)]
        rfl
      · simp only
        rw [at2_set a1 a2]
        split
        · rename_i hh; rw [hh.1]
        · rename_i hh
          exact hv x' (by omega))
    (by
      rintro ⟨a, f'⟩ ⟨e, hd, hv⟩
      simp only at e hd hv
      subst e
      refine ⟨f', ?_, hd, fun x hx => hv x (by omega)⟩
      simp only [m_assessorref37_forests_lp1]
      rw [inK_eq (by omega)]
      simp only [Option.bind_some]
      rw [inK_eq (by omega)]
      simp only [Option.bind_some]
      rw [if_neg (by rw [decide_eq_true_eq]; omega)])
  refine ⟨g, hg, ?_⟩
  obtain ⟨g', hg', hd', hv', hw'⟩ := loop_for (body := fun s => m_assessorref37_forests_lp2 (k : Int) (q : Int) s.1 s.2) (fun k' s => s.1 = ((k' + 1 : Nat) : Int) ∧ Dim s.2 (i - p + 2) (k - q + 2) ∧ (∀ x, x < i - p + 2 → at2 s.2 x 0 = some (x : Int)) ∧ ∀ y, y < k' + 1 → at2 s.2 0 y = some (y : Int)) (fun g => Dim g (i - p + 2) (k - q + 2) ∧ (∀ x, x < i - p + 2 → at2 g x 0 = some (x : Int)) ∧ ∀ y, y < k - q + 2 → at2 g 0 y = some (y : Int)) (k - q + 1) 0 (1, g) ⟨rfl, hd, hv, fun y h => by
      have : y = 0 := by omega
      subst this; exact hv 0 (by omega)⟩
    (by
      rintro y ⟨a, f'⟩ _ hy ⟨e, hd, hv, hw⟩
      simp only at e hd hv hw
      subst e
      obtain ⟨r, v, a1, a2, _, a4⟩ := hd.get (s := 0) (t := y + 1) (by omega) (by omega)
      refine ⟨(((y + 1 + 1 : Nat) : Int), f'.set 0 (r.set (y + 1) ((y + 1 : Nat) : Int))), ?_, rfl, hd.set a1 _, fun x' hx' => ?_, fun y' hy' => ?_⟩
      · simp only [m_assessorref37_forests_lp2]
        rw [inK_eq (by omega)]
        simp only [Option.bind_some]
        rw [inK_eq (by omega)]
        simp only [Option.bind_some]
        rw [if_pos (by rw [decide_eq_true_eq]; omega), show (0 : Int) = ((0 : Nat) : Int) from rfl, idx_nat a1]
        simp only [Option.bind_some]
        rw [idx_nat a2]
        simp only [Option.bind_some, Int.toNat_natCast]
        rw [inK_succ (by omega)]
        rfl
      · simp only
        rw [at2_set a1 a2]
        split
        · rename_i hh; omega
        · exact hv x' hx'
      · simp only
        rw [at2_set a1 a2]
        split
        · rename_i hh; rw [hh.2]
        · rename_i hh
          exact hw y' (by omega))
    (by
      rintro ⟨a, f'⟩ ⟨e, hd, hv, hw⟩
      simp only at e hd hv hw
      subst e
      refine ⟨f', ?_, hd, hv, fun y hy => hw y (by omega)⟩
      simp only [m_assessorref37_forests_lp2]
      rw [inK_eq (by omega)]
      simp only [Option.bind_some]
      rw [inK_eq (by omega)]
      simp only [Option.bind_some]
      rw [if_neg (by rw [decide_eq_true_eq]; omega)])
  exact ⟨g', hg', hd', hv', hw'⟩
theorem rforests_m (h0 : RArr c0 T) (h1 : RArr c1 T') (hT : szT T ≤ 100000) (hT' : szT T' ≤ 100000) (hi : (po [T])[i]? = some ti) (hk : (po [T'])[k]? = some tk) {D : List (List Int)} (hD : Dim D (szT T) (szT T'))
    (need : ∀ s t u u', i + 1 - szT ti ≤ s → s ≤ i → k + 1 - szT tk ≤ t → t ≤ k → (po [T])[s]? = some u → (po [T'])[t]? = some u' → ¬ (lf T s = i + 1 - szT ti ∧ lf T' t = k + 1 - szT tk) → at2 D s t = some ((fd [u] [u'] : Nat) : Int)) :
    ∃ D', m_assessorref37_forests c0 c1 (i : Int) (k : Int) D = some D' ∧ DI T T' (i + 1 - szT ti) (k + 1 - szT tk) (szT tk) (szT ti) 0 D D' := by
  have hsi := (po_seg [T] hi).1
  have hsk := (po_seg [T'] hk).1
  have hiT := lt_at hi
  have hkT := lt_at hk
  have pi := szT_pos ti
  have pk := szT_pos tk
  unfold m_assessorref37_forests
  rw [idx_nat (h0.left i hiT)]
  simp only [Option.bind_some]
  rw [idx_nat (h1.left k hkT)]
  simp only [Option.bind_some]
  rw [lf_at hi, lf_at hk, inK_eq (by omega)]
  simp only [Option.bind_some]
  rw [inK_eq (by omega)]
  simp only [Option.bind_some]
  rw [inK_eq (by omega)]
  simp only [Option.bind_some]
  rw [inK_eq (by omega)]
  simp only [Option.bind_some]
  rw [show (i : Int) - ((i + 1 - szT ti : Nat) : Int) + 2 = ((szT ti + 1 : Nat) : Int) by omega, show (k : Int) - ((k + 1 - szT tk : Nat) : Int) + 2 = ((szT tk + 1 : Nat) : Int) by omega]
  obtain ⟨f, hf, hfd, hz⟩ := rtable_m (szT ti + 1) (szT tk + 1) (by omega) (by omega)
  rw [hf]
  simp only [Option.bind_some]
  have e1 : i - (i + 1 - szT ti) + 2 = szT ti + 1 := by omega
  have e2 : k - (k + 1 - szT tk) + 2 = szT tk + 1 := by omega
  obtain ⟨g, hg, g', hg', hd', hv', hw'⟩ := rborder_m (i := i) (k := k) (p := i + 1 - szT ti) (q := k + 1 - szT tk) (by omega) (by omega) (by omega) (by omega) (f := f) (by rw [e1, e2]; exact hfd) (hz 0 0 (by omega) (by omega))
  rw [e1] at hd' hv'
  rw [e2] at hd' hw'
  rw [hg]
  simp only [Option.bind_some]
  rw [hg']
  simp only [Option.bind_some]
  have hFI : FI ti tk 0 0 g' := by
    refine ⟨hd', fun x' y' a1 a2 a3 => ?_⟩
    by_cases hx : x' = 0
    · subst hx
      rw [hw' y' (by omega), fr_zero, fd_r0, sz_fr tk a2]
    · have : y' = 0 := by omega
      subst this
      rw [hv' x' (by omega), fr_zero, fd_l0, sz_fr ti a1]
  obtain ⟨r, hr, hdi⟩ := rrows_m h0 h1 hT hT' hi hk hD need hFI
  rw [hr]
  exact ⟨_, rfl, hdi⟩
end
/-! ### All pairs -/
structure RGood (T T' : Tr) (a b : Nat) (D : List (List Int)) : Prop where
  dim : Dim D (szT T) (szT T')
  val : ∀ s t u u', (po [T])[s]? = some u → (po [T'])[t]? = some u' → (s < a ∨ s = a ∧ t < b) → at2 D s t = some ((fd [u] [u'] : Nat) : Int)
theorem rpair_m {c0 c1 : RFlat} {T T' : Tr} (h0 : RArr c0 T) (h1 : RArr c1 T') (hT : szT T ≤ 100000) (hT' : szT T' ≤ 100000) {a b : Nat} (ha : a < szT T) (hb : b < szT T') {D : List (List Int)} (hD : RGood T T' a b D) :
    ∃ D', m_assessorref37_forests c0 c1 (a : Int) (b : Int) D = some D' ∧ RGood T T' a (b + 1) D' := by
  obtain ⟨ti, hti, si⟩ := at_lt ha
  obtain ⟨tk, htk, sk⟩ := at_lt hb
  have pi := szT_pos ti
  have pk := szT_pos tk
  have ei := lf_at hti
  have ek := lf_at htk
  obtain ⟨D', hD', hd⟩ := rforests_m h0 h1 hT hT' hti htk hD.dim (fun s t u u' a1 a2 a3 a4 hu hu' hne => by
    refine hD.val s t u u' hu hu' ?_
    by_cases hs : s = a
    · subst hs
      refine Or.inr ⟨rfl, ?_⟩
      by_cases ht : t = b
      · subst ht; exact absurd ⟨ei, ek⟩ hne
      · omega
    · left; omega)
  refine ⟨D', hD', hd.dim, fun s t u u' hu hu' hst => ?_⟩
  by_cases hnew : come (a + 1 - szT ti) (b + 1 - szT tk) (szT tk) (szT ti) 0 s t ∧ lf T s = a + 1 - szT ti ∧ lf T' t = b + 1 - szT tk
  · exact hd.new s t u u' hu hu' hnew.1 hnew.2.1 hnew.2.2
  · rw [hd.old s t hnew]
    refine hD.val s t u u' hu hu' ?_
    have : ¬ (s = a ∧ t = b) := fun h => by
      obtain ⟨rfl, rfl⟩ := h
      exact hnew ⟨by unfold come; omega, ei, ek⟩
    omega
theorem rpairs_m {c0 c1 : RFlat} {T T' : Tr} (h0 : RArr c0 T) (h1 : RArr c1 T') (hT : szT T ≤ 100000) (hT' : szT T' ≤ 100000) {D : List (List Int)} (hD : Dim D (szT T) (szT T')) :
    ∃ D', loopM (fun s => m_assessorref37_Subtrees_lp1 c0 c1 s.1 s.2) (0, D) = some D' ∧ RGood T T' (szT T) 0 D' := by
  refine loop_for (fun a s => s.1 = (a : Int) ∧ RGood T T' a 0 s.2) _ (szT T) 0 _ ⟨rfl, hD, fun s t u u' _ _ h => by omega⟩ ?_ ?_
  · rintro a ⟨x, D⟩ _ ha ⟨e, hg⟩
    simp only at e hg
    subst e
    obtain ⟨D', hD', hg'⟩ := loop_for (body := fun s => m_assessorref37_Subtrees_lp2 c0 c1 (a : Int) s.1 s.2) (fun b s => s.1 = (b : Int) ∧ RGood T T' a b s.2) (fun D => RGood T T' (a + 1) 0 D) (szT T') 0 (0, D) ⟨rfl, hg⟩
      (by
        rintro b ⟨x, D⟩ _ hb ⟨e, hg⟩
        simp only at e hg
        subst e
        obtain ⟨D', hD', hg'⟩ := rpair_m h0 h1 hT hT' (by omega) (by omega) hg
        refine ⟨(((b + 1 : Nat) : Int), D'), ?_, rfl, hg'⟩
        simp only [m_assessorref37_Subtrees_lp2]
        rw [if_pos (by simp [h1.klen]; omega), hD']
        simp only [Option.bind_some]
        rw [inK_succ (by omega)]
        rfl)
      (by
        rintro ⟨x, D⟩ ⟨e, hg⟩
        simp only at e hg
        rw [Nat.zero_add] at e hg
        subst e
        refine ⟨D, ?_, hg.dim, fun s t u u' hu hu' hst => hg.val s t u u' hu hu' ?_⟩
        · simp only [m_assessorref37_Subtrees_lp2]
          rw [if_neg (by simp [h1.klen])]
        · have := lt_at hu'
          omega)
    refine ⟨(((a + 1 : Nat) : Int), D'), ?_, rfl, hg'⟩
    simp only [m_assessorref37_Subtrees_lp1]
    rw [if_pos (by simp [h0.klen]; omega), hD']
    simp only [Option.bind_some]
    rw [inK_succ (by omega)]
    rfl
  · rintro ⟨x, D⟩ ⟨e, hg⟩
    simp only at e hg
    rw [Nat.zero_add] at e hg
    subst e
    refine ⟨D, ?_, hg⟩
    simp only [m_assessorref37_Subtrees_lp1]
    rw [if_neg (by simp [h0.klen])]
theorem rwrite_m {c0 c1 : RFlat} {D : List (List Int)} {N N' : Nat} (hN : N ≤ 100000) (hN' : N' ≤ 100000) (hD : Dim D N N') (k0 : c0.kinds.length = N) (k1 : c1.kinds.length = N') (hn : Nums c0.numbers N) (hn' : Nums c1.numbers N') {out : List (List Int)} (ho : Dim out N N') :
    ∃ out', loopM (fun s => m_assessorref37_Subtrees_lp3 c0 c1 D s.1 s.2) (0, out) = some out' ∧ Wrote D c0.numbers c1.numbers N N' N 0 out' := by
  refine loop_for (fun i s => s.1 = (i : Int) ∧ Wrote D c0.numbers c1.numbers N N' i 0 s.2) _ N 0 _ ⟨rfl, ho, fun s t x y d _ _ _ h => by omega⟩ ?_ ?_
  · rintro i ⟨z, out⟩ _ hi ⟨e, hw⟩
    simp only at e hw
    subst e
    obtain ⟨row, hrow⟩ := get_of_lt (l := D) (k := i) (by rw [hD.rows]; omega)
    have hrl := hD.cols row (List.mem_of_getElem? hrow)
    obtain ⟨x, hx⟩ := get_of_lt (l := c0.numbers) (k := i) (by rw [hn.len]; omega)
    have rx := hn.rng x (List.mem_of_getElem? hx)
    obtain ⟨o2, h2, hw2⟩ := loop_for (body := fun s => m_assessorref37_Subtrees_lp4 c0 c1 D (i : Int) s.1 s.2) (fun k s => s.1 = (k : Int) ∧ Wrote D c0.numbers c1.numbers N N' i k s.2) (fun o => Wrote D c0.numbers c1.numbers N N' (i + 1) 0 o) N' 0 (0, out) ⟨rfl, hw⟩
      (by
        rintro k ⟨z, out⟩ _ hk ⟨e, hw⟩
        simp only at e hw
        subst e
        obtain ⟨d, hd⟩ := get_of_lt (l := row) (k := k) (by rw [hrl]; omega)
        obtain ⟨y, hy⟩ := get_of_lt (l := c1.numbers) (k := k) (by rw [hn'.len]; omega)
        have ry := hn'.rng y (List.mem_of_getElem? hy)
        obtain ⟨r, v, a1, a2, _, _⟩ := hw.dim.get (s := x.toNat) (t := y.toNat) (by omega) (by omega)
        refine ⟨(((k + 1 : Nat) : Int), out.set x.toNat (r.set y.toNat d)), ?_, rfl, hw.step hn hn' hx hy (by unfold at2; rw [hrow]; exact hd) a1 a2⟩
        simp only [m_assessorref37_Subtrees_lp4]
        rw [if_pos (by simp [k1]; omega), idx_nat hx]
        simp only [Option.bind_some]
        rw [idx_of rx.1 a1]
        simp only [Option.bind_some]
        rw [idx_nat hy]
        simp only [Option.bind_some]
        rw [idx_nat hrow]
        simp only [Option.bind_some]
        rw [idx_nat hd]
        simp only [Option.bind_some]
        rw [idx_of ry.1 a2]
        simp only [Option.bind_some]
        rw [inK_succ (by omega)]
        rfl)
      (by
        rintro ⟨z, out⟩ ⟨e, hw⟩
        simp only at e hw
        rw [Nat.zero_add] at e hw
        subst e
        refine ⟨out, ?_, hw.dim, fun s t x y d hx hy hd hst => hw.val s t x y d hx hy hd ?_⟩
        · simp only [m_assessorref37_Subtrees_lp4]
          rw [if_neg (by simp [k1])]
        · have := (List.getElem?_eq_some_iff.1 hy).1
          rw [hn'.len] at this
          omega)
    refine ⟨(((i + 1 : Nat) : Int), o2), ?_, rfl, hw2⟩
    simp only [m_assessorref37_Subtrees_lp3]
    rw [if_pos (by simp [k0]; omega), h2]
    simp only [Option.bind_some]
    rw [inK_succ (by omega)]
    rfl
  · rintro ⟨z, out⟩ ⟨e, hw⟩
    simp only at e hw
    rw [Nat.zero_add] at e hw
    subst e
    refine ⟨out, ?_, hw⟩
    simp only [m_assessorref37_Subtrees_lp3]
    rw [if_neg (by simp [k0])]
theorem rSubtrees_m (a b : Node) (ha : cntN a ≤ 100000) (hb : cntN b ≤ 100000) : ∃ out, m_assessorref37_Subtrees a b = some out ∧ SubOf a b out := by
  unfold m_assessorref37_Subtrees
  rw [rflat_m a ha]
  simp only [Option.bind_some]
  rw [rflat_m b hb]
  simp only [Option.bind_some]
  have h0 := rArr a
  have h1 := rArr b
  have sa := sz_toT a
  have sb := sz_toT b
  have na : Nums (rOf a).numbers (cntN a) := nums_of a
  have nb : Nums (rOf b).numbers (cntN b) := nums_of b
  have ea : (rOf a).numbers = numsN a 0 := rfl
  have eb : (rOf b).numbers = numsN b 0 := rfl
  have la := h0.klen
  have lb := h1.klen
  rw [la, lb, sa, sb]
  obtain ⟨D, hD, hdim, _⟩ := rtable_m (cntN a) (cntN b) (by omega) (by omega)
  rw [hD]
  simp only [Option.bind_some]
  obtain ⟨D', hD', hg⟩ := rpairs_m h0 h1 (by omega) (by omega) (D := D) (by rw [sa, sb]; exact hdim)
  rw [hD']
  simp only [Option.bind_some]
  have hdim' := hg.dim
  rw [sa, sb] at hdim'
  obtain ⟨out, ho, hw⟩ := rwrite_m ha hb hdim' (by rw [la, sa]) (by rw [lb, sb]) na nb hdim
  rw [ho]
  refine ⟨out, rfl, hw.dim, fun s t u u' x y hu hu' hx hy => ?_⟩
  have := lt_at hu
  exact hw.val s t x y _ (by rw [ea]; exact hx) (by rw [eb]; exact hy) (hg.val s t u u' hu hu' (Or.inl this)) (Or.inl (by omega))
/-- What the numbers say is one. -/
theorem SubOf.ext {a b : Node} {o o' : List (List Int)} (h : SubOf a b o) (h' : SubOf a b o') {p q : Nat} (hp : p < cntN a) (hq : q < cntN b) : at2 o p q = at2 o' p q := by
  have m1 := (nums_memN a 0 (p : Int)).2 (by omega)
  have m2 := (nums_memN b 0 (q : Int)).2 (by omega)
  obtain ⟨s, hs⟩ := List.getElem?_of_mem m1
  obtain ⟨t, ht⟩ := List.getElem?_of_mem m2
  have ls := (List.getElem?_eq_some_iff.1 hs).1
  have lt := (List.getElem?_eq_some_iff.1 ht).1
  rw [nums_lenN] at ls lt
  obtain ⟨u, hu, _⟩ := at_lt (T := toT a) (s := s) (by rw [sz_toT]; exact ls)
  obtain ⟨u', hu', _⟩ := at_lt (T := toT b) (s := t) (by rw [sz_toT]; exact lt)
  have e1 := h.val s t u u' _ _ hu hu' hs ht
  have e2 := h'.val s t u u' _ _ hu hu' hs ht
  simp only [Int.toNat_natCast] at e1 e2
  rw [e1, e2]
end Go.Proofs.Ytnnccbagbgndpaa
