/-
  The function that fills in the distances of two subtrees' parts: its law.
-/
import Derived.Test.YtnnccbagbgndpaaQ4
set_option linter.unusedVariables false
set_option linter.unusedSimpArgs false
namespace Go.Proofs.Ytnnccbagbgndpaa
open Go.RowKit
section
variable {c0 c1 : DFlat} {T T' ti tk : Tr} {i k : Nat}
theorem FI.row {x : Nat} {f : List (List Int)} (h : FI ti tk x (szT tk) f) : FI ti tk (x + 1) 0 f := by
  refine ⟨h.dim, fun x' y' h1 h2 h3 => h.val x' y' h1 h2 ?_⟩
  omega
theorem DI.row {p q Y x : Nat} {D D' : List (List Int)} (h : DI T T' p q Y x Y D D') : DI T T' p q Y (x + 1) 0 D D' := by
  refine ⟨h.dim, fun s t u u' hu hu' hc l1 l2 => h.new s t u u' hu hu' ?_ l1 l2, fun s t hn => h.old s t fun hh => hn ⟨?_, hh.2⟩⟩
  · unfold come at *; omega
  · have := hh.1
    unfold come at *; omega
theorem DI.start {p q Y : Nat} {D : List (List Int)} (h : Dim D (szT T) (szT T')) : DI T T' p q Y 0 0 D D :=
  ⟨h, fun s t u u' hu hu' hc l1 l2 => by unfold come at hc; omega, fun s t _ => rfl⟩
theorem row_m (h0 : ArrOf c0 T) (h1 : ArrOf c1 T') (hT : szT T ≤ 100000) (hT' : szT T' ≤ 100000) (hi : (po [T])[i]? = some ti) (hk : (po [T'])[k]? = some tk) {D : List (List Int)}
    (need : ∀ s t u u', i + 1 - szT ti ≤ s → s ≤ i → k + 1 - szT tk ≤ t → t ≤ k → (po [T])[s]? = some u → (po [T'])[t]? = some u' → ¬ (lf T s = i + 1 - szT ti ∧ lf T' t = k + 1 - szT tk) → at2 D s t = some ((fd [u] [u'] : Nat) : Int))
    {x : Nat} (hx : x < szT ti) {f D' : List (List Int)} (hf : FI ti tk x 0 f) (hd : DI T T' (i + 1 - szT ti) (k + 1 - szT tk) (szT tk) x 0 D D') :
    ∃ r, loopM (fun s => m_distance_filler_1_lp4 (k : Int) c0 c1 ((i + 1 - szT ti : Nat) : Int) ((k + 1 - szT tk : Nat) : Int) ((i + 1 - szT ti + x : Nat) : Int) s.1 s.2.1 s.2.2) (((k + 1 - szT tk : Nat) : Int), f, D') = some r ∧ FI ti tk (x + 1) 0 r.1 ∧ DI T T' (i + 1 - szT ti) (k + 1 - szT tk) (szT tk) (x + 1) 0 D r.2 := by
  have hsk := (po_seg [T'] hk).1
  refine loop_for (fun y s => s.1 = ((k + 1 - szT tk + y : Nat) : Int) ∧ FI ti tk x y s.2.1 ∧ DI T T' (i + 1 - szT ti) (k + 1 - szT tk) (szT tk) x y D s.2.2) _ (szT tk) 0 _ ⟨rfl, hf, hd⟩ ?_ ?_
  · rintro y ⟨a, f, D'⟩ _ hy ⟨e, hf, hd⟩
    simp only at e hf hd
    subst e
    obtain ⟨f2, D2, h, a1, a2⟩ := inner_m h0 h1 hT hT' hi hk need hx (by omega) hf hd
    exact ⟨_, h, rfl, a1, a2⟩
  · rintro ⟨a, f, D'⟩ ⟨e, hf, hd⟩
    simp only at e hf hd
    rw [Nat.zero_add] at e hf hd
    subst e
    refine ⟨(f, D'), ?_, hf.row, hd.row⟩
    simp only [m_distance_filler_1_lp4]
    rw [if_neg (by simp; omega)]
theorem rows_m (h0 : ArrOf c0 T) (h1 : ArrOf c1 T') (hT : szT T ≤ 100000) (hT' : szT T' ≤ 100000) (hi : (po [T])[i]? = some ti) (hk : (po [T'])[k]? = some tk) {D : List (List Int)} (hD : Dim D (szT T) (szT T'))
    (need : ∀ s t u u', i + 1 - szT ti ≤ s → s ≤ i → k + 1 - szT tk ≤ t → t ≤ k → (po [T])[s]? = some u → (po [T'])[t]? = some u' → ¬ (lf T s = i + 1 - szT ti ∧ lf T' t = k + 1 - szT tk) → at2 D s t = some ((fd [u] [u'] : Nat) : Int))
    {f : List (List Int)} (hf : FI ti tk 0 0 f) :
    ∃ r, loopM (fun s => m_distance_filler_1_lp3 (i : Int) (k : Int) c0 c1 ((i + 1 - szT ti : Nat) : Int) ((k + 1 - szT tk : Nat) : Int) s.1 s.2.1 s.2.2) (((i + 1 - szT ti : Nat) : Int), f, D) = some r ∧ DI T T' (i + 1 - szT ti) (k + 1 - szT tk) (szT tk) (szT ti) 0 D r.2 := by
  have hsi := (po_seg [T] hi).1
  have hiT := lt_at hi
  refine loop_for (fun x s => s.1 = ((i + 1 - szT ti + x : Nat) : Int) ∧ FI ti tk x 0 s.2.1 ∧ DI T T' (i + 1 - szT ti) (k + 1 - szT tk) (szT tk) x 0 D s.2.2) _ (szT ti) 0 _ ⟨rfl, hf, DI.start hD⟩ ?_ ?_
  · rintro x ⟨a, f, D'⟩ _ hx ⟨e, hf, hd⟩
    simp only at e hf hd
    subst e
    obtain ⟨r, h, a1, a2⟩ := row_m h0 h1 hT hT' hi hk need (x := x) (by omega) hf hd
    refine ⟨(((i + 1 - szT ti + (x + 1) : Nat) : Int), r.1, r.2), ?_, rfl, a1, a2⟩
    simp only [m_distance_filler_1_lp3]
    rw [if_pos (by simp; omega), h]
    simp only [Option.bind_some]
    rw [inK_eq (by omega)]
    rfl
  · rintro ⟨a, f, D'⟩ ⟨e, hf, hd⟩
    simp only at e hf hd
    rw [Nat.zero_add] at e hf hd
    subst e
    refine ⟨(f, D'), ?_, hd⟩
    simp only [m_distance_filler_1_lp3]
    rw [if_neg (by simp; omega)]
/-- The borders of a table of zeros. -/
theorem border_m {N M : Nat} (hN : N ≤ 4294967296) (hM : M ≤ 4294967296) (hN0 : 0 < N) {f : List (List Int)} (hf : Dim f N M) (hM0 : 0 < M) :
    ∃ g, loopM (fun s => m_distance_filler_1_lp1 f s.1 s.2) (0, f) = some g ∧ Dim g N M ∧ (∀ x, x < N → at2 g x 0 = some (x : Int)) ∧ ∃ r0, idx g 0 = some r0 ∧ r0.length = M ∧
      ∃ g', loopM (fun s => m_distance_filler_1_lp2 r0 s.1 s.2) (0, g) = some g' ∧ Dim g' N M ∧ (∀ x, x < N → at2 g' x 0 = some (x : Int)) ∧ (∀ y, y < M → at2 g' 0 y = some (y : Int)) := by
  obtain ⟨g, hg, hd, hv⟩ := loop_for (body := fun s => m_distance_filler_1_lp1 f s.1 s.2) (fun k s => s.1 = (k : Int) ∧ Dim s.2 N M ∧ ∀ x, x < k → at2 s.2 x 0 = some (x : Int)) (fun g => Dim g N M ∧ ∀ x, x < N → at2 g x 0 = some (x : Int)) N 0 (0, f) ⟨rfl, hf, fun x h => by omega⟩
    (by
      rintro x ⟨a, f'⟩ _ hx ⟨e, hd, hv⟩
      simp only at e hd hv
      subst e
      obtain ⟨r, v, a1, a2, _, a4⟩ := hd.get (s := x) (t := 0) (by omega) hM0
      refine ⟨(((x + 1 : Nat) : Int), f'.set x (r.set 0 (x : Int))), ?_, rfl, hd.set a1 _, fun x' hx' => ?_⟩
      · simp only [m_distance_filler_1_lp1]
        rw [if_pos (by simp [hf.rows]; omega), idx_nat a1]
        simp only [Option.bind_some]
        rw [show (0 : Int) = ((0 : Nat) : Int) from rfl, idx_nat a2]
        simp only [Option.bind_some, Int.toNat_natCast]
        rw [inK_succ (by omega)]
        rfl
      · simp only
        rw [at2_set a1 a2]
        split
        · rename_i hh; rw [hh.1]
        · rename_i hh
          exact hv x' (by omega))
    (by
      rintro ⟨a, f'⟩ ⟨e, hd, hv⟩
      simp only at e hd hv
      subst e
      refine ⟨f', ?_, hd, fun x hx => hv x (by omega)⟩
      simp only [m_distance_filler_1_lp1]
      rw [if_neg (by simp [hf.rows])])
  obtain ⟨r0, v0, b1, b2, _, b4⟩ := hd.get (s := 0) (t := 0) hN0 hM0
  refine ⟨g, hg, hd, hv, r0, idx_nat (k := 0) b1, b4, ?_⟩
  obtain ⟨g', hg', hd', hv', hw'⟩ := loop_for (body := fun s => m_distance_filler_1_lp2 r0 s.1 s.2) (fun k s => s.1 = (k : Int) ∧ Dim s.2 N M ∧ (∀ x, x < N → at2 s.2 x 0 = some (x : Int)) ∧ ∀ y, y < k → at2 s.2 0 y = some (y : Int)) (fun g => Dim g N M ∧ (∀ x, x < N → at2 g x 0 = some (x : Int)) ∧ ∀ y, y < M → at2 g 0 y = some (y : Int)) M 0 (0, g) ⟨rfl, hd, hv, fun x h => by omega⟩
    (by
      rintro y ⟨a, f'⟩ _ hy ⟨e, hd, hv, hw⟩
      simp only at e hd hv hw
      subst e
      obtain ⟨r, v, a1, a2, _, a4⟩ := hd.get (s := 0) (t := y) (by omega) (by omega)
      refine ⟨(((y + 1 : Nat) : Int), f'.set 0 (r.set y (y : Int))), ?_, rfl, hd.set a1 _, fun x' hx' => ?_, fun y' hy' => ?_⟩
      · simp only [m_distance_filler_1_lp2]
        rw [if_pos (by simp [b4]; omega), show (0 : Int) = ((0 : Nat) : Int) from rfl, idx_nat a1]
        simp only [Option.bind_some]
        rw [idx_nat a2]
        simp only [Option.bind_some, Int.toNat_natCast]
        rw [inK_succ (by omega)]
        rfl
      · simp only
        rw [at2_set a1 a2]
        split
        · rename_i hh; rw [hh.1, ← hh.2]
        · exact hv x' hx'
      · simp only
        rw [at2_set a1 a2]
        split
        · rename_i hh; rw [hh.2]
        · rename_i hh
          exact hw y' (by omega))
    (by
      rintro ⟨a, f'⟩ ⟨e, hd, hv, hw⟩
      simp only at e hd hv hw
      subst e
      refine ⟨f', ?_, hd, hv, fun y hy => hw y (by omega)⟩
      simp only [m_distance_filler_1_lp2]
      rw [if_neg (by simp [b4])])
  exact ⟨g', hg', hd', hv', hw'⟩
/-- Two subtrees' distances are filled in. -/
theorem filler_m (h0 : ArrOf c0 T) (h1 : ArrOf c1 T') (hT : szT T ≤ 100000) (hT' : szT T' ≤ 100000) (hi : (po [T])[i]? = some ti) (hk : (po [T'])[k]? = some tk) {D : List (List Int)} (hD : Dim D (szT T) (szT T'))
    (need : ∀ s t u u', i + 1 - szT ti ≤ s → s ≤ i → k + 1 - szT tk ≤ t → t ≤ k → (po [T])[s]? = some u → (po [T'])[t]? = some u' → ¬ (lf T s = i + 1 - szT ti ∧ lf T' t = k + 1 - szT tk) → at2 D s t = some ((fd [u] [u'] : Nat) : Int)) :
    ∃ D', m_distance_filler_1 (i : Int) (k : Int) c0 c1 D = some D' ∧ DI T T' (i + 1 - szT ti) (k + 1 - szT tk) (szT tk) (szT ti) 0 D D' := by
  have hsi := (po_seg [T] hi).1
  have hsk := (po_seg [T'] hk).1
  have hiT := lt_at hi
  have hkT := lt_at hk
  unfold m_distance_filler_1
  rw [idx_nat (h0.left i hiT)]
  simp only [Option.bind_some]
  rw [idx_nat (h1.left k hkT)]
  simp only [Option.bind_some]
  rw [lf_at hi, lf_at hk, inK_eq (by omega)]
  simp only [Option.bind_some]
  rw [inK_eq (by omega)]
  simp only [Option.bind_some]
  rw [inK_eq (by omega)]
  simp only [Option.bind_some]
  rw [inK_eq (by omega)]
  simp only [Option.bind_some]
  rw [show (i : Int) - ((i + 1 - szT ti : Nat) : Int) + 2 = ((szT ti + 1 : Nat) : Int) by omega, show (k : Int) - ((k + 1 - szT tk : Nat) : Int) + 2 = ((szT tk + 1 : Nat) : Int) by omega]
  obtain ⟨f, hf, hfd, _⟩ := table_m (szT ti + 1) (szT tk + 1) (by omega) (by omega)
  rw [hf]
  simp only [Option.bind_some]
  obtain ⟨g, hg, hgd, hgv, r0, hr0, hl0, g', hg', hd', hv', hw'⟩ := border_m (by omega) (by omega) (by omega) hfd (by omega)
  rw [hg]
  simp only [Option.bind_some]
  rw [hr0]
  simp only [Option.bind_some]
  rw [hg']
  simp only [Option.bind_some]
  have hFI : FI ti tk 0 0 g' := by
    refine ⟨hd', fun x' y' a1 a2 a3 => ?_⟩
    by_cases hx : x' = 0
    · subst hx
      rw [hw' y' (by omega), fr_zero, fd_r0, sz_fr tk a2]
    · have : y' = 0 := by omega
      subst this
      rw [hv' x' (by omega), fr_zero, fd_l0, sz_fr ti a1]
  obtain ⟨r, hr, hdi⟩ := rows_m h0 h1 hT hT' hi hk hD need hFI
  rw [hr]
  exact ⟨_, rfl, hdi⟩
end
end Go.Proofs.Ytnnccbagbgndpaa
