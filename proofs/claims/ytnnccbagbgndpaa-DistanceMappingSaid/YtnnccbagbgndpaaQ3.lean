/-
  Tables of numbers, and loops that fill them in.
-/
import Derived.Test.YtnnccbagbgndpaaQ2
import Derived.Test.YtnnccbagbgndpaaPure
import Derived.Test.YtnnccbagbgndpaaDM
set_option linter.unusedVariables false
set_option linter.unusedSimpArgs false
namespace Go.Proofs.Ytnnccbagbgndpaa
open Go.RowKit
/-- A loop with a counter and an invariant. -/
theorem loop_for {σ β : Type} {body : σ → Option (Step σ β)} (I : Nat → σ → Prop) (Post : β → Prop) : ∀ (n k : Nat) (s : σ), I k s → (∀ j s, k ≤ j → j < k + n → I j s → ∃ s', body s = some (.next s') ∧ I (j + 1) s') → (∀ s, I (k + n) s → ∃ b, body s = some (.done b) ∧ Post b) → ∃ b, loopM body s = some b ∧ Post b
  | 0, k, s, h0, _, h2 => by
    obtain ⟨b, hb, hp⟩ := h2 s h0
    exact ⟨b, loopM_done hb, hp⟩
  | n + 1, k, s, h0, h1, h2 => by
    obtain ⟨s', hs, hi⟩ := h1 k s (Nat.le_refl _) (by omega) h0
    obtain ⟨b, hb, hp⟩ := loop_for I Post n (k + 1) s' hi (fun j s hj hlt hij => h1 j s (by omega) (by omega) hij) (fun s hs => h2 s (by rw [show k + (n + 1) = k + 1 + n by omega]; exact hs))
    exact ⟨b, by rw [loopM_next hs]; exact hb, hp⟩
def at2 (D : List (List Int)) (s t : Nat) : Option Int := (D[s]?).bind fun r => r[t]?
structure Dim (D : List (List Int)) (N M : Nat) : Prop where
  rows : D.length = N
  cols : ∀ r ∈ D, r.length = M
section
variable {D : List (List Int)} {N M : Nat}
theorem Dim.get (h : Dim D N M) {s t : Nat} (hs : s < N) (ht : t < M) : ∃ r v, D[s]? = some r ∧ r[t]? = some v ∧ at2 D s t = some v ∧ r.length = M := by
  obtain ⟨r, hr⟩ := get_of_lt (l := D) (k := s) (by rw [h.rows]; exact hs)
  have hm := h.cols r (List.mem_of_getElem? hr)
  obtain ⟨v, hv⟩ := get_of_lt (l := r) (k := t) (by rw [hm]; exact ht)
  exact ⟨r, v, hr, hv, by unfold at2; rw [hr]; exact hv, hm⟩
theorem Dim.set (h : Dim D N M) {s t : Nat} {r : List Int} (hr : D[s]? = some r) (v : Int) : Dim (D.set s (r.set t v)) N M := by
  refine ⟨by rw [List.length_set]; exact h.rows, fun q hq => ?_⟩
  rcases List.mem_or_eq_of_mem_set hq with hq | rfl
  · exact h.cols q hq
  · rw [List.length_set]; exact h.cols r (List.mem_of_getElem? hr)
theorem at2_set {s t : Nat} {r : List Int} (hr : D[s]? = some r) {v0 : Int} (ht : r[t]? = some v0) (v : Int) (s' t' : Nat) : at2 (D.set s (r.set t v)) s' t' = if s' = s ∧ t' = t then some v else at2 D s' t' := by
  have hs := (List.getElem?_eq_some_iff.1 hr).1
  have hlt := (List.getElem?_eq_some_iff.1 ht).1
  unfold at2
  by_cases h1 : s' = s
  · subst h1
    rw [List.getElem?_set_self hs, hr]
    simp only [Option.bind_some, true_and]
    by_cases h2 : t' = t
    · subst h2; rw [if_pos rfl, List.getElem?_set_self hlt]
    · rw [if_neg h2, List.getElem?_set_ne (fun e => h2 e.symm)]
  · rw [if_neg (fun e => h1 e.1), List.getElem?_set_ne (fun e => h1 e.symm)]
end
/-- A table of zeros. -/
theorem table_m (N M : Nat) (hN : N ≤ 4294967296) (hM : M ≤ 4294967296) : ∃ D, m_distance_table (N : Int) (M : Int) = some D ∧ Dim D N M ∧ ∀ s t, s < N → t < M → at2 D s t = some 0 := by
  unfold m_distance_table
  rw [mkc_ok (by omega)]
  simp only [Option.bind_some, Int.toNat_natCast]
  obtain ⟨D, hD, hp⟩ := loop_for (body := fun s => m_distance_table_lp1 (M : Int) (List.replicate N ([] : List Int)) s.1 s.2) (fun k s => s.1 = (k : Int) ∧ s.2.length = N ∧ ∀ j, j < k → s.2[j]? = some (List.replicate M 0)) (fun D => D.length = N ∧ ∀ j, j < N → D[j]? = some (List.replicate M 0)) N 0 (0, List.replicate N []) ⟨rfl, by simp, fun j hj => by omega⟩
    (by
      rintro k ⟨i, D⟩ _ hk ⟨e, hl, hj⟩
      simp only at e hl hj
      subst e
      obtain ⟨r, hr⟩ := get_of_lt (l := D) (k := k) (by omega)
      refine ⟨((k + 1 : Nat), D.set k (List.replicate M 0)), ?_, rfl, by simp [hl], fun j hjk => ?_⟩
      · simp only [m_distance_table_lp1]
        rw [if_pos (by simp; omega), mkc_ok (by omega)]
        simp only [Option.bind_some, Int.toNat_natCast]
        rw [idx_nat hr]
        simp only [Option.bind_some]
        rw [inK_succ (by omega)]
        rfl
      · simp only
        by_cases h : j = k
        · subst h; rw [List.getElem?_set_self (by omega)]
        · rw [List.getElem?_set_ne (fun e => h e.symm)]; exact hj j (by omega))
    (by
      rintro ⟨i, D⟩ ⟨e, hl, hj⟩
      simp only at e hl hj
      subst e
      refine ⟨D, ?_, hl, fun j h => hj j (by omega)⟩
      simp only [m_distance_table_lp1]
      rw [if_neg (by simp)])
  refine ⟨D, by rw [hD]; rfl, ⟨hp.1, fun r hr => ?_⟩, fun s t hs ht => ?_⟩
  · obtain ⟨j, hj⟩ := List.getElem?_of_mem hr
    have hlt := (List.getElem?_eq_some_iff.1 hj).1
    rw [hp.2 j (by omega)] at hj
    rw [← Option.some.inj hj]; simp
  · unfold at2
    rw [hp.2 s hs]
    simp [ht]
end Go.Proofs.Ytnnccbagbgndpaa
