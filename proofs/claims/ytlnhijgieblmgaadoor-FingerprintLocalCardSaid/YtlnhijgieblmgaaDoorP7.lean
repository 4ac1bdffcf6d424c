/-
  FingerprintLocal, as a plain law. No program is named.
-/
import Derived.Test.YtlnhijgieblmgaaDoorPA
import Derived.Test.YtlnhijgieblmgaaDoorWLM
set_option linter.unusedVariables false
set_option linter.unusedSimpArgs false
namespace Go.Proofs.YtlnhijgieblmgaaDoor
open Go.RowKit
theorem lm_congr {g g' : Nat → Int} {a : Nat} : ∀ n, (∀ t, a ≤ t → t < a + n → g t = g' t) → lmG g a n = lmG g' a n
  | 0, _ => rfl
  | n + 1, h => by
    have ih := lm_congr n fun t h1 h2 => h t h1 (by omega)
    have hin : a ≤ lmG g' a n ∧ lmG g' a n < a + (n + 1) := by
      rcases Nat.eq_zero_or_pos n with h0 | h0
      · subst h0; unfold lmG; omega
      · have := lm_spec g' a n h0; exact ⟨this.1, by have := this.2.1; omega⟩
    rw [lmG, lmG, ih, h (a + n) (by omega) (by omega), h _ hin.1 hin.2]
theorem Local1_m (h : List Int) (w : Nat) (hl : h.length ≤ 2048) (a : Nat) : m_assessorlaw43_FingerprintLocal_1 (winL h w) a = some (decide (a ∈ Og (gOf h) w h.length)) := by
  have hwl : (winL h w).length ≤ 2048 := by
    unfold winL Og
    rw [List.length_map]
    have := List.length_filter_le (Cg (gOf h) w (h.length + 1 - w)) (List.range h.length)
    rw [List.length_range] at this; omega
  unfold m_assessorlaw43_FingerprintLocal_1
  refine bind_any (winL h w) (fun m => decide (m.at_ = (a : Int))) (.ret true) (.brk ()) (fun k m hm => ?_) ?_ ?_
  · have hk := (List.getElem?_eq_some_iff.1 hm).1
    simp only [m_assessorlaw43_FingerprintLocal_1_lp1]
    rw [if_pos (by simpa using hk), idx_nat hm]
    simp only [Option.bind_some]
    rw [inK_succ (by omega)]
    by_cases e : m.at_ = (a : Int) <;> simp [e]
  · simp only [m_assessorlaw43_FingerprintLocal_1_lp1]
    rw [if_neg (by simp)]
  · have e : (winL h w).any (fun m => decide (m.at_ = (a : Int))) = decide (a ∈ Og (gOf h) w h.length) := by
      rw [Bool.eq_iff_iff, List.any_eq_true, decide_eq_true_eq]
      unfold winL
      constructor
      · rintro ⟨m, hm, e⟩
        obtain ⟨x, hx, rfl⟩ := List.mem_map.1 hm
        have e2 : (x : Int) = (a : Int) := of_decide_eq_true e
        rw [show a = x by omega]; exact hx
      · intro hx
        exact ⟨mkG (gOf h) a, List.mem_map_of_mem hx, by simp [mkG]⟩
    rw [e]
    by_cases hx : a ∈ Og (gOf h) w h.length
    · rw [decide_eq_true hx]; rfl
    · rw [decide_eq_false hx]; rfl
/-- Whether a place is chosen hangs on the hashes near it alone. -/
theorem local_Og {h x : List Int} {w a : Nat} (hw : 1 ≤ w) (hx : x.length = h.length) (hn : ∀ i, a + 1 - w ≤ i → i < a + w → x[i]? = h[i]?) (ha : a ∈ Og (gOf h) w h.length) : a ∈ Og (gOf x) w x.length := by
  obtain ⟨h1, j, h2, h3⟩ := Og_mem.1 ha
  have hs := lm_spec (gOf h) j w (by omega)
  rw [h3] at hs
  refine Og_mem.2 ⟨by omega, j, by omega, ?_⟩
  rw [← h3]
  refine (lm_congr w fun t t1 t2 => ?_).symm
  have := hn t (by have := hs.2.1; omega) (by have := hs.1; omega)
  unfold gOf
  rw [List.getD_eq_getElem?_getD, List.getD_eq_getElem?_getD, this]
theorem law_FingerprintLocal (p0 : (List Int)) (p1 : (List Int)) (p2 : Int) (p3 : Int) (h0 : LW I64 p0) (h1 : LW I64 p1) (h2 : (Lit.int .i64 p2).wf = true) (h3 : (Lit.int .i64 p3).wf = true) : m_assessorlaw43_FingerprintLocal p0 p1 p2 p3 = some true := by
  have r2 := I64.r h2
  have r3 := I64.r h3
  have hl0 : p0.length ≤ 9223372036854775807 := h0.1
  unfold m_assessorlaw43_FingerprintLocal
  rw [awake_m]
  simp only [Option.bind_some, Bool.not_true, Bool.false_eq_true, if_false]
  by_cases ha : (decide (p2 < 1) || decide (20 < p2)) = true
  · rw [if_pos ha]
    simp
  · rw [if_neg ha]
    simp at ha
    rw [inK_eq (by omega)]
    simp only [Option.bind_some]
    by_cases hb : (decide (p3 < p2 - 1) || decide (150 < (p0.length : Int))) = true
    · rw [if_pos hb]
      simp
    · rw [if_neg hb]
      simp at hb
      rw [inK_eq (by omega)]
      simp only [Option.bind_some]
      by_cases hc : (decide ((p0.length : Int) - p2 < p3) || decide (150 < (p1.length : Int))) = true
      · rw [if_pos hc]
      · rw [if_neg hc]
        simp at hc
        obtain ⟨w, rfl⟩ : ∃ w : Nat, p2 = w := ⟨p2.toNat, by omega⟩
        obtain ⟨a, rfl⟩ : ∃ a : Nat, p3 = a := ⟨p3.toNat, by omega⟩
        rw [app_ok (by simp; omega)]
        simp only [Option.bind_some, List.nil_append]
        obtain ⟨x, hx, hxl, hxn⟩ := loopM_inv (body := fun s => m_assessorlaw43_FingerprintLocal_lp1 p1 (w : Int) (a : Int) p0 s.1 s.2)
          (fun s => ∃ k : Nat, k ≤ p0.length ∧ s.1 = k ∧ s.2.length = p0.length ∧ ∀ i, a + 1 - w ≤ i → i < a + w → s.2[i]? = p0[i]?) (fun s => p0.length - s.1.toNat)
          (fun r => r.length = p0.length ∧ ∀ i, a + 1 - w ≤ i → i < a + w → r[i]? = p0[i]?) (by
            rintro ⟨i, l⟩ ⟨k, hk, rfl, hl, hn⟩
            simp only at hl hn ⊢
            simp only [m_assessorlaw43_FingerprintLocal_lp1]
            by_cases hlt : k < p0.length
            · rw [if_pos (by simpa using hlt), inK_eq (by omega)]
              simp only [Option.bind_some]
              rw [inK_eq (by omega)]
              simp only [Option.bind_some]
              have hcond : ((if (decide ((k : Int) < (a : Int) - (w : Int) + 1)) = true then some true
                  else (inK .i64 ((a : Int) + (w : Int))).bind fun x7 => (inK .i64 (x7 - 1)).bind fun x8 => some (decide (x8 < (k : Int)))) : Option Bool) = some (decide (k < a + 1 - w ∨ a + w ≤ k)) := by
                by_cases h : (k : Int) < (a : Int) - (w : Int) + 1
                · rw [if_pos (decide_eq_true h), decide_eq_true (by omega)]
                · rw [if_neg (by simpa using h), inK_eq (by omega)]
                  simp only [Option.bind_some]
                  rw [inK_eq (by omega)]
                  simp only [Option.bind_some]
                  congr 1
                  exact decide_eq_decide.2 (by omega)
              rw [hcond]
              simp only [Option.bind_some]
              left
              by_cases hfar : (k < a + 1 - w ∨ a + w ≤ k) ∧ 0 < p1.length
              · rw [if_pos (by simp only [Bool.and_eq_true, decide_eq_true_eq]; exact ⟨hfar.1, by omega⟩), remK_pos (by omega) (by omega)]
                simp only [Option.bind_some]
                obtain ⟨y, hy⟩ : ∃ y, p1[k % p1.length]? = some y := get_of_lt (Nat.mod_lt _ hfar.2)
                obtain ⟨z, hz⟩ : ∃ z, l[k]? = some z := get_of_lt (by omega)
                rw [show ((k : Int) % (p1.length : Int)) = ((k % p1.length : Nat) : Int) from rfl, idx_nat hy, idx_nat hz]
                simp only [Option.bind_some]
                rw [inK_succ (by omega)]
                refine ⟨_, rfl, ⟨k + 1, by omega, rfl, by simp [hl], fun i i1 i2 => ?_⟩, by simp <;> omega⟩
                show (l.set k y)[i]? = _
                rw [List.getElem?_set, if_neg (by omega)]
                exact hn i i1 i2
              · rw [if_neg (by simp only [Bool.and_eq_true, decide_eq_true_eq]; omega), inK_succ (by omega)]
                exact ⟨_, rfl, ⟨k + 1, by omega, rfl, hl, hn⟩, by simp <;> omega⟩
            · rw [if_neg (by simpa using hlt)]
              right
              exact ⟨_, rfl, hl, hn⟩) (0, p0) ⟨0, by omega, rfl, rfl, fun i _ _ => rfl⟩
        rw [hx]
        simp only [Option.bind_some]
        have hk : okK (w : Int) = true := by rw [okK_iff]; omega
        have he : ∀ l : List Int, l.length = p0.length → winE l w = (winL l w, 0) := by
          intro l hl
          unfold winE
          rw [hk]
          simp only [Bool.true_eq_false, if_false, reduceCtorEq]
          rw [if_neg (by omega), Int.toNat_natCast, Nat.min_eq_left (by omega)]
        rw [Winnow_m, Winnow_m, he p0 rfl, he x hxl]
        simp only [Option.bind_some, decide_true, Bool.and_self, if_true]
        rw [Local1_m p0 w (by omega) a, Local1_m x w (by omega) a]
        have : (a ∈ Og (gOf p0) w p0.length) ↔ (a ∈ Og (gOf x) w x.length) :=
          ⟨fun h => local_Og (by omega) hxl hxn h, fun h => local_Og (by omega) hxl.symm (fun i i1 i2 => (hxn i i1 i2).symm) h⟩
        simp [decide_eq_decide.2 this]
end Go.Proofs.YtlnhijgieblmgaaDoor
