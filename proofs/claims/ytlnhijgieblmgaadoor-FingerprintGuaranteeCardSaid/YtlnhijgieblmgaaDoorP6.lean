/-
  FingerprintGuarantee, as a plain law. No program is named.
-/
import Derived.Test.YtlnhijgieblmgaaDoorPA
import Derived.Test.YtlnhijgieblmgaaDoorWGM
set_option linter.unusedVariables false
set_option linter.unusedSimpArgs false
namespace Go.Proofs.YtlnhijgieblmgaaDoor
open Go.RowKit
theorem lm_shift {g g' : Nat → Int} {b : Nat} : ∀ n, (∀ t, t < n → g (b + t) = g' t) → lmG g b n = b + lmG g' 0 n
  | 0, _ => rfl
  | n + 1, h => by
    have ih := lm_shift n fun t ht => h t (by omega)
    have hin : lmG g' 0 n < n + 1 := by
      rcases Nat.eq_zero_or_pos n with h0 | h0
      · subst h0; unfold lmG; omega
      · have := (lm_spec g' 0 n h0).2.1; omega
    rw [lmG, lmG, ih, h n (by omega), h _ hin, Nat.zero_add]
    split <;> rfl
/-- The hashes of a run that two lists have in common. -/
def gc (common : List Int) (k : Nat) (t : Nat) : Int := hashL ((common.drop t).take k)
theorem run_hash {before common after : List Int} {k t : Nat} (hk : 1 ≤ k) (ht : t + k ≤ common.length) : (hashesL (before ++ common ++ after) k)[before.length + t]? = some (gc common k t) := by
  rw [hashesL_get _ _ _ (by simp; omega)]
  unfold gc
  congr 2
  rw [List.append_assoc, List.drop_append, List.drop_eq_nil_of_le (by omega), List.nil_append, show before.length + t - before.length = t by omega, List.drop_append_of_le_length (by omega), List.take_append_of_le_length (by rw [List.length_drop]; omega)]
/-- What is in the map of one list: the mark of the run's first window. -/
theorem marks_m (before after common : List Int) (k w : Nat) (hk : 1 ≤ k ∧ k ≤ 64) (hw : 1 ≤ w ∧ w ≤ 64) (hc : w + k ≤ common.length + 1) (hc2 : common.length ≤ 130) (hb : before.length + after.length ≤ 60) :
    ∃ m, m_assessorlaw43_FingerprintGuarantee_1 before after common k w = some m ∧ mget m (⟨gc common k (lmG (gc common k) 0 w), lmG (gc common k) 0 w⟩ : Mark) = some true := by
  unfold m_assessorlaw43_FingerprintGuarantee_1
  rw [app_ok (by simp; omega)]
  simp only [Option.bind_some, List.nil_append]
  rw [app_ok (by omega)]
  simp only [Option.bind_some]
  rw [app_ok (by simp; omega)]
  simp only [Option.bind_some, Hashes_m]
  have hok : okK (k : Int) = true := by rw [okK_iff]; omega
  have hok2 : okK (w : Int) = true := by rw [okK_iff]; omega
  have hsl : (before ++ common ++ after).length = before.length + common.length + after.length := by simp <;> omega
  have he : hashesE (before ++ common ++ after) k = (hashesL (before ++ common ++ after) k, 0) := by
    unfold hashesE
    rw [hok]
    simp only [Bool.true_eq_false, if_false, reduceCtorEq]
    rw [if_neg (by omega)]; rfl
  have hHl := hashesL_len (before ++ common ++ after) k
  have hrun := fun t (ht : t + k ≤ common.length) => run_hash (before := before) (after := after) hk.1 ht
  rw [he]
  generalize hashesL (before ++ common ++ after) k = H at hHl hrun
  have hwe : winE H w = (winL H w, 0) := by
    unfold winE
    rw [hok2]
    simp only [Bool.true_eq_false, if_false, reduceCtorEq]
    rw [if_neg (by omega), Int.toNat_natCast, Nat.min_eq_left (by omega)]
  rw [Winnow_m, hwe]
  simp only [Option.bind_some]
  -- the place
  have hs := lm_spec (gc common k) 0 w (by omega)
  have hg : ∀ t, t < w → gOf H (before.length + t) = gc common k t := fun t ht => by
    unfold gOf
    rw [List.getD_eq_getElem?_getD, hrun t (by omega)]; rfl
  have hlm := lm_shift (g := gOf H) (g' := gc common k) (b := before.length) w hg
  generalize hr : lmG (gc common k) 0 w = r at hs hlm ⊢
  have hrw : r < w := by have := hs.2.1; omega
  have hin : mkG (gOf H) (before.length + r) ∈ winL H w := by
    unfold winL
    refine List.mem_map_of_mem (Og_mem.2 ⟨by omega, before.length, by omega, hlm⟩)
  obtain ⟨i0, hi0⟩ := List.getElem?_of_mem hin
  have hwl : (winL H w).length ≤ 2048 := by
    unfold winL Og
    rw [List.length_map]
    have := List.length_filter_le (Cg (gOf H) w (H.length + 1 - w)) (List.range H.length)
    rw [List.length_range] at this; omega
  have hats : ∀ m ∈ winL H w, 0 ≤ m.at_ ∧ m.at_ ≤ 2048 := by
    intro m hm
    unfold winL at hm
    obtain ⟨x, hx, rfl⟩ := List.mem_map.1 hm
    have := (Og_mem.1 hx).1
    simp only [mkG]; omega
  obtain ⟨m, hm, hp⟩ := loopM_inv (body := fun s => m_assessorlaw43_FingerprintGuarantee_1_lp1 before common k (H, 0) (winL H w, 0) s.1 s.2)
    (fun s => ∃ j : Nat, j ≤ (winL H w).length ∧ s.1 = j ∧ (i0 < j → mget s.2 (⟨gc common k r, r⟩ : Mark) = some true)) (fun s => (winL H w).length - s.1.toNat)
    (fun m => mget m (⟨gc common k r, r⟩ : Mark) = some true) (by
      rintro ⟨i, l⟩ ⟨j, hj, rfl, hq⟩
      simp only at hq ⊢
      simp only [m_assessorlaw43_FingerprintGuarantee_1_lp1]
      by_cases hlt : j < (winL H w).length
      · obtain ⟨x, hx⟩ := get_of_lt hlt
        have hxa := hats x (List.mem_of_getElem? hx)
        rw [if_pos (by simpa using hlt), idx_nat hx]
        simp only [Option.bind_some]
        rw [inK_eq (by omega)]
        simp only [Option.bind_some]
        have hcond : ((if (((decide True) && (decide True)) && (decide (0 ≤ x.at_ - (before.length : Int)))) = true then
            (inK .i64 ((common.length : Int) - k)).bind fun x8 => some (decide (x.at_ - (before.length : Int) ≤ x8)) else some false) : Option Bool) = some (decide (0 ≤ x.at_ - (before.length : Int) ∧ x.at_ - (before.length : Int) ≤ (common.length : Int) - k)) := by
          by_cases h : 0 ≤ x.at_ - (before.length : Int)
          · rw [if_pos (by simpa using h), inK_eq (by omega)]
            simp only [Option.bind_some]
            congr 1
            exact decide_eq_decide.2 (by omega)
          · rw [if_neg (by simpa using h), decide_eq_false (by omega)]
        rw [hcond]
        simp only [Option.bind_some]
        left
        have hkey : j = i0 → x = mkG (gOf H) (before.length + r) := fun e => by subst e; rw [hx] at hi0; exact Option.some.inj hi0
        by_cases hc3 : 0 ≤ x.at_ - (before.length : Int) ∧ x.at_ - (before.length : Int) ≤ (common.length : Int) - k
        · rw [if_pos (decide_eq_true hc3), inK_succ (by omega)]
          refine ⟨_, rfl, ⟨j + 1, by omega, rfl, fun hlt2 => ?_⟩, by simp <;> omega⟩
          show mget (mput l ⟨x.hash, x.at_ - (before.length : Int)⟩ true) _ = _
          rw [mget_mput]
          split
          · rfl
          · rename_i hne
            by_cases e : j = i0
            · exfalso
              apply hne
              rw [hkey e]
              simp only [mkG, hg r hrw]
              congr 1
              omega
            · exact hq (by omega)
        · rw [if_neg (by simpa using hc3), inK_succ (by omega)]
          refine ⟨_, rfl, ⟨j + 1, by omega, rfl, fun hlt2 => ?_⟩, by simp <;> omega⟩
          by_cases e : j = i0
          · exfalso
            apply hc3
            rw [hkey e]
            simp only [mkG]
            omega
          · exact hq (by omega)
      · rw [if_neg (by simpa using hlt)]
        right
        exact ⟨_, rfl, hq (by have := (List.getElem?_eq_some_iff.1 hi0).1; omega)⟩) (0, []) ⟨0, by omega, rfl, fun h => by omega⟩
  exact ⟨m, by rw [hm]; rfl, hp⟩
theorem fold_any {x7 : List (Mark × Bool)} : ∀ p : List (Mark × Bool), foldP (fun e s => m_assessorlaw43_FingerprintGuarantee_lp1 x7 e) (fun s => some (.brk ())) p () = some (if p.any (fun e => (mget x7 e.1).getD false) = true then .ret true else .brk ())
  | [] => rfl
  | e :: p => by
    unfold foldP m_assessorlaw43_FingerprintGuarantee_lp1
    cases h : (mget x7 e.1).getD false with
    | true => simp [h]
    | false =>
      simp only [Bool.false_eq_true, if_false, List.any_cons, h, Bool.false_or]
      exact fold_any p
theorem law_FingerprintGuarantee (p0 : (List Int)) (p1 : (List Int)) (p2 : (List Int)) (p3 : (List Int)) (p4 : (List Int)) (p5 : Int) (p6 : Int) (h0 : LW I64 p0) (z0 : p0.length * 8 ≤ 140737488351232) (h1 : LW I64 p1) (z1 : p1.length * 8 ≤ 140737488351232) (h2 : LW I64 p2) (z2 : p2.length * 8 ≤ 140737488351232) (h3 : LW I64 p3) (z3 : p3.length * 8 ≤ 140737488351232) (h4 : LW I64 p4) (z4 : p4.length * 8 ≤ 140737488351232) (h5 : (Lit.int .i64 p5).wf = true) (h6 : (Lit.int .i64 p6).wf = true) : m_assessorlaw43_FingerprintGuarantee p0 p1 p2 p3 p4 p5 p6 = some true := by
  have r5 := I64.r h5
  have r6 := I64.r h6
  unfold m_assessorlaw43_FingerprintGuarantee
  rw [awake_m]
  simp only [Option.bind_some, Bool.not_true, Bool.false_eq_true, if_false]
  by_cases ha : (((((decide (p5 < 1)) || (decide (p6 < 1))) || (decide (64 < p5))) || (decide (64 < p6))) || (decide (130 < (p0.length : Int)))) = true
  · rw [if_pos ha]
    simp
  · rw [if_neg ha]
    simp at ha
    rw [inK_eq (by omega)]
    simp only [Option.bind_some]
    rw [inK_eq (by omega)]
    simp only [Option.bind_some]
    by_cases hb : decide ((p0.length : Int) < p6 + p5 - 1) = true
    · rw [if_pos hb]
      simp
    · rw [if_neg hb]
      simp at hb
      rw [inK_eq (by omega)]
      simp only [Option.bind_some]
      by_cases hc : decide (60 < (p1.length : Int) + p2.length) = true
      · rw [if_pos hc]
        simp
      · rw [if_neg hc]
        simp at hc
        rw [inK_eq (by omega)]
        simp only [Option.bind_some]
        by_cases hd : decide (60 < (p3.length : Int) + p4.length) = true
        · rw [if_pos hd]
        · rw [if_neg hd]
          simp at hd
          obtain ⟨k, rfl⟩ : ∃ k : Nat, p5 = k := ⟨p5.toNat, by omega⟩
          obtain ⟨w, rfl⟩ : ∃ w : Nat, p6 = w := ⟨p6.toNat, by omega⟩
          obtain ⟨x6, e6, g6⟩ := marks_m p1 p2 p0 k w (by omega) (by omega) (by omega) (by omega) (by omega)
          obtain ⟨x7, e7, g7⟩ := marks_m p3 p4 p0 k w (by omega) (by omega) (by omega) (by omega) (by omega)
          rw [e6, e7]
          simp only [Option.bind_some]
          have hp : (permM x6 (fun p => foldP (fun e s => m_assessorlaw43_FingerprintGuarantee_lp1 x7 e ) (fun s => some (.brk ())) p ()) : Option (Out Unit Bool)) = some (.ret true) := by
            refine permM_iff.2 fun p hp => ?_
            rw [fold_any p, if_pos]
            rw [List.any_eq_true]
            have hk := (mget_mem (l := x6)).1 (by rw [g6]; rfl)
            obtain ⟨e, he, hek⟩ := List.mem_map.1 hk
            exact ⟨e, hp.mem_iff.2 he, by rw [hek, g7]; rfl⟩
          rw [hp]
          rfl
end Go.Proofs.YtlnhijgieblmgaaDoor
