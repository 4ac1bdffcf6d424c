/-
  FingerprintSymbols, FingerprintHashes, FingerprintRolls, FingerprintWinnows, as plain laws. No program is named.
-/
import Derived.Test.YtlnhijgieblmgaaDoorPA
import Derived.Test.YtlnhijgieblmgaaDoorWSM
import Derived.Test.YtlnhijgieblmgaaDoorWHM
import Derived.Test.YtlnhijgieblmgaaDoorWRM
import Derived.Test.YtlnhijgieblmgaaDoorWWM
set_option linter.unusedVariables false
set_option linter.unusedSimpArgs false
namespace Go.Proofs.YtlnhijgieblmgaaDoor
open Go.RowKit
theorem winL_len (h : List Int) (w : Nat) : (winL h w).length ≤ h.length := by
  unfold winL Og
  rw [List.length_map]
  have := List.length_filter_le (Cg (gOf h) w (h.length + 1 - w)) (List.range h.length)
  rw [List.length_range] at this; exact this
theorem winE_len (h : List Int) (w : Int) : (winE h w).1.length ≤ h.length := by
  unfold winE
  split
  · simp
  · split
    · simp
    · exact winL_len _ _
theorem winE_small (h : List Int) (w : Int) : (winE h w).1.length ≤ 2048 := by
  unfold winE
  split
  · simp
  · split
    · simp
    · have := winL_len h (min w.toNat h.length)
      show (winL h (min w.toNat h.length)).length ≤ 2048
      omega
theorem hashesE_small (s : List Int) (k : Int) : (hashesE s k).1.length ≤ 2049 := by
  unfold hashesE
  split
  · simp
  · split
    · simp
    · show (hashesL s k.toNat).length ≤ _
      rw [hashesL_len]; omega
theorem law_FingerprintHashes (p0 : (List Int)) (p1 : Int) (p2 : Int) (p3 : Int) (p4 : Int) (h0 : LW I64 p0) (h1 : (Lit.int .i64 p1).wf = true) (h2 : (Lit.int .i64 p2).wf = true) (h3 : (Lit.int .i64 p3).wf = true) (h4 : (Lit.int .i64 p4).wf = true) : m_assessorlaw43_FingerprintHashes p0 p1 p2 p3 p4 = some true := by
  unfold m_assessorlaw43_FingerprintHashes
  rw [awake_m]
  simp only [Option.bind_some, Bool.not_true, Bool.false_eq_true, if_false]
  split
  · rfl
  · rw [Hashes_m, HashesR_m, Roll_m, RollR_m]
    simp only [Option.bind_some, decide_true, if_true]
    rw [SameI_m _ _ (by have := hashesE_small p0 p4; omega)]
    simp
theorem law_FingerprintSymbols (p0 : Node) (p1 : (List Int)) (p2 : Int) (p3 : Int) (h0 : NodeWf p0) (h1 : LW I64 p1) (h2 : (Lit.int .i64 p2).wf = true) (h3 : (Lit.int .i64 p3).wf = true) : m_assessorlaw43_FingerprintSymbols p0 p1 p2 p3 = some true := by
  unfold m_assessorlaw43_FingerprintSymbols
  rw [awake_m]
  simp only [Option.bind_some, Bool.not_true, Bool.false_eq_true, if_false]
  obtain ⟨b, hb, hf⟩ := Few_m p0 60 h0 (by decide) (by decide)
  rw [hb]
  simp only [Option.bind_some]
  split
  · rfl
  · rename_i hc
    simp at hc
    obtain ⟨hs, hcn⟩ := hf hc.1
    have hcn' : cnt p0 ≤ 60 := by omega
    have hl := symL_len p0
    rw [Marks_m p0 p2 p3 h0 hs (by omega), MarksR_m p0 p2 p3 h0 hs (by omega), Symbols_m p0 h0 hs (by omega), SymbolsR_m p0 h0 hs (by omega)]
    simp only [Option.bind_some]
    rw [SameI_m _ _ (by omega)]
    simp only [Option.bind_some, decide_true, if_true]
    rw [Hash_m _ (by omega), HashR_m _ (by omega)]
    simp only [Option.bind_some, decide_true, if_true, Bool.and_self]
    rw [SameM_m _ _ (by
      unfold marksE
      split
      · split
        · simp
        · have := winE_small (hashesL (symL p0) p2.toNat) p3; omega
      · simp)]
    simp
theorem law_FingerprintWinnows (p0 : (List Int)) (p1 : Int) (p2 : (List Mark)) (p3 : (List Mark)) (h0 : LW I64 p0) (h1 : (Lit.int .i64 p1).wf = true) (h2 : LW (fun a : Mark => I64 a.hash ∧ I64 a.at_) p2) (h3 : LW (fun a : Mark => I64 a.hash ∧ I64 a.at_) p3) : m_assessorlaw43_FingerprintWinnows p0 p1 p2 p3 = some true := by
  unfold m_assessorlaw43_FingerprintWinnows
  rw [awake_m]
  simp only [Option.bind_some, Bool.not_true, Bool.false_eq_true, if_false]
  split
  · rfl
  · rename_i hc
    simp at hc
    rw [Winnow_m, WinnowR_m]
    simp only [Option.bind_some, decide_true, if_true]
    rw [SameM_m _ _ (by have := winE_small p0 p1; omega)]
    simp only [Option.bind_some, decide_true, if_true]
    obtain ⟨r, hr, hs, hrl⟩ := Shared_m p2 p3 (by omega) (by omega) (fun m hm => (h3.2 m hm).1)
    obtain ⟨r', hr', hs'⟩ := SharedR_m p2 p3 (by omega) (by omega)
    obtain rfl := hs.one hs'
    rw [hr, hr']
    simp only [Option.bind_some]
    rw [SameI_m _ _ (by omega)]
    simp
theorem law_FingerprintRolls (p0 : (List Int)) (p1 : Int) (h0 : LW I64 p0) (h1 : (Lit.int .i64 p1).wf = true) : m_assessorlaw43_FingerprintRolls p0 p1 = some true := by
  unfold m_assessorlaw43_FingerprintRolls
  rw [awake_m]
  simp only [Option.bind_some, Bool.not_true, Bool.false_eq_true, if_false]
  split
  · rfl
  · rename_i hc
    simp at hc
    obtain ⟨K, rfl⟩ : ∃ K : Nat, p1 = K := ⟨p1.toNat, by omega⟩
    have hk : okK (K : Int) = true := by rw [okK_iff]; omega
    have he : hashesE p0 K = (hashesL p0 K, 0) := by
      unfold hashesE
      rw [hk]
      simp only [Bool.true_eq_false, if_false, reduceCtorEq]
      rw [if_neg (by omega)]; rfl
    rw [Hashes_m, he]
    simp only [Option.bind_some, decide_true, Bool.not_true, Bool.false_eq_true, if_false]
    rw [inK_eq (by omega)]
    simp only [Option.bind_some]
    rw [inK_eq (by omega)]
    simp only [Option.bind_some]
    have hlen := hashesL_len p0 K
    have hmx : ((hashesL p0 K).length : Int) = max 0 ((p0.length : Int) - K + 1) := by rw [hlen]; omega
    rw [hmx]
    simp only [decide_true, Bool.not_true, Bool.false_eq_true, if_false]
    refine bind_loop (fun k => (k : Int)) (hashesL p0 K).length (.brk ()) rfl (fun i hi => ?_) ?_ rfl
    · have hi2 : i < p0.length + 1 - K := by omega
      have hx := hashesL_get p0 K i hi2
      have hr := hashL_r ((p0.drop i).take K)
      simp only [m_assessorlaw43_FingerprintRolls_lp1]
      rw [if_pos (decide_eq_true (by omega)), idx_nat hx]
      simp only [Option.bind_some]
      rw [inK_eq (by omega)]
      simp only [Option.bind_some]
      have esub : sub p0 (i : Int) ((i : Int) + K) = some ((p0.drop i).take K) := by
        rw [sub_ok (by omega) (by omega) (by omega), List.drop_take]
        congr 2
        omega
      rw [esub]
      simp only [Option.bind_some]
      rw [Hash_m _ (by rw [List.length_take, List.length_drop]; omega)]
      simp only [Option.bind_some, decide_true, Bool.not_true, Bool.false_eq_true, if_false]
      rw [decide_eq_false (show ¬ hashL ((p0.drop i).take K) < 0 by omega)]
      simp only [Option.bind_some, Bool.false_eq_true, if_false]
      rw [decide_eq_false (show ¬ 2147483647 ≤ hashL ((p0.drop i).take K) by omega)]
      simp only [Bool.false_eq_true, if_false]
      by_cases hi0 : 0 < i
      · obtain ⟨j, rfl⟩ : ∃ j, i = j + 1 := ⟨i - 1, by omega⟩
        rw [if_pos (decide_eq_true (by omega))]
        have hx' := hashesL_get p0 K j (by omega)
        obtain ⟨a, ha⟩ : ∃ a, p0[j]? = some a := get_of_lt (by omega)
        obtain ⟨b, hb⟩ : ∃ b, p0[j + K]? = some b := get_of_lt (by omega)
        rw [show (((j + 1 : Nat) : Int) - 1) = (j : Int) by omega, inK_eq (by omega)]
        simp only [Option.bind_some]
        rw [idx_nat hx', idx_nat ha]
        simp only [Option.bind_some]
        rw [inK_eq (by omega)]
        simp only [Option.bind_some]
        rw [show (((j + 1 : Nat) : Int) + (K : Int) - 1) = ((j + K : Nat) : Int) by omega, inK_eq (by omega)]
        simp only [Option.bind_some]
        rw [idx_nat hb]
        simp only [Option.bind_some, Roll_m]
        have hr' := hashL_r ((p0.drop j).take K)
        have eroll : rollE (hashL ((p0.drop j).take K)) a b K = (hashL ((p0.drop (j + 1)).take K), 0) := by
          unfold rollE
          rw [if_pos (by simp [hk]; omega), Int.toNat_natCast, win_roll (by omega) ha hb]
        rw [eroll]
        simp only [decide_true, Bool.not_true, Bool.false_eq_true, if_false, Option.bind_some]
        rfl
      · rw [if_neg (by rw [decide_eq_true_eq]; omega), inK_succ (by omega)]
        rfl
    · simp only [m_assessorlaw43_FingerprintRolls_lp1]
      rw [if_neg (by simp)]
end Go.Proofs.YtlnhijgieblmgaaDoor
