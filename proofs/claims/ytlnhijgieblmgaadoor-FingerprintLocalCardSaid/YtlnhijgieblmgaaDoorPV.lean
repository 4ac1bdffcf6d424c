/-
  The models of Winnow compute what is chosen. No program is named.
-/
import Derived.Test.YtlnhijgieblmgaaDoorPW
set_option linter.unusedVariables false
set_option linter.unusedSimpArgs false
namespace Go.Proofs.YtlnhijgieblmgaaDoor
open Go.RowKit

def c (j : Nat) : Int := (j : Int)
theorem gOf_at {h : List Int} {i : Nat} (hi : i < h.length) : h[i]? = some (gOf h i) := by
  unfold gOf
  simp [List.getD_eq_getElem?_getD, hi]
theorem pop_next {h : List Int} {x : Int} {M : List Nat} {q : Nat} (hq : q < h.length) (hx : x ≤ gOf h q) (hM : M.length ≤ 4294967296) : m_fingerprint_Winnow_lp2 h x ((M ++ [q]).map c) = some (.next (M.map c)) := by
  unfold m_fingerprint_Winnow_lp2
  have hl : ((M ++ [q]).map c).length = M.length + 1 := by simp
  have e : ((M.length + 1 : Nat) : Int) - 1 = (M.length : Int) := by omega
  rw [hl, if_pos (by simp <;> omega), e, inK_eq (by omega)]
  simp only [Option.bind_some]
  rw [idx_nat (a := (q : Int)) (by simp [c])]
  simp only [Option.bind_some]
  rw [idx_nat (gOf_at hq)]
  simp only [Option.bind_some, decide_eq_true hx, if_true]
  rw [sub_ok (by omega) (by omega) (by rw [hl]; omega)]
  simp
theorem pop_stop {h : List Int} {x : Int} {M : List Nat} {q : Nat} (hq : q < h.length) (hx : gOf h q < x) (hM : M.length ≤ 4294967296) : m_fingerprint_Winnow_lp2 h x ((M ++ [q]).map c) = some (.done ((M ++ [q]).map c)) := by
  unfold m_fingerprint_Winnow_lp2
  have hl : ((M ++ [q]).map c).length = M.length + 1 := by simp
  have e : ((M.length + 1 : Nat) : Int) - 1 = (M.length : Int) := by omega
  rw [hl, if_pos (by simp <;> omega), e, inK_eq (by omega)]
  simp only [Option.bind_some]
  rw [idx_nat (a := (q : Int)) (by simp [c])]
  simp only [Option.bind_some]
  rw [idx_nat (gOf_at hq)]
  have : ¬ x ≤ gOf h q := by omega
  simp [this]
theorem Winnow_round {h : List Int} {W i : Nat} (w : Int) (hw : min w (h.length : Int) = (W : Int)) (hW : 0 < W) (hn : h.length ≤ 2048) (hi : i < h.length) :
    m_fingerprint_Winnow_lp1 h w (i : Int) ((Qg (gOf h) W i).map c) ((Og (gOf h) W i).map (mkG (gOf h))) =
      some (.next (((i + 1 : Nat) : Int), (Qg (gOf h) W (i + 1)).map c, (Og (gOf h) W (i + 1)).map (mkG (gOf h)))) := by
  have hWn : W ≤ h.length := by omega
  have hQl : (Qg (gOf h) W i).length ≤ i := by
    have := List.length_filter_le (fun j => decide (i - W ≤ j) && sm (gOf h) i j) (List.range i)
    rw [List.length_range] at this; exact this
  have hOl : (Og (gOf h) W i).length ≤ i := by
    have := List.length_filter_le (Cg (gOf h) W (i + 1 - W)) (List.range i)
    rw [List.length_range] at this; exact this
  unfold m_fingerprint_Winnow_lp1
  rw [if_pos (by simpa using hi), idx_nat (gOf_at hi)]
  simp only [Option.bind_some]
  have hspl := split_up (f := gOf h) (gOf h i) (Qg_up (gOf h) W i)
  have hPg : Pg (gOf h) W i = (Qg (gOf h) W i).filter (fun a => decide (gOf h a < gOf h i)) ++ [i] := rfl
  generalize hF : (Qg (gOf h) W i).filter (fun a => decide (gOf h a < gOf h i)) = F at hspl hPg
  generalize hG : (Qg (gOf h) W i).filter (fun a => decide (gOf h i ≤ gOf h a)) = G at hspl
  have hGm : ∀ q ∈ G, q < h.length ∧ gOf h i ≤ gOf h q := by
    intro q hq
    rw [← hG, List.mem_filter, Qg_mem] at hq
    exact ⟨by omega, by simpa using hq.2⟩
  have hFm : ∀ q ∈ F, q < h.length ∧ gOf h q < gOf h i := by
    intro q hq
    rw [← hF, List.mem_filter, Qg_mem] at hq
    exact ⟨by omega, by simpa using hq.2⟩
  have hlen : F.length + G.length ≤ i := by rw [hspl, List.length_append] at hQl; exact hQl
  refine bind_loop (fun k => (F ++ G.take (G.length - k)).map c) G.length (F.map c) (by rw [hspl]; simp) (fun k hk => ?_) ?_ ?_
  · obtain ⟨q, hq⟩ := get_of_lt (show G.length - (k + 1) < G.length by omega)
    have e : G.take (G.length - k) = G.take (G.length - (k + 1)) ++ [q] := by
      rw [← take_snoc_of hq]; congr 1; omega
    have hqm := hGm q (List.mem_of_getElem? hq)
    simp only [e, ← List.append_assoc]
    exact pop_next hqm.1 hqm.2 (by rw [List.length_append, List.length_take]; omega)
  · simp only [Nat.sub_self, List.take_zero, List.append_nil]
    rcases List.eq_nil_or_concat F with e | ⟨M, q, e⟩
    · rw [e]; rfl
    · rw [List.concat_eq_append] at e
      have hqm := hFm q (by rw [e]; simp)
      rw [e]
      exact pop_stop hqm.1 hqm.2 (by have := congrArg List.length e; simp at this; omega)
  · rw [app_ok (by simp <;> omega)]
    simp only [Option.bind_some]
    have eP : F.map c ++ [(i : Int)] = (Pg (gOf h) W i).map c := by rw [hPg]; simp [c]
    rw [eP]
    have hPl : (Pg (gOf h) W i).length ≤ i + 1 := by rw [hPg]; simp; omega
    cases hP : Pg (gOf h) W i with
    | nil => rw [hPg] at hP; simp at hP
    | cons p r =>
      have hstep := Qg_step hW hP
      have hrl : r.length ≤ i := by rw [hP] at hPl; simpa using hPl
      rw [idx_of (a := (p : Int)) (by decide) (by simp [c])]
      simp only [Option.bind_some]
      rw [hw, inK_eq (by omega)]
      simp only [Option.bind_some]
      have hj : ((if (decide ((p : Int) ≤ (i : Int) - (W : Int))) = true then
          (sub ((p :: r).map c) 1 (((p :: r).map c).length : Int)).bind fun x11 => some x11
        else some ((p :: r).map c)) : Option (List Int)) = some ((Qg (gOf h) W (i + 1)).map c) := by
        rw [hstep]
        by_cases hp : p + W ≤ i
        · rw [if_pos (by simp <;> omega), if_pos hp, sub_ok (by decide) (by simp <;> omega) (Int.le_refl _)]
          simp [List.take_of_length_le]
        · rw [if_neg (by simp <;> omega), if_neg hp, hP]
      rw [hj]
      simp only [Option.bind_some]
      obtain ⟨r2, hhead⟩ := Qg_head (g := gOf h) (w := W) (i := i) hW
      have hlm := lm_spec (gOf h) (i + 1 - W) (i + 1 - (i + 1 - W)) (by omega)
      rw [show i + 1 - W + (i + 1 - (i + 1 - W)) = i + 1 by omega] at hlm
      generalize hat : lmG (gOf h) (i + 1 - W) (i + 1 - (i + 1 - W)) = at_ at hhead hlm
      rw [idx_of (a := (at_ : Int)) (by decide) (by rw [hhead]; simp [c])]
      simp only [Option.bind_some]
      rw [inK_eq (by omega)]
      simp only [Option.bind_some]
      by_cases hWi : W ≤ i + 1
      · rw [show i + 1 - (i + 1 - W) = W by omega] at hat
        rw [if_pos (by simp <;> omega)]
        have hO := Og_step (g := gOf h) hW hWi
        have hlast := fun q => Og_last (g := gOf h) hW hWi (q := q)
        rw [hat] at hO hlast
        -- is the place the last one that was chosen?
        have hcond : (((if (decide ((((Og (gOf h) W i).map (mkG (gOf h))).length : Int) = 0)) = true then some true
            else (inK .i64 ((((Og (gOf h) W i).map (mkG (gOf h))).length : Int) - 1)).bind fun x14 => (idx ((Og (gOf h) W i).map (mkG (gOf h))) x14).bind fun x15 => some (!decide (x15.at_ = (at_ : Int)))) : Option Bool).bind fun m3 => some m3) =
            some (!decide (at_ ∈ Og (gOf h) W i)) := by
          rcases List.eq_nil_or_concat (Og (gOf h) W i) with e | ⟨M, q, e⟩
          · simp [e]
          · rw [List.concat_eq_append] at e
            have hq := hlast q (by rw [e]; simp)
            have hll : ((Og (gOf h) W i).map (mkG (gOf h))).length = M.length + 1 := by rw [e]; simp
            have hMl : M.length + 1 ≤ i := by have := congrArg List.length e; simp at this; omega
            rw [hll, if_neg (by simp <;> omega), show ((M.length + 1 : Nat) : Int) - 1 = (M.length : Int) by omega, inK_eq (by omega)]
            simp only [Option.bind_some]
            rw [idx_nat (a := mkG (gOf h) q) (by rw [e]; simp)]
            simp only [Option.bind_some, mkG]
            congr 2
            have : ((q : Int) = (at_ : Int)) ↔ at_ ∈ Og (gOf h) W i := by rw [← hq]; omega
            exact decide_eq_decide.2 this
        rw [hcond]
        simp only [Option.bind_some]
        by_cases hm : at_ ∈ Og (gOf h) W i
        · rw [if_pos hm] at hO
          rw [if_neg (by simp [hm]), inK_succ (by omega), hO]
          rfl
        · rw [if_neg hm] at hO
          rw [if_pos (by simp [hm]), idx_nat (gOf_at (show at_ < h.length by have := hlm.2.1; omega))]
          simp only [Option.bind_some]
          rw [app_ok (by simp <;> omega)]
          simp only [Option.bind_some]
          rw [inK_succ (by omega), hO]
          simp [mkG]
      · rw [if_neg (by simp <;> omega)]
        simp only [Option.bind_some, Bool.false_eq_true, if_false]
        rw [inK_succ (by omega)]
        have e0 : ∀ k, k + 1 - W = 0 → Og (gOf h) W k = [] := by
          intro k hk
          unfold Og
          rw [hk]
          exact List.filter_eq_nil_iff.2 fun x _ => by simp [Cg]
        rw [e0 i (by omega), e0 (i + 1) (by omega)]
        rfl
theorem Winnow_m (h : List Int) (w : Int) : m_fingerprint_Winnow h w = some (winE h w) := by
  unfold m_fingerprint_Winnow winE
  simp only [ranged_m, Option.bind_some]
  cases hk : okK w with
  | false => simp
  | true =>
    simp only [Bool.not_true, Bool.false_eq_true, if_false, decide_eq_true_eq, Bool.true_eq_false]
    by_cases h1 : 2048 < (h.length : Int)
    · rw [if_pos h1, if_pos h1]
    · rw [if_neg h1, if_neg h1]
      rw [okK_iff] at hk
      rcases Nat.eq_zero_or_pos h.length with h0 | h0
      · have hn := List.eq_nil_of_length_eq_zero h0
        subst hn
        refine bind_loop (fun k => (0, [], [])) 0 ([], []) rfl (fun k hk => by omega) ?_ ?_
        · simp only [m_fingerprint_Winnow_lp1]
          rw [if_neg (by simp)]
        · rfl
      · have hw : min w (h.length : Int) = ((min w.toNat h.length : Nat) : Int) := by omega
        refine bind_loop (fun k => ((k : Int), (Qg (gOf h) (min w.toNat h.length) k).map c, (Og (gOf h) (min w.toNat h.length) k).map (mkG (gOf h)))) h.length ((Qg (gOf h) (min w.toNat h.length) h.length).map c, winL h (min w.toNat h.length)) rfl (fun k hk => ?_) ?_ ?_
        · exact Winnow_round w hw (by omega) (by omega) hk
        · simp only [m_fingerprint_Winnow_lp1]
          rw [if_neg (by simp)]; rfl
        · rfl

/-! ### The reference -/
theorem least_m {h : List Int} (a n : Nat) (hn : 0 < n) (hb : a + n ≤ h.length) (hl : h.length ≤ 2048) : m_assessorref43_least h a ((a + n : Nat) : Int) = some ((lmG (gOf h) a n : Nat) : Int) := by
  unfold m_assessorref43_least
  refine bind_loop (fun k => (((lmG (gOf h) a k : Nat) : Int), ((a + k : Nat) : Int))) n ((lmG (gOf h) a n : Nat) : Int) rfl (fun k hk => ?_) ?_ rfl
  · simp only [m_assessorref43_least_lp1]
    have hlt : lmG (gOf h) a k < h.length := by
      rcases Nat.eq_zero_or_pos k with h0 | h0
      · subst h0; unfold lmG; omega
      · have := (lm_spec (gOf h) a k h0).2.1; omega
    rw [if_pos (by simp <;> omega), idx_nat (gOf_at (by omega)), idx_nat (gOf_at hlt)]
    simp only [Option.bind_some, decide_eq_true_eq]
    rw [inK_succ (by omega)]
    simp only [Option.bind_some]
    rw [show lmG (gOf h) a (k + 1) = if gOf h (a + k) ≤ gOf h (lmG (gOf h) a k) then a + k else lmG (gOf h) a k from rfl]
    split <;> rfl
  · simp only [m_assessorref43_least_lp1]
    rw [if_neg (by simp)]
/-- The reference's table of the chosen places. -/
def arr (g : Nat → Int) (w n j : Nat) : List Bool := (List.range n).map (Cg g w j)
theorem arr_step {g : Nat → Int} {w n j : Nat} : (arr g w n j).set (lmG g j w) true = arr g w n (j + 1) := by
  apply List.ext_getElem?
  intro k
  unfold arr
  rw [List.getElem?_set]
  by_cases hk : k < n
  · simp only [List.getElem?_map, List.getElem?_range hk, Option.map_some, List.length_map, List.length_range]
    have e : Cg g w (j + 1) k = (Cg g w j k || (lmG g j w == k)) := by
      unfold Cg; rw [List.range_succ]; simp
    rw [e]
    by_cases h : lmG g j w = k
    · subst h; simp [hk]
    · simp [h]
  · have hn : ((List.range n).map (Cg g w j))[k]? = none := List.getElem?_eq_none (by simp <;> omega)
    have hn2 : ((List.range n).map (Cg g w (j + 1)))[k]? = none := List.getElem?_eq_none (by simp <;> omega)
    rw [hn, hn2]
    by_cases h : lmG g j w = k
    · subst h; simp [hk]
    · simp [h]
theorem arr_get {g : Nat → Int} {w n j k : Nat} (hk : k < n) : (arr g w n j)[k]? = some (Cg g w j k) := by
  unfold arr; simp [List.getElem?_range hk]
theorem arr_zero (g : Nat → Int) (w n : Nat) : List.replicate n false = arr g w n 0 := by
  apply List.ext_getElem?
  intro k
  by_cases hk : k < n
  · rw [arr_get hk]; simp [hk, Cg]
  · rw [List.getElem?_eq_none (by simp <;> omega), List.getElem?_eq_none (by simp [arr]; omega)]
theorem filter_range_snoc (f : Nat → Bool) (n : Nat) : (List.range (n + 1)).filter f = if f n = true then (List.range n).filter f ++ [n] else (List.range n).filter f := by
  rw [List.range_succ, List.filter_append]
  cases h : f n <;> simp [h]
/-- The second loop gathers the marks. -/
theorem gather_m {h : List Int} {f : Nat → Bool} {arrl : List Bool} (ha : ∀ k, k < h.length → arrl[k]? = some (f k)) (hl : h.length ≤ 2048) :
    (loopM (fun s => m_assessorref43_Winnow_lp2 h arrl s.1 s.2) (0, ([] : List Mark)) : Option (List Mark)) = some (((List.range h.length).filter f).map (mkG (gOf h))) := by
  refine loop_from (fun k => ((k : Int), ((List.range k).filter f).map (mkG (gOf h)))) h.length rfl (fun k hk => ?_) ?_
  · simp only [m_assessorref43_Winnow_lp2]
    rw [if_pos (by simpa using hk), idx_nat (ha k hk), idx_nat (gOf_at hk), filter_range_snoc]
    simp only [Option.bind_some]
    have hfl : ((List.range k).filter f).length ≤ k := by
      have := List.length_filter_le f (List.range k)
      rw [List.length_range] at this; exact this
    cases hf : f k with
    | false => rw [inK_succ (by omega)]; simp
    | true =>
      simp only [if_true]
      rw [app_ok (by simp <;> omega)]
      simp only [Option.bind_some]
      rw [inK_succ (by omega)]
      simp [mkG]
  · simp only [m_assessorref43_Winnow_lp2]
    rw [if_neg (by simp)]
theorem WinnowR_m (h : List Int) (w : Int) : m_assessorref43_Winnow h w = some (winE h w) := by
  unfold m_assessorref43_Winnow winE
  by_cases hc : ((decide (w < 1)) || (decide (64 < w))) = true
  · rw [if_pos hc, if_pos]
    simp [okK] at hc ⊢
    omega
  · rw [if_neg hc]
    simp at hc
    have hk : okK w = true := by rw [okK_iff]; omega
    rw [hk]
    simp only [Bool.true_eq_false, if_false, reduceCtorEq]
    by_cases h1 : 2048 < (h.length : Int)
    · rw [if_pos (by simpa using h1), if_pos h1]
    · rw [if_neg (by simpa using h1), if_neg h1, mkc_ok (by omega)]
      obtain ⟨K, rfl⟩ : ∃ K : Nat, w = K := ⟨w.toNat, by omega⟩
      simp only [Option.bind_some, Int.toNat_natCast]
      by_cases h2 : 0 < h.length ∧ h.length < K
      · rw [if_pos (by simp <;> omega)]
        have hle := least_m (h := h) 0 h.length h2.1 (by omega) (by omega)
        rw [Nat.zero_add] at hle
        have hle : m_assessorref43_least h 0 (h.length : Int) = some ((lmG (gOf h) 0 h.length : Nat) : Int) := hle
        have hlt := (lm_spec (gOf h) 0 h.length h2.1).2.1
        rw [hle]
        simp only [Option.bind_some]
        rw [idx_nat (a := false) (by rw [List.getElem?_replicate, if_pos (by omega)])]
        simp only [Option.bind_some, Int.toNat_natCast]
        rw [arr_zero (gOf h) h.length h.length, arr_step]
        refine bind_loop (fun _ => (0, arr (gOf h) h.length h.length 1)) 0 (arr (gOf h) h.length h.length 1) rfl (fun k hk => by omega) ?_ ?_
        · simp only [m_assessorref43_Winnow_lp1]
          rw [inK_eq (by omega)]
          simp only [Option.bind_some]
          rw [if_neg (by simp <;> omega)]
        · rw [gather_m (f := Cg (gOf h) h.length 1) (fun k hk => arr_get hk) (by omega)]
          simp only [Option.bind_some]
          rw [Nat.min_eq_right (by omega)]
          unfold winL Og
          rw [show h.length + 1 - h.length = 1 by omega]
      · rw [if_neg (by simp <;> omega)]
        simp only [Option.bind_some]
        rcases Nat.eq_zero_or_pos h.length with h0 | h0
        · have hn := List.eq_nil_of_length_eq_zero h0
          subst hn
          refine bind_loop (fun _ => (0, [])) 0 [] rfl (fun k hk => by omega) ?_ ?_
          · simp only [m_assessorref43_Winnow_lp1]
            rw [inK_eq (by omega)]
            simp only [Option.bind_some]
            rw [if_neg (by simp <;> omega)]
          · rw [gather_m (f := fun _ => false) (fun k hk => by simp at hk) (by simp)]
            rfl
        · rw [Nat.min_eq_left (by omega)]
          rw [arr_zero (gOf h) K h.length]
          refine bind_loop (fun j => ((j : Int), arr (gOf h) K h.length j)) (h.length + 1 - K) (arr (gOf h) K h.length (h.length + 1 - K)) rfl (fun j hj => ?_) ?_ ?_
          · simp only [m_assessorref43_Winnow_lp1]
            rw [inK_eq (by omega)]
            simp only [Option.bind_some]
            rw [if_pos (by simp <;> omega)]
            have hle := least_m (h := h) j K (by omega) (by omega) (by omega)
            have hlt := (lm_spec (gOf h) j K (by omega)).2.1
            rw [show ((j : Int) + (K : Int)) = ((j + K : Nat) : Int) by omega, hle]
            simp only [Option.bind_some]
            rw [idx_nat (arr_get (by omega))]
            simp only [Option.bind_some, Int.toNat_natCast]
            rw [inK_succ (by omega), arr_step]
            rfl
          · simp only [m_assessorref43_Winnow_lp1]
            rw [inK_eq (by omega)]
            simp only [Option.bind_some]
            rw [if_neg (by simp <;> omega)]
          · rw [gather_m (f := Cg (gOf h) K (h.length + 1 - K)) (fun k hk => arr_get hk) (by omega)]
            rfl
end Go.Proofs.YtlnhijgieblmgaaDoor
