/-
  Clusters, as the reference computes them; numbers that are wrong. No program is named.
-/
import Derived.Test.YtmfepkadggigpaaPE
set_option linter.unusedVariables false
set_option linter.unusedSimpArgs false
namespace Go.Proofs.Ytmfepkadggigpaa
open Go.RowKit
/-- The labels as a list. -/
def lst (n : Nat) (rt : Nat → Nat) : List Int := (List.range n).map fun i : Nat => (rt i : Int)
theorem lst_len (n : Nat) (rt : Nat → Nat) : (lst n rt).length = n := by simp [lst]
theorem lst_get {n : Nat} {rt : Nat → Nat} {i : Nat} (h : i < n) : (lst n rt)[i]? = some ((rt i : Nat) : Int) := by simp [lst, h]
theorem lst_set {n : Nat} {rt : Nat → Nat} {i m : Nat} : (lst n rt).set i (m : Int) = lst n (fun j => if j = i then m else rt j) := by
  refine List.ext_getElem? fun j => ?_
  rw [List.getElem?_set]
  unfold lst
  by_cases hj : j < n
  · by_cases e : i = j
    · subst e; simp [hj]
    · have e2 : ¬ j = i := fun h => e h.symm
      simp [hj, e, e2]
  · simp [hj]
    intro _; omega
def sumL (l : List Int) : Nat := (l.map Int.toNat).sum
theorem sum_range_le {r s : Nat → Nat} : ∀ n, (∀ i, i < n → r i ≤ s i) → ((List.range n).map r).sum ≤ ((List.range n).map s).sum ∧ ((∃ i, i < n ∧ r i < s i) → ((List.range n).map r).sum < ((List.range n).map s).sum)
  | 0, _ => by simp
  | n + 1, h => by
    obtain ⟨h1, h2⟩ := sum_range_le n fun i hi => h i (by omega)
    have hn := h n (by omega)
    simp only [List.range_succ, List.map_append, List.sum_append, List.map_cons, List.map_nil, List.sum_cons, List.sum_nil]
    refine ⟨by omega, ?_⟩
    rintro ⟨i, hi, hlt⟩
    by_cases e : i = n
    · subst e; omega
    · have := h2 ⟨i, by omega, hlt⟩
      omega
theorem sumL_lst (n : Nat) (rt : Nat → Nat) : sumL (lst n rt) = ((List.range n).map rt).sum := by
  unfold sumL lst
  rw [List.map_map]
  congr 1
def RefOk (n : Nat) (l : List Pair) (rt : Nat → Nat) : Prop := (∀ i, i < n → rt i ≤ i) ∧ ∀ f, Resp l f → ∀ i, i < n → f (rt i) = f i
/-- One pass over the pairs. -/
theorem pass_m (n : Nat) (l : List Pair) (hl : l.length ≤ 4000000) (hr : PrRange n l) (rt0 : Nat → Nat) (h0 : RefOk n l rt0) : ∃ ch rt, loopM (fun s : Bool × Int × List Int => m_assessorref44_Clusters_lp4 l s.1 s.2.1 s.2.2) (false, 0, lst n rt0) = some (ch, lst n rt) ∧ RefOk n l rt ∧ (ch = false → Resp l rt) ∧ (ch = true → sumL (lst n rt) < sumL (lst n rt0)) := by
  obtain ⟨b, hb, rt, e, h1, h2⟩ := loopM_inv (body := fun s : Bool × Int × List Int => m_assessorref44_Clusters_lp4 l s.1 s.2.1 s.2.2) (fun s => ∃ (k : Nat) (rt : Nat → Nat), s.2.1 = k ∧ k ≤ l.length ∧ s.2.2 = lst n rt ∧ RefOk n l rt ∧ (s.1 = false ∧ rt = rt0 ∧ Resp (l.take k) rt ∨ s.1 = true ∧ sumL (lst n rt) < sumL (lst n rt0))) (fun s => l.length - s.2.1.toNat) (fun b => ∃ rt, b.2 = lst n rt ∧ RefOk n l rt ∧ (b.1 = false ∧ rt = rt0 ∧ Resp l rt ∨ b.1 = true ∧ sumL (lst n rt) < sumL (lst n rt0))) (by
    rintro ⟨ch, k', g⟩ ⟨k, rt, rfl, hk, rfl, h1, h2⟩
    simp only at h2
    by_cases hkl : k < l.length
    · obtain ⟨p, hp⟩ := get_of_lt hkl
      obtain ⟨p1, p2, p3, p4⟩ := hr p (List.mem_of_getElem? hp)
      have hpa : (p.a.toNat : Int) = p.a := by omega
      have hpb : (p.b.toNat : Int) = p.b := by omega
      have ha : idx (lst n rt) p.a = some ((rt p.a.toNat : Nat) : Int) := idx_of p1 (lst_get (by omega))
      have hb : idx (lst n rt) p.b = some ((rt p.b.toNat : Nat) : Int) := idx_of p3 (lst_get (by omega))
      have em : min ((rt p.a.toNat : Nat) : Int) ((rt p.b.toNat : Nat) : Int) = ((min (rt p.a.toNat) (rt p.b.toNat) : Nat) : Int) := by omega
      by_cases hs : rt p.a.toNat = rt p.b.toNat
      · refine Or.inl ⟨(ch, ((k + 1 : Nat) : Int), lst n rt), ?_, ⟨k + 1, rt, rfl, by omega, rfl, h1, ?_⟩, by simp; omega⟩
        · simp only [m_assessorref44_Clusters_lp4]
          rw [if_pos (by simpa using hkl), idx_nat hp]
          simp only [Option.bind_some, ha, hb, em]
          rw [if_neg (by simp; omega)]
          simp only [Option.bind_some]
          rw [if_neg (by simp; omega), inK_succ (by omega)]
          rfl
        · rcases h2 with ⟨e1, e2, e3⟩ | h2
          · refine Or.inl ⟨e1, e2, fun q hq => ?_⟩
            rw [take_snoc_of hp] at hq
            rcases List.mem_append.1 hq with hq | hq
            · exact e3 q hq
            · rw [List.mem_singleton] at hq; subst hq; exact hs
          · exact Or.inr h2
      · let m := min (rt p.a.toNat) (rt p.b.toNat)
        let rt' : Nat → Nat := fun j => if j = p.b.toNat then m else if j = p.a.toNat then m else rt j
        have hset : ((lst n rt).set p.a.toNat ((m : Nat) : Int)).set p.b.toNat ((m : Nat) : Int) = lst n rt' := by rw [lst_set, lst_set]
        have ha1 := h1.1 p.a.toNat (by omega)
        have hb1 := h1.1 p.b.toNat (by omega)
        have hle : ∀ i, i < n → rt' i ≤ rt i := by
          intro i hi
          show (if i = p.b.toNat then m else if i = p.a.toNat then m else rt i) ≤ rt i
          split
          · rename_i e; subst e; omega
          · split
            · rename_i e; subst e; omega
            · exact Nat.le_refl _
        have hlt : ∃ i, i < n ∧ rt' i < rt i := by
          by_cases e : rt p.a.toNat < rt p.b.toNat
          · refine ⟨p.b.toNat, by omega, ?_⟩
            show (if p.b.toNat = p.b.toNat then m else _) < _
            rw [if_pos rfl]; omega
          · refine ⟨p.a.toNat, by omega, ?_⟩
            show (if p.a.toNat = p.b.toNat then m else if p.a.toNat = p.a.toNat then m else _) < _
            rw [if_pos rfl]
            split <;> omega
        have hsum : sumL (lst n rt') < sumL (lst n rt) := by
          rw [sumL_lst, sumL_lst]
          exact (sum_range_le n hle).2 hlt
        refine Or.inl ⟨(true, ((k + 1 : Nat) : Int), lst n rt'), ?_, ⟨k + 1, rt', rfl, by omega, rfl, ⟨fun i hi => Nat.le_trans (hle i hi) (h1.1 i hi), fun f hf i hi => ?_⟩, Or.inr ⟨rfl, ?_⟩⟩, by simp; omega⟩
        · have hx19 : idx ((lst n rt).set p.a.toNat ((m : Nat) : Int)) p.b = some (((fun j => if j = p.a.toNat then m else rt j) p.b.toNat : Nat) : Int) := by
            rw [lst_set]
            exact idx_of p3 (lst_get (by omega))
          simp only [m_assessorref44_Clusters_lp4]
          rw [if_pos (by simpa using hkl), idx_nat hp]
          simp only [Option.bind_some, ha, hb, em]
          have hcond : ((if (!decide (((rt p.a.toNat : Nat) : Int) = ((min (rt p.a.toNat) (rt p.b.toNat) : Nat) : Int))) = true then some true else some (!decide (((rt p.b.toNat : Nat) : Int) = ((min (rt p.a.toNat) (rt p.b.toNat) : Nat) : Int)))) : Option Bool) = some true := by
            by_cases e : rt p.a.toNat < rt p.b.toNat
            · rw [if_neg (by simp; omega)]
              simp; omega
            · rw [if_pos (by simp; omega)]
          rw [hcond]
          simp only [Option.bind_some, if_true]
          rw [hx19]
          simp only [Option.bind_some]
          rw [inK_succ (by omega)]
          simp only [Option.bind_some]
          rw [hset]
        · show f (if i = p.b.toNat then m else if i = p.a.toNat then m else rt i) = f i
          have fp : f p.a.toNat = f p.b.toNat := hf p (List.mem_of_getElem? hp)
          have fa := h1.2 f hf p.a.toNat (by omega)
          have fb := h1.2 f hf p.b.toNat (by omega)
          have fm : f m = f p.a.toNat := by
            by_cases e : rt p.a.toNat < rt p.b.toNat
            · have : m = rt p.a.toNat := by omega
              rw [this, fa]
            · have : m = rt p.b.toNat := by omega
              rw [this, fb, fp]
          split
          · rename_i e; subst e; rw [fm, fp]
          · split
            · rename_i e; subst e; exact fm
            · exact h1.2 f hf i hi
        · rcases h2 with ⟨_, e2, _⟩ | h2
          · rw [← e2]; exact hsum
          · exact Nat.lt_trans hsum h2.2
    · have : k = l.length := by omega
      subst this
      refine Or.inr ⟨(ch, lst n rt), ?_, rt, rfl, h1, ?_⟩
      · simp only [m_assessorref44_Clusters_lp4]
        rw [if_neg (by simp)]
      · rw [List.take_length] at h2; exact h2) (false, 0, lst n rt0) ⟨0, rt0, rfl, by omega, rfl, h0, Or.inl ⟨rfl, rfl, by intro p hp; simp at hp⟩⟩
  obtain ⟨ch, g⟩ := b
  simp only at e h2
  subst e
  refine ⟨ch, rt, hb, h1, ?_, ?_⟩
  · intro hc
    rcases h2 with h2 | h2
    · exact h2.2.2
    · rw [hc] at h2; cases h2.1
  · intro hc
    rcases h2 with h2 | h2
    · rw [hc] at h2; cases h2.1
    · exact h2.2
theorem bad_m (n : Int) (l : List Pair) (hl : l.length ≤ 4000000) : loopM (fun s => m_assessorref44_Clusters_lp1 n l s) 0 = some (if (l.any fun p => decide (p.a < 0 ∨ n ≤ p.a ∨ p.b < 0 ∨ n ≤ p.b)) = true then .ret ([], 2) else .brk ()) := by
  refine any_loop (body := fun s => m_assessorref44_Clusters_lp1 n l s) l (fun p => decide (p.a < 0 ∨ n ≤ p.a ∨ p.b < 0 ∨ n ≤ p.b)) (.ret ([], 2)) (.brk ()) (fun k p hp => ?_) ?_
  · have hk := (List.getElem?_eq_some_iff.1 hp).1
    simp only [m_assessorref44_Clusters_lp1]
    rw [if_pos (by simpa using hk), idx_nat hp, inK_succ (by omega)]
    simp only [Option.bind_some]
    by_cases h1 : p.a < 0
    · simp [h1]
    · by_cases h2 : n ≤ p.a
      · simp [h1, h2]
      · by_cases h3 : p.b < 0
        · simp [h1, h2, h3]
        · by_cases h4 : n ≤ p.b <;> simp [h1, h2, h3, h4]
  · simp only [m_assessorref44_Clusters_lp1]
    rw [if_neg (by simp)]
theorem ClustersR_m (n : Nat) (l : List Pair) (hn : n ≤ 1024) (hl : l.length ≤ 4000000) (hr : PrRange n l) : ∃ rt, m_assessorref44_Clusters (n : Int) l = some (clus n rt, 0) ∧ Labels n l rt := by
  unfold m_assessorref44_Clusters
  rw [if_neg (by simp; omega), bad_m _ _ hl]
  have hno : (l.any fun p => decide (p.a < 0 ∨ (n : Int) ≤ p.a ∨ p.b < 0 ∨ (n : Int) ≤ p.b)) = false := by
    rw [List.any_eq_false]
    intro p hp
    have := hr p hp
    simp only [decide_eq_true_eq]
    omega
  rw [hno, if_neg (by simp)]
  simp only [Option.bind_some]
  have l2 : loopM (fun s : Int × List Int => m_assessorref44_Clusters_lp2 (n : Int) s.1 s.2) (0, ([] : List Int)) = some (lst n id) := by
    refine loop_from (fun k => ((k : Int), lst k id)) n rfl (fun k hk => ?_) ?_
    · simp only [m_assessorref44_Clusters_lp2]
      rw [if_pos (by simpa using hk), app_ok (by rw [lst_len]; simp only [List.length_singleton]; omega)]
      simp only [Option.bind_some]
      rw [inK_succ (by omega)]
      simp only [Option.bind_some, Option.some.injEq, Step.next.injEq, Prod.mk.injEq, true_and]
      unfold lst
      rw [List.range_succ, List.map_append]
      rfl
    · simp only [m_assessorref44_Clusters_lp2]
      rw [if_neg (by simp)]
  rw [l2]
  simp only [Option.bind_some]
  obtain ⟨g, hg, rt, rfl, hrt, hres⟩ := loopM_inv (body := fun s : Bool × List Int => m_assessorref44_Clusters_lp3 l s.1 s.2) (fun s => ∃ rt, s.2 = lst n rt ∧ RefOk n l rt ∧ (s.1 = false → Resp l rt)) (fun s => if s.1 = true then sumL s.2 + 1 else 0) (fun b => ∃ rt, b = lst n rt ∧ RefOk n l rt ∧ Resp l rt) (by
    rintro ⟨ch, g⟩ ⟨rt, rfl, h1, h2⟩
    cases ch with
    | true =>
      obtain ⟨ch', rt', e1, e2, e3, e4⟩ := pass_m n l hl hr rt h1
      refine Or.inl ⟨(ch', lst n rt'), ?_, ⟨rt', rfl, e2, e3⟩, ?_⟩
      · simp only [m_assessorref44_Clusters_lp3]
        rw [if_pos trivial, e1]
        rfl
      · cases ch' with
        | true => have := e4 rfl; simp only [if_true]; omega
        | false => simp
    | false =>
      refine Or.inr ⟨lst n rt, ?_, rt, rfl, h1, h2 rfl⟩
      simp only [m_assessorref44_Clusters_lp3]
      rw [if_neg (by simp)]) (true, lst n id) ⟨id, rfl, ⟨fun i _ => Nat.le_refl _, fun f _ i _ => rfl⟩, fun h => by cases h⟩
  rw [hg]
  simp only [Option.bind_some]
  refine ⟨rt, ?_, hrt.1, hres, hrt.2⟩
  have l6 : ∀ i, i < n → loopM (fun s : Int × List Int => m_assessorref44_Clusters_lp6 (n : Int) (lst n rt) (i : Int) s.1 s.2) ((i : Int), ([] : List Int)) = some (cls n rt i) := by
    intro i hi
    have hfl : ∀ k, ((((List.range k).filter fun j => decide (rt j = i)).map fun j : Nat => (j : Int))).length ≤ k := by
      intro k
      rw [List.length_map]
      have := List.length_filter_le (fun j => decide (rt j = i)) (List.range k)
      simpa using this
    refine loop_from (fun k => (((i + k : Nat) : Int), ((List.range (i + k)).filter fun j => decide (rt j = i)).map fun j : Nat => (j : Int))) (n - i) ?_ (fun k hk => ?_) ?_
    · rw [Prod.mk.injEq]
      refine ⟨rfl, ?_⟩
      have : ((List.range (i + 0)).filter fun j => decide (rt j = i)) = [] := by
        rw [List.filter_eq_nil_iff]
        intro j hj
        have h1 := List.mem_range.1 hj
        have := hrt.1 j (by omega)
        simp; omega
      rw [this]; rfl
    · simp only [m_assessorref44_Clusters_lp6]
      rw [if_pos (by simp; omega), idx_nat (lst_get (by omega))]
      simp only [Option.bind_some]
      have hfk := hfl (i + k)
      rw [show i + (k + 1) = (i + k) + 1 by omega, List.range_succ, filterMap_app, List.map_append, inK_succ (by omega)]
      by_cases hc : rt (i + k) = i
      · rw [if_pos (by simp; omega), if_pos (by simpa using hc), app_ok (by simp only [List.length_singleton]; omega)]
        rfl
      · rw [if_neg (by simp; omega), if_neg (by simpa using hc)]
        simp
    · simp only [m_assessorref44_Clusters_lp6]
      rw [show i + (n - i) = n by omega, if_neg (by simp)]
      rfl
  have l5 : loopM (fun s : Int × List (List Int) => m_assessorref44_Clusters_lp5 (n : Int) (lst n rt) s.1 s.2) (0, []) = some (clus n rt) := by
    refine loop_from (fun k => ((k : Int), ((List.range k).map (cls n rt)).filter fun c => decide (1 < c.length))) n rfl (fun k hk => ?_) ?_
    · have hfl := List.length_filter_le (fun c : List Int => decide (1 < c.length)) ((List.range k).map (cls n rt))
      rw [List.length_map, List.length_range] at hfl
      simp only [m_assessorref44_Clusters_lp5]
      rw [if_pos (by simpa using hk), l6 k hk]
      simp only [Option.bind_some]
      rw [List.range_succ, List.map_append, List.map_cons, List.map_nil, filterMap_app, inK_succ (k := k) (by omega)]
      by_cases hc : 1 < (cls n rt k).length
      · rw [if_pos (by simp; omega), if_pos (by simpa using hc), app_ok (by simp only [List.length_singleton]; omega)]
        rfl
      · rw [if_neg (by simp; omega), if_neg (by simpa using hc), List.append_nil]
        rfl
    · simp only [m_assessorref44_Clusters_lp5]
      rw [if_neg (by simp)]
      rfl
  rw [l5]
  rfl
/-- Wrong numbers: an error. -/
theorem Clusters_bad (n : Int) (l : List Pair) (hl : l.length ≤ 4000000) (h : (n < 0 ∨ 1024 < n) ∨ ∃ p ∈ l, p.a < 0 ∨ n ≤ p.a ∨ p.b < 0 ∨ n ≤ p.b) : m_similarity_Clusters n l = some ([], 2) ∧ m_assessorref44_Clusters n l = some ([], 2) := by
  by_cases hn : n < 0 ∨ 1024 < n
  · unfold m_similarity_Clusters m_assessorref44_Clusters
    rw [if_pos (by simp; omega), if_pos (by simp; omega)]
    exact ⟨rfl, rfl⟩
  · have h2 : ∃ p ∈ l, p.a < 0 ∨ n ≤ p.a ∨ p.b < 0 ∨ n ≤ p.b := h.resolve_left hn
    constructor
    · obtain ⟨m, rfl⟩ := Int.eq_ofNat_of_zero_le (show 0 ≤ n by omega)
      refine Clusters_wrong m l (by omega) hl fun hr => ?_
      obtain ⟨p, h3, h4⟩ := h2
      have := hr p h3
      omega
    · unfold m_assessorref44_Clusters
      rw [if_neg (by simp; omega), bad_m _ _ hl, if_pos (by
        rw [List.any_eq_true]
        obtain ⟨p, h3, h4⟩ := h2
        exact ⟨p, h3, by simpa using h4⟩)]
      rfl
end Go.Proofs.Ytmfepkadggigpaa
