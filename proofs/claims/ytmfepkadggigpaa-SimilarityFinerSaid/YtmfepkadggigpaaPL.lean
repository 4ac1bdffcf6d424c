/-
  The laws of counts and of pairs, in plain terms. No program is named.
-/
import Derived.Test.YtmfepkadggigpaaPK
import Derived.Test.YtmfepkadggigpaaWCM
import Derived.Test.YtmfepkadggigpaaWPM
set_option linter.unusedVariables false
set_option linter.unusedSimpArgs false
namespace Go.Proofs.Ytmfepkadggigpaa
open Go.RowKit
theorem MkOk.of {l : List Mark} (h : LW (fun a : Mark => I64 a.hash ∧ I64 a.at_) l) : MkOk l := fun x hx => by
  obtain ⟨a, ha, rfl⟩ := List.mem_map.1 hx
  exact (h.2 a ha).1
theorem grid_len (n m : Nat) : ((List.range n).flatMap fun i => (List.range m).map fun j => (i, j)).length = n * m := by
  rw [List.length_flatMap]
  simp only [List.length_map, List.length_range]
  induction n with
  | zero => simp
  | succ n ih => rw [List.range_succ, List.map_append, List.sum_append, ih, Nat.add_mul]; simp
theorem law_SimilarityCounts (p0 : (List (List Mark))) (p1 : (List Int)) (p2 : Int) (h0 : LW (LW (fun a : Mark => I64 a.hash ∧ I64 a.at_)) p0) (h1 : LW I64 p1) (h2 : (Lit.int .i64 p2).wf = true) : m_assessorlaw44_SimilarityCounts p0 p1 p2 = some true := by
  unfold m_assessorlaw44_SimilarityCounts
  rw [awake_m]
  simp only [Option.bind_some, Bool.not_true, Bool.false_eq_true, if_false]
  rw [few_m p0 8 30 h0.1]
  simp only [Option.bind_some]
  by_cases hf : ((∀ a ∈ p0, (a.length : Int) ≤ 30) ∧ (p0.length : Int) ≤ 8) ∧ p1.length ≤ 20
  · obtain ⟨⟨f1, f2⟩, f3⟩ := hf
    rw [decide_eq_true ⟨f1, f2⟩, if_neg (by simp; omega)]
    have hlen : ∀ a ∈ p0, a.length ≤ 30 := fun a ha => by have := f1 a ha; omega
    have hok : ∀ a ∈ p0, MkOk a := fun a ha => MkOk.of (h0.2 a ha)
    refine bind_loop (fun k => (k : Int)) p0.length (.brk ()) rfl (fun k hk => ?_) ?_ ?_
    · obtain ⟨a, ha⟩ := get_of_lt hk
      have hm := List.mem_of_getElem? ha
      have hal := hlen a hm
      simp only [m_assessorlaw44_SimilarityCounts_lp1]
      rw [if_pos (by simpa using hk), idx_nat ha]
      simp only [Option.bind_some]
      obtain ⟨x, x1, x2⟩ := Hashes_m a (by omega) (hok a hm)
      obtain ⟨y, y1, y2⟩ := HashesR_m a (by omega)
      obtain rfl := x2.one y2
      have hxl := x2.len
      rw [x1, y1]
      simp only [Option.bind_some]
      rw [SameI_m _ _ (by omega), decide_eq_true rfl]
      simp only [Option.bind_some, Bool.not_true, Bool.false_eq_true, if_false]
      rw [Without_m a p1 (by omega) (by omega), WithoutR_m a p1 (by omega) (by omega)]
      simp only [Option.bind_some]
      have hfl := List.length_filter_le (fun m : Mark => !decide (m.hash ∈ p1)) a
      rw [SameM_m _ _ (by omega), decide_eq_true rfl]
      simp only [Option.bind_some, Bool.not_true, Bool.false_eq_true, if_false]
      refine bind_loop (fun j => (j : Int)) p0.length (.brk ()) rfl (fun j hj => ?_) ?_ ?_
      · obtain ⟨b, hb⟩ := get_of_lt hj
        have hbl := hlen b (List.mem_of_getElem? hb)
        simp only [m_assessorlaw44_SimilarityCounts_lp2]
        rw [if_pos (by simpa using hj), idx_nat hb]
        simp only [Option.bind_some]
        obtain ⟨r, r1, r2⟩ := Compare_m a b (by omega) (by omega)
        obtain ⟨s, s1, s2⟩ := CompareR_m a b (by omega) (by omega)
        obtain rfl := CmpIs.one (by omega) (by omega) r2 s2
        rw [r1, s1]
        simp only [Option.bind_some]
        rw [if_neg (by simp), inK_succ (by omega)]
        rfl
      · simp only [m_assessorlaw44_SimilarityCounts_lp2]
        rw [if_neg (by simp)]
      · simp only
        rw [inK_succ (by omega)]
        rfl
    · simp only [m_assessorlaw44_SimilarityCounts_lp1]
      rw [if_neg (by simp)]
    · simp only
      obtain ⟨x, x1, x2⟩ := Frequent_m p2 p0 (by omega) (fun l hl => by have := hlen l hl; omega) hok
      obtain ⟨y, y1, y2⟩ := FrequentR_m p2 p0 (by omega) (fun l hl => by have := hlen l hl; omega)
      obtain rfl := x2.one y2
      rw [x1, y1]
      simp only [Option.bind_some]
      have hxl : x.length ≤ p0.length * 30 := by
        have := nodup_sub_len (rising_nodup x2.1) (m := p0.flatten.map Mark.hash) fun z hz => by
          obtain ⟨l, h3, h4⟩ := cnt_pos.1 ((x2.2 z).1 hz).1
          obtain ⟨m, h5, h6⟩ := List.mem_map.1 h4
          exact List.mem_map.2 ⟨m, List.mem_flatten.2 ⟨l, h3, h5⟩, h6⟩
        rw [List.length_map] at this
        exact Nat.le_trans this (flat_le p0 30 hlen)
      rw [SameI_m _ _ (by omega), decide_eq_true rfl]
      rfl
  · by_cases hf2 : (∀ a ∈ p0, (a.length : Int) ≤ 30) ∧ (p0.length : Int) ≤ 8
    · have h3 : ¬ p1.length ≤ 20 := fun h => hf ⟨hf2, h⟩
      rw [decide_eq_true hf2, if_pos (by simp; omega)]
    · rw [decide_eq_false hf2, if_pos (by simp)]
theorem law_SimilarityPairs (p0 : Int) (p1 : Int) (p2 : (List (List Mark))) (h0 : (Lit.int .i64 p0).wf = true) (h1 : (Lit.int .i64 p1).wf = true) (h2 : LW (LW (fun a : Mark => I64 a.hash ∧ I64 a.at_)) p2) : m_assessorlaw44_SimilarityPairs p0 p1 p2 = some true := by
  unfold m_assessorlaw44_SimilarityPairs
  rw [awake_m]
  simp only [Option.bind_some, Bool.not_true, Bool.false_eq_true, if_false]
  rw [few_m p2 8 30 h2.1]
  simp only [Option.bind_some]
  by_cases hl : 64 < p2.length
  · obtain ⟨e, e1, e2⟩ := Pairs_large (num := p0) (den := p1) hl
    rw [if_neg (by simp; omega), e1, e2]
    simp only [Option.bind_some]
    rw [if_pos (by simp), pairs_eq _ _ (by simp)]
    rfl
  · by_cases hf : (∀ a ∈ p2, (a.length : Int) ≤ 30) ∧ (p2.length : Int) ≤ 8
    · rw [decide_eq_true hf, if_neg (by simp)]
      by_cases hb : p1 < 1 ∨ 10000 < p1 ∨ p0 < 0 ∨ p1 < p0
      · obtain ⟨e1, e2⟩ := Pairs_bad (D := p2) hb
        rw [e1, e2]
        simp only [Option.bind_some]
        rw [if_pos (by simp), pairs_eq _ _ (by simp)]
        rfl
      · have hD : DocOk p2 := fun a ha => by have := hf.1 a ha; omega
        obtain ⟨r, r1, r2⟩ := Pairs_m p0 p1 p2 hD (by omega) (by omega) (by omega)
        obtain ⟨s, s1, s2⟩ := PairsR_m p0 p1 p2 hD (by omega) (by omega) (by omega)
        obtain rfl := r2.one hD s2
        have hrl : r.length ≤ 64 * 64 := by
          have h3 : (r.map fun p => (p.a.toNat, p.b.toNat)).Nodup := by
            have h4 := keys_nodup r2.2.1
            rw [List.nodup_iff_pairwise_ne] at *
            rw [List.pairwise_map]
            refine h4.imp_of_mem fun {x y} hx hy hxy e => hxy ?_
            have o1 := ((r2.2.2 x).1 hx).ok hD
            have o2 := ((r2.2.2 y).1 hy).ok hD
            simp only [Prod.mk.injEq] at e
            exact PrMem.one hD ((r2.2.2 x).1 hx) ((r2.2.2 y).1 hy) (by omega) (by omega)
          have h5 := nodup_sub h3 (m := (List.range 64).flatMap fun i => (List.range 64).map fun j => (i, j)) fun q hq => by
            obtain ⟨o, ho, rfl⟩ := List.mem_map.1 hq
            have o1 := ((r2.2.2 o).1 ho).ok hD
            rw [List.mem_flatMap]
            exact ⟨o.a.toNat, List.mem_range.2 (by omega), List.mem_map.2 ⟨o.b.toNat, List.mem_range.2 (by omega), rfl⟩⟩
          rw [List.length_map] at h5
          rw [grid_len] at h5
          exact h5
        rw [r1, s1]
        simp only [Option.bind_some]
        rw [if_pos (by simp), pairs_eq _ _ (by omega), decide_eq_true rfl]
        rfl
    · rw [decide_eq_false hf, if_pos (by simp; omega)]
end Go.Proofs.Ytmfepkadggigpaa
