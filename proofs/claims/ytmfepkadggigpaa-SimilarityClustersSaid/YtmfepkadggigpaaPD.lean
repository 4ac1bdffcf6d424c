/-
  Pairs of documents that are alike, in their order; both models compute them. No program is named.
-/
import Derived.Test.YtmfepkadggigpaaPB
import Derived.Test.YtmfepkadggigpaaLibQ
set_option linter.unusedVariables false
set_option linter.unusedSimpArgs false
namespace Go.Proofs.Ytmfepkadggigpaa
open Go.RowKit
theorem CmpIs.bounds {a b : List Mark} {r : Int × Int} (ha : a.length ≤ 2000000) (hb : b.length ≤ 2000000) (h : CmpIs a b r) : 0 ≤ r.1 ∧ r.1 ≤ a.length ∧ 0 ≤ r.2 ∧ r.2 ≤ a.length + b.length ∧ r.1 ≤ r.2 := by
  obtain ⟨m, _, h2⟩ := HashesR_m a ha
  obtain ⟨n, _, h4⟩ := HashesR_m b hb
  obtain ⟨e1, e2⟩ := h m n h2 h4
  have hfl := List.length_filter_le (fun h => decide (h ∈ n)) m
  have hf2 := nodup_sub_len ((rising_nodup h2.1).filter (fun h => decide (h ∈ n))) (m := n) fun x hx => by simpa using (List.mem_filter.1 hx).2
  have l1 := h2.len
  have l2 := h4.len
  omega
/-- Which pairs are asked for? -/
def PrMem (num den : Int) (D : List (List Mark)) (p : Pair) : Prop := ∃ (i j : Nat) (x y : List Mark), p.a = i ∧ p.b = j ∧ i < j ∧ D[i]? = some x ∧ D[j]? = some y ∧ CmpIs x y (p.shared, p.total) ∧ 0 < p.total ∧ num * p.total ≤ p.shared * den
def PrsIs (num den : Int) (D : List (List Mark)) (r : List Pair) : Prop := r.Pairwise (fun x y => prLe x y = true) ∧ (r.map fun p => (p.a, p.b)).Nodup ∧ ∀ p, p ∈ r ↔ PrMem num den D p
def DocOk (D : List (List Mark)) : Prop := ∀ l ∈ D, l.length ≤ 1000
theorem PrMem.one {num den num' den' : Int} {D : List (List Mark)} (hD : DocOk D) {p q : Pair} (hp : PrMem num den D p) (hq : PrMem num' den' D q) (ha : p.a = q.a) (hb : p.b = q.b) : p = q := by
  obtain ⟨i, j, x, y, a1, a2, a3, a4, a5, a6, _⟩ := hp
  obtain ⟨i', j', x', y', b1, b2, b3, b4, b5, b6, _⟩ := hq
  have hi : i = i' := by omega
  have hj : j = j' := by omega
  subst hi hj
  rw [a4] at b4
  rw [a5] at b5
  obtain rfl := Option.some.inj b4
  obtain rfl := Option.some.inj b5
  have := CmpIs.one (by have := hD x (List.mem_of_getElem? a4); omega) (by have := hD y (List.mem_of_getElem? a5); omega) a6 b6
  obtain ⟨pa, pb, ps, pt⟩ := p
  obtain ⟨qa, qb, qs, qt⟩ := q
  simp only [Prod.mk.injEq] at this
  simp only at ha hb
  rw [ha, hb, this.1, this.2]
theorem PrMem.ok {num den : Int} {D : List (List Mark)} (hD : DocOk D) {p : Pair} (hp : PrMem num den D p) : 0 ≤ p.shared ∧ p.shared ≤ 1000 ∧ 0 < p.total ∧ p.total ≤ 2000 ∧ 0 ≤ p.a ∧ p.a < p.b ∧ p.b < D.length := by
  obtain ⟨i, j, x, y, a1, a2, a3, a4, a5, a6, a7, _⟩ := hp
  have h1 := hD x (List.mem_of_getElem? a4)
  have h2 := hD y (List.mem_of_getElem? a5)
  have := CmpIs.bounds (by omega) (by omega) a6
  have h3 := (List.getElem?_eq_some_iff.1 a5).1
  simp only at this
  omega
theorem keys_nodup {l : List Pair} (h : (l.map fun p => (p.a, p.b)).Nodup) : l.Nodup := by
  rw [List.nodup_iff_pairwise_ne, List.pairwise_map] at h
  exact h.imp fun h e => h (by rw [e])
theorem PrsIs.one {num den : Int} {D : List (List Mark)} (hD : DocOk D) {r s : List Pair} (hr : PrsIs num den D r) (hs : PrsIs num den D s) : r = s := by
  have hp : r.Perm s := (List.perm_ext_iff_of_nodup (keys_nodup hr.2.1) (keys_nodup hs.2.1)).2 fun p => (hr.2.2 p).trans (hs.2.2 p).symm
  refine List.Perm.eq_of_pairwise (le := fun x y => prLe x y = true) (fun x y hx hy h3 h4 => ?_) hr.1 hs.1 hp
  obtain ⟨e1, e2⟩ := prLe_anti h3 h4
  exact PrMem.one hD ((hr.2.2 x).1 hx) ((hs.2.2 y).1 hy) e1 e2
/-- What is asked of one pair's numbers. -/
theorem alike_ok {s t num den : Int} (hs : 0 ≤ s ∧ s ≤ 1000) (ht : 0 ≤ t ∧ t ≤ 2000) (hd : 1 ≤ den ∧ den ≤ 10000) (hn : 0 ≤ num ∧ num ≤ den) : inK .i64 (s * den) = some (s * den) ∧ inK .i64 (num * t) = some (num * t) := by
  have a1 : 0 ≤ s * den := Int.mul_nonneg hs.1 (by omega)
  have a2 : s * den ≤ 1000 * 10000 := Int.mul_le_mul (by omega) (by omega) (by omega) (by omega)
  have a3 : 0 ≤ num * t := Int.mul_nonneg hn.1 ht.1
  have a4 : num * t ≤ 10000 * 2000 := Int.mul_le_mul (by omega) (by omega) (by omega) (by omega)
  exact ⟨inK_eq (by omega), inK_eq (by omega)⟩
theorem Pairs_m (num den : Int) (D : List (List Mark)) (hD : DocOk D) (hl : D.length ≤ 64) (hd : 1 ≤ den ∧ den ≤ 10000) (hn : 0 ≤ num ∧ num ≤ den) : ∃ r, m_similarity_Pairs num den D = some (r, 0) ∧ PrsIs num den D r := by
  unfold m_similarity_Pairs
  rw [if_neg (by simp; omega), if_neg (by simp; omega)]
  -- the pairs so far
  let G : Nat → Nat → List Pair → Prop := fun j i s => (s.map fun p => (p.a, p.b)).Nodup ∧ (∀ p, p ∈ s ↔ PrMem num den D p ∧ (p.b < j ∨ p.b = j ∧ p.a < i)) ∧ s.length ≤ j * 64 + i
  have inner : ∀ (j : Nat) (s : List Pair), j < D.length → G j 0 s → ∃ s', loopM (fun s : Int × List Pair => m_similarity_Pairs_lp2 num den D (j : Int) s.1 s.2) (0, s) = some s' ∧ G j j s' := by
    intro j s hj hs
    obtain ⟨y, hy⟩ := get_of_lt hj
    have hyl := hD y (List.mem_of_getElem? hy)
    obtain ⟨b, hb, hP⟩ := loopM_inv (body := fun s : Int × List Pair => m_similarity_Pairs_lp2 num den D (j : Int) s.1 s.2) (fun s => ∃ i : Nat, s.1 = i ∧ i ≤ j ∧ G j i s.2) (fun s => j - s.1.toNat) (fun b => G j j b) (by
      rintro ⟨i', s⟩ ⟨i, rfl, hi, h1, h2, h3⟩
      simp only at h1 h2 h3
      by_cases hij : i < j
      · obtain ⟨x, hx⟩ := get_of_lt (show i < D.length by omega)
        have hxl := hD x (List.mem_of_getElem? hx)
        obtain ⟨c, c1, c2⟩ := Compare_m x y (by omega) (by omega)
        obtain ⟨d1, d2, d3, d4, d5⟩ := CmpIs.bounds (by omega) (by omega) c2
        obtain ⟨k1, k2⟩ := alike_ok (s := c.1) (t := c.2) (num := num) (den := den) (by omega) (by omega) hd hn
        by_cases hc : 0 < c.2 ∧ num * c.2 ≤ c.1 * den
        · have hnew : PrMem num den D (Pair.mk i j c.1 c.2) := ⟨i, j, x, y, rfl, rfl, hij, hx, hy, c2, hc.1, hc.2⟩
          refine Or.inl ⟨(((i + 1 : Nat) : Int), s ++ [Pair.mk i j c.1 c.2]), ?_, ⟨i + 1, rfl, by omega, ?_, fun p => ?_, by simp; omega⟩, by simp; omega⟩
          · simp only [m_similarity_Pairs_lp2]
            rw [if_pos (by simpa using hij), idx_nat hx]
            simp only [Option.bind_some]
            rw [idx_nat hy]
            simp only [Option.bind_some]
            rw [c1]
            simp only [Option.bind_some]
            rw [if_pos (by simpa using hc.1), k1, k2]
            simp only [Option.bind_some]
            rw [if_pos (by simpa using hc.2), app_ok (by simp; omega)]
            simp only [Option.bind_some]
            rw [inK_succ (by omega)]
            rfl
          · simp only [List.map_append, List.map_cons, List.map_nil]
            rw [List.nodup_append]
            refine ⟨h1, by simp, fun u hu v hv e => ?_⟩
            simp only [List.mem_singleton] at hv
            subst e hv
            obtain ⟨p, hp, he⟩ := List.mem_map.1 hu
            simp only [Prod.mk.injEq] at he
            have := ((h2 p).1 hp).2
            omega
          · simp only
            rw [List.mem_append, h2, List.mem_singleton]
            constructor
            · rintro (h | rfl)
              · exact ⟨h.1, by omega⟩
              · exact ⟨hnew, Or.inr ⟨rfl, by simp only; omega⟩⟩
            · rintro ⟨h, h'⟩
              by_cases e : p.b = j ∧ p.a = i
              · exact Or.inr (PrMem.one hD h hnew e.2 e.1)
              · exact Or.inl ⟨h, by omega⟩
        · refine Or.inl ⟨(((i + 1 : Nat) : Int), s), ?_, ⟨i + 1, rfl, by omega, h1, fun p => ?_, by simp; omega⟩, by simp; omega⟩
          · simp only [m_similarity_Pairs_lp2]
            rw [if_pos (by simpa using hij), idx_nat hx]
            simp only [Option.bind_some]
            rw [idx_nat hy]
            simp only [Option.bind_some]
            rw [c1]
            simp only [Option.bind_some]
            by_cases h0 : 0 < c.2
            · rw [if_pos (by simpa using h0), k1, k2]
              simp only [Option.bind_some]
              rw [if_neg (by simp; omega), inK_succ (by omega)]
              rfl
            · rw [if_neg (by simpa using h0)]
              simp only [Option.bind_some]
              rw [if_neg (by simp), inK_succ (by omega)]
              rfl
          · simp only
            rw [h2]
            constructor
            · rintro ⟨h, h'⟩
              exact ⟨h, by omega⟩
            · rintro ⟨h, h'⟩
              refine ⟨h, ?_⟩
              by_cases e : p.b = j ∧ p.a = i
              · exfalso
                obtain ⟨i', j', x', y', a1, a2, a3, a4, a5, a6, a7, a8⟩ := h
                have hi' : i' = i := by omega
                have hj' : j' = j := by omega
                subst hi' hj'
                rw [hx] at a4
                rw [hy] at a5
                obtain rfl := Option.some.inj a4
                obtain rfl := Option.some.inj a5
                have he := CmpIs.one (by omega) (by omega) c2 a6
                rw [he] at hc
                exact hc ⟨a7, a8⟩
              · omega
      · have : i = j := by omega
        subst this
        refine Or.inr ⟨s, ?_, h1, h2, h3⟩
        simp only [m_similarity_Pairs_lp2]
        rw [if_neg (by simp)]) (0, s) ⟨0, rfl, by omega, hs⟩
    exact ⟨b, hb, hP⟩
  obtain ⟨b, hb, h1, h2, h3⟩ := loopM_inv (body := fun s : Int × List Pair => m_similarity_Pairs_lp1 num den D s.1 s.2) (fun s => ∃ j : Nat, s.1 = j ∧ j ≤ D.length ∧ G j 0 s.2) (fun s => D.length - s.1.toNat) (fun b => G D.length 0 b) (by
    rintro ⟨j', s⟩ ⟨j, rfl, hj, hG⟩
    simp only at hG
    by_cases hjl : j < D.length
    · obtain ⟨s', e1, e2, e3, e4⟩ := inner j s hjl hG
      refine Or.inl ⟨(((j + 1 : Nat) : Int), s'), ?_, ⟨j + 1, rfl, by omega, e2, fun p => ?_, by simp only; omega⟩, by simp; omega⟩
      · simp only [m_similarity_Pairs_lp1]
        rw [if_pos (by simpa using hjl), e1]
        simp only [Option.bind_some]
        rw [inK_succ (by omega)]
        rfl
      · simp only
        rw [e3]
        constructor
        · rintro ⟨h, h'⟩
          exact ⟨h, by omega⟩
        · rintro ⟨h, h'⟩
          have := h.ok hD
          exact ⟨h, by omega⟩
    · have : j = D.length := by omega
      subst this
      refine Or.inr ⟨s, ?_, hG⟩
      simp only [m_similarity_Pairs_lp1]
      rw [if_neg (by simp)]) (0, []) ⟨0, rfl, by omega, by simp, fun p => by
        constructor
        · intro h; cases h
        · rintro ⟨h, h'⟩; have := h.ok hD; omega, by simp⟩
  rw [hb]
  simp only [Option.bind_some]
  have hmem : ∀ p, p ∈ b ↔ PrMem num den D p := fun p => by
    rw [h2]
    exact ⟨fun h => h.1, fun h => ⟨h, by have := h.ok hD; omega⟩⟩
  unfold m_sortP
  rw [if_pos ⟨by omega, by
    rw [List.all_eq_true]
    intro p hp
    have := ((hmem p).1 hp).ok hD
    unfold prOk
    rw [decide_eq_true_eq]
    omega, h1⟩]
  refine ⟨_, rfl, List.pairwise_mergeSort prLe_trans prLe_total b, ?_, fun p => ?_⟩
  · exact (((List.mergeSort_perm b fun x y => !prLt y x).map _).nodup_iff).2 h1
  · rw [(List.mergeSort_perm b fun x y => !prLt y x).mem_iff]
    exact hmem p
theorem before_m {p q : Pair} (hp : 0 ≤ p.shared ∧ p.shared ≤ 1000 ∧ 0 < p.total ∧ p.total ≤ 2000) (hq : 0 ≤ q.shared ∧ q.shared ≤ 1000 ∧ 0 < q.total ∧ q.total ≤ 2000) : m_assessorref44_before p q = some (prLt p q) := by
  unfold m_assessorref44_before
  have a1 : 0 ≤ p.shared * q.total := Int.mul_nonneg (by omega) (by omega)
  have a2 : p.shared * q.total ≤ 1000 * 2000 := Int.mul_le_mul (by omega) (by omega) (by omega) (by omega)
  have a3 : 0 ≤ q.shared * p.total := Int.mul_nonneg (by omega) (by omega)
  have a4 : q.shared * p.total ≤ 1000 * 2000 := Int.mul_le_mul (by omega) (by omega) (by omega) (by omega)
  rw [inK_eq (by omega), inK_eq (n := q.shared * p.total) (by omega)]
  simp only [Option.bind_some]
  have e1 : prT p = p.total := by unfold prT; omega
  have e2 : prT q = q.total := by unfold prT; omega
  unfold prLt
  rw [e1, e2]
  by_cases h : p.shared * q.total = q.shared * p.total
  · rw [if_neg (by simp [h])]
    simp only [h, Int.lt_irrefl, true_and, false_or, Option.some.injEq]
    rw [Bool.eq_iff_iff]
    simp
  · rw [if_pos (by simp [h])]
    simp only [Option.some.injEq]
    rw [decide_eq_decide]
    omega
theorem prLt_le {p q : Pair} (h : prLt p q = true) : prLe p q = true := by
  have := prLe_total p q
  rw [Bool.or_eq_true] at this
  rcases this with h3 | h3
  · exact h3
  · unfold prLe at h3; rw [h] at h3; cases h3
theorem PairsR_m (num den : Int) (D : List (List Mark)) (hD : DocOk D) (hl : D.length ≤ 64) (hd : 1 ≤ den ∧ den ≤ 10000) (hn : 0 ≤ num ∧ num ≤ den) : ∃ r, m_assessorref44_Pairs num den D = some (r, 0) ∧ PrsIs num den D r := by
  unfold m_assessorref44_Pairs
  rw [if_neg (by simp; omega), if_neg (by simp; omega)]
  let G : Nat → Nat → List Pair → Prop := fun i j s => s.Pairwise (fun x y => prLe x y = true) ∧ (s.map fun p => (p.a, p.b)).Nodup ∧ (∀ p, p ∈ s ↔ PrMem num den D p ∧ (p.a < i ∨ p.a = i ∧ p.b < j)) ∧ s.length ≤ i * 64 + j
  have inner : ∀ (i : Nat) (s : List Pair), i < D.length → G i 0 s → ∃ s', loopM (fun s : Int × List Pair => m_assessorref44_Pairs_lp2 num den D (i : Int) s.1 s.2) ((((i + 1 : Nat) : Int)), s) = some s' ∧ G i D.length s' := by
    intro i s hi hs
    obtain ⟨x, hx⟩ := get_of_lt hi
    have hxl := hD x (List.mem_of_getElem? hx)
    obtain ⟨b, hb, hP⟩ := loopM_inv (body := fun s : Int × List Pair => m_assessorref44_Pairs_lp2 num den D (i : Int) s.1 s.2) (fun s => ∃ j : Nat, s.1 = j ∧ j ≤ D.length ∧ i < j ∧ G i j s.2) (fun s => D.length - s.1.toNat) (fun b => G i D.length b) (by
      rintro ⟨j', s⟩ ⟨j, rfl, hj, hij, h0, h1, h2, h3⟩
      simp only at h0 h1 h2 h3
      by_cases hjl : j < D.length
      · obtain ⟨y, hy⟩ := get_of_lt hjl
        have hyl := hD y (List.mem_of_getElem? hy)
        obtain ⟨c, c1, c2⟩ := CompareR_m x y (by omega) (by omega)
        obtain ⟨d1, d2, d3, d4, d5⟩ := CmpIs.bounds (by omega) (by omega) c2
        obtain ⟨k1, k2⟩ := alike_ok (s := c.1) (t := c.2) (num := num) (den := den) (by omega) (by omega) hd hn
        by_cases hc : 0 < c.2 ∧ num * c.2 ≤ c.1 * den
        · have hnew : PrMem num den D (Pair.mk i j c.1 c.2) := ⟨i, j, x, y, rfl, rfl, hij, hx, hy, c2, hc.1, hc.2⟩
          have hok : ∀ q ∈ s, 0 ≤ q.shared ∧ q.shared ≤ 1000 ∧ 0 < q.total ∧ q.total ≤ 2000 := fun q hq => by
            have := ((h2 q).1 hq).1.ok hD
            omega
          obtain ⟨k, f1, f2, f3, f4⟩ := ins_loop (body := fun n => m_assessorref44_Pairs_lp3 (i : Int) (j : Int) s c n) s (fun q => prLt (Pair.mk i j c.1 c.2) q) (by
            simp only [m_assessorref44_Pairs_lp3]
            rw [if_neg (by simp)]
            rfl) (fun k q hq => by
            simp only [m_assessorref44_Pairs_lp3]
            rw [if_pos (by simp <;> omega), inK_eq (by have := (List.getElem?_eq_some_iff.1 hq).1; omega)]
            simp only [Option.bind_some, Int.add_sub_cancel]
            rw [idx_nat (k := k) (by exact hq)]
            simp only [Option.bind_some]
            rw [before_m (by simp only; omega) (hok q (List.mem_of_getElem? hq))]
            simp only [Option.bind_some]
            by_cases hlt : prLt (Pair.mk i j c.1 c.2) q = true
            · rw [if_pos hlt, if_pos hlt]
            · rw [if_neg hlt, if_neg hlt])
          have hs2 := ins_sorted (le := fun x y => prLe x y = true) prLe_trans h0 (p := Pair.mk i j c.1 c.2) (k := k) (fun q => prLt (Pair.mk i j c.1 c.2) q) (fun q hq => prLt_le hq) (fun q hq => by unfold prLe; rw [hq]; rfl) f1 f3 f4
          have hperm : (s.take k ++ [Pair.mk i j c.1 c.2] ++ s.drop k).Perm (Pair.mk i j c.1 c.2 :: s) := by
            rw [List.append_assoc, List.singleton_append]
            refine List.perm_middle.trans ?_
            rw [List.take_append_drop]
          refine Or.inl ⟨(((j + 1 : Nat) : Int), s.take k ++ [Pair.mk i j c.1 c.2] ++ s.drop k), ?_, ⟨j + 1, rfl, by omega, by omega, hs2, ?_, fun p => ?_, by rw [hperm.length_eq]; simp; omega⟩, by simp; omega⟩
          · simp only [m_assessorref44_Pairs_lp2]
            rw [if_pos (by simpa using hjl), idx_nat hx]
            simp only [Option.bind_some]
            rw [idx_nat hy]
            simp only [Option.bind_some]
            rw [c1]
            simp only [Option.bind_some]
            rw [if_pos (by simpa using hc.1), k1, k2]
            simp only [Option.bind_some]
            rw [if_pos (by simpa using hc.2), f2]
            simp only [Option.bind_some]
            rw [sub_ok (by omega) (by omega) (by omega)]
            simp only [Option.bind_some, Int.toNat_natCast, Int.toNat_zero, List.drop_zero]
            rw [app_ok (by simp; omega)]
            simp only [Option.bind_some, List.nil_append]
            rw [app_ok (by simp; omega)]
            simp only [Option.bind_some]
            rw [sub_ok (by omega) (by omega) (by omega)]
            simp only [Option.bind_some, Int.toNat_natCast, List.take_length]
            rw [app_ok (by simp; omega)]
            simp only [Option.bind_some]
            rw [inK_succ (by omega)]
            rfl
          · refine ((hperm.map fun p => (p.a, p.b)).nodup_iff).2 ?_
            rw [List.map_cons, List.nodup_cons]
            refine ⟨fun hm => ?_, h1⟩
            obtain ⟨p, hp, he⟩ := List.mem_map.1 hm
            simp only [Prod.mk.injEq] at he
            have := ((h2 p).1 hp).2
            omega
          · rw [hperm.mem_iff, List.mem_cons, h2]
            constructor
            · rintro (rfl | h)
              · exact ⟨hnew, Or.inr ⟨rfl, by simp only; omega⟩⟩
              · exact ⟨h.1, by omega⟩
            · rintro ⟨h, h'⟩
              by_cases e : p.b = j ∧ p.a = i
              · exact Or.inl (PrMem.one hD h hnew e.2 e.1)
              · exact Or.inr ⟨h, by omega⟩
        · refine Or.inl ⟨(((j + 1 : Nat) : Int), s), ?_, ⟨j + 1, rfl, by omega, by omega, h0, h1, fun p => ?_, by simp; omega⟩, by simp; omega⟩
          · simp only [m_assessorref44_Pairs_lp2]
            rw [if_pos (by simpa using hjl), idx_nat hx]
            simp only [Option.bind_some]
            rw [idx_nat hy]
            simp only [Option.bind_some]
            rw [c1]
            simp only [Option.bind_some]
            by_cases h0 : 0 < c.2
            · rw [if_pos (by simpa using h0), k1, k2]
              simp only [Option.bind_some]
              rw [if_neg (by simp; omega), inK_succ (by omega)]
              rfl
            · rw [if_neg (by simpa using h0)]
              simp only [Option.bind_some]
              rw [if_neg (by simp), inK_succ (by omega)]
              rfl
          · simp only
            rw [h2]
            constructor
            · rintro ⟨h, h'⟩
              exact ⟨h, by omega⟩
            · rintro ⟨h, h'⟩
              refine ⟨h, ?_⟩
              by_cases e : p.b = j ∧ p.a = i
              · exfalso
                obtain ⟨i', j', x', y', a1, a2, a3, a4, a5, a6, a7, a8⟩ := h
                have hi' : i' = i := by omega
                have hj' : j' = j := by omega
                subst hi' hj'
                rw [hx] at a4
                rw [hy] at a5
                obtain rfl := Option.some.inj a4
                obtain rfl := Option.some.inj a5
                have he := CmpIs.one (by omega) (by omega) c2 a6
                rw [he] at hc
                exact hc ⟨a7, a8⟩
              · omega
      · have : j = D.length := by omega
        subst this
        refine Or.inr ⟨s, ?_, h0, h1, h2, h3⟩
        simp only [m_assessorref44_Pairs_lp2]
        rw [if_neg (by simp)]) (((i + 1 : Nat) : Int), s) ⟨i + 1, rfl, by omega, by omega, hs.1, hs.2.1, fun p => by
          rw [hs.2.2.1]
          constructor
          · rintro ⟨h, h'⟩
            have := h.ok hD
            exact ⟨h, by omega⟩
          · rintro ⟨h, h'⟩
            have := h.ok hD
            exact ⟨h, by omega⟩, by have := hs.2.2.2; simp only; omega⟩
    exact ⟨b, hb, hP⟩
  obtain ⟨b, hb, h0, h1, h2, h3⟩ := loopM_inv (body := fun s : Int × List Pair => m_assessorref44_Pairs_lp1 num den D s.1 s.2) (fun s => ∃ i : Nat, s.1 = i ∧ i ≤ D.length ∧ G i 0 s.2) (fun s => D.length - s.1.toNat) (fun b => G D.length 0 b) (by
    rintro ⟨i', s⟩ ⟨i, rfl, hi, hG⟩
    simp only at hG
    by_cases hil : i < D.length
    · obtain ⟨s', e1, e0, e2, e3, e4⟩ := inner i s hil hG
      refine Or.inl ⟨(((i + 1 : Nat) : Int), s'), ?_, ⟨i + 1, rfl, by omega, e0, e2, fun p => ?_, by simp only; omega⟩, by simp; omega⟩
      · simp only [m_assessorref44_Pairs_lp1]
        rw [if_pos (by simpa using hil), inK_succ (by omega)]
        simp only [Option.bind_some]
        rw [e1]
        rfl
      · simp only
        rw [e3]
        constructor
        · rintro ⟨h, h'⟩
          exact ⟨h, by omega⟩
        · rintro ⟨h, h'⟩
          have := h.ok hD
          exact ⟨h, by omega⟩
    · have : i = D.length := by omega
      subst this
      refine Or.inr ⟨s, ?_, hG⟩
      simp only [m_assessorref44_Pairs_lp1]
      rw [if_neg (by simp)]) (0, []) ⟨0, rfl, by omega, by simp, by simp, fun p => by
        constructor
        · intro h; cases h
        · rintro ⟨h, h'⟩; have := h.ok hD; omega, by simp⟩
  rw [hb]
  refine ⟨b, rfl, h0, h1, fun p => ?_⟩
  rw [h2]
  exact ⟨fun h => h.1, fun h => ⟨h, by have := h.ok hD; omega⟩⟩
theorem Pairs_bad {num den : Int} {D : List (List Mark)} (h : den < 1 ∨ 10000 < den ∨ num < 0 ∨ den < num) : m_similarity_Pairs num den D = some ([], 1) ∧ m_assessorref44_Pairs num den D = some ([], 1) := by
  unfold m_similarity_Pairs m_assessorref44_Pairs
  rw [if_pos (by simp; omega), if_pos (by simp; omega)]
  exact ⟨rfl, rfl⟩
theorem Pairs_large {num den : Int} {D : List (List Mark)} (h : 64 < D.length) : ∃ e, m_similarity_Pairs num den D = some ([], e) ∧ m_assessorref44_Pairs num den D = some ([], e) := by
  by_cases hb : den < 1 ∨ 10000 < den ∨ num < 0 ∨ den < num
  · exact ⟨1, Pairs_bad hb⟩
  · refine ⟨8, ?_⟩
    unfold m_similarity_Pairs m_assessorref44_Pairs
    rw [if_neg (by simp; omega), if_pos (by simp; omega), if_neg (by simp; omega), if_pos (by simp; omega)]
    exact ⟨rfl, rfl⟩
end Go.Proofs.Ytmfepkadggigpaa
