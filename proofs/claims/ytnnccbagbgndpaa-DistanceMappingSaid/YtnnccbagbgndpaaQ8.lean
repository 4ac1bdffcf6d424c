/-
  The distances of all pairs of subtrees, by number; the functions of the package that ask for them.
-/
import Derived.Test.YtnnccbagbgndpaaQ7
set_option linter.unusedVariables false
set_option linter.unusedSimpArgs false
namespace Go.Proofs.Ytnnccbagbgndpaa
open Go.RowKit
/-- Numbers: each once, each in reach. -/
structure Nums (ns : List Int) (N : Nat) : Prop where
  len : ns.length = N
  rng : ∀ x ∈ ns, 0 ≤ x ∧ x < (N : Int)
  nodup : ns.Nodup
theorem nums_of (n : Node) : Nums (numsN n 0) (cntN n) := ⟨nums_lenN n 0, fun x hx => by have := (nums_memN n 0 x).1 hx; omega, nums_nodupN n 0⟩
theorem Nums.inj {ns : List Int} {N : Nat} (h : Nums ns N) {s t : Nat} {x y : Int} (hs : ns[s]? = some x) (ht : ns[t]? = some y) (e : x.toNat = y.toNat) : s = t := by
  have h1 := h.rng x (List.mem_of_getElem? hs)
  have h2 := h.rng y (List.mem_of_getElem? ht)
  have : x = y := by omega
  subst this
  exact (List.getElem?_inj (List.getElem?_eq_some_iff.1 hs).1 h.nodup).1 (hs.trans ht.symm)
/-- What has been written out. -/
structure Wrote (D : List (List Int)) (ns ns' : List Int) (N N' i k : Nat) (out : List (List Int)) : Prop where
  dim : Dim out N N'
  val : ∀ s t x y d, ns[s]? = some x → ns'[t]? = some y → at2 D s t = some d → (s < i ∨ s = i ∧ t < k) → at2 out x.toNat y.toNat = some d
theorem Wrote.step {D : List (List Int)} {ns ns' : List Int} {N N' i k : Nat} {out : List (List Int)} (hn : Nums ns N) (hn' : Nums ns' N') (h : Wrote D ns ns' N N' i k out) {x y d d0 : Int} {r : List Int} (hx : ns[i]? = some x) (hy : ns'[k]? = some y) (hd : at2 D i k = some d)
    (hr : out[x.toNat]? = some r) (hd0 : r[y.toNat]? = some d0) : Wrote D ns ns' N N' i (k + 1) (out.set x.toNat (r.set y.toNat d)) := by
  refine ⟨h.dim.set hr d, fun s t x' y' d' hx' hy' hd' hst => ?_⟩
  rw [at2_set hr hd0]
  split
  · rename_i hh
    have e1 := hn.inj hx' hx hh.1
    have e2 := hn'.inj hy' hy hh.2
    subst e1; subst e2
    rw [hd] at hd'; exact hd'
  · rename_i hh
    refine h.val s t x' y' d' hx' hy' hd' ?_
    rcases hst with h1 | ⟨h1, h2⟩
    · exact Or.inl h1
    · subst h1
      refine Or.inr ⟨rfl, ?_⟩
      rcases Nat.lt_or_ge t k with h3 | h3
      · exact h3
      · have : t = k := by omega
        subst this
        rw [hx] at hx'; rw [hy] at hy'
        exact absurd ⟨by rw [Option.some.inj hx'], by rw [Option.some.inj hy']⟩ hh
theorem write_m {c0 c1 : DFlat} {D : List (List Int)} {N N' : Nat} (hN : N ≤ 100000) (hN' : N' ≤ 100000) (hD : Dim D N N') (hn : Nums c0.numbers N) (hn' : Nums c1.numbers N') {out : List (List Int)} (ho : Dim out N N') :
    ∃ out', loopM (fun s => m_distance_subtrees_lp3 c0 c1 D s.1 s.2) (0, out) = some out' ∧ Wrote D c0.numbers c1.numbers N N' N 0 out' := by
  refine loop_for (fun i s => s.1 = (i : Int) ∧ Wrote D c0.numbers c1.numbers N N' i 0 s.2) _ N 0 _ ⟨rfl, ho, fun s t x y d _ _ _ h => by omega⟩ ?_ ?_
  · rintro i ⟨z, out⟩ _ hi ⟨e, hw⟩
    simp only at e hw
    subst e
    obtain ⟨row, hrow⟩ := get_of_lt (l := D) (k := i) (by rw [hD.rows]; omega)
    have hrl := hD.cols row (List.mem_of_getElem? hrow)
    obtain ⟨x, hx⟩ := get_of_lt (l := c0.numbers) (k := i) (by rw [hn.len]; omega)
    have rx := hn.rng x (List.mem_of_getElem? hx)
    obtain ⟨o2, h2, hw2⟩ := loop_for (body := fun s => m_distance_subtrees_lp4 c0 c1 (i : Int) row s.1 s.2) (fun k s => s.1 = (k : Int) ∧ Wrote D c0.numbers c1.numbers N N' i k s.2) (fun o => Wrote D c0.numbers c1.numbers N N' (i + 1) 0 o) N' 0 (0, out) ⟨rfl, hw⟩
      (by
        rintro k ⟨z, out⟩ _ hk ⟨e, hw⟩
        simp only at e hw
        subst e
        obtain ⟨d, hd⟩ := get_of_lt (l := row) (k := k) (by rw [hrl]; omega)
        obtain ⟨y, hy⟩ := get_of_lt (l := c1.numbers) (k := k) (by rw [hn'.len]; omega)
        have ry := hn'.rng y (List.mem_of_getElem? hy)
        obtain ⟨r, v, a1, a2, _, _⟩ := hw.dim.get (s := x.toNat) (t := y.toNat) (by omega) (by omega)
        refine ⟨(((k + 1 : Nat) : Int), out.set x.toNat (r.set y.toNat d)), ?_, rfl, hw.step hn hn' hx hy (by unfold at2; rw [hrow]; exact hd) a1 a2⟩
        simp only [m_distance_subtrees_lp4]
        rw [if_pos (by simp [hrl]; omega), idx_nat hd]
        simp only [Option.bind_some]
        rw [idx_nat hx]
        simp only [Option.bind_some]
        rw [idx_of rx.1 a1]
        simp only [Option.bind_some]
        rw [idx_nat hy]
        simp only [Option.bind_some]
        rw [idx_of ry.1 a2]
        simp only [Option.bind_some]
        rw [inK_succ (by omega)]
        rfl)
      (by
        rintro ⟨z, out⟩ ⟨e, hw⟩
        simp only at e hw
        rw [Nat.zero_add] at e hw
        subst e
        refine ⟨out, ?_, hw.dim, fun s t x y d hx hy hd hst => hw.val s t x y d hx hy hd ?_⟩
        · simp only [m_distance_subtrees_lp4]
          rw [if_neg (by simp [hrl])]
        · have := (List.getElem?_eq_some_iff.1 hy).1
          rw [hn'.len] at this
          omega)
    refine ⟨(((i + 1 : Nat) : Int), o2), ?_, rfl, hw2⟩
    simp only [m_distance_subtrees_lp3]
    rw [if_pos (by simp [hD.rows]; omega), idx_nat hrow]
    simp only [Option.bind_some]
    rw [h2]
    simp only [Option.bind_some]
    rw [inK_succ (by omega)]
    rfl
  · rintro ⟨z, out⟩ ⟨e, hw⟩
    simp only at e hw
    rw [Nat.zero_add] at e hw
    subst e
    refine ⟨out, ?_, hw⟩
    simp only [m_distance_subtrees_lp3]
    rw [if_neg (by simp [hD.rows])]
/-- The distances by number. -/
structure SubOf (a b : Node) (out : List (List Int)) : Prop where
  dim : Dim out (cntN a) (cntN b)
  val : ∀ (s t : Nat) (u u' : Tr) (x y : Int), (po [toT a])[s]? = some u → (po [toT b])[t]? = some u' → (numsN a 0)[s]? = some x → (numsN b 0)[t]? = some y → at2 out x.toNat y.toNat = some ((fd [u] [u'] : Nat) : Int)
def td (a b : Node) : Nat := fd [toT a] [toT b]
theorem po_last (n : Node) : (po [toT n])[cntN n - 1]? = some (toT n) ∧ (numsN n 0)[cntN n - 1]? = some 0 := by
  have h := cntN_eq n
  rw [po_tree, numsN_eq]
  have hk : kidsT (toT n) = toR n.kids := by rw [toT_eq]; rfl
  rw [hk]
  have l1 : (po (toR n.kids)).length = cntL n.kids := by rw [po_len, sz_toR]
  have l2 : (numsL n.kids (0 + 1)).length = cntL n.kids := nums_lenL _ _
  constructor
  · rw [List.getElem?_append_right (by omega), l1]
    simp [show cntN n - 1 - cntL n.kids = 0 by omega]
  · rw [List.getElem?_append_right (by omega), l2]
    simp [show cntN n - 1 - cntL n.kids = 0 by omega]
theorem SubOf.top {a b : Node} {out : List (List Int)} (h : SubOf a b out) : ∃ r, idx out 0 = some r ∧ idx r 0 = some ((td a b : Nat) : Int) := by
  have ha := cntN_eq a
  have hb := cntN_eq b
  obtain ⟨r, v, h1, h2, h3, _⟩ := h.dim.get (s := 0) (t := 0) (by omega) (by omega)
  have := h.val _ _ _ _ _ _ (po_last a).1 (po_last b).1 (po_last a).2 (po_last b).2
  simp only [Int.toNat_zero] at this
  rw [h3] at this
  refine ⟨r, idx_nat (k := 0) h1, ?_⟩
  rw [show (0 : Int) = ((0 : Nat) : Int) from rfl, idx_nat h2, Option.some.inj this]; rfl
theorem subtrees_m (a b : Node) (ha : cntN a ≤ 100000) (hb : cntN b ≤ 100000) : ∃ out, m_distance_subtrees a b = some out ∧ SubOf a b out := by
  unfold m_distance_subtrees
  rw [flatten_m a ha]
  simp only [Option.bind_some]
  rw [flatten_m b hb]
  simp only [Option.bind_some]
  have h0 := arrOf a
  have h1 := arrOf b
  have sa := sz_toT a
  have sb := sz_toT b
  have na : Nums (DFlat.mk ((po [toT a]).map labT) (lefts 0 (po [toT a])) (numsN a 0)).numbers (cntN a) := nums_of a
  have nb : Nums (DFlat.mk ((po [toT b]).map labT) (lefts 0 (po [toT b])) (numsN b 0)).numbers (cntN b) := nums_of b
  have qa : ((po [toT a]).map labT).length = cntN a := by simp [po_lenT, sa]
  have qb : ((po [toT b]).map labT).length = cntN b := by simp [po_lenT, sb]
  have la : (DFlat.mk ((po [toT a]).map labT) (lefts 0 (po [toT a])) (numsN a 0)).labels.length = cntN a := by simp [po_lenT, sa]
  have lb : (DFlat.mk ((po [toT b]).map labT) (lefts 0 (po [toT b])) (numsN b 0)).labels.length = cntN b := by simp [po_lenT, sb]
  have ea : (DFlat.mk ((po [toT a]).map labT) (lefts 0 (po [toT a])) (numsN a 0)).numbers = numsN a 0 := rfl
  have eb : (DFlat.mk ((po [toT b]).map labT) (lefts 0 (po [toT b])) (numsN b 0)).numbers = numsN b 0 := rfl
  generalize DFlat.mk ((po [toT a]).map labT) (lefts 0 (po [toT a])) (numsN a 0) = c0 at *
  generalize DFlat.mk ((po [toT b]).map labT) (lefts 0 (po [toT b])) (numsN b 0) = c1 at *
  simp only [qa, qb]
  obtain ⟨D, hD, hdim, _⟩ := table_m (cntN a) (cntN b) (by omega) (by omega)
  rw [hD]
  simp only [Option.bind_some, m_distance_filler]
  obtain ⟨R, hR, hr, hrl⟩ := roots_m h0 (by omega)
  obtain ⟨R', hR', hr', hrl'⟩ := roots_m h1 (by omega)
  rw [hR]
  simp only [Option.bind_some]
  obtain ⟨D', hD', hdim', hval⟩ := pairs_m h0 h1 (by omega) (by omega) hr hr' hR' (by omega) (by omega) (by rw [sa, sb]; exact hdim)
  rw [hD']
  simp only [Option.bind_some]
  rw [sa, sb] at hdim'
  obtain ⟨out, ho, hw⟩ := write_m ha hb hdim' na nb hdim
  rw [ho]
  refine ⟨out, rfl, hw.dim, fun s t u u' x y hu hu' hx hy => ?_⟩
  refine hw.val s t x y _ (by rw [ea]; exact hx) (by rw [eb]; exact hy) (hval s t u u' hu hu') (Or.inl ?_)
  have := lt_at hu
  omega
theorem large1_m (n : Node) (h : cntN n ≤ 100000) : m_distance_large_1 n = some (decide (256 < cntN n)) := by
  unfold m_distance_large_1 m_count
  rw [if_pos (by omega)]
  simp only [Option.bind_some]
  congr 1
  exact decide_eq_decide.2 (by omega)
theorem large_m (l : List Node) (h : ∀ n ∈ l, cntN n ≤ 100000) (hl : l.length ≤ 100000) : m_distance_large l = some (l.any fun n => decide (256 < cntN n)) := by
  unfold m_distance_large m_slices_ContainsFunc_distance_large_1 m_slices_IndexFunc_distance_large_1
  rcases scan_loop (body := fun s => m_slices_IndexFunc_distance_large_1_lp1 l s) l (fun n => decide (256 < cntN n)) (fun k _ => Out.ret (k : Int)) (Out.brk ())
    (fun k n hk => by
      have := (List.getElem?_eq_some_iff.1 hk).1
      simp only [m_slices_IndexFunc_distance_large_1_lp1]
      rw [if_pos (by simp; omega), idx_nat hk]
      simp only [Option.bind_some]
      rw [large1_m n (h n (List.mem_of_getElem? hk))]
      simp only [Option.bind_some]
      split
      · rfl
      · rw [inK_succ (by omega)]; rfl)
    (by simp only [m_slices_IndexFunc_distance_large_1_lp1]; rw [if_neg (by simp)]) with ⟨k, n, _, _, _, h1, _, e⟩ | ⟨_, h1, _, e⟩
  · rw [e, h1]; simp
  · rw [e, h1]; simp
theorem not_large {l : List Node} (h : ∀ n ∈ l, cntN n ≤ 256) : (l.any fun n => decide (256 < cntN n)) = false := by
  rw [List.any_eq_false]
  intro n hn
  have := h n hn
  simp; omega
theorem Distance_m (a b : Node) (ha : cntN a ≤ 256) (hb : cntN b ≤ 256) : m_distance_Distance a b = some (((td a b : Nat) : Int), 0) := by
  unfold m_distance_Distance
  have h : ∀ n ∈ [a, b], cntN n ≤ 256 := by simp [ha, hb]
  rw [large_m _ (fun n hn => by have := h n hn; omega) (by simp), not_large h]
  obtain ⟨out, ho, hs⟩ := subtrees_m a b (by omega) (by omega)
  obtain ⟨r, h1, h2⟩ := hs.top
  simp only [Option.bind_some]
  rw [if_neg (by simp), ho]
  simp only [Option.bind_some]
  rw [h1]
  simp only [Option.bind_some]
  rw [h2]
  rfl
theorem Subtrees_m (a b : Node) (ha : cntN a ≤ 256) (hb : cntN b ≤ 256) : ∃ out, m_distance_Subtrees a b = some (out, 0) ∧ SubOf a b out := by
  unfold m_distance_Subtrees
  have h : ∀ n ∈ [a, b], cntN n ≤ 256 := by simp [ha, hb]
  rw [large_m _ (fun n hn => by have := h n hn; omega) (by simp), not_large h]
  obtain ⟨out, ho, hs⟩ := subtrees_m a b (by omega) (by omega)
  simp only [Option.bind_some]
  rw [if_neg (by simp), ho]
  exact ⟨out, rfl, hs⟩
theorem Within_m (a b : Node) (m : Int) (ha : cntN a ≤ 256) (hb : cntN b ≤ 256) : m_distance_Within a b m = some (decide (((td a b : Nat) : Int) ≤ m), 0) := by
  unfold m_distance_Within
  rw [Distance_m a b ha hb]
  simp

/-! ### Lists of trees -/
theorem subtree00 {a b : Node} (ha : cntN a ≤ 100000) (hb : cntN b ≤ 100000) : ∃ out r, m_distance_subtrees a b = some out ∧ idx out 0 = some r ∧ idx r 0 = some ((td a b : Nat) : Int) := by
  obtain ⟨out, ho, hs⟩ := subtrees_m a b ha hb
  obtain ⟨r, h1, h2⟩ := hs.top
  exact ⟨out, r, ho, h1, h2⟩
theorem td_comm (a b : Node) : td a b = td b a := fd_comm _ _
theorem td_self (a : Node) : td a a = 0 := fd_self _
/-- What the matrix holds so far. -/
structure Mat (l : List Node) (i k : Nat) (out : List (List Int)) : Prop where
  dim : Dim out l.length l.length
  val : ∀ (s t : Nat) (x y : Node), l[s]? = some x → l[t]? = some y → (s = t ∨ (s < i ∨ s = i ∧ t < k) ∧ t < s ∨ (t < i ∨ t = i ∧ s < k) ∧ s < t) → at2 out s t = some ((td x y : Nat) : Int)
theorem Matrix_m (l : List Node) (h : ∀ n ∈ l, cntN n ≤ 256) (hl : l.length ≤ 1024) : ∃ out, m_distance_Matrix l = some (out, 0) ∧ Dim out l.length l.length ∧ ∀ (s t : Nat) (x y : Node), l[s]? = some x → l[t]? = some y → at2 out s t = some ((td x y : Nat) : Int) := by
  unfold m_distance_Matrix
  rw [if_neg (by simp; omega), large_m l (fun n hn => by have := h n hn; omega) (by omega), not_large h]
  simp only [Option.bind_some]
  rw [if_neg (by simp)]
  obtain ⟨D, hD, hdim, hz⟩ := table_m l.length l.length (by omega) (by omega)
  rw [hD]
  simp only [Option.bind_some]
  obtain ⟨out, ho, hm⟩ := loop_for (body := fun s => m_distance_Matrix_lp1 l s.1 s.2) (fun i s => s.1 = (i : Int) ∧ Mat l i 0 s.2) (fun o => Mat l l.length 0 o) l.length 0 (0, D)
    ⟨rfl, hdim, fun s t x y hx hy hst => by
      have h1 := (List.getElem?_eq_some_iff.1 hx).1
      have h2 := (List.getElem?_eq_some_iff.1 hy).1
      have : s = t := by omega
      subst this
      rw [hx] at hy
      rw [← Option.some.inj hy, td_self]
      exact hz s s h1 h1⟩
    (by
      rintro i ⟨z, out⟩ _ hi ⟨e, hm⟩
      simp only at e hm
      subst e
      obtain ⟨x, hx⟩ := get_of_lt (l := l) (k := i) (by omega)
      obtain ⟨o2, h2, hm2⟩ := loop_for (body := fun s => m_distance_Matrix_lp2 l (i : Int) s.1 s.2) (fun k s => s.1 = (k : Int) ∧ Mat l i k s.2) (fun o => Mat l (i + 1) 0 o) i 0 (0, out) ⟨rfl, hm⟩
        (by
          rintro k ⟨z, out⟩ _ hk ⟨e, hm⟩
          simp only at e hm
          subst e
          obtain ⟨y, hy⟩ := get_of_lt (l := l) (k := k) (by omega)
          obtain ⟨ou, ro, e1, e2, e3⟩ := subtree00 (a := x) (b := y) (by have := h x (List.mem_of_getElem? hx); omega) (by have := h y (List.mem_of_getElem? hy); omega)
          obtain ⟨r, v, a1, a2, _, a4⟩ := hm.dim.get (s := i) (t := k) (by omega) (by omega)
          have d2 := hm.dim.set (t := k) a1 ((td x y : Nat) : Int)
          obtain ⟨r2, v2, b1, b2, _, b4⟩ := d2.get (s := k) (t := i) (by omega) (by omega)
          have c1 : (out.set i (r.set k ((td x y : Nat) : Int)))[i]? = some (r.set k ((td x y : Nat) : Int)) := List.getElem?_set_self (by rw [hm.dim.rows]; omega)
          have c2 : (r.set k ((td x y : Nat) : Int))[k]? = some ((td x y : Nat) : Int) := List.getElem?_set_self (by rw [a4]; omega)
          refine ⟨(((k + 1 : Nat) : Int), (out.set i (r.set k ((td x y : Nat) : Int))).set k (r2.set i ((td x y : Nat) : Int))), ?_, rfl, d2.set b1 _, fun s t x' y' hx' hy' hst => ?_⟩
          · simp only [m_distance_Matrix_lp2]
            rw [if_pos (by simp; omega), idx_nat a1]
            simp only [Option.bind_some]
            rw [idx_nat hx]
            simp only [Option.bind_some]
            rw [idx_nat hy]
            simp only [Option.bind_some]
            rw [e1]
            simp only [Option.bind_some]
            rw [e2]
            simp only [Option.bind_some]
            rw [e3]
            simp only [Option.bind_some]
            rw [idx_nat a2]
            simp only [Option.bind_some, Int.toNat_natCast]
            rw [idx_nat b1]
            simp only [Option.bind_some]
            rw [idx_nat c1]
            simp only [Option.bind_some]
            rw [idx_nat c2]
            simp only [Option.bind_some]
            rw [idx_nat b2]
            simp only [Option.bind_some]
            rw [inK_succ (by omega)]
            rfl
          · rw [at2_set b1 b2]
            split
            · rename_i hh
              obtain ⟨rfl, rfl⟩ := hh
              rw [hx] at hy'; rw [hy] at hx'
              rw [← Option.some.inj hx', ← Option.some.inj hy', td_comm]
            · rename_i hh
              rw [at2_set a1 a2]
              split
              · rename_i hh2
                obtain ⟨rfl, rfl⟩ := hh2
                rw [hx] at hx'; rw [hy] at hy'
                rw [← Option.some.inj hx', ← Option.some.inj hy']
              · rename_i hh2
                exact hm.val s t x' y' hx' hy' (by omega))
        (by
          rintro ⟨z, out⟩ ⟨e, hm⟩
          simp only at e hm
          rw [Nat.zero_add] at e hm
          subst e
          refine ⟨out, ?_, hm.dim, fun s t x' y' hx' hy' hst => hm.val s t x' y' hx' hy' (by omega)⟩
          simp only [m_distance_Matrix_lp2]
          rw [if_neg (by simp)])
      refine ⟨(((i + 1 : Nat) : Int), o2), ?_, rfl, hm2⟩
      simp only [m_distance_Matrix_lp1]
      rw [if_pos (by simp; omega), h2]
      simp only [Option.bind_some]
      rw [inK_succ (by omega)]
      rfl)
    (by
      rintro ⟨z, out⟩ ⟨e, hm⟩
      simp only at e hm
      rw [Nat.zero_add] at e hm
      subst e
      refine ⟨out, ?_, hm⟩
      simp only [m_distance_Matrix_lp1]
      rw [if_neg (by simp)])
  rw [ho]
  refine ⟨out, rfl, hm.dim, fun s t x y hx hy => hm.val s t x y hx hy ?_⟩
  have h1 := (List.getElem?_eq_some_iff.1 hx).1
  have h2 := (List.getElem?_eq_some_iff.1 hy).1
  omega
/-- The first of the least. -/
structure Near (a : Node) (l : List Node) (k : Nat) (i d : Int) : Prop where
  zero : k = 0 → i = 0 ∧ d = -1
  pos : 0 < k → ∃ (j : Nat) (x : Node), j < k ∧ l[j]? = some x ∧ i = (j : Int) ∧ d = ((td a x : Nat) : Int) ∧ (∀ (t : Nat) (y : Node), t < k → l[t]? = some y → td a x ≤ td a y) ∧ ∀ (t : Nat) (y : Node), t < j → l[t]? = some y → td a x < td a y
theorem Near.uniq {a : Node} {l : List Node} {k : Nat} {i d i' d' : Int} (h : Near a l k i d) (h' : Near a l k i' d') : i = i' ∧ d = d' := by
  rcases Nat.eq_zero_or_pos k with h0 | h0
  · have a1 := h.zero h0
    have a2 := h'.zero h0
    omega
  · obtain ⟨j, x, h1, h2, h3, h4, h5, h6⟩ := h.pos h0
    obtain ⟨j', x', g1, g2, g3, g4, g5, g6⟩ := h'.pos h0
    have c1 := h5 j' x' g1 g2
    have c2 := g5 j x h1 h2
    rcases Nat.lt_trichotomy j j' with h | h | h
    · have := g6 j x h h2; omega
    · subst h; omega
    · have := h6 j' x' h g2; omega
theorem Near.step {a : Node} {l : List Node} {k : Nat} {i d : Int} (h : Near a l k i d) {x : Node} (hx : l[k]? = some x) :
    if d < 0 ∨ ((td a x : Nat) : Int) < d then Near a l (k + 1) (k : Int) ((td a x : Nat) : Int) else Near a l (k + 1) i d := by
  split
  · rename_i hc
    refine ⟨fun e => by omega, fun _ => ⟨k, x, by omega, hx, rfl, rfl, fun t y ht hy => ?_, fun t y ht hy => ?_⟩⟩
    · rcases Nat.lt_or_ge t k with h1 | h1
      · obtain ⟨j, x2, c1, c2, c3, c4, c5, c6⟩ := h.pos (by omega)
        have := c5 t y h1 hy
        omega
      · have : t = k := by omega
        subst this
        rw [hx] at hy
        rw [Option.some.inj hy]; exact Nat.le_refl _
    · obtain ⟨j, x2, c1, c2, c3, c4, c5, c6⟩ := h.pos (by omega)
      have := c5 t y ht hy
      omega
  · rename_i hc
    refine ⟨fun e => by omega, fun _ => ?_⟩
    have hk : 0 < k := by
      rcases Nat.eq_zero_or_pos k with h0 | h0
      · have := h.zero h0; omega
      · exact h0
    obtain ⟨j, x2, c1, c2, c3, c4, c5, c6⟩ := h.pos hk
    refine ⟨j, x2, by omega, c2, c3, c4, fun t y ht hy => ?_, c6⟩
    rcases Nat.lt_or_ge t k with h1 | h1
    · exact c5 t y h1 hy
    · have : t = k := by omega
      subst this
      rw [hx] at hy
      rw [← Option.some.inj hy]; omega
theorem Nearest_m (a : Node) (l : List Node) (ha : cntN a ≤ 256) (h : ∀ n ∈ l, cntN n ≤ 256) (hl : l.length ≤ 1024) :
    (l = [] ∧ m_distance_Nearest a l = some (0, 0, 7)) ∨ (l ≠ [] ∧ ∃ i d, m_distance_Nearest a l = some (i, d, 0) ∧ Near a l l.length i d) := by
  unfold m_distance_Nearest
  rw [if_neg (by simp; omega), large_m [a] (fun n hn => by simp at hn; subst hn; omega) (by simp), not_large (l := [a]) (fun n hn => by simp at hn; subst hn; exact ha)]
  simp only [Option.bind_some]
  rw [if_neg (by simp), large_m l (fun n hn => by have := h n hn; omega) (by omega), not_large h]
  simp only [Option.bind_some]
  rw [if_neg (by simp)]
  by_cases h0 : l = []
  · left
    refine ⟨h0, ?_⟩
    rw [if_pos (by simp [h0])]
  · right
    refine ⟨h0, ?_⟩
    rw [if_neg (by simpa using h0)]
    obtain ⟨r, hr, hn⟩ := loop_for (body := fun s => m_distance_Nearest_lp1 a l s.1 s.2.1 s.2.2) (fun k s => s.2.2 = (k : Int) ∧ Near a l k s.1 s.2.1) (fun r => Near a l l.length r.1 r.2) l.length 0 (0, -1, 0) ⟨rfl, fun _ => ⟨rfl, rfl⟩, fun h => by omega⟩
      (by
        rintro k ⟨i, d, z⟩ _ hk ⟨e, hn⟩
        simp only at e hn
        subst e
        obtain ⟨x, hx⟩ := get_of_lt (l := l) (k := k) (by omega)
        obtain ⟨ou, ro, e1, e2, e3⟩ := subtree00 (a := a) (b := x) (by omega) (by have := h x (List.mem_of_getElem? hx); omega)
        have hs := hn.step hx
        have hbody : m_distance_Nearest_lp1 a l i d (k : Int) = if d < 0 ∨ ((td a x : Nat) : Int) < d then some (.next ((k : Int), ((td a x : Nat) : Int), ((k + 1 : Nat) : Int))) else some (.next (i, d, ((k + 1 : Nat) : Int))) := by
          simp only [m_distance_Nearest_lp1]
          rw [if_pos (by simp; omega), idx_nat hx]
          simp only [Option.bind_some]
          rw [e1]
          simp only [Option.bind_some]
          rw [e2]
          simp only [Option.bind_some]
          rw [e3]
          simp only [Option.bind_some]
          rw [inK_succ (by omega)]
          by_cases hc : d < 0 ∨ ((td a x : Nat) : Int) < d
          · rw [if_pos hc, if_pos (by simpa using hc)]; rfl
          · rw [if_neg hc, if_neg (by simpa using hc)]; rfl
        simp only
        rw [hbody]
        by_cases hc : d < 0 ∨ ((td a x : Nat) : Int) < d
        · rw [if_pos hc] at hs ⊢
          exact ⟨_, rfl, rfl, hs⟩
        · rw [if_neg hc] at hs ⊢
          exact ⟨_, rfl, rfl, hs⟩)
      (by
        rintro ⟨i, d, z⟩ ⟨e, hn⟩
        simp only at e hn
        rw [Nat.zero_add] at e hn
        subst e
        refine ⟨(i, d), ?_, hn⟩
        simp only [m_distance_Nearest_lp1]
        rw [if_neg (by simp)])
    rw [hr]
    exact ⟨_, _, rfl, hn⟩
end Go.Proofs.Ytnnccbagbgndpaa
