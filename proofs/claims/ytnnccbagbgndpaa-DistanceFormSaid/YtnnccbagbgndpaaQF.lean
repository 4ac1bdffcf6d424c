/-
  The reference: its arrays, its tables, its distances by number.
-/
import Derived.Test.YtnnccbagbgndpaaQA
import Derived.Test.YtnnccbagbgndpaaRBM
set_option linter.unusedVariables false
set_option linter.unusedSimpArgs false
namespace Go.Proofs.Ytnnccbagbgndpaa
open Go.RowKit
theorem rwalk_m : ∀ (f : Nat) (n : Node), SizeOf.sizeOf n < f → ∀ (c B : Nat) (g : RFlat), g.kinds.length = B → g.texts.length = B → g.left.length = B → g.numbers.length = B → B + cntN n ≤ 100000 → c + cntN n ≤ 100000 →
    m_assessorref37_flat_r f g n (c : Int) = some ⟨g.kinds ++ (po [toT n]).map (fun u => (labT u).kind), g.texts ++ (po [toT n]).map (fun u => (labT u).text), g.left ++ lefts B (po [toT n]), g.numbers ++ numsN n c⟩ := by
  intro f
  induction f with
  | zero => intro n h; omega
  | succ f ih =>
    intro n hsz c B g h0 h1 h2 h3 hB hc
    have hcnt := cntN_eq n
    unfold m_assessorref37_flat_r m_assessorref37_flat_body
    rw [inK_succ (by omega)]
    simp only [Option.bind_some]
    refine bind_loop (fun i => (((c + 1 + cntL (n.kids.take i) : Nat) : Int), (i : Int), g.kinds ++ (po (toR (n.kids.take i))).map (fun u => (labT u).kind), g.texts ++ (po (toR (n.kids.take i))).map (fun u => (labT u).text), g.left ++ lefts B (po (toR (n.kids.take i))), g.numbers ++ numsL (n.kids.take i) (c + 1))) n.kids.length
      (g.kinds ++ (po (toR n.kids)).map (fun u => (labT u).kind), g.texts ++ (po (toR n.kids)).map (fun u => (labT u).text), g.left ++ lefts B (po (toR n.kids)), g.numbers ++ numsL n.kids (c + 1)) ?_ ?_ ?_ ?_
    · simp [toR_nil, po_nil, lefts, numsL, cntL]
    · intro i hi
      obtain ⟨x, hx⟩ := get_of_lt hi
      have e1 := cntL_take hx
      have e2 := cntL_le n.kids (i + 1)
      have e4 := cntL_len n.kids
      simp only [m_assessorref37_flat_body_lp1]
      rw [if_pos (by simp; omega), idx_nat hx]
      simp only [Option.bind_some]
      rw [ih x (by have := node_sz hx; omega) (c + 1 + cntL (n.kids.take i)) (B + cntL (n.kids.take i)) _ (by simp [po_len, sz_toR, h0]) (by simp [po_len, sz_toR, h1]) (by simp [lefts_len, po_len, sz_toR, h2]) (by simp [nums_lenL, h3]) (by omega) (by omega)]
      simp only [Option.bind_some]
      rw [Count_m x (by omega)]
      simp only [Option.bind_some]
      rw [inK_eq (by omega)]
      simp only [Option.bind_some]
      rw [inK_succ (by omega)]
      simp only [Option.bind_some]
      rw [toR_take hx, po_cons (toT x) (toR (n.kids.take i)), numsL_take hx, List.map_append, List.map_append, lefts_app, po_len, sz_toR, e1]
      simp only [List.append_assoc]
      congr 3
      omega
    · simp only [m_assessorref37_flat_body_lp1]
      rw [if_neg (by simp), List.take_of_length_le (Nat.le_refl _)]
    · have l0 : (g.kinds ++ (po (toR n.kids)).map (fun u => (labT u).kind)).length = B + cntL n.kids := by simp [po_len, sz_toR, h0]
      have l1 : (g.texts ++ (po (toR n.kids)).map (fun u => (labT u).text)).length = B + cntL n.kids := by simp [po_len, sz_toR, h1]
      have l2 : (g.left ++ lefts B (po (toR n.kids))).length = B + cntL n.kids := by simp [lefts_len, po_len, sz_toR, h2]
      have l3 : (g.numbers ++ numsL n.kids (c + 1)).length = B + cntL n.kids := by simp [nums_lenL, h3]
      simp only
      rw [app_ok (by rw [l0]; simp; omega)]
      simp only [Option.bind_some]
      rw [app_ok (by rw [l1]; simp; omega)]
      simp only [Option.bind_some]
      rw [app_ok (by rw [l2]; simp; omega)]
      simp only [Option.bind_some]
      rw [app_ok (by rw [l3]; simp; omega)]
      simp only [Option.bind_some]
      have e3 := sz_toT n
      rw [po_tree, lefts_app, po_len, toT_eq, numsN_eq]
      simp only [kidsT, labT, List.map_append, List.map_cons, List.map_nil, List.append_assoc, lefts]
      rw [← toT_eq, e3, sz_toR, h0]
      congr 5
      omega
def rOf (n : Node) : RFlat := ⟨(po [toT n]).map (fun u => (labT u).kind), (po [toT n]).map (fun u => (labT u).text), lefts 0 (po [toT n]), numsN n 0⟩
theorem rflat_m (n : Node) (h : cntN n ≤ 100000) : m_assessorref37_flat (RFlat.mk [] [] [] []) n 0 = some (rOf n) := by
  unfold m_assessorref37_flat
  have := rwalk_m (SizeOf.sizeOf n + 1) n (by omega) 0 0 ⟨[], [], [], []⟩ rfl rfl rfl rfl (by omega) (by omega)
  simp only [List.nil_append] at this
  rw [show ((0 : Nat) : Int) = 0 from rfl] at this
  rw [this]; rfl
/-- The reference's arrays of a tree. -/
structure RArr (c : RFlat) (T : Tr) : Prop where
  kinds : ∀ (s : Nat) (u : Tr), (po [T])[s]? = some u → c.kinds[s]? = some (labT u).kind
  texts : ∀ (s : Nat) (u : Tr), (po [T])[s]? = some u → c.texts[s]? = some (labT u).text
  left : ∀ (s : Nat), s < szT T → c.left[s]? = some ((lf T s : Nat) : Int)
  klen : c.kinds.length = szT T
theorem rArr (n : Node) : RArr (rOf n) (toT n) := by
  refine ⟨fun s u h => ?_, fun s u h => ?_, (arrOf n).left, ?_⟩
  · show ((po [toT n]).map _)[s]? = _
    rw [List.getElem?_map, h]; rfl
  · show ((po [toT n]).map _)[s]? = _
    rw [List.getElem?_map, h]; rfl
  · show ((po [toT n]).map _).length = _
    rw [List.length_map, po_lenT]
theorem rtable_m (N M : Nat) (hN : N ≤ 4294967296) (hM : M ≤ 4294967296) : ∃ D, m_assessorref37_table (N : Int) (M : Int) = some D ∧ Dim D N M ∧ ∀ s t, s < N → t < M → at2 D s t = some 0 := by
  unfold m_assessorref37_table
  obtain ⟨D, hD, hp⟩ := loop_for (body := fun s => m_assessorref37_table_lp1 (N : Int) (M : Int) s.1 s.2) (fun k s => s.1 = (k : Int) ∧ s.2 = List.replicate k (List.replicate M 0)) (fun D => D = List.replicate N (List.replicate M 0)) N 0 (0, []) ⟨rfl, rfl⟩
    (by
      rintro k ⟨i, D⟩ _ hk ⟨e, hl⟩
      simp only at e hl
      subst e; subst hl
      refine ⟨((k + 1 : Nat), List.replicate (k + 1) (List.replicate M 0)), ?_, rfl, rfl⟩
      simp only [m_assessorref37_table_lp1]
      rw [if_pos (by simp; omega), mkc_ok (by omega)]
      simp only [Option.bind_some, Int.toNat_natCast]
      rw [app_ok (by simp; omega)]
      simp only [Option.bind_some]
      rw [inK_succ (by omega), List.replicate_succ']
      rfl)
    (by
      rintro ⟨i, D⟩ ⟨e, hl⟩
      simp only at e hl
      rw [Nat.zero_add] at e hl
      subst e; subst hl
      refine ⟨_, ?_, rfl⟩
      simp only [m_assessorref37_table_lp1]
      rw [if_neg (by simp)])
  rw [hD]
  subst hp
  refine ⟨_, rfl, ⟨by simp, fun r hr => by rw [List.eq_of_mem_replicate hr]; simp⟩, fun s t hs ht => ?_⟩
  unfold at2
  simp [hs, ht]
section
variable {c0 c1 : RFlat} {T T' ti tk : Tr} {i k : Nat}
theorem rinner_m (h0 : RArr c0 T) (h1 : RArr c1 T') (hT : szT T ≤ 100000) (hT' : szT T' ≤ 100000) (hi : (po [T])[i]? = some ti) (hk : (po [T'])[k]? = some tk) {D : List (List Int)}
    (need : ∀ s t u u', i + 1 - szT ti ≤ s → s ≤ i → k + 1 - szT tk ≤ t → t ≤ k → (po [T])[s]? = some u → (po [T'])[t]? = some u' → ¬ (lf T s = i + 1 - szT ti ∧ lf T' t = k + 1 - szT tk) → at2 D s t = some ((fd [u] [u'] : Nat) : Int))
    {x y : Nat} (hx : x < szT ti) (hy : y < szT tk) {f D' : List (List Int)} (hf : FI ti tk x y f) (hd : DI T T' (i + 1 - szT ti) (k + 1 - szT tk) (szT tk) x y D D') :
    ∃ f2 D2, m_assessorref37_forests_lp4 c0 c1 (k : Int) ((i + 1 - szT ti : Nat) : Int) ((k + 1 - szT tk : Nat) : Int) ((x + 1 : Nat) : Int) ((y + 1 : Nat) : Int) f D' = some (.next (((y + 1 + 1 : Nat) : Int), f2, D2)) ∧ FI ti tk x (y + 1) f2 ∧ DI T T' (i + 1 - szT ti) (k + 1 - szT tk) (szT tk) x (y + 1) D D2 := by
  have hsi := (po_seg [T] hi).1
  have hsk := (po_seg [T'] hk).1
  have hiT := lt_at hi
  have hkT := lt_at hk
  generalize hp : i + 1 - szT ti = p at *
  generalize hq : k + 1 - szT tk = q at *
  obtain ⟨u, hu⟩ := get_of_lt (l := po [ti]) (k := x) (by rw [po_lenT]; exact hx)
  obtain ⟨u', hu'⟩ := get_of_lt (l := po [tk]) (k := y) (by rw [po_lenT]; exact hy)
  have hA : (po [T])[p + x]? = some u := by rw [← hp, ← sub_at hi hx]; exact hu
  have hB : (po [T'])[q + y]? = some u' := by rw [← hq, ← sub_at hk hy]; exact hu'
  have su := (po_seg [ti] hu).1
  have su' := (po_seg [tk] hu').1
  have pu := szT_pos u
  have pu' := szT_pos u'
  have eA := lf_at hA
  have eB := lf_at hB
  have hcell := fd_fr ti tk hx hy hu hu'
  obtain ⟨r1, v1, a1, a2, a3, _⟩ := hf.dim.get (s := x) (t := y + 1) (by omega) (by omega)
  obtain ⟨r2, v2, b1, b2, b3, b4⟩ := hf.dim.get (s := x + 1) (t := y) (by omega) (by omega)
  obtain ⟨r4, v4, d1, d2, d3, _⟩ := hf.dim.get (s := x + 1) (t := y + 1) (by omega) (by omega)
  rw [b1] at d1
  obtain rfl := Option.some.inj d1
  have e1 : v1 = ((fd (fr ti x) (fr tk (y + 1)) : Nat) : Int) := by
    have := hf.val x (y + 1) (by omega) (by omega) (Or.inl (Nat.le_refl _)); rw [a3] at this; exact Option.some.inj this
  have e2 : v2 = ((fd (fr ti (x + 1)) (fr tk y) : Nat) : Int) := by
    have := hf.val (x + 1) y (by omega) (by omega) (Or.inr (Or.inr ⟨rfl, Nat.le_refl _⟩)); rw [b3] at this; exact Option.some.inj this
  have s1 := fd_small ti tk (x := x) (y := y + 1) (by omega) (by omega)
  have s2 := fd_small ti tk (x := x + 1) (y := y) (by omega) (by omega)
  have s3 := fd_small ti tk (x := x) (y := y) (by omega) (by omega)
  have hk0 := h0.kinds _ _ hA
  have ht0 := h0.texts _ _ hA
  have hk1 := h1.kinds _ _ hB
  have ht1 := h1.texts _ _ hB
  have hl0 := h0.left (p + x) (by omega)
  have hl1 := h1.left (q + y) (by omega)
  have fin : ∀ v : Int, v = ((fd (fr ti (x + 1)) (fr tk (y + 1)) : Nat) : Int) → FI ti tk x (y + 1) (f.set (x + 1) (r2.set (y + 1) v)) := by
    intro v hv
    refine ⟨hf.dim.set b1 v, fun x' y' h1 h2 h3 => ?_⟩
    rw [at2_set b1 d2]
    split
    · rename_i hh; obtain ⟨rfl, rfl⟩ := hh; rw [hv]
    · rename_i hh
      refine hf.val x' y' h1 h2 ?_
      rcases h3 with h3 | h3 | ⟨h3, h4⟩
      · exact Or.inl h3
      · exact Or.inr (Or.inl h3)
      · refine Or.inr (Or.inr ⟨h3, ?_⟩)
        have : ¬ y' = y + 1 := fun e => hh ⟨h3, e⟩
        omega
  have ex0 : ((x + 1 : Nat) : Int) - 1 = (x : Int) := by omega
  have ey0 : ((y + 1 : Nat) : Int) - 1 = (y : Int) := by omega
  have es : (p : Int) + ((x + 1 : Nat) : Int) - 1 = ((p + x : Nat) : Int) := by omega
  have et : (q : Int) + ((y + 1 : Nat) : Int) - 1 = ((q + y : Nat) : Int) := by omega
  simp only [m_assessorref37_forests_lp4]
  rw [inK_eq (by omega)]
  simp only [Option.bind_some]
  rw [inK_eq (by omega)]
  simp only [Option.bind_some]
  rw [if_pos (by rw [decide_eq_true_eq]; omega)]
  rw [inK_eq (by omega)]
  simp only [Option.bind_some]
  rw [inK_eq (by omega)]
  simp only [Option.bind_some]
  rw [inK_eq (by omega)]
  simp only [Option.bind_some]
  rw [inK_eq (by omega)]
  simp only [Option.bind_some]
  rw [inK_eq (by omega)]
  simp only [Option.bind_some]
  rw [es, et, ex0, idx_nat a1]
  simp only [Option.bind_some]
  rw [idx_nat a2]
  simp only [Option.bind_some]
  rw [idx_nat b1]
  simp only [Option.bind_some]
  rw [inK_eq (by omega), ey0]
  simp only [Option.bind_some]
  rw [idx_nat b2]
  simp only [Option.bind_some]
  rw [inK_eq (by omega)]
  simp only [Option.bind_some]
  rw [idx_nat hl0]
  simp only [Option.bind_some]
  have hcond : ((if decide (((lf T (p + x) : Nat) : Int) = (p : Int)) = true then (idx c1.left ((q + y : Nat) : Int)).bind fun x34 => some (decide (x34 = (q : Int))) else some false) : Option Bool) = some (decide (szT u = x + 1 ∧ szT u' = y + 1)) := by
    rw [idx_nat hl1]
    simp only [Option.bind_some]
    rw [eA, eB]
    by_cases g1 : szT u = x + 1
    · rw [if_pos (by rw [decide_eq_true_eq]; omega)]
      congr 1
      exact decide_eq_decide.2 (by omega)
    · rw [if_neg (by rw [decide_eq_true_eq]; omega), decide_eq_false (by omega)]
  rw [hcond]
  simp only [Option.bind_some]
  by_cases hb : szT u = x + 1 ∧ szT u' = y + 1
  · rw [if_pos (by simp [hb])]
    rw [if_pos hb] at hcell
    obtain ⟨r3, v3, c1', c2', c3', _⟩ := hf.dim.get (s := x) (t := y) (by omega) (by omega)
    have e3 : v3 = ((fd (fr ti x) (fr tk y) : Nat) : Int) := by
      have := hf.val x y (by omega) (by omega) (Or.inl (Nat.le_refl _)); rw [c3'] at this; exact Option.some.inj this
    obtain ⟨rd, vd, g1, g2, g3, _⟩ := hd.dim.get (s := p + x) (t := q + y) (by omega) (by omega)
    rw [a1] at c1'
    obtain rfl := Option.some.inj c1'
    rw [idx_nat c2']
    simp only [Option.bind_some]
    rw [idx_nat hk0, idx_nat hk1]
    simp only [Option.bind_some]
    have hj : (((if (!decide ((labT u).kind = (labT u').kind)) = true then some true else (idx c0.texts ((p + x : Nat) : Int)).bind fun x41 => (idx c1.texts ((q + y : Nat) : Int)).bind fun x42 => some (!decide (x41 = x42))) : Option Bool).bind fun m2 => ((if m2 = true then (inK .i64 (v3 + 1)).bind fun x43 => some x43 else some v3) : Option Int)) = some (v3 + ((rl (labT u) (labT u') : Nat) : Int)) := by
      rw [idx_nat ht0, idx_nat ht1]
      simp only [Option.bind_some]
      rw [inK_eq (by omega)]
      unfold rl
      generalize labT u = A
      generalize labT u' = B
      obtain ⟨ka, ta⟩ := A
      obtain ⟨kb, tb⟩ := B
      by_cases h1 : ka = kb
      · by_cases h2 : ta = tb
        · simp [h1, h2]
        · simp [h1, h2]
      · simp [h1]
    have hjj : ∀ (G : Int → Option (Int × List (List Int))), ((((if (!decide ((labT u).kind = (labT u').kind)) = true then some true else (idx c0.texts ((p + x : Nat) : Int)).bind fun x41 => (idx c1.texts ((q + y : Nat) : Int)).bind fun x42 => some (!decide (x41 = x42))) : Option Bool).bind fun m2 => ((if m2 = true then (inK .i64 (v3 + 1)).bind fun x43 => some x43 else some v3) : Option Int).bind G)) = G (v3 + ((rl (labT u) (labT u') : Nat) : Int)) := fun G => by
      rw [← Option.bind_assoc, hj]; rfl
    rw [hjj]
    rw [idx_nat g1]
    simp only [Option.bind_some]
    rw [idx_nat g2]
    simp only [Option.bind_some, Int.toNat_natCast]
    have hv : min (min v1 v2 + 1) (v3 + ((rl (labT u) (labT u') : Nat) : Int)) = ((fd (fr ti (x + 1)) (fr tk (y + 1)) : Nat) : Int) := by rw [hcell, e1, e2, e3]; omega
    rw [hv]
    rw [idx_nat d2]
    simp only [Option.bind_some]
    rw [inK_eq (by omega)]
    simp only [Option.bind_some]
    refine ⟨_, _, by rw [show ((y + 1 : Nat) : Int) + 1 = ((y + 1 + 1 : Nat) : Int) by omega], fin _ rfl, ?_⟩
    have hfull : fd (fr ti (x + 1)) (fr tk (y + 1)) = fd [u] [u'] := by
      have z1 := (fr_succ ti hx hu).2.1
      have z2 := (fr_succ tk hy hu').2.1
      rw [hb.1, Nat.sub_self, fr_zero] at z1
      rw [hb.2, Nat.sub_self, fr_zero] at z2
      rw [z1, z2]
    refine ⟨hd.dim.set g1 _, fun s t w w' hw hw' hc l1 l2 => ?_, fun s t hn => ?_⟩
    · rw [at2_set g1 g2]
      split
      · rename_i hh
        obtain ⟨rfl, rfl⟩ := hh
        rw [hA] at hw; rw [hB] at hw'
        rw [← Option.some.inj hw, ← Option.some.inj hw', hfull]
      · rename_i hh
        refine hd.new s t w w' hw hw' ?_ l1 l2
        unfold come at hc ⊢
        omega
    · rw [at2_set g1 g2]
      split
      · rename_i hh
        exfalso
        apply hn
        obtain ⟨rfl, rfl⟩ := hh
        refine ⟨?_, by rw [eA]; omega, by rw [eB]; omega⟩
        unfold come; omega
      · rename_i hh
        refine hd.old s t fun h3 => hn ⟨?_, h3.2⟩
        have := h3.1
        unfold come at this ⊢
        omega
  · rw [if_neg (by simp [hb])]
    rw [if_neg hb] at hcell
    obtain ⟨r3, v3, c1', c2', c3', _⟩ := hf.dim.get (s := x + 1 - szT u) (t := y + 1 - szT u') (by omega) (by omega)
    have e3 : v3 = ((fd (fr ti (x + 1 - szT u)) (fr tk (y + 1 - szT u')) : Nat) : Int) := by
      have := hf.val (x + 1 - szT u) (y + 1 - szT u') (by omega) (by omega) (Or.inl (by omega)); rw [c3'] at this; exact Option.some.inj this
    obtain ⟨rd, vd, g1, g2, g3, _⟩ := hd.dim.get (s := p + x) (t := q + y) (by omega) (by omega)
    have e4 : vd = ((fd [u] [u'] : Nat) : Int) := by
      have h5 := hd.old (p + x) (q + y) (fun h => by have := h.1; unfold come at this; omega)
      have h6 := need (p + x) (q + y) u u' (by omega) (by omega) (by omega) (by omega) hA hB (fun h => hb (by rw [eA, eB] at h; omega))
      rw [h6, g3] at h5
      exact Option.some.inj h5
    have s4 := fd_small ti tk (x := x + 1 - szT u) (y := y + 1 - szT u') (by omega) (by omega)
    have s5 : fd [u] [u'] ≤ szT u + szT u' := by
      have h := fd_app [u] [] [] [u']
      simp only [List.append_nil, List.nil_append] at h
      rw [fd_l0, fd_r0, szL_one, szL_one] at h
      exact h
    rw [inK_eq (by rw [eA]; omega)]
    simp only [Option.bind_some]
    rw [show ((lf T (p + x) : Nat) : Int) - (p : Int) = ((x + 1 - szT u : Nat) : Int) by rw [eA]; omega, idx_nat c1']
    simp only [Option.bind_some]
    rw [idx_nat hl1]
    simp only [Option.bind_some]
    rw [inK_eq (by rw [eB]; omega)]
    simp only [Option.bind_some]
    rw [show ((lf T' (q + y) : Nat) : Int) - (q : Int) = ((y + 1 - szT u' : Nat) : Int) by rw [eB]; omega, idx_nat c2']
    simp only [Option.bind_some]
    rw [idx_nat g1]
    simp only [Option.bind_some]
    rw [idx_nat g2]
    simp only [Option.bind_some]
    rw [inK_eq (by omega)]
    simp only [Option.bind_some]
    rw [idx_nat d2]
    simp only [Option.bind_some, Int.toNat_natCast]
    rw [inK_eq (by omega)]
    simp only [Option.bind_some]
    refine ⟨_, _, by rw [show ((y + 1 : Nat) : Int) + 1 = ((y + 1 + 1 : Nat) : Int) by omega], fin _ (by rw [hcell, e1, e2, e3, e4]; omega), ?_⟩
    refine ⟨hd.dim, fun s t w w' hw hw' hc l1 l2 => ?_, fun s t hn => ?_⟩
    · refine hd.new s t w w' hw hw' ?_ l1 l2
      have : ¬ (s = p + x ∧ t = q + y) := fun h => by
        obtain ⟨rfl, rfl⟩ := h
        rw [eA] at l1; rw [eB] at l2
        exact hb (by omega)
      unfold come at hc ⊢
      omega
    · refine hd.old s t fun h3 => hn ⟨?_, h3.2⟩
      have := h3.1
      unfold come at this ⊢
      omega
end
end Go.Proofs.Ytnnccbagbgndpaa
