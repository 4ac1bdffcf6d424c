/-
  The tables of two subtrees are filled in: what they hold.
-/
import Derived.Test.YtnnccbagbgndpaaQ3
set_option linter.unusedVariables false
set_option linter.unusedSimpArgs false
namespace Go.Proofs.Ytnnccbagbgndpaa
open Go.RowKit
/-- The first node of the subtree at s. -/
def lf (T : Tr) (s : Nat) : Nat := match (po [T])[s]? with | some u => s + 1 - szT u | none => 0
theorem lf_at {T : Tr} {s : Nat} {u : Tr} (h : (po [T])[s]? = some u) : lf T s = s + 1 - szT u := by unfold lf; rw [h]
theorem at_lt {T : Tr} {s : Nat} (h : s < szT T) : ∃ u, (po [T])[s]? = some u ∧ szT u ≤ s + 1 := by
  obtain ⟨u, hu⟩ := get_of_lt (l := po [T]) (k := s) (by rw [po_lenT]; exact h)
  exact ⟨u, hu, (po_seg [T] hu).1⟩
theorem lt_at {T : Tr} {s : Nat} {u : Tr} (h : (po [T])[s]? = some u) : s < szT T := by
  have := (List.getElem?_eq_some_iff.1 h).1
  rw [po_lenT] at this; exact this
theorem sub_at {T : Tr} {i : Nat} {t : Tr} (h : (po [T])[i]? = some t) {x : Nat} (hx : x < szT t) : (po [t])[x]? = (po [T])[i + 1 - szT t + x]? := by
  obtain ⟨h1, h2⟩ := po_seg [T] h
  rw [← h2, List.getElem?_drop, List.getElem?_take, if_pos (by omega)]
/-- The arrays of a tree. -/
structure ArrOf (c : DFlat) (T : Tr) : Prop where
  lab : c.labels = (po [T]).map labT
  left : ∀ s, s < szT T → c.left[s]? = some ((lf T s : Nat) : Int)
  leftn : c.left.length = szT T
section
variable {c0 c1 : DFlat} {T T' ti tk : Tr} {i k : Nat}
/-- What the small table holds: rows up to x, and of row x + 1 the cells up to y. -/
structure FI (ti tk : Tr) (x y : Nat) (f : List (List Int)) : Prop where
  dim : Dim f (szT ti + 1) (szT tk + 1)
  val : ∀ x' y', x' ≤ szT ti → y' ≤ szT tk → (x' ≤ x ∨ y' = 0 ∨ x' = x + 1 ∧ y' ≤ y) → at2 f x' y' = some ((fd (fr ti x') (fr tk y') : Nat) : Int)
/-- Has the cell been come to? -/
def come (p q Y x y s t : Nat) : Prop := p ≤ s ∧ q ≤ t ∧ t < q + Y ∧ (s < p + x ∨ s = p + x ∧ t < q + y)
structure DI (T T' : Tr) (p q Y x y : Nat) (D D' : List (List Int)) : Prop where
  dim : Dim D' (szT T) (szT T')
  new : ∀ s t u u', (po [T])[s]? = some u → (po [T'])[t]? = some u' → come p q Y x y s t → lf T s = p → lf T' t = q → at2 D' s t = some ((fd [u] [u'] : Nat) : Int)
  old : ∀ s t, ¬ (come p q Y x y s t ∧ lf T s = p ∧ lf T' t = q) → at2 D' s t = at2 D s t
theorem fd_small (t t' : Tr) {x y : Nat} (hx : x ≤ szT t) (hy : y ≤ szT t') : fd (fr t x) (fr t' y) ≤ x + y := by
  have h := fd_app (fr t x) [] [] (fr t' y)
  simp only [List.append_nil, List.nil_append] at h
  rw [fd_l0, fd_r0, sz_fr t hx, sz_fr t' hy] at h
  exact h
theorem inner_m (h0 : ArrOf c0 T) (h1 : ArrOf c1 T') (hT : szT T ≤ 100000) (hT' : szT T' ≤ 100000) (hi : (po [T])[i]? = some ti) (hk : (po [T'])[k]? = some tk) {D : List (List Int)}
    (need : ∀ s t u u', i + 1 - szT ti ≤ s → s ≤ i → k + 1 - szT tk ≤ t → t ≤ k → (po [T])[s]? = some u → (po [T'])[t]? = some u' → ¬ (lf T s = i + 1 - szT ti ∧ lf T' t = k + 1 - szT tk) → at2 D s t = some ((fd [u] [u'] : Nat) : Int))
    {x y : Nat} (hx : x < szT ti) (hy : y < szT tk) {f D' : List (List Int)} (hf : FI ti tk x y f) (hd : DI T T' (i + 1 - szT ti) (k + 1 - szT tk) (szT tk) x y D D') :
    ∃ f2 D2, m_distance_filler_1_lp4 (k : Int) c0 c1 ((i + 1 - szT ti : Nat) : Int) ((k + 1 - szT tk : Nat) : Int) ((i + 1 - szT ti + x : Nat) : Int) ((k + 1 - szT tk + y : Nat) : Int) f D' = some (.next (((k + 1 - szT tk + (y + 1) : Nat) : Int), f2, D2)) ∧ FI ti tk x (y + 1) f2 ∧ DI T T' (i + 1 - szT ti) (k + 1 - szT tk) (szT tk) x (y + 1) D D2 := by
  have hsi := (po_seg [T] hi).1
  have hsk := (po_seg [T'] hk).1
  have hiT := lt_at hi
  have hkT := lt_at hk
  generalize hp : i + 1 - szT ti = p at *
  generalize hq : k + 1 - szT tk = q at *
  obtain ⟨u, hu⟩ := get_of_lt (l := po [ti]) (k := x) (by rw [po_lenT]; exact hx)
  obtain ⟨u', hu'⟩ := get_of_lt (l := po [tk]) (k := y) (by rw [po_lenT]; exact hy)
  have hA : (po [T])[p + x]? = some u := by rw [← hp, ← sub_at hi hx]; exact hu
  have hB : (po [T'])[q + y]? = some u' := by rw [← hq, ← sub_at hk hy]; exact hu'
  have su := (po_seg [ti] hu).1
  have su' := (po_seg [tk] hu').1
  have pu := szT_pos u
  have pu' := szT_pos u'
  have eA := lf_at hA
  have eB := lf_at hB
  have hcell := fd_fr ti tk hx hy hu hu'
  obtain ⟨r1, v1, a1, a2, a3, _⟩ := hf.dim.get (s := x) (t := y + 1) (by omega) (by omega)
  obtain ⟨r2, v2, b1, b2, b3, b4⟩ := hf.dim.get (s := x + 1) (t := y) (by omega) (by omega)
  obtain ⟨r4, v4, d1, d2, d3, _⟩ := hf.dim.get (s := x + 1) (t := y + 1) (by omega) (by omega)
  rw [b1] at d1
  obtain rfl := Option.some.inj d1
  have e1 : v1 = ((fd (fr ti x) (fr tk (y + 1)) : Nat) : Int) := by
    have := hf.val x (y + 1) (by omega) (by omega) (Or.inl (Nat.le_refl _)); rw [a3] at this; exact Option.some.inj this
  have e2 : v2 = ((fd (fr ti (x + 1)) (fr tk y) : Nat) : Int) := by
    have := hf.val (x + 1) y (by omega) (by omega) (Or.inr (Or.inr ⟨rfl, Nat.le_refl _⟩)); rw [b3] at this; exact Option.some.inj this
  have s1 := fd_small ti tk (x := x) (y := y + 1) (by omega) (by omega)
  have s2 := fd_small ti tk (x := x + 1) (y := y) (by omega) (by omega)
  have s3 := fd_small ti tk (x := x) (y := y) (by omega) (by omega)
  have hlab0 : c0.labels[p + x]? = some (labT u) := by rw [h0.lab, List.getElem?_map, hA]; rfl
  have hlab1 : c1.labels[q + y]? = some (labT u') := by rw [h1.lab, List.getElem?_map, hB]; rfl
  have hl0 := h0.left (p + x) (by omega)
  have hl1 := h1.left (q + y) (by omega)
  -- the value that is stored
  have fin : ∀ v : Int, v = ((fd (fr ti (x + 1)) (fr tk (y + 1)) : Nat) : Int) → FI ti tk x (y + 1) (f.set (x + 1) (r2.set (y + 1) v)) := by
    intro v hv
    refine ⟨hf.dim.set b1 v, fun x' y' h1 h2 h3 => ?_⟩
    rw [at2_set b1 d2]
    split
    · rename_i hh; obtain ⟨rfl, rfl⟩ := hh; rw [hv]
    · rename_i hh
      refine hf.val x' y' h1 h2 ?_
      rcases h3 with h3 | h3 | ⟨h3, h4⟩
      · exact Or.inl h3
      · exact Or.inr (Or.inl h3)
      · refine Or.inr (Or.inr ⟨h3, ?_⟩)
        have : ¬ y' = y + 1 := fun e => hh ⟨h3, e⟩
        omega
  simp only [m_distance_filler_1_lp4]
  rw [if_pos (by simp; omega)]
  rw [inK_eq (by omega)]
  simp only [Option.bind_some]
  rw [inK_eq (by omega)]
  simp only [Option.bind_some]
  rw [inK_eq (by omega)]
  simp only [Option.bind_some]
  rw [inK_eq (by omega)]
  simp only [Option.bind_some]
  rw [inK_eq (by omega)]
  simp only [Option.bind_some]
  have ex : ((p + x : Nat) : Int) - (p : Int) + 1 = ((x + 1 : Nat) : Int) := by omega
  have ey : ((q + y : Nat) : Int) - (q : Int) + 1 = ((y + 1 : Nat) : Int) := by omega
  have ex0 : ((x + 1 : Nat) : Int) - 1 = (x : Int) := by omega
  have ey0 : ((y + 1 : Nat) : Int) - 1 = (y : Int) := by omega
  rw [ex, ex0, ey, idx_nat a1]
  simp only [Option.bind_some]
  rw [idx_nat a2]
  simp only [Option.bind_some]
  rw [idx_nat b1]
  simp only [Option.bind_some]
  rw [inK_eq (by omega), ey0]
  simp only [Option.bind_some]
  rw [idx_nat b2]
  simp only [Option.bind_some]
  rw [inK_eq (by omega)]
  simp only [Option.bind_some]
  rw [idx_nat hl0]
  simp only [Option.bind_some]
  have hcond : ((if (!decide (((lf T (p + x) : Nat) : Int) = (p : Int))) = true then some true else (idx c1.left ((q + y : Nat) : Int)).bind fun x27 => some (!decide (x27 = (q : Int)))) : Option Bool) = some (!decide (szT u = x + 1 ∧ szT u' = y + 1)) := by
    rw [idx_nat hl1]
    simp only [Option.bind_some]
    rw [eA, eB]
    by_cases g1 : szT u = x + 1
    · rw [if_neg (by simp; omega)]
      congr 2
      exact decide_eq_decide.2 (by omega)
    · rw [if_pos (by simp; omega), decide_eq_false (by omega)]; rfl
  rw [hcond]
  simp only [Option.bind_some]
  by_cases hb : szT u = x + 1 ∧ szT u' = y + 1
  · -- both are first
    rw [if_neg (by simp [hb])]
    rw [if_pos hb] at hcell
    rw [inK_eq (by omega)]
    simp only [Option.bind_some]
    obtain ⟨r3, v3, c1', c2', c3', _⟩ := hf.dim.get (s := x) (t := y) (by omega) (by omega)
    have e3 : v3 = ((fd (fr ti x) (fr tk y) : Nat) : Int) := by
      have := hf.val x y (by omega) (by omega) (Or.inl (Nat.le_refl _)); rw [c3'] at this; exact Option.some.inj this
    obtain ⟨rd, vd, g1, g2, g3, _⟩ := hd.dim.get (s := p + x) (t := q + y) (by omega) (by omega)
    rw [a1] at c1'
    obtain rfl := Option.some.inj c1'
    rw [idx_nat c2']
    simp only [Option.bind_some]
    rw [idx_nat hlab0, idx_nat hlab1]
    simp only [Option.bind_some]
    have hj : ((if (!(decide ((labT u).kind = (labT u').kind) && decide ((labT u).text = (labT u').text))) = true then (inK .i64 (v3 + 1)).bind fun x45 => some x45 else some v3) : Option Int) = some (v3 + ((rl (labT u) (labT u') : Nat) : Int)) := by
      unfold rl
      by_cases h : labT u = labT u'
      · rw [if_pos h, if_neg (by simp [h])]; simp
      · rw [if_neg h, if_pos, inK_eq (by omega)]
        · rfl
        · have : ¬ ((labT u).kind = (labT u').kind ∧ (labT u).text = (labT u').text) := fun hh => h (by
            generalize labT u = A at hh ⊢
            generalize labT u' = B at hh ⊢
            obtain ⟨a, b⟩ := A
            obtain ⟨c, d⟩ := B
            simp only at hh
            rw [hh.1, hh.2])
          rw [Bool.not_eq_true', Bool.and_eq_false_iff]
          by_cases hk1 : (labT u).kind = (labT u').kind
          · exact Or.inr (decide_eq_false fun h2 => this ⟨hk1, h2⟩)
          · exact Or.inl (decide_eq_false hk1)
    rw [hj]
    simp only [Option.bind_some]
    rw [idx_nat d2]
    simp only [Option.bind_some]
    rw [idx_nat g1]
    simp only [Option.bind_some, Int.toNat_natCast]
    have hv : min (min v1 v2 + 1) (v3 + ((rl (labT u) (labT u') : Nat) : Int)) = ((fd (fr ti (x + 1)) (fr tk (y + 1)) : Nat) : Int) := by rw [hcell, e1, e2, e3]; omega
    rw [hv]
    have hnew : (f.set (x + 1) (r2.set (y + 1) ((fd (fr ti (x + 1)) (fr tk (y + 1)) : Nat) : Int)))[x + 1]? = some (r2.set (y + 1) ((fd (fr ti (x + 1)) (fr tk (y + 1)) : Nat) : Int)) := List.getElem?_set_self (by rw [hf.dim.rows]; omega)
    have hnew2 : (r2.set (y + 1) ((fd (fr ti (x + 1)) (fr tk (y + 1)) : Nat) : Int))[y + 1]? = some ((fd (fr ti (x + 1)) (fr tk (y + 1)) : Nat) : Int) := List.getElem?_set_self (by rw [b4]; omega)
    rw [idx_nat hnew]
    simp only [Option.bind_some]
    rw [idx_nat hnew2]
    simp only [Option.bind_some]
    rw [idx_nat g2]
    simp only [Option.bind_some]
    refine ⟨_, _, by rw [show ((q + y : Nat) : Int) + 1 = ((q + (y + 1) : Nat) : Int) by omega], fin _ rfl, ?_⟩
    have hfull : fd (fr ti (x + 1)) (fr tk (y + 1)) = fd [u] [u'] := by
      have z1 := (fr_succ ti hx hu).2.1
      have z2 := (fr_succ tk hy hu').2.1
      rw [hb.1, Nat.sub_self, fr_zero] at z1
      rw [hb.2, Nat.sub_self, fr_zero] at z2
      rw [z1, z2]
    refine ⟨hd.dim.set g1 _, fun s t w w' hw hw' hc l1 l2 => ?_, fun s t hn => ?_⟩
    · rw [at2_set g1 g2]
      split
      · rename_i hh
        obtain ⟨rfl, rfl⟩ := hh
        rw [hA] at hw; rw [hB] at hw'
        rw [← Option.some.inj hw, ← Option.some.inj hw', hfull]
      · rename_i hh
        refine hd.new s t w w' hw hw' ?_ l1 l2
        unfold come at hc ⊢
        omega
    · rw [at2_set g1 g2]
      split
      · rename_i hh
        exfalso
        apply hn
        obtain ⟨rfl, rfl⟩ := hh
        refine ⟨?_, by rw [eA]; omega, by rw [eB]; omega⟩
        unfold come; omega
      · rename_i hh
        refine hd.old s t fun h3 => hn ⟨?_, h3.2⟩
        have := h3.1
        unfold come at this ⊢
        omega
  · rw [if_pos (by simp [hb])]
    rw [if_neg hb] at hcell
    obtain ⟨r3, v3, c1', c2', c3', _⟩ := hf.dim.get (s := x + 1 - szT u) (t := y + 1 - szT u') (by omega) (by omega)
    have e3 : v3 = ((fd (fr ti (x + 1 - szT u)) (fr tk (y + 1 - szT u')) : Nat) : Int) := by
      have := hf.val (x + 1 - szT u) (y + 1 - szT u') (by omega) (by omega) (Or.inl (by omega)); rw [c3'] at this; exact Option.some.inj this
    obtain ⟨rd, vd, g1, g2, g3, _⟩ := hd.dim.get (s := p + x) (t := q + y) (by omega) (by omega)
    have e4 : vd = ((fd [u] [u'] : Nat) : Int) := by
      have h5 := hd.old (p + x) (q + y) (fun h => by have := h.1; unfold come at this; omega)
      have h6 := need (p + x) (q + y) u u' (by omega) (by omega) (by omega) (by omega) hA hB (fun h => hb (by rw [eA, eB] at h; omega))
      rw [h6, g3] at h5
      exact Option.some.inj h5
    have s4 := fd_small ti tk (x := x + 1 - szT u) (y := y + 1 - szT u') (by omega) (by omega)
    have s5 : fd [u] [u'] ≤ szT u + szT u' := by
      have h := fd_app [u] [] [] [u']
      simp only [List.append_nil, List.nil_append] at h
      rw [fd_l0, fd_r0, szL_one, szL_one] at h
      exact h
    rw [inK_eq (by rw [eA]; omega)]
    simp only [Option.bind_some]
    rw [show ((lf T (p + x) : Nat) : Int) - (p : Int) = ((x + 1 - szT u : Nat) : Int) by rw [eA]; omega, idx_nat c1']
    simp only [Option.bind_some]
    rw [idx_nat hl1]
    simp only [Option.bind_some]
    rw [inK_eq (by rw [eB]; omega)]
    simp only [Option.bind_some]
    rw [show ((lf T' (q + y) : Nat) : Int) - (q : Int) = ((y + 1 - szT u' : Nat) : Int) by rw [eB]; omega, idx_nat c2']
    simp only [Option.bind_some]
    rw [idx_nat g1]
    simp only [Option.bind_some]
    rw [idx_nat g2]
    simp only [Option.bind_some]
    rw [inK_eq (by omega)]
    simp only [Option.bind_some]
    rw [idx_nat d2]
    simp only [Option.bind_some, Int.toNat_natCast]
    rw [inK_eq (by omega)]
    simp only [Option.bind_some]
    refine ⟨_, _, by rw [show ((q + y : Nat) : Int) + 1 = ((q + (y + 1) : Nat) : Int) by omega], fin _ (by rw [hcell, e1, e2, e3, e4]; omega), ?_⟩
    refine ⟨hd.dim, fun s t w w' hw hw' hc l1 l2 => ?_, fun s t hn => ?_⟩
    · refine hd.new s t w w' hw hw' ?_ l1 l2
      have : ¬ (s = p + x ∧ t = q + y) := fun h => by
        obtain ⟨rfl, rfl⟩ := h
        rw [eA] at l1; rw [eB] at l2
        exact hb (by omega)
      unfold come at hc ⊢
      omega
    · refine hd.old s t fun h3 => hn ⟨?_, h3.2⟩
      have := h3.1
      unfold come at this ⊢
      omega
end
end Go.Proofs.Ytnnccbagbgndpaa
