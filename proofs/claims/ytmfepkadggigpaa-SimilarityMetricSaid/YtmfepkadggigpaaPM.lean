/-
  The law of the measure: the triangle inequality. No program is named.
-/
import Derived.Test.YtmfepkadggigpaaPK
import Derived.Test.YtmfepkadggigpaaWTM
set_option linter.unusedVariables false
set_option linter.unusedSimpArgs false
namespace Go.Proofs.Ytmfepkadggigpaa
open Go.RowKit
theorem both_eq {x y : List Int} (hx : x.Nodup) (hy : y.Nodup) (P : Int → Bool) : (x.filter fun h => decide (h ∈ y) && P h).length = (y.filter fun h => decide (h ∈ x) && P h).length := by
  have : (x.filter fun h => decide (h ∈ y) && P h).Perm (y.filter fun h => decide (h ∈ x) && P h) := by
    refine (List.perm_ext_iff_of_nodup (hx.filter _) (hy.filter _)).2 fun h => ?_
    simp only [List.mem_filter, Bool.and_eq_true, decide_eq_true_eq]
    exact ⟨fun ⟨a, b, c⟩ => ⟨b, a, c⟩, fun ⟨a, b, c⟩ => ⟨b, a, c⟩⟩
  exact this.length_eq
theorem split_len (x : List Int) (p : Int → Bool) : x.length = (x.filter p).length + (x.filter fun h => !p h).length := by
  induction x with
  | nil => rfl
  | cons a x ih =>
    cases h : p a <;> simp [h] <;> omega
theorem split_and (x : List Int) (p q : Int → Bool) : (x.filter p).length = (x.filter fun h => p h && q h).length + (x.filter fun h => p h && !q h).length := by
  induction x with
  | nil => rfl
  | cons a x ih =>
    cases h : p a <;> cases h2 : q a <;> simp [h, h2] <;> omega
/-- The seven parts of three sets. -/
theorem parts (x y z : List Int) (hx : x.Nodup) (hy : y.Nodup) (hz : z.Nodup) : ∃ a b c d e f g : Nat,
    x.length = a + d + e + g ∧ y.length = b + d + f + g ∧ z.length = c + e + f + g ∧
    (x.filter fun h => decide (h ∈ y)).length = d + g ∧ (y.filter fun h => decide (h ∈ z)).length = f + g ∧ (x.filter fun h => decide (h ∈ z)).length = e + g := by
  have x1 := split_len x fun h => decide (h ∈ y)
  have x2 := split_and x (fun h => decide (h ∈ y)) fun h => decide (h ∈ z)
  have x3 := split_and x (fun h => !decide (h ∈ y)) fun h => decide (h ∈ z)
  have x4 := split_and x (fun h => decide (h ∈ z)) fun h => decide (h ∈ y)
  have y1 := split_len y fun h => decide (h ∈ x)
  have y2 := split_and y (fun h => decide (h ∈ x)) fun h => decide (h ∈ z)
  have y3 := split_and y (fun h => !decide (h ∈ x)) fun h => decide (h ∈ z)
  have y4 := split_and y (fun h => decide (h ∈ z)) fun h => decide (h ∈ x)
  have z1 := split_len z fun h => decide (h ∈ x)
  have z2 := split_and z (fun h => decide (h ∈ x)) fun h => decide (h ∈ y)
  have z3 := split_and z (fun h => !decide (h ∈ x)) fun h => decide (h ∈ y)
  have z4 := split_and z (fun h => decide (h ∈ y)) fun h => decide (h ∈ x)
  have c1 := both_eq hx hy fun h => decide (h ∈ z)
  have c2 := both_eq hx hy fun h => !decide (h ∈ z)
  have c3 := both_eq hx hz fun h => decide (h ∈ y)
  have c4 := both_eq hx hz fun h => !decide (h ∈ y)
  have c5 := both_eq hy hz fun h => decide (h ∈ x)
  have c6 := both_eq hy hz fun h => !decide (h ∈ x)
  have k1 : ∀ (l : List Int) (p q : Int → Bool), (l.filter fun h => p h && q h) = l.filter fun h => q h && p h := fun l p q => by congr 1; funext h; exact Bool.and_comm _ _
  rw [k1 x (fun h => decide (h ∈ z)) fun h => decide (h ∈ y)] at x4 c3
  rw [k1 x (fun h => decide (h ∈ z)) fun h => !decide (h ∈ y)] at x4 c4
  rw [k1 y (fun h => decide (h ∈ z)) fun h => decide (h ∈ x)] at y4 c5
  rw [k1 y (fun h => decide (h ∈ z)) fun h => !decide (h ∈ x)] at y4 c6
  rw [k1 z (fun h => decide (h ∈ y)) fun h => decide (h ∈ x)] at z4 c5
  rw [k1 z (fun h => decide (h ∈ y)) fun h => !decide (h ∈ x)] at z4 c6
  refine ⟨(x.filter fun h => !decide (h ∈ y) && !decide (h ∈ z)).length, (y.filter fun h => !decide (h ∈ x) && !decide (h ∈ z)).length, (z.filter fun h => !decide (h ∈ x) && !decide (h ∈ y)).length,
    (x.filter fun h => decide (h ∈ y) && !decide (h ∈ z)).length, (x.filter fun h => !decide (h ∈ y) && decide (h ∈ z)).length, (y.filter fun h => !decide (h ∈ x) && decide (h ∈ z)).length, (x.filter fun h => decide (h ∈ y) && decide (h ∈ z)).length, ?_, ?_, ?_, ?_, ?_, ?_⟩ <;> omega
/-- The triangle inequality of one less the similarity. -/
theorem tri {a b c d e f g : Int} (ha : 0 ≤ a) (hb : 0 ≤ b) (hc : 0 ≤ c) (hd : 0 ≤ d) (he : 0 ≤ e) (hf : 0 ≤ f) (hg : 0 ≤ g) (hS : 0 < a + b + c + d + e + f + g) :
    (a + c + d + f) * (a + b + d + e + f + g) * (b + c + d + e + f + g) ≤ (a + b + e + f) * (a + c + d + e + f + g) * (b + c + d + e + f + g) + (b + c + d + e) * (a + c + d + e + f + g) * (a + b + d + e + f + g) := by
  generalize hSd : a + b + c + d + e + f + g = S at hS
  generalize hq : a + b + d + e + f + g = q
  generalize hs : b + c + d + e + f + g = s
  generalize hu : a + c + d + e + f + g = u
  generalize ht : a + c + d + f = t
  generalize hp : a + b + e + f = p
  generalize hr : b + c + d + e = r
  have q0 : 0 ≤ q := by omega
  have s0 : 0 ≤ s := by omega
  have u0 : 0 ≤ u := by omega
  have p0 : 0 ≤ p := by omega
  have r0 : 0 ≤ r := by omega
  have h1 : t * S ≤ (t + b) * u := by
    have : S = u + b := by omega
    rw [this, Int.mul_add, Int.add_mul]
    have : t * b ≤ b * u := by rw [Int.mul_comm b u]; exact Int.mul_le_mul_of_nonneg_right (by omega) hb
    omega
  have h2 : (t + b) * u ≤ (p + r) * u := Int.mul_le_mul_of_nonneg_right (by omega) u0
  have h3 : t * S * (q * s) ≤ (p + r) * u * (q * s) := Int.mul_le_mul_of_nonneg_right (Int.le_trans h1 h2) (Int.mul_nonneg q0 s0)
  have h4 : (p * u * s) * q ≤ (p * u * s) * S := Int.mul_le_mul_of_nonneg_left (by omega) (Int.mul_nonneg (Int.mul_nonneg p0 u0) s0)
  have h5 : (r * u * q) * s ≤ (r * u * q) * S := Int.mul_le_mul_of_nonneg_left (by omega) (Int.mul_nonneg (Int.mul_nonneg r0 u0) q0)
  have e1 : (p + r) * u * (q * s) = (p * u * s) * q + (r * u * q) * s := by
    rw [Int.add_mul, Int.add_mul]
    congr 1
    · rw [Int.mul_comm q s, ← Int.mul_assoc]
    · rw [← Int.mul_assoc]
  have e2 : t * S * (q * s) = (t * q * s) * S := by
    rw [Int.mul_assoc, Int.mul_comm S, ← Int.mul_assoc, ← Int.mul_assoc]
  have h6 : (t * q * s) * S ≤ (p * u * s + r * u * q) * S := by
    rw [Int.add_mul]; omega
  exact Int.le_of_mul_le_mul_right h6 hS
theorem prod3 {x y z : Int} (hx : 0 ≤ x ∧ x ≤ 200) (hy : 0 ≤ y ∧ y ≤ 200) (hz : 0 ≤ z ∧ z ≤ 200) : inK .i64 (x * y) = some (x * y) ∧ inK .i64 (x * y * z) = some (x * y * z) ∧ 0 ≤ x * y * z ∧ x * y * z ≤ 8000000 := by
  have a1 : 0 ≤ x * y := Int.mul_nonneg hx.1 hy.1
  have a2 : x * y ≤ 200 * 200 := Int.mul_le_mul hx.2 hy.2 hy.1 (by omega)
  have a3 : 0 ≤ x * y * z := Int.mul_nonneg a1 hz.1
  have a4 : x * y * z ≤ 40000 * 200 := Int.mul_le_mul (by omega) hz.2 hz.1 (by omega)
  exact ⟨inK_eq (by omega), inK_eq (by omega), a3, by omega⟩
theorem law_SimilarityMetric (p0 : (List Mark)) (p1 : (List Mark)) (p2 : (List Mark)) (h0 : LW (fun a : Mark => I64 a.hash ∧ I64 a.at_) p0) (h1 : LW (fun a : Mark => I64 a.hash ∧ I64 a.at_) p1) (h2 : LW (fun a : Mark => I64 a.hash ∧ I64 a.at_) p2) : m_assessorlaw44_SimilarityMetric p0 p1 p2 = some true := by
  have ok : ∀ {l : List Mark}, LW (fun a : Mark => I64 a.hash ∧ I64 a.at_) l → MkOk l := fun h x hx => by
    obtain ⟨a, ha, rfl⟩ := List.mem_map.1 hx
    exact (h.2 a ha).1
  unfold m_assessorlaw44_SimilarityMetric
  rw [awake_m]
  simp only [Option.bind_some, Bool.not_true, Bool.false_eq_true, if_false]
  rw [few_m _ 3 60 (by unfold maxLen; simp)]
  simp only [Option.bind_some]
  by_cases hf : (p0.length ≤ 60 ∧ p1.length ≤ 60 ∧ p2.length ≤ 60) ∧ p0.length ≠ 0 ∧ p1.length ≠ 0 ∧ p2.length ≠ 0
  · obtain ⟨⟨l0, l1, l2⟩, n0, n1, n2⟩ := hf
    rw [decide_eq_true (show (∀ a ∈ [p0, p1, p2], (a.length : Int) ≤ 60) ∧ (([p0, p1, p2] : List (List Mark)).length : Int) ≤ 3 from ⟨fun a ha => by
      simp only [List.mem_cons, List.not_mem_nil, or_false] at ha
      rcases ha with rfl | rfl | rfl <;> omega, by simp⟩), if_neg (by simp only [Bool.not_true, Bool.false_or, Bool.or_eq_true, decide_eq_true_eq]; omega)]
    obtain ⟨x, x1, x2⟩ := Hashes_m p0 (by omega) (ok h0)
    obtain ⟨y, y1, y2⟩ := Hashes_m p1 (by omega) (ok h1)
    obtain ⟨z, z1, z2⟩ := Hashes_m p2 (by omega) (ok h2)
    have nx := rising_nodup x2.1
    have ny := rising_nodup y2.1
    have nz := rising_nodup z2.1
    have pos : ∀ {l : List Mark} {r : List Int}, HsIs l r → l.length ≠ 0 → r.length ≠ 0 := fun {l r} h hl hr => by
      obtain ⟨a, ha⟩ := get_of_lt (show 0 < l.length by omega)
      have := (h.2 a.hash).2 (List.mem_map_of_mem (List.mem_of_getElem? ha))
      rw [List.eq_nil_of_length_eq_zero hr] at this
      cases this
    have qx := pos x2 n0
    have qy := pos y2 n1
    have qz := pos z2 n2
    have lx := x2.len
    have ly := y2.len
    have lz := z2.len
    obtain ⟨a, b, c, d, e, f, g, e1, e2, e3, e4, e5, e6⟩ := parts x y z nx ny nz
    obtain ⟨r, r1, r2⟩ := Compare_m p0 p1 (by omega) (by omega)
    obtain ⟨s, s1, s2⟩ := Compare_m p1 p2 (by omega) (by omega)
    obtain ⟨t, t1, t2⟩ := Compare_m p0 p2 (by omega) (by omega)
    obtain ⟨f1, f2⟩ := r2 x y x2 y2
    obtain ⟨f3, f4⟩ := s2 y z y2 z2
    obtain ⟨f5, f6⟩ := t2 x z x2 z2
    rw [e4] at f1 f2
    rw [e5] at f3 f4
    rw [e6] at f5 f6
    obtain ⟨ra, rb⟩ := r
    obtain ⟨sa, sb⟩ := s
    obtain ⟨ta, tb⟩ := t
    simp only at f1 f2 f3 f4 f5 f6
    simp only [m_assessorlaw44_SimilarityMetric_1]
    rw [r1, s1, t1]
    simp only [Option.bind_some]
    rw [inK_eq (n := rb - ra) (by omega), inK_eq (n := sb - sa) (by omega), inK_eq (n := tb - ta) (by omega)]
    simp only [Option.bind_some]
    rw [if_neg (by simp; omega), x1, y1]
    simp only [Option.bind_some]
    rw [SameI_m _ _ (by omega)]
    simp only [Option.bind_some]
    have k1 := prod3 (x := tb - ta) (y := rb) (z := sb) (by omega) (by omega) (by omega)
    have k2 := prod3 (x := rb - ra) (y := tb) (z := sb) (by omega) (by omega) (by omega)
    have k3 := prod3 (x := sb - sa) (y := tb) (z := rb) (by omega) (by omega) (by omega)
    rw [k1.1]
    simp only [Option.bind_some]
    rw [k1.2.1]
    simp only [Option.bind_some]
    rw [k2.1]
    simp only [Option.bind_some]
    rw [k2.2.1]
    simp only [Option.bind_some]
    rw [k3.1]
    simp only [Option.bind_some]
    rw [k3.2.1]
    simp only [Option.bind_some]
    rw [inK_eq (by omega)]
    simp only [Option.bind_some, Option.some.injEq, Bool.and_eq_true, decide_eq_true_eq]
    refine ⟨?_, ?_⟩
    · have := tri (a := a) (b := b) (c := c) (d := d) (e := e) (f := f) (g := g) (by omega) (by omega) (by omega) (by omega) (by omega) (by omega) (by omega) (by omega)
      have m1 : tb - ta = a + c + d + f := by omega
      have m2 : rb - ra = a + b + e + f := by omega
      have m3 : sb - sa = b + c + d + e := by omega
      have m4 : rb = a + b + d + e + f + g := by omega
      have m5 : sb = b + c + d + e + f + g := by omega
      have m6 : tb = a + c + d + e + f + g := by omega
      rw [m1, m2, m3, m4, m5, m6]
      exact this
    · rw [beq_iff_eq, decide_eq_decide]
      constructor
      · intro h
        have w1 : ∀ h ∈ x, h ∈ y := by
          have : (x.filter fun h => decide (h ∈ y)).length = x.length := by omega
          intro h hh
          have := List.length_filter_eq_length_iff.1 this h hh
          simpa using this
        have w2 : ∀ h ∈ y, h ∈ x := by
          have hb2 := both_eq nx ny fun _ => true
          simp only [Bool.and_true] at hb2
          have : (y.filter fun h => decide (h ∈ x)).length = y.length := by omega
          intro h hh
          have := List.length_filter_eq_length_iff.1 this h hh
          simpa using this
        exact rising_int x2.1 y2.1 fun h => ⟨w1 h, w2 h⟩
      · rintro rfl
        have : (x.filter fun h => decide (h ∈ x)) = x := filter_none fun h hh => by simpa using hh
        rw [this] at e4
        omega
  · rw [if_pos (by
      by_cases hd : (∀ a ∈ [p0, p1, p2], (a.length : Int) ≤ 60) ∧ (([p0, p1, p2] : List (List Mark)).length : Int) ≤ 3
      · have w0 := hd.1 p0 (by simp)
        have w1 := hd.1 p1 (by simp)
        have w2 := hd.1 p2 (by simp)
        rw [decide_eq_true hd]
        simp only [Bool.not_true, Bool.false_or, Bool.or_eq_true, decide_eq_true_eq]
        omega
      · rw [decide_eq_false hd]; simp)]
end Go.Proofs.Ytmfepkadggigpaa
