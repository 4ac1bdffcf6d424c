/-
  The example of the chapter. No program is named.
-/
import Derived.Test.YtmfepkadggigpaaPI
set_option linter.unusedVariables false
set_option linter.unusedSimpArgs false
namespace Go.Proofs.Ytmfepkadggigpaa
open Go.RowKit
def exA : List Mark := [⟨5, 0⟩, ⟨7, 3⟩, ⟨9, 9⟩]
def exB : List Mark := [⟨7, 5⟩, ⟨5, 2⟩, ⟨8, 6⟩]
theorem exA_hs : HsIs exA [5, 7, 9] := ⟨by decide, fun x => by simp [exA]⟩
theorem exB_hs : HsIs exB [5, 7, 8] := ⟨by decide, fun x => by simp [exB]; omega⟩
theorem nil_hs : HsIs [] [] := ⟨by simp, by simp⟩
theorem CmpIs.of {a b : List Mark} {x y : List Int} {r : Int × Int} (hx : HsIs a x) (hy : HsIs b y) (h : r.1 = ((x.filter fun h => decide (h ∈ y)).length : Int) ∧ r.2 = x.length + y.length - ((x.filter fun h => decide (h ∈ y)).length : Int)) : CmpIs a b r := fun x' y' hx' hy' => by
  rw [hx'.one hx, hy'.one hy]; exact h
theorem ex_cmp : CmpIs exA exB (2, 4) := CmpIs.of exA_hs exB_hs (by decide)
theorem ex_cmpA : CmpIs exA [] (0, 3) := CmpIs.of exA_hs nil_hs (by decide)
theorem ex_cmpB : CmpIs exB [] (0, 3) := CmpIs.of exB_hs nil_hs (by decide)
theorem ex_pl {d i : Int} : Pl exA exB d i ↔ d = 2 ∧ (i = 0 ∨ i = 3) := by
  unfold Pl exA exB
  constructor
  · rintro ⟨x, hx, y, hy, h1, h2, h3⟩
    simp only [List.mem_cons, List.not_mem_nil, or_false] at hx hy
    rcases hx with rfl | rfl | rfl <;> rcases hy with rfl | rfl | rfl <;> simp at h1 h2 h3 <;> omega
  · rintro ⟨rfl, rfl | rfl⟩
    · exact ⟨⟨5, 0⟩, by simp, ⟨5, 2⟩, by simp, rfl, rfl, rfl⟩
    · exact ⟨⟨7, 3⟩, by simp, ⟨7, 5⟩, by simp, rfl, rfl, rfl⟩
theorem exA_at : AtOk exA := fun x hx => by
  simp only [exA, List.mem_cons, List.not_mem_nil, or_false] at hx
  rcases hx with rfl | rfl | rfl <;> simp
theorem exB_at : AtOk exB := fun x hx => by
  simp only [exB, List.mem_cons, List.not_mem_nil, or_false] at hx
  rcases hx with rfl | rfl | rfl <;> simp
theorem OvMem_iff {a b : List Mark} {k : Int} {o : Overlap} : OvMem a b k o ↔ ∃ d f l, Run (Pl a b d) k f l ∧ o = ⟨f, f + d, l - f + k⟩ :=
  ⟨fun ⟨f, l, h⟩ => ⟨_, f, l, h⟩, fun ⟨d, f, l, h⟩ => OvD.mem (d := d) ⟨f, l, h⟩⟩
theorem ex_ov3 : OvsIs exA exB 3 [⟨0, 2, 6⟩] := by
  refine ⟨by simp, by simp, fun o => ?_⟩
  rw [List.mem_singleton, OvMem_iff]
  constructor
  · rintro rfl
    refine ⟨2, 0, 3, ⟨ex_pl.2 (by simp), ex_pl.2 (by simp), by omega, fun x hx h => ?_, fun x hx h => ?_, fun x hx h1 h2 => ⟨3, ex_pl.2 (by simp), by have := ex_pl.1 hx; omega, by have := ex_pl.1 hx; omega⟩⟩, rfl⟩
    · have := ex_pl.1 hx; omega
    · have := ex_pl.1 hx; omega
  · rintro ⟨d, f, l, r, rfl⟩
    have h1 := ex_pl.1 r.first
    have h2 := ex_pl.1 r.last
    have hP0 : Pl exA exB d 0 := ex_pl.2 ⟨h1.1, Or.inl rfl⟩
    have hP3 : Pl exA exB d 3 := ex_pl.2 ⟨h1.1, Or.inr rfl⟩
    have hf : f = 0 := by
      rcases h1.2 with h | h
      · exact h
      · have := r.before 0 hP0 (by omega); omega
    have hl : l = 3 := by
      rcases h2.2 with h | h
      · have := r.behind 3 hP3 (by omega); omega
      · exact h
    rw [hf, hl, h1.1]
    rfl
theorem ex_ov2 : OvsIs exA exB 2 [⟨0, 2, 2⟩, ⟨3, 5, 2⟩] := by
  refine ⟨by decide, by decide, fun o => ?_⟩
  rw [OvMem_iff]
  simp only [List.mem_cons, List.not_mem_nil, or_false]
  constructor
  · rintro (rfl | rfl)
    · refine ⟨2, 0, 0, ⟨ex_pl.2 (by simp), ex_pl.2 (by simp), by omega, fun x hx h => ?_, fun x hx h => ?_, fun x hx h1 h2 => by omega⟩, rfl⟩
      · have := ex_pl.1 hx; omega
      · have := ex_pl.1 hx; omega
    · refine ⟨2, 3, 3, ⟨ex_pl.2 (by simp), ex_pl.2 (by simp), by omega, fun x hx h => ?_, fun x hx h => ?_, fun x hx h1 h2 => by omega⟩, rfl⟩
      · have := ex_pl.1 hx; omega
      · have := ex_pl.1 hx; omega
  · rintro ⟨d, f, l, r, rfl⟩
    have h1 := ex_pl.1 r.first
    have h2 := ex_pl.1 r.last
    have hle := r.le
    have hP0 : Pl exA exB d 0 := ex_pl.2 ⟨h1.1, Or.inl rfl⟩
    have hP3 : Pl exA exB d 3 := ex_pl.2 ⟨h1.1, Or.inr rfl⟩
    have hfl : f = l := by
      rcases h1.2 with h | h
      · rcases h2.2 with h' | h'
        · omega
        · obtain ⟨y, hy, h3, h4⟩ := r.chain f r.first (by omega) (by omega)
          have := ex_pl.1 hy
          omega
      · omega
    subst hfl
    rw [h1.1]
    rcases h1.2 with rfl | rfl
    · exact Or.inl rfl
    · exact Or.inr rfl
theorem exD_ok : DocOk [exA, exB, []] := fun l hl => by
  simp only [List.mem_cons, List.not_mem_nil, or_false] at hl
  rcases hl with rfl | rfl | rfl <;> simp [exA, exB]
theorem ex_pairs : PrsIs 1 2 [exA, exB, []] [⟨0, 1, 2, 4⟩] := by
  refine ⟨by simp, by simp, fun p => ?_⟩
  have hmem : PrMem 1 2 [exA, exB, []] ⟨0, 1, 2, 4⟩ := ⟨0, 1, exA, exB, rfl, rfl, by omega, rfl, rfl, ex_cmp, by decide, by decide⟩
  rw [List.mem_singleton]
  constructor
  · rintro rfl; exact hmem
  · intro h
    have hb := h.ok exD_ok
    have h' := h
    obtain ⟨i, j, x, y, a1, a2, a3, a4, a5, a6, a7, a8⟩ := h'
    have hj := (List.getElem?_eq_some_iff.1 a5).1
    simp only [List.length_cons, List.length_nil] at hj
    have hij : (i = 0 ∧ j = 1) ∨ (i = 0 ∧ j = 2) ∨ (i = 1 ∧ j = 2) := by omega
    rcases hij with ⟨rfl, rfl⟩ | ⟨rfl, rfl⟩ | ⟨rfl, rfl⟩
    · exact PrMem.one exD_ok h hmem (by simpa using a1) (by simpa using a2)
    · simp at a4 a5
      subst a4 a5
      have := CmpIs.one (by simp [exA]) (by simp) a6 ex_cmpA
      simp only [Prod.mk.injEq] at this
      omega
    · simp at a4 a5
      subst a4 a5
      have := CmpIs.one (by simp [exB]) (by simp) a6 ex_cmpB
      simp only [Prod.mk.injEq] at this
      omega
theorem ex_labels : Labels 3 [⟨2, 0, 0, 0⟩] (fun i => if i = 2 then 0 else i) := by
  refine ⟨fun i hi => by simp only; split <;> omega, fun p hp => ?_, fun f hf i hi => ?_⟩
  · rw [List.mem_singleton] at hp; subst hp; rfl
  · have h := hf ⟨2, 0, 0, 0⟩ (by simp)
    simp at h
    simp only
    split
    · rename_i e; subst e; exact h.symm
    · rfl
theorem ex_clus : clus 3 (fun i => if i = 2 then 0 else i) = [[0, 2]] := by decide
theorem ex_freq : FreqIs 1 [exA, exB] [5, 7] := by
  refine ⟨by decide, fun x => ?_⟩
  have e : cnt [exA, exB] x = (if x ∈ exA.map Mark.hash then 1 else 0) + (if x ∈ exB.map Mark.hash then 1 else 0) := by
    show cnt ([] ++ [exA] ++ [exB]) x = _
    rw [cnt_snoc, cnt_snoc]
    simp [cnt]
  rw [e]
  simp only [exA, exB, List.map_cons, List.map_nil, List.mem_cons, List.not_mem_nil, or_false]
  by_cases h5 : x = 5
  · subst h5; simp
  · by_cases h7 : x = 7
    · subst h7; simp
    · by_cases h9 : x = 9
      · subst h9; simp
      · by_cases h8 : x = 8
        · subst h8; simp
        · simp [h5, h7, h8, h9]
theorem overlaps_eq (a b : List Overlap) (ha : a.length ≤ 4611686018427387904) : m_assessorlaw44_overlaps a b = some (decide (a = b)) := by
  unfold m_assessorlaw44_overlaps
  by_cases hl : a.length = b.length
  · rw [if_neg (by simp <;> omega)]
    refine bind_same (a := a) (b := b) hl (.ret false) (.brk ()) (fun k x y hx hy => ?_) ?_ (by by_cases h : a = b <;> simp [h])
    · have hk := (List.getElem?_eq_some_iff.1 hx).1
      simp only [m_assessorlaw44_overlaps_lp1]
      rw [if_pos (by simpa using hk), idx_nat hx, idx_nat hy]
      simp only [Option.bind_some]
      rw [inK_succ (by omega)]
      obtain ⟨x1, x2, x3⟩ := x
      obtain ⟨y1, y2, y3⟩ := y
      by_cases h : x1 = y1 <;> by_cases h2 : x2 = y2 <;> by_cases h3 : x3 = y3 <;> simp [h, h2, h3]
    · simp only [m_assessorlaw44_overlaps_lp1]
      rw [if_neg (by simp)]
  · rw [if_pos (by simp <;> omega)]
    have : a ≠ b := fun e => hl (by rw [e])
    simp [this]
theorem pairs_eq (a b : List Pair) (ha : a.length ≤ 4611686018427387904) : m_assessorlaw44_pairs a b = some (decide (a = b)) := by
  unfold m_assessorlaw44_pairs
  by_cases hl : a.length = b.length
  · rw [if_neg (by simp <;> omega)]
    refine bind_same (a := a) (b := b) hl (.ret false) (.brk ()) (fun k x y hx hy => ?_) ?_ (by by_cases h : a = b <;> simp [h])
    · have hk := (List.getElem?_eq_some_iff.1 hx).1
      simp only [m_assessorlaw44_pairs_lp1]
      rw [if_pos (by simpa using hk), idx_nat hx, idx_nat hy]
      simp only [Option.bind_some]
      rw [inK_succ (by omega)]
      obtain ⟨x1, x2, x3, x4⟩ := x
      obtain ⟨y1, y2, y3, y4⟩ := y
      by_cases h : x1 = y1 <;> by_cases h2 : x2 = y2 <;> by_cases h3 : x3 = y3 <;> by_cases h4 : x4 = y4 <;> simp [h, h2, h3, h4]
    · simp only [m_assessorlaw44_pairs_lp1]
      rw [if_neg (by simp)]
  · rw [if_pos (by simp <;> omega)]
    have : a ≠ b := fun e => hl (by rw [e])
    simp [this]
theorem few_m (l : List (List Mark)) (d m : Int) (hl : l.length ≤ maxLen) : m_assessorlaw44_few l d m = some (decide ((∀ a ∈ l, (a.length : Int) ≤ m) ∧ (l.length : Int) ≤ d)) := by
  unfold m_assessorlaw44_few
  refine bind_any l (fun a => decide (m < (a.length : Int))) (.ret false) (.brk ()) (fun k a ha => ?_) ?_ ?_
  · have hk := (List.getElem?_eq_some_iff.1 ha).1
    simp only [m_assessorlaw44_few_lp1]
    rw [if_pos (by simpa using hk), idx_nat ha]
    simp only [Option.bind_some]
    rw [inK_eq (by unfold maxLen at hl; omega)]
    simp only [Option.bind_some]
    by_cases h : m < (a.length : Int) <;> simp [h]
  · simp only [m_assessorlaw44_few_lp1]
    rw [if_neg (by simp)]
  · by_cases h : ∀ a ∈ l, (a.length : Int) ≤ m
    · have : (l.any fun a => decide (m < (a.length : Int))) = false := by
        rw [List.any_eq_false]
        intro a ha
        have := h a ha
        simp only [decide_eq_true_eq]
        omega
      rw [this]
      simp only [Bool.false_eq_true, if_false, Option.some.injEq]
      rw [decide_eq_decide]
      exact ⟨fun h2 => ⟨h, h2⟩, fun h2 => h2.2⟩
    · have : (l.any fun a => decide (m < (a.length : Int))) = true := by
        rw [List.any_eq_true]
        exact Classical.byContradiction fun hc => h fun a ha => Classical.byContradiction fun h2 => hc ⟨a, ha, by simp only [decide_eq_true_eq]; omega⟩
      rw [this]
      simp only [if_true, Option.some.injEq]
      rw [eq_comm, decide_eq_false_iff_not]
      exact fun h2 => h h2.1
theorem awake_m : m_assessorlaw44_awake = some true := by
  have mk : ∀ l : List Mark, (∀ x ∈ l, -1000 ≤ x.hash ∧ x.hash ≤ 1000) → MkOk l := fun l h x hx => by
    obtain ⟨a, ha, rfl⟩ := List.mem_map.1 hx
    have := h a ha
    omega
  have okA : MkOk exA := mk _ (by decide)
  have okB : MkOk exB := mk _ (by decide)
  obtain ⟨r1, e1, f1⟩ := Compare_m exA exB (by decide) (by decide)
  obtain rfl : r1 = (2, 4) := CmpIs.one (by decide) (by decide) f1 ex_cmp
  obtain ⟨r2, e2, f2⟩ := Overlaps_m exA exB 3 (by decide) (by decide) exA_at exB_at (by decide)
  obtain rfl := f2.one ex_ov3
  obtain ⟨r3, e3, f3⟩ := Overlaps_m exA exB 2 (by decide) (by decide) exA_at exB_at (by decide)
  obtain rfl := f3.one ex_ov2
  obtain ⟨r4, e4, f4⟩ := Pairs_m 1 2 [exA, exB, []] exD_ok (by decide) (by decide) (by decide)
  obtain rfl := f4.one exD_ok ex_pairs
  obtain ⟨rt, e5, f5⟩ := Clusters_m 3 [⟨2, 0, 0, 0⟩] (by decide) (by decide) (fun p hp => by rw [List.mem_singleton] at hp; subst hp; decide)
  have e6 : clus 3 rt = [[0, 2]] := (clus_congr fun i hi => f5.one ex_labels hi).trans ex_clus
  rw [e6] at e5
  obtain ⟨r7, e7, f7⟩ := Hashes_m exA (by decide) okA
  obtain rfl := f7.one exA_hs
  have e8 := Without_m exA [7] (by decide) (by decide)
  have e8' : (exA.filter fun a => !decide (a.hash ∈ [7])) = [⟨5, 0⟩, ⟨9, 9⟩] := by decide
  rw [e8'] at e8
  obtain ⟨r9, e9, f9⟩ := Frequent_m 1 [exA, exB] (by decide) (by decide) (by
    intro l hl
    simp only [List.mem_cons, List.not_mem_nil, or_false] at hl
    rcases hl with rfl | rfl
    · exact okA
    · exact okB)
  obtain rfl := f9.one ex_freq
  unfold m_assessorlaw44_awake
  show ((m_similarity_Compare exA exB).bind fun x1 => (m_similarity_Overlaps exA exB 3).bind fun x2 => (m_similarity_Overlaps exA exB 2).bind fun x3 => (m_similarity_Pairs 1 2 [exA, exB, []]).bind fun x4 => (m_similarity_Clusters 3 ([⟨2, 0, 0, 0⟩] : List Pair)).bind fun x5 => _) = _
  rw [e1]
  simp only [Option.bind_some]
  rw [e2]
  simp only [Option.bind_some]
  rw [e3]
  simp only [Option.bind_some]
  rw [e4]
  simp only [Option.bind_some]
  rw [show ((3 : Nat) : Int) = 3 from rfl] at e5
  rw [e5]
  simp only [Option.bind_some]
  rw [overlaps_eq _ _ (by decide)]
  simp only [Option.bind_some]
  rw [overlaps_eq _ _ (by decide)]
  simp only [Option.bind_some]
  rw [pairs_eq _ _ (by decide)]
  simp only [Option.bind_some]
  rw [if_pos (by decide)]
  simp only [Option.bind_some]
  rw [if_pos (by decide)]
  simp only [Option.bind_some]
  rw [if_pos (by decide)]
  simp only [Option.bind_some]
  rw [if_pos (by decide), idx_of (i := 0) (a := [0, 2]) (by decide) rfl]
  simp only [Option.bind_some]
  rw [SameI_m _ _ (by decide)]
  simp only [Option.bind_some]
  rw [if_pos (by decide)]
  show ((((m_similarity_Hashes exA).bind fun x11 => (m_assessorref35_Same x11 ([5, 7, 9] : List Int)).bind fun x12 => some x12) : Option Bool).bind fun m5 => ((if m5 = true then (m_similarity_Without exA ([7] : List Int)).bind fun x13 => some (decide ((x13.length : Int) = 2)) else some false) : Option Bool).bind fun m6 => ((if m6 = true then (m_similarity_Frequent 1 ([exA, exB] : List (List Mark))).bind fun x14 => (m_assessorref35_Same x14 ([5, 7] : List Int)).bind fun x15 => some x15 else some false) : Option Bool).bind fun m7 => some m7) = some true
  rw [e7]
  simp only [Option.bind_some]
  rw [SameI_m _ _ (by decide)]
  simp only [Option.bind_some]
  rw [if_pos (by decide), e8]
  simp only [Option.bind_some]
  rw [if_pos (by decide), e9]
  simp only [Option.bind_some]
  rw [SameI_m _ _ (by decide)]
  rfl
theorem grid_len (n m : Nat) : ((List.range n).flatMap fun i => (List.range m).map fun j => (i, j)).length = n * m := by
  rw [List.length_flatMap]
  simp only [List.length_map, List.length_range]
  induction n with
  | zero => simp
  | succ n ih => rw [List.range_succ, List.map_append, List.sum_append, ih, Nat.add_mul]; simp
end Go.Proofs.Ytmfepkadggigpaa
