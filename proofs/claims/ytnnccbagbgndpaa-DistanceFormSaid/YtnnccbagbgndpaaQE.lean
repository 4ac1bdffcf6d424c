/-
  The reference's bound; the law on the forms.
-/
import Derived.Test.YtnnccbagbgndpaaQG
import Derived.Test.YtnnccbagbgndpaaQB
import Derived.Test.YtnnccbagbgndpaaReadN
import Derived.Test.YtnnccbagbgndpaaWFM
set_option linter.unusedVariables false
set_option linter.unusedSimpArgs false
namespace Go.Proofs.Ytnnccbagbgndpaa
open Go.RowKit
/-- What is not used yet. -/
def rem : List Lbl → List Bool → List Lbl
  | y :: ys, b :: us => if b = true then rem ys us else y :: rem ys us
  | _, _ => []
theorem rem_app : ∀ (y1 y2 : List Lbl) (u1 u2 : List Bool), y1.length = u1.length → rem (y1 ++ y2) (u1 ++ u2) = rem y1 u1 ++ rem y2 u2
  | [], y2, [], u2, _ => by simp [rem]
  | y :: y1, y2, b :: u1, u2, h => by
    simp only [List.length_cons, Nat.add_right_cancel_iff] at h
    have := rem_app y1 y2 u1 u2 h
    cases b <;> simp [rem, this]
  | [], y2, b :: u1, u2, h => by simp at h
  | y :: y1, y2, [], u2, h => by simp at h
theorem rem_all : ∀ (ys : List Lbl), rem ys (List.replicate ys.length false) = ys
  | [] => rfl
  | y :: ys => by rw [List.length_cons, List.replicate_succ, rem, rem_all ys]; simp
theorem rem_at {ys : List Lbl} {us : List Bool} (hl : ys.length = us.length) {k : Nat} {y : Lbl} {b : Bool} (hy : ys[k]? = some y) (hb : us[k]? = some b) :
    rem ys us = rem (ys.take k) (us.take k) ++ ((if b = true then [] else [y]) ++ rem (ys.drop (k + 1)) (us.drop (k + 1))) ∧ rem (ys.take (k + 1)) (us.take (k + 1)) = rem (ys.take k) (us.take k) ++ (if b = true then [] else [y]) ∧
      rem ys (us.set k true) = rem (ys.take k) (us.take k) ++ rem (ys.drop (k + 1)) (us.drop (k + 1)) := by
  have k1 := (List.getElem?_eq_some_iff.1 hy).1
  have k2 := (List.getElem?_eq_some_iff.1 hb).1
  have hlt : (ys.take k).length = (us.take k).length := by rw [List.length_take, List.length_take, hl]
  refine ⟨?_, ?_, ?_⟩
  · conv => lhs; rw [← List.take_append_drop k ys, ← List.take_append_drop k us, drop_cons_of hy, drop_cons_of hb]
    rw [rem_app _ _ _ _ hlt, rem]
    cases b <;> simp
  · rw [take_snoc_of hy, take_snoc_of hb, rem_app _ _ _ _ hlt]
    cases b <;> simp [rem]
  · rw [List.set_eq_take_append_cons_drop, if_pos k2]
    conv => lhs; rw [← List.take_append_drop k ys, drop_cons_of hy]
    rw [rem_app _ _ _ _ hlt, rem]
    simp
theorem rOf_kinds (n : Node) {k : Nat} {l : Lbl} (h : (plabs n)[k]? = some l) : (rOf n).kinds[k]? = some l.kind ∧ (rOf n).texts[k]? = some l.text := by
  unfold plabs at h
  rw [List.getElem?_map] at h
  obtain ⟨u, hu, rfl⟩ := Option.map_eq_some_iff.1 h
  exact ⟨(rArr n).kinds k u hu, (rArr n).texts k u hu⟩
theorem rOf_len (n : Node) : (rOf n).kinds.length = cntN n := by rw [(rArr n).klen, sz_toT]
/-- One label is looked for. -/
theorem rfind_m (a b : Node) (hb : cntN b ≤ 100000) {i : Nat} {x : Lbl} (hx : (plabs a)[i]? = some x) {c : Nat} (hc : c ≤ 100000) {us : List Bool} (hus : us.length = cntN b) :
    ∃ us', us'.length = cntN b ∧ loopM (fun s => m_assessorref37_Bound_lp2 (rOf a) (rOf b) (i : Int) s.1 s.2.1 s.2.2.1 s.2.2.2) ((c : Int), false, 0, us) = some (((c + (if x ∈ rem (plabs b) us then 1 else 0) : Nat) : Int), us') ∧
      rem (plabs b) us' = if x ∈ rem (plabs b) us then (rem (plabs b) us).erase x else rem (plabs b) us := by
  have lb := plabs_len b
  have hkx := rOf_kinds a hx
  have hkl := rOf_len b
  obtain ⟨r, hr, hp⟩ := loop_for (body := fun s => m_assessorref37_Bound_lp2 (rOf a) (rOf b) (i : Int) s.1 s.2.1 s.2.2.1 s.2.2.2)
    (fun k s => s.2.2.1 = (k : Int) ∧ s.2.2.2.length = cntN b ∧ ((s.2.1 = false ∧ s.2.2.2 = us ∧ s.1 = (c : Int) ∧ x ∉ rem ((plabs b).take k) (us.take k)) ∨ (s.2.1 = true ∧ x ∈ rem (plabs b) us ∧ rem (plabs b) s.2.2.2 = (rem (plabs b) us).erase x ∧ s.1 = ((c + 1 : Nat) : Int))))
    (fun r => r.2.length = cntN b ∧ r.1 = ((c + (if x ∈ rem (plabs b) us then 1 else 0) : Nat) : Int) ∧ rem (plabs b) r.2 = if x ∈ rem (plabs b) us then (rem (plabs b) us).erase x else rem (plabs b) us) (cntN b) 0 ((c : Int), false, 0, us)
    ⟨rfl, hus, Or.inl ⟨rfl, rfl, rfl, by simp [rem]⟩⟩
    (by
      rintro k ⟨c', found, z, us'⟩ _ hk ⟨e, hl', hs⟩
      simp only at e hl' hs
      subst e
      obtain ⟨y, hy⟩ := get_of_lt (l := plabs b) (k := k) (by omega)
      have hky := rOf_kinds b hy
      rcases hs with ⟨rfl, rfl, rfl, hni⟩ | ⟨rfl, hin, hre, rfl⟩
      · obtain ⟨u, hu⟩ := get_of_lt (l := us') (k := k) (by omega)
        obtain ⟨q1, q2, q3⟩ := rem_at (ys := plabs b) (us := us') (by omega) hy hu
        by_cases hm : u = false ∧ x = y
        · obtain ⟨rfl, rfl⟩ := hm
          refine ⟨(((c + 1 : Nat) : Int), true, ((k + 1 : Nat) : Int), us'.set k true), ?_, rfl, by simp [hl'], Or.inr ⟨rfl, ?_, ?_, rfl⟩⟩
          · simp only [m_assessorref37_Bound_lp2]
            rw [if_pos (by simp [hkl]; omega), if_pos (by simp), idx_nat hu]
            simp only [Option.bind_some]
            rw [if_pos (by simp), idx_nat hkx.1, idx_nat hky.1]
            simp only [Option.bind_some]
            rw [if_pos (by simp), idx_nat hkx.2, idx_nat hky.2]
            simp only [Option.bind_some]
            rw [if_pos (by simp), inK_eq (by omega)]
            simp only [Option.bind_some]
            rw [inK_succ (by omega)]
            rfl
          · rw [q1]; simp
          · rw [q1, q3]
            simp only [Bool.false_eq_true, if_false]
            rw [List.erase_append_right _ hni]
            simp
        · refine ⟨((c : Int), false, ((k + 1 : Nat) : Int), us'), ?_, rfl, hl', Or.inl ⟨rfl, rfl, rfl, ?_⟩⟩
          · simp only [m_assessorref37_Bound_lp2]
            rw [if_pos (by simp [hkl]; omega), if_pos (by simp), idx_nat hu]
            simp only [Option.bind_some]
            cases u with
            | true => simp [inK_succ (show k ≤ 4611686018427387904 by omega)]
            | false =>
              have hxy : ¬ x = y := fun e => hm ⟨rfl, e⟩
              rw [if_pos (by simp), idx_nat hkx.1, idx_nat hky.1]
              simp only [Option.bind_some]
              by_cases h1 : x.kind = y.kind
              · rw [if_pos (by simp [h1]), idx_nat hkx.2, idx_nat hky.2]
                simp only [Option.bind_some]
                have h2 : ¬ x.text = y.text := fun e => hxy (by
                  obtain ⟨a, b⟩ := x
                  obtain ⟨c, d⟩ := y
                  simp only at h1 e
                  rw [h1, e])
                rw [if_neg (by simp [h2]), inK_succ (by omega)]
                rfl
              · simp [h1, inK_succ (show k ≤ 4611686018427387904 by omega)]
          · rw [q2]
            cases u with
            | true => simpa using hni
            | false =>
              have hxy : ¬ x = y := fun e => hm ⟨rfl, e⟩
              simp only [Bool.false_eq_true, if_false, List.mem_append, List.mem_singleton]
              exact fun h => h.elim hni hxy
      · refine ⟨(((c + 1 : Nat) : Int), true, ((k + 1 : Nat) : Int), us'), ?_, rfl, hl', Or.inr ⟨rfl, hin, hre, rfl⟩⟩
        simp only [m_assessorref37_Bound_lp2]
        rw [if_pos (by simp [hkl]; omega), if_neg (by simp)]
        simp only [Option.bind_some]
        rw [if_neg (by simp)]
        simp only [Option.bind_some]
        rw [if_neg (by simp)]
        simp only [Option.bind_some]
        rw [if_neg (by simp), inK_succ (by omega)]
        rfl)
    (by
      rintro ⟨c', found, z, us'⟩ ⟨e, hl', hs⟩
      simp only at e hl' hs
      rw [Nat.zero_add] at e hs
      subst e
      refine ⟨(c', us'), ?_, hl', ?_⟩
      · simp only [m_assessorref37_Bound_lp2]
        rw [if_neg (by simp [hkl])]
      · rcases hs with ⟨_, rfl, rfl, hni⟩ | ⟨_, hin, hre, rfl⟩
        · rw [List.take_of_length_le (by omega), List.take_of_length_le (by omega)] at hni
          rw [if_neg hni, if_neg hni]
          exact ⟨rfl, rfl⟩
        · rw [if_pos hin, if_pos hin]
          exact ⟨rfl, hre⟩)
  obtain ⟨c', us'⟩ := r
  simp only at hp
  refine ⟨us', hp.1, ?_, hp.2.2⟩
  rw [hr, hp.2.1]
theorem rBound_m (a b : Node) (ha : cntN a ≤ 100000) (hb : cntN b ≤ 100000) : m_assessorref37_Bound a b = some ((max (cntN a) (cntN b) - inter (plabs a) (plabs b) : Nat) : Int) := by
  unfold m_assessorref37_Bound
  rw [rflat_m a ha]
  simp only [Option.bind_some]
  rw [rflat_m b hb]
  simp only [Option.bind_some]
  have la := plabs_len a
  have lb := plabs_len b
  have ka := rOf_len a
  have kb := rOf_len b
  rw [ka, kb, mkc_ok (by omega)]
  simp only [Option.bind_some, Int.toNat_natCast]
  obtain ⟨r, hr, hp⟩ := loop_for (body := fun s => m_assessorref37_Bound_lp1 (rOf a) (rOf b) s.1 s.2.1 s.2.2) (fun i s => s.2.1 = (i : Int) ∧ ∃ c : Nat, s.1 = (c : Int) ∧ c ≤ i ∧ s.2.2.length = cntN b ∧ c + inter ((plabs a).drop i) (rem (plabs b) s.2.2) = inter (plabs a) (plabs b)) (fun r => r.1 = ((inter (plabs a) (plabs b) : Nat) : Int)) (cntN a) 0 (0, 0, List.replicate (cntN b) false)
    ⟨rfl, 0, rfl, Nat.le_refl _, by simp, by rw [← lb, rem_all]; simp⟩
    (by
      rintro i ⟨c0, z, us⟩ _ hi ⟨e, c, e2, hci, hul, hinv⟩
      simp only at e e2 hul hinv
      subst e; subst e2
      obtain ⟨x, hx⟩ := get_of_lt (l := plabs a) (k := i) (by omega)
      obtain ⟨us', h1, h2, h3⟩ := rfind_m a b hb hx (c := c) (by omega) hul
      rw [drop_cons_of hx, inter_cons] at hinv
      refine ⟨(((c + (if x ∈ rem (plabs b) us then 1 else 0) : Nat) : Int), ((i + 1 : Nat) : Int), us'), ?_, rfl, _, rfl, by split <;> omega, h1, ?_⟩
      · simp only [m_assessorref37_Bound_lp1]
        rw [if_pos (by simp [ka]; omega), h2]
        simp only [Option.bind_some]
        rw [inK_succ (by omega)]
        rfl
      · simp only
        rw [h3]
        split
        · rename_i h; rw [if_pos h] at hinv; omega
        · rename_i h; rw [if_neg h] at hinv; omega)
    (by
      rintro ⟨c0, z, us⟩ ⟨e, c, e2, hci, hul, hinv⟩
      simp only at e e2 hul hinv
      rw [Nat.zero_add] at e hinv
      subst e; subst e2
      rw [List.drop_of_length_le (by omega), inter_nil, Nat.add_zero] at hinv
      refine ⟨((c : Int), us), ?_, by simp only; rw [hinv]⟩
      simp only [m_assessorref37_Bound_lp1]
      rw [if_neg (by simp [ka])])
  rw [hr]
  simp only [Option.bind_some]
  have h1 := inter_le (plabs a) (plabs b)
  have h2 := inter_le (plabs b) (plabs a)
  rw [inter_comm] at h2
  rw [hp, inK_eq (by omega)]
  simp only [Option.bind_some]
  congr 1
  omega
theorem law_DistanceForm (p0 : Node) (p1 : Node) (h0 : NodeWf p0) (h1 : NodeWf p1) : m_assessorlaw37_DistanceForm p0 p1 = some true := by
  unfold m_assessorlaw37_DistanceForm
  rw [awake_m]
  simp only [Option.bind_some]
  obtain ⟨x, hx, k1⟩ := few_m p0 p1 20 (by omega) (by omega)
  rw [if_neg (by simp), hx]
  simp only [Option.bind_some]
  cases x with
  | false => simp
  | true =>
    have c0 := k1 rfl
    rw [if_neg (by simp), Distance_m p0 p1 (by omega) (by omega)]
    simp only [Option.bind_some]
    obtain ⟨o, ho, hs⟩ := Subtrees_m p0 p1 (by omega) (by omega)
    obtain ⟨o', ho', hs'⟩ := rSubtrees_m p0 p1 (by omega) (by omega)
    rw [ho]
    simp only [Option.bind_some]
    rw [ho']
    simp only [Option.bind_some]
    obtain ⟨r, t1, t2⟩ := hs'.top
    rw [if_neg (by simp), t1]
    simp only [Option.bind_some]
    rw [t2]
    simp only [Option.bind_some]
    rw [if_neg (by simp), Bound_m p0 p1 (by omega) (by omega), rBound_m p0 p1 (by omega) (by omega)]
    simp only [Option.bind_some]
    rw [if_neg (by simp [hs.dim.rows, hs'.dim.rows])]
    have hin : ∀ (p : Nat) (row : List Int), p < cntN p0 → o'[p]? = some row → (loopM (fun s => m_assessorlaw37_DistanceForm_lp2 (o, 0) o' (p : Int) row s) 0 : Option (Out Unit Bool)) = some (.brk ()) := by
      intro p row hp hrow
      have hrl := hs'.dim.cols row (List.mem_of_getElem? hrow)
      refine loop_from (fun q => (q : Int)) (cntN p1) rfl (fun q hq => ?_) ?_
      · obtain ⟨r1, v1, a1, a2, a3, _⟩ := hs.dim.get (s := p) (t := q) hp hq
        obtain ⟨r2, v2, b1, b2, b3, _⟩ := hs'.dim.get (s := p) (t := q) hp hq
        have e := hs.ext hs' hp hq
        rw [a3, b3] at e
        obtain rfl := Option.some.inj e
        simp only [m_assessorlaw37_DistanceForm_lp2]
        rw [if_pos (by simp [hrl]; omega), idx_nat a1]
        simp only [Option.bind_some]
        rw [idx_nat a2]
        simp only [Option.bind_some]
        rw [idx_nat b1]
        simp only [Option.bind_some]
        rw [idx_nat b2]
        simp only [Option.bind_some]
        rw [if_neg (by simp), inK_succ (by omega)]
        rfl
      · simp only [m_assessorlaw37_DistanceForm_lp2]
        rw [if_neg (by simp [hrl])]
    have hout : (loopM (fun s => m_assessorlaw37_DistanceForm_lp1 (o, 0) o' s) 0 : Option (Out Unit Bool)) = some (.brk ()) := by
      refine loop_from (fun p => (p : Int)) (cntN p0) rfl (fun p hp => ?_) ?_
      · obtain ⟨r1, hr1⟩ := get_of_lt (l := o) (k := p) (by rw [hs.dim.rows]; exact hp)
        obtain ⟨r2, hr2⟩ := get_of_lt (l := o') (k := p) (by rw [hs'.dim.rows]; exact hp)
        have l1 := hs.dim.cols r1 (List.mem_of_getElem? hr1)
        have l2 := hs'.dim.cols r2 (List.mem_of_getElem? hr2)
        simp only [m_assessorlaw37_DistanceForm_lp1]
        rw [if_pos (by simp [hs'.dim.rows]; omega), idx_nat hr1]
        simp only [Option.bind_some]
        rw [idx_nat hr2]
        simp only [Option.bind_some]
        rw [if_neg (by simp [l1, l2]), hin p r2 hp hr2]
        simp only [Option.bind_some]
        rw [inK_succ (by omega)]
        rfl
      · simp only [m_assessorlaw37_DistanceForm_lp1]
        rw [if_neg (by simp [hs'.dim.rows])]
    rw [hout]
    rfl
end Go.Proofs.Ytnnccbagbgndpaa
