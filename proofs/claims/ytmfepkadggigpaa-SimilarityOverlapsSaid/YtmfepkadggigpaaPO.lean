/-
  The laws of overlaps: both compute the same; each match is in one of them; mirrored, they are those of the other direction. No program is named.
-/
import Derived.Test.YtmfepkadggigpaaPK
import Derived.Test.YtmfepkadggigpaaWOM
import Derived.Test.YtmfepkadggigpaaWXM
set_option linter.unusedVariables false
set_option linter.unusedSimpArgs false
namespace Go.Proofs.Ytmfepkadggigpaa
open Go.RowKit
theorem law_SimilarityOverlaps (p0 : (List Mark)) (p1 : (List Mark)) (p2 : Int) (h0 : LW (fun a : Mark => I64 a.hash ∧ I64 a.at_) p0) (z0 : p0.length * 16 ≤ 140737488351232) (h1 : LW (fun a : Mark => I64 a.hash ∧ I64 a.at_) p1) (z1 : p1.length * 16 ≤ 140737488351232) (h2 : (Lit.int .i64 p2).wf = true) : m_assessorlaw44_SimilarityOverlaps p0 p1 p2 = some true := by
  have main : p0.length ≤ 600 → p1.length ≤ 600 → ((m_similarity_Overlaps p0 p1 p2).bind fun x4 => (m_assessorref44_Overlaps p0 p1 p2).bind fun x5 => ((if (decide (x4.2 = x5.2)) = true then (m_assessorlaw44_overlaps x4.1 x5.1).bind fun x6 => some x6 else some false) : Option Bool).bind fun m3 => some m3) = some true := by
    intro l0 l1
    by_cases hb : (p2 < 1 ∨ 64 < p2) ∨ ¬ AtOk p0 ∨ ¬ AtOk p1
    · rw [Overlaps_bad p0 p1 p2 ⟨by omega, by omega⟩ hb, OverlapsR_bad p0 p1 p2 ⟨by omega, by omega⟩ hb]
      simp only [Option.bind_some]
      rw [if_pos (by simp), overlaps_eq _ _ (by simp)]
      rfl
    · have hk : 1 ≤ p2 ∧ p2 ≤ 64 := by
        constructor
        · exact Classical.byContradiction fun h => hb (Or.inl (Or.inl (by omega)))
        · exact Classical.byContradiction fun h => hb (Or.inl (Or.inr (by omega)))
      have oa : AtOk p0 := Classical.byContradiction fun h => hb (Or.inr (Or.inl h))
      have ob : AtOk p1 := Classical.byContradiction fun h => hb (Or.inr (Or.inr h))
      by_cases hl : 256 < p0.length ∨ 256 < p1.length
      · rw [Overlaps_large p0 p1 p2 ⟨by omega, by omega⟩ oa ob hk hl, OverlapsR_large p0 p1 p2 ⟨by omega, by omega⟩ oa ob hk hl]
        simp only [Option.bind_some]
        rw [if_pos (by simp), overlaps_eq _ _ (by simp)]
        rfl
      · obtain ⟨r, r1, r2⟩ := Overlaps_m p0 p1 p2 (by omega) (by omega) oa ob hk
        obtain ⟨s, s1, s2⟩ := OverlapsR_m p0 p1 p2 (by omega) (by omega) oa ob hk
        obtain rfl := r2.one s2
        have hfew := ov_few oa ob r2.2.1 fun o ho => (r2.2.2 o).1 ho
        rw [r1, s1]
        simp only [Option.bind_some]
        rw [if_pos (by simp), overlaps_eq _ _ (by omega), decide_eq_true rfl]
        rfl
  unfold m_assessorlaw44_SimilarityOverlaps
  rw [awake_m]
  simp only [Option.bind_some, Bool.not_true, Bool.false_eq_true, if_false]
  rw [few_m _ 2 25 (by unfold maxLen; simp)]
  simp only [Option.bind_some]
  by_cases hf : (∀ a ∈ [p0, p1], (a.length : Int) ≤ 25) ∧ (([p0, p1] : List (List Mark)).length : Int) ≤ 2
  · have w0 := hf.1 p0 (by simp)
    have w1 := hf.1 p1 (by simp)
    rw [decide_eq_true hf]
    simp only [Bool.not_true, Bool.false_eq_true, if_false, Option.bind_some]
    exact main (by omega) (by omega)
  · rw [decide_eq_false hf]
    simp only [Bool.not_false, if_true]
    by_cases hs : p0.length ≤ 256 ∧ p1.length ≤ 256
    · rw [if_pos (by simp; omega)]
      rfl
    · rw [if_neg (by simp; omega), inK_eq (by omega)]
      simp only [Option.bind_some]
      by_cases h6 : p0.length + p1.length ≤ 600
      · rw [if_neg (by simp; omega)]
        exact main (by omega) (by omega)
      · rw [if_pos (by simp; omega)]
def mir (o : Overlap) : Overlap := ⟨o.b, o.a, o.len⟩
theorem Pl_mir {a b : List Mark} {d i : Int} : Pl b a (-d) (i + d) ↔ Pl a b d i := by
  unfold Pl
  constructor
  · rintro ⟨y, hy, x, hx, h1, h2, h3⟩
    exact ⟨x, hx, y, hy, h1.symm, by omega, by omega⟩
  · rintro ⟨x, hx, y, hy, h1, h2, h3⟩
    exact ⟨y, hy, x, hx, h1.symm, by omega, by omega⟩
theorem Run_mir {a b : List Mark} {d k f l : Int} (h : Run (Pl a b d) k f l) : Run (Pl b a (-d)) k (f + d) (l + d) := by
  have sh : ∀ x, Pl b a (-d) x → Pl a b d (x - d) := fun x hx => Pl_mir.1 (by rw [show x - d + d = x by omega]; exact hx)
  refine ⟨Pl_mir.2 h.first, Pl_mir.2 h.last, by have := h.le; omega, fun x hx hlt => ?_, fun x hx hlt => ?_, fun x hx h1 h2 => ?_⟩
  · have := h.before _ (sh x hx) (by omega); omega
  · have := h.behind _ (sh x hx) (by omega); omega
  · obtain ⟨y, y1, y2, y3⟩ := h.chain _ (sh x hx) (by omega) (by omega)
    exact ⟨y + d, Pl_mir.2 y1, by omega, by omega⟩
theorem Ov_mir {a b : List Mark} {k : Int} {o : Overlap} (h : OvMem a b k o) : OvMem b a k (mir o) := by
  rw [OvMem_iff] at *
  obtain ⟨d, f, l, r, rfl⟩ := h
  refine ⟨-d, f + d, l + d, Run_mir r, ?_⟩
  unfold mir
  rw [Overlap.mk.injEq]
  refine ⟨rfl, ?_, ?_⟩ <;> (simp only; omega)
theorem law_SimilarityMatches (p0 : (List Mark)) (p1 : (List Mark)) (p2 : Int) (h0 : LW (fun a : Mark => I64 a.hash ∧ I64 a.at_) p0) (h1 : LW (fun a : Mark => I64 a.hash ∧ I64 a.at_) p1) (h2 : (Lit.int .i64 p2).wf = true) : m_assessorlaw44_SimilarityMatches p0 p1 p2 = some true := by
  unfold m_assessorlaw44_SimilarityMatches
  rw [awake_m]
  simp only [Option.bind_some, Bool.not_true, Bool.false_eq_true, if_false]
  rw [few_m _ 2 25 (by unfold maxLen; simp)]
  simp only [Option.bind_some]
  by_cases hf : (∀ a ∈ [p0, p1], (a.length : Int) ≤ 25) ∧ (([p0, p1] : List (List Mark)).length : Int) ≤ 2
  · have w0 := hf.1 p0 (by simp)
    have w1 := hf.1 p1 (by simp)
    rw [decide_eq_true hf]
    simp only [Bool.not_true, Bool.false_eq_true, if_false]
    by_cases hb : (p2 < 1 ∨ 64 < p2) ∨ ¬ AtOk p0 ∨ ¬ AtOk p1
    · have hb' : (p2 < 1 ∨ 64 < p2) ∨ ¬ AtOk p1 ∨ ¬ AtOk p0 := by
        rcases hb with h | h | h
        · exact Or.inl h
        · exact Or.inr (Or.inr h)
        · exact Or.inr (Or.inl h)
      rw [Overlaps_bad p0 p1 p2 ⟨by omega, by omega⟩ hb, Overlaps_bad p1 p0 p2 ⟨by omega, by omega⟩ hb']
      simp only [Option.bind_some]
      rw [if_neg (by simp), if_pos (by simp)]
      rfl
    · have hk : 1 ≤ p2 ∧ p2 ≤ 64 := by
        constructor
        · exact Classical.byContradiction fun h => hb (Or.inl (Or.inl (by omega)))
        · exact Classical.byContradiction fun h => hb (Or.inl (Or.inr (by omega)))
      have oa : AtOk p0 := Classical.byContradiction fun h => hb (Or.inr (Or.inl h))
      have ob : AtOk p1 := Classical.byContradiction fun h => hb (Or.inr (Or.inr h))
      obtain ⟨r, r1, r2, r3, r4⟩ := Overlaps_m p0 p1 p2 (by omega) (by omega) oa ob hk
      obtain ⟨s, s1, s2, s3, s4⟩ := Overlaps_m p1 p0 p2 (by omega) (by omega) ob oa hk
      have hfr := ov_few oa ob r3 fun o ho => (r4 o).1 ho
      have hfs := ov_few ob oa s3 fun o ho => (s4 o).1 ho
      have hrng : ∀ o ∈ r, 0 ≤ o.a ∧ o.a ≤ 2048 ∧ 0 ≤ o.b ∧ o.b ≤ 2048 ∧ p2 ≤ o.len ∧ o.len ≤ 2048 + p2 := fun o ho => by
        have := OvD.range oa ob ((r4 o).1 ho); omega
      have hmm : ∀ o : Overlap, mir (mir o) = o := fun o => rfl
      have hlen : r.length = s.length := by
        have hp : (r.map mir).Perm s := by
          refine (List.perm_ext_iff_of_nodup ?_ s3).2 fun o => ?_
          · rw [List.nodup_iff_pairwise_ne, List.pairwise_map]
            rw [List.nodup_iff_pairwise_ne] at r3
            exact r3.imp fun {x y} h e => h (by have := congrArg mir e; rwa [hmm, hmm] at this)
          · rw [List.mem_map, s4]
            constructor
            · rintro ⟨o', h, rfl⟩; exact Ov_mir ((r4 o').1 h)
            · intro h; exact ⟨mir o, (r4 _).2 (Ov_mir h), hmm o⟩
        simpa using hp.length_eq
      rw [r1, s1]
      simp only [Option.bind_some]
      rw [if_neg (by simp [hlen]), if_neg (by simp)]
      -- mirrored
      have l1 : ∃ m, loopM (fun t : Int × List (Overlap × Bool) => m_assessorlaw44_SimilarityMatches_lp1 (s, 0) t.1 t.2) (0, []) = some m ∧ ∀ o, mir o ∈ s → mget m o = some true := by
        obtain ⟨m, e1, e2⟩ := loopM_inv (body := fun t : Int × List (Overlap × Bool) => m_assessorlaw44_SimilarityMatches_lp1 (s, 0) t.1 t.2) (fun t => ∃ k : Nat, t.1 = k ∧ k ≤ s.length ∧ ∀ o, mir o ∈ s.take k → mget t.2 o = some true) (fun t => s.length - t.1.toNat) (fun m => ∀ o, mir o ∈ s → mget m o = some true) (by
          rintro ⟨k', m⟩ ⟨k, rfl, hk, hI⟩
          simp only at hI
          by_cases hkl : k < s.length
          · obtain ⟨o, ho⟩ := get_of_lt hkl
            refine Or.inl ⟨(((k + 1 : Nat) : Int), mput m (mir o) true), ?_, ⟨k + 1, rfl, by omega, fun q hq => ?_⟩, by simp; omega⟩
            · simp only [m_assessorlaw44_SimilarityMatches_lp1]
              rw [if_pos (by simpa using hkl), idx_nat ho]
              simp only [Option.bind_some]
              rw [inK_succ (by omega)]
              rfl
            · simp only
              rw [mget_mput]
              split
              · rfl
              · rename_i hne
                rw [take_snoc_of ho, List.mem_append, List.mem_singleton] at hq
                rcases hq with hq | hq
                · exact hI q hq
                · exact absurd (by rw [← hq, hmm]) hne
          · have : k = s.length := by omega
            subst this
            refine Or.inr ⟨m, ?_, ?_⟩
            · simp only [m_assessorlaw44_SimilarityMatches_lp1]
              rw [if_neg (by simp)]
            · rw [List.take_length] at hI; exact hI) (0, []) ⟨0, rfl, by omega, fun o ho => by simp at ho⟩
        exact ⟨m, e1, e2⟩
      obtain ⟨m, m1, m2⟩ := l1
      rw [m1]
      simp only [Option.bind_some]
      -- apart
      have hap : ∀ o ∈ r, ∀ q ∈ r, o ≠ q → o.b - o.a = q.b - q.a → o.a ≤ q.a + q.len → q.a ≤ o.a + o.len → False := by
        intro o ho q hq hne hd g1 g2
        have ho' := (r4 o).1 ho
        have hq' := (r4 q).1 hq
        unfold OvMem at ho' hq'
        rw [← hd] at hq'
        generalize o.b - o.a = d at ho' hq'
        obtain ⟨f, l, rr, rfl⟩ := ho'
        obtain ⟨f', l', rr', rfl⟩ := hq'
        simp only at g1 g2
        rcases Int.lt_trichotomy f f' with h | h | h
        · have := rr.apart rr' h; omega
        · subst h; exact hne (by rw [rr.one rr'])
        · have := rr'.apart rr h; omega
      have l2 : loopM (fun t => m_assessorlaw44_SimilarityMatches_lp2 p2 (r, 0) m t) 0 = some (.brk ()) := by
        refine loop_from (fun k => (k : Int)) r.length rfl (fun k hk => ?_) ?_
        · obtain ⟨o, ho⟩ := get_of_lt hk
          have hom := List.mem_of_getElem? ho
          have ro := hrng o hom
          simp only [m_assessorlaw44_SimilarityMatches_lp2]
          rw [if_pos (by simpa using hk), idx_nat ho]
          simp only [Option.bind_some]
          rw [m2 o ((s4 _).2 (Ov_mir ((r4 o).1 hom)))]
          rw [if_neg (by simp; omega)]
          have hprev : ((if (decide (0 < (k : Int))) = true then (inK .i64 ((k : Int) - 1)).bind fun x8 => (idx r x8).bind fun x9 => some (decide (x9.len < o.len)) else some false) : Option Bool) = some false := by
            cases k with
            | zero => rfl
            | succ j =>
              obtain ⟨q, hq⟩ := get_of_lt (l := r) (k := j) (by omega)
              rw [if_pos (by simp <;> omega), inK_eq (by omega)]
              have e : ((j + 1 : Nat) : Int) - 1 = (j : Int) := by omega
              simp only [Option.bind_some]
              rw [e, idx_nat hq]
              simp only [Option.bind_some, Option.some.injEq, decide_eq_false_iff_not]
              obtain ⟨p1', q1⟩ := List.getElem?_eq_some_iff.1 hq
              obtain ⟨p2', q2⟩ := List.getElem?_eq_some_iff.1 ho
              have := List.pairwise_iff_getElem.1 r2 j (j + 1) p1' p2' (by omega)
              rw [q1, q2, ovLe_iff] at this
              omega
          rw [hprev]
          simp only [Option.bind_some, Bool.false_eq_true, if_false]
          rw [sub_ok (by omega) (by omega) (by omega)]
          simp only [Option.bind_some, Int.toNat_natCast, Int.toNat_zero, List.drop_zero]
          have l3 : loopM (fun t => m_assessorlaw44_SimilarityMatches_lp3 o (r.take k) t) 0 = some (.brk ()) := by
            refine loop_from (fun j => (j : Int)) (r.take k).length rfl (fun j hj => ?_) ?_
            · obtain ⟨q, hq⟩ := get_of_lt hj
              have hqr : r[j]? = some q := by rw [List.getElem?_take] at hq; split at hq; exact hq; cases hq
              have hqm := List.mem_of_getElem? hqr
              have rq := hrng q hqm
              rw [List.length_take] at hj
              have hne : o ≠ q := fun e => by
                subst e
                have := (List.getElem?_inj (by omega) r3).1 (hqr.trans ho.symm)
                omega
              simp only [m_assessorlaw44_SimilarityMatches_lp3]
              rw [if_pos (by simp; omega), idx_nat hq]
              simp only [Option.bind_some]
              rw [inK_eq (n := q.b - q.a) (by omega), inK_eq (n := o.b - o.a) (by omega)]
              simp only [Option.bind_some]
              by_cases g1 : q.b - q.a = o.b - o.a
              · rw [if_pos (by simpa using g1), inK_eq (n := o.a + o.len) (by omega)]
                simp only [Option.bind_some]
                by_cases g2 : q.a ≤ o.a + o.len
                · rw [if_pos (by simpa using g2), inK_eq (n := q.a + q.len) (by omega)]
                  simp only [Option.bind_some]
                  rw [if_neg (by simp only [decide_eq_true_eq]; exact fun g3 => hap o hom q hqm hne g1.symm g3 g2), inK_succ (by omega)]
                  rfl
                · rw [if_neg (by simpa using g2)]
                  simp only [Option.bind_some, Bool.false_eq_true, if_false]
                  rw [inK_succ (by omega)]
                  rfl
              · rw [if_neg (by simpa using g1)]
                simp only [Option.bind_some, Bool.false_eq_true, if_false]
                rw [inK_succ (by omega)]
                rfl
            · simp only [m_assessorlaw44_SimilarityMatches_lp3]
              rw [if_neg (by simp)]
          rw [l3]
          simp only [Option.bind_some]
          rw [inK_succ (by omega)]
          rfl
        · simp only [m_assessorlaw44_SimilarityMatches_lp2]
          rw [if_neg (by simp)]
      rw [l2]
      simp only [Option.bind_some]
      refine bind_loop (fun k => (k : Int)) p0.length (.brk ()) rfl (fun k hk => ?_) ?_ rfl
      · obtain ⟨x, hx⟩ := get_of_lt hk
        have hxm := List.mem_of_getElem? hx
        have rx := oa x hxm
        simp only [m_assessorlaw44_SimilarityMatches_lp4]
        rw [if_pos (by simpa using hk), idx_nat hx]
        simp only [Option.bind_some]
        refine bind_loop (fun j => (j : Int)) p1.length (.brk ()) rfl (fun j hj => ?_) ?_ (by
          simp only
          rw [inK_succ (by omega)]
          rfl)
        · obtain ⟨y, hy⟩ := get_of_lt hj
          have hym := List.mem_of_getElem? hy
          have ry := ob y hym
          simp only [m_assessorlaw44_SimilarityMatches_lp5]
          rw [if_pos (by simpa using hj), idx_nat hy]
          simp only [Option.bind_some]
          by_cases hh : x.hash = y.hash
          · rw [if_neg (by simp [hh])]
            -- in how many?
            let c : Overlap → Bool := fun o => decide (o.b - o.a = y.at_ - x.at_ ∧ o.a ≤ x.at_ ∧ x.at_ + p2 ≤ o.a + o.len)
            have hP : Pl p0 p1 (y.at_ - x.at_) x.at_ := ⟨x, hxm, y, hym, hh, rfl, rfl⟩
            obtain ⟨f, l, hr, hf1, hf2⟩ := Run.ex (k := p2) (M := 2048) (by omega) (fun i hi => by have := Pl.range oa ob hi; omega) _ x.at_ rfl hP
            have ho0 : (⟨f, f + (y.at_ - x.at_), l - f + p2⟩ : Overlap) ∈ r.filter c := by
              rw [List.mem_filter]
              refine ⟨(r4 _).2 (OvMem_iff.2 ⟨_, f, l, hr, rfl⟩), ?_⟩
              show decide _ = true
              rw [decide_eq_true_eq]
              simp only
              omega
            have hall : ∀ o ∈ r.filter c, o = ⟨f, f + (y.at_ - x.at_), l - f + p2⟩ := by
              intro o ho
              rw [List.mem_filter] at ho
              obtain ⟨g1, g2⟩ := ho
              have g3 : o.b - o.a = y.at_ - x.at_ ∧ o.a ≤ x.at_ ∧ x.at_ + p2 ≤ o.a + o.len := of_decide_eq_true g2
              obtain ⟨g3, g4, g5⟩ := g3
              have g6 := (r4 o).1 g1
              unfold OvMem at g6
              rw [g3] at g6
              obtain ⟨f', l', hr', rfl⟩ := g6
              simp only at g4 g5
              rcases Int.lt_trichotomy f f' with h | h | h
              · have := hr.apart hr' h; omega
              · subst h; rw [hr.one hr']
              · have := hr'.apart hr h; omega
            have hone : (r.filter c).length = 1 := by
              have h3 := r3.filter c
              have h4 := nodup_sub h3 (m := [⟨f, f + (y.at_ - x.at_), l - f + p2⟩]) fun o ho => by rw [List.mem_singleton]; exact hall o ho
              have h5 := List.length_pos_of_mem ho0
              simp only [List.length_singleton] at h4
              omega
            have l6 : loopM (fun t : Int × Int => m_assessorlaw44_SimilarityMatches_lp6 p2 (r, 0) x y t.1 t.2) (0, 0) = some 1 := by
              refine loop_from (fun i => ((((r.take i).filter c).length : Int), (i : Int))) r.length (by simp) (fun i hi => ?_) ?_
              · obtain ⟨o, ho⟩ := get_of_lt hi
                have ro := hrng o (List.mem_of_getElem? ho)
                have hfl := List.length_filter_le c (r.take i)
                rw [List.length_take] at hfl
                simp only [m_assessorlaw44_SimilarityMatches_lp6]
                rw [if_pos (by simpa using hi), idx_nat ho]
                simp only [Option.bind_some]
                rw [inK_eq (n := o.b - o.a) (by omega), inK_eq (n := y.at_ - x.at_) (by omega)]
                simp only [Option.bind_some]
                have hc : ((if ((decide (o.b - o.a = y.at_ - x.at_)) && (decide (o.a ≤ x.at_))) = true then (inK .i64 (x.at_ + p2)).bind fun x23 => (inK .i64 (o.a + o.len)).bind fun x24 => some (decide (x23 ≤ x24)) else some false) : Option Bool) = some (c o) := by
                  show _ = some (decide _)
                  by_cases g : o.b - o.a = y.at_ - x.at_ ∧ o.a ≤ x.at_
                  · rw [if_pos (by simpa using g), inK_eq (n := x.at_ + p2) (by omega), inK_eq (n := o.a + o.len) (by omega)]
                    simp only [Option.bind_some, Option.some.injEq]
                    rw [decide_eq_decide]
                    exact ⟨fun h => ⟨g.1, g.2, h⟩, fun h => h.2.2⟩
                  · rw [if_neg (by simpa using g)]
                    rw [eq_comm, Option.some.injEq, decide_eq_false_iff_not]
                    exact fun h => g ⟨h.1, h.2.1⟩
                rw [hc, take_snoc_of ho, filterMap_app, inK_succ (k := i) (by omega)]
                simp only [Option.bind_some]
                cases hco : c o with
                | true =>
                  rw [if_pos rfl, inK_succ (by omega)]
                  simp
                | false =>
                  rw [if_neg (by simp)]
                  simp
              · simp only [m_assessorlaw44_SimilarityMatches_lp6]
                rw [if_neg (by simp), List.take_length, hone]
                rfl
            rw [l6]
            simp only [Option.bind_some]
            rw [if_neg (by simp)]
            simp only [Option.bind_some]
            rw [inK_succ (by omega)]
            rfl
          · rw [if_pos (by simp [hh])]
            simp only [Option.bind_some]
            rw [inK_succ (by omega)]
            rfl
        · simp only [m_assessorlaw44_SimilarityMatches_lp5]
          rw [if_neg (by simp)]
      · simp only [m_assessorlaw44_SimilarityMatches_lp4]
        rw [if_neg (by simp)]
  · rw [decide_eq_false hf]
    simp
end Go.Proofs.Ytmfepkadggigpaa
