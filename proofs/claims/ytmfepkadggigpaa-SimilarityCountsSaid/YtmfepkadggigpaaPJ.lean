/-
  Overlaps, as the reference computes them: the runs of a diagonal from left to right. No program is named.
-/
import Derived.Test.YtmfepkadggigpaaPI
set_option linter.unusedVariables false
set_option linter.unusedSimpArgs false
namespace Go.Proofs.Ytmfepkadggigpaa
open Go.RowKit
/-- What is known before a place: no run, or one from f to l. -/
inductive Seen (P : Int → Prop) (k : Int) (T : List Int) (Q : Int → Prop) : Int → Int → Prop
  | none : (∀ x ∈ T, ¬ P x) → (∀ c, Q c ↔ False) → Seen P k T Q (-1) (-1)
  | run (f l : Int) : 0 ≤ f → P f → P l → f ≤ l → l ∈ T → (∀ x ∈ T, P x → x ≤ l) → (∀ x, P x → x < f → x + k < f) → (∀ x, P x → f ≤ x → x < l → ∃ y, P y ∧ x < y ∧ y ≤ x + k) → (∀ c, Q c ↔ c < f) → Seen P k T Q f l
theorem line_m {a b : List Mark} (ha : a.length ≤ 256) (hb : b.length ≤ 256) (oa : AtOk a) (ob : AtOk b) (k d : Int) (hk : 1 ≤ k ∧ k ≤ 64) (hd : -2048 ≤ d ∧ d ≤ 2048) (X : List Int) (hXs : X.Pairwise (· < ·)) (hX : ∀ x, x ∈ X ↔ x ∈ a.map Mark.at_) (lX : X.length ≤ 256) (B : List Int) (n : Nat) (hB : B[n]? = some d)
    (out0 : List Overlap) (hs0 : out0.Pairwise fun x y => ovLe x y = true) (hn0 : out0.Nodup) (hm0 : ∀ o ∈ out0, OvMem a b k o ∧ o.b - o.a ≠ d) :
    ∃ out, loopM (fun s : Int × Int × Int × List Overlap => m_assessorref44_Overlaps_lp5 a b k X B (n : Int) s.1 s.2.1 s.2.2.1 s.2.2.2) (-1, -1, 0, out0) = some out ∧ (out.Pairwise fun x y => ovLe x y = true) ∧ out.Nodup ∧ ∀ o, o ∈ out ↔ o ∈ out0 ∨ OvD a b k d o := by
  have rX : ∀ x ∈ X, 0 ≤ x ∧ x ≤ 2048 := fun x hx => by
    obtain ⟨m, hm, rfl⟩ := List.mem_map.1 ((hX x).1 hx)
    exact oa m hm
  have PX : ∀ x, Pl a b d x → x ∈ X := fun x ⟨z, hz, y, hy, h1, h2, h3⟩ => (hX x).2 (List.mem_map.2 ⟨z, hz, h2⟩)
  have xmono : ∀ (p q : Nat) (x y : Int), p < q → X[p]? = some x → X[q]? = some y → x < y := by
    intro p q x y hpq hx hy
    obtain ⟨h1, e1⟩ := List.getElem?_eq_some_iff.1 hx
    obtain ⟨h2, e2⟩ := List.getElem?_eq_some_iff.1 hy
    have := List.pairwise_iff_getElem.1 hXs p q h1 h2 hpq
    rw [e1, e2] at this
    exact this
  have xtake : ∀ (i : Nat) (c x : Int), X[i]? = some c → x ∈ X → (x ∈ X.take i ↔ x < c) := by
    intro i c x hc hx
    constructor
    · intro h
      obtain ⟨j, hj⟩ := List.getElem?_of_mem h
      rw [List.getElem?_take] at hj
      split at hj
      · exact xmono j i x c (by assumption) hj hc
      · cases hj
    · intro h
      obtain ⟨j, hj⟩ := List.getElem?_of_mem hx
      have hji : j < i := Classical.byContradiction fun hn => by
        by_cases e : j = i
        · subst e; rw [hj] at hc; obtain rfl := Option.some.inj hc; omega
        · have := xmono i j c x (by omega) hc hj; omega
      rw [List.mem_iff_getElem?]
      exact ⟨j, by rw [List.getElem?_take, if_pos hji]; exact hj⟩
  -- a run's overlap goes to its place
  have emit : ∀ (s : List Overlap) (f l : Int), Run (Pl a b d) k f l → (s.Pairwise fun x y => ovLe x y = true) → s.Nodup → (∀ o, o ∈ s ↔ o ∈ out0 ∨ OvD a b k d o ∧ o.a < f) → ∃ s', ((idx B (n : Int)).bind fun x25 =>
      (inK .i64 (f + x25)).bind fun x26 =>
      (inK .i64 (l - f)).bind fun x27 =>
      (inK .i64 (x27 + k)).bind fun x28 =>
      (loopM (fun s' => m_assessorref44_Overlaps_lp6 f s x26 x28 s') (s.length : Int) : Option Int).bind fun b23 =>
      (sub s 0 b23).bind fun x33 =>
      (app ([] : List Overlap) x33).bind fun x34 =>
      (app x34 [(Overlap.mk f x26 x28)]).bind fun x35 =>
      (sub s b23 (s.length : Int)).bind fun x36 =>
      (app x35 x36).bind fun x37 =>
      some ((-1 : Int), x37)) = some (-1, s') ∧ (s'.Pairwise fun x y => ovLe x y = true) ∧ s'.Nodup ∧ ∀ o, o ∈ s' ↔ o ∈ out0 ∨ OvD a b k d o ∧ o.a ≤ l := by
    intro s f l hr hs hn hm
    have r1 := hr.first.range oa ob
    have r2 := hr.last.range oa ob
    have hmemS : ∀ o ∈ s, OvMem a b k o := fun o ho => by
      rcases (hm o).1 ho with h | h
      · exact (hm0 o h).1
      · exact h.1.mem
    have hfew := ov_few oa ob hn hmemS
    have hov : OvD a b k d ⟨f, f + d, l - f + k⟩ := ⟨f, l, hr, rfl⟩
    obtain ⟨s', e1, e2, e3⟩ := put_m s f (f + d) (l - f + k) (by omega) hs
    refine ⟨s', ?_, e2, ?_, fun o => ?_⟩
    · rw [idx_nat hB]
      simp only [Option.bind_some]
      rw [inK_eq (n := f + d) (by omega)]
      simp only [Option.bind_some]
      rw [inK_eq (n := l - f) (by omega)]
      simp only [Option.bind_some]
      rw [inK_eq (n := l - f + k) (by omega)]
      simp only [Option.bind_some]
      exact e1
    · rw [e3.nodup_iff, List.nodup_cons]
      refine ⟨fun h => ?_, hn⟩
      rcases (hm _).1 h with h | h
      · exact (hm0 _ h).2 (by simp only; omega)
      · have := h.2; simp only at this; omega
    · rw [e3.mem_iff, List.mem_cons, hm]
      constructor
      · rintro (rfl | h | ⟨h, h'⟩)
        · exact Or.inr ⟨hov, hr.le⟩
        · exact Or.inl h
        · exact Or.inr ⟨h, by have := hr.le; omega⟩
      · rintro (h | ⟨h, h'⟩)
        · exact Or.inr (Or.inl h)
        · rcases Int.lt_trichotomy o.a f with h1 | h1 | h1
          · exact Or.inr (Or.inr ⟨h, h1⟩)
          · exact Or.inl (OvD.one h hov h1)
          · exfalso
            obtain ⟨f', l', r', rfl⟩ := h
            simp only at h1 h'
            have := hr.apart r' h1
            omega
  obtain ⟨out, h1, h2, h3, h4⟩ := loopM_inv (body := fun s : Int × Int × Int × List Overlap => m_assessorref44_Overlaps_lp5 a b k X B (n : Int) s.1 s.2.1 s.2.2.1 s.2.2.2)
    (fun s => ∃ i : Nat, s.2.2.1 = i ∧ (s.2.2.2.Pairwise fun x y => ovLe x y = true) ∧ s.2.2.2.Nodup ∧ ((i ≤ X.length ∧ ∃ Q, Seen (Pl a b d) k (X.take i) Q s.1 s.2.1 ∧ ∀ o, o ∈ s.2.2.2 ↔ o ∈ out0 ∨ OvD a b k d o ∧ Q o.a) ∨ i = X.length + 1 ∧ ∀ o, o ∈ s.2.2.2 ↔ o ∈ out0 ∨ OvD a b k d o))
    (fun s => X.length + 1 - s.2.2.1.toNat) (fun out => (out.Pairwise fun x y => ovLe x y = true) ∧ out.Nodup ∧ ∀ o, o ∈ out ↔ o ∈ out0 ∨ OvD a b k d o) (by
    rintro ⟨f, l, i', s⟩ ⟨i, rfl, hs, hn, hor⟩
    simp only at hs hn hor
    rcases hor with ⟨hi, Q, hseen, hm⟩ | ⟨rfl, hm⟩
    · by_cases hil : i < X.length
      · obtain ⟨c, hc⟩ := get_of_lt hil
        have rc := rX c (List.mem_of_getElem? hc)
        have hm1 : ((if (decide ((i : Int) < (X.length : Int))) = true then (idx X (i : Int)).bind fun x18 => (idx X (i : Int)).bind fun x19 => (idx B (n : Int)).bind fun x20 => (inK .i64 (x19 + x20)).bind fun x21 => (m_assessorref44_match a b x18 x21).bind fun x22 => some x22 else some false) : Option Bool) = some (mt a b c (c + d)) := by
          rw [if_pos (by simpa using hil), idx_nat hc, idx_nat hB]
          simp only [Option.bind_some]
          rw [inK_eq (by omega)]
          simp only [Option.bind_some]
          rw [match_m a b c (c + d) (by omega) (by omega)]
          rfl
        have hin : (decide ((i : Int) = (X.length : Int))) = false := by simp; omega
        have hPc : mt a b c (c + d) = true ↔ Pl a b d c := by rw [mt_iff, show c + d - c = d by omega]
        have htk : ∀ x, x ∈ X.take (i + 1) ↔ x ∈ X.take i ∨ x = c := fun x => by rw [take_snoc_of hc, List.mem_append, List.mem_singleton]
        cases hmt : mt a b c (c + d) with
        | false =>
          have hnc : ¬ Pl a b d c := fun h => by rw [hPc.2 h] at hmt; cases hmt
          refine Or.inl ⟨(f, l, ((i + 1 : Nat) : Int), s), ?_, ⟨i + 1, rfl, hs, hn, Or.inl ⟨by omega, Q, ?_, hm⟩⟩, by simp; omega⟩
          · simp only [m_assessorref44_Overlaps_lp5]
            rw [if_pos (by simp; omega), hm1, hmt]
            simp only [Option.bind_some, Bool.false_eq_true, if_false, hin]
            by_cases hf : 0 ≤ f
            · rw [if_pos (by simpa using hf), if_neg (by simp)]
              simp only [Option.bind_some, Bool.false_eq_true, if_false]
              rw [if_neg (by simp), inK_succ (by omega)]
              rfl
            · rw [if_neg (by simpa using hf)]
              simp only [Option.bind_some, Bool.false_eq_true, if_false]
              rw [if_neg (by simp), inK_succ (by omega)]
              rfl
          · cases hseen with
            | none g1 g2 =>
              refine Seen.none (fun x hx => ?_) g2
              rcases (htk x).1 hx with h | h
              · exact g1 x h
              · rw [h]; exact hnc
            | run f l g0 g1 g2 g3 g4 g5 g6 g7 g8 =>
              refine Seen.run f l g0 g1 g2 g3 ((htk l).2 (Or.inl g4)) (fun x hx hP => ?_) g6 g7 g8
              rcases (htk x).1 hx with h | h
              · exact g5 x h hP
              · rw [h] at hP; exact absurd hP hnc
        | true =>
          have hc' : Pl a b d c := hPc.1 hmt
          cases hseen with
          | none g1 g2 =>
            refine Or.inl ⟨(c, c, ((i + 1 : Nat) : Int), s), ?_, ⟨i + 1, rfl, hs, hn, Or.inl ⟨by omega, fun x => x < c, Seen.run c c rc.1 hc' hc' (Int.le_refl _) ((htk c).2 (Or.inr rfl)) (fun x hx hP => ?_) (fun x hP hx => ?_) (fun x hP h1 h2 => by omega) (fun x => Iff.rfl), fun o => ?_⟩⟩, by simp; omega⟩
            · simp only [m_assessorref44_Overlaps_lp5]
              rw [if_pos (by simp; omega), hm1, hmt]
              simp only [Option.bind_some, if_true]
              rw [idx_nat hc]
              simp only [Option.bind_some]
              rw [if_neg (by simp)]
              simp only [Option.bind_some, Bool.false_eq_true, if_false]
              rw [if_pos (by simpa using rc.1), if_pos (by simp), inK_succ (by omega)]
              rfl
            · rcases (htk x).1 hx with h | rfl
              · exact absurd hP (g1 x h)
              · exact Int.le_refl _
            · exact absurd hP (g1 x ((xtake i c x hc (PX x hP)).2 hx))
            · simp only
              rw [hm]
              constructor
              · rintro (h | ⟨h, h'⟩)
                · exact Or.inl h
                · exact absurd h' (by rw [g2]; exact id)
              · rintro (h | ⟨h, h'⟩)
                · exact Or.inl h
                · exfalso
                  obtain ⟨f', l', r', rfl⟩ := h
                  exact g1 f' ((xtake i c f' hc (PX _ r'.first)).2 h') r'.first
          | run f l g0 g1 g2 g3 g4 g5 g6 g7 g8 =>
            have rl := rX l (PX l g2)
            have hlc : l < c := (xtake i c l hc (PX l g2)).1 g4
            by_cases hnear : c ≤ l + k
            · refine Or.inl ⟨(f, c, ((i + 1 : Nat) : Int), s), ?_, ⟨i + 1, rfl, hs, hn, Or.inl ⟨by omega, Q, Seen.run f c g0 g1 hc' (by omega) ((htk c).2 (Or.inr rfl)) (fun x hx hP => ?_) g6 (fun x hP h1 h2 => ?_) g8, hm⟩⟩, by simp; omega⟩
              · simp only [m_assessorref44_Overlaps_lp5]
                rw [if_pos (by simp; omega), hm1, hmt]
                simp only [Option.bind_some, if_true]
                rw [idx_nat hc]
                simp only [Option.bind_some, hin, Bool.false_eq_true, if_false]
                rw [if_pos (by simpa using g0), if_pos (by simpa using rc.1), inK_eq (n := l + k) (by omega)]
                simp only [Option.bind_some]
                rw [if_neg (by simp; omega)]
                simp only [Option.bind_some]
                rw [if_pos (by simpa using rc.1), if_neg (by simp; omega), inK_succ (by omega)]
                rfl
              · rcases (htk x).1 hx with h | rfl
                · have := g5 x h hP; omega
                · exact Int.le_refl _
              · by_cases hxl : x < l
                · exact g7 x hP h1 hxl
                · have := g5 x ((xtake i c x hc (PX x hP)).2 h2) hP
                  exact ⟨c, hc', h2, by omega⟩
            · have hrun : Run (Pl a b d) k f l := ⟨g1, g2, g3, g6, fun x hP hx => by
                by_cases hxc : x < c
                · have := g5 x ((xtake i c x hc (PX x hP)).2 hxc) hP; omega
                · omega, g7⟩
              obtain ⟨s', e1, e2, e3, e4⟩ := emit s f l hrun hs hn fun o => by rw [hm, g8]
              refine Or.inl ⟨(c, c, ((i + 1 : Nat) : Int), s'), ?_, ⟨i + 1, rfl, e2, e3, Or.inl ⟨by omega, fun x => x < c, Seen.run c c rc.1 hc' hc' (Int.le_refl _) ((htk c).2 (Or.inr rfl)) (fun x hx hP => ?_) (fun x hP hx => ?_) (fun x hP h1 h2 => by omega) (fun x => Iff.rfl), fun o => ?_⟩⟩, by simp; omega⟩
              · simp only [m_assessorref44_Overlaps_lp5]
                rw [if_pos (by simp; omega), hm1, hmt]
                simp only [Option.bind_some, if_true]
                rw [idx_nat hc]
                simp only [Option.bind_some, hin, Bool.false_eq_true, if_false]
                rw [if_pos (by simpa using g0), if_pos (by simpa using rc.1), inK_eq (n := l + k) (by omega)]
                simp only [Option.bind_some]
                rw [if_pos (by simp; omega), e1]
                simp only [Option.bind_some]
                rw [if_pos (by simpa using rc.1), if_pos (by simp), inK_succ (by omega)]
                rfl
              · rcases (htk x).1 hx with h | rfl
                · have := g5 x h hP; omega
                · exact Int.le_refl _
              · have := g5 x ((xtake i c x hc (PX x hP)).2 hx) hP
                omega
              · simp only
                rw [e4]
                constructor
                · rintro (h | ⟨h, h'⟩)
                  · exact Or.inl h
                  · exact Or.inr ⟨h, by omega⟩
                · rintro (h | ⟨h, h'⟩)
                  · exact Or.inl h
                  · refine Or.inr ⟨h, ?_⟩
                    obtain ⟨f', l', r', rfl⟩ := h
                    exact g5 f' ((xtake i c f' hc (PX _ r'.first)).2 h') r'.first
      · have : i = X.length := by omega
        subst this
        have htl : X.take X.length = X := List.take_length
        rw [htl] at hseen
        cases hseen with
        | none g1 g2 =>
          refine Or.inl ⟨(-1, -1, ((X.length + 1 : Nat) : Int), s), ?_, ⟨X.length + 1, rfl, hs, hn, Or.inr ⟨rfl, fun o => ?_⟩⟩, by simp⟩
          · simp only [m_assessorref44_Overlaps_lp5]
            rw [if_pos (by simp), if_neg (by simp)]
            simp only [Option.bind_some, Bool.false_eq_true, if_false]
            rw [if_neg (by simp)]
            simp only [Option.bind_some, Bool.false_eq_true, if_false]
            rw [if_neg (by simp), inK_succ (by omega)]
            rfl
          · simp only
            rw [hm]
            constructor
            · rintro (h | ⟨h, h'⟩)
              · exact Or.inl h
              · exact Or.inr h
            · rintro (h | h)
              · exact Or.inl h
              · exfalso
                obtain ⟨f', l', r', rfl⟩ := h
                exact g1 f' (PX _ r'.first) r'.first
        | run f l g0 g1 g2 g3 g4 g5 g6 g7 g8 =>
          have hrun : Run (Pl a b d) k f l := ⟨g1, g2, g3, g6, fun x hP hx => by
            have := g5 x (PX x hP) hP; omega, g7⟩
          obtain ⟨s', e1, e2, e3, e4⟩ := emit s f l hrun hs hn fun o => by rw [hm, g8]
          refine Or.inl ⟨(-1, l, ((X.length + 1 : Nat) : Int), s'), ?_, ⟨X.length + 1, rfl, e2, e3, Or.inr ⟨rfl, fun o => ?_⟩⟩, by simp⟩
          · simp only [m_assessorref44_Overlaps_lp5]
            rw [if_pos (by simp), if_neg (by simp)]
            simp only [Option.bind_some, Bool.false_eq_true, if_false]
            rw [if_pos (by simpa using g0), if_pos (by simp)]
            simp only [Option.bind_some, if_true]
            rw [e1]
            simp only [Option.bind_some]
            rw [if_neg (by simp), inK_succ (by omega)]
            rfl
          · simp only
            rw [e4]
            constructor
            · rintro (h | ⟨h, h'⟩)
              · exact Or.inl h
              · exact Or.inr h
            · rintro (h | h)
              · exact Or.inl h
              · refine Or.inr ⟨h, ?_⟩
                obtain ⟨f', l', r', rfl⟩ := h
                exact g5 f' (PX _ r'.first) r'.first
    · refine Or.inr ⟨s, ?_, hs, hn, hm⟩
      simp only [m_assessorref44_Overlaps_lp5]
      rw [if_neg (by simp; omega)]) (-1, -1, 0, out0) ⟨0, rfl, hs0, hn0, Or.inl ⟨by omega, fun _ => False, Seen.none (fun x hx => by simp at hx) (fun _ => Iff.rfl), fun o => by simp⟩⟩
  exact ⟨out, h1, h2, h3, h4⟩
theorem OverlapsR_m (a b : List Mark) (k : Int) (ha : a.length ≤ 256) (hb : b.length ≤ 256) (oa : AtOk a) (ob : AtOk b) (hk : 1 ≤ k ∧ k ≤ 64) : ∃ r, m_assessorref44_Overlaps a b k = some (r, 0) ∧ OvsIs a b k r := by
  unfold m_assessorref44_Overlaps
  rw [if_neg (by simp; omega), bad44_m a b (by omega) (by omega), bad44_iff.2 ⟨oa, ob⟩]
  simp only [Option.bind_some, Bool.false_eq_true, if_false]
  rw [if_neg (by simp; omega)]
  obtain ⟨X, x1, x2, x3, x4⟩ := places_m a (by omega)
  obtain ⟨Y, y1, y2, y3, y4⟩ := places_m b (by omega)
  rw [x1, y1]
  simp only [Option.bind_some]
  obtain ⟨D, d1, d2, d3, d4⟩ := diagR_m a b ha hb oa ob X Y x3 y3 (by omega) (by omega)
  rw [d1]
  simp only [Option.bind_some]
  obtain ⟨r, h1, h2, h3, h4⟩ := loopM_inv (body := fun s : Int × List Overlap => m_assessorref44_Overlaps_lp4 a b k X D s.1 s.2) (fun s => ∃ n : Nat, s.1 = n ∧ n ≤ D.length ∧ (s.2.Pairwise fun x y => ovLe x y = true) ∧ s.2.Nodup ∧ ∀ o, o ∈ s.2 ↔ OvMem a b k o ∧ o.b - o.a ∈ D.take n) (fun s => D.length - s.1.toNat) (fun r => (r.Pairwise fun x y => ovLe x y = true) ∧ r.Nodup ∧ ∀ o, o ∈ r ↔ OvMem a b k o ∧ o.b - o.a ∈ D) (by
    rintro ⟨n', s⟩ ⟨n, rfl, hn, h1, h2, h3⟩
    simp only at h1 h2 h3
    by_cases hnl : n < D.length
    · obtain ⟨d, hd⟩ := get_of_lt hnl
      obtain ⟨i, hi⟩ := (d4 d).1 (List.mem_of_getElem? hd)
      have hrd := hi.range oa ob
      have hnd : d ∉ D.take n := fun h => by
        obtain ⟨j, hj⟩ := List.getElem?_of_mem h
        rw [List.getElem?_take] at hj
        split at hj
        · rename_i hjn
          obtain ⟨p1, q1⟩ := List.getElem?_eq_some_iff.1 hj
          obtain ⟨p2, q2⟩ := List.getElem?_eq_some_iff.1 hd
          have := List.pairwise_iff_getElem.1 d2 j n p1 p2 hjn
          rw [q1, q2] at this
          omega
        · cases hj
      obtain ⟨s', e1, e2, e3, e4⟩ := line_m ha hb oa ob k d hk (by omega) X x2 x3 (by omega) D n hd s h1 h2 fun o ho => ⟨((h3 o).1 ho).1, fun e => hnd (by rw [← e]; exact ((h3 o).1 ho).2)⟩
      refine Or.inl ⟨(((n + 1 : Nat) : Int), s'), ?_, ⟨n + 1, rfl, by omega, e2, e3, fun o => ?_⟩, by simp; omega⟩
      · simp only [m_assessorref44_Overlaps_lp4]
        rw [if_pos (by simpa using hnl), e1]
        simp only [Option.bind_some]
        rw [inK_succ (by omega)]
        rfl
      · simp only
        rw [e4, h3, take_snoc_of hd, List.mem_append, List.mem_singleton]
        constructor
        · rintro (h | h)
          · exact ⟨h.1, Or.inl h.2⟩
          · exact ⟨h.mem, Or.inr h.diag⟩
        · rintro ⟨h, h' | h'⟩
          · exact Or.inl ⟨h, h'⟩
          · exact Or.inr (by rw [← h']; exact h)
    · have : n = D.length := by omega
      subst this
      refine Or.inr ⟨s, ?_, h1, h2, ?_⟩
      · simp only [m_assessorref44_Overlaps_lp4]
        rw [if_neg (by simp)]
      · rw [List.take_length] at h3; exact h3) (0, []) ⟨0, rfl, by omega, by simp, by simp, fun o => by simp⟩
  rw [h1]
  refine ⟨r, rfl, h2, h3, fun o => ?_⟩
  rw [h4]
  refine ⟨fun h => h.1, fun h => ⟨h, ?_⟩⟩
  rw [d4]
  obtain ⟨f, l, r, e⟩ := h
  exact ⟨f, r.first⟩
theorem OverlapsR_bad (a b : List Mark) (k : Int) (hl : a.length ≤ 2000000 ∧ b.length ≤ 2000000) (h : (k < 1 ∨ 64 < k) ∨ ¬ AtOk a ∨ ¬ AtOk b) : m_assessorref44_Overlaps a b k = some ([], 2) := by
  unfold m_assessorref44_Overlaps
  by_cases h1 : k < 1 ∨ 64 < k
  · rw [if_pos (by simpa using h1)]
  · rw [if_neg (by simpa using h1), bad44_m a b hl.1 hl.2]
    have h4 : ((a ++ b).any fun m => decide (m.at_ < 0 ∨ 2048 < m.at_)) = true := by
      cases h5 : ((a ++ b).any fun m => decide (m.at_ < 0 ∨ 2048 < m.at_)) with
      | true => rfl
      | false =>
        have := bad44_iff.1 h5
        rcases h with h | h | h
        · exact absurd h h1
        · exact absurd this.1 h
        · exact absurd this.2 h
    rw [h4]
    rfl
theorem OverlapsR_large (a b : List Mark) (k : Int) (hl : a.length ≤ 2000000 ∧ b.length ≤ 2000000) (oa : AtOk a) (ob : AtOk b) (hk : 1 ≤ k ∧ k ≤ 64) (h : 256 < a.length ∨ 256 < b.length) : m_assessorref44_Overlaps a b k = some ([], 8) := by
  unfold m_assessorref44_Overlaps
  rw [if_neg (by simp; omega), bad44_m a b hl.1 hl.2, bad44_iff.2 ⟨oa, ob⟩]
  simp only [Option.bind_some, Bool.false_eq_true, if_false]
  rw [if_pos (by simp; omega)]
end Go.Proofs.Ytmfepkadggigpaa
