/-
  The laws of clusters: documents of a pair are together; more similarity, finer clusters. No program is named.
-/
import Derived.Test.YtmfepkadggigpaaPK
import Derived.Test.YtmfepkadggigpaaWKM
import Derived.Test.YtmfepkadggigpaaWFM
set_option linter.unusedVariables false
set_option linter.unusedSimpArgs false
namespace Go.Proofs.Ytmfepkadggigpaa
open Go.RowKit
theorem clus_apart (n : Nat) (rt : Nat → Nat) : (clus n rt).Pairwise fun c d => ∀ x ∈ c, x ∉ d := by
  unfold clus
  refine List.Pairwise.filter _ ?_
  rw [List.pairwise_map]
  have := List.nodup_range (n := n)
  rw [List.nodup_iff_pairwise_ne] at this
  refine this.imp fun {i j} hij x hx hy => ?_
  obtain ⟨k, rfl, _, h1⟩ := cls_mem.1 hx
  obtain ⟨k', h2, _, h3⟩ := cls_mem.1 hy
  have : k = k' := by omega
  subst this
  exact hij (h1.symm.trans h3)
theorem clus_mem {n : Nat} {rt : Nat → Nat} {c : List Int} : c ∈ clus n rt ↔ ∃ r, r < n ∧ c = cls n rt r ∧ 1 < c.length := by
  unfold clus
  simp only [List.mem_filter, List.mem_map, List.mem_range, decide_eq_true_eq]
  constructor
  · rintro ⟨⟨r, h1, rfl⟩, h2⟩; exact ⟨r, h1, rfl, h2⟩
  · rintro ⟨r, h1, rfl, h2⟩; exact ⟨⟨r, h1, rfl⟩, h2⟩
theorem two_len {c : List Int} {a b : Int} (ha : a ∈ c) (hb : b ∈ c) (h : a ≠ b) : 1 < c.length := by
  have := nodup_sub_len (l := [a, b]) (m := c) (by simp [h]) fun x hx => by
    simp only [List.mem_cons, List.not_mem_nil, or_false] at hx
    rcases hx with rfl | rfl
    · exact ha
    · exact hb
  have h2 : 2 ≤ c.length := by simpa using this
  omega
theorem law_SimilarityClusters (p0 : Int) (p1 : (List Pair)) (h0 : (Lit.int .i64 p0).wf = true) (h1 : LW (fun a : Pair => I64 a.a ∧ I64 a.b ∧ I64 a.shared ∧ I64 a.total) p1) : m_assessorlaw44_SimilarityClusters p0 p1 = some true := by
  unfold m_assessorlaw44_SimilarityClusters
  rw [awake_m]
  simp only [Option.bind_some, Bool.not_true, Bool.false_eq_true, if_false]
  by_cases hg : p1.length ≤ 60 ∧ ¬ (40 < p0 ∧ p0 ≤ 1024)
  · rw [if_neg (by simp; omega)]
    by_cases hb : (p0 < 0 ∨ 1024 < p0) ∨ ∃ p ∈ p1, p.a < 0 ∨ p0 ≤ p.a ∨ p.b < 0 ∨ p0 ≤ p.b
    · obtain ⟨e1, e2⟩ := Clusters_bad p0 p1 (by omega) hb
      rw [e1, e2]
      simp only [Option.bind_some]
      rw [if_neg (by simp)]
      have l1 : loopM (fun s : Int × List (Int × Int) => m_assessorlaw44_SimilarityClusters_lp1 (([], 2) : List (List Int) × Int) (([], 2) : List (List Int) × Int) s.1 s.2) (0, []) = some (.brk []) := loopM_done (by
        simp only [m_assessorlaw44_SimilarityClusters_lp1]
        rw [if_neg (by simp)])
      rw [l1]
      simp only [Option.bind_some]
      refine bind_loop (fun k => (k : Int)) p1.length (.brk ()) rfl (fun k hk => ?_) ?_ rfl
      · obtain ⟨p, hp⟩ := get_of_lt hk
        simp only [m_assessorlaw44_SimilarityClusters_lp3]
        rw [if_pos (by simpa using hk), idx_nat hp]
        simp only [Option.bind_some]
        rw [if_neg (by simp), inK_succ (by omega)]
        rfl
      · simp only [m_assessorlaw44_SimilarityClusters_lp3]
        rw [if_neg (by simp)]
    · obtain ⟨n, rfl⟩ := Int.eq_ofNat_of_zero_le (show 0 ≤ p0 by omega)
      have hr : PrRange n p1 := fun p hp => by
        have : ¬ (p.a < 0 ∨ (n : Int) ≤ p.a ∨ p.b < 0 ∨ (n : Int) ≤ p.b) := fun h => hb (Or.inr ⟨p, hp, h⟩)
        omega
      obtain ⟨rt, e1, e2⟩ := Clusters_m n p1 (by omega) (by omega) hr
      obtain ⟨rt', e3, e4⟩ := ClustersR_m n p1 (by omega) (by omega) hr
      have hcc : clus n rt' = clus n rt := clus_congr fun i hi => e4.one e2 hi
      rw [hcc] at e3
      rw [e1, e3]
      simp only [Option.bind_some]
      rw [if_neg (by simp)]
      have hC := clus_len (n := n) (rt := rt)
      have hap := clus_apart n rt
      have hcl : ∀ c ∈ clus n rt, c.length ≤ n ∧ c.Nodup := fun c hc => by
        obtain ⟨r, _, rfl, _⟩ := clus_mem.1 hc
        exact ⟨cls_len, cls_nodup⟩
      have hdis : ∀ (i j : Nat) c d x, (clus n rt)[i]? = some c → (clus n rt)[j]? = some d → x ∈ c → x ∈ d → i = j := by
        intro i j c d x hi hj hx hy
        obtain ⟨p1, q1⟩ := List.getElem?_eq_some_iff.1 hi
        obtain ⟨p2, q2⟩ := List.getElem?_eq_some_iff.1 hj
        rcases Nat.lt_trichotomy i j with h | h | h
        · have := List.pairwise_iff_getElem.1 hap i j p1 p2 h
          rw [q1, q2] at this
          exact absurd hy (this x hx)
        · exact h
        · have := List.pairwise_iff_getElem.1 hap j i p2 p1 h
          rw [q1, q2] at this
          exact absurd hx (this x hy)
      -- where they are
      have l1 : ∃ s, loopM (fun s : Int × List (Int × Int) => m_assessorlaw44_SimilarityClusters_lp1 (clus n rt, 0) (clus n rt, 0) s.1 s.2) (0, []) = some (.brk s) ∧ ∀ x v, mget s x = some v ↔ ∃ (j : Nat) (c : List Int), v = (j : Int) ∧ (clus n rt)[j]? = some c ∧ x ∈ c := by
        obtain ⟨b, hb, s, rfl, hs⟩ := loopM_inv (body := fun s : Int × List (Int × Int) => m_assessorlaw44_SimilarityClusters_lp1 (clus n rt, 0) (clus n rt, 0) s.1 s.2) (fun s => ∃ i : Nat, s.1 = i ∧ i ≤ (clus n rt).length ∧ ∀ x v, mget s.2 x = some v ↔ ∃ (j : Nat) (c : List Int), j < i ∧ v = (j : Int) ∧ (clus n rt)[j]? = some c ∧ x ∈ c) (fun s => (clus n rt).length - s.1.toNat) (fun b => ∃ s, b = .brk s ∧ ∀ x v, mget s x = some v ↔ ∃ (j : Nat) (c : List Int), v = (j : Int) ∧ (clus n rt)[j]? = some c ∧ x ∈ c) (by
          rintro ⟨i', s⟩ ⟨i, rfl, hi, hI⟩
          simp only at hI
          by_cases hil : i < (clus n rt).length
          · obtain ⟨c, hc⟩ := get_of_lt hil
            obtain ⟨cl, cn⟩ := hcl c (List.mem_of_getElem? hc)
            obtain ⟨b, hb, s', rfl, hs'⟩ := loopM_inv (body := fun s : Int × List (Int × Int) => m_assessorlaw44_SimilarityClusters_lp2 (i : Int) c s.1 s.2) (fun s' => ∃ k : Nat, s'.1 = k ∧ k ≤ c.length ∧ ∀ x v, mget s'.2 x = some v ↔ mget s x = some v ∨ v = (i : Int) ∧ x ∈ c.take k) (fun s => c.length - s.1.toNat) (fun b => ∃ s', b = .brk s' ∧ ∀ x v, mget s' x = some v ↔ mget s x = some v ∨ v = (i : Int) ∧ x ∈ c) (by
              rintro ⟨k', s'⟩ ⟨k, rfl, hk, hI'⟩
              simp only at hI'
              by_cases hkl : k < c.length
              · obtain ⟨y, hy⟩ := get_of_lt hkl
                have hnew : mget s' y = none := by
                  cases hg : mget s' y with
                  | none => rfl
                  | some v =>
                    exfalso
                    rcases (hI' y v).1 hg with h | ⟨_, h⟩
                    · obtain ⟨j, d, j1, j2, j3, j4⟩ := (hI y v).1 h
                      have := hdis j i d c y j3 hc j4 (List.mem_of_getElem? hy)
                      omega
                    · obtain ⟨m, hm⟩ := List.getElem?_of_mem h
                      rw [List.getElem?_take] at hm
                      split at hm
                      · rename_i hmk
                        have := (List.getElem?_inj (by omega) cn).1 (hm.trans hy.symm)
                        omega
                      · cases hm
                refine Or.inl ⟨(((k + 1 : Nat) : Int), mput s' y (i : Int)), ?_, ⟨k + 1, rfl, by omega, fun x v => ?_⟩, by simp; omega⟩
                · simp only [m_assessorlaw44_SimilarityClusters_lp2]
                  rw [if_pos (by simpa using hkl), idx_nat hy]
                  simp only [Option.bind_some]
                  rw [hnew, if_neg (by simp), inK_succ (by omega)]
                  rfl
                · simp only
                  rw [mget_mput, take_snoc_of hy, List.mem_append, List.mem_singleton]
                  by_cases e : x = y
                  · subst e
                    rw [if_pos rfl]
                    constructor
                    · intro h; exact Or.inr ⟨(Option.some.inj h).symm, Or.inr rfl⟩
                    · rintro (h | ⟨rfl, _⟩)
                      · have := (hI' x v).2 (Or.inl h); rw [hnew] at this; cases this
                      · rfl
                  · rw [if_neg e, hI']
                    simp [e]
              · have : k = c.length := by omega
                subst this
                refine Or.inr ⟨.brk s', ?_, s', rfl, ?_⟩
                · simp only [m_assessorlaw44_SimilarityClusters_lp2]
                  rw [if_neg (by simp)]
                · rw [List.take_length] at hI'; exact hI') (0, s) ⟨0, rfl, by omega, fun x v => by simp⟩
            refine Or.inl ⟨(((i + 1 : Nat) : Int), s'), ?_, ⟨i + 1, rfl, by omega, fun x v => ?_⟩, by simp; omega⟩
            · simp only [m_assessorlaw44_SimilarityClusters_lp1]
              rw [if_pos (by simpa using hil), idx_nat hc]
              simp only [Option.bind_some]
              rw [SameI_m _ _ (by omega), decide_eq_true rfl]
              simp only [Option.bind_some, Bool.not_true, Bool.false_eq_true, if_false]
              rw [hb]
              simp only [Option.bind_some]
              rw [inK_succ (by omega)]
              rfl
            · simp only
              rw [hs', hI]
              constructor
              · rintro (⟨j, d, j1, j2, j3, j4⟩ | ⟨rfl, h⟩)
                · exact ⟨j, d, by omega, j2, j3, j4⟩
                · exact ⟨i, c, by omega, rfl, hc, h⟩
              · rintro ⟨j, d, j1, j2, j3, j4⟩
                by_cases e : j = i
                · subst e
                  rw [hc] at j3
                  obtain rfl := Option.some.inj j3
                  exact Or.inr ⟨j2, j4⟩
                · exact Or.inl ⟨j, d, by omega, j2, j3, j4⟩
          · have : i = (clus n rt).length := by omega
            subst this
            refine Or.inr ⟨.brk s, ?_, s, rfl, fun x v => ?_⟩
            · simp only [m_assessorlaw44_SimilarityClusters_lp1]
              rw [if_neg (by simp)]
            · rw [hI]
              constructor
              · rintro ⟨j, d, j1, j2⟩; exact ⟨j, d, j2⟩
              · rintro ⟨j, d, j2, j3, j4⟩; exact ⟨j, d, (List.getElem?_eq_some_iff.1 j3).1, j2, j3, j4⟩) (0, []) ⟨0, rfl, by omega, fun x v => by simp [mget]⟩
        exact ⟨s, hb, hs⟩
      obtain ⟨s, e5, hs⟩ := l1
      rw [e5]
      simp only [Option.bind_some]
      refine bind_loop (fun k => (k : Int)) p1.length (.brk ()) rfl (fun k hk => ?_) ?_ rfl
      · obtain ⟨p, hp⟩ := get_of_lt hk
        have hpm := List.mem_of_getElem? hp
        obtain ⟨a1, a2, a3, a4⟩ := hr p hpm
        simp only [m_assessorlaw44_SimilarityClusters_lp3]
        rw [if_pos (by simpa using hk), idx_nat hp]
        simp only [Option.bind_some]
        by_cases hne : p.a = p.b
        · rw [if_neg (by simp [hne]), inK_succ (by omega)]
          rfl
        · rw [if_pos (by simp [hne])]
          have heq := e2.2.1 p hpm
          have hle := e2.1 p.a.toNat (by omega)
          have ma : p.a ∈ cls n rt (rt p.a.toNat) := cls_mem.2 ⟨p.a.toNat, by omega, by omega, rfl⟩
          have mb : p.b ∈ cls n rt (rt p.a.toNat) := cls_mem.2 ⟨p.b.toNat, by omega, by omega, heq.symm⟩
          have hcm : cls n rt (rt p.a.toNat) ∈ clus n rt := clus_mem.2 ⟨_, by omega, rfl, two_len ma mb hne⟩
          obtain ⟨j, hj⟩ := List.getElem?_of_mem hcm
          rw [(hs p.a (j : Int)).2 ⟨j, _, rfl, hj, ma⟩, (hs p.b (j : Int)).2 ⟨j, _, rfl, hj, mb⟩]
          rw [if_neg (by simp), inK_succ (by omega)]
          rfl
      · simp only [m_assessorlaw44_SimilarityClusters_lp3]
        rw [if_neg (by simp)]
  · rw [if_pos (by simp; omega)]
/-- The first ones of a sorted list. -/
theorem filter_take {α : Type} {r : α → α → Prop} {q : α → Bool} (hq : ∀ x y, r x y → q y = true → q x = true) : ∀ {l : List α}, l.Pairwise r → l.take (l.filter q).length = l.filter q
  | [], _ => rfl
  | a :: l, h => by
    obtain ⟨h1, h2⟩ := List.pairwise_cons.1 h
    cases ha : q a with
    | true => simp [ha, filter_take hq h2]
    | false =>
      have : l.filter q = [] := by
        rw [List.filter_eq_nil_iff]
        intro b hb hqb
        rw [hq a b (h1 b hb) hqb] at ha
        cases ha
      simp [ha, this]
theorem law_SimilarityFiner (p0 : Int) (p1 : Int) (p2 : (List (List Mark))) (h0 : (Lit.int .u8 p0).wf = true) (h1 : (Lit.int .u8 p1).wf = true) (h2 : LW (LW (fun a : Mark => I64 a.hash ∧ I64 a.at_)) p2) : m_assessorlaw44_SimilarityFiner p0 p1 p2 = some true := by
  have u0 := U8.r h0
  have u1 := U8.r h1
  unfold m_assessorlaw44_SimilarityFiner
  rw [awake_m]
  simp only [Option.bind_some, Bool.not_true, Bool.false_eq_true, if_false]
  rw [few_m p2 8 30 h2.1]
  simp only [Option.bind_some]
  by_cases hf : (∀ a ∈ p2, (a.length : Int) ≤ 30) ∧ (p2.length : Int) ≤ 8
  · rw [decide_eq_true hf, if_neg (by simp), inK_eq (n := p0) (by omega), inK_eq (n := p1) (by omega)]
    simp only [Option.bind_some]
    have hD : DocOk p2 := fun a ha => by have := hf.1 a ha; omega
    generalize hlo : min p0 p1 = lo
    generalize hhi : max p0 p1 = hi
    have hlh : 0 ≤ lo ∧ lo ≤ hi ∧ hi ≤ 255 := by omega
    obtain ⟨r, r1, r2⟩ := Pairs_m lo 255 p2 hD (by omega) (by omega) (by omega)
    obtain ⟨s, s1, s2⟩ := Pairs_m hi 255 p2 hD (by omega) (by omega) (by omega)
    -- the first ones
    let q : Pair → Bool := fun p => decide (hi * p.total ≤ p.shared * 255)
    have hqmem : ∀ p, p ∈ r.filter q ↔ PrMem hi 255 p2 p := fun p => by
      rw [List.mem_filter, r2.2.2]
      show PrMem lo 255 p2 p ∧ decide (hi * p.total ≤ p.shared * 255) = true ↔ _
      rw [decide_eq_true_eq]
      constructor
      · rintro ⟨⟨i, j, x, y, a1, a2, a3, a4, a5, a6, a7, a8⟩, h⟩
        exact ⟨i, j, x, y, a1, a2, a3, a4, a5, a6, a7, h⟩
      · rintro ⟨i, j, x, y, a1, a2, a3, a4, a5, a6, a7, a8⟩
        refine ⟨⟨i, j, x, y, a1, a2, a3, a4, a5, a6, a7, ?_⟩, a8⟩
        exact Int.le_trans (Int.mul_le_mul_of_nonneg_right hlh.2.1 (Int.le_of_lt a7)) a8
    have hs : s = r.filter q := PrsIs.one hD s2 ⟨r2.1.filter _, (r2.2.1.sublist (List.filter_sublist.map _)), hqmem⟩
    have hmono : ∀ x y : Pair, (x ∈ r ∧ y ∈ r ∧ prLe x y = true) → q y = true → q x = true := by
      rintro x y ⟨hx, hy, h⟩ hq
      have ox := ((r2.2.2 x).1 hx).ok hD
      have oy := ((r2.2.2 y).1 hy).ok hD
      rw [prLe_iff] at h
      have e1 : prT x = x.total := by unfold prT; omega
      have e2 : prT y = y.total := by unfold prT; omega
      rw [e1, e2] at h
      have h3 : y.shared * x.total ≤ x.shared * y.total := by omega
      have hq' : hi * y.total ≤ y.shared * 255 := of_decide_eq_true hq
      show decide (hi * x.total ≤ x.shared * 255) = true
      rw [decide_eq_true_eq]
      have h4 := Int.mul_le_mul_of_nonneg_right hq' (show 0 ≤ x.total by omega)
      have h5 := Int.mul_le_mul_of_nonneg_right h3 (show (0 : Int) ≤ 255 by omega)
      have e3 : hi * y.total * x.total = hi * x.total * y.total := by rw [Int.mul_assoc, Int.mul_comm y.total, ← Int.mul_assoc]
      have e4 : y.shared * 255 * x.total = y.shared * x.total * 255 := by rw [Int.mul_assoc, Int.mul_comm 255, ← Int.mul_assoc]
      have e5 : x.shared * y.total * 255 = x.shared * 255 * y.total := by rw [Int.mul_assoc, Int.mul_comm y.total, ← Int.mul_assoc]
      refine Int.le_of_mul_le_mul_right (a := y.total) ?_ (by omega)
      omega
    have htake : r.take s.length = s := by
      rw [hs]
      refine filter_take (r := fun x y => x ∈ r ∧ y ∈ r ∧ prLe x y = true) hmono ?_
      exact r2.1.imp_of_mem fun hx hy h => ⟨hx, hy, h⟩
    have hsl : s.length ≤ r.length := by rw [hs]; exact List.length_filter_le _ _
    have hrl : r.length ≤ 4096 := by
      have h3 : (r.map fun p => (p.a.toNat, p.b.toNat)).Nodup := by
        have h4 := keys_nodup r2.2.1
        rw [List.nodup_iff_pairwise_ne] at *
        rw [List.pairwise_map]
        refine h4.imp_of_mem fun {x y} hx hy hxy e => hxy ?_
        have o1 := ((r2.2.2 x).1 hx).ok hD
        have o2 := ((r2.2.2 y).1 hy).ok hD
        simp only [Prod.mk.injEq] at e
        exact PrMem.one hD ((r2.2.2 x).1 hx) ((r2.2.2 y).1 hy) (by omega) (by omega)
      have h5 := nodup_sub h3 (m := (List.range 64).flatMap fun i => (List.range 64).map fun j => (i, j)) fun q hq => by
        obtain ⟨o, ho, rfl⟩ := List.mem_map.1 hq
        have o1 := ((r2.2.2 o).1 ho).ok hD
        rw [List.mem_flatMap]
        exact ⟨o.a.toNat, List.mem_range.2 (by omega), List.mem_map.2 ⟨o.b.toNat, List.mem_range.2 (by omega), rfl⟩⟩
      rw [List.length_map, grid_len] at h5
      exact h5
    rw [r1, s1]
    simp only [Option.bind_some]
    rw [if_neg (by simp; omega), sub_ok (by omega) (by omega) (by omega)]
    simp only [Option.bind_some, Int.toNat_natCast, Int.toNat_zero, List.drop_zero]
    rw [htake, pairs_eq _ _ (by omega), decide_eq_true rfl]
    simp only [Option.bind_some, Bool.not_true, Bool.false_eq_true, if_false]
    have rr : PrRange p2.length r := fun p hp => by have := ((r2.2.2 p).1 hp).ok hD; omega
    have rs : PrRange p2.length s := fun p hp => by have := ((s2.2.2 p).1 hp).ok hD; omega
    obtain ⟨rt, e1, e2⟩ := Clusters_m p2.length r (by omega) (by omega) rr
    obtain ⟨st, e3, e4⟩ := Clusters_m p2.length s (by omega) (by omega) rs
    rw [e1, e3]
    simp only [Option.bind_some]
    rw [if_neg (by simp)]
    have cl1 := clus_len (n := p2.length) (rt := rt)
    have cl2 := clus_len (n := p2.length) (rt := st)
    have hcl : ∀ (rt : Nat → Nat), ∀ c ∈ clus p2.length rt, c.length ≤ p2.length := fun rt c hc => by
      obtain ⟨r, _, rfl, _⟩ := clus_mem.1 hc
      exact cls_len
    have l3 : ∀ x y : List Int, x.length ≤ 1000 → y.length ≤ 1000 → loopM (fun s : Bool × Int => m_assessorlaw44_SimilarityFiner_lp3 x y s.1 s.2) (true, 0) = some (x.all fun n => decide (n ∈ y)) := by
      intro x y hx hy
      refine loop_from (fun k => ((x.take k).all fun n => decide (n ∈ y), (k : Int))) x.length (by simp) (fun k hk => ?_) ?_
      · obtain ⟨c, hc⟩ := get_of_lt hk
        simp only [m_assessorlaw44_SimilarityFiner_lp3]
        rw [if_pos (by simpa using hk), idx_nat hc]
        simp only [Option.bind_some]
        rw [Has_m _ _ (by omega), take_snoc_of hc, List.all_append, inK_succ (by omega)]
        cases ((x.take k).all fun n => decide (n ∈ y)) <;> simp
      · simp only [m_assessorlaw44_SimilarityFiner_lp3]
        rw [if_neg (by simp), List.take_length]
    have l2 : ∀ x : List Int, x.length ≤ 1000 → loopM (fun s : Bool × Int => m_assessorlaw44_SimilarityFiner_lp2 (clus p2.length rt, 0) x s.1 s.2) (false, 0) = some ((clus p2.length rt).any fun y => x.all fun n => decide (n ∈ y)) := by
      intro x hx
      refine loop_from (fun k => (((clus p2.length rt).take k).any fun y => x.all fun n => decide (n ∈ y), (k : Int))) (clus p2.length rt).length (by simp) (fun k hk => ?_) ?_
      · obtain ⟨c, hc⟩ := get_of_lt hk
        have := hcl rt c (List.mem_of_getElem? hc)
        simp only [m_assessorlaw44_SimilarityFiner_lp2]
        rw [if_pos (by simpa using hk), idx_nat hc]
        simp only [Option.bind_some]
        rw [l3 x c hx (by omega)]
        simp only [Option.bind_some]
        rw [inK_succ (by omega), take_snoc_of hc, List.any_append]
        simp
      · simp only [m_assessorlaw44_SimilarityFiner_lp2]
        rw [if_neg (by simp), List.take_length]
    refine bind_loop (fun k => (k : Int)) (clus p2.length st).length (.brk ()) rfl (fun k hk => ?_) ?_ rfl
    · obtain ⟨c, hc⟩ := get_of_lt hk
      have hcm := List.mem_of_getElem? hc
      have := hcl st c hcm
      simp only [m_assessorlaw44_SimilarityFiner_lp1]
      rw [if_pos (by simpa using hk), idx_nat hc]
      simp only [Option.bind_some]
      rw [l2 c (by omega)]
      simp only [Option.bind_some]
      have hin : ((clus p2.length rt).any fun y => c.all fun n => decide (n ∈ y)) = true := by
        obtain ⟨i, hi, rfl, hlen⟩ := clus_mem.1 hcm
        have hresp : Resp s rt := fun p hp => e2.2.1 p (by rw [hs] at hp; exact (List.mem_filter.1 hp).1)
        have hall : ∀ n ∈ cls p2.length st i, n ∈ cls p2.length rt (rt i) := fun n hn => by
          obtain ⟨m, rfl, m1, m2⟩ := cls_mem.1 hn
          refine cls_mem.2 ⟨m, rfl, m1, ?_⟩
          rw [← m2]
          exact (e4.2.2 rt hresp m m1).symm
        rw [List.any_eq_true]
        refine ⟨cls p2.length rt (rt i), clus_mem.2 ⟨_, by have := e2.1 i hi; omega, rfl, ?_⟩, ?_⟩
        · exact Nat.lt_of_lt_of_le hlen (nodup_sub_len cls_nodup hall)
        · rw [List.all_eq_true]
          intro n hn
          simpa using hall n hn
      rw [hin]
      simp only [Bool.not_true, Bool.false_eq_true, if_false]
      rw [inK_succ (by omega)]
      rfl
    · simp only [m_assessorlaw44_SimilarityFiner_lp1]
      rw [if_neg (by simp)]
  · rw [decide_eq_false hf, if_pos (by simp)]
end Go.Proofs.Ytmfepkadggigpaa
