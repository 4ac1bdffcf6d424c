/-
  Clusters of documents: union and find with shorter paths, and labels that spread, give one result. No program is named.
-/
import Derived.Test.YtmfepkadggigpaaPD
set_option linter.unusedVariables false
set_option linter.unusedSimpArgs false
namespace Go.Proofs.Ytmfepkadggigpaa
open Go.RowKit
/-- A labelling that does not part the members of a pair. -/
def Resp (l : List Pair) (f : Nat → Nat) : Prop := ∀ p ∈ l, f p.a.toNat = f p.b.toNat
/-- The label of each document: the least one that it is connected with. -/
def Labels (n : Nat) (l : List Pair) (rt : Nat → Nat) : Prop := (∀ i, i < n → rt i ≤ i) ∧ Resp l rt ∧ ∀ f, Resp l f → ∀ i, i < n → f (rt i) = f i
theorem Labels.one {n : Nat} {l : List Pair} {r s : Nat → Nat} (hr : Labels n l r) (hs : Labels n l s) {i : Nat} (hi : i < n) : r i = s i := by
  have h1 := hr.2.2 s hs.2.1 i hi
  have h2 := hs.2.2 r hr.2.1 i hi
  have h3 := hr.1 i hi
  have h4 := hs.1 i hi
  have h5 := hs.1 (r i) (by omega)
  have h6 := hr.1 (s i) (by omega)
  omega
/-- Who has a label. -/
def cls (n : Nat) (rt : Nat → Nat) (i : Nat) : List Int := ((List.range n).filter fun k => decide (rt k = i)).map fun k : Nat => (k : Int)
def clus (n : Nat) (rt : Nat → Nat) : List (List Int) := ((List.range n).map (cls n rt)).filter fun c => decide (1 < c.length)
theorem cls_mem {n : Nat} {rt : Nat → Nat} {i : Nat} {x : Int} : x ∈ cls n rt i ↔ ∃ k : Nat, x = k ∧ k < n ∧ rt k = i := by
  unfold cls
  simp only [List.mem_map, List.mem_filter, List.mem_range, decide_eq_true_eq]
  constructor
  · rintro ⟨k, ⟨h1, h2⟩, rfl⟩; exact ⟨k, rfl, h1, h2⟩
  · rintro ⟨k, rfl, h1, h2⟩; exact ⟨k, ⟨h1, h2⟩, rfl⟩
theorem cls_congr {n : Nat} {r s : Nat → Nat} (h : ∀ i, i < n → r i = s i) (i : Nat) : cls n r i = cls n s i := by
  unfold cls
  congr 1
  apply List.filter_congr
  intro k hk
  rw [h k (List.mem_range.1 hk)]
theorem clus_congr {n : Nat} {r s : Nat → Nat} (h : ∀ i, i < n → r i = s i) : clus n r = clus n s := by
  unfold clus
  congr 1
  apply List.map_congr_left
  intro i _
  exact cls_congr h i
theorem cls_len {n : Nat} {rt : Nat → Nat} {i : Nat} : (cls n rt i).length ≤ n := by
  unfold cls
  rw [List.length_map]
  have := List.length_filter_le (fun k => decide (rt k = i)) (List.range n)
  simpa using this
theorem clus_len {n : Nat} {rt : Nat → Nat} : (clus n rt).length ≤ n := by
  unfold clus
  refine Nat.le_trans (List.length_filter_le _ _) ?_
  simp
theorem cls_nodup {n : Nat} {rt : Nat → Nat} {i : Nat} : (cls n rt i).Nodup := by
  unfold cls
  rw [List.nodup_iff_pairwise_ne, List.pairwise_map]
  have := (List.nodup_range (n := n)).filter fun k => decide (rt k = i)
  exact this.imp fun h e => h (by omega)
/-- Pairs of numbers that are in range. -/
def PrRange (n : Nat) (l : List Pair) : Prop := ∀ p ∈ l, 0 ≤ p.a ∧ p.a < n ∧ 0 ≤ p.b ∧ p.b < n

/-! ### Links -/
def LinkOk (n : Nat) (link : List Int) (rt : Nat → Nat) : Prop := link.length = n ∧ ∀ i, i < n → ∃ c : Nat, link[i]? = some (c : Int) ∧ c ≤ i ∧ rt c = rt i ∧ rt i ≤ i ∧ (c = i ↔ rt i = i)
theorem LinkOk.root {n : Nat} {link : List Int} {rt : Nat → Nat} (h : LinkOk n link rt) : ∀ i, i < n → rt (rt i) = rt i := by
  intro i
  induction i using Nat.strongRecOn with
  | _ i ih =>
    intro hi
    obtain ⟨c, h1, h2, h3, h4, h5⟩ := h.2 i hi
    by_cases e : c = i
    · have := h5.1 e; rw [this, this]
    · rw [← h3]; exact ih c (by omega) (by omega)
theorem find_m {n : Nat} {rt : Nat → Nat} : ∀ (fuel i : Nat) (link : List Int), i < n → i < fuel → LinkOk n link rt → ∃ link', m_similarity_Clusters_1_r fuel (i : Int) link = some (((rt i : Nat) : Int), link') ∧ LinkOk n link' rt
  | 0, i, link, _, h, _ => by omega
  | fuel + 1, i, link, hi, hf, h => by
    obtain ⟨c, h1, h2, h3, h4, h5⟩ := h.2 i hi
    simp only [m_similarity_Clusters_1_r, m_similarity_Clusters_1_body]
    rw [idx_nat h1]
    simp only [Option.bind_some]
    by_cases e : c = i
    · subst e
      rw [if_neg (by simp)]
      simp only [Option.bind_some]
      rw [idx_nat h1]
      simp only [Option.bind_some]
      exact ⟨link, by rw [h5.1 rfl], h⟩
    · rw [if_pos (by simp; omega)]
      obtain ⟨link1, e1, e2⟩ := find_m fuel c link (by omega) (by omega) h
      rw [e1]
      simp only [Option.bind_some]
      obtain ⟨c1, k1, _⟩ := e2.2 i hi
      rw [idx_nat k1]
      simp only [Option.bind_some, Int.toNat_natCast]
      have hlen : i < link1.length := by rw [e2.1]; exact hi
      rw [idx_nat (k := i) (a := ((rt c : Nat) : Int)) (by rw [List.getElem?_set_self hlen])]
      simp only [Option.bind_some, Option.some.injEq, Prod.mk.injEq]
      refine ⟨_, ⟨by rw [h3], rfl⟩, by rw [List.length_set]; exact e2.1, fun j hj => ?_⟩
      by_cases hji : j = i
      · subst hji
        refine ⟨rt c, by rw [List.getElem?_set_self hlen], by rw [h3]; exact h4, ?_, h4, by rw [h3]⟩
        rw [h3]
        exact h.root j hi
      · rw [List.getElem?_set_ne (fun e => hji e.symm)]
        exact e2.2 j hj
theorem Find_m {n : Nat} {rt : Nat → Nat} {i : Nat} {link : List Int} (hi : i < n) (h : LinkOk n link rt) : ∃ link', m_similarity_Clusters_1 (i : Int) link = some (((rt i : Nat) : Int), link') ∧ LinkOk n link' rt := by
  unfold m_similarity_Clusters_1
  exact find_m _ i link hi (by omega) h
/-- Two roots are linked. -/
def join (rt : Nat → Nat) (a b : Nat) : Nat → Nat := fun i => if rt i = max (rt a) (rt b) then min (rt a) (rt b) else rt i
theorem LinkOk.join {n : Nat} {rt : Nat → Nat} {link : List Int} (h : LinkOk n link rt) {a b : Nat} (ha : a < n) (hb : b < n) : LinkOk n (link.set (max (rt a) (rt b)) ((min (rt a) (rt b) : Nat) : Int)) (join rt a b) := by
  obtain ⟨_, _, _, _, ha4, _⟩ := h.2 a ha
  obtain ⟨_, _, _, _, hb4, _⟩ := h.2 b hb
  have hra := h.root a ha
  have hrb := h.root b hb
  have hmax : rt (max (rt a) (rt b)) = max (rt a) (rt b) := by
    rcases Nat.le_total (rt a) (rt b) with hle | hle
    · rw [Nat.max_eq_right hle]; exact hrb
    · rw [Nat.max_eq_left hle]; exact hra
  have hmin : rt (min (rt a) (rt b)) = min (rt a) (rt b) := by
    rcases Nat.le_total (rt a) (rt b) with hle | hle
    · rw [Nat.min_eq_left hle]; exact hra
    · rw [Nat.min_eq_right hle]; exact hrb
  refine ⟨by rw [List.length_set]; exact h.1, fun i hi => ?_⟩
  by_cases e : i = max (rt a) (rt b)
  · refine ⟨min (rt a) (rt b), by rw [← e, List.getElem?_set_self (by rw [h.1]; exact hi)], by omega, ?_, ?_, ?_⟩
    · unfold Go.Proofs.Ytmfepkadggigpaa.join
      rw [hmin, e, hmax]
      simp
    · unfold Go.Proofs.Ytmfepkadggigpaa.join
      rw [e, hmax, if_pos rfl]; omega
    · unfold Go.Proofs.Ytmfepkadggigpaa.join
      rw [e, hmax, if_pos rfl]
  · obtain ⟨c, h1, h2, h3, h4, h5⟩ := h.2 i hi
    refine ⟨c, by rw [List.getElem?_set_ne (fun e' => e e'.symm)]; exact h1, h2, ?_, ?_, ?_⟩
    · unfold Go.Proofs.Ytmfepkadggigpaa.join
      rw [h3]
    · unfold Go.Proofs.Ytmfepkadggigpaa.join
      split <;> omega
    · unfold Go.Proofs.Ytmfepkadggigpaa.join
      rw [h5]
      split
      · omega
      · exact Iff.rfl
theorem join_labels {n : Nat} {l : List Pair} {rt : Nat → Nat} {p : Pair} (h : Labels n l rt) (hp : 0 ≤ p.a ∧ p.a < n ∧ 0 ≤ p.b ∧ p.b < n) : Labels n (l ++ [p]) (join rt p.a.toNat p.b.toNat) := by
  obtain ⟨h1, h2, h3⟩ := h
  refine ⟨fun i hi => ?_, fun q hq => ?_, fun f hf i hi => ?_⟩
  · have := h1 i hi
    unfold join
    split <;> omega
  · rcases List.mem_append.1 hq with hq | hq
    · unfold join; rw [h2 q hq]
    · rw [List.mem_singleton] at hq
      subst hq
      unfold join
      rcases Nat.le_total (rt q.a.toNat) (rt q.b.toNat) with hle | hle
      · rw [Nat.max_eq_right hle, Nat.min_eq_left hle, if_pos rfl]
        split <;> simp_all
      · rw [Nat.max_eq_left hle, Nat.min_eq_right hle, if_pos rfl]
        split <;> simp_all
  · have hfl : Resp l f := fun q hq => hf q (by simp [hq])
    have hfp : f p.a.toNat = f p.b.toNat := hf p (by simp)
    have ea := h3 f hfl p.a.toNat (by omega)
    have eb := h3 f hfl p.b.toNat (by omega)
    have ei := h3 f hfl i hi
    unfold join
    split
    · rename_i he
      rw [← ei, he]
      rcases Nat.le_total (rt p.a.toNat) (rt p.b.toNat) with hle | hle
      · rw [Nat.max_eq_right hle, Nat.min_eq_left hle, ea, eb, hfp]
      · rw [Nat.max_eq_left hle, Nat.min_eq_right hle, ea, eb, hfp]
    · exact ei
theorem labels_nil (n : Nat) : Labels n [] id := ⟨fun i _ => Nat.le_refl _, (by intro p hp; cases hp), fun f _ i _ => rfl⟩
/-- The groups so far. -/
def GrpIs (n : Nat) (rt : Nat → Nat) (k : Nat) (g : List (Int × List Int)) : Prop := (g.map (·.1)).Nodup ∧ (∀ x, x ∈ g.map (·.1) ↔ ∃ i, i < k ∧ x = (rt i : Int)) ∧ ∀ r : Nat, (mget g (r : Int)).getD [] = ((List.range k).filter fun i => decide (rt i = r)).map fun i : Nat => (i : Int)
theorem filterMap_app {α : Type} (l : List α) (a : α) (p : α → Bool) : (l ++ [a]).filter p = l.filter p ++ (if p a = true then [a] else []) := by
  rw [List.filter_append]
  congr 1
  cases h : p a <;> simp [h]
/-- Each is its own. -/
theorem own_m (n : Nat) (hn : n ≤ 1024) : loopM (fun s : Int × List Int => m_similarity_Clusters_lp1 (List.replicate n (0 : Int)) s.1 s.2) (0, List.replicate n (0 : Int)) = some ((List.range n).map fun i : Nat => (i : Int)) := by
  refine loop_from (fun k => ((k : Int), (List.range n).map fun i : Nat => if i < k then (i : Int) else 0)) n ?_ (fun k hk => ?_) ?_
  · rw [Prod.mk.injEq]
    refine ⟨rfl, List.ext_getElem? fun j => ?_⟩
    by_cases hj : j < n
    · simp [hj]
    · simp [hj]
  · simp only [m_similarity_Clusters_lp1]
    rw [if_pos (by simp; exact hk), idx_nat (k := k) (a := (0 : Int)) (by simp [hk])]
    simp only [Option.bind_some]
    rw [inK_succ (by omega)]
    simp only [Option.bind_some, Int.toNat_natCast, Option.some.injEq, Step.next.injEq, Prod.mk.injEq, true_and]
    refine List.ext_getElem? fun j => ?_
    rw [List.getElem?_set]
    by_cases hj : j < n
    · by_cases e : k = j
      · subst e; simp [hk]
      · have : j < k ↔ j < k + 1 := by omega
        simp [hj, e, this]
    · have e : k ≠ j := by omega
      simp [hj, e]
  · simp only [m_similarity_Clusters_lp1]
    rw [if_neg (by simp)]
    simp only [Option.some.injEq, Step.done.injEq]
    exact List.map_congr_left fun i hi => by rw [if_pos (List.mem_range.1 hi)]
/-- The pairs are joined, or a number is wrong. -/
theorem union_m (n : Nat) (l : List Pair) (hn : n ≤ 1024) (hl : l.length ≤ 4000000) : ∃ b, loopM (fun s : Int × List Int => m_similarity_Clusters_lp2 (n : Int) l s.1 s.2) (0, (List.range n).map fun i : Nat => (i : Int)) = some b ∧ ((∃ rt link, b = .brk link ∧ LinkOk n link rt ∧ Labels n l rt ∧ PrRange n l) ∨ b = .ret ([], 2) ∧ ¬ PrRange n l) := by
  obtain ⟨b, hb, hP⟩ := loopM_inv (body := fun s : Int × List Int => m_similarity_Clusters_lp2 (n : Int) l s.1 s.2) (fun s => ∃ (k : Nat) (rt : Nat → Nat), s.1 = k ∧ k ≤ l.length ∧ LinkOk n s.2 rt ∧ Labels n (l.take k) rt ∧ PrRange n (l.take k)) (fun s => l.length - s.1.toNat) (fun b => (∃ rt link, b = .brk link ∧ LinkOk n link rt ∧ Labels n l rt ∧ PrRange n l) ∨ b = .ret ([], 2) ∧ ¬ PrRange n l) (by
    rintro ⟨k', link⟩ ⟨k, rt, rfl, hk, h1, h2, hr⟩
    simp only at h1
    by_cases hkl : k < l.length
    · obtain ⟨p, hp⟩ := get_of_lt hkl
      by_cases hpr : 0 ≤ p.a ∧ p.a < n ∧ 0 ≤ p.b ∧ p.b < n
      case neg =>
        refine Or.inr ⟨.ret ([], 2), ?_, Or.inr ⟨rfl, fun h => hpr (h p (List.mem_of_getElem? hp))⟩⟩
        simp only [m_similarity_Clusters_lp2]
        rw [if_pos (by simpa using hkl), idx_nat hp]
        simp only [Option.bind_some]
        rw [if_pos (by simp; omega)]
      obtain ⟨p1, p2, p3, p4⟩ := hpr
      obtain ⟨a, ha⟩ := Int.eq_ofNat_of_zero_le p1
      obtain ⟨c, hc⟩ := Int.eq_ofNat_of_zero_le p3
      have han : a < n := by omega
      have hcn : c < n := by omega
      obtain ⟨link1, e1, e2⟩ := Find_m han h1
      obtain ⟨link2, f1, f2⟩ := Find_m hcn e2
      obtain ⟨_, _, _, _, ha4, _⟩ := h1.2 a han
      obtain ⟨_, _, _, _, hc4, _⟩ := h1.2 c hcn
      have hj := f2.join han hcn
      have hlab := join_labels (p := p) h2 ⟨p1, p2, p3, p4⟩
      have ea : p.a.toNat = a := by omega
      have ec : p.b.toNat = c := by omega
      rw [ea, ec] at hlab
      obtain ⟨v, hv⟩ := get_of_lt (l := link2) (k := max (rt a) (rt c)) (by rw [f2.1]; omega)
      refine Or.inl ⟨(((k + 1 : Nat) : Int), link2.set (max (rt a) (rt c)) ((min (rt a) (rt c) : Nat) : Int)), ?_, ⟨k + 1, join rt a c, rfl, by omega, hj, by rw [take_snoc_of hp]; exact hlab, fun q hq => by
        rw [take_snoc_of hp] at hq
        rcases List.mem_append.1 hq with hq | hq
        · exact hr q hq
        · rw [List.mem_singleton] at hq; subst hq; exact ⟨p1, p2, p3, p4⟩⟩, by simp; omega⟩
      simp only [m_similarity_Clusters_lp2]
      rw [if_pos (by simpa using hkl), idx_nat hp]
      simp only [Option.bind_some]
      rw [if_neg (by simp; omega), ha, e1]
      simp only [Option.bind_some]
      rw [hc, f1]
      simp only [Option.bind_some]
      have em : max ((rt a : Nat) : Int) ((rt c : Nat) : Int) = ((max (rt a) (rt c) : Nat) : Int) := by omega
      have em2 : min ((rt a : Nat) : Int) ((rt c : Nat) : Int) = ((min (rt a) (rt c) : Nat) : Int) := by omega
      rw [em, em2, idx_nat hv]
      simp only [Option.bind_some, Int.toNat_natCast]
      rw [inK_succ (by omega)]
      rfl
    · have : k = l.length := by omega
      subst this
      refine Or.inr ⟨.brk link, ?_, Or.inl ⟨rt, link, rfl, h1, by rw [List.take_length] at h2; exact h2, by rw [List.take_length] at hr; exact hr⟩⟩
      simp only [m_similarity_Clusters_lp2]
      rw [if_neg (by simp)]) (0, (List.range n).map fun i : Nat => (i : Int)) ⟨0, id, rfl, by omega, ⟨by simp, fun i hi => ⟨i, by simp [hi], by omega, rfl, by simp, by simp⟩⟩, by simpa using labels_nil n, fun p hp => by simp at hp⟩
  exact ⟨b, hb, hP⟩
theorem Clusters_m (n : Nat) (l : List Pair) (hn : n ≤ 1024) (hl : l.length ≤ 4000000) (hr : PrRange n l) : ∃ rt, m_similarity_Clusters (n : Int) l = some (clus n rt, 0) ∧ Labels n l rt := by
  unfold m_similarity_Clusters
  rw [if_neg (by simp; omega), mkc_ok (by omega)]
  simp only [Option.bind_some, Int.toNat_natCast]
  rw [own_m n hn]
  simp only [Option.bind_some]
  obtain ⟨b, hb, hP⟩ := union_m n l hn hl
  obtain ⟨rt, link, rfl, hlink, hlab, _⟩ := hP.resolve_right fun h => h.2 hr
  rw [hb]
  simp only [Option.bind_some]
  have hroot := hlink.root
  have hle : ∀ i, i < n → rt i ≤ i := hlab.1
  -- the groups
  obtain ⟨b, hb, hG⟩ := loopM_inv (body := fun s : Int × List (Int × List Int) × List Int => m_similarity_Clusters_lp3 (n : Int) s.1 s.2.1 s.2.2) (fun s => ∃ k : Nat, s.1 = k ∧ k ≤ n ∧ GrpIs n rt k s.2.1 ∧ LinkOk n s.2.2 rt) (fun s => n - s.1.toNat) (fun b => GrpIs n rt n b.1) (by
    rintro ⟨k', g, lk⟩ ⟨k, rfl, hk, ⟨g1, g2, g3⟩, hlk⟩
    simp only at g1 g2 g3 hlk
    by_cases hkl : k < n
    · obtain ⟨link1, e1, e2⟩ := Find_m hkl hlk
      obtain ⟨link2, f1, f2⟩ := Find_m hkl e2
      have hlen : (((List.range k).filter fun i => decide (rt i = rt k)).map fun i : Nat => (i : Int)).length ≤ k := by
        rw [List.length_map]
        have := List.length_filter_le (fun i => decide (rt i = rt k)) (List.range k)
        simpa using this
      refine Or.inl ⟨(((k + 1 : Nat) : Int), mput g ((rt k : Nat) : Int) ((((List.range k).filter fun i => decide (rt i = rt k)).map fun i : Nat => (i : Int)) ++ [(k : Int)]), link2), ?_, ⟨k + 1, rfl, by omega, ⟨mput_nodup g1 _ _, fun x => ?_, fun r => ?_⟩, f2⟩, by simp; omega⟩
      · simp only [m_similarity_Clusters_lp3]
        rw [if_pos (by simpa using hkl), e1]
        simp only [Option.bind_some]
        rw [f1]
        simp only [Option.bind_some]
        rw [g3, app_ok (by simp only [List.length_singleton]; omega)]
        simp only [Option.bind_some, guardEq, if_pos]
        rw [inK_succ (by omega)]
        rfl
      · rw [mput_mem, g2]
        constructor
        · rintro (rfl | ⟨i, h1, rfl⟩)
          · exact ⟨k, by omega, rfl⟩
          · exact ⟨i, by omega, rfl⟩
        · rintro ⟨i, h1, rfl⟩
          by_cases e : i = k
          · subst e; exact Or.inl rfl
          · exact Or.inr ⟨i, by omega, rfl⟩
      · simp only
        rw [mget_mput, List.range_succ, filterMap_app, List.map_append]
        by_cases e : r = rt k
        · subst e
          rw [if_pos rfl]
          simp
        · rw [if_neg (by omega), g3, if_neg (by simp; omega)]
          simp
    · have : k = n := by omega
      subst this
      refine Or.inr ⟨(g, lk), ?_, ⟨g1, g2, g3⟩⟩
      simp only [m_similarity_Clusters_lp3]
      rw [if_neg (by simp)]) (0, [], link) ⟨0, rfl, by omega, ⟨by simp, by simp, fun r => by simp [mget]⟩, hlink⟩
  rw [hb]
  simp only [Option.bind_some]
  obtain ⟨g1, g2, g3⟩ := hG
  have hkeys : (b.1.map (·.1)).mergeSort (fun x y => decide (x ≤ y)) = ((List.range n).filter fun i => decide (rt i = i)).map fun i : Nat => (i : Int) := by
    refine rising_int (sortI_lt g1) ?_ fun x => ?_
    · rw [List.pairwise_map]
      exact (List.pairwise_lt_range (n := n)).filter _ |>.imp fun h => by omega
    · rw [(sortI_perm _).mem_iff, g2]
      simp only [List.mem_map, List.mem_filter, List.mem_range, decide_eq_true_eq]
      constructor
      · rintro ⟨i, h1, rfl⟩
        exact ⟨rt i, ⟨by have := hle i h1; omega, hroot i h1⟩, rfl⟩
      · rintro ⟨i, ⟨h1, h2⟩, rfl⟩
        exact ⟨i, h1, by rw [h2]⟩
  have hbl : b.1.length ≤ 4000000 := by
    have h1 := congrArg List.length hkeys
    rw [List.length_mergeSort, List.length_map, List.length_map] at h1
    have := List.length_filter_le (fun i => decide (rt i = i)) (List.range n)
    rw [List.length_range] at this
    omega
  rw [sortedKeys_ok (fun x hx => by obtain ⟨i, h1, rfl⟩ := (g2 x).1 hx; have := hle i h1; omega) hbl, hkeys]
  simp only [Option.bind_some]
  refine ⟨rt, ?_, hlab⟩
  -- the result
  let X := (List.range n).filter fun i => decide (rt i = i)
  have hX : X.length ≤ n := by
    have := List.length_filter_le (fun i => decide (rt i = i)) (List.range n)
    simpa using this
  have hfin : clus n rt = (X.map (cls n rt)).filter fun c => decide (1 < c.length) := by
    show ((List.range n).map (cls n rt)).filter _ = _
    rw [List.filter_map, List.filter_map, List.filter_filter]
    congr 1
    apply List.filter_congr
    intro i hi
    by_cases hri : rt i = i
    · simp [hri]
    · have : cls n rt i = [] := by
        rw [List.eq_nil_iff_forall_not_mem]
        intro x hx
        obtain ⟨k, _, h1, h2⟩ := cls_mem.1 hx
        exact hri (by rw [← h2]; exact hroot k h1)
      simp [this]
  have l4 : loopM (fun s : Int × List (List Int) => m_similarity_Clusters_lp4 b (X.map fun i : Nat => (i : Int)) s.1 s.2) (0, []) = some (clus n rt) := by
    refine loop_from (fun k => ((k : Int), ((X.take k).map (cls n rt)).filter fun c => decide (1 < c.length))) X.length (by simp) (fun k hk => ?_) ?_
    · obtain ⟨i, hi⟩ := get_of_lt hk
      have hfl := List.length_filter_le (fun c : List Int => decide (1 < c.length)) ((X.take k).map (cls n rt))
      rw [List.length_map, List.length_take] at hfl
      simp only [m_similarity_Clusters_lp4]
      rw [if_pos (by simpa using hk), idx_nat (k := k) (a := (i : Int)) (by rw [List.getElem?_map, hi]; rfl)]
      simp only [Option.bind_some]
      rw [g3]
      have e : (((List.range n).filter fun j => decide (rt j = i)).map fun j : Nat => (j : Int)) = cls n rt i := rfl
      rw [e, take_snoc_of hi, List.map_append, List.map_cons, List.map_nil, filterMap_app, inK_succ (k := k) (by omega)]
      by_cases hc : 1 < (cls n rt i).length
      · rw [if_pos (by simp; omega), if_pos (by simpa using hc), app_ok (by simp only [List.length_singleton]; omega)]
        rfl
      · rw [if_neg (by simp; omega), if_neg (by simpa using hc), List.append_nil]
        rfl
    · simp only [m_similarity_Clusters_lp4]
      rw [if_neg (by simp), List.take_length, hfin]
  rw [l4]
  rfl
theorem Clusters_wrong (n : Nat) (l : List Pair) (hn : n ≤ 1024) (hl : l.length ≤ 4000000) (hr : ¬ PrRange n l) : m_similarity_Clusters (n : Int) l = some ([], 2) := by
  unfold m_similarity_Clusters
  rw [if_neg (by simp; omega), mkc_ok (by omega)]
  simp only [Option.bind_some, Int.toNat_natCast]
  rw [own_m n hn]
  simp only [Option.bind_some]
  obtain ⟨b, hb, hP⟩ := union_m n l hn hl
  rcases hP with ⟨_, _, _, _, _, h⟩ | ⟨rfl, _⟩
  · exact absurd h hr
  · rw [hb]; rfl
/-- The labels as a list. -/
def lst (n : Nat) (rt : Nat → Nat) : List Int := (List.range n).map fun i : Nat => (rt i : Int)
theorem lst_len (n : Nat) (rt : Nat → Nat) : (lst n rt).length = n := by simp [lst]
theorem lst_get {n : Nat} {rt : Nat → Nat} {i : Nat} (h : i < n) : (lst n rt)[i]? = some ((rt i : Nat) : Int) := by simp [lst, h]
theorem lst_set {n : Nat} {rt : Nat → Nat} {i m : Nat} : (lst n rt).set i (m : Int) = lst n (fun j => if j = i then m else rt j) := by
  refine List.ext_getElem? fun j => ?_
  rw [List.getElem?_set]
  unfold lst
  by_cases hj : j < n
  · by_cases e : i = j
    · subst e; simp [hj]
    · have e2 : ¬ j = i := fun h => e h.symm
      simp [hj, e, e2]
  · simp [hj]
    intro _; omega
def sumL (l : List Int) : Nat := (l.map Int.toNat).sum
theorem sum_range_le {r s : Nat → Nat} : ∀ n, (∀ i, i < n → r i ≤ s i) → ((List.range n).map r).sum ≤ ((List.range n).map s).sum ∧ ((∃ i, i < n ∧ r i < s i) → ((List.range n).map r).sum < ((List.range n).map s).sum)
  | 0, _ => by simp
  | n + 1, h => by
    obtain ⟨h1, h2⟩ := sum_range_le n fun i hi => h i (by omega)
    have hn := h n (by omega)
    simp only [List.range_succ, List.map_append, List.sum_append, List.map_cons, List.map_nil, List.sum_cons, List.sum_nil]
    refine ⟨by omega, ?_⟩
    rintro ⟨i, hi, hlt⟩
    by_cases e : i = n
    · subst e; omega
    · have := h2 ⟨i, by omega, hlt⟩
      omega
theorem sumL_lst (n : Nat) (rt : Nat → Nat) : sumL (lst n rt) = ((List.range n).map rt).sum := by
  unfold sumL lst
  rw [List.map_map]
  congr 1
def RefOk (n : Nat) (l : List Pair) (rt : Nat → Nat) : Prop := (∀ i, i < n → rt i ≤ i) ∧ ∀ f, Resp l f → ∀ i, i < n → f (rt i) = f i
/-- One pass over the pairs. -/
theorem pass_m (n : Nat) (l : List Pair) (hl : l.length ≤ 4000000) (hr : PrRange n l) (rt0 : Nat → Nat) (h0 : RefOk n l rt0) : ∃ ch rt, loopM (fun s : Bool × Int × List Int => m_assessorref44_Clusters_lp4 l s.1 s.2.1 s.2.2) (false, 0, lst n rt0) = some (ch, lst n rt) ∧ RefOk n l rt ∧ (ch = false → Resp l rt) ∧ (ch = true → sumL (lst n rt) < sumL (lst n rt0)) := by
  obtain ⟨b, hb, rt, e, h1, h2⟩ := loopM_inv (body := fun s : Bool × Int × List Int => m_assessorref44_Clusters_lp4 l s.1 s.2.1 s.2.2) (fun s => ∃ (k : Nat) (rt : Nat → Nat), s.2.1 = k ∧ k ≤ l.length ∧ s.2.2 = lst n rt ∧ RefOk n l rt ∧ (s.1 = false ∧ rt = rt0 ∧ Resp (l.take k) rt ∨ s.1 = true ∧ sumL (lst n rt) < sumL (lst n rt0))) (fun s => l.length - s.2.1.toNat) (fun b => ∃ rt, b.2 = lst n rt ∧ RefOk n l rt ∧ (b.1 = false ∧ rt = rt0 ∧ Resp l rt ∨ b.1 = true ∧ sumL (lst n rt) < sumL (lst n rt0))) (by
    rintro ⟨ch, k', g⟩ ⟨k, rt, rfl, hk, rfl, h1, h2⟩
    simp only at h2
    by_cases hkl : k < l.length
    · obtain ⟨p, hp⟩ := get_of_lt hkl
      obtain ⟨p1, p2, p3, p4⟩ := hr p (List.mem_of_getElem? hp)
      have hpa : (p.a.toNat : Int) = p.a := by omega
      have hpb : (p.b.toNat : Int) = p.b := by omega
      have ha : idx (lst n rt) p.a = some ((rt p.a.toNat : Nat) : Int) := idx_of p1 (lst_get (by omega))
      have hb : idx (lst n rt) p.b = some ((rt p.b.toNat : Nat) : Int) := idx_of p3 (lst_get (by omega))
      have em : min ((rt p.a.toNat : Nat) : Int) ((rt p.b.toNat : Nat) : Int) = ((min (rt p.a.toNat) (rt p.b.toNat) : Nat) : Int) := by omega
      by_cases hs : rt p.a.toNat = rt p.b.toNat
      · refine Or.inl ⟨(ch, ((k + 1 : Nat) : Int), lst n rt), ?_, ⟨k + 1, rt, rfl, by omega, rfl, h1, ?_⟩, by simp; omega⟩
        · simp only [m_assessorref44_Clusters_lp4]
          rw [if_pos (by simpa using hkl), idx_nat hp]
          simp only [Option.bind_some, ha, hb, em]
          rw [if_neg (by simp; omega)]
          simp only [Option.bind_some]
          rw [if_neg (by simp; omega), inK_succ (by omega)]
          rfl
        · rcases h2 with ⟨e1, e2, e3⟩ | h2
          · refine Or.inl ⟨e1, e2, fun q hq => ?_⟩
            rw [take_snoc_of hp] at hq
            rcases List.mem_append.1 hq with hq | hq
            · exact e3 q hq
            · rw [List.mem_singleton] at hq; subst hq; exact hs
          · exact Or.inr h2
      · let m := min (rt p.a.toNat) (rt p.b.toNat)
        let rt' : Nat → Nat := fun j => if j = p.b.toNat then m else if j = p.a.toNat then m else rt j
        have hset : ((lst n rt).set p.a.toNat ((m : Nat) : Int)).set p.b.toNat ((m : Nat) : Int) = lst n rt' := by rw [lst_set, lst_set]
        have ha1 := h1.1 p.a.toNat (by omega)
        have hb1 := h1.1 p.b.toNat (by omega)
        have hle : ∀ i, i < n → rt' i ≤ rt i := by
          intro i hi
          show (if i = p.b.toNat then m else if i = p.a.toNat then m else rt i) ≤ rt i
          split
          · rename_i e; subst e; omega
          · split
            · rename_i e; subst e; omega
            · exact Nat.le_refl _
        have hlt : ∃ i, i < n ∧ rt' i < rt i := by
          by_cases e : rt p.a.toNat < rt p.b.toNat
          · refine ⟨p.b.toNat, by omega, ?_⟩
            show (if p.b.toNat = p.b.toNat then m else _) < _
            rw [if_pos rfl]; omega
          · refine ⟨p.a.toNat, by omega, ?_⟩
            show (if p.a.toNat = p.b.toNat then m else if p.a.toNat = p.a.toNat then m else _) < _
            rw [if_pos rfl]
            split <;> omega
        have hsum : sumL (lst n rt') < sumL (lst n rt) := by
          rw [sumL_lst, sumL_lst]
          exact (sum_range_le n hle).2 hlt
        refine Or.inl ⟨(true, ((k + 1 : Nat) : Int), lst n rt'), ?_, ⟨k + 1, rt', rfl, by omega, rfl, ⟨fun i hi => Nat.le_trans (hle i hi) (h1.1 i hi), fun f hf i hi => ?_⟩, Or.inr ⟨rfl, ?_⟩⟩, by simp; omega⟩
        · have hx19 : idx ((lst n rt).set p.a.toNat ((m : Nat) : Int)) p.b = some (((fun j => if j = p.a.toNat then m else rt j) p.b.toNat : Nat) : Int) := by
            rw [lst_set]
            exact idx_of p3 (lst_get (by omega))
          simp only [m_assessorref44_Clusters_lp4]
          rw [if_pos (by simpa using hkl), idx_nat hp]
          simp only [Option.bind_some, ha, hb, em]
          have hcond : ((if (!decide (((rt p.a.toNat : Nat) : Int) = ((min (rt p.a.toNat) (rt p.b.toNat) : Nat) : Int))) = true then some true else some (!decide (((rt p.b.toNat : Nat) : Int) = ((min (rt p.a.toNat) (rt p.b.toNat) : Nat) : Int)))) : Option Bool) = some true := by
            by_cases e : rt p.a.toNat < rt p.b.toNat
            · rw [if_neg (by simp; omega)]
              simp; omega
            · rw [if_pos (by simp; omega)]
          rw [hcond]
          simp only [Option.bind_some, if_true]
          rw [hx19]
          simp only [Option.bind_some]
          rw [inK_succ (by omega)]
          simp only [Option.bind_some]
          rw [hset]
        · show f (if i = p.b.toNat then m else if i = p.a.toNat then m else rt i) = f i
          have fp : f p.a.toNat = f p.b.toNat := hf p (List.mem_of_getElem? hp)
          have fa := h1.2 f hf p.a.toNat (by omega)
          have fb := h1.2 f hf p.b.toNat (by omega)
          have fm : f m = f p.a.toNat := by
            by_cases e : rt p.a.toNat < rt p.b.toNat
            · have : m = rt p.a.toNat := by omega
              rw [this, fa]
            · have : m = rt p.b.toNat := by omega
              rw [this, fb, fp]
          split
          · rename_i e; subst e; rw [fm, fp]
          · split
            · rename_i e; subst e; exact fm
            · exact h1.2 f hf i hi
        · rcases h2 with ⟨_, e2, _⟩ | h2
          · rw [← e2]; exact hsum
          · exact Nat.lt_trans hsum h2.2
    · have : k = l.length := by omega
      subst this
      refine Or.inr ⟨(ch, lst n rt), ?_, rt, rfl, h1, ?_⟩
      · simp only [m_assessorref44_Clusters_lp4]
        rw [if_neg (by simp)]
      · rw [List.take_length] at h2; exact h2) (false, 0, lst n rt0) ⟨0, rt0, rfl, by omega, rfl, h0, Or.inl ⟨rfl, rfl, by intro p hp; simp at hp⟩⟩
  obtain ⟨ch, g⟩ := b
  simp only at e h2
  subst e
  refine ⟨ch, rt, hb, h1, ?_, ?_⟩
  · intro hc
    rcases h2 with h2 | h2
    · exact h2.2.2
    · rw [hc] at h2; cases h2.1
  · intro hc
    rcases h2 with h2 | h2
    · rw [hc] at h2; cases h2.1
    · exact h2.2
theorem bad_m (n : Int) (l : List Pair) (hl : l.length ≤ 4000000) : loopM (fun s => m_assessorref44_Clusters_lp1 n l s) 0 = some (if (l.any fun p => decide (p.a < 0 ∨ n ≤ p.a ∨ p.b < 0 ∨ n ≤ p.b)) = true then .ret ([], 2) else .brk ()) := by
  refine any_loop (body := fun s => m_assessorref44_Clusters_lp1 n l s) l (fun p => decide (p.a < 0 ∨ n ≤ p.a ∨ p.b < 0 ∨ n ≤ p.b)) (.ret ([], 2)) (.brk ()) (fun k p hp => ?_) ?_
  · have hk := (List.getElem?_eq_some_iff.1 hp).1
    simp only [m_assessorref44_Clusters_lp1]
    rw [if_pos (by simpa using hk), idx_nat hp, inK_succ (by omega)]
    simp only [Option.bind_some]
    by_cases h1 : p.a < 0
    · simp [h1]
    · by_cases h2 : n ≤ p.a
      · simp [h1, h2]
      · by_cases h3 : p.b < 0
        · simp [h1, h2, h3]
        · by_cases h4 : n ≤ p.b <;> simp [h1, h2, h3, h4]
  · simp only [m_assessorref44_Clusters_lp1]
    rw [if_neg (by simp)]
theorem ClustersR_m (n : Nat) (l : List Pair) (hn : n ≤ 1024) (hl : l.length ≤ 4000000) (hr : PrRange n l) : ∃ rt, m_assessorref44_Clusters (n : Int) l = some (clus n rt, 0) ∧ Labels n l rt := by
  unfold m_assessorref44_Clusters
  rw [if_neg (by simp; omega), bad_m _ _ hl]
  have hno : (l.any fun p => decide (p.a < 0 ∨ (n : Int) ≤ p.a ∨ p.b < 0 ∨ (n : Int) ≤ p.b)) = false := by
    rw [List.any_eq_false]
    intro p hp
    have := hr p hp
    simp only [decide_eq_true_eq]
    omega
  rw [hno, if_neg (by simp)]
  simp only [Option.bind_some]
  have l2 : loopM (fun s : Int × List Int => m_assessorref44_Clusters_lp2 (n : Int) s.1 s.2) (0, ([] : List Int)) = some (lst n id) := by
    refine loop_from (fun k => ((k : Int), lst k id)) n rfl (fun k hk => ?_) ?_
    · simp only [m_assessorref44_Clusters_lp2]
      rw [if_pos (by simpa using hk), app_ok (by rw [lst_len]; simp only [List.length_singleton]; omega)]
      simp only [Option.bind_some]
      rw [inK_succ (by omega)]
      simp only [Option.bind_some, Option.some.injEq, Step.next.injEq, Prod.mk.injEq, true_and]
      unfold lst
      rw [List.range_succ, List.map_append]
      rfl
    · simp only [m_assessorref44_Clusters_lp2]
      rw [if_neg (by simp)]
  rw [l2]
  simp only [Option.bind_some]
  obtain ⟨g, hg, rt, rfl, hrt, hres⟩ := loopM_inv (body := fun s : Bool × List Int => m_assessorref44_Clusters_lp3 l s.1 s.2) (fun s => ∃ rt, s.2 = lst n rt ∧ RefOk n l rt ∧ (s.1 = false → Resp l rt)) (fun s => if s.1 = true then sumL s.2 + 1 else 0) (fun b => ∃ rt, b = lst n rt ∧ RefOk n l rt ∧ Resp l rt) (by
    rintro ⟨ch, g⟩ ⟨rt, rfl, h1, h2⟩
    cases ch with
    | true =>
      obtain ⟨ch', rt', e1, e2, e3, e4⟩ := pass_m n l hl hr rt h1
      refine Or.inl ⟨(ch', lst n rt'), ?_, ⟨rt', rfl, e2, e3⟩, ?_⟩
      · simp only [m_assessorref44_Clusters_lp3]
        rw [if_pos trivial, e1]
        rfl
      · cases ch' with
        | true => have := e4 rfl; simp only [if_true]; omega
        | false => simp
    | false =>
      refine Or.inr ⟨lst n rt, ?_, rt, rfl, h1, h2 rfl⟩
      simp only [m_assessorref44_Clusters_lp3]
      rw [if_neg (by simp)]) (true, lst n id) ⟨id, rfl, ⟨fun i _ => Nat.le_refl _, fun f _ i _ => rfl⟩, fun h => by cases h⟩
  rw [hg]
  simp only [Option.bind_some]
  refine ⟨rt, ?_, hrt.1, hres, hrt.2⟩
  have l6 : ∀ i, i < n → loopM (fun s : Int × List Int => m_assessorref44_Clusters_lp6 (n : Int) (lst n rt) (i : Int) s.1 s.2) ((i : Int), ([] : List Int)) = some (cls n rt i) := by
    intro i hi
    have hfl : ∀ k, ((((List.range k).filter fun j => decide (rt j = i)).map fun j : Nat => (j : Int))).length ≤ k := by
      intro k
      rw [List.length_map]
      have := List.length_filter_le (fun j => decide (rt j = i)) (List.range k)
      simpa using this
    refine loop_from (fun k => (((i + k : Nat) : Int), ((List.range (i + k)).filter fun j => decide (rt j = i)).map fun j : Nat => (j : Int))) (n - i) ?_ (fun k hk => ?_) ?_
    · rw [Prod.mk.injEq]
      refine ⟨rfl, ?_⟩
      have : ((List.range (i + 0)).filter fun j => decide (rt j = i)) = [] := by
        rw [List.filter_eq_nil_iff]
        intro j hj
        have h1 := List.mem_range.1 hj
        have := hrt.1 j (by omega)
        simp; omega
      rw [this]; rfl
    · simp only [m_assessorref44_Clusters_lp6]
      rw [if_pos (by simp; omega), idx_nat (lst_get (by omega))]
      simp only [Option.bind_some]
      have hfk := hfl (i + k)
      rw [show i + (k + 1) = (i + k) + 1 by omega, List.range_succ, filterMap_app, List.map_append, inK_succ (by omega)]
      by_cases hc : rt (i + k) = i
      · rw [if_pos (by simp; omega), if_pos (by simpa using hc), app_ok (by simp only [List.length_singleton]; omega)]
        rfl
      · rw [if_neg (by simp; omega), if_neg (by simpa using hc)]
        simp
    · simp only [m_assessorref44_Clusters_lp6]
      rw [show i + (n - i) = n by omega, if_neg (by simp)]
      rfl
  have l5 : loopM (fun s : Int × List (List Int) => m_assessorref44_Clusters_lp5 (n : Int) (lst n rt) s.1 s.2) (0, []) = some (clus n rt) := by
    refine loop_from (fun k => ((k : Int), ((List.range k).map (cls n rt)).filter fun c => decide (1 < c.length))) n rfl (fun k hk => ?_) ?_
    · have hfl := List.length_filter_le (fun c : List Int => decide (1 < c.length)) ((List.range k).map (cls n rt))
      rw [List.length_map, List.length_range] at hfl
      simp only [m_assessorref44_Clusters_lp5]
      rw [if_pos (by simpa using hk), l6 k hk]
      simp only [Option.bind_some]
      rw [List.range_succ, List.map_append, List.map_cons, List.map_nil, filterMap_app, inK_succ (k := k) (by omega)]
      by_cases hc : 1 < (cls n rt k).length
      · rw [if_pos (by simp; omega), if_pos (by simpa using hc), app_ok (by simp only [List.length_singleton]; omega)]
        rfl
      · rw [if_neg (by simp; omega), if_neg (by simpa using hc), List.append_nil]
        rfl
    · simp only [m_assessorref44_Clusters_lp5]
      rw [if_neg (by simp)]
      rfl
  rw [l5]
  rfl
/-- Wrong numbers: an error. -/
theorem Clusters_bad (n : Int) (l : List Pair) (hl : l.length ≤ 4000000) (h : (n < 0 ∨ 1024 < n) ∨ ∃ p ∈ l, p.a < 0 ∨ n ≤ p.a ∨ p.b < 0 ∨ n ≤ p.b) : m_similarity_Clusters n l = some ([], 2) ∧ m_assessorref44_Clusters n l = some ([], 2) := by
  by_cases hn : n < 0 ∨ 1024 < n
  · unfold m_similarity_Clusters m_assessorref44_Clusters
    rw [if_pos (by simp; omega), if_pos (by simp; omega)]
    exact ⟨rfl, rfl⟩
  · have h2 : ∃ p ∈ l, p.a < 0 ∨ n ≤ p.a ∨ p.b < 0 ∨ n ≤ p.b := h.resolve_left hn
    constructor
    · obtain ⟨m, rfl⟩ := Int.eq_ofNat_of_zero_le (show 0 ≤ n by omega)
      refine Clusters_wrong m l (by omega) hl fun hr => ?_
      obtain ⟨p, h3, h4⟩ := h2
      have := hr p h3
      omega
    · unfold m_assessorref44_Clusters
      rw [if_neg (by simp; omega), bad_m _ _ hl, if_pos (by
        rw [List.any_eq_true]
        obtain ⟨p, h3, h4⟩ := h2
        exact ⟨p, h3, by simpa using h4⟩)]
      rfl
end Go.Proofs.Ytmfepkadggigpaa
