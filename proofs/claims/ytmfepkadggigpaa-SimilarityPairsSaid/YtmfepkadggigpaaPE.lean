/-
  Clusters of documents: union and find with shorter paths, and labels that spread, give one result. No program is named.
-/
import Derived.Test.YtmfepkadggigpaaPD
set_option linter.unusedVariables false
set_option linter.unusedSimpArgs false
namespace Go.Proofs.Ytmfepkadggigpaa
open Go.RowKit
/-- A labelling that does not part the members of a pair. -/
def Resp (l : List Pair) (f : Nat → Nat) : Prop := ∀ p ∈ l, f p.a.toNat = f p.b.toNat
/-- The label of each document: the least one that it is connected with. -/
def Labels (n : Nat) (l : List Pair) (rt : Nat → Nat) : Prop := (∀ i, i < n → rt i ≤ i) ∧ Resp l rt ∧ ∀ f, Resp l f → ∀ i, i < n → f (rt i) = f i
theorem Labels.one {n : Nat} {l : List Pair} {r s : Nat → Nat} (hr : Labels n l r) (hs : Labels n l s) {i : Nat} (hi : i < n) : r i = s i := by
  have h1 := hr.2.2 s hs.2.1 i hi
  have h2 := hs.2.2 r hr.2.1 i hi
  have h3 := hr.1 i hi
  have h4 := hs.1 i hi
  have h5 := hs.1 (r i) (by omega)
  have h6 := hr.1 (s i) (by omega)
  omega
/-- Who has a label. -/
def cls (n : Nat) (rt : Nat → Nat) (i : Nat) : List Int := ((List.range n).filter fun k => decide (rt k = i)).map fun k : Nat => (k : Int)
def clus (n : Nat) (rt : Nat → Nat) : List (List Int) := ((List.range n).map (cls n rt)).filter fun c => decide (1 < c.length)
theorem cls_mem {n : Nat} {rt : Nat → Nat} {i : Nat} {x : Int} : x ∈ cls n rt i ↔ ∃ k : Nat, x = k ∧ k < n ∧ rt k = i := by
  unfold cls
  simp only [List.mem_map, List.mem_filter, List.mem_range, decide_eq_true_eq]
  constructor
  · rintro ⟨k, ⟨h1, h2⟩, rfl⟩; exact ⟨k, rfl, h1, h2⟩
  · rintro ⟨k, rfl, h1, h2⟩; exact ⟨k, ⟨h1, h2⟩, rfl⟩
theorem cls_congr {n : Nat} {r s : Nat → Nat} (h : ∀ i, i < n → r i = s i) (i : Nat) : cls n r i = cls n s i := by
  unfold cls
  congr 1
  apply List.filter_congr
  intro k hk
  rw [h k (List.mem_range.1 hk)]
theorem clus_congr {n : Nat} {r s : Nat → Nat} (h : ∀ i, i < n → r i = s i) : clus n r = clus n s := by
  unfold clus
  congr 1
  apply List.map_congr_left
  intro i _
  exact cls_congr h i
theorem cls_len {n : Nat} {rt : Nat → Nat} {i : Nat} : (cls n rt i).length ≤ n := by
  unfold cls
  rw [List.length_map]
  have := List.length_filter_le (fun k => decide (rt k = i)) (List.range n)
  simpa using this
theorem clus_len {n : Nat} {rt : Nat → Nat} : (clus n rt).length ≤ n := by
  unfold clus
  refine Nat.le_trans (List.length_filter_le _ _) ?_
  simp
theorem cls_nodup {n : Nat} {rt : Nat → Nat} {i : Nat} : (cls n rt i).Nodup := by
  unfold cls
  rw [List.nodup_iff_pairwise_ne, List.pairwise_map]
  have := (List.nodup_range (n := n)).filter fun k => decide (rt k = i)
  exact this.imp fun h e => h (by omega)
/-- Pairs of numbers that are in range. -/
def PrRange (n : Nat) (l : List Pair) : Prop := ∀ p ∈ l, 0 ≤ p.a ∧ p.a < n ∧ 0 ≤ p.b ∧ p.b < n

/-! ### Links -/
def LinkOk (n : Nat) (link : List Int) (rt : Nat → Nat) : Prop := link.length = n ∧ ∀ i, i < n → ∃ c : Nat, link[i]? = some (c : Int) ∧ c ≤ i ∧ rt c = rt i ∧ rt i ≤ i ∧ (c = i ↔ rt i = i)
theorem LinkOk.root {n : Nat} {link : List Int} {rt : Nat → Nat} (h : LinkOk n link rt) : ∀ i, i < n → rt (rt i) = rt i := by
  intro i
  induction i using Nat.strongRecOn with
  | _ i ih =>
    intro hi
    obtain ⟨c, h1, h2, h3, h4, h5⟩ := h.2 i hi
    by_cases e : c = i
    · have := h5.1 e; rw [this, this]
    · rw [← h3]; exact ih c (by omega) (by omega)
theorem find_m {n : Nat} {rt : Nat → Nat} : ∀ (fuel i : Nat) (link : List Int), i < n → i < fuel → LinkOk n link rt → ∃ link', m_similarity_Clusters_1_r fuel (i : Int) link = some (((rt i : Nat) : Int), link') ∧ LinkOk n link' rt
  | 0, i, link, _, h, _ => by omega
  | fuel + 1, i, link, hi, hf, h => by
    obtain ⟨c, h1, h2, h3, h4, h5⟩ := h.2 i hi
    simp only [m_similarity_Clusters_1_r, m_similarity_Clusters_1_body]
    rw [idx_nat h1]
    simp only [Option.bind_some]
    by_cases e : c = i
    · subst e
      rw [if_neg (by simp)]
      simp only [Option.bind_some]
      rw [idx_nat h1]
      simp only [Option.bind_some]
      exact ⟨link, by rw [h5.1 rfl], h⟩
    · rw [if_pos (by simp; omega)]
      obtain ⟨link1, e1, e2⟩ := find_m fuel c link (by omega) (by omega) h
      rw [e1]
      simp only [Option.bind_some]
      obtain ⟨c1, k1, _⟩ := e2.2 i hi
      rw [idx_nat k1]
      simp only [Option.bind_some, Int.toNat_natCast]
      have hlen : i < link1.length := by rw [e2.1]; exact hi
      rw [idx_nat (k := i) (a := ((rt c : Nat) : Int)) (by rw [List.getElem?_set_self hlen])]
      simp only [Option.bind_some, Option.some.injEq, Prod.mk.injEq]
      refine ⟨_, ⟨by rw [h3], rfl⟩, by rw [List.length_set]; exact e2.1, fun j hj => ?_⟩
      by_cases hji : j = i
      · subst hji
        refine ⟨rt c, by rw [List.getElem?_set_self hlen], by rw [h3]; exact h4, ?_, h4, by rw [h3]⟩
        rw [h3]
        exact h.root j hi
      · rw [List.getElem?_set_ne (fun e => hji e.symm)]
        exact e2.2 j hj
theorem Find_m {n : Nat} {rt : Nat → Nat} {i : Nat} {link : List Int} (hi : i < n) (h : LinkOk n link rt) : ∃ link', m_similarity_Clusters_1 (i : Int) link = some (((rt i : Nat) : Int), link') ∧ LinkOk n link' rt := by
  unfold m_similarity_Clusters_1
  exact find_m _ i link hi (by omega) h
/-- Two roots are linked. -/
def join (rt : Nat → Nat) (a b : Nat) : Nat → Nat := fun i => if rt i = max (rt a) (rt b) then min (rt a) (rt b) else rt i
theorem LinkOk.join {n : Nat} {rt : Nat → Nat} {link : List Int} (h : LinkOk n link rt) {a b : Nat} (ha : a < n) (hb : b < n) : LinkOk n (link.set (max (rt a) (rt b)) ((min (rt a) (rt b) : Nat) : Int)) (join rt a b) := by
  obtain ⟨_, _, _, _, ha4, _⟩ := h.2 a ha
  obtain ⟨_, _, _, _, hb4, _⟩ := h.2 b hb
  have hra := h.root a ha
  have hrb := h.root b hb
  have hmax : rt (max (rt a) (rt b)) = max (rt a) (rt b) := by
    rcases Nat.le_total (rt a) (rt b) with hle | hle
    · rw [Nat.max_eq_right hle]; exact hrb
    · rw [Nat.max_eq_left hle]; exact hra
  have hmin : rt (min (rt a) (rt b)) = min (rt a) (rt b) := by
    rcases Nat.le_total (rt a) (rt b) with hle | hle
    · rw [Nat.min_eq_left hle]; exact hra
    · rw [Nat.min_eq_right hle]; exact hrb
  refine ⟨by rw [List.length_set]; exact h.1, fun i hi => ?_⟩
  by_cases e : i = max (rt a) (rt b)
  · refine ⟨min (rt a) (rt b), by rw [← e, List.getElem?_set_self (by rw [h.1]; exact hi)], by omega, ?_, ?_, ?_⟩
    · unfold Go.Proofs.Ytmfepkadggigpaa.join
      rw [hmin, e, hmax]
      simp
    · unfold Go.Proofs.Ytmfepkadggigpaa.join
      rw [e, hmax, if_pos rfl]; omega
    · unfold Go.Proofs.Ytmfepkadggigpaa.join
      rw [e, hmax, if_pos rfl]
  · obtain ⟨c, h1, h2, h3, h4, h5⟩ := h.2 i hi
    refine ⟨c, by rw [List.getElem?_set_ne (fun e' => e e'.symm)]; exact h1, h2, ?_, ?_, ?_⟩
    · unfold Go.Proofs.Ytmfepkadggigpaa.join
      rw [h3]
    · unfold Go.Proofs.Ytmfepkadggigpaa.join
      split <;> omega
    · unfold Go.Proofs.Ytmfepkadggigpaa.join
      rw [h5]
      split
      · omega
      · exact Iff.rfl
theorem join_labels {n : Nat} {l : List Pair} {rt : Nat → Nat} {p : Pair} (h : Labels n l rt) (hp : 0 ≤ p.a ∧ p.a < n ∧ 0 ≤ p.b ∧ p.b < n) : Labels n (l ++ [p]) (join rt p.a.toNat p.b.toNat) := by
  obtain ⟨h1, h2, h3⟩ := h
  refine ⟨fun i hi => ?_, fun q hq => ?_, fun f hf i hi => ?_⟩
  · have := h1 i hi
    unfold join
    split <;> omega
  · rcases List.mem_append.1 hq with hq | hq
    · unfold join; rw [h2 q hq]
    · rw [List.mem_singleton] at hq
      subst hq
      unfold join
      rcases Nat.le_total (rt q.a.toNat) (rt q.b.toNat) with hle | hle
      · rw [Nat.max_eq_right hle, Nat.min_eq_left hle, if_pos rfl]
        split <;> simp_all
      · rw [Nat.max_eq_left hle, Nat.min_eq_right hle, if_pos rfl]
        split <;> simp_all
  · have hfl : Resp l f := fun q hq => hf q (by simp [hq])
    have hfp : f p.a.toNat = f p.b.toNat := hf p (by simp)
    have ea := h3 f hfl p.a.toNat (by omega)
    have eb := h3 f hfl p.b.toNat (by omega)
    have ei := h3 f hfl i hi
    unfold join
    split
    · rename_i he
      rw [← ei, he]
      rcases Nat.le_total (rt p.a.toNat) (rt p.b.toNat) with hle | hle
      · rw [Nat.max_eq_right hle, Nat.min_eq_left hle, ea, eb, hfp]
      · rw [Nat.max_eq_left hle, Nat.min_eq_right hle, ea, eb, hfp]
    · exact ei
theorem labels_nil (n : Nat) : Labels n [] id := ⟨fun i _ => Nat.le_refl _, (by intro p hp; cases hp), fun f _ i _ => rfl⟩
/-- The groups so far. -/
def GrpIs (n : Nat) (rt : Nat → Nat) (k : Nat) (g : List (Int × List Int)) : Prop := (g.map (·.1)).Nodup ∧ (∀ x, x ∈ g.map (·.1) ↔ ∃ i, i < k ∧ x = (rt i : Int)) ∧ ∀ r : Nat, (mget g (r : Int)).getD [] = ((List.range k).filter fun i => decide (rt i = r)).map fun i : Nat => (i : Int)
theorem filterMap_app {α : Type} (l : List α) (a : α) (p : α → Bool) : (l ++ [a]).filter p = l.filter p ++ (if p a = true then [a] else []) := by
  rw [List.filter_append]
  congr 1
  cases h : p a <;> simp [h]
/-- Each is its own. -/
theorem own_m (n : Nat) (hn : n ≤ 1024) : loopM (fun s : Int × List Int => m_similarity_Clusters_lp1 (List.replicate n (0 : Int)) s.1 s.2) (0, List.replicate n (0 : Int)) = some ((List.range n).map fun i : Nat => (i : Int)) := by
  refine loop_from (fun k => ((k : Int), (List.range n).map fun i : Nat => if i < k then (i : Int) else 0)) n ?_ (fun k hk => ?_) ?_
  · rw [Prod.mk.injEq]
    refine ⟨rfl, List.ext_getElem? fun j => ?_⟩
    by_cases hj : j < n
    · simp [hj]
    · simp [hj]
  · simp only [m_similarity_Clusters_lp1]
    rw [if_pos (by simp; exact hk), idx_nat (k := k) (a := (0 : Int)) (by simp [hk])]
    simp only [Option.bind_some]
    rw [inK_succ (by omega)]
    simp only [Option.bind_some, Int.toNat_natCast, Option.some.injEq, Step.next.injEq, Prod.mk.injEq, true_and]
    refine List.ext_getElem? fun j => ?_
    rw [List.getElem?_set]
    by_cases hj : j < n
    · by_cases e : k = j
      · subst e; simp [hk]
      · have : j < k ↔ j < k + 1 := by omega
        simp [hj, e, this]
    · have e : k ≠ j := by omega
      simp [hj, e]
  · simp only [m_similarity_Clusters_lp1]
    rw [if_neg (by simp)]
    simp only [Option.some.injEq, Step.done.injEq]
    exact List.map_congr_left fun i hi => by rw [if_pos (List.mem_range.1 hi)]
/-- The pairs are joined, or a number is wrong. -/
theorem union_m (n : Nat) (l : List Pair) (hn : n ≤ 1024) (hl : l.length ≤ 4000000) : ∃ b, loopM (fun s : Int × List Int => m_similarity_Clusters_lp2 (n : Int) l s.1 s.2) (0, (List.range n).map fun i : Nat => (i : Int)) = some b ∧ ((∃ rt link, b = .brk link ∧ LinkOk n link rt ∧ Labels n l rt ∧ PrRange n l) ∨ b = .ret ([], 2) ∧ ¬ PrRange n l) := by
  obtain ⟨b, hb, hP⟩ := loopM_inv (body := fun s : Int × List Int => m_similarity_Clusters_lp2 (n : Int) l s.1 s.2) (fun s => ∃ (k : Nat) (rt : Nat → Nat), s.1 = k ∧ k ≤ l.length ∧ LinkOk n s.2 rt ∧ Labels n (l.take k) rt ∧ PrRange n (l.take k)) (fun s => l.length - s.1.toNat) (fun b => (∃ rt link, b = .brk link ∧ LinkOk n link rt ∧ Labels n l rt ∧ PrRange n l) ∨ b = .ret ([], 2) ∧ ¬ PrRange n l) (by
    rintro ⟨k', link⟩ ⟨k, rt, rfl, hk, h1, h2, hr⟩
    simp only at h1
    by_cases hkl : k < l.length
    · obtain ⟨p, hp⟩ := get_of_lt hkl
      by_cases hpr : 0 ≤ p.a ∧ p.a < n ∧ 0 ≤ p.b ∧ p.b < n
      case neg =>
        refine Or.inr ⟨.ret ([], 2), ?_, Or.inr ⟨rfl, fun h => hpr (h p (List.mem_of_getElem? hp))⟩⟩
        simp only [m_similarity_Clusters_lp2]
        rw [if_pos (by simpa using hkl), idx_nat hp]
        simp only [Option.bind_some]
        rw [if_pos (by simp; omega)]
      obtain ⟨p1, p2, p3, p4⟩ := hpr
      obtain ⟨a, ha⟩ := Int.eq_ofNat_of_zero_le p1
      obtain ⟨c, hc⟩ := Int.eq_ofNat_of_zero_le p3
      have han : a < n := by omega
      have hcn : c < n := by omega
      obtain ⟨link1, e1, e2⟩ := Find_m han h1
      obtain ⟨link2, f1, f2⟩ := Find_m hcn e2
      obtain ⟨_, _, _, _, ha4, _⟩ := h1.2 a han
      obtain ⟨_, _, _, _, hc4, _⟩ := h1.2 c hcn
      have hj := f2.join han hcn
      have hlab := join_labels (p := p) h2 ⟨p1, p2, p3, p4⟩
      have ea : p.a.toNat = a := by omega
      have ec : p.b.toNat = c := by omega
      rw [ea, ec] at hlab
      obtain ⟨v, hv⟩ := get_of_lt (l := link2) (k := max (rt a) (rt c)) (by rw [f2.1]; omega)
      refine Or.inl ⟨(((k + 1 : Nat) : Int), link2.set (max (rt a) (rt c)) ((min (rt a) (rt c) : Nat) : Int)), ?_, ⟨k + 1, join rt a c, rfl, by omega, hj, by rw [take_snoc_of hp]; exact hlab, fun q hq => by
        rw [take_snoc_of hp] at hq
        rcases List.mem_append.1 hq with hq | hq
        · exact hr q hq
        · rw [List.mem_singleton] at hq; subst hq; exact ⟨p1, p2, p3, p4⟩⟩, by simp; omega⟩
      simp only [m_similarity_Clusters_lp2]
      rw [if_pos (by simpa using hkl), idx_nat hp]
      simp only [Option.bind_some]
      rw [if_neg (by simp; omega), ha, e1]
      simp only [Option.bind_some]
      rw [hc, f1]
      simp only [Option.bind_some]
      have em : max ((rt a : Nat) : Int) ((rt c : Nat) : Int) = ((max (rt a) (rt c) : Nat) : Int) := by omega
      have em2 : min ((rt a : Nat) : Int) ((rt c : Nat) : Int) = ((min (rt a) (rt c) : Nat) : Int) := by omega
      rw [em, em2, idx_nat hv]
      simp only [Option.bind_some, Int.toNat_natCast]
      rw [inK_succ (by omega)]
      rfl
    · have : k = l.length := by omega
      subst this
      refine Or.inr ⟨.brk link, ?_, Or.inl ⟨rt, link, rfl, h1, by rw [List.take_length] at h2; exact h2, by rw [List.take_length] at hr; exact hr⟩⟩
      simp only [m_similarity_Clusters_lp2]
      rw [if_neg (by simp)]) (0, (List.range n).map fun i : Nat => (i : Int)) ⟨0, id, rfl, by omega, ⟨by simp, fun i hi => ⟨i, by simp [hi], by omega, rfl, by simp, by simp⟩⟩, by simpa using labels_nil n, fun p hp => by simp at hp⟩
  exact ⟨b, hb, hP⟩
theorem Clusters_m (n : Nat) (l : List Pair) (hn : n ≤ 1024) (hl : l.length ≤ 4000000) (hr : PrRange n l) : ∃ rt, m_similarity_Clusters (n : Int) l = some (clus n rt, 0) ∧ Labels n l rt := by
  unfold m_similarity_Clusters
  rw [if_neg (by simp; omega), mkc_ok (by omega)]
  simp only [Option.bind_some, Int.toNat_natCast]
  rw [own_m n hn]
  simp only [Option.bind_some]
  obtain ⟨b, hb, hP⟩ := union_m n l hn hl
  obtain ⟨rt, link, rfl, hlink, hlab, _⟩ := hP.resolve_right fun h => h.2 hr
  rw [hb]
  simp only [Option.bind_some]
  have hroot := hlink.root
  have hle : ∀ i, i < n → rt i ≤ i := hlab.1
  -- the groups
  obtain ⟨b, hb, hG⟩ := loopM_inv (body := fun s : Int × List (Int × List Int) × List Int => m_similarity_Clusters_lp3 (n : Int) s.1 s.2.1 s.2.2) (fun s => ∃ k : Nat, s.1 = k ∧ k ≤ n ∧ GrpIs n rt k s.2.1 ∧ LinkOk n s.2.2 rt) (fun s => n - s.1.toNat) (fun b => GrpIs n rt n b.1) (by
    rintro ⟨k', g, lk⟩ ⟨k, rfl, hk, ⟨g1, g2, g3⟩, hlk⟩
    simp only at g1 g2 g3 hlk
    by_cases hkl : k < n
    · obtain ⟨link1, e1, e2⟩ := Find_m hkl hlk
      obtain ⟨link2, f1, f2⟩ := Find_m hkl e2
      have hlen : (((List.range k).filter fun i => decide (rt i = rt k)).map fun i : Nat => (i : Int)).length ≤ k := by
        rw [List.length_map]
        have := List.length_filter_le (fun i => decide (rt i = rt k)) (List.range k)
        simpa using this
      refine Or.inl ⟨(((k + 1 : Nat) : Int), mput g ((rt k : Nat) : Int) ((((List.range k).filter fun i => decide (rt i = rt k)).map fun i : Nat => (i : Int)) ++ [(k : Int)]), link2), ?_, ⟨k + 1, rfl, by omega, ⟨mput_nodup g1 _ _, fun x => ?_, fun r => ?_⟩, f2⟩, by simp; omega⟩
      · simp only [m_similarity_Clusters_lp3]
        rw [if_pos (by simpa using hkl), e1]
        simp only [Option.bind_some]
        rw [f1]
        simp only [Option.bind_some]
        rw [g3, app_ok (by simp only [List.length_singleton]; omega)]
        simp only [Option.bind_some, guardEq, if_pos]
        rw [inK_succ (by omega)]
        rfl
      · rw [mput_mem, g2]
        constructor
        · rintro (rfl | ⟨i, h1, rfl⟩)
          · exact ⟨k, by omega, rfl⟩
          · exact ⟨i, by omega, rfl⟩
        · rintro ⟨i, h1, rfl⟩
          by_cases e : i = k
          · subst e; exact Or.inl rfl
          · exact Or.inr ⟨i, by omega, rfl⟩
      · simp only
        rw [mget_mput, List.range_succ, filterMap_app, List.map_append]
        by_cases e : r = rt k
        · subst e
          rw [if_pos rfl]
          simp
        · rw [if_neg (by omega), g3, if_neg (by simp; omega)]
          simp
    · have : k = n := by omega
      subst this
      refine Or.inr ⟨(g, lk), ?_, ⟨g1, g2, g3⟩⟩
      simp only [m_similarity_Clusters_lp3]
      rw [if_neg (by simp)]) (0, [], link) ⟨0, rfl, by omega, ⟨by simp, by simp, fun r => by simp [mget]⟩, hlink⟩
  rw [hb]
  simp only [Option.bind_some]
  obtain ⟨g1, g2, g3⟩ := hG
  have hkeys : (b.1.map (·.1)).mergeSort (fun x y => decide (x ≤ y)) = ((List.range n).filter fun i => decide (rt i = i)).map fun i : Nat => (i : Int) := by
    refine rising_int (sortI_lt g1) ?_ fun x => ?_
    · rw [List.pairwise_map]
      exact (List.pairwise_lt_range (n := n)).filter _ |>.imp fun h => by omega
    · rw [(sortI_perm _).mem_iff, g2]
      simp only [List.mem_map, List.mem_filter, List.mem_range, decide_eq_true_eq]
      constructor
      · rintro ⟨i, h1, rfl⟩
        exact ⟨rt i, ⟨by have := hle i h1; omega, hroot i h1⟩, rfl⟩
      · rintro ⟨i, ⟨h1, h2⟩, rfl⟩
        exact ⟨i, h1, by rw [h2]⟩
  have hbl : b.1.length ≤ 4000000 := by
    have h1 := congrArg List.length hkeys
    rw [List.length_mergeSort, List.length_map, List.length_map] at h1
    have := List.length_filter_le (fun i => decide (rt i = i)) (List.range n)
    rw [List.length_range] at this
    omega
  rw [sortedKeys_ok (fun x hx => by obtain ⟨i, h1, rfl⟩ := (g2 x).1 hx; have := hle i h1; omega) hbl, hkeys]
  simp only [Option.bind_some]
  refine ⟨rt, ?_, hlab⟩
  -- the result
  let X := (List.range n).filter fun i => decide (rt i = i)
  have hX : X.length ≤ n := by
    have := List.length_filter_le (fun i => decide (rt i = i)) (List.range n)
    simpa using this
  have hfin : clus n rt = (X.map (cls n rt)).filter fun c => decide (1 < c.length) := by
    show ((List.range n).map (cls n rt)).filter _ = _
    rw [List.filter_map, List.filter_map, List.filter_filter]
    congr 1
    apply List.filter_congr
    intro i hi
    by_cases hri : rt i = i
    · simp [hri]
    · have : cls n rt i = [] := by
        rw [List.eq_nil_iff_forall_not_mem]
        intro x hx
        obtain ⟨k, _, h1, h2⟩ := cls_mem.1 hx
        exact hri (by rw [← h2]; exact hroot k h1)
      simp [this]
  have l4 : loopM (fun s : Int × List (List Int) => m_similarity_Clusters_lp4 b (X.map fun i : Nat => (i : Int)) s.1 s.2) (0, []) = some (clus n rt) := by
    refine loop_from (fun k => ((k : Int), ((X.take k).map (cls n rt)).filter fun c => decide (1 < c.length))) X.length (by simp) (fun k hk => ?_) ?_
    · obtain ⟨i, hi⟩ := get_of_lt hk
      have hfl := List.length_filter_le (fun c : List Int => decide (1 < c.length)) ((X.take k).map (cls n rt))
      rw [List.length_map, List.length_take] at hfl
      simp only [m_similarity_Clusters_lp4]
      rw [if_pos (by simpa using hk), idx_nat (k := k) (a := (i : Int)) (by rw [List.getElem?_map, hi]; rfl)]
      simp only [Option.bind_some]
      rw [g3]
      have e : (((List.range n).filter fun j => decide (rt j = i)).map fun j : Nat => (j : Int)) = cls n rt i := rfl
      rw [e, take_snoc_of hi, List.map_append, List.map_cons, List.map_nil, filterMap_app, inK_succ (k := k) (by omega)]
      by_cases hc : 1 < (cls n rt i).length
      · rw [if_pos (by simp; omega), if_pos (by simpa using hc), app_ok (by simp only [List.length_singleton]; omega)]
        rfl
      · rw [if_neg (by simp; omega), if_neg (by simpa using hc), List.append_nil]
        rfl
    · simp only [m_similarity_Clusters_lp4]
      rw [if_neg (by simp), List.take_length, hfin]
  rw [l4]
  rfl
theorem Clusters_wrong (n : Nat) (l : List Pair) (hn : n ≤ 1024) (hl : l.length ≤ 4000000) (hr : ¬ PrRange n l) : m_similarity_Clusters (n : Int) l = some ([], 2) := by
  unfold m_similarity_Clusters
  rw [if_neg (by simp; omega), mkc_ok (by omega)]
  simp only [Option.bind_some, Int.toNat_natCast]
  rw [own_m n hn]
  simp only [Option.bind_some]
  obtain ⟨b, hb, hP⟩ := union_m n l hn hl
  rcases hP with ⟨_, _, _, _, _, h⟩ | ⟨rfl, _⟩
  · exact absurd h hr
  · rw [hb]; rfl
end Go.Proofs.Ytmfepkadggigpaa
