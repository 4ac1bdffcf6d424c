/-
  Runs of places: what overlaps are, in plain terms. No program is named.
-/
import Derived.Test.YtmfepkadggigpaaPE
set_option linter.unusedVariables false
set_option linter.unusedSimpArgs false
namespace Go.Proofs.Ytmfepkadggigpaa
open Go.RowKit
/-- A run of places: from f to l, each not more than k behind the one before, and none near it outside. -/
structure Run (P : Int → Prop) (k f l : Int) : Prop where
  first : P f
  last : P l
  le : f ≤ l
  before : ∀ x, P x → x < f → x + k < f
  behind : ∀ x, P x → l < x → l + k < x
  chain : ∀ x, P x → f ≤ x → x < l → ∃ y, P y ∧ x < y ∧ y ≤ x + k
theorem Run.one {P : Int → Prop} {k f l l' : Int} (h : Run P k f l) (h' : Run P k f l') : l = l' := by
  rcases Int.lt_trichotomy l l' with hlt | e | hlt
  · obtain ⟨y, h1, h2, h3⟩ := h'.chain l h.last h.le hlt
    have := h.behind y h1 h2
    omega
  · exact e
  · obtain ⟨y, h1, h2, h3⟩ := h.chain l' h'.last h'.le hlt
    have := h'.behind y h1 h2
    omega
theorem Run.apart {P : Int → Prop} {k f l f' l' : Int} (h : Run P k f l) (h' : Run P k f' l') (hf : f < f') : l + k < f' := by
  by_cases hl : l < f'
  · exact h.behind f' h'.first hl
  · exfalso
    have key : ∀ (n : Nat) (x : Int), (f' - x).toNat = n → P x → f ≤ x → x < f' → False := by
      intro n
      induction n using Nat.strongRecOn with
      | _ n ih =>
        intro x hn hx hfx hxf
        have h1 := h'.before x hx hxf
        obtain ⟨y, h2, h3, h4⟩ := h.chain x hx hfx (by omega)
        exact ih (f' - y).toNat (by omega) y rfl h2 (by omega) (by omega)
    exact key _ f rfl h.first (Int.le_refl _) hf
/-- Each place is in a run. -/
theorem Run.up {P : Int → Prop} {k M : Int} (hk : 0 ≤ k) (hM : ∀ x, P x → x ≤ M) : ∀ (n : Nat) (x : Int), (M - x).toNat = n → P x → ∃ l, P l ∧ x ≤ l ∧ (∀ y, P y → l < y → l + k < y) ∧ ∀ z, P z → x ≤ z → z < l → ∃ y, P y ∧ z < y ∧ y ≤ z + k := by
  intro n
  induction n using Nat.strongRecOn with
  | _ n ih =>
    intro x hn hx
    by_cases h : ∃ y, P y ∧ x < y ∧ y ≤ x + k
    · obtain ⟨y, h1, h2, h3⟩ := h
      have := hM y h1
      obtain ⟨l, l1, l2, l3, l4⟩ := ih (M - y).toNat (by omega) y rfl h1
      refine ⟨l, l1, by omega, l3, fun z hz hxz hzl => ?_⟩
      by_cases hzy : z < y
      · exact ⟨y, h1, hzy, by omega⟩
      · exact l4 z hz (by omega) hzl
    · refine ⟨x, hx, Int.le_refl _, fun y hy hxy => ?_, fun z hz h1 h2 => by omega⟩
      exact Classical.byContradiction fun hc => h ⟨y, hy, hxy, by omega⟩
theorem Run.ex {P : Int → Prop} {k M : Int} (hk : 0 ≤ k) (hM : ∀ x, P x → 0 ≤ x ∧ x ≤ M) : ∀ (n : Nat) (x : Int), x.toNat = n → P x → ∃ f l, Run P k f l ∧ f ≤ x ∧ x ≤ l := by
  intro n
  induction n using Nat.strongRecOn with
  | _ n ih =>
    intro x hn hx
    have hx0 := hM x hx
    by_cases h : ∃ y, P y ∧ y < x ∧ x ≤ y + k
    · obtain ⟨y, h1, h2, h3⟩ := h
      have := hM y h1
      obtain ⟨f, l, r, r1, r2⟩ := ih y.toNat (by omega) y rfl h1
      refine ⟨f, l, r, by omega, ?_⟩
      exact Classical.byContradiction fun hc => by
        have := r.behind x hx (by omega)
        omega
    · obtain ⟨l, l1, l2, l3, l4⟩ := Run.up hk (fun x hx => (hM x hx).2) _ x rfl hx
      refine ⟨x, l, ⟨hx, l1, l2, fun y hy hyx => ?_, l3, l4⟩, Int.le_refl _, l2⟩
      exact Classical.byContradiction fun hc => h ⟨y, hy, hyx, by omega⟩
/-- The places of a diagonal. -/
def Pl (a b : List Mark) (d i : Int) : Prop := ∃ x ∈ a, ∃ y ∈ b, x.hash = y.hash ∧ x.at_ = i ∧ y.at_ - x.at_ = d
/-- The overlaps of a diagonal. -/
def OvD (a b : List Mark) (k d : Int) (o : Overlap) : Prop := ∃ f l, Run (Pl a b d) k f l ∧ o = ⟨f, f + d, l - f + k⟩
def OvMem (a b : List Mark) (k : Int) (o : Overlap) : Prop := OvD a b k (o.b - o.a) o
theorem OvD.diag {a b : List Mark} {k d : Int} {o : Overlap} (h : OvD a b k d o) : o.b - o.a = d := by
  obtain ⟨f, l, _, rfl⟩ := h
  simp only
  omega
theorem OvD.mem {a b : List Mark} {k d : Int} {o : Overlap} (h : OvD a b k d o) : OvMem a b k o := by
  unfold OvMem; rw [h.diag]; exact h
theorem OvD.one {a b : List Mark} {k d : Int} {o p : Overlap} (h : OvD a b k d o) (h' : OvD a b k d p) (e : o.a = p.a) : o = p := by
  obtain ⟨f, l, r, rfl⟩ := h
  obtain ⟨f', l', r', rfl⟩ := h'
  simp only at e
  subst e
  rw [r.one r']
theorem OvMem.one {a b : List Mark} {k : Int} {o p : Overlap} (h : OvMem a b k o) (h' : OvMem a b k p) (e : o.a = p.a) (e' : o.b = p.b) : o = p := by
  unfold OvMem at h h'
  rw [← e, ← e'] at h'
  exact OvD.one h h' e
/-- Marks whose places are in range. -/
def AtOk (l : List Mark) : Prop := ∀ x ∈ l, 0 ≤ x.at_ ∧ x.at_ ≤ 2048
theorem Pl.range {a b : List Mark} (ha : AtOk a) (hb : AtOk b) {d i : Int} (h : Pl a b d i) : 0 ≤ i ∧ i ≤ 2048 ∧ 0 ≤ i + d ∧ i + d ≤ 2048 := by
  obtain ⟨x, hx, y, hy, _, h1, h2⟩ := h
  have := ha x hx
  have := hb y hy
  omega
theorem OvD.range {a b : List Mark} (ha : AtOk a) (hb : AtOk b) {k d : Int} {o : Overlap} (h : OvD a b k d o) : 0 ≤ o.a ∧ o.a ≤ 2048 ∧ 0 ≤ o.b ∧ o.b ≤ 2048 ∧ k ≤ o.len ∧ o.len ≤ 2048 + k ∧ -2048 ≤ d ∧ d ≤ 2048 := by
  obtain ⟨f, l, r, rfl⟩ := h
  have h1 := r.first.range ha hb
  have h2 := r.last.range ha hb
  have := r.le
  simp only
  omega
/-- Lists that are sorted. -/
def ovLe (x y : Overlap) : Bool := !ovLt y x
theorem ovLe_iff {x y : Overlap} : ovLe x y = true ↔ (y.len < x.len ∨ y.len = x.len ∧ (x.a < y.a ∨ x.a = y.a ∧ x.b ≤ y.b)) := by
  unfold ovLe ovLt
  simp only [Bool.not_eq_true', decide_eq_false_iff_not]
  omega
theorem ovLe_trans (x y z : Overlap) (h1 : ovLe x y = true) (h2 : ovLe y z = true) : ovLe x z = true := by rw [ovLe_iff] at *; omega
theorem ovLe_total (x y : Overlap) : (ovLe x y || ovLe y x) = true := by rw [Bool.or_eq_true, ovLe_iff, ovLe_iff]; omega
theorem ovLe_anti {x y : Overlap} (h1 : ovLe x y = true) (h2 : ovLe y x = true) : x = y := by
  rw [ovLe_iff] at *
  obtain ⟨a, b, c⟩ := x
  obtain ⟨a', b', c'⟩ := y
  simp only at *
  rw [Overlap.mk.injEq]
  omega
theorem ovLt_le {x y : Overlap} (h : ovLt x y = true) : ovLe x y = true := by
  rw [ovLe_iff]; unfold ovLt at h; rw [decide_eq_true_eq] at h; omega
/-- The overlaps of two lists of marks, in their order. -/
def OvsIs (a b : List Mark) (k : Int) (r : List Overlap) : Prop := r.Pairwise (fun x y => ovLe x y = true) ∧ r.Nodup ∧ ∀ o, o ∈ r ↔ OvMem a b k o
theorem OvsIs.one {a b : List Mark} {k : Int} {r s : List Overlap} (hr : OvsIs a b k r) (hs : OvsIs a b k s) : r = s :=
  List.Perm.eq_of_pairwise (le := fun x y => ovLe x y = true) (fun x y _ _ h3 h4 => ovLe_anti h3 h4) hr.1 hs.1 ((List.perm_ext_iff_of_nodup hr.2.1 hs.2.1).2 fun o => (hr.2.2 o).trans (hs.2.2 o).symm)
theorem nodup_sub {α : Type} [DecidableEq α] {l m : List α} (h : l.Nodup) (hs : ∀ x ∈ l, x ∈ m) : l.length ≤ m.length := by
  induction l generalizing m with
  | nil => simp
  | cons a l ih =>
    obtain ⟨h1, h2⟩ := List.nodup_cons.1 h
    have ha := hs a (by simp)
    have := ih (m := m.erase a) h2 fun x hx => (List.mem_erase_of_ne (fun e => h1 (by rw [← e]; exact hx))).2 (hs x (by simp [hx]))
    rw [List.length_erase_of_mem ha] at this
    have := List.length_pos_of_mem ha
    simp only [List.length_cons]
    omega
/-- There are not too many. -/
theorem ov_few {a b : List Mark} (ha : AtOk a) (hb : AtOk b) {k : Int} {s : List Overlap} (hn : s.Nodup) (hm : ∀ o ∈ s, OvMem a b k o) : s.length ≤ 4198401 := by
  have h1 : (s.map fun o => (o.a.toNat, o.b.toNat)).Nodup := by
    rw [List.nodup_iff_pairwise_ne, List.pairwise_map]
    rw [List.nodup_iff_pairwise_ne] at hn
    refine hn.imp_of_mem fun {x y} hx hy hxy e => hxy ?_
    have r1 := OvD.range ha hb (hm x hx)
    have r2 := OvD.range ha hb (hm y hy)
    simp only [Prod.mk.injEq] at e
    exact OvMem.one (hm x hx) (hm y hy) (by omega) (by omega)
  have h2 := nodup_sub h1 (m := (List.range 2049).flatMap fun i => (List.range 2049).map fun j => (i, j)) fun p hp => by
    obtain ⟨o, ho, rfl⟩ := List.mem_map.1 hp
    have r1 := OvD.range ha hb (hm o ho)
    rw [List.mem_flatMap]
    exact ⟨o.a.toNat, List.mem_range.2 (by omega), List.mem_map.2 ⟨o.b.toNat, List.mem_range.2 (by omega), rfl⟩⟩
  rw [List.length_map] at h2
  refine Nat.le_trans h2 ?_
  have h3 : ∀ n : Nat, ((List.range n).map fun _ => 2049).sum = n * 2049 := by
    intro n
    induction n with
    | zero => rfl
    | succ n ih => rw [List.range_succ, List.map_append, List.sum_append, ih]; simp; omega
  rw [List.length_flatMap]
  simp only [List.length_map, List.length_range, h3]
  omega
/-- A sorted list of places, read from left to right: the runs whose first place stands before the fi-th. -/
theorem run_at {P : Int → Prop} {k : Int} (hk : 0 ≤ k) {L : List Int} (hL : L.Pairwise (· ≤ ·)) (hP : ∀ x, x ∈ L ↔ P x) {fi i : Nat} {f l : Int} (hfi : L[fi]? = some f) (hi : L[i]? = some l) (hle : fi ≤ i)
    (hbef : ∀ x, 0 < fi → L[fi - 1]? = some x → x + k < f) (hch : ∀ j x y, fi ≤ j → j < i → L[j]? = some x → L[j + 1]? = some y → y ≤ x + k) (hbeh : ∀ y, L[i + 1]? = some y → l + k < y) : Run P k f l := by
  have mono : ∀ (p q : Nat) (x y : Int), p ≤ q → L[p]? = some x → L[q]? = some y → x ≤ y := by
    intro p q x y hpq hx hy
    by_cases e : p = q
    · subst e; rw [hx] at hy; obtain rfl := Option.some.inj hy; exact Int.le_refl _
    · obtain ⟨h1, e1⟩ := List.getElem?_eq_some_iff.1 hx
      obtain ⟨h2, e2⟩ := List.getElem?_eq_some_iff.1 hy
      have := List.pairwise_iff_getElem.1 hL p q h1 h2 (by omega)
      rw [e1, e2] at this
      exact this
  refine ⟨(hP f).1 (List.mem_of_getElem? hfi), (hP l).1 (List.mem_of_getElem? hi), mono _ _ _ _ hle hfi hi, fun x hx hxf => ?_, fun x hx hxl => ?_, fun x hx hfx hxl => ?_⟩
  · obtain ⟨j, hj⟩ := List.getElem?_of_mem ((hP x).2 hx)
    have hjf : j < fi := Classical.byContradiction fun hc => by have := mono fi j f x (by omega) hfi hj; omega
    obtain ⟨y, hy⟩ := get_of_lt (l := L) (k := fi - 1) (by have := (List.getElem?_eq_some_iff.1 hfi).1; omega)
    have h1 := hbef y (by omega) hy
    have h2 := mono j (fi - 1) x y (by omega) hj hy
    omega
  · obtain ⟨j, hj⟩ := List.getElem?_of_mem ((hP x).2 hx)
    have hjl : i < j := Classical.byContradiction fun hc => by have := mono j i x l (by omega) hj hi; omega
    obtain ⟨y, hy⟩ := get_of_lt (l := L) (k := i + 1) (by have := (List.getElem?_eq_some_iff.1 hj).1; omega)
    have h1 := hbeh y hy
    have h2 := mono (i + 1) j y x (by omega) hy hj
    omega
  · -- the last place of this value
    have key : ∀ (n j : Nat), i - j = n → fi ≤ j → j ≤ i → L[j]? = some x → ∃ y, P y ∧ x < y ∧ y ≤ x + k := by
      intro n
      induction n with
      | zero =>
        intro j h1 h2 h3 h4
        have : j = i := by omega
        subst this
        rw [hi] at h4
        obtain rfl := Option.some.inj h4
        omega
      | succ n ih =>
        intro j h1 h2 h3 h4
        obtain ⟨y, hy⟩ := get_of_lt (l := L) (k := j + 1) (by have := (List.getElem?_eq_some_iff.1 hi).1; omega)
        have h5 := hch j x y h2 (by omega) h4 hy
        have h6 := mono j (j + 1) x y (by omega) h4 hy
        by_cases e : y = x
        · subst e; exact ih (j + 1) (by omega) (by omega) (by omega) hy
        · exact ⟨y, (hP y).1 (List.mem_of_getElem? hy), by omega, h5⟩
    obtain ⟨j, hj⟩ := List.getElem?_of_mem ((hP x).2 hx)
    by_cases hjf : fi ≤ j
    · have hji : j ≤ i := Classical.byContradiction fun hc => by have := mono i j l x (by omega) hi hj; omega
      exact key _ j rfl hjf hji hj
    · have h7 := mono j fi x f (by omega) hj hfi
      have : x = f := by omega
      subst this
      exact key _ fi rfl (Nat.le_refl _) hle hfi
theorem out_m (l : List Mark) (hl : l.length ≤ 4294967296) : m_slices_ContainsFunc_similarity_Overlaps_1 l = some (l.any fun m => decide (m.at_ < 0 ∨ 2048 < m.at_)) := by
  unfold m_slices_ContainsFunc_similarity_Overlaps_1 m_slices_IndexFunc_similarity_Overlaps_1
  have hbody : ∀ (k : Nat) a, l[k]? = some a → m_slices_IndexFunc_similarity_Overlaps_1_lp1 l k = some (if decide (a.at_ < 0 ∨ 2048 < a.at_) = true then .done (.ret (k : Int)) else .next ((k + 1 : Nat) : Int)) := by
    intro k a ha
    have hk := (List.getElem?_eq_some_iff.1 ha).1
    simp only [m_slices_IndexFunc_similarity_Overlaps_1_lp1, m_similarity_Overlaps_1]
    rw [if_pos (by simpa using hk), idx_nat ha]
    simp only [Option.bind_some]
    rw [inK_succ (by omega)]
    by_cases h1 : a.at_ < 0 <;> by_cases h2 : 2048 < a.at_ <;> simp [h1, h2]
  have hend : m_slices_IndexFunc_similarity_Overlaps_1_lp1 l (l.length : Int) = some (.done (.brk ())) := by
    simp only [m_slices_IndexFunc_similarity_Overlaps_1_lp1]
    rw [if_neg (by simp)]
  rcases scan_loop (body := fun s => m_slices_IndexFunc_similarity_Overlaps_1_lp1 l s) l (fun a => decide (a.at_ < 0 ∨ 2048 < a.at_)) (fun k _ => .ret (k : Int)) (.brk ()) hbody hend with ⟨k, a, _, _, _, h, _, e⟩ | ⟨_, h, _, e⟩
  · rw [e, h]; simp
  · rw [e, h]; rfl
theorem AtOk_iff {l : List Mark} : AtOk l ↔ (l.any fun m => decide (m.at_ < 0 ∨ 2048 < m.at_)) = false := by
  rw [List.any_eq_false]
  unfold AtOk
  simp only [decide_eq_true_eq]
  exact ⟨fun h x hx => by have := h x hx; omega, fun h x hx => by have := h x hx; omega⟩
/-- The places of each hash. -/
theorem plc_m (b : List Mark) (hb : b.length ≤ 256) : ∃ m, loopM (fun s : Int × List (Int × List Int) => m_similarity_diagonals_lp1 b s.1 s.2) (0, []) = some m ∧ ∀ h, ((mget m h).getD []).length ≤ b.length ∧ ∀ t, t ∈ (mget m h).getD [] ↔ ∃ y ∈ b, y.hash = h ∧ y.at_ = t := by
  obtain ⟨m, hm, hP⟩ := loopM_inv (body := fun s : Int × List (Int × List Int) => m_similarity_diagonals_lp1 b s.1 s.2) (fun s => ∃ k : Nat, s.1 = k ∧ k ≤ b.length ∧ ∀ h, ((mget s.2 h).getD []).length ≤ k ∧ ∀ t, t ∈ (mget s.2 h).getD [] ↔ ∃ y ∈ b.take k, y.hash = h ∧ y.at_ = t) (fun s => b.length - s.1.toNat) (fun m => ∀ h, ((mget m h).getD []).length ≤ b.length ∧ ∀ t, t ∈ (mget m h).getD [] ↔ ∃ y ∈ b, y.hash = h ∧ y.at_ = t) (by
    rintro ⟨k', m⟩ ⟨k, rfl, hk, hI⟩
    simp only at hI
    by_cases hkl : k < b.length
    · obtain ⟨y, hy⟩ := get_of_lt hkl
      have hlen := (hI y.hash).1
      refine Or.inl ⟨(((k + 1 : Nat) : Int), mput m y.hash ((mget m y.hash).getD [] ++ [y.at_])), ?_, ⟨k + 1, rfl, by omega, fun h => ⟨?_, fun t => ?_⟩⟩, by simp; omega⟩
      · simp only [m_similarity_diagonals_lp1]
        rw [if_pos (by simpa using hkl), idx_nat hy]
        simp only [Option.bind_some]
        rw [app_ok (by simp only [List.length_singleton]; omega)]
        simp only [Option.bind_some]
        rw [inK_succ (by omega)]
        rfl
      · simp only
        rw [mget_mput]
        by_cases e : h = y.hash
        · rw [if_pos e]; simp; omega
        · rw [if_neg e]; have := (hI h).1; omega
      · simp only
        rw [mget_mput, take_snoc_of hy]
        by_cases e : h = y.hash
        · subst e
          rw [if_pos rfl]
          simp only [Option.getD_some, List.mem_append, List.mem_singleton, (hI y.hash).2]
          constructor
          · rintro (⟨z, h1, h2⟩ | rfl)
            · exact ⟨z, Or.inl h1, h2⟩
            · exact ⟨y, Or.inr rfl, rfl, rfl⟩
          · rintro ⟨z, h1 | rfl, h2⟩
            · exact Or.inl ⟨z, h1, h2⟩
            · exact Or.inr h2.2.symm
        · rw [if_neg e, (hI h).2]
          constructor
          · rintro ⟨z, h1, h2⟩
            exact ⟨z, List.mem_append_left _ h1, h2⟩
          · rintro ⟨z, h1, h2⟩
            rcases List.mem_append.1 h1 with h1 | h1
            · exact ⟨z, h1, h2⟩
            · rw [List.mem_singleton] at h1; subst h1; exact absurd h2.1.symm e
    · have : k = b.length := by omega
      subst this
      refine Or.inr ⟨m, ?_, ?_⟩
      · simp only [m_similarity_diagonals_lp1]
        rw [if_neg (by simp)]
      · rw [List.take_length] at hI; exact hI) (0, []) ⟨0, rfl, by omega, fun h => by simp [mget]⟩
  exact ⟨m, hm, hP⟩
/-- Places by their diagonals: the keys differ, each has a place. -/
def DgIs (S : Int → Int → Prop) (N : Nat) (m : List (Int × List Int)) : Prop := (m.map (·.1)).Nodup ∧ (∀ d, d ∈ m.map (·.1) ↔ ∃ i, S d i) ∧ ∀ d, ((mget m d).getD []).length ≤ N ∧ ∀ i, i ∈ (mget m d).getD [] ↔ S d i
theorem DgIs.congr {S T : Int → Int → Prop} {N M : Nat} {m : List (Int × List Int)} (h : DgIs S N m) (e : ∀ d i, S d i ↔ T d i) (hN : N ≤ M) : DgIs T M m := by
  have : S = T := by funext d i; exact propext (e d i)
  subst this
  exact ⟨h.1, h.2.1, fun d => ⟨Nat.le_trans (h.2.2 d).1 hN, (h.2.2 d).2⟩⟩
theorem DgIs.put {S : Int → Int → Prop} {N : Nat} {m : List (Int × List Int)} (h : DgIs S N m) (d i : Int) : DgIs (fun d' i' => S d' i' ∨ d' = d ∧ i' = i) (N + 1) (mput m d ((mget m d).getD [] ++ [i])) := by
  refine ⟨mput_nodup h.1 _ _, fun d' => ?_, fun d' => ?_⟩
  · rw [mput_mem, h.2.1]
    constructor
    · rintro (rfl | ⟨i', h1⟩)
      · exact ⟨i, Or.inr ⟨rfl, rfl⟩⟩
      · exact ⟨i', Or.inl h1⟩
    · rintro ⟨i', h1 | ⟨h1, _⟩⟩
      · exact Or.inr ⟨i', h1⟩
      · exact Or.inl h1
  · rw [mget_mput]
    by_cases e : d' = d
    · subst e
      rw [if_pos rfl]
      have h1 := h.2.2 d'
      refine ⟨by simp; omega, fun i' => ?_⟩
      simp only [Option.getD_some, List.mem_append, List.mem_singleton, h1.2]
      simp
    · rw [if_neg e]
      have h1 := h.2.2 d'
      refine ⟨by omega, fun i' => ?_⟩
      rw [h1.2]
      simp [e]
theorem diag_m (a b : List Mark) (ha : a.length ≤ 256) (hb : b.length ≤ 256) (oa : AtOk a) (ob : AtOk b) (P : List (Int × List Int)) (hP : ∀ h, ((mget P h).getD []).length ≤ b.length ∧ ∀ t, t ∈ (mget P h).getD [] ↔ ∃ y ∈ b, y.hash = h ∧ y.at_ = t) :
    ∃ m, loopM (fun s : Int × List (Int × List Int) => m_similarity_diagonals_lp2 a P s.1 s.2) (0, []) = some m ∧ DgIs (Pl a b) 65536 m := by
  have inner : ∀ (x : Mark) (S : Int → Int → Prop) (N : Nat) (m : List (Int × List Int)), x ∈ a → N ≤ 1000000 → DgIs S N m → ∃ m', loopM (fun s : Int × List (Int × List Int) => m_similarity_diagonals_lp3 P x s.1 s.2) (0, m) = some m' ∧ DgIs (fun d i => S d i ∨ i = x.at_ ∧ ∃ t ∈ (mget P x.hash).getD [], t - x.at_ = d) (N + 256) m' := by
    intro x S N m hx hN hm
    have hxo := oa x hx
    have hPl := (hP x.hash).1
    have hPo : ∀ t ∈ (mget P x.hash).getD [], 0 ≤ t ∧ t ≤ 2048 := fun t ht => by
      obtain ⟨y, hy, _, rfl⟩ := ((hP x.hash).2 t).1 ht
      exact ob y hy
    generalize hT : (mget P x.hash).getD [] = T at hPl hPo
    obtain ⟨m', h1, h2⟩ := loopM_inv (body := fun s : Int × List (Int × List Int) => m_similarity_diagonals_lp3 P x s.1 s.2) (fun s => ∃ k : Nat, s.1 = k ∧ k ≤ T.length ∧ DgIs (fun d i => S d i ∨ i = x.at_ ∧ ∃ t ∈ T.take k, t - x.at_ = d) (N + k) s.2) (fun s => T.length - s.1.toNat) (fun m' => DgIs (fun d i => S d i ∨ i = x.at_ ∧ ∃ t ∈ T, t - x.at_ = d) (N + 256) m') (by
      rintro ⟨k', m⟩ ⟨k, rfl, hk, hI⟩
      simp only at hI
      by_cases hkl : k < T.length
      · obtain ⟨t, ht⟩ := get_of_lt hkl
        have hto := hPo t (List.mem_of_getElem? ht)
        have hlen := (hI.2.2 (t - x.at_)).1
        refine Or.inl ⟨(((k + 1 : Nat) : Int), mput m (t - x.at_) ((mget m (t - x.at_)).getD [] ++ [x.at_])), ?_, ⟨k + 1, rfl, by omega, (hI.put (t - x.at_) x.at_).congr (fun d i => ?_) (by omega)⟩, by simp; omega⟩
        · simp only [m_similarity_diagonals_lp3]
          rw [hT, if_pos (by simpa using hkl), idx_nat ht]
          simp only [Option.bind_some]
          rw [inK_eq (n := t - x.at_) (by omega)]
          simp only [Option.bind_some]
          rw [app_ok (by simp only [List.length_singleton]; omega)]
          simp only [Option.bind_some, guardEq, if_pos]
          rw [inK_succ (by omega)]
          rfl
        · rw [take_snoc_of ht]
          constructor
          · rintro ((h | ⟨h, t', h1, h2⟩) | ⟨rfl, rfl⟩)
            · exact Or.inl h
            · exact Or.inr ⟨h, t', List.mem_append_left _ h1, h2⟩
            · exact Or.inr ⟨rfl, t, by simp, rfl⟩
          · rintro (h | ⟨h, t', h1, h2⟩)
            · exact Or.inl (Or.inl h)
            · rcases List.mem_append.1 h1 with h1 | h1
              · exact Or.inl (Or.inr ⟨h, t', h1, h2⟩)
              · rw [List.mem_singleton] at h1; subst h1; exact Or.inr ⟨h2.symm, h⟩
      · have : k = T.length := by omega
        subst this
        refine Or.inr ⟨m, ?_, ?_⟩
        · simp only [m_similarity_diagonals_lp3]
          rw [hT, if_neg (by simp)]
        · rw [List.take_length] at hI; exact hI.congr (fun _ _ => Iff.rfl) (by omega)) (0, m) ⟨0, rfl, by omega, hm.congr (fun d i => by simp) (by omega)⟩
    exact ⟨m', h1, h2⟩
  obtain ⟨m', h1, h2⟩ := loopM_inv (body := fun s : Int × List (Int × List Int) => m_similarity_diagonals_lp2 a P s.1 s.2) (fun s => ∃ k : Nat, s.1 = k ∧ k ≤ a.length ∧ DgIs (Pl (a.take k) b) (k * 256) s.2) (fun s => a.length - s.1.toNat) (fun m' => DgIs (Pl a b) 65536 m') (by
    rintro ⟨k', m⟩ ⟨k, rfl, hk, hI⟩
    simp only at hI
    by_cases hkl : k < a.length
    · obtain ⟨x, hx⟩ := get_of_lt hkl
      obtain ⟨m', e1, e2⟩ := inner x _ _ m (List.mem_of_getElem? hx) (by omega) hI
      refine Or.inl ⟨(((k + 1 : Nat) : Int), m'), ?_, ⟨k + 1, rfl, by omega, e2.congr (fun d i => ?_) (by omega)⟩, by simp; omega⟩
      · simp only [m_similarity_diagonals_lp2]
        rw [if_pos (by simpa using hkl), idx_nat hx]
        simp only [Option.bind_some]
        rw [e1]
        simp only [Option.bind_some]
        rw [inK_succ (by omega)]
        rfl
      · rw [take_snoc_of hx]
        unfold Pl
        constructor
        · rintro (⟨z, h1, h2⟩ | ⟨rfl, t, h1, h2⟩)
          · exact ⟨z, List.mem_append_left _ h1, h2⟩
          · obtain ⟨y, hy, h3, h4⟩ := ((hP x.hash).2 t).1 h1
            exact ⟨x, by simp, y, hy, h3.symm, rfl, by rw [h4]; exact h2⟩
        · rintro ⟨z, h1, y, hy, h3, h4, h5⟩
          rcases List.mem_append.1 h1 with h1 | h1
          · exact Or.inl ⟨z, h1, y, hy, h3, h4, h5⟩
          · rw [List.mem_singleton] at h1
            subst h1
            exact Or.inr ⟨h4.symm, y.at_, ((hP z.hash).2 _).2 ⟨y, hy, h3.symm, rfl⟩, h5⟩
    · have : k = a.length := by omega
      subst this
      refine Or.inr ⟨m, ?_, ?_⟩
      · simp only [m_similarity_diagonals_lp2]
        rw [if_neg (by simp)]
      · rw [List.take_length] at hI; exact hI.congr (fun _ _ => Iff.rfl) (by omega)) (0, []) ⟨0, rfl, by omega, by simp, fun d => by simp [Pl], fun d => by simp [mget, Pl]⟩
  exact ⟨m', h1, h2⟩
theorem mget_map {κ β γ : Type} [DecidableEq κ] (f : κ → β → γ) (l : List (κ × β)) (k : κ) : mget (l.map fun p => (p.1, f p.1 p.2)) k = (mget l k).map (f k) := by
  unfold mget
  induction l with
  | nil => rfl
  | cons p l ih =>
    by_cases h : p.1 = k
    · subst h; simp
    · rw [List.map_cons, List.find?_cons_of_neg (by simpa using h), List.find?_cons_of_neg (by simpa using h)]
      exact ih
theorem map_keys {κ β γ : Type} (f : κ → β → γ) (l : List (κ × β)) : (l.map fun p => (p.1, f p.1 p.2)).map (·.1) = l.map (·.1) := by
  rw [List.map_map]; rfl
/-- The places are sorted. -/
theorem sorted_m (S : Int → Int → Prop) (m : List (Int × List Int)) (h : DgIs S 65536 m) : permM (m.map (·.1)) (fun p => foldP (fun e s => m_similarity_diagonals_lp4 e s) (fun s => some s) p m) = some (m.map fun p => (p.1, p.2.mergeSort fun x y => decide (x ≤ y))) := by
  let F : List Int → Int → List Int → List Int := fun d k v => if k ∈ d then v.mergeSort fun x y => decide (x ≤ y) else v
  refine permM_eq (fun d s => s = m.map fun p => (p.1, F d p.1 p.2)) ?_ (fun d e s hd hI => ?_) (fun p s hp hI => ?_)
  · show m = _
    have : ∀ p ∈ m, (fun p : Int × List Int => (p.1, F [] p.1 p.2)) p = p := fun p _ => by simp [F]
    rw [List.map_congr_left this]; simp
  · obtain ⟨t, ht⟩ := hd
    have hn := (ht.nodup_iff).2 h.1
    have hek : e ∈ m.map (·.1) := ht.mem_iff.1 (by simp)
    have hed : e ∉ d := fun hm => by
      rw [List.nodup_append] at hn
      exact hn.2.2 _ hm _ (by simp) rfl
    obtain ⟨j, hj⟩ := List.getElem?_of_mem hek
    obtain ⟨v, hv1, hv2⟩ := mget_idx h.1 hj
    have hlen := (h.2.2 e).1
    rw [hv2] at hlen
    simp only [Option.getD_some] at hlen
    subst hI
    have hg : (mget (m.map fun p => (p.1, F d p.1 p.2)) e) = some v := by
      rw [mget_map, hv2]; simp [F, hed]
    refine ⟨_, ?_, rfl⟩
    simp only [m_similarity_diagonals_lp4]
    rw [hg]
    simp only [Option.getD_some]
    unfold m_sortI
    rw [if_pos (by omega)]
    simp only [Option.bind_some, Option.some.injEq, Step.next.injEq]
    unfold mset
    rw [if_pos (mhas_iff.2 (by rw [map_keys]; exact hek)), mput_at (by rw [map_keys]; exact h.1) (j := j) (by rw [map_keys]; exact hj)]
    refine List.ext_getElem? fun i => ?_
    rw [List.getElem?_set]
    have hjl := (List.getElem?_eq_some_iff.1 hv1).1
    by_cases e2 : j = i
    · subst e2
      rw [if_pos rfl, if_pos (by simpa using hjl), List.getElem?_map, hv1]
      simp [F]
    · rw [if_neg e2, List.getElem?_map, List.getElem?_map]
      cases hi : m[i]? with
      | none => rfl
      | some q =>
        have hqe : q.1 ≠ e := fun hq => by
          have h1 : (m.map (·.1))[i]? = some e := by rw [List.getElem?_map, hi]; simp [hq]
          exact e2 ((List.getElem?_inj (by have := (List.getElem?_eq_some_iff.1 hj).1; exact this) h.1).1 (hj.trans h1.symm))
        simp [F, hqe]
  · subst hI
    congr 1
    apply List.map_congr_left
    intro q hq
    have : q.1 ∈ p := hp.mem_iff.2 (List.mem_map_of_mem hq)
    simp [F, this]
theorem diagonals_m (a b : List Mark) (ha : a.length ≤ 256) (hb : b.length ≤ 256) (oa : AtOk a) (ob : AtOk b) : ∃ m, m_similarity_diagonals a b = some m ∧ DgIs (Pl a b) 65536 m ∧ ∀ d, ((mget m d).getD []).Pairwise (· ≤ ·) := by
  unfold m_similarity_diagonals
  obtain ⟨P, p1, p2⟩ := plc_m b hb
  rw [p1]
  simp only [Option.bind_some]
  obtain ⟨m, m1, m2⟩ := diag_m a b ha hb oa ob P p2
  rw [m1]
  simp only [Option.bind_some]
  rw [sorted_m _ m m2]
  have hget : ∀ d, (mget (m.map fun p => (p.1, p.2.mergeSort fun x y => decide (x ≤ y))) d).getD [] = ((mget m d).getD []).mergeSort fun x y => decide (x ≤ y) := by
    intro d
    rw [mget_map fun _ (v : List Int) => v.mergeSort fun x y : Int => decide (x ≤ y)]
    cases mget m d <;> simp
  refine ⟨_, rfl, ⟨?_, ?_, fun d => ⟨?_, fun i => ?_⟩⟩, fun d => ?_⟩
  · rw [map_keys fun _ (v : List Int) => v.mergeSort fun x y : Int => decide (x ≤ y)]; exact m2.1
  · rw [map_keys fun _ (v : List Int) => v.mergeSort fun x y : Int => decide (x ≤ y)]; exact m2.2.1
  · rw [hget, List.length_mergeSort]; exact (m2.2.2 d).1
  · rw [hget, (sortI_perm _).mem_iff]; exact (m2.2.2 d).2 i
  · rw [hget]; exact sortI_le _
/-- The overlaps of one diagonal are appended. -/
theorem grp_m {a b : List Mark} (oa : AtOk a) (ob : AtOk b) (k d : Int) (hk : 1 ≤ k ∧ k ≤ 64) (m : List (Int × List Int)) (hm : DgIs (Pl a b) 65536 m) (hs : ((mget m d).getD []).Pairwise (· ≤ ·)) (out0 : List Overlap) (hn0 : out0.Nodup) (hm0 : ∀ o ∈ out0, OvMem a b k o ∧ o.b - o.a ≠ d) :
    ∃ out, loopM (fun s : Int × Int × List Overlap => m_similarity_Overlaps_lp2 k m d s.1 s.2.1 s.2.2) (0, 0, out0) = some out ∧ out.Nodup ∧ ∀ o, o ∈ out ↔ o ∈ out0 ∨ OvD a b k d o := by
  have hmem := (hm.2.2 d).2
  have hlen := (hm.2.2 d).1
  generalize hT : (mget m d).getD [] = L at hs hmem hlen
  have mono : ∀ (p q : Nat) (x y : Int), p ≤ q → L[p]? = some x → L[q]? = some y → x ≤ y := by
    intro p q x y hpq hx hy
    by_cases e : p = q
    · subst e; rw [hx] at hy; obtain rfl := Option.some.inj hy; exact Int.le_refl _
    · obtain ⟨h1, e1⟩ := List.getElem?_eq_some_iff.1 hx
      obtain ⟨h2, e2⟩ := List.getElem?_eq_some_iff.1 hy
      have := List.pairwise_iff_getElem.1 hs p q h1 h2 (by omega)
      rw [e1, e2] at this
      exact this
  have hrange : ∀ (j : Nat) (x : Int), L[j]? = some x → 0 ≤ x ∧ x ≤ 2048 ∧ 0 ≤ x + d ∧ x + d ≤ 2048 := fun j x hx => ((hmem x).1 (List.mem_of_getElem? hx)).range oa ob
  obtain ⟨out, h1, h2, h3⟩ := loopM_inv (body := fun s : Int × Int × List Overlap => m_similarity_Overlaps_lp2 k m d s.1 s.2.1 s.2.2)
    (fun s => ∃ fi i : Nat, s.1 = fi ∧ s.2.1 = i ∧ fi ≤ i ∧ i ≤ L.length ∧ (i < L.length ∨ fi = i) ∧ s.2.2.Nodup ∧ (∀ o, o ∈ s.2.2 ↔ o ∈ out0 ∨ OvD a b k d o ∧ ∃ j, j < fi ∧ L[j]? = some o.a) ∧ (∀ x f, 0 < fi → L[fi - 1]? = some x → L[fi]? = some f → x + k < f) ∧ ∀ j x y, fi ≤ j → j < i → L[j]? = some x → L[j + 1]? = some y → y ≤ x + k)
    (fun s => L.length - s.2.1.toNat) (fun out => out.Nodup ∧ ∀ o, o ∈ out ↔ o ∈ out0 ∨ OvD a b k d o) (by
    rintro ⟨fi', i', s⟩ ⟨fi, i, rfl, rfl, hfi, hi, hor, hn, hI, hbef, hch⟩
    simp only at hn hI
    by_cases hil : i < L.length
    · obtain ⟨at_, hat⟩ := get_of_lt hil
      obtain ⟨f, hf⟩ := get_of_lt (l := L) (k := fi) (by omega)
      have r1 := hrange _ _ hat
      have r2 := hrange _ _ hf
      have hfa := mono _ _ _ _ hfi hf hat
      have hcond : ((if (decide (((i + 1 : Nat) : Int) < (L.length : Int))) = true then (idx L ((i + 1 : Nat) : Int)).bind fun x7 => (inK .i64 (at_ + k)).bind fun x8 => some (decide (x7 ≤ x8)) else some false) : Option Bool) = some (decide (∃ y, L[i + 1]? = some y ∧ y ≤ at_ + k)) := by
        by_cases h : i + 1 < L.length
        · obtain ⟨y, hy⟩ := get_of_lt h
          rw [if_pos (by simp; omega), idx_nat hy]
          simp only [Option.bind_some]
          rw [inK_eq (by omega)]
          simp only [Option.bind_some, hy, Option.some.injEq, exists_eq_left']
        · rw [if_neg (by simp; omega)]
          have : L[i + 1]? = none := List.getElem?_eq_none (by omega)
          simp [this]
      by_cases hc : ∃ y, L[i + 1]? = some y ∧ y ≤ at_ + k
      · obtain ⟨y, hy, hyk⟩ := hc
        have hl1 := (List.getElem?_eq_some_iff.1 hy).1
        refine Or.inl ⟨((fi : Int), ((i + 1 : Nat) : Int), s), ?_, ⟨fi, i + 1, rfl, rfl, by omega, by omega, Or.inl hl1, hn, hI, hbef, fun j x z h1 h2 h3 h4 => ?_⟩, by simp; omega⟩
        · simp only [m_similarity_Overlaps_lp2]
          rw [hT, if_pos (by simpa using hil), idx_nat hat]
          simp only [Option.bind_some]
          rw [inK_succ (by omega)]
          simp only [Option.bind_some]
          rw [hcond, decide_eq_true ⟨y, hy, hyk⟩]
          rfl
        · by_cases e : j = i
          · subst e
            rw [hat] at h3
            rw [hy] at h4
            obtain rfl := Option.some.inj h3
            obtain rfl := Option.some.inj h4
            exact hyk
          · exact hch j x z h1 (by omega) h3 h4
      · have hrun : Run (Pl a b d) k f at_ := run_at (by omega) hs hmem hf hat hfi (fun x h0 hx => hbef x f h0 hx hf) hch (fun y hy => Classical.byContradiction fun hc2 => hc ⟨y, hy, by omega⟩)
        have hov : OvD a b k d ⟨f, f + d, at_ - f + k⟩ := ⟨f, at_, hrun, rfl⟩
        have hmemS : ∀ o ∈ s, OvMem a b k o := fun o ho => by
          rcases (hI o).1 ho with h | h
          · exact (hm0 o h).1
          · exact h.1.mem
        have hfew := ov_few oa ob hn hmemS
        refine Or.inl ⟨(((i + 1 : Nat) : Int), ((i + 1 : Nat) : Int), s ++ [⟨f, f + d, at_ - f + k⟩]), ?_, ⟨i + 1, i + 1, rfl, rfl, Nat.le_refl _, by omega, Or.inr rfl, ?_, fun o => ?_, fun x f' h0 h1 h2 => ?_, fun j x y h1 h2 => by omega⟩, by simp; omega⟩
        · simp only [m_similarity_Overlaps_lp2]
          rw [hT, if_pos (by simpa using hil), idx_nat hat]
          simp only [Option.bind_some]
          rw [inK_succ (by omega)]
          simp only [Option.bind_some]
          rw [hcond, decide_eq_false hc]
          simp only [Option.bind_some, Bool.false_eq_true, if_false]
          rw [idx_nat hf]
          simp only [Option.bind_some]
          rw [inK_eq (n := f + d) (by omega)]
          simp only [Option.bind_some]
          rw [inK_eq (n := at_ - f) (by omega)]
          simp only [Option.bind_some]
          rw [inK_eq (n := at_ - f + k) (by omega)]
          simp only [Option.bind_some]
          rw [app_ok (by simp only [List.length_singleton]; omega)]
          rfl
        · simp only
          rw [List.nodup_append]
          refine ⟨hn, by simp, fun u hu v hv e => ?_⟩
          rw [List.mem_singleton] at hv
          subst e hv
          rcases (hI _).1 hu with h | ⟨_, j, h1, h2⟩
          · exact (hm0 _ h).2 (by simp only; omega)
          · simp only at h2
            obtain ⟨x, hx⟩ := get_of_lt (l := L) (k := fi - 1) (by omega)
            have h3 := hbef x f (by omega) hx hf
            have h4 := mono j (fi - 1) f x (by omega) h2 hx
            omega
        · simp only
          rw [List.mem_append, hI, List.mem_singleton]
          constructor
          · rintro ((h | ⟨h, j, h1, h2⟩) | rfl)
            · exact Or.inl h
            · exact Or.inr ⟨h, j, by omega, h2⟩
            · exact Or.inr ⟨hov, fi, by omega, hf⟩
          · rintro (h | ⟨h, j, h1, h2⟩)
            · exact Or.inl (Or.inl h)
            · by_cases hjf : j < fi
              · exact Or.inl (Or.inr ⟨h, j, hjf, h2⟩)
              · refine Or.inr ?_
                have h3 := mono fi j f o.a (by omega) hf h2
                have h4 := mono j i o.a at_ (by omega) h2 hat
                by_cases e : o.a = f
                · exact OvD.one h hov e
                · exfalso
                  obtain ⟨f', l', r', rfl⟩ := h
                  simp only at h3 h4 e
                  have := hrun.apart r' (by omega)
                  omega
        · simp only [Nat.add_sub_cancel] at h1
          rw [hat] at h1
          obtain rfl := Option.some.inj h1
          exact Classical.byContradiction fun hc2 => hc ⟨f', h2, by omega⟩
    · have hiL : i = L.length := by omega
      have hfL : fi = L.length := by omega
      subst hiL
      refine Or.inr ⟨s, ?_, hn, fun o => ?_⟩
      · simp only [m_similarity_Overlaps_lp2]
        rw [hT, if_neg (by simp)]
      · rw [hI]
        constructor
        · rintro (h | h)
          · exact Or.inl h
          · exact Or.inr h.1
        · rintro (h | h)
          · exact Or.inl h
          · refine Or.inr ⟨h, ?_⟩
            obtain ⟨f, l, r, rfl⟩ := h
            obtain ⟨j, hj⟩ := List.getElem?_of_mem ((hmem f).2 r.first)
            exact ⟨j, by have := (List.getElem?_eq_some_iff.1 hj).1; omega, hj⟩) (0, 0, out0) ⟨0, 0, rfl, rfl, by omega, by omega, by omega, hn0, fun o => by simp, fun x f h => by omega, fun j x y h1 h2 => by omega⟩
  exact ⟨out, h1, h2, h3⟩
theorem Overlaps_m (a b : List Mark) (k : Int) (ha : a.length ≤ 256) (hb : b.length ≤ 256) (oa : AtOk a) (ob : AtOk b) (hk : 1 ≤ k ∧ k ≤ 64) : ∃ r, m_similarity_Overlaps a b k = some (r, 0) ∧ OvsIs a b k r := by
  unfold m_similarity_Overlaps
  rw [if_neg (by simp; omega), out_m a (by omega), AtOk_iff.1 oa]
  simp only [Option.bind_some, Bool.false_eq_true, if_false]
  rw [out_m b (by omega), AtOk_iff.1 ob]
  simp only [Option.bind_some, Bool.false_eq_true, if_false]
  rw [if_neg (by simp; omega)]
  obtain ⟨m, m1, m2, m3⟩ := diagonals_m a b ha hb oa ob
  rw [m1]
  simp only [Option.bind_some]
  let V : List Int → List Overlap → Prop := fun d s => s.Nodup ∧ ∀ o, o ∈ s ↔ OvMem a b k o ∧ o.b - o.a ∈ d
  have step : ∀ (d : List Int) (e : Int) (s : List Overlap), e ∉ d → V d s → ∃ s', m_similarity_Overlaps_lp1 k m e s = some (.next s') ∧ V (d ++ [e]) s' := by
    intro d e s he ⟨h1, h2⟩
    obtain ⟨out, o1, o2, o3⟩ := grp_m oa ob k e hk m m2 (m3 e) s h1 fun o ho => ⟨((h2 o).1 ho).1, fun h => he (by rw [← h]; exact ((h2 o).1 ho).2)⟩
    refine ⟨out, ?_, o2, fun o => ?_⟩
    · simp only [m_similarity_Overlaps_lp1]
      rw [o1]
      rfl
    · rw [o3, h2, List.mem_append, List.mem_singleton]
      constructor
      · rintro (h | h)
        · exact ⟨h.1, Or.inl h.2⟩
        · exact ⟨h.mem, Or.inr h.diag⟩
      · rintro ⟨h, h' | h'⟩
        · exact Or.inl ⟨h, h'⟩
        · exact Or.inr (by rw [← h']; exact h)
  have fin : ∀ (p : List Int) s, p.Perm (m.map (·.1)) → V p s → ∃ r, m_similarity_Overlaps_lp1t s = some (r, 0) ∧ OvsIs a b k r := by
    intro p s hp ⟨h1, h2⟩
    have hmem : ∀ o, o ∈ s ↔ OvMem a b k o := fun o => by
      rw [h2]
      refine ⟨fun h => h.1, fun h => ⟨h, ?_⟩⟩
      rw [hp.mem_iff, m2.2.1]
      obtain ⟨f, l, r, e⟩ := h
      exact ⟨f, r.first⟩
    have hfew := ov_few oa ob h1 fun o ho => (hmem o).1 ho
    unfold m_similarity_Overlaps_lp1t m_sortO
    rw [if_pos (by omega)]
    refine ⟨_, rfl, List.pairwise_mergeSort ovLe_trans ovLe_total s, ((List.mergeSort_perm s fun x y => !ovLt y x).nodup_iff).2 h1, fun o => ?_⟩
    rw [(List.mergeSort_perm s fun x y => !ovLt y x).mem_iff]
    exact hmem o
  have h0 : V [] [] := ⟨by simp, by simp⟩
  obtain ⟨s0, hs0, _⟩ := foldP_inv (fin := fun s : List Overlap => m_similarity_Overlaps_lp1t s) V (m.map (·.1)) [] [] h0 (fun d e s ⟨t, ht⟩ hI => step d e s (by
    have hn := m2.1
    simp only [List.nil_append] at ht
    rw [ht, List.nodup_append] at hn
    intro hmem
    exact hn.2.2 _ hmem _ (by simp) rfl) hI)
  obtain ⟨r0, f1, f2⟩ := fin _ s0 (by simp) hs0
  refine ⟨r0, permM_eq V h0 (fun d e s ⟨t, ht⟩ hI => step d e s (by
    have hn := (ht.nodup_iff).2 m2.1
    rw [List.nodup_append] at hn
    intro hmem
    exact hn.2.2 _ hmem _ (by simp) rfl) hI) (fun p s hp hI => ?_), f2⟩
  obtain ⟨r1, g1, g2⟩ := fin p s hp hI
  rw [g1, g2.one f2]
/-- Wrong numbers. -/
theorem Overlaps_bad (a b : List Mark) (k : Int) (hl : a.length ≤ 4294967296 ∧ b.length ≤ 4294967296) (h : (k < 1 ∨ 64 < k) ∨ ¬ AtOk a ∨ ¬ AtOk b) : m_similarity_Overlaps a b k = some ([], 2) := by
  unfold m_similarity_Overlaps
  by_cases h1 : k < 1 ∨ 64 < k
  · rw [if_pos (by simpa using h1)]
    rfl
  · rw [if_neg (by simpa using h1), out_m a hl.1]
    simp only [Option.bind_some]
    by_cases h2 : AtOk a
    · rw [AtOk_iff.1 h2]
      simp only [Bool.false_eq_true, if_false]
      rw [out_m b hl.2]
      have h3 : ¬ AtOk b := by
        rcases h with h | h | h
        · exact absurd h h1
        · exact absurd h2 h
        · exact h
      have h4 : (b.any fun m => decide (m.at_ < 0 ∨ 2048 < m.at_)) = true := by
        cases h5 : (b.any fun m => decide (m.at_ < 0 ∨ 2048 < m.at_)) with
        | true => rfl
        | false => exact absurd (AtOk_iff.2 h5) h3
      rw [h4]
      rfl
    · have h4 : (a.any fun m => decide (m.at_ < 0 ∨ 2048 < m.at_)) = true := by
        cases h5 : (a.any fun m => decide (m.at_ < 0 ∨ 2048 < m.at_)) with
        | true => rfl
        | false => exact absurd (AtOk_iff.2 h5) h2
      rw [h4]
      rfl
theorem Overlaps_large (a b : List Mark) (k : Int) (hl : a.length ≤ 4294967296 ∧ b.length ≤ 4294967296) (oa : AtOk a) (ob : AtOk b) (hk : 1 ≤ k ∧ k ≤ 64) (h : 256 < a.length ∨ 256 < b.length) : m_similarity_Overlaps a b k = some ([], 8) := by
  unfold m_similarity_Overlaps
  rw [if_neg (by simp; omega), out_m a (by omega), AtOk_iff.1 oa]
  simp only [Option.bind_some, Bool.false_eq_true, if_false]
  rw [out_m b (by omega), AtOk_iff.1 ob]
  simp only [Option.bind_some, Bool.false_eq_true, if_false]
  rw [if_pos (by simp; omega)]
end Go.Proofs.Ytmfepkadggigpaa
