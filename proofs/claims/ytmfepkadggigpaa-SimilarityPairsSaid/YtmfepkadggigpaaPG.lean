/-
  Runs of places: what overlaps are, in plain terms. No program is named.
-/
import Derived.Test.YtmfepkadggigpaaPF
set_option linter.unusedVariables false
set_option linter.unusedSimpArgs false
namespace Go.Proofs.Ytmfepkadggigpaa
open Go.RowKit
/-- A run of places: from f to l, each not more than k behind the one before, and none near it outside. -/
structure Run (P : Int → Prop) (k f l : Int) : Prop where
  first : P f
  last : P l
  le : f ≤ l
  before : ∀ x, P x → x < f → x + k < f
  behind : ∀ x, P x → l < x → l + k < x
  chain : ∀ x, P x → f ≤ x → x < l → ∃ y, P y ∧ x < y ∧ y ≤ x + k
theorem Run.one {P : Int → Prop} {k f l l' : Int} (h : Run P k f l) (h' : Run P k f l') : l = l' := by
  rcases Int.lt_trichotomy l l' with hlt | e | hlt
  · obtain ⟨y, h1, h2, h3⟩ := h'.chain l h.last h.le hlt
    have := h.behind y h1 h2
    omega
  · exact e
  · obtain ⟨y, h1, h2, h3⟩ := h.chain l' h'.last h'.le hlt
    have := h'.behind y h1 h2
    omega
theorem Run.apart {P : Int → Prop} {k f l f' l' : Int} (h : Run P k f l) (h' : Run P k f' l') (hf : f < f') : l + k < f' := by
  by_cases hl : l < f'
  · exact h.behind f' h'.first hl
  · exfalso
    have key : ∀ (n : Nat) (x : Int), (f' - x).toNat = n → P x → f ≤ x → x < f' → False := by
      intro n
      induction n using Nat.strongRecOn with
      | _ n ih =>
        intro x hn hx hfx hxf
        have h1 := h'.before x hx hxf
        obtain ⟨y, h2, h3, h4⟩ := h.chain x hx hfx (by omega)
        exact ih (f' - y).toNat (by omega) y rfl h2 (by omega) (by omega)
    exact key _ f rfl h.first (Int.le_refl _) hf
/-- Each place is in a run. -/
theorem Run.up {P : Int → Prop} {k M : Int} (hk : 0 ≤ k) (hM : ∀ x, P x → x ≤ M) : ∀ (n : Nat) (x : Int), (M - x).toNat = n → P x → ∃ l, P l ∧ x ≤ l ∧ (∀ y, P y → l < y → l + k < y) ∧ ∀ z, P z → x ≤ z → z < l → ∃ y, P y ∧ z < y ∧ y ≤ z + k := by
  intro n
  induction n using Nat.strongRecOn with
  | _ n ih =>
    intro x hn hx
    by_cases h : ∃ y, P y ∧ x < y ∧ y ≤ x + k
    · obtain ⟨y, h1, h2, h3⟩ := h
      have := hM y h1
      obtain ⟨l, l1, l2, l3, l4⟩ := ih (M - y).toNat (by omega) y rfl h1
      refine ⟨l, l1, by omega, l3, fun z hz hxz hzl => ?_⟩
      by_cases hzy : z < y
      · exact ⟨y, h1, hzy, by omega⟩
      · exact l4 z hz (by omega) hzl
    · refine ⟨x, hx, Int.le_refl _, fun y hy hxy => ?_, fun z hz h1 h2 => by omega⟩
      exact Classical.byContradiction fun hc => h ⟨y, hy, hxy, by omega⟩
theorem Run.ex {P : Int → Prop} {k M : Int} (hk : 0 ≤ k) (hM : ∀ x, P x → 0 ≤ x ∧ x ≤ M) : ∀ (n : Nat) (x : Int), x.toNat = n → P x → ∃ f l, Run P k f l ∧ f ≤ x ∧ x ≤ l := by
  intro n
  induction n using Nat.strongRecOn with
  | _ n ih =>
    intro x hn hx
    have hx0 := hM x hx
    by_cases h : ∃ y, P y ∧ y < x ∧ x ≤ y + k
    · obtain ⟨y, h1, h2, h3⟩ := h
      have := hM y h1
      obtain ⟨f, l, r, r1, r2⟩ := ih y.toNat (by omega) y rfl h1
      refine ⟨f, l, r, by omega, ?_⟩
      exact Classical.byContradiction fun hc => by
        have := r.behind x hx (by omega)
        omega
    · obtain ⟨l, l1, l2, l3, l4⟩ := Run.up hk (fun x hx => (hM x hx).2) _ x rfl hx
      refine ⟨x, l, ⟨hx, l1, l2, fun y hy hyx => ?_, l3, l4⟩, Int.le_refl _, l2⟩
      exact Classical.byContradiction fun hc => h ⟨y, hy, hyx, by omega⟩
/-- The places of a diagonal. -/
def Pl (a b : List Mark) (d i : Int) : Prop := ∃ x ∈ a, ∃ y ∈ b, x.hash = y.hash ∧ x.at_ = i ∧ y.at_ - x.at_ = d
/-- The overlaps of a diagonal. -/
def OvD (a b : List Mark) (k d : Int) (o : Overlap) : Prop := ∃ f l, Run (Pl a b d) k f l ∧ o = ⟨f, f + d, l - f + k⟩
def OvMem (a b : List Mark) (k : Int) (o : Overlap) : Prop := OvD a b k (o.b - o.a) o
theorem OvD.diag {a b : List Mark} {k d : Int} {o : Overlap} (h : OvD a b k d o) : o.b - o.a = d := by
  obtain ⟨f, l, _, rfl⟩ := h
  simp only
  omega
theorem OvD.mem {a b : List Mark} {k d : Int} {o : Overlap} (h : OvD a b k d o) : OvMem a b k o := by
  unfold OvMem; rw [h.diag]; exact h
theorem OvD.one {a b : List Mark} {k d : Int} {o p : Overlap} (h : OvD a b k d o) (h' : OvD a b k d p) (e : o.a = p.a) : o = p := by
  obtain ⟨f, l, r, rfl⟩ := h
  obtain ⟨f', l', r', rfl⟩ := h'
  simp only at e
  subst e
  rw [r.one r']
theorem OvMem.one {a b : List Mark} {k : Int} {o p : Overlap} (h : OvMem a b k o) (h' : OvMem a b k p) (e : o.a = p.a) (e' : o.b = p.b) : o = p := by
  unfold OvMem at h h'
  rw [← e, ← e'] at h'
  exact OvD.one h h' e
/-- Marks whose places are in range. -/
def AtOk (l : List Mark) : Prop := ∀ x ∈ l, 0 ≤ x.at_ ∧ x.at_ ≤ 2048
theorem Pl.range {a b : List Mark} (ha : AtOk a) (hb : AtOk b) {d i : Int} (h : Pl a b d i) : 0 ≤ i ∧ i ≤ 2048 ∧ 0 ≤ i + d ∧ i + d ≤ 2048 := by
  obtain ⟨x, hx, y, hy, _, h1, h2⟩ := h
  have := ha x hx
  have := hb y hy
  omega
theorem OvD.range {a b : List Mark} (ha : AtOk a) (hb : AtOk b) {k d : Int} {o : Overlap} (h : OvD a b k d o) : 0 ≤ o.a ∧ o.a ≤ 2048 ∧ 0 ≤ o.b ∧ o.b ≤ 2048 ∧ k ≤ o.len ∧ o.len ≤ 2048 + k ∧ -2048 ≤ d ∧ d ≤ 2048 := by
  obtain ⟨f, l, r, rfl⟩ := h
  have h1 := r.first.range ha hb
  have h2 := r.last.range ha hb
  have := r.le
  simp only
  omega
/-- Lists that are sorted. -/
def ovLe (x y : Overlap) : Bool := !ovLt y x
theorem ovLe_iff {x y : Overlap} : ovLe x y = true ↔ (y.len < x.len ∨ y.len = x.len ∧ (x.a < y.a ∨ x.a = y.a ∧ x.b ≤ y.b)) := by
  unfold ovLe ovLt
  simp only [Bool.not_eq_true', decide_eq_false_iff_not]
  omega
theorem ovLe_trans (x y z : Overlap) (h1 : ovLe x y = true) (h2 : ovLe y z = true) : ovLe x z = true := by rw [ovLe_iff] at *; omega
theorem ovLe_total (x y : Overlap) : (ovLe x y || ovLe y x) = true := by rw [Bool.or_eq_true, ovLe_iff, ovLe_iff]; omega
theorem ovLe_anti {x y : Overlap} (h1 : ovLe x y = true) (h2 : ovLe y x = true) : x = y := by
  rw [ovLe_iff] at *
  obtain ⟨a, b, c⟩ := x
  obtain ⟨a', b', c'⟩ := y
  simp only at *
  rw [Overlap.mk.injEq]
  omega
theorem ovLt_le {x y : Overlap} (h : ovLt x y = true) : ovLe x y = true := by
  rw [ovLe_iff]; unfold ovLt at h; rw [decide_eq_true_eq] at h; omega
/-- The overlaps of two lists of marks, in their order. -/
def OvsIs (a b : List Mark) (k : Int) (r : List Overlap) : Prop := r.Pairwise (fun x y => ovLe x y = true) ∧ r.Nodup ∧ ∀ o, o ∈ r ↔ OvMem a b k o
theorem OvsIs.one {a b : List Mark} {k : Int} {r s : List Overlap} (hr : OvsIs a b k r) (hs : OvsIs a b k s) : r = s :=
  List.Perm.eq_of_pairwise (le := fun x y => ovLe x y = true) (fun x y _ _ h3 h4 => ovLe_anti h3 h4) hr.1 hs.1 ((List.perm_ext_iff_of_nodup hr.2.1 hs.2.1).2 fun o => (hr.2.2 o).trans (hs.2.2 o).symm)
theorem nodup_sub {α : Type} [DecidableEq α] {l m : List α} (h : l.Nodup) (hs : ∀ x ∈ l, x ∈ m) : l.length ≤ m.length := by
  induction l generalizing m with
  | nil => simp
  | cons a l ih =>
    obtain ⟨h1, h2⟩ := List.nodup_cons.1 h
    have ha := hs a (by simp)
    have := ih (m := m.erase a) h2 fun x hx => (List.mem_erase_of_ne (fun e => h1 (by rw [← e]; exact hx))).2 (hs x (by simp [hx]))
    rw [List.length_erase_of_mem ha] at this
    have := List.length_pos_of_mem ha
    simp only [List.length_cons]
    omega
/-- There are not too many. -/
theorem ov_few {a b : List Mark} (ha : AtOk a) (hb : AtOk b) {k : Int} {s : List Overlap} (hn : s.Nodup) (hm : ∀ o ∈ s, OvMem a b k o) : s.length ≤ 4198401 := by
  have h1 : (s.map fun o => (o.a.toNat, o.b.toNat)).Nodup := by
    rw [List.nodup_iff_pairwise_ne, List.pairwise_map]
    rw [List.nodup_iff_pairwise_ne] at hn
    refine hn.imp_of_mem fun {x y} hx hy hxy e => hxy ?_
    have r1 := OvD.range ha hb (hm x hx)
    have r2 := OvD.range ha hb (hm y hy)
    simp only [Prod.mk.injEq] at e
    exact OvMem.one (hm x hx) (hm y hy) (by omega) (by omega)
  have h2 := nodup_sub h1 (m := (List.range 2049).flatMap fun i => (List.range 2049).map fun j => (i, j)) fun p hp => by
    obtain ⟨o, ho, rfl⟩ := List.mem_map.1 hp
    have r1 := OvD.range ha hb (hm o ho)
    rw [List.mem_flatMap]
    exact ⟨o.a.toNat, List.mem_range.2 (by omega), List.mem_map.2 ⟨o.b.toNat, List.mem_range.2 (by omega), rfl⟩⟩
  rw [List.length_map] at h2
  refine Nat.le_trans h2 ?_
  have h3 : ∀ n : Nat, ((List.range n).map fun _ => 2049).sum = n * 2049 := by
    intro n
    induction n with
    | zero => rfl
    | succ n ih => rw [List.range_succ, List.map_append, List.sum_append, ih]; simp; omega
  rw [List.length_flatMap]
  simp only [List.length_map, List.length_range, h3]
  omega
/-- A sorted list of places, read from left to right: the runs whose first place stands before the fi-th. -/
theorem run_at {P : Int → Prop} {k : Int} (hk : 0 ≤ k) {L : List Int} (hL : L.Pairwise (· ≤ ·)) (hP : ∀ x, x ∈ L ↔ P x) {fi i : Nat} {f l : Int} (hfi : L[fi]? = some f) (hi : L[i]? = some l) (hle : fi ≤ i)
    (hbef : ∀ x, 0 < fi → L[fi - 1]? = some x → x + k < f) (hch : ∀ j x y, fi ≤ j → j < i → L[j]? = some x → L[j + 1]? = some y → y ≤ x + k) (hbeh : ∀ y, L[i + 1]? = some y → l + k < y) : Run P k f l := by
  have mono : ∀ (p q : Nat) (x y : Int), p ≤ q → L[p]? = some x → L[q]? = some y → x ≤ y := by
    intro p q x y hpq hx hy
    by_cases e : p = q
    · subst e; rw [hx] at hy; obtain rfl := Option.some.inj hy; exact Int.le_refl _
    · obtain ⟨h1, e1⟩ := List.getElem?_eq_some_iff.1 hx
      obtain ⟨h2, e2⟩ := List.getElem?_eq_some_iff.1 hy
      have := List.pairwise_iff_getElem.1 hL p q h1 h2 (by omega)
      rw [e1, e2] at this
      exact this
  refine ⟨(hP f).1 (List.mem_of_getElem? hfi), (hP l).1 (List.mem_of_getElem? hi), mono _ _ _ _ hle hfi hi, fun x hx hxf => ?_, fun x hx hxl => ?_, fun x hx hfx hxl => ?_⟩
  · obtain ⟨j, hj⟩ := List.getElem?_of_mem ((hP x).2 hx)
    have hjf : j < fi := Classical.byContradiction fun hc => by have := mono fi j f x (by omega) hfi hj; omega
    obtain ⟨y, hy⟩ := get_of_lt (l := L) (k := fi - 1) (by have := (List.getElem?_eq_some_iff.1 hfi).1; omega)
    have h1 := hbef y (by omega) hy
    have h2 := mono j (fi - 1) x y (by omega) hj hy
    omega
  · obtain ⟨j, hj⟩ := List.getElem?_of_mem ((hP x).2 hx)
    have hjl : i < j := Classical.byContradiction fun hc => by have := mono j i x l (by omega) hj hi; omega
    obtain ⟨y, hy⟩ := get_of_lt (l := L) (k := i + 1) (by have := (List.getElem?_eq_some_iff.1 hj).1; omega)
    have h1 := hbeh y hy
    have h2 := mono (i + 1) j y x (by omega) hy hj
    omega
  · -- the last place of this value
    have key : ∀ (n j : Nat), i - j = n → fi ≤ j → j ≤ i → L[j]? = some x → ∃ y, P y ∧ x < y ∧ y ≤ x + k := by
      intro n
      induction n with
      | zero =>
        intro j h1 h2 h3 h4
        have : j = i := by omega
        subst this
        rw [hi] at h4
        obtain rfl := Option.some.inj h4
        omega
      | succ n ih =>
        intro j h1 h2 h3 h4
        obtain ⟨y, hy⟩ := get_of_lt (l := L) (k := j + 1) (by have := (List.getElem?_eq_some_iff.1 hi).1; omega)
        have h5 := hch j x y h2 (by omega) h4 hy
        have h6 := mono j (j + 1) x y (by omega) h4 hy
        by_cases e : y = x
        · subst e; exact ih (j + 1) (by omega) (by omega) (by omega) hy
        · exact ⟨y, (hP y).1 (List.mem_of_getElem? hy), by omega, h5⟩
    obtain ⟨j, hj⟩ := List.getElem?_of_mem ((hP x).2 hx)
    by_cases hjf : fi ≤ j
    · have hji : j ≤ i := Classical.byContradiction fun hc => by have := mono i j l x (by omega) hi hj; omega
      exact key _ j rfl hjf hji hj
    · have h7 := mono j fi x f (by omega) hj hfi
      have : x = f := by omega
      subst this
      exact key _ fi rfl (Nat.le_refl _) hle hfi
end Go.Proofs.Ytmfepkadggigpaa
