/-
  Hashes of documents, and what two of them share; both models compute it. No program is named.
-/
import Derived.Test.YtmfepkadggigpaaWM
import Derived.Test.YtmfepkadggigpaaPur4
set_option linter.unusedVariables false
set_option linter.unusedSimpArgs false
namespace Go.Proofs.Ytmfepkadggigpaa
open Go.RowKit
/-- A number goes into a list that rises. -/
theorem Add_m (l : List Int) (x : Int) (hl : l.length ≤ 4000000) (hr : l.Pairwise (· < ·)) : ∃ r, m_assessorref43_Add l x = some r ∧ r.Pairwise (· < ·) ∧ (∀ y, y ∈ r ↔ y = x ∨ y ∈ l) ∧ r.length ≤ l.length + 1 := by
  unfold m_assessorref43_Add
  have hbody : ∀ (k : Nat) a, l[k]? = some a → m_assessorref43_Add_lp1 l x k = some (if decide (x ≤ a) = true then .done (k : Int) else .next ((k + 1 : Nat) : Int)) := by
    intro k a ha
    have hk := (List.getElem?_eq_some_iff.1 ha).1
    simp only [m_assessorref43_Add_lp1]
    rw [if_pos (by simpa using hk), idx_nat ha]
    simp only [Option.bind_some]
    rw [inK_succ (by omega)]
    by_cases h : a < x
    · have h2 : ¬ x ≤ a := by omega
      simp [h, h2]
    · have h2 : x ≤ a := by omega
      simp [h, h2]
  have hend : m_assessorref43_Add_lp1 l x (l.length : Int) = some (.done (l.length : Int)) := by
    simp only [m_assessorref43_Add_lp1]
    rw [if_neg (by simp)]; rfl
  -- the place
  have hplace : ∃ k : Nat, k ≤ l.length ∧ loopM (fun s => m_assessorref43_Add_lp1 l x s) 0 = some (k : Int) ∧ (∀ j b, j < k → l[j]? = some b → b < x) ∧ (∀ b, l[k]? = some b → x ≤ b) := by
    rcases scan_loop (body := fun s => m_assessorref43_Add_lp1 l x s) l (fun a => decide (x ≤ a)) (fun k _ => (k : Int)) (l.length : Int) hbody hend with ⟨k, a, h1, h2, h3, _, _, h4⟩ | ⟨h1, _, _, h4⟩
    · exact ⟨k, Nat.le_of_lt (List.getElem?_eq_some_iff.1 h1).1, h4, fun j b hj hb => by have := h3 j b hj hb; simp at this; omega, fun b hb => by rw [h1] at hb; obtain rfl := Option.some.inj hb; simpa using h2⟩
    · exact ⟨l.length, Nat.le_refl _, h4, fun j b hj hb => by have := h1 b (List.mem_of_getElem? hb); simp at this; omega, fun b hb => by rw [List.getElem?_eq_none (Nat.le_refl _)] at hb; cases hb⟩
  obtain ⟨k, hk, hloop, hlo, hhi⟩ := hplace
  rw [hloop]
  simp only [Option.bind_some]
  have hsplit : l = l.take k ++ l.drop k := (List.take_append_drop k l).symm
  have htake : ∀ y ∈ l.take k, y < x := by
    intro y hy
    obtain ⟨j, hj⟩ := List.getElem?_of_mem hy
    rw [List.getElem?_take] at hj
    split at hj
    · exact hlo j y (by assumption) hj
    · cases hj
  by_cases hh : ∃ b, l[k]? = some b ∧ b = x
  · obtain ⟨b, hb, rfl⟩ := hh
    have hkl := (List.getElem?_eq_some_iff.1 hb).1
    rw [if_pos (by simpa using hkl), idx_nat hb]
    simp only [Option.bind_some, decide_true, if_true]
    exact ⟨l, rfl, hr, fun y => ⟨Or.inr, fun h => h.elim (fun e => e ▸ List.mem_of_getElem? hb) id⟩, by omega⟩
  · have hcond : ((if (decide ((k : Int) < (l.length : Int))) = true then (idx l (k : Int)).bind fun x3 => some (decide (x3 = x)) else some false) : Option Bool) = some false := by
      by_cases hkl : k < l.length
      · obtain ⟨b, hb⟩ := get_of_lt hkl
        rw [if_pos (by simpa using hkl), idx_nat hb]
        have : b ≠ x := fun e => hh ⟨b, hb, e⟩
        simp [this]
      · rw [if_neg (by simpa using hkl)]
    rw [hcond]
    simp only [Option.bind_some, Bool.false_eq_true, if_false]
    have hgt : ∀ y ∈ l.drop k, x < y := by
      intro y hy
      cases hd : l[k]? with
      | none => rw [List.drop_eq_nil_of_le (List.getElem?_eq_none_iff.1 hd)] at hy; simp at hy
      | some b =>
        have hxb : x < b := by
          have h1 := hhi b hd
          have h2 : b ≠ x := fun e => hh ⟨b, hd, e⟩
          omega
        rw [drop_cons_of hd] at hy
        rcases List.mem_cons.1 hy with rfl | hy
        · exact hxb
        · have hr2 := hr
          rw [hsplit, drop_cons_of hd] at hr2
          have := (List.pairwise_cons.1 (List.pairwise_append.1 hr2).2.1).1 y hy
          omega
    rw [sub_ok (by omega) (by omega) (by omega)]
    simp only [Option.bind_some, Int.toNat_natCast, Int.toNat_zero, List.drop_zero]
    rw [app_ok (by simp <;> omega)]
    simp only [Option.bind_some, List.nil_append]
    rw [app_ok (by simp <;> omega)]
    simp only [Option.bind_some]
    rw [sub_ok (by omega) (by omega) (by omega)]
    simp only [Option.bind_some, Int.toNat_natCast, List.take_length]
    rw [app_ok (by simp <;> omega)]
    refine ⟨_, rfl, ?_, fun y => ?_, by simp <;> omega⟩
    · have h1 := hr
      rw [hsplit, List.pairwise_append] at h1
      simp only [List.append_assoc, List.pairwise_append, List.singleton_append, List.pairwise_cons, List.mem_cons]
      refine ⟨h1.1, ⟨hgt, h1.2.1⟩, fun a ha b hb => ?_⟩
      rcases hb with rfl | hb
      · exact htake a ha
      · exact h1.2.2 a ha b hb
    · simp only [List.append_assoc, List.mem_append, List.singleton_append, List.mem_cons]
      have : y ∈ l ↔ y ∈ l.take k ∨ y ∈ l.drop k := by rw [← List.mem_append, List.take_append_drop]
      rw [this]
      constructor
      · rintro (h | h | h)
        · exact Or.inr (Or.inl h)
        · exact Or.inl h
        · exact Or.inr (Or.inr h)
      · rintro (h | h | h)
        · exact Or.inr (Or.inl h)
        · exact Or.inl h
        · exact Or.inr (Or.inr h)
theorem SameI_m (a b : List Int) (ha : a.length ≤ 4611686018427387904) : m_assessorref35_Same a b = some (decide (a = b)) := by
  unfold m_assessorref35_Same
  by_cases hl : a.length = b.length
  · rw [if_neg (by simp <;> omega)]
    refine bind_same (a := a) (b := b) hl (.ret false) (.brk ()) (fun k x y hx hy => ?_) ?_ (by by_cases h : a = b <;> simp [h])
    · have hk := (List.getElem?_eq_some_iff.1 hx).1
      simp only [m_assessorref35_Same_lp1]
      rw [if_pos (by simpa using hk), idx_nat hx, idx_nat hy]
      simp only [Option.bind_some]
      rw [inK_succ (by omega)]
      by_cases h : x = y <;> simp [h]
    · simp only [m_assessorref35_Same_lp1]
      rw [if_neg (by simp)]
  · rw [if_pos (by simp <;> omega)]
    have : a ≠ b := fun e => hl (by rw [e])
    simp [this]
theorem SameM_m (a b : List Mark) (ha : a.length ≤ 4611686018427387904) : m_assessorref43_Same a b = some (decide (a = b)) := by
  unfold m_assessorref43_Same
  by_cases hl : a.length = b.length
  · rw [if_neg (by simp <;> omega)]
    refine bind_same (a := a) (b := b) hl (.ret false) (.brk ()) (fun k x y hx hy => ?_) ?_ (by by_cases h : a = b <;> simp [h])
    · have hk := (List.getElem?_eq_some_iff.1 hx).1
      simp only [m_assessorref43_Same_lp1]
      rw [if_pos (by simpa using hk), idx_nat hx, idx_nat hy]
      simp only [Option.bind_some]
      rw [inK_succ (by omega)]
      obtain ⟨x1, x2⟩ := x
      obtain ⟨y1, y2⟩ := y
      by_cases h : x1 = y1 <;> by_cases h2 : x2 = y2 <;> simp [h, h2]
    · simp only [m_assessorref43_Same_lp1]
      rw [if_neg (by simp)]
  · rw [if_pos (by simp <;> omega)]
    have : a ≠ b := fun e => hl (by rw [e])
    simp [this]

/-- The hashes of some marks: they rise, and are those of the marks. -/
def HsIs (l : List Mark) (r : List Int) : Prop := r.Pairwise (· < ·) ∧ ∀ x, x ∈ r ↔ x ∈ l.map Mark.hash
theorem HsIs.one {l : List Mark} {r s : List Int} (hr : HsIs l r) (hs : HsIs l s) : r = s := rising_int hr.1 hs.1 fun x => (hr.2 x).trans (hs.2 x).symm
theorem rising_nodup {l : List Int} (h : l.Pairwise (· < ·)) : l.Nodup := h.imp fun h e => by omega
theorem nodup_sub_len {l m : List Int} (h : l.Nodup) (hs : ∀ x ∈ l, x ∈ m) : l.length ≤ m.length := by
  induction l generalizing m with
  | nil => simp
  | cons a l ih =>
    obtain ⟨h1, h2⟩ := List.nodup_cons.1 h
    have ha := hs a (by simp)
    have := ih (m := m.erase a) h2 fun x hx => (List.mem_erase_of_ne (fun e => h1 (by rw [← e]; exact hx))).2 (hs x (by simp [hx]))
    rw [List.length_erase_of_mem ha] at this
    have := List.length_pos_of_mem ha
    simp only [List.length_cons]
    omega
theorem HsIs.len {l : List Mark} {r : List Int} (h : HsIs l r) : r.length ≤ l.length := by
  have := nodup_sub_len (rising_nodup h.1) (m := l.map Mark.hash) fun x hx => (h.2 x).1 hx
  simpa using this
/-- The set of a document's hashes, as a map: its keys differ, every value is true. -/
def SetIs (l : List Mark) (m : List (Int × Bool)) : Prop := (m.map (·.1)).Nodup ∧ (∀ x, x ∈ m.map (·.1) ↔ x ∈ l.map Mark.hash) ∧ ∀ p ∈ m, p.2 = true
theorem SetIs.len {l : List Mark} {m : List (Int × Bool)} (h : SetIs l m) : m.length ≤ l.length := by
  have := nodup_sub_len h.1 (m := l.map Mark.hash) fun x hx => (h.2.1 x).1 hx
  simpa using this
theorem SetIs.get {l : List Mark} {m : List (Int × Bool)} (h : SetIs l m) (x : Int) : (mget m x).getD false = decide (x ∈ l.map Mark.hash) := by
  by_cases hx : x ∈ m.map (·.1)
  · obtain ⟨p, hp, rfl⟩ := List.mem_map.1 hx
    rw [mget_mem (v := p.2) h.1 hp, decide_eq_true ((h.2.1 _).1 hx)]
    exact h.2.2 p hp
  · rw [mget_none hx, decide_eq_false (fun h2 => hx ((h.2.1 _).2 h2))]; rfl
theorem mput_mem2 {κ β : Type} [DecidableEq κ] {l : List (κ × β)} {k : κ} {v : β} {p : κ × β} (h : p ∈ mput l k v) : p = (k, v) ∨ p ∈ l := by
  induction l with
  | nil => simp [mput] at h; exact Or.inl h
  | cons q l ih =>
    unfold mput at h
    split at h
    · rcases List.mem_cons.1 h with rfl | h
      · exact Or.inl rfl
      · exact Or.inr (List.mem_cons_of_mem _ h)
    · rcases List.mem_cons.1 h with rfl | h
      · exact Or.inr (List.mem_cons_self ..)
      · rcases ih h with h | h
        · exact Or.inl h
        · exact Or.inr (List.mem_cons_of_mem _ h)
theorem set_m (l : List Mark) (hl : l.length ≤ 4000000) : ∃ m, m_similarity_set l = some m ∧ SetIs l m := by
  unfold m_similarity_set
  let S : Nat → List (Int × Bool) := fun k => (l.take k).foldl (fun m a => mput m a.hash true) []
  have hS : ∀ k, k ≤ l.length → SetIs (l.take k) (S k) := by
    intro k
    induction k with
    | zero => intro _; exact ⟨by simp [S], by simp [S], by simp [S]⟩
    | succ k ih =>
      intro hk
      obtain ⟨a, ha⟩ := get_of_lt (show k < l.length by omega)
      obtain ⟨h1, h2, h3⟩ := ih (by omega)
      have e : S (k + 1) = mput (S k) a.hash true := foldl_take _ _ ha
      rw [e, take_snoc_of ha]
      refine ⟨mput_nodup h1 _ _, fun x => ?_, fun p hp => ?_⟩
      · rw [mput_mem, h2]; simp [or_comm]
      · rcases mput_mem2 hp with rfl | hp
        · rfl
        · exact h3 p hp
  refine ⟨S l.length, ?_, by have := hS l.length (Nat.le_refl _); rwa [List.take_length] at this⟩
  refine bind_loop (fun k => ((k : Int), S k)) l.length (S l.length) rfl (fun k hk => ?_) ?_ rfl
  · obtain ⟨a, ha⟩ := get_of_lt hk
    simp only [m_similarity_set_lp1]
    rw [if_pos (by simpa using hk), idx_nat ha]
    simp only [Option.bind_some]
    rw [inK_succ (by omega)]
    simp only [Option.bind_some]
    rw [← foldl_take (fun m a => mput m a.hash true) [] ha]
  · simp only [m_similarity_set_lp1]
    rw [if_neg (by simp)]
theorem sortI_perm (l : List Int) : (l.mergeSort fun x y => decide (x ≤ y)).Perm l := List.mergeSort_perm _ _
theorem sortI_le (l : List Int) : (l.mergeSort fun x y => decide (x ≤ y)).Pairwise (· ≤ ·) := by
  have := List.pairwise_mergeSort (le := fun x y : Int => decide (x ≤ y)) (by intros; simp at *; omega) (by intros; simp; omega) l
  exact this.imp fun h => by simpa using h
theorem sortI_lt {l : List Int} (h : l.Nodup) : (l.mergeSort fun x y => decide (x ≤ y)).Pairwise (· < ·) := by
  have h1 := sortI_le l
  have h2 : (l.mergeSort fun x y => decide (x ≤ y)).Nodup := (sortI_perm l).nodup_iff.2 h
  exact h1.imp₂ (fun a b h1 h2 => by omega) h2
theorem sortedKeys_ok {β : Type} {m : List (Int × β)} (hr : ∀ x ∈ m.map (·.1), -9223372036854775808 ≤ x ∧ x ≤ 9223372036854775807) (hl : m.length ≤ 4000000) : m_sortedKeys m = some ((m.map (·.1)).mergeSort fun x y => decide (x ≤ y)) := by
  unfold m_sortedKeys
  rw [if_pos ⟨by rw [List.all_eq_true]; intro p hp; simpa using hr p.1 (List.mem_map_of_mem hp), by omega⟩]
/-- Marks whose numbers are integers of the machine. -/
def MkOk (l : List Mark) : Prop := ∀ x ∈ l.map Mark.hash, -9223372036854775808 ≤ x ∧ x ≤ 9223372036854775807
theorem Hashes_m (l : List Mark) (hl : l.length ≤ 4000000) (ho : MkOk l) : ∃ r, m_similarity_Hashes l = some r ∧ HsIs l r := by
  unfold m_similarity_Hashes
  obtain ⟨m, h1, h2⟩ := set_m l hl
  rw [h1]
  simp only [Option.bind_some]
  have hm := h2.len
  rw [sortedKeys_ok (fun x hx => ho x ((h2.2.1 x).1 hx)) (by omega)]
  refine ⟨_, rfl, sortI_lt h2.1, fun x => ?_⟩
  rw [(sortI_perm _).mem_iff]; exact h2.2.1 x
theorem HashesR_m (l : List Mark) (hl : l.length ≤ 2000000) : ∃ r, m_assessorref44_Hashes l = some r ∧ HsIs l r := by
  unfold m_assessorref44_Hashes
  obtain ⟨b, hb, hP⟩ := loopM_inv (body := fun s : Int × List Int => m_assessorref44_Hashes_lp1 l s.1 s.2) (fun s => ∃ k : Nat, s.1 = k ∧ k ≤ l.length ∧ HsIs (l.take k) s.2) (fun s => l.length - s.1.toNat) (fun b => HsIs l b) (by
    rintro ⟨i, r⟩ ⟨k, rfl, hk, hI⟩
    simp only at hI
    by_cases hkl : k < l.length
    · obtain ⟨a, ha⟩ := get_of_lt hkl
      obtain ⟨r2, e1, e2, e3, e4⟩ := Add_m r a.hash (by have := hI.len; rw [List.length_take] at this; omega) hI.1
      refine Or.inl ⟨(((k + 1 : Nat) : Int), r2), ?_, ⟨k + 1, rfl, by omega, e2, fun x => ?_⟩, by simp; omega⟩
      · simp only [m_assessorref44_Hashes_lp1]
        rw [if_pos (by simpa using hkl), idx_nat ha]
        simp only [Option.bind_some]
        rw [e1]
        simp only [Option.bind_some]
        rw [inK_succ (by omega)]
        rfl
      · rw [e3, hI.2, take_snoc_of ha]; simp [or_comm]
    · refine Or.inr ⟨r, ?_, ?_⟩
      · simp only [m_assessorref44_Hashes_lp1]
        rw [if_neg (by simpa using hkl)]
      · have : k = l.length := by omega
        subst this
        rwa [List.take_length] at hI) (0, []) ⟨0, rfl, by omega, by simp, by simp⟩
  rw [hb]
  exact ⟨b, rfl, hP⟩
theorem Has_m (l : List Int) (x : Int) (hl : l.length ≤ 4294967296) : m_assessorref44_Has l x = some (decide (x ∈ l)) := by
  unfold m_assessorref44_Has
  refine bind_any l (fun m => decide (m = x)) (.ret true) (.brk ()) (fun k a ha => ?_) ?_ ?_
  · have hk := (List.getElem?_eq_some_iff.1 ha).1
    simp only [m_assessorref44_Has_lp1]
    rw [if_pos (by simpa using hk), idx_nat ha]
    simp only [Option.bind_some]
    rw [inK_succ (by omega)]
    by_cases h : a = x <;> simp [h]
  · simp only [m_assessorref44_Has_lp1]
    rw [if_neg (by simp)]
  · have e : l.any (fun m => decide (m = x)) = decide (x ∈ l) := by
      rw [Bool.eq_iff_iff]; simp [List.any_eq_true]
    rw [e]
    by_cases h : x ∈ l
    · rw [decide_eq_true h]; rfl
    · rw [decide_eq_false h]; rfl
/-- How many hashes are in both, and how many in one of them. -/
def CmpIs (a b : List Mark) (r : Int × Int) : Prop := ∀ x y, HsIs a x → HsIs b y → r.1 = ((x.filter fun h => decide (h ∈ y)).length : Int) ∧ r.2 = x.length + y.length - ((x.filter fun h => decide (h ∈ y)).length : Int)
theorem SetIs.cnt {a b : List Mark} {m : List (Int × Bool)} {x y : List Int} (h : SetIs a m) (hx : HsIs a x) (hy : HsIs b y) : (m.filter fun p => decide (p.1 ∈ b.map Mark.hash)).length = (x.filter fun h => decide (h ∈ y)).length := by
  have h1 : (m.map (·.1)).Perm x := (List.perm_ext_iff_of_nodup h.1 (rising_nodup hx.1)).2 fun z => (h.2.1 z).trans (hx.2 z).symm
  have h2 := (h1.filter fun h => decide (h ∈ y)).length_eq
  rw [← h2, List.filter_map, List.length_map]
  congr 2
  funext p
  simp only [Function.comp_apply, hy.2]
theorem SetIs.rising {a : List Mark} {m : List (Int × Bool)} {x : List Int} (h : SetIs a m) (hx : HsIs a x) : m.length = x.length := by
  have h1 : (m.map (·.1)).Perm x := (List.perm_ext_iff_of_nodup h.1 (rising_nodup hx.1)).2 fun z => (h.2.1 z).trans (hx.2 z).symm
  simpa using h1.length_eq
theorem Compare_m (a b : List Mark) (ha : a.length ≤ 4000000) (hb : b.length ≤ 4000000) : ∃ r, m_similarity_Compare a b = some r ∧ CmpIs a b r := by
  unfold m_similarity_Compare
  obtain ⟨m, h1, h2⟩ := set_m a ha
  obtain ⟨n, h3, h4⟩ := set_m b hb
  rw [h1, h3]
  simp only [Option.bind_some]
  have hm := h2.len
  have hn := h4.len
  have hfl := List.length_filter_le (fun p : Int × Bool => decide (p.1 ∈ b.map Mark.hash)) m
  rw [permM_eq (r := ((m.filter fun p => decide (p.1 ∈ b.map Mark.hash)).length : Int)) (fun d s => s = ((d.filter fun p => decide (p.1 ∈ b.map Mark.hash)).length : Int)) rfl (fun d e s hd hI => ?_) (fun p s hp hI => ?_)]
  · simp only [Option.bind_some]
    rw [inK_eq (by omega)]
    simp only [Option.bind_some]
    rw [inK_eq (by omega)]
    refine ⟨_, rfl, fun x y hx hy => ?_⟩
    have e1 := h2.cnt hx hy
    have e2 := h2.rising hx
    have e3 := h4.rising hy
    refine ⟨by rw [e1], ?_⟩
    show (m.length : Int) + n.length - _ = _
    rw [e1, e2, e3]
  · obtain ⟨t, ht⟩ := hd
    have hdl := ht.length_eq
    simp only [List.length_append, List.length_cons] at hdl
    have hdf := List.length_filter_le (fun p : Int × Bool => decide (p.1 ∈ b.map Mark.hash)) d
    simp only [m_similarity_Compare_lp1, h4.get]
    subst hI
    by_cases h : e.1 ∈ b.map Mark.hash
    · refine ⟨_, by rw [if_pos (by simpa using h), inK_succ (by omega)]; rfl, ?_⟩
      rw [List.filter_append, List.filter_cons_of_pos (by exact decide_eq_true h), List.length_append]; rfl
    · refine ⟨_, by rw [if_neg (by simpa using h)], ?_⟩
      rw [List.filter_append, List.filter_cons_of_neg (by simpa using h), List.length_append]; rfl
  · rw [hI, (hp.filter _).length_eq]
theorem CompareR_m (a b : List Mark) (ha : a.length ≤ 2000000) (hb : b.length ≤ 2000000) : ∃ r, m_assessorref44_Compare a b = some r ∧ CmpIs a b r := by
  unfold m_assessorref44_Compare
  obtain ⟨m, h1, h2⟩ := HashesR_m a ha
  obtain ⟨n, h3, h4⟩ := HashesR_m b hb
  rw [h1, h3]
  simp only [Option.bind_some]
  have hm := h2.len
  have hn := h4.len
  have hfl := List.length_filter_le (fun h => decide (h ∈ n)) m
  refine ⟨(((m.filter fun h => decide (h ∈ n)).length : Int), m.length + n.length - ((m.filter fun h => decide (h ∈ n)).length : Int)), ?_, fun x y hx hy => ?_⟩
  · refine bind_loop (fun k => ((((m.take k).filter fun h => decide (h ∈ n)).length : Int), (k : Int))) m.length ((m.filter fun h => decide (h ∈ n)).length : Int) (by simp) (fun k hk => ?_) ?_ ?_
    · obtain ⟨c, hc⟩ := get_of_lt hk
      have hfk := List.length_filter_le (fun h => decide (h ∈ n)) (m.take k)
      rw [List.length_take] at hfk
      simp only [m_assessorref44_Compare_lp1]
      rw [if_pos (by simpa using hk), idx_nat hc]
      simp only [Option.bind_some]
      rw [Has_m n c (by omega)]
      simp only [Option.bind_some]
      rw [take_snoc_of hc, List.filter_append, inK_succ (k := k) (by omega)]
      by_cases h : c ∈ n
      · rw [if_pos (by simpa using h), inK_succ (by omega)]
        simp [h]
      · rw [if_neg (by simpa using h)]
        simp [h]
    · simp only [m_assessorref44_Compare_lp1]
      rw [if_neg (by simp), List.take_length]
    · rw [inK_eq (by omega)]
      simp only [Option.bind_some]
      rw [inK_eq (by omega)]
      rfl
  · rw [hx.one h2, hy.one h4]
    exact ⟨rfl, rfl⟩
theorem CmpIs.one {a b : List Mark} {r s : Int × Int} (ha : a.length ≤ 2000000) (hb : b.length ≤ 2000000) (hr : CmpIs a b r) (hs : CmpIs a b s) : r = s := by
  obtain ⟨m, _, h2⟩ := HashesR_m a ha
  obtain ⟨n, _, h4⟩ := HashesR_m b hb
  obtain ⟨e1, e2⟩ := hr m n h2 h4
  obtain ⟨e3, e4⟩ := hs m n h2 h4
  exact Prod.ext (e1.trans e3.symm) (e2.trans e4.symm)
theorem IndexI_m (l : List Int) (x : Int) (hl : l.length ≤ 4294967296) : ∃ r, m_slices_Index_int_int_ l x = some r ∧ (0 ≤ r ↔ x ∈ l) := by
  unfold m_slices_Index_int_int_
  have hbody : ∀ (k : Nat) a, l[k]? = some a → m_slices_Index_int_int__lp1 l x k = some (if decide (x = a) = true then .done (.ret (k : Int)) else .next ((k + 1 : Nat) : Int)) := by
    intro k a ha
    have hk := (List.getElem?_eq_some_iff.1 ha).1
    simp only [m_slices_Index_int_int__lp1]
    rw [if_pos (by simpa using hk), idx_nat ha]
    simp only [Option.bind_some]
    rw [inK_succ (by omega)]
    by_cases h : x = a <;> simp [h]
  have hend : m_slices_Index_int_int__lp1 l x (l.length : Int) = some (.done (.brk ())) := by
    simp only [m_slices_Index_int_int__lp1]
    rw [if_neg (by simp)]
  rcases scan_loop (body := fun s => m_slices_Index_int_int__lp1 l x s) l (fun a => decide (x = a)) (fun k _ => .ret (k : Int)) (.brk ()) hbody hend with ⟨k, a, h1, h2, _, _, _, h4⟩ | ⟨h1, _, _, h4⟩
  · rw [h4]
    simp at h2
    exact ⟨_, rfl, by simp; exact h2 ▸ List.mem_of_getElem? h1⟩
  · rw [h4]
    refine ⟨_, rfl, by simp; intro h; have := h1 x h; simp at this⟩
theorem Contains_m (l : List Int) (x : Int) (hl : l.length ≤ 4294967296) : m_slices_Contains_int_int_ l x = some (decide (x ∈ l)) := by
  unfold m_slices_Contains_int_int_
  obtain ⟨r, h1, h2⟩ := IndexI_m l x hl
  rw [h1]
  simp only [Option.bind_some, Option.some.injEq]
  exact decide_eq_decide.2 h2
theorem Out1_m (a : Mark) (h : List Int) (hl : h.length ≤ 4294967296) : m_similarity_Without_1 a h = some (decide (a.hash ∈ h)) := by
  unfold m_similarity_Without_1
  rw [Contains_m h _ hl]; rfl
theorem filter_none {α : Type} {p : α → Bool} {l : List α} (h : ∀ a ∈ l, p a = true) : l.filter p = l := List.filter_eq_self.2 h
theorem take_set_lt {α : Type} (l : List α) (i : Nat) (a : α) (h : i < l.length) : (l.set i a).take (i + 1) = l.take i ++ [a] := by
  have : (l.set i a)[i]? = some a := by rw [List.getElem?_set_self h]
  rw [take_snoc_of this, List.take_set_of_le (Nat.le_refl _)]
theorem Delete_m (l : List Mark) (h : List Int) (hh : h.length ≤ 4294967296) (hl : l.length ≤ 4294967296) : m_slices_DeleteFunc_similarity_Without_1 l h = some (l.filter fun a => !decide (a.hash ∈ h)) := by
  unfold m_slices_DeleteFunc_similarity_Without_1
  have hidx : m_slices_IndexFunc_similarity_Without_1 l h = some (-1) ∧ (∀ a ∈ l, decide (a.hash ∈ h) = false) ∨ ∃ (k : Nat) (a : Mark), l[k]? = some a ∧ decide (a.hash ∈ h) = true ∧ (∀ (j : Nat) (b : Mark), j < k → l[j]? = some b → decide (b.hash ∈ h) = false) ∧ m_slices_IndexFunc_similarity_Without_1 l h = some (k : Int) := by
    unfold m_slices_IndexFunc_similarity_Without_1
    have hbody : ∀ (k : Nat) a, l[k]? = some a → m_slices_IndexFunc_similarity_Without_1_lp1 l h k = some (if decide (a.hash ∈ h) = true then .done (.ret (k : Int)) else .next ((k + 1 : Nat) : Int)) := by
      intro k a ha
      have hk := (List.getElem?_eq_some_iff.1 ha).1
      simp only [m_slices_IndexFunc_similarity_Without_1_lp1]
      rw [if_pos (by simpa using hk), idx_nat ha]
      simp only [Option.bind_some]
      rw [Out1_m _ _ hh]
      simp only [Option.bind_some]
      rw [inK_succ (by omega)]
      by_cases h : a.hash ∈ h <;> simp [h]
    have hend : m_slices_IndexFunc_similarity_Without_1_lp1 l h (l.length : Int) = some (.done (.brk ())) := by
      simp only [m_slices_IndexFunc_similarity_Without_1_lp1]
      rw [if_neg (by simp)]
    rcases scan_loop (body := fun s => m_slices_IndexFunc_similarity_Without_1_lp1 l h s) l (fun a => decide (a.hash ∈ h)) (fun k _ => .ret (k : Int)) (.brk ()) hbody hend with ⟨k, a, h1, h2, h3, _, _, h4⟩ | ⟨h1, _, _, h4⟩
    · exact Or.inr ⟨k, a, h1, h2, h3, by rw [h4]; rfl⟩
    · exact Or.inl ⟨by rw [h4]; rfl, h1⟩
  rcases hidx with ⟨h1, h2⟩ | ⟨k, a, h1, h2, h3, h4⟩
  · rw [h1]
    simp only [Option.bind_some]
    rw [if_pos (by simp), filter_none fun a ha => by rw [h2 a ha]; rfl]
  · have hk := (List.getElem?_eq_some_iff.1 h1).1
    rw [h4]
    simp only [Option.bind_some]
    rw [if_neg (by simp), inK_succ (by omega)]
    simp only [Option.bind_some]
    have hpre : (l.take (k + 1)).filter (fun a => !decide (a.hash ∈ h)) = l.take k := by
      rw [take_snoc_of h1, List.filter_append, filter_none (l := l.take k)]
      · simp only [List.filter_cons, h2]; simp
      · intro b hb
        obtain ⟨j, hj⟩ := List.getElem?_of_mem hb
        rw [List.getElem?_take] at hj
        split at hj
        · rw [h3 j b (by assumption) hj]; rfl
        · cases hj
    obtain ⟨b, hb, hP⟩ := loopM_inv (body := fun s : Int × Int × List Mark => m_slices_DeleteFunc_similarity_Without_1_lp1 h s.1 s.2.1 s.2.2) (fun s => ∃ i j : Nat, s.1 = i ∧ s.2.1 = j ∧ i < j ∧ j ≤ l.length ∧ s.2.2.length = l.length ∧ s.2.2.take i = (l.take j).filter (fun a => !decide (a.hash ∈ h)) ∧ s.2.2.drop j = l.drop j) (fun s => l.length - s.2.1.toNat)
      (fun b => ∃ i : Nat, b.1 = i ∧ i ≤ l.length ∧ b.2.length = l.length ∧ b.2.take i = l.filter (fun a => !decide (a.hash ∈ h))) (by
      rintro ⟨i', j', m⟩ ⟨i, j, rfl, rfl, hij, hj, hm, ht, hd⟩
      simp only at hm ht hd
      by_cases hjl : j < l.length
      · obtain ⟨c, hc⟩ := get_of_lt hjl
        have hmc : m[j]? = some c := by
          have := congrArg (fun x => x[0]?) hd
          simp only [List.getElem?_drop, Nat.add_zero] at this
          rw [this, hc]
        obtain ⟨c0, hc0⟩ := get_of_lt (show i < m.length by omega)
        by_cases hcd : c.hash ∈ h
        · refine Or.inl ⟨((i : Int), ((j + 1 : Nat) : Int), m), ?_, ⟨i, j + 1, rfl, rfl, by omega, by omega, hm, ?_, ?_⟩, by simp; omega⟩
          · simp only [m_slices_DeleteFunc_similarity_Without_1_lp1]
            rw [if_pos (by simp; omega), idx_nat hmc]
            simp only [Option.bind_some]
            rw [Out1_m _ _ hh]
            simp only [Option.bind_some]
            rw [if_neg (by simp [hcd]), inK_succ (by omega)]
            rfl
          · simp only
            rw [ht, take_snoc_of hc, List.filter_append]
            simp [hcd]
          · simp only
            rw [← List.drop_drop, ← List.drop_drop, hd]
        · refine Or.inl ⟨(((i + 1 : Nat) : Int), ((j + 1 : Nat) : Int), m.set i c), ?_, ⟨i + 1, j + 1, rfl, rfl, by omega, by omega, by simpa using hm, ?_, ?_⟩, by simp; omega⟩
          · simp only [m_slices_DeleteFunc_similarity_Without_1_lp1]
            rw [if_pos (by simp; omega), idx_nat hmc]
            simp only [Option.bind_some]
            rw [Out1_m _ _ hh]
            simp only [Option.bind_some]
            rw [if_pos (by simp [hcd]), idx_nat hc0]
            simp only [Option.bind_some]
            rw [inK_succ (k := i) (by omega), inK_succ (by omega)]
            rfl
          · simp only
            rw [take_set_lt m i c (by omega), ht, take_snoc_of hc, List.filter_append]
            simp [hcd]
          · simp only
            rw [List.drop_set_of_lt (by omega), ← List.drop_drop, ← List.drop_drop, hd]
      · refine Or.inr ⟨((i : Int), m), ?_, i, rfl, by omega, hm, ?_⟩
        · simp only [m_slices_DeleteFunc_similarity_Without_1_lp1]
          rw [if_neg (by simp; omega)]
        · simp only
          rw [ht, List.take_of_length_le (by omega)]) ((k : Int), ((k + 1 : Nat) : Int), l) ⟨k, k + 1, rfl, rfl, by omega, by omega, rfl, hpre.symm, rfl⟩
    obtain ⟨b1, b2⟩ := b
    obtain ⟨i, rfl, hi, hbl, hbt⟩ := hP
    rw [hb]
    simp only [Option.bind_some]
    simp only at hbl hbt
    rw [sub_ok (by omega) (by omega) (by omega)]
    simp only [Option.bind_some, Int.toNat_natCast]
    rw [hbt]
theorem Without_m (l : List Mark) (h : List Int) (hh : h.length ≤ 4294967296) (hl : l.length ≤ 4294967296) : m_similarity_Without l h = some (l.filter fun a => !decide (a.hash ∈ h)) := by
  unfold m_similarity_Without
  rw [app_ok (by simp; omega)]
  simp only [Option.bind_some, List.nil_append]
  rw [Delete_m l h hh hl]
  rfl
theorem WithoutR_m (l : List Mark) (h : List Int) (hh : h.length ≤ 4294967296) (hl : l.length ≤ 4294967296) : m_assessorref44_Without l h = some (l.filter fun a => !decide (a.hash ∈ h)) := by
  unfold m_assessorref44_Without
  refine bind_loop (fun k => ((k : Int), (l.take k).filter fun a => !decide (a.hash ∈ h))) l.length (l.filter fun a => !decide (a.hash ∈ h)) (by simp) (fun k hk => ?_) ?_ rfl
  · obtain ⟨c, hc⟩ := get_of_lt hk
    have hfk := List.length_filter_le (fun a => !decide (a.hash ∈ h)) (l.take k)
    rw [List.length_take] at hfk
    simp only [m_assessorref44_Without_lp1]
    rw [if_pos (by simpa using hk), idx_nat hc]
    simp only [Option.bind_some]
    rw [Has_m _ _ hh]
    simp only [Option.bind_some]
    rw [take_snoc_of hc, List.filter_append, inK_succ (k := k) (by omega)]
    by_cases hch : c.hash ∈ h
    · rw [if_neg (by simp [hch])]
      simp [hch]
    · rw [if_pos (by simp [hch]), app_ok (by simp; omega)]
      simp [hch]
  · simp only [m_assessorref44_Without_lp1]
    rw [if_neg (by simp), List.take_length]

/-! ### Often -/
/-- In how many documents is a hash? -/
def cnt (D : List (List Mark)) (x : Int) : Nat := (D.filter fun l => decide (x ∈ l.map Mark.hash)).length
theorem cnt_le (D : List (List Mark)) (x : Int) : cnt D x ≤ D.length := List.length_filter_le _ _
theorem cnt_snoc (D : List (List Mark)) (l : List Mark) (x : Int) : cnt (D ++ [l]) x = cnt D x + (if x ∈ l.map Mark.hash then 1 else 0) := by
  unfold cnt
  rw [List.filter_append, List.length_append]
  by_cases h : x ∈ l.map Mark.hash
  · simp only [List.filter_cons, h, decide_true, if_true]; rfl
  · simp only [List.filter_cons, h, decide_false, if_false]; rfl
theorem cnt_pos {D : List (List Mark)} {x : Int} : 0 < cnt D x ↔ ∃ l ∈ D, x ∈ l.map Mark.hash := by
  unfold cnt
  rw [List.length_pos_iff_exists_mem]
  simp only [List.mem_filter, decide_eq_true_eq]
/-- A list of entries in the order of their keys. -/
def Rises {β : Type} (l : List (Int × β)) : Prop := l.Pairwise fun p q => p.1 < q.1
theorem Rises.nodup {β : Type} {l : List (Int × β)} (h : Rises l) : (l.map (·.1)).Nodup := by
  rw [List.nodup_iff_pairwise_ne, List.pairwise_map]
  exact h.imp fun h e => by omega
theorem mget_of_mem {β : Type} {l : List (Int × β)} (h : (l.map (·.1)).Nodup) {k : Int} {v : β} : (k, v) ∈ l ↔ mget l k = some v := by
  constructor
  · exact mget_mem h
  · intro hg
    unfold mget at hg
    rw [Option.map_eq_some_iff] at hg
    obtain ⟨p, h1, h2⟩ := hg
    have h3 := List.mem_of_find?_eq_some h1
    have h4 := List.find?_some h1
    simp only [decide_eq_true_eq] at h4
    subst h4 h2
    exact h3
theorem rises_ext {β : Type} {l m : List (Int × β)} (hl : Rises l) (hm : Rises m) (h : ∀ k, mget l k = mget m k) : l = m :=
  rising_ext (r := fun p q : Int × β => p.1 < q.1) (fun _ => Int.lt_irrefl _) (fun _ _ _ => Int.lt_trans) hl hm fun p => by
    obtain ⟨k, v⟩ := p
    rw [mget_of_mem hl.nodup, mget_of_mem hm.nodup, h]
theorem insK_rises {β : Type} (e : Int × β) : ∀ {l : List (Int × β)}, Rises l → e.1 ∉ l.map (·.1) → Rises (insK e l)
  | [], _, _ => by simp [insK, Rises]
  | p :: l, h, hn => by
    obtain ⟨h1, h2⟩ := List.pairwise_cons.1 h
    unfold insK
    split
    · rename_i hlt
      refine List.pairwise_cons.2 ⟨fun q hq => ?_, h⟩
      rcases List.mem_cons.1 hq with rfl | hq
      · exact hlt
      · exact Int.lt_trans hlt (h1 q hq)
    · rename_i hlt
      have hne : e.1 ≠ p.1 := fun he => hn (by simp [he])
      refine List.pairwise_cons.2 ⟨fun q hq => ?_, insK_rises e h2 (fun hm => hn (by simp at hm ⊢; exact Or.inr hm))⟩
      have := (insK_perm e l).mem_iff.1 hq
      rcases List.mem_cons.1 this with rfl | hq
      · omega
      · exact h1 q hq
theorem sput_rises {β : Type} {l : List (Int × β)} (h : Rises l) (k : Int) (v : β) : Rises (sput l k v) := by
  refine insK_rises _ (h.sublist List.filter_sublist) ?_
  simp
theorem mget_sput {β : Type} {l : List (Int × β)} (h : Rises l) (k x : Int) (v : β) : mget (sput l k v) x = if x = k then some v else mget l x := by
  have h1 : (mput l k v).Perm (sput l k v) := (mput_perm h.nodup k v).trans (insK_perm _ _).symm
  rw [← mget_perm (mput_nodup h.nodup k v) h1, mget_mput]
/-- The counts of the documents. -/
def CntIs (D : List (List Mark)) (l : List (Int × Int)) : Prop := Rises l ∧ ∀ x, mget l x = if 0 < cnt D x then some (cnt D x : Int) else none
theorem CntIs.mem {D : List (List Mark)} {l : List (Int × Int)} (h : CntIs D l) (p : Int × Int) : p ∈ l ↔ 0 < cnt D p.1 ∧ p.2 = cnt D p.1 := by
  obtain ⟨k, v⟩ := p
  rw [mget_of_mem h.1.nodup, h.2]
  split
  · rename_i hc; simp [hc, eq_comm]
  · rename_i hc; simp [hc]
theorem CntIs.len {D : List (List Mark)} {l : List (Int × Int)} (h : CntIs D l) : l.length ≤ D.flatten.length := by
  have := nodup_sub_len h.1.nodup (m := D.flatten.map Mark.hash) fun x hx => by
    obtain ⟨p, hp, rfl⟩ := List.mem_map.1 hx
    obtain ⟨l, h1, h2⟩ := cnt_pos.1 ((h.mem p).1 hp).1
    obtain ⟨a, h3, h4⟩ := List.mem_map.1 h2
    exact List.mem_map.2 ⟨a, List.mem_flatten.2 ⟨l, h1, h3⟩, h4⟩
  rwa [List.length_map, List.length_map] at this
theorem freq_doc (D : List (List Mark)) (l : List Mark) (m : List (Int × Bool)) (c : List (Int × Int)) (hD : D.length ≤ 4000000) (hm : SetIs l m) (hc : CntIs D c) : ∃ c', permM m (fun p => foldP (fun e s => m_similarity_Frequent_lp2 e s) (fun s => some s) p c) = some c' ∧ CntIs (D ++ [l]) c' := by
  -- the counts with some more hashes
  let V : List (Int × Bool) → List (Int × Int) → Prop := fun d s => Rises s ∧ ∀ x, mget s x = if 0 < cnt D x + (if x ∈ d.map (·.1) then 1 else 0) then some ((cnt D x + (if x ∈ d.map (·.1) then 1 else 0) : Nat) : Int) else none
  have step : ∀ (d : List (Int × Bool)) (e : Int × Bool) (s : List (Int × Int)), e.1 ∉ d.map (·.1) → V d s → ∃ s', m_similarity_Frequent_lp2 e s = some (.next s') ∧ V (d ++ [e]) s' := by
    intro d e s he ⟨h1, h2⟩
    have hv : (mget s e.1).getD 0 = (cnt D e.1 : Int) := by
      rw [h2, if_neg he]
      split
      · rfl
      · rename_i h0; simp at h0; simp [h0]
    have hcl := cnt_le D e.1
    refine ⟨sput s e.1 ((cnt D e.1 + 1 : Nat) : Int), ?_, sput_rises h1 _ _, fun x => ?_⟩
    · simp only [m_similarity_Frequent_lp2]
      rw [hv, inK_succ (by omega)]
      rfl
    · rw [mget_sput h1]
      by_cases hx : x = e.1
      · subst hx; simp
      · rw [if_neg hx, h2]
        have : (x ∈ (d ++ [e]).map (·.1)) ↔ x ∈ d.map (·.1) := by simp [hx]
        simp only [this]
  have fin : ∀ (p : List (Int × Bool)) s, p.Perm m → V p s → CntIs (D ++ [l]) s := by
    intro p s hp ⟨h1, h2⟩
    refine ⟨h1, fun x => ?_⟩
    have : (x ∈ p.map (·.1)) ↔ x ∈ l.map Mark.hash := by rw [(hp.map _).mem_iff]; exact hm.2.1 x
    rw [h2, cnt_snoc]
    simp only [this]
  -- some order
  have h0 : V [] c := ⟨hc.1, fun x => by rw [hc.2]; simp⟩
  obtain ⟨s0, hs0, _⟩ := foldP_inv (fin := fun s : List (Int × Int) => some s) V m [] c h0 (fun d e s ⟨t, ht⟩ hI => step d e s (by
    have hn := hm.1
    simp only [List.nil_append] at ht
    rw [ht] at hn
    simp only [List.map_append, List.map_cons, List.nodup_append] at hn
    intro hmem
    exact hn.2.2 _ hmem _ (by simp) rfl) hI)
  have hs1 := fin _ s0 (by simp) hs0
  refine ⟨s0, permM_eq V h0 (fun d e s ⟨t, ht⟩ hI => step d e s (by
    have hn := ((ht.map (·.1)).nodup_iff).2 hm.1
    simp only [List.map_append, List.map_cons, List.nodup_append] at hn
    intro hmem
    exact hn.2.2 _ hmem _ (by simp) rfl) hI) (fun p s hp hI => ?_), hs1⟩
  have h3 := fin p s hp hI
  rw [rises_ext h3.1 hs1.1 fun k => (h3.2 k).trans (hs1.2 k).symm]
/-- The hashes of more than most documents: they rise. -/
def FreqIs (n : Int) (D : List (List Mark)) (r : List Int) : Prop := r.Pairwise (· < ·) ∧ ∀ x, x ∈ r ↔ 0 < cnt D x ∧ n < cnt D x
theorem FreqIs.one {n : Int} {D : List (List Mark)} {r s : List Int} (hr : FreqIs n D r) (hs : FreqIs n D s) : r = s := rising_int hr.1 hs.1 fun x => (hr.2 x).trans (hs.2 x).symm
theorem flat_le (D : List (List Mark)) (n : Nat) (h : ∀ l ∈ D, l.length ≤ n) : D.flatten.length ≤ D.length * n := by
  induction D with
  | nil => simp
  | cons a D ih =>
    have h1 := h a (by simp)
    have h2 := ih fun l hl => h l (by simp [hl])
    simp only [List.flatten_cons, List.length_append, List.length_cons, Nat.add_mul, Nat.one_mul]
    omega
theorem Frequent_m (n : Int) (D : List (List Mark)) (hD : D.length ≤ 100) (hl : ∀ l ∈ D, l.length ≤ 10000) (ho : ∀ l ∈ D, MkOk l) : ∃ r, m_similarity_Frequent n D = some r ∧ FreqIs n D r := by
  unfold m_similarity_Frequent
  obtain ⟨c, hc, hP⟩ := loopM_inv (body := fun s : Int × List (Int × Int) => m_similarity_Frequent_lp1 D s.1 s.2) (fun s => ∃ k : Nat, s.1 = k ∧ k ≤ D.length ∧ CntIs (D.take k) s.2) (fun s => D.length - s.1.toNat) (fun b => CntIs D b) (by
    rintro ⟨i, c⟩ ⟨k, rfl, hk, hI⟩
    simp only at hI
    by_cases hkl : k < D.length
    · obtain ⟨l, ha⟩ := get_of_lt hkl
      have hmem := List.mem_of_getElem? ha
      obtain ⟨m, h1, h2⟩ := set_m l (by have := hl l hmem; omega)
      obtain ⟨c', h3, h4⟩ := freq_doc (D.take k) l m c (by rw [List.length_take]; omega) h2 hI
      refine Or.inl ⟨(((k + 1 : Nat) : Int), c'), ?_, ⟨k + 1, rfl, by omega, by rw [take_snoc_of ha]; exact h4⟩, by simp; omega⟩
      simp only [m_similarity_Frequent_lp1]
      rw [if_pos (by simpa using hkl), idx_nat ha]
      simp only [Option.bind_some]
      rw [h1]
      simp only [Option.bind_some]
      rw [h3]
      simp only [Option.bind_some]
      rw [inK_succ (by omega)]
      rfl
    · refine Or.inr ⟨c, ?_, ?_⟩
      · simp only [m_similarity_Frequent_lp1]
        rw [if_neg (by simpa using hkl)]
      · rwa [List.take_of_length_le (by omega)] at hI) (0, []) ⟨0, rfl, by omega, by simp [Rises], fun x => by simp [cnt, mget]⟩
  rw [hc]
  simp only [Option.bind_some]
  have hlen := hP.len
  have hfl := flat_le D 10000 hl
  have hrange : ∀ p ∈ c, -9223372036854775808 ≤ p.1 ∧ p.1 ≤ 9223372036854775807 := by
    intro p hp
    obtain ⟨l, h1, h2⟩ := cnt_pos.1 ((hP.mem p).1 hp).1
    exact ho l h1 _ h2
  have hb : D.length * 10000 ≤ 1000000 := by omega
  unfold m_mdel
  rw [if_pos ⟨by
    rw [List.all_eq_true]
    intro p hp
    have h1 := hrange p hp
    have h2 := ((hP.mem p).1 hp).2
    have h3 := cnt_le D p.1
    simp only [Bool.and_eq_true, decide_eq_true_eq]
    omega, by omega⟩]
  simp only [Option.bind_some]
  have hf := List.length_filter_le (fun p : Int × Int => !decide (p.2 ≤ n)) c
  rw [sortedKeys_ok (fun x hx => by
    obtain ⟨p, hp, rfl⟩ := List.mem_map.1 hx
    exact hrange p (List.mem_filter.1 hp).1) (by omega)]
  have hris : Rises (c.filter fun p => !decide (p.2 ≤ n)) := hP.1.sublist List.filter_sublist
  refine ⟨_, rfl, sortI_lt hris.nodup, fun x => ?_⟩
  rw [(sortI_perm _).mem_iff]
  simp only [List.mem_map, List.mem_filter, Bool.not_eq_true', decide_eq_false_iff_not]
  constructor
  · rintro ⟨p, ⟨h1, h2⟩, rfl⟩
    have := (hP.mem p).1 h1
    omega
  · rintro ⟨h1, h2⟩
    exact ⟨(x, (cnt D x : Int)), ⟨(hP.mem _).2 ⟨h1, rfl⟩, by simp; omega⟩, rfl⟩
theorem FrequentR_m (n : Int) (D : List (List Mark)) (hD : D.length ≤ 100) (hl : ∀ l ∈ D, l.length ≤ 10000) : ∃ r, m_assessorref44_Frequent n D = some r ∧ FreqIs n D r := by
  unfold m_assessorref44_Frequent
  -- how often is one hash
  have hcount : ∀ (x2 : List Int) (j : Nat) (x : Int), x2[j]? = some x → loopM (fun s : Int × Int => m_assessorref44_Frequent_lp3 D x2 (j : Int) s.1 s.2) (0, 0) = some (cnt D x : Int) := by
    intro x2 j x hx
    refine loop_from (fun k => ((cnt (D.take k) x : Int), (k : Int))) D.length (by simp [cnt]) (fun k hk => ?_) ?_
    · obtain ⟨l, ha⟩ := get_of_lt hk
      have hmem := List.mem_of_getElem? ha
      obtain ⟨r, h1, h2⟩ := HashesR_m l (by have := hl l hmem; omega)
      have hrl := h2.len
      have := hl l hmem
      have hck := cnt_le (D.take k) x
      rw [List.length_take] at hck
      simp only [m_assessorref44_Frequent_lp3]
      rw [if_pos (by simpa using hk), idx_nat ha]
      simp only [Option.bind_some]
      rw [h1]
      simp only [Option.bind_some]
      rw [idx_nat hx]
      simp only [Option.bind_some]
      rw [Has_m _ _ (by omega)]
      simp only [Option.bind_some]
      rw [take_snoc_of ha, cnt_snoc, inK_succ (k := k) (by omega), inK_succ (by omega)]
      by_cases h : x ∈ r
      · rw [if_pos (by simpa using h), if_pos ((h2.2 x).1 h)]; rfl
      · rw [if_neg (by simpa using h), if_neg (fun h3 => h ((h2.2 x).2 h3))]; rfl
    · simp only [m_assessorref44_Frequent_lp3]
      rw [if_neg (by simp), List.take_length]
  -- the hashes of one document
  have hdoc : ∀ (x2 : List Int) (r : List Int) (m : Nat), x2.length ≤ 10000 → r.Pairwise (· < ·) → r.length ≤ m → m + x2.length ≤ 4000000 → ∃ r', loopM (fun s : Int × List Int => m_assessorref44_Frequent_lp2 n D x2 s.1 s.2) (0, r) = some r' ∧ r'.Pairwise (· < ·) ∧ r'.length ≤ m + x2.length ∧ ∀ x, x ∈ r' ↔ x ∈ r ∨ (x ∈ x2 ∧ n < cnt D x) := by
    intro x2 r m hx2 hr hrl hm
    obtain ⟨b, hb, h1, h2, h3⟩ := loopM_inv (body := fun s : Int × List Int => m_assessorref44_Frequent_lp2 n D x2 s.1 s.2) (fun s => ∃ k : Nat, s.1 = k ∧ k ≤ x2.length ∧ s.2.Pairwise (· < ·) ∧ s.2.length ≤ m + k ∧ ∀ x, x ∈ s.2 ↔ x ∈ r ∨ (x ∈ x2.take k ∧ n < cnt D x)) (fun s => x2.length - s.1.toNat) (fun b => b.Pairwise (· < ·) ∧ b.length ≤ m + x2.length ∧ ∀ x, x ∈ b ↔ x ∈ r ∨ (x ∈ x2 ∧ n < cnt D x)) (by
      rintro ⟨i, s⟩ ⟨k, rfl, hk, h1, h2, h3⟩
      simp only at h1 h2 h3
      by_cases hkl : k < x2.length
      · obtain ⟨y, hy⟩ := get_of_lt hkl
        by_cases hc : n < cnt D y
        · obtain ⟨s2, e1, e2, e3, e4⟩ := Add_m s y (by omega) h1
          refine Or.inl ⟨(((k + 1 : Nat) : Int), s2), ?_, ⟨k + 1, rfl, by omega, e2, by simp only; omega, fun x => ?_⟩, by simp; omega⟩
          · simp only [m_assessorref44_Frequent_lp2]
            rw [if_pos (by simpa using hkl), hcount x2 k y hy]
            simp only [Option.bind_some]
            rw [if_pos (by simpa using hc), idx_nat hy]
            simp only [Option.bind_some]
            rw [e1]
            simp only [Option.bind_some]
            rw [inK_succ (by omega)]
            rfl
          · simp only
            rw [e3, h3, take_snoc_of hy, List.mem_append, List.mem_singleton]
            constructor
            · rintro (rfl | h | h)
              · exact Or.inr ⟨Or.inr rfl, hc⟩
              · exact Or.inl h
              · exact Or.inr ⟨Or.inl h.1, h.2⟩
            · rintro (h | ⟨h | rfl, h'⟩)
              · exact Or.inr (Or.inl h)
              · exact Or.inr (Or.inr ⟨h, h'⟩)
              · exact Or.inl rfl
        · refine Or.inl ⟨(((k + 1 : Nat) : Int), s), ?_, ⟨k + 1, rfl, by omega, h1, by simp only; omega, fun x => ?_⟩, by simp; omega⟩
          · simp only [m_assessorref44_Frequent_lp2]
            rw [if_pos (by simpa using hkl), hcount x2 k y hy]
            simp only [Option.bind_some]
            rw [if_neg (by simpa using hc), inK_succ (by omega)]
            rfl
          · simp only
            rw [h3, take_snoc_of hy, List.mem_append, List.mem_singleton]
            constructor
            · rintro (h | h)
              · exact Or.inl h
              · exact Or.inr ⟨Or.inl h.1, h.2⟩
            · rintro (h | ⟨h | rfl, h'⟩)
              · exact Or.inl h
              · exact Or.inr ⟨h, h'⟩
              · exact absurd h' hc
      · refine Or.inr ⟨s, ?_, h1, by omega, fun x => ?_⟩
        · simp only [m_assessorref44_Frequent_lp2]
          rw [if_neg (by simpa using hkl)]
        · rw [h3, List.take_of_length_le (by omega)]) (0, r) ⟨0, rfl, by omega, hr, by simpa using hrl, by simp⟩
    exact ⟨b, hb, h1, h2, h3⟩
  obtain ⟨b, hb, h1, h2, h3⟩ := loopM_inv (body := fun s : Int × List Int => m_assessorref44_Frequent_lp1 n D s.1 s.2) (fun s => ∃ k : Nat, s.1 = k ∧ k ≤ D.length ∧ s.2.Pairwise (· < ·) ∧ s.2.length ≤ k * 10000 ∧ ∀ x, x ∈ s.2 ↔ 0 < cnt (D.take k) x ∧ n < cnt D x) (fun s => D.length - s.1.toNat) (fun b => b.Pairwise (· < ·) ∧ b.length ≤ D.length * 10000 ∧ ∀ x, x ∈ b ↔ 0 < cnt D x ∧ n < cnt D x) (by
    rintro ⟨i, s⟩ ⟨k, rfl, hk, h1, h2, h3⟩
    simp only at h1 h2 h3
    by_cases hkl : k < D.length
    · obtain ⟨l, ha⟩ := get_of_lt hkl
      have hmem := List.mem_of_getElem? ha
      obtain ⟨r, e1, e2⟩ := HashesR_m l (by have := hl l hmem; omega)
      have hrl := e2.len
      have hll := hl l hmem
      obtain ⟨s2, f1, f2, f3, f4⟩ := hdoc r s (k * 10000) (by omega) h1 h2 (by omega)
      refine Or.inl ⟨(((k + 1 : Nat) : Int), s2), ?_, ⟨k + 1, rfl, by omega, f2, by simp only; omega, fun x => ?_⟩, by simp; omega⟩
      · simp only [m_assessorref44_Frequent_lp1]
        rw [if_pos (by simpa using hkl), idx_nat ha]
        simp only [Option.bind_some]
        rw [e1]
        simp only [Option.bind_some]
        rw [f1]
        simp only [Option.bind_some]
        rw [inK_succ (by omega)]
        rfl
      · simp only
        rw [f4, h3, take_snoc_of ha, cnt_snoc, e2.2]
        by_cases hx : x ∈ l.map Mark.hash
        · rw [if_pos hx]
          constructor
          · rintro (h | h)
            · exact ⟨by omega, h.2⟩
            · exact ⟨by omega, h.2⟩
          · rintro ⟨_, h⟩
            exact Or.inr ⟨hx, h⟩
        · rw [if_neg hx]
          constructor
          · rintro (h | h)
            · exact ⟨by omega, h.2⟩
            · exact absurd h.1 hx
          · rintro ⟨h, h'⟩
            exact Or.inl ⟨by omega, h'⟩
    · refine Or.inr ⟨s, ?_, h1, by have : k = D.length := by omega
                                   subst this; exact h2, fun x => ?_⟩
      · simp only [m_assessorref44_Frequent_lp1]
        rw [if_neg (by simpa using hkl)]
      · rw [h3, List.take_of_length_le (by omega)]) (0, []) ⟨0, rfl, by omega, by simp, by simp, fun x => by simp [cnt]⟩
  rw [hb]
  exact ⟨b, rfl, h1, h3⟩
end Go.Proofs.Ytmfepkadggigpaa
