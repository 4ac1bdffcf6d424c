/-
  Hashes of documents, and what two of them share; both models compute it. No program is named.
-/
import Derived.Test.YtmfepkadggigpaaWM
import Derived.Test.YtmfepkadggigpaaPur4
set_option linter.unusedVariables false
set_option linter.unusedSimpArgs false
namespace Go.Proofs.Ytmfepkadggigpaa
open Go.RowKit
/-- A number goes into a list that rises. -/
theorem Add_m (l : List Int) (x : Int) (hl : l.length ≤ 4000000) (hr : l.Pairwise (· < ·)) : ∃ r, m_assessorref43_Add l x = some r ∧ r.Pairwise (· < ·) ∧ (∀ y, y ∈ r ↔ y = x ∨ y ∈ l) ∧ r.length ≤ l.length + 1 := by
  unfold m_assessorref43_Add
  have hbody : ∀ (k : Nat) a, l[k]? = some a → m_assessorref43_Add_lp1 l x k = some (if decide (x ≤ a) = true then .done (k : Int) else .next ((k + 1 : Nat) : Int)) := by
    intro k a ha
    have hk := (List.getElem?_eq_some_iff.1 ha).1
    simp only [m_assessorref43_Add_lp1]
    rw [if_pos (by simpa using hk), idx_nat ha]
    simp only [Option.bind_some]
    rw [inK_succ (by omega)]
    by_cases h : a < x
    · have h2 : ¬ x ≤ a := by omega
      simp [h, h2]
    · have h2 : x ≤ a := by omega
      simp [h, h2]
  have hend : m_assessorref43_Add_lp1 l x (l.length : Int) = some (.done (l.length : Int)) := by
    simp only [m_assessorref43_Add_lp1]
    rw [if_neg (by simp)]; rfl
  -- the place
  have hplace : ∃ k : Nat, k ≤ l.length ∧ loopM (fun s => m_assessorref43_Add_lp1 l x s) 0 = some (k : Int) ∧ (∀ j b, j < k → l[j]? = some b → b < x) ∧ (∀ b, l[k]? = some b → x ≤ b) := by
    rcases scan_loop (body := fun s => m_assessorref43_Add_lp1 l x s) l (fun a => decide (x ≤ a)) (fun k _ => (k : Int)) (l.length : Int) hbody hend with ⟨k, a, h1, h2, h3, _, _, h4⟩ | ⟨h1, _, _, h4⟩
    · exact ⟨k, Nat.le_of_lt (List.getElem?_eq_some_iff.1 h1).1, h4, fun j b hj hb => by have := h3 j b hj hb; simp at this; omega, fun b hb => by rw [h1] at hb; obtain rfl := Option.some.inj hb; simpa using h2⟩
    · exact ⟨l.length, Nat.le_refl _, h4, fun j b hj hb => by have := h1 b (List.mem_of_getElem? hb); simp at this; omega, fun b hb => by rw [List.getElem?_eq_none (Nat.le_refl _)] at hb; cases hb⟩
  obtain ⟨k, hk, hloop, hlo, hhi⟩ := hplace
  rw [hloop]
  simp only [Option.bind_some]
  have hsplit : l = l.take k ++ l.drop k := (List.take_append_drop k l).symm
  have htake : ∀ y ∈ l.take k, y < x := by
    intro y hy
    obtain ⟨j, hj⟩ := List.getElem?_of_mem hy
    rw [List.getElem?_take] at hj
    split at hj
    · exact hlo j y (by assumption) hj
    · cases hj
  by_cases hh : ∃ b, l[k]? = some b ∧ b = x
  · obtain ⟨b, hb, rfl⟩ := hh
    have hkl := (List.getElem?_eq_some_iff.1 hb).1
    rw [if_pos (by simpa using hkl), idx_nat hb]
    simp only [Option.bind_some, decide_true, if_true]
    exact ⟨l, rfl, hr, fun y => ⟨Or.inr, fun h => h.elim (fun e => e ▸ List.mem_of_getElem? hb) id⟩, by omega⟩
  · have hcond : ((if (decide ((k : Int) < (l.length : Int))) = true then (idx l (k : Int)).bind fun x3 => some (decide (x3 = x)) else some false) : Option Bool) = some false := by
      by_cases hkl : k < l.length
      · obtain ⟨b, hb⟩ := get_of_lt hkl
        rw [if_pos (by simpa using hkl), idx_nat hb]
        have : b ≠ x := fun e => hh ⟨b, hb, e⟩
        simp [this]
      · rw [if_neg (by simpa using hkl)]
    rw [hcond]
    simp only [Option.bind_some, Bool.false_eq_true, if_false]
    have hgt : ∀ y ∈ l.drop k, x < y := by
      intro y hy
      cases hd : l[k]? with
      | none => rw [List.drop_eq_nil_of_le (List.getElem?_eq_none_iff.1 hd)] at hy; simp at hy
      | some b =>
        have hxb : x < b := by
          have h1 := hhi b hd
          have h2 : b ≠ x := fun e => hh ⟨b, hd, e⟩
          omega
        rw [drop_cons_of hd] at hy
        rcases List.mem_cons.1 hy with rfl | hy
        · exact hxb
        · have hr2 := hr
          rw [hsplit, drop_cons_of hd] at hr2
          have := (List.pairwise_cons.1 (List.pairwise_append.1 hr2).2.1).1 y hy
          omega
    rw [sub_ok (by omega) (by omega) (by omega)]
    simp only [Option.bind_some, Int.toNat_natCast, Int.toNat_zero, List.drop_zero]
    rw [app_ok (by simp <;> omega)]
    simp only [Option.bind_some, List.nil_append]
    rw [app_ok (by simp <;> omega)]
    simp only [Option.bind_some]
    rw [sub_ok (by omega) (by omega) (by omega)]
    simp only [Option.bind_some, Int.toNat_natCast, List.take_length]
    rw [app_ok (by simp <;> omega)]
    refine ⟨_, rfl, ?_, fun y => ?_, by simp <;> omega⟩
    · have h1 := hr
      rw [hsplit, List.pairwise_append] at h1
      simp only [List.append_assoc, List.pairwise_append, List.singleton_append, List.pairwise_cons, List.mem_cons]
      refine ⟨h1.1, ⟨hgt, h1.2.1⟩, fun a ha b hb => ?_⟩
      rcases hb with rfl | hb
      · exact htake a ha
      · exact h1.2.2 a ha b hb
    · simp only [List.append_assoc, List.mem_append, List.singleton_append, List.mem_cons]
      have : y ∈ l ↔ y ∈ l.take k ∨ y ∈ l.drop k := by rw [← List.mem_append, List.take_append_drop]
      rw [this]
      constructor
      · rintro (h | h | h)
        · exact Or.inr (Or.inl h)
        · exact Or.inl h
        · exact Or.inr (Or.inr h)
      · rintro (h | h | h)
        · exact Or.inr (Or.inl h)
        · exact Or.inl h
        · exact Or.inr (Or.inr h)
theorem SameI_m (a b : List Int) (ha : a.length ≤ 4611686018427387904) : m_assessorref35_Same a b = some (decide (a = b)) := by
  unfold m_assessorref35_Same
  by_cases hl : a.length = b.length
  · rw [if_neg (by simp <;> omega)]
    refine bind_same (a := a) (b := b) hl (.ret false) (.brk ()) (fun k x y hx hy => ?_) ?_ (by by_cases h : a = b <;> simp [h])
    · have hk := (List.getElem?_eq_some_iff.1 hx).1
      simp only [m_assessorref35_Same_lp1]
      rw [if_pos (by simpa using hk), idx_nat hx, idx_nat hy]
      simp only [Option.bind_some]
      rw [inK_succ (by omega)]
      by_cases h : x = y <;> simp [h]
    · simp only [m_assessorref35_Same_lp1]
      rw [if_neg (by simp)]
  · rw [if_pos (by simp <;> omega)]
    have : a ≠ b := fun e => hl (by rw [e])
    simp [this]
theorem SameM_m (a b : List Mark) (ha : a.length ≤ 4611686018427387904) : m_assessorref43_Same a b = some (decide (a = b)) := by
  unfold m_assessorref43_Same
  by_cases hl : a.length = b.length
  · rw [if_neg (by simp <;> omega)]
    refine bind_same (a := a) (b := b) hl (.ret false) (.brk ()) (fun k x y hx hy => ?_) ?_ (by by_cases h : a = b <;> simp [h])
    · have hk := (List.getElem?_eq_some_iff.1 hx).1
      simp only [m_assessorref43_Same_lp1]
      rw [if_pos (by simpa using hk), idx_nat hx, idx_nat hy]
      simp only [Option.bind_some]
      rw [inK_succ (by omega)]
      obtain ⟨x1, x2⟩ := x
      obtain ⟨y1, y2⟩ := y
      by_cases h : x1 = y1 <;> by_cases h2 : x2 = y2 <;> simp [h, h2]
    · simp only [m_assessorref43_Same_lp1]
      rw [if_neg (by simp)]
  · rw [if_pos (by simp <;> omega)]
    have : a ≠ b := fun e => hl (by rw [e])
    simp [this]

/-- The hashes of some marks: they rise, and are those of the marks. -/
def HsIs (l : List Mark) (r : List Int) : Prop := r.Pairwise (· < ·) ∧ ∀ x, x ∈ r ↔ x ∈ l.map Mark.hash
theorem HsIs.one {l : List Mark} {r s : List Int} (hr : HsIs l r) (hs : HsIs l s) : r = s := rising_int hr.1 hs.1 fun x => (hr.2 x).trans (hs.2 x).symm
theorem rising_nodup {l : List Int} (h : l.Pairwise (· < ·)) : l.Nodup := h.imp fun h e => by omega
theorem nodup_sub_len {l m : List Int} (h : l.Nodup) (hs : ∀ x ∈ l, x ∈ m) : l.length ≤ m.length := by
  induction l generalizing m with
  | nil => simp
  | cons a l ih =>
    obtain ⟨h1, h2⟩ := List.nodup_cons.1 h
    have ha := hs a (by simp)
    have := ih (m := m.erase a) h2 fun x hx => (List.mem_erase_of_ne (fun e => h1 (by rw [← e]; exact hx))).2 (hs x (by simp [hx]))
    rw [List.length_erase_of_mem ha] at this
    have := List.length_pos_of_mem ha
    simp only [List.length_cons]
    omega
theorem HsIs.len {l : List Mark} {r : List Int} (h : HsIs l r) : r.length ≤ l.length := by
  have := nodup_sub_len (rising_nodup h.1) (m := l.map Mark.hash) fun x hx => (h.2 x).1 hx
  simpa using this
/-- The set of a document's hashes, as a map: its keys differ, every value is true. -/
def SetIs (l : List Mark) (m : List (Int × Bool)) : Prop := (m.map (·.1)).Nodup ∧ (∀ x, x ∈ m.map (·.1) ↔ x ∈ l.map Mark.hash) ∧ ∀ p ∈ m, p.2 = true
theorem SetIs.len {l : List Mark} {m : List (Int × Bool)} (h : SetIs l m) : m.length ≤ l.length := by
  have := nodup_sub_len h.1 (m := l.map Mark.hash) fun x hx => (h.2.1 x).1 hx
  simpa using this
theorem SetIs.get {l : List Mark} {m : List (Int × Bool)} (h : SetIs l m) (x : Int) : (mget m x).getD false = decide (x ∈ l.map Mark.hash) := by
  by_cases hx : x ∈ m.map (·.1)
  · obtain ⟨p, hp, rfl⟩ := List.mem_map.1 hx
    rw [mget_mem (v := p.2) h.1 hp, decide_eq_true ((h.2.1 _).1 hx)]
    exact h.2.2 p hp
  · rw [mget_none hx, decide_eq_false (fun h2 => hx ((h.2.1 _).2 h2))]; rfl
theorem mput_mem2 {κ β : Type} [DecidableEq κ] {l : List (κ × β)} {k : κ} {v : β} {p : κ × β} (h : p ∈ mput l k v) : p = (k, v) ∨ p ∈ l := by
  induction l with
  | nil => simp [mput] at h; exact Or.inl h
  | cons q l ih =>
    unfold mput at h
    split at h
    · rcases List.mem_cons.1 h with rfl | h
      · exact Or.inl rfl
      · exact Or.inr (List.mem_cons_of_mem _ h)
    · rcases List.mem_cons.1 h with rfl | h
      · exact Or.inr (List.mem_cons_self ..)
      · rcases ih h with h | h
        · exact Or.inl h
        · exact Or.inr (List.mem_cons_of_mem _ h)
theorem set_m (l : List Mark) (hl : l.length ≤ 4000000) : ∃ m, m_similarity_set l = some m ∧ SetIs l m := by
  unfold m_similarity_set
  let S : Nat → List (Int × Bool) := fun k => (l.take k).foldl (fun m a => mput m a.hash true) []
  have hS : ∀ k, k ≤ l.length → SetIs (l.take k) (S k) := by
    intro k
    induction k with
    | zero => intro _; exact ⟨by simp [S], by simp [S], by simp [S]⟩
    | succ k ih =>
      intro hk
      obtain ⟨a, ha⟩ := get_of_lt (show k < l.length by omega)
      obtain ⟨h1, h2, h3⟩ := ih (by omega)
      have e : S (k + 1) = mput (S k) a.hash true := foldl_take _ _ ha
      rw [e, take_snoc_of ha]
      refine ⟨mput_nodup h1 _ _, fun x => ?_, fun p hp => ?_⟩
      · rw [mput_mem, h2]; simp [or_comm]
      · rcases mput_mem2 hp with rfl | hp
        · rfl
        · exact h3 p hp
  refine ⟨S l.length, ?_, by have := hS l.length (Nat.le_refl _); rwa [List.take_length] at this⟩
  refine bind_loop (fun k => ((k : Int), S k)) l.length (S l.length) rfl (fun k hk => ?_) ?_ rfl
  · obtain ⟨a, ha⟩ := get_of_lt hk
    simp only [m_similarity_set_lp1]
    rw [if_pos (by simpa using hk), idx_nat ha]
    simp only [Option.bind_some]
    rw [inK_succ (by omega)]
    simp only [Option.bind_some]
    rw [← foldl_take (fun m a => mput m a.hash true) [] ha]
  · simp only [m_similarity_set_lp1]
    rw [if_neg (by simp)]
theorem sortI_perm (l : List Int) : (l.mergeSort fun x y => decide (x ≤ y)).Perm l := List.mergeSort_perm _ _
theorem sortI_le (l : List Int) : (l.mergeSort fun x y => decide (x ≤ y)).Pairwise (· ≤ ·) := by
  have := List.pairwise_mergeSort (le := fun x y : Int => decide (x ≤ y)) (by intros; simp at *; omega) (by intros; simp; omega) l
  exact this.imp fun h => by simpa using h
theorem sortI_lt {l : List Int} (h : l.Nodup) : (l.mergeSort fun x y => decide (x ≤ y)).Pairwise (· < ·) := by
  have h1 := sortI_le l
  have h2 : (l.mergeSort fun x y => decide (x ≤ y)).Nodup := (sortI_perm l).nodup_iff.2 h
  exact h1.imp₂ (fun a b h1 h2 => by omega) h2
theorem sortedKeys_ok {β : Type} {m : List (Int × β)} (hr : ∀ x ∈ m.map (·.1), -9223372036854775808 ≤ x ∧ x ≤ 9223372036854775807) (hl : m.length ≤ 4000000) : m_sortedKeys m = some ((m.map (·.1)).mergeSort fun x y => decide (x ≤ y)) := by
  unfold m_sortedKeys
  rw [if_pos ⟨by rw [List.all_eq_true]; intro p hp; simpa using hr p.1 (List.mem_map_of_mem hp), by omega⟩]
/-- Marks whose numbers are integers of the machine. -/
def MkOk (l : List Mark) : Prop := ∀ x ∈ l.map Mark.hash, -9223372036854775808 ≤ x ∧ x ≤ 9223372036854775807
theorem Hashes_m (l : List Mark) (hl : l.length ≤ 4000000) (ho : MkOk l) : ∃ r, m_similarity_Hashes l = some r ∧ HsIs l r := by
  unfold m_similarity_Hashes
  obtain ⟨m, h1, h2⟩ := set_m l hl
  rw [h1]
  simp only [Option.bind_some]
  have hm := h2.len
  rw [sortedKeys_ok (fun x hx => ho x ((h2.2.1 x).1 hx)) (by omega)]
  refine ⟨_, rfl, sortI_lt h2.1, fun x => ?_⟩
  rw [(sortI_perm _).mem_iff]; exact h2.2.1 x
theorem HashesR_m (l : List Mark) (hl : l.length ≤ 2000000) : ∃ r, m_assessorref44_Hashes l = some r ∧ HsIs l r := by
  unfold m_assessorref44_Hashes
  obtain ⟨b, hb, hP⟩ := loopM_inv (body := fun s : Int × List Int => m_assessorref44_Hashes_lp1 l s.1 s.2) (fun s => ∃ k : Nat, s.1 = k ∧ k ≤ l.length ∧ HsIs (l.take k) s.2) (fun s => l.length - s.1.toNat) (fun b => HsIs l b) (by
    rintro ⟨i, r⟩ ⟨k, rfl, hk, hI⟩
    simp only at hI
    by_cases hkl : k < l.length
    · obtain ⟨a, ha⟩ := get_of_lt hkl
      obtain ⟨r2, e1, e2, e3, e4⟩ := Add_m r a.hash (by have := hI.len; rw [List.length_take] at this; omega) hI.1
      refine Or.inl ⟨(((k + 1 : Nat) : Int), r2), ?_, ⟨k + 1, rfl, by omega, e2, fun x => ?_⟩, by simp; omega⟩
      · simp only [m_assessorref44_Hashes_lp1]
        rw [if_pos (by simpa using hkl), idx_nat ha]
        simp only [Option.bind_some]
        rw [e1]
        simp only [Option.bind_some]
        rw [inK_succ (by omega)]
        rfl
      · rw [e3, hI.2, take_snoc_of ha]; simp [or_comm]
    · refine Or.inr ⟨r, ?_, ?_⟩
      · simp only [m_assessorref44_Hashes_lp1]
        rw [if_neg (by simpa using hkl)]
      · have : k = l.length := by omega
        subst this
        rwa [List.take_length] at hI) (0, []) ⟨0, rfl, by omega, by simp, by simp⟩
  rw [hb]
  exact ⟨b, rfl, hP⟩
theorem Has_m (l : List Int) (x : Int) (hl : l.length ≤ 4294967296) : m_assessorref44_Has l x = some (decide (x ∈ l)) := by
  unfold m_assessorref44_Has
  refine bind_any l (fun m => decide (m = x)) (.ret true) (.brk ()) (fun k a ha => ?_) ?_ ?_
  · have hk := (List.getElem?_eq_some_iff.1 ha).1
    simp only [m_assessorref44_Has_lp1]
    rw [if_pos (by simpa using hk), idx_nat ha]
    simp only [Option.bind_some]
    rw [inK_succ (by omega)]
    by_cases h : a = x <;> simp [h]
  · simp only [m_assessorref44_Has_lp1]
    rw [if_neg (by simp)]
  · have e : l.any (fun m => decide (m = x)) = decide (x ∈ l) := by
      rw [Bool.eq_iff_iff]; simp [List.any_eq_true]
    rw [e]
    by_cases h : x ∈ l
    · rw [decide_eq_true h]; rfl
    · rw [decide_eq_false h]; rfl
/-- How many hashes are in both, and how many in one of them. -/
def CmpIs (a b : List Mark) (r : Int × Int) : Prop := ∀ x y, HsIs a x → HsIs b y → r.1 = ((x.filter fun h => decide (h ∈ y)).length : Int) ∧ r.2 = x.length + y.length - ((x.filter fun h => decide (h ∈ y)).length : Int)
theorem SetIs.cnt {a b : List Mark} {m : List (Int × Bool)} {x y : List Int} (h : SetIs a m) (hx : HsIs a x) (hy : HsIs b y) : (m.filter fun p => decide (p.1 ∈ b.map Mark.hash)).length = (x.filter fun h => decide (h ∈ y)).length := by
  have h1 : (m.map (·.1)).Perm x := (List.perm_ext_iff_of_nodup h.1 (rising_nodup hx.1)).2 fun z => (h.2.1 z).trans (hx.2 z).symm
  have h2 := (h1.filter fun h => decide (h ∈ y)).length_eq
  rw [← h2, List.filter_map, List.length_map]
  congr 2
  funext p
  simp only [Function.comp_apply, hy.2]
theorem SetIs.rising {a : List Mark} {m : List (Int × Bool)} {x : List Int} (h : SetIs a m) (hx : HsIs a x) : m.length = x.length := by
  have h1 : (m.map (·.1)).Perm x := (List.perm_ext_iff_of_nodup h.1 (rising_nodup hx.1)).2 fun z => (h.2.1 z).trans (hx.2 z).symm
  simpa using h1.length_eq
theorem Compare_m (a b : List Mark) (ha : a.length ≤ 4000000) (hb : b.length ≤ 4000000) : ∃ r, m_similarity_Compare a b = some r ∧ CmpIs a b r := by
  unfold m_similarity_Compare
  obtain ⟨m, h1, h2⟩ := set_m a ha
  obtain ⟨n, h3, h4⟩ := set_m b hb
  rw [h1, h3]
  simp only [Option.bind_some]
  have hm := h2.len
  have hn := h4.len
  have hfl := List.length_filter_le (fun p : Int × Bool => decide (p.1 ∈ b.map Mark.hash)) m
  rw [permM_eq (r := ((m.filter fun p => decide (p.1 ∈ b.map Mark.hash)).length : Int)) (fun d s => s = ((d.filter fun p => decide (p.1 ∈ b.map Mark.hash)).length : Int)) rfl (fun d e s hd hI => ?_) (fun p s hp hI => ?_)]
  · simp only [Option.bind_some]
    rw [inK_eq (by omega)]
    simp only [Option.bind_some]
    rw [inK_eq (by omega)]
    refine ⟨_, rfl, fun x y hx hy => ?_⟩
    have e1 := h2.cnt hx hy
    have e2 := h2.rising hx
    have e3 := h4.rising hy
    refine ⟨by rw [e1], ?_⟩
    show (m.length : Int) + n.length - _ = _
    rw [e1, e2, e3]
  · obtain ⟨t, ht⟩ := hd
    have hdl := ht.length_eq
    simp only [List.length_append, List.length_cons] at hdl
    have hdf := List.length_filter_le (fun p : Int × Bool => decide (p.1 ∈ b.map Mark.hash)) d
    simp only [m_similarity_Compare_lp1, h4.get]
    subst hI
    by_cases h : e.1 ∈ b.map Mark.hash
    · refine ⟨_, by rw [if_pos (by simpa using h), inK_succ (by omega)]; rfl, ?_⟩
      rw [List.filter_append, List.filter_cons_of_pos (by exact decide_eq_true h), List.length_append]; rfl
    · refine ⟨_, by rw [if_neg (by simpa using h)], ?_⟩
      rw [List.filter_append, List.filter_cons_of_neg (by simpa using h), List.length_append]; rfl
  · rw [hI, (hp.filter _).length_eq]
theorem CompareR_m (a b : List Mark) (ha : a.length ≤ 2000000) (hb : b.length ≤ 2000000) : ∃ r, m_assessorref44_Compare a b = some r ∧ CmpIs a b r := by
  unfold m_assessorref44_Compare
  obtain ⟨m, h1, h2⟩ := HashesR_m a ha
  obtain ⟨n, h3, h4⟩ := HashesR_m b hb
  rw [h1, h3]
  simp only [Option.bind_some]
  have hm := h2.len
  have hn := h4.len
  have hfl := List.length_filter_le (fun h => decide (h ∈ n)) m
  refine ⟨(((m.filter fun h => decide (h ∈ n)).length : Int), m.length + n.length - ((m.filter fun h => decide (h ∈ n)).length : Int)), ?_, fun x y hx hy => ?_⟩
  · refine bind_loop (fun k => ((((m.take k).filter fun h => decide (h ∈ n)).length : Int), (k : Int))) m.length ((m.filter fun h => decide (h ∈ n)).length : Int) (by simp) (fun k hk => ?_) ?_ ?_
    · obtain ⟨c, hc⟩ := get_of_lt hk
      have hfk := List.length_filter_le (fun h => decide (h ∈ n)) (m.take k)
      rw [List.length_take] at hfk
      simp only [m_assessorref44_Compare_lp1]
      rw [if_pos (by simpa using hk), idx_nat hc]
      simp only [Option.bind_some]
      rw [Has_m n c (by omega)]
      simp only [Option.bind_some]
      rw [take_snoc_of hc, List.filter_append, inK_succ (k := k) (by omega)]
      by_cases h : c ∈ n
      · rw [if_pos (by simpa using h), inK_succ (by omega)]
        simp [h]
      · rw [if_neg (by simpa using h)]
        simp [h]
    · simp only [m_assessorref44_Compare_lp1]
      rw [if_neg (by simp), List.take_length]
    · rw [inK_eq (by omega)]
      simp only [Option.bind_some]
      rw [inK_eq (by omega)]
      rfl
  · rw [hx.one h2, hy.one h4]
    exact ⟨rfl, rfl⟩
theorem CmpIs.one {a b : List Mark} {r s : Int × Int} (ha : a.length ≤ 2000000) (hb : b.length ≤ 2000000) (hr : CmpIs a b r) (hs : CmpIs a b s) : r = s := by
  obtain ⟨m, _, h2⟩ := HashesR_m a ha
  obtain ⟨n, _, h4⟩ := HashesR_m b hb
  obtain ⟨e1, e2⟩ := hr m n h2 h4
  obtain ⟨e3, e4⟩ := hs m n h2 h4
  exact Prod.ext (e1.trans e3.symm) (e2.trans e4.symm)
end Go.Proofs.Ytmfepkadggigpaa
