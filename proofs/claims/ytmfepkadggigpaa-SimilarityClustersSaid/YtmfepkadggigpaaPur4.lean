/-
  Words for plain laws: loops that count, partial steps that do not fail, sorted lists. No program is named.
-/
import Derived.Test.YtmfepkadggigpaaMapU
import Derived.Test.YtmfepkadggigpaaRow
set_option linter.unusedVariables false
set_option linter.unusedSimpArgs false
namespace Go.Proofs.Ytmfepkadggigpaa
open Go.RowKit

/-! ### Loops -/
/-- A loop whose states are known: those of the first n rounds go on, the next is over. -/
theorem loop_at {σ β : Type} {body : σ → Option (Step σ β)} {b : β} (S : Nat → σ) : ∀ (n : Nat), (∀ k, k < n → body (S k) = some (.next (S (k + 1)))) → body (S n) = some (.done b) → loopM body (S 0) = some b
  | 0, _, h => loopM_done h
  | n + 1, h1, h2 => by
    rw [loopM_next (h1 0 (by omega))]
    exact loop_at (fun k => S (k + 1)) n (fun k hk => h1 (k + 1) (by omega)) h2
/-- .. from a state that is said in other words. -/
theorem loop_from {σ β : Type} {body : σ → Option (Step σ β)} {b : β} {s : σ} (S : Nat → σ) (n : Nat) (h0 : s = S 0) (h1 : ∀ k, k < n → body (S k) = some (.next (S (k + 1)))) (h2 : body (S n) = some (.done b)) : loopM body s = some b := by
  rw [h0]; exact loop_at S n h1 h2
theorem bind_loop {σ β γ : Type} {body : σ → Option (Step σ β)} {s : σ} {f : β → Option γ} {r : Option γ} (S : Nat → σ) (n : Nat) (b : β) (h0 : s = S 0) (h1 : ∀ k, k < n → body (S k) = some (.next (S (k + 1)))) (h2 : body (S n) = some (.done b)) (hf : f b = r) : (loopM body s).bind f = r := by
  rw [loop_from S n h0 h1 h2]; exact hf
theorem iterM_det {σ β : Type} {body : σ → Option (Step σ β)} {s : σ} {b c : β} (h : loopM body s = some b) (k : loopM body s = some c) : b = c := Option.some.inj (h.symm.trans k)

/-! ### Partial steps that do not fail -/
theorem inK_eq {n : Int} (h : -9223372036854775808 ≤ n ∧ n ≤ 9223372036854775807) : inK .i64 n = some n := inK_ok n h.1 h.2
theorem inK_succ {k : Nat} (h : k ≤ 4611686018427387904) : inK .i64 ((k : Int) + 1) = some ((k + 1 : Nat) : Int) := by
  rw [inK_ok _ (by omega) (by omega)]; rfl
theorem idx_nat {α : Type} {l : List α} {k : Nat} {a : α} (h : l[k]? = some a) : idx l (k : Int) = some a := by
  unfold idx; rw [if_pos (by omega)]; simpa using h
theorem idx_of {α : Type} {l : List α} {i : Int} {a : α} (h0 : 0 ≤ i) (h : l[i.toNat]? = some a) : idx l i = some a := by
  unfold idx; rw [if_pos h0, h]
theorem get_of_lt {α : Type} {l : List α} {k : Nat} (h : k < l.length) : ∃ a, l[k]? = some a := ⟨_, List.getElem?_eq_getElem h⟩
theorem app_ok {α : Type} {l m : List α} (h : l.length + m.length ≤ 4294967296) : app l m = some (l ++ m) := by unfold app; rw [if_pos h]
theorem sub_ok {α : Type} {l : List α} {i j : Int} (h0 : 0 ≤ i) (h1 : i ≤ j) (h2 : j ≤ l.length) : sub l i j = some ((l.take j.toNat).drop i.toNat) := by unfold sub; rw [if_pos ⟨h0, h1, h2⟩]
theorem remK_pos {m n : Int} (hm : 0 ≤ m) (hn : 0 < n) : remK m n = some (m % n) := by
  unfold remK
  rw [if_pos (by omega), Int.tmod_eq_emod_of_nonneg hm]
theorem quoK_pos {m n : Int} (hm : 0 ≤ m) (hn : 0 < n) (h : m ≤ 9223372036854775807) : quoK .i64 m n = some (m / n) := by
  unfold quoK
  have h1 : m.tdiv n = m / n := Int.tdiv_eq_ediv_of_nonneg hm
  have h2 : 0 ≤ m / n := Int.ediv_nonneg hm (by omega)
  have h3 : m / n ≤ m := Int.ediv_le_self n hm
  rw [h1, if_pos ⟨by omega, by rw [IntKind.wrap_i64]; omega⟩]
theorem mkc_ok {α : Type} {n c : Int} {z : α} (h : 0 ≤ n ∧ n ≤ c ∧ c ≤ 4294967296) : mkc n c z = some (List.replicate n.toNat z) := by unfold mkc; rw [if_pos h]
theorem catK_ok {a b : ByteArray} (h : a.size + b.size ≤ 4294967296) : catK a b = some (a ++ b) := by unfold catK; rw [if_pos h]
theorem I64.r {n : Int} (h : (Lit.int .i64 n).wf = true) : -9223372036854775808 ≤ n ∧ n ≤ 9223372036854775807 := by
  simp [Lit.wf, IntKind.min, IntKind.max, IntKind.signed, IntKind.bits] at h
  exact ⟨by omega, by omega⟩
theorem U8.r {n : Int} (h : (Lit.int .u8 n).wf = true) : 0 ≤ n ∧ n ≤ 255 := by
  simp [Lit.wf, IntKind.min, IntKind.max, IntKind.signed, IntKind.bits] at h
  omega

/-! ### Loops that look for an element -/
theorem first_or {α : Type} (p : α → Bool) : ∀ (l : List α), (∃ k a, l[k]? = some a ∧ p a = true ∧ (∀ j b, j < k → l[j]? = some b → p b = false) ∧ l.any p = true ∧ l.findIdx p = k) ∨ ((∀ a ∈ l, p a = false) ∧ l.any p = false ∧ l.findIdx p = l.length)
  | [] => Or.inr ⟨by simp, rfl, rfl⟩
  | x :: l => by
    cases hx : p x with
    | true => exact Or.inl ⟨0, x, rfl, hx, fun j b hj => by omega, by simp [hx], by simp [List.findIdx_cons, hx]⟩
    | false =>
      rcases first_or p l with ⟨k, a, h1, h2, h3, h4, h5⟩ | ⟨h1, h2, h3⟩
      · refine Or.inl ⟨k + 1, a, by simpa using h1, h2, fun j b hj hb => ?_, by simp [hx, h4], by simp [List.findIdx_cons, hx, h5]⟩
        cases j with
        | zero => simp at hb; subst hb; exact hx
        | succ j => exact h3 j b (by omega) (by simpa using hb)
      · refine Or.inr ⟨fun a ha => ?_, by simp [hx, h2], by simp [List.findIdx_cons, hx, h3]⟩
        rcases List.mem_cons.1 ha with rfl | ha
        · exact hx
        · exact h1 a ha
/-- A loop that ends at the first element that is such. -/
theorem scan_loop {α β : Type} {body : Int → Option (Step Int β)} (l : List α) (p : α → Bool) (hit : Nat → α → β) (miss : β)
    (h1 : ∀ (k : Nat) a, l[k]? = some a → body k = some (if p a = true then .done (hit k a) else .next ((k + 1 : Nat) : Int))) (h2 : body (l.length : Int) = some (.done miss)) :
    (∃ k a, l[k]? = some a ∧ p a = true ∧ (∀ j b, j < k → l[j]? = some b → p b = false) ∧ l.any p = true ∧ l.findIdx p = k ∧ loopM body 0 = some (hit k a)) ∨ ((∀ a ∈ l, p a = false) ∧ l.any p = false ∧ l.findIdx p = l.length ∧ loopM body 0 = some miss) := by
  rcases first_or p l with ⟨k, a, a1, a2, a3, a4, a5⟩ | ⟨a1, a2, a3⟩
  · refine Or.inl ⟨k, a, a1, a2, a3, a4, a5, loop_from (fun j => (j : Int)) k rfl (fun j hj => ?_) ?_⟩
    · obtain ⟨b, hb⟩ := get_of_lt (show j < l.length by have := (List.getElem?_eq_some_iff.1 a1).1; omega)
      rw [h1 j b hb, a3 j b hj hb]; rfl
    · rw [h1 k a a1, a2]; rfl
  · refine Or.inr ⟨a1, a2, a3, loop_from (fun j => (j : Int)) l.length rfl (fun j hj => ?_) h2⟩
    obtain ⟨b, hb⟩ := get_of_lt hj
    rw [h1 j b hb, a1 b (List.mem_of_getElem? hb)]; rfl
theorem any_loop {α β : Type} {body : Int → Option (Step Int β)} (l : List α) (p : α → Bool) (hit miss : β)
    (h1 : ∀ (k : Nat) a, l[k]? = some a → body k = some (if p a = true then .done hit else .next ((k + 1 : Nat) : Int))) (h2 : body (l.length : Int) = some (.done miss)) : loopM body 0 = some (if l.any p = true then hit else miss) := by
  rcases scan_loop l p (fun _ _ => hit) miss h1 h2 with ⟨k, a, _, _, _, h, _, e⟩ | ⟨_, h, _, e⟩
  · rw [e, h]; rfl
  · rw [e, h]; rfl
/-- Two lists of one length, compared place by place. -/
theorem same_loop {α β : Type} [DecidableEq α] {body : Int → Option (Step Int β)} {a b : List α} (hl : a.length = b.length) (hit miss : β)
    (h1 : ∀ (k : Nat) x y, a[k]? = some x → b[k]? = some y → body k = some (if x = y then .next ((k + 1 : Nat) : Int) else .done hit)) (h2 : body (a.length : Int) = some (.done miss)) : loopM body 0 = some (if a = b then miss else hit) := by
  have hzl : (a.zip b).length = a.length := by rw [List.length_zip]; omega
  have hz : (a.zip b).any (fun p => decide (p.1 ≠ p.2)) = decide (a ≠ b) := by
    clear h1 h2 hzl
    induction a generalizing b with
    | nil => cases b with
      | nil => simp
      | cons y b => simp at hl
    | cons x a ih => cases b with
      | nil => simp at hl
      | cons y b =>
        simp only [List.length_cons, Nat.add_right_cancel_iff] at hl
        simp only [List.zip_cons_cons, List.any_cons, ih hl, ne_eq, List.cons.injEq]
        by_cases hx : x = y <;> by_cases hb : a = b <;> simp [hx, hb]
  have := any_loop (body := body) (a.zip b) (fun p => decide (p.1 ≠ p.2)) hit miss (fun k p hp => by
    obtain ⟨x, y⟩ := p
    have hk := (List.getElem?_eq_some_iff.1 hp).1
    rw [hzl] at hk
    obtain ⟨x', hx⟩ := get_of_lt hk
    obtain ⟨y', hy⟩ := get_of_lt (show k < b.length by omega)
    rw [List.getElem?_zip_eq_some] at hp
    rw [h1 k x y hp.1 hp.2]
    by_cases h : x = y <;> simp [h]) (by rw [hzl]; exact h2)
  rw [this, hz]
  by_cases h : a = b <;> simp [h]

theorem bind_any {α β γ : Type} {body : Int → Option (Step Int β)} {f : β → Option γ} {r : Option γ} (l : List α) (p : α → Bool) (hit miss : β)
    (h1 : ∀ (k : Nat) a, l[k]? = some a → body k = some (if p a = true then .done hit else .next ((k + 1 : Nat) : Int))) (h2 : body (l.length : Int) = some (.done miss)) (hf : f (if l.any p = true then hit else miss) = r) : (loopM body 0).bind f = r := by
  rw [any_loop l p hit miss h1 h2]; exact hf
theorem bind_same {α β γ : Type} [DecidableEq α] {body : Int → Option (Step Int β)} {f : β → Option γ} {r : Option γ} {a b : List α} (hl : a.length = b.length) (hit miss : β)
    (h1 : ∀ (k : Nat) x y, a[k]? = some x → b[k]? = some y → body k = some (if x = y then .next ((k + 1 : Nat) : Int) else .done hit)) (h2 : body (a.length : Int) = some (.done miss)) (hf : f (if a = b then miss else hit) = r) : (loopM body 0).bind f = r := by
  rw [same_loop hl hit miss h1 h2]; exact hf

/-! ### Lists -/
theorem drop_cons_of {α : Type} {l : List α} {k : Nat} {a : α} (h : l[k]? = some a) : l.drop k = a :: l.drop (k + 1) := by
  obtain ⟨h1, h2⟩ := List.getElem?_eq_some_iff.1 h
  rw [← h2]; exact List.drop_eq_getElem_cons h1
theorem take_snoc_of {α : Type} {l : List α} {k : Nat} {a : α} (h : l[k]? = some a) : l.take (k + 1) = l.take k ++ [a] := by
  obtain ⟨h1, h2⟩ := List.getElem?_eq_some_iff.1 h
  rw [← h2]; exact List.take_succ_eq_append_getElem h1
theorem foldl_take {α σ : Type} (f : σ → α → σ) (s : σ) {l : List α} {k : Nat} {a : α} (h : l[k]? = some a) : (l.take (k + 1)).foldl f s = f ((l.take k).foldl f s) a := by
  rw [take_snoc_of h, List.foldl_append]; rfl
/-- Two lists that rise, with the same members, are one. -/
theorem rising_ext {α : Type} {r : α → α → Prop} (irr : ∀ a, ¬ r a a) (tr : ∀ a b c, r a b → r b c → r a c) : ∀ {l m : List α}, l.Pairwise r → m.Pairwise r → (∀ x, x ∈ l ↔ x ∈ m) → l = m
  | [], [], _, _, _ => rfl
  | [], b :: m, _, _, h => by have := (h b).2 (List.mem_cons_self ..); simp at this
  | a :: l, [], _, _, h => by have := (h a).1 (List.mem_cons_self ..); simp at this
  | a :: l, b :: m, hl, hm, h => by
    obtain ⟨l1, l2⟩ := List.pairwise_cons.1 hl
    obtain ⟨m1, m2⟩ := List.pairwise_cons.1 hm
    have e : a = b := by
      rcases List.mem_cons.1 ((h a).1 (List.mem_cons_self ..)) with e | h1
      · exact e
      · rcases List.mem_cons.1 ((h b).2 (List.mem_cons_self ..)) with e | h2
        · exact e.symm
        · exact absurd (tr _ _ _ (m1 a h1) (l1 b h2)) (irr b)
    subst e
    congr 1
    refine rising_ext irr tr l2 m2 fun x => ?_
    constructor
    · intro hx
      rcases List.mem_cons.1 ((h x).1 (List.mem_cons_of_mem _ hx)) with e | h1
      · subst e; exact absurd (l1 x hx) (irr x)
      · exact h1
    · intro hx
      rcases List.mem_cons.1 ((h x).2 (List.mem_cons_of_mem _ hx)) with e | h1
      · subst e; exact absurd (m1 x hx) (irr x)
      · exact h1
theorem rising_int {l m : List Int} (hl : l.Pairwise (· < ·)) (hm : m.Pairwise (· < ·)) (h : ∀ x, x ∈ l ↔ x ∈ m) : l = m :=
  rising_ext (r := fun a b : Int => a < b) (fun a => Int.lt_irrefl a) (fun a b c => Int.lt_trans) hl hm h
/-- Maps as data: who is a key. -/
theorem mget_mput {κ β : Type} [DecidableEq κ] (l : List (κ × β)) (k x : κ) (v : β) : mget (mput l k v) x = if x = k then some v else mget l x := by
  induction l with
  | nil => by_cases h : k = x <;> simp [mput, mget, h, eq_comm]
  | cons p l ih =>
    unfold mput
    by_cases h : p.1 = k
    · rw [if_pos h]
      by_cases hx : x = k
      · subst hx; simp [mget]
      · have h1 : ¬ k = x := fun e => hx e.symm
        have h2 : ¬ p.1 = x := fun e => hx (e.symm.trans h)
        simp [mget, List.find?_cons, hx, h1, h2]
    · rw [if_neg h]
      by_cases hx : p.1 = x
      · have h3 : ¬ x = k := fun e => h (hx.trans e)
        simp [mget, List.find?_cons, hx, h3]
      · unfold mget at ih ⊢
        rw [List.find?_cons_of_neg (by simpa using hx), List.find?_cons_of_neg (by simpa using hx)]
        exact ih
theorem mput_mem {κ β : Type} [DecidableEq κ] (l : List (κ × β)) (k x : κ) (v : β) : x ∈ (mput l k v).map (·.1) ↔ x = k ∨ x ∈ l.map (·.1) := by
  rw [mput_keys]
  split
  · rename_i h
    constructor
    · exact Or.inr
    · rintro (rfl | h2)
      · exact h
      · exact h2
  · simp [or_comm]
theorem mget_isSome {κ β : Type} [DecidableEq κ] {l : List (κ × β)} {k : κ} : (mget l k).isSome = true ↔ k ∈ l.map (·.1) := by
  unfold mget
  rw [Option.isSome_map, List.find?_isSome]
  simp
theorem mput_len {κ β : Type} [DecidableEq κ] (l : List (κ × β)) (k : κ) (v : β) : (mput l k v).length ≤ l.length + 1 := by
  have := congrArg List.length (mput_keys l k v)
  rw [List.length_map] at this
  rw [this]
  split <;> simp
/-! ### An element goes into a list that is sorted -/
theorem ins_loop {α : Type} {body : Int → Option (Step Int Int)} (l : List α) (lt : α → Bool) (h0 : body 0 = some (.done 0))
    (h1 : ∀ (k : Nat) a, l[k]? = some a → body ((k : Int) + 1) = some (if lt a = true then .next (k : Int) else .done ((k : Int) + 1))) :
    ∃ k : Nat, k ≤ l.length ∧ loopM body (l.length : Int) = some (k : Int) ∧ (∀ a ∈ l.drop k, lt a = true) ∧ (∀ j a, k = j + 1 → l[j]? = some a → lt a = false) := by
  have key : ∀ n : Nat, n ≤ l.length → (∀ a ∈ l.drop n, lt a = true) → ∃ k : Nat, k ≤ l.length ∧ loopM body (n : Int) = some (k : Int) ∧ (∀ a ∈ l.drop k, lt a = true) ∧ (∀ j a, k = j + 1 → l[j]? = some a → lt a = false) := by
    intro n
    induction n with
    | zero => exact fun _ hd => ⟨0, by omega, loopM_done h0, hd, fun j a e => by omega⟩
    | succ n ih =>
      intro hn hd
      obtain ⟨a, ha⟩ := get_of_lt (show n < l.length by omega)
      have hb := h1 n a ha
      cases hl : lt a with
      | true =>
        rw [hl, if_pos rfl] at hb
        obtain ⟨k, e1, e2, e3, e4⟩ := ih (by omega) fun b hb => by
          rw [drop_cons_of ha] at hb
          rcases List.mem_cons.1 hb with rfl | hb
          · exact hl
          · exact hd b hb
        exact ⟨k, e1, (loopM_next hb).trans e2, e3, e4⟩
      | false =>
        rw [hl, if_neg (by simp)] at hb
        refine ⟨n + 1, hn, loopM_done hb, hd, fun j b e hj => ?_⟩
        obtain rfl : j = n := by omega
        rw [ha] at hj
        obtain rfl := Option.some.inj hj
        exact hl
  exact key l.length (Nat.le_refl _) (by simp)
theorem ins_sorted {α : Type} {le : α → α → Prop} (tr : ∀ a b c, le a b → le b c → le a c) {l : List α} (hs : l.Pairwise le) {p : α} {k : Nat} (lt : α → Bool) (hlt : ∀ a, lt a = true → le p a) (hge : ∀ a, lt a = false → le a p) (hkl : k ≤ l.length)
    (h1 : ∀ a ∈ l.drop k, lt a = true) (h2 : ∀ j a, k = j + 1 → l[j]? = some a → lt a = false) : (l.take k ++ [p] ++ l.drop k).Pairwise le := by
  have hp := List.take_append_drop k l
  rw [← hp, List.pairwise_append] at hs
  have htake : ∀ a ∈ l.take k, le a p := by
    intro a ha
    obtain ⟨i, hi⟩ := List.getElem?_of_mem ha
    rw [List.getElem?_take] at hi
    split at hi
    · rename_i hik
      have hil := (List.getElem?_eq_some_iff.1 hi).1
      obtain ⟨b, hb⟩ := get_of_lt (show k - 1 < l.length by omega)
      have hbp := hge b (h2 (k - 1) b (by omega) hb)
      by_cases e : i = k - 1
      · subst e; rw [hi] at hb; obtain rfl := Option.some.inj hb; exact hbp
      · have hrel := List.pairwise_iff_getElem.1 (hp ▸ List.pairwise_append.2 hs) i (k - 1) hil (by omega) (by omega)
        rw [(List.getElem?_eq_some_iff.1 hi).2, (List.getElem?_eq_some_iff.1 hb).2] at hrel
        exact tr _ _ _ hrel hbp
    · cases hi
  rw [List.append_assoc, List.pairwise_append]
  refine ⟨hs.1, List.pairwise_cons.2 ⟨fun a ha => hlt a (h1 a ha), hs.2.1⟩, fun a ha b hb => ?_⟩
  rcases List.mem_cons.1 hb with rfl | hb
  · exact htake a ha
  · exact hs.2.2 a ha b hb

/-! ### Folds over the entries of a map, in every order -/
theorem foldP_inv {ε σ β : Type} {body : ε → σ → Option (Step σ β)} {fin : σ → Option β} (I : List ε → σ → Prop) : ∀ (p : List ε) (done : List ε) (s : σ), I done s → (∀ (d : List ε) (e : ε) (s : σ), (∃ t, done ++ p = d ++ e :: t) → I d s → ∃ s', body e s = some (.next s') ∧ I (d ++ [e]) s') → ∃ s', I (done ++ p) s' ∧ foldP body fin p s = fin s'
  | [], done, s, h, _ => ⟨s, by simpa using h, rfl⟩
  | e :: p, done, s, h, hs => by
    obtain ⟨s1, h1, h2⟩ := hs done e s ⟨p, rfl⟩ h
    obtain ⟨s2, h3, h4⟩ := foldP_inv I p (done ++ [e]) s1 h2 (fun d e' s' hd hI => hs d e' s' (by simpa using hd) hI)
    refine ⟨s2, by simpa using h3, ?_⟩
    simp only [foldP, h1]; exact h4
/-- A fold that ends in one way, whatever the order. -/
theorem permM_eq {ε σ β : Type} {body : ε → σ → Option (Step σ β)} {fin : σ → Option β} {l : List ε} {s : σ} {r : β} (I : List ε → σ → Prop) (h0 : I [] s)
    (h1 : ∀ (d : List ε) (e : ε) (s : σ), (∃ t, (d ++ e :: t).Perm l) → I d s → ∃ s', body e s = some (.next s') ∧ I (d ++ [e]) s') (h2 : ∀ (p : List ε) (s : σ), p.Perm l → I p s → fin s = some r) :
    permM l (fun p => foldP body fin p s) = some r := by
  rw [permM_iff]
  intro p hp
  obtain ⟨s', h3, h4⟩ := foldP_inv (fin := fin) I p [] s h0 (fun d e s ⟨t, ht⟩ hI => h1 d e s ⟨t, by rw [← ht]; simpa using hp⟩ hI)
  show foldP body fin p s = some r
  rw [h4]
  exact h2 p s' hp (by simpa using h3)
end Go.Proofs.Ytmfepkadggigpaa
