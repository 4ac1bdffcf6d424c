/- Maps from integers whose entries are told in the order of the keys, wherever they lie. Plain theorems over any program. -/
import Derived.Test.YtfajmelamonolaaGreatDoorKNe2
import Derived.Test.YtfajmelamonolaaGreatDoorKNe3
import Derived.Test.YtfajmelamonolaaGreatDoorKNe4
set_option linter.unusedVariables false
set_option linter.unusedSimpArgs false
namespace Go.Proofs.YtfajmelamonolaaGreatDoor
open Vl (vl)
open Go.RowKit
section
variable {β : Type}
end
def MapU {β : Type} [Vl β] (b : Nat) (l : List (Int × β)) : Atom := fun h => ∃ l', MapA b l' h ∧ l'.Perm l
section
variable {Rn : Option Nat} {P : Program} {ops : Array Oper} {Q : Exit → Act → World → Prop} {rest : List Oper} {o : Oper} {a : Act} {w : World} {Df : List Deferred} {N : Nat} {E : Ent} {d : Nat} {Z : World} {ρ : PH} {L : List Atom}
variable {β : Type} [Vl β] {b : Nat} {l : List (Int × β)}
theorem MapU.of (h : Hp Z ρ (MapA b l :: L) w) : Hp Z ρ (MapU b l :: L) w := h.imp fun _ k => ⟨l, k, List.Perm.refl _⟩
theorem MapU.shut {l' : List (Int × β)} (h : Hp Z ρ (MapA b l' :: L) w) (hp : l'.Perm l) : Hp Z ρ (MapU b l :: L) w := h.imp fun _ k => ⟨l', k, hp⟩
end
end Go.Proofs.YtfajmelamonolaaGreatDoor

/- Words for plain laws: loops that count, part steps that do not fail, sorted lists. No program is named. -/
set_option linter.unusedVariables false
set_option linter.unusedSimpArgs false
namespace Go.Proofs.YtfajmelamonolaaGreatDoor
open Go.RowKit
theorem loop_at {σ β : Type} {body : σ → Option (Step σ β)} {b : β} (S : Nat → σ) : ∀ (n : Nat), (∀ k, k < n → body (S k) = some (.next (S (k + 1)))) → body (S n) = some (.done b) → loopM body (S 0) = some b
  | 0, _, h => loopM_done h
  | n + 1, h1, h2 => by
    rw [loopM_next (h1 0 (by omega))]
    exact loop_at (fun k => S (k + 1)) n (fun k hk => h1 (k + 1) (by omega)) h2
theorem loop_from {σ β : Type} {body : σ → Option (Step σ β)} {b : β} {s : σ} (S : Nat → σ) (n : Nat) (h0 : s = S 0) (h1 : ∀ k, k < n → body (S k) = some (.next (S (k + 1)))) (h2 : body (S n) = some (.done b)) : loopM body s = some b := by
  rw [h0]; exact loop_at S n h1 h2
theorem inK_eq {n : Int} (h : -9223372036854775808 ≤ n ∧ n ≤ 9223372036854775807) : inK .i64 n = some n := inK_ok n h.1 h.2
theorem idx_nat {α : Type} {l : List α} {k : Nat} {a : α} (h : l[k]? = some a) : idx l (k : Int) = some a := by
  unfold idx; rw [if_pos (by omega)]; simpa using h
theorem idx_of {α : Type} {l : List α} {i : Int} {a : α} (h0 : 0 ≤ i) (h : l[i.toNat]? = some a) : idx l i = some a := by
  unfold idx; rw [if_pos h0, h]
theorem get_of_lt {α : Type} {l : List α} {k : Nat} (h : k < l.length) : ∃ a, l[k]? = some a := ⟨_, List.getElem?_eq_getElem h⟩
theorem app_ok {α : Type} {l m : List α} (h : l.length + m.length ≤ 4294967296) : app l m = some (l ++ m) := by unfold app; rw [if_pos h]
theorem sub_ok {α : Type} {l : List α} {i j : Int} (h0 : 0 ≤ i) (h1 : i ≤ j) (h2 : j ≤ l.length) : sub l i j = some ((l.take j.toNat).drop i.toNat) := by unfold sub; rw [if_pos ⟨h0, h1, h2⟩]
theorem mkc_ok {α : Type} {n c : Int} {z : α} (h : 0 ≤ n ∧ n ≤ c ∧ c ≤ 4294967296) : mkc n c z = some (List.replicate n.toNat z) := by unfold mkc; rw [if_pos h]
theorem catK_ok {a b : ByteArray} (h : a.size + b.size ≤ 4294967296) : catK a b = some (a ++ b) := by unfold catK; rw [if_pos h]
theorem I64.r {n : Int} (h : (Lit.int .i64 n).wf = true) : -9223372036854775808 ≤ n ∧ n ≤ 9223372036854775807 := by
  simp [Lit.wf, IntKind.min, IntKind.max, IntKind.signed, IntKind.bits] at h
  exact ⟨by omega, by omega⟩
theorem U8.r {n : Int} (h : (Lit.int .u8 n).wf = true) : 0 ≤ n ∧ n ≤ 255 := by
  simp [Lit.wf, IntKind.min, IntKind.max, IntKind.signed, IntKind.bits] at h
  omega
theorem first_or {α : Type} (p : α → Bool) : ∀ (l : List α), (∃ k a, l[k]? = some a ∧ p a = true ∧ (∀ j b, j < k → l[j]? = some b → p b = false) ∧ l.any p = true ∧ l.findIdx p = k) ∨ ((∀ a ∈ l, p a = false) ∧ l.any p = false ∧ l.findIdx p = l.length)
  | [] => Or.inr ⟨by simp, rfl, rfl⟩
  | x :: l => by
    cases hx : p x with
    | true => exact Or.inl ⟨0, x, rfl, hx, fun j b hj => by omega, by simp [hx], by simp [List.findIdx_cons, hx]⟩
    | false =>
      rcases first_or p l with ⟨k, a, h1, h2, h3, h4, h5⟩ | ⟨h1, h2, h3⟩
      · refine Or.inl ⟨k + 1, a, by simpa using h1, h2, fun j b hj hb => ?_, by simp [hx, h4], by simp [List.findIdx_cons, hx, h5]⟩
        cases j with
        | zero => simp at hb; subst hb; exact hx
        | succ j => exact h3 j b (by omega) (by simpa using hb)
      · refine Or.inr ⟨fun a ha => ?_, by simp [hx, h2], by simp [List.findIdx_cons, hx, h3]⟩
        rcases List.mem_cons.1 ha with rfl | ha
        · exact hx
        · exact h1 a ha
theorem scan_loop {α β : Type} {body : Int → Option (Step Int β)} (l : List α) (p : α → Bool) (hit : Nat → α → β) (miss : β)
    (h1 : ∀ (k : Nat) a, l[k]? = some a → body k = some (if p a = true then .done (hit k a) else .next ((k + 1 : Nat) : Int))) (h2 : body (l.length : Int) = some (.done miss)) :
    (∃ k a, l[k]? = some a ∧ p a = true ∧ (∀ j b, j < k → l[j]? = some b → p b = false) ∧ l.any p = true ∧ l.findIdx p = k ∧ loopM body 0 = some (hit k a)) ∨ ((∀ a ∈ l, p a = false) ∧ l.any p = false ∧ l.findIdx p = l.length ∧ loopM body 0 = some miss) := by
  rcases first_or p l with ⟨k, a, a1, a2, a3, a4, a5⟩ | ⟨a1, a2, a3⟩
  · refine Or.inl ⟨k, a, a1, a2, a3, a4, a5, loop_from (fun j => (j : Int)) k rfl (fun j hj => ?_) ?_⟩
    · obtain ⟨b, hb⟩ := get_of_lt (show j < l.length by have := (List.getElem?_eq_some_iff.1 a1).1; omega)
      rw [h1 j b hb, a3 j b hj hb]; rfl
    · rw [h1 k a a1, a2]; rfl
  · refine Or.inr ⟨a1, a2, a3, loop_from (fun j => (j : Int)) l.length rfl (fun j hj => ?_) h2⟩
    obtain ⟨b, hb⟩ := get_of_lt hj
    rw [h1 j b hb, a1 b (List.mem_of_getElem? hb)]; rfl
theorem any_loop {α β : Type} {body : Int → Option (Step Int β)} (l : List α) (p : α → Bool) (hit miss : β)
    (h1 : ∀ (k : Nat) a, l[k]? = some a → body k = some (if p a = true then .done hit else .next ((k + 1 : Nat) : Int))) (h2 : body (l.length : Int) = some (.done miss)) : loopM body 0 = some (if l.any p = true then hit else miss) := by
  rcases scan_loop l p (fun _ _ => hit) miss h1 h2 with ⟨k, a, _, _, _, h, _, e⟩ | ⟨_, h, _, e⟩
  · rw [e, h]; rfl
  · rw [e, h]; rfl
theorem same_loop {α β : Type} [DecidableEq α] {body : Int → Option (Step Int β)} {a b : List α} (hl : a.length = b.length) (hit miss : β)
    (h1 : ∀ (k : Nat) x y, a[k]? = some x → b[k]? = some y → body k = some (if x = y then .next ((k + 1 : Nat) : Int) else .done hit)) (h2 : body (a.length : Int) = some (.done miss)) : loopM body 0 = some (if a = b then miss else hit) := by
  have hzl : (a.zip b).length = a.length := by rw [List.length_zip]; omega
  have hz : (a.zip b).any (fun p => decide (p.1 ≠ p.2)) = decide (a ≠ b) := by
    clear h1 h2 hzl
    induction a generalizing b with
    | nil => cases b with
      | nil => simp
      | cons y b => simp at hl
    | cons x a ih => cases b with
      | nil => simp at hl
      | cons y b =>
        simp only [List.length_cons, Nat.add_right_cancel_iff] at hl
        simp only [List.zip_cons_cons, List.any_cons, ih hl, ne_eq, List.cons.injEq]
        by_cases hx : x = y <;> by_cases hb : a = b <;> simp [hx, hb]
  have := any_loop (body := body) (a.zip b) (fun p => decide (p.1 ≠ p.2)) hit miss (fun k p hp => by
    obtain ⟨x, y⟩ := p
    have hk := (List.getElem?_eq_some_iff.1 hp).1
    rw [hzl] at hk
    obtain ⟨x', hx⟩ := get_of_lt hk
    obtain ⟨y', hy⟩ := get_of_lt (show k < b.length by omega)
    rw [List.getElem?_zip_eq_some] at hp
    rw [h1 k x y hp.1 hp.2]
    by_cases h : x = y <;> simp [h]) (by rw [hzl]; exact h2)
  rw [this, hz]
  by_cases h : a = b <;> simp [h]
theorem bind_any {α β γ : Type} {body : Int → Option (Step Int β)} {f : β → Option γ} {r : Option γ} (l : List α) (p : α → Bool) (hit miss : β)
    (h1 : ∀ (k : Nat) a, l[k]? = some a → body k = some (if p a = true then .done hit else .next ((k + 1 : Nat) : Int))) (h2 : body (l.length : Int) = some (.done miss)) (hf : f (if l.any p = true then hit else miss) = r) : (loopM body 0).bind f = r := by
  rw [any_loop l p hit miss h1 h2]; exact hf
theorem bind_same {α β γ : Type} [DecidableEq α] {body : Int → Option (Step Int β)} {f : β → Option γ} {r : Option γ} {a b : List α} (hl : a.length = b.length) (hit miss : β)
    (h1 : ∀ (k : Nat) x y, a[k]? = some x → b[k]? = some y → body k = some (if x = y then .next ((k + 1 : Nat) : Int) else .done hit)) (h2 : body (a.length : Int) = some (.done miss)) (hf : f (if a = b then miss else hit) = r) : (loopM body 0).bind f = r := by
  rw [same_loop hl hit miss h1 h2]; exact hf
theorem drop_cons_of {α : Type} {l : List α} {k : Nat} {a : α} (h : l[k]? = some a) : l.drop k = a :: l.drop (k + 1) := by
  obtain ⟨h1, h2⟩ := List.getElem?_eq_some_iff.1 h
  rw [← h2]; exact List.drop_eq_getElem_cons h1
theorem take_snoc_of {α : Type} {l : List α} {k : Nat} {a : α} (h : l[k]? = some a) : l.take (k + 1) = l.take k ++ [a] := by
  obtain ⟨h1, h2⟩ := List.getElem?_eq_some_iff.1 h
  rw [← h2]; exact List.take_succ_eq_append_getElem h1
theorem rising_ext {α : Type} {r : α → α → Prop} (irr : ∀ a, ¬ r a a) (tr : ∀ a b c, r a b → r b c → r a c) : ∀ {l m : List α}, l.Pairwise r → m.Pairwise r → (∀ x, x ∈ l ↔ x ∈ m) → l = m
  | [], [], _, _, _ => rfl
  | [], b :: m, _, _, h => by have := (h b).2 (List.mem_cons_self ..); simp at this
  | a :: l, [], _, _, h => by have := (h a).1 (List.mem_cons_self ..); simp at this
  | a :: l, b :: m, hl, hm, h => by
    obtain ⟨l1, l2⟩ := List.pairwise_cons.1 hl
    obtain ⟨m1, m2⟩ := List.pairwise_cons.1 hm
    have e : a = b := by
      rcases List.mem_cons.1 ((h a).1 (List.mem_cons_self ..)) with e | h1
      · exact e
      · rcases List.mem_cons.1 ((h b).2 (List.mem_cons_self ..)) with e | h2
        · exact e.symm
        · exact absurd (tr _ _ _ (m1 a h1) (l1 b h2)) (irr b)
    subst e
    congr 1
    refine rising_ext irr tr l2 m2 fun x => ?_
    constructor
    · intro hx
      rcases List.mem_cons.1 ((h x).1 (List.mem_cons_of_mem _ hx)) with e | h1
      · subst e; exact absurd (l1 x hx) (irr x)
      · exact h1
    · intro hx
      rcases List.mem_cons.1 ((h x).2 (List.mem_cons_of_mem _ hx)) with e | h1
      · subst e; exact absurd (m1 x hx) (irr x)
      · exact h1
end Go.Proofs.YtfajmelamonolaaGreatDoor

/- Loops over lists with a state, and small words for plain laws. No program is named. -/
set_option linter.unusedVariables false
set_option linter.unusedSimpArgs false
namespace Go.Proofs.YtfajmelamonolaaGreatDoor
open Go.RowKit
def runL {α τ β : Type} (f : α → τ → Step τ β) (g : τ → β) : List α → τ → β
  | [], t => g t
  | a :: l, t => match f a t with
    | .next t' => runL f g l t'
    | .done b => b
theorem loopL {α τ S β : Type} {body : S → Option (Step S β)} {s0 : S} (l : List α) (E : Nat → τ → S) (f : α → τ → Step τ β) (g : τ → β) (I : Nat → τ → Prop) {t0 : τ} (hs0 : s0 = E 0 t0) (h0 : I 0 t0)
    (hs : ∀ k a t, l[k]? = some a → I k t → body (E k t) = some (match f a t with | .next t' => .next (E (k + 1) t') | .done b => .done b) ∧ (∀ t', f a t = .next t' → I (k + 1) t'))
    (he : ∀ t, I l.length t → body (E l.length t) = some (.done (g t))) : loopM body s0 = some (runL f g l t0) := by
  have key : ∀ (m k : Nat) (t : τ), k + m = l.length → I k t → loopM body (E k t) = some (runL f g (l.drop k) t) := by
    intro m
    induction m with
    | zero =>
      intro k t hk hi
      have hk : k = l.length := by omega
      subst hk
      rw [loopM_done (he t hi), List.drop_length]; rfl
    | succ m ih =>
      intro k t hk hi
      obtain ⟨a, ha⟩ := get_of_lt (show k < l.length by omega)
      obtain ⟨h1, h2⟩ := hs k a t ha hi
      rw [drop_cons_of ha]
      unfold runL
      cases hf : f a t with
      | next t' =>
        rw [hf] at h1
        rw [loopM_next h1]
        exact ih (k + 1) t' (by omega) (h2 t' hf)
      | done b =>
        rw [hf] at h1
        exact loopM_done h1
  rw [hs0]
  simpa using key l.length 0 t0 (by omega) h0
theorem loopN {τ S β : Type} {body : S → Option (Step S β)} {s0 : S} (n : Nat) (E : Nat → τ → S) (I : Nat → τ → Prop) (Post : β → Prop) {t0 : τ} (hs0 : s0 = E 0 t0) (h0 : I 0 t0)
    (hs : ∀ k t, k < n → I k t → (∃ t', body (E k t) = some (.next (E (k + 1) t')) ∧ I (k + 1) t') ∨ (∃ b, body (E k t) = some (.done b) ∧ Post b))
    (he : ∀ t, I n t → ∃ b, body (E n t) = some (.done b) ∧ Post b) : ∃ b, loopM body s0 = some b ∧ Post b := by
  have key : ∀ (m k : Nat) (t : τ), k + m = n → I k t → ∃ b, loopM body (E k t) = some b ∧ Post b := by
    intro m
    induction m with
    | zero =>
      intro k t hk hi
      obtain rfl : k = n := by omega
      obtain ⟨b, h1, h2⟩ := he t hi
      exact ⟨b, loopM_done h1, h2⟩
    | succ m ih =>
      intro k t hk hi
      rcases hs k t (by omega) hi with ⟨t', h1, h2⟩ | ⟨b, h1, h2⟩
      · obtain ⟨b, h3, h4⟩ := ih (k + 1) t' (by omega) h2
        exact ⟨b, by rw [loopM_next h1]; exact h3, h4⟩
      · exact ⟨b, loopM_done h1, h2⟩
  rw [hs0]
  exact key n 0 t0 (by omega) h0
theorem bsm {α β : Type} (a : α) (f : α → Option β) : (some a).bind f = f a := Eq.trans (congrArg (fun x => Option.bind x f) (Eq.refl (some a))) rfl
theorem len_lt {α : Type} {l : List α} {k : Nat} {a : α} (h : l[k]? = some a) : k < l.length := (List.getElem?_eq_some_iff.1 h).1
theorem mem_get {α : Type} {l : List α} {k : Nat} {a : α} (h : l[k]? = some a) : a ∈ l := List.mem_of_getElem? h
theorem inK_up {k : Nat} {n : Nat} (h : k < n) (hn : n ≤ 9223372036854775807) : inK .i64 ((k : Int) + 1) = some ((k + 1 : Nat) : Int) := by
  rw [inK_eq ⟨by omega, by omega⟩]; rfl
theorem inK_at {n m : Int} (e : n = m) (h : -9223372036854775808 ≤ m ∧ m ≤ 9223372036854775807) : inK .i64 n = some m := by rw [e]; exact inK_eq h
theorem ltB {k n : Nat} (h : k < n) : (decide ((k : Int) < (n : Int))) = true := by simpa using h
theorem ltB' {n : Nat} : ¬ (decide ((n : Int) < (n : Int))) = true := by simp
theorem vr_nn (l : Int) : 0 ≤ vr l := by unfold vr; omega
theorem vr_neg (l : Int) : vr (-l) = vr l := by unfold vr; omega
theorem vr_zero {l : Int} : vr l = 0 ↔ l = 0 := by unfold vr; omega
theorem vr_eq {l m : Int} : vr l = vr m ↔ l = m ∨ l = -m := by unfold vr; omega
theorem vr_le {l v : Int} : vr l ≤ v ↔ -v ≤ l ∧ l ≤ v := by unfold vr; omega
def clF (v : Int) : Int → List Int → Bool
  | _, [] => true
  | last, l :: r => decide (-v ≤ l) && decide (l ≤ v) && decide (last < vr l) && clF v (vr l) r
end Go.Proofs.YtfajmelamonolaaGreatDoor

/- What the functions on clauses and formulas compute: Valid, Literal, Holds, comparisons. -/
set_option linter.unusedVariables false
set_option linter.unusedSimpArgs false
namespace Go.Proofs.YtfajmelamonolaaGreatDoor
open Go.RowKit
theorem var_ok {l : Int} (h : -9223372036854775807 ≤ l ∧ l ≤ 9223372036854775807) : m_cnf_variable l = some (vr l) := by
  unfold m_cnf_variable; rw [inK_eq (by omega)]; rfl
theorem rvar_ok {l : Int} (h : -9223372036854775807 ≤ l ∧ l ≤ 9223372036854775807) : m_assessorref26_Variable l = some (vr l) := by
  unfold m_assessorref26_Variable
  by_cases h0 : l < 0
  · rw [if_pos (by simpa using h0), inK_eq (by omega)]
    simp only [bsm]; congr 1; unfold vr; omega
  · rw [if_neg (by simpa using h0)]; congr 1; unfold vr; omega
def stCl (v l last : Int) : Step Int (Out Unit Bool) := if ((decide (l < -v)) || (decide (v < l)) || (decide (vr l ≤ last))) = true then Step.done (Out.ret false) else Step.next (vr l)
theorem cnf_normal {c : List Int} {v : Int} (hv : 0 ≤ v ∧ v ≤ 1099511627776) (hc : c.length ≤ 9223372036854775807) : m_cnf_normal c v = some (clF v 0 c) := by
  unfold m_cnf_normal
  have h := loopL (body := fun s : Int × Int => m_cnf_normal_lp1 c v s.1 s.2) (s0 := ((0 : Int), (0 : Int))) c (fun k t => (t, (k : Int)))
    (stCl v) (fun _ => Out.brk ()) (fun _ _ => True) (t0 := (0 : Int)) rfl trivial ?_ ?_
  · rw [h]
    simp only [bsm]
    generalize (0 : Int) = t
    clear h
    induction c generalizing t with
    | nil => simp [runL, clF]
    | cons l r ih =>
      have ih := ih (by simp only [List.length_cons] at hc; omega)
      unfold runL stCl clF
      by_cases hb : ((decide (l < -v)) || (decide (v < l)) || (decide (vr l ≤ t))) = true
      · rw [if_pos hb]
        simp only [Bool.or_eq_true, decide_eq_true_eq] at hb
        have : (decide (-v ≤ l) && decide (l ≤ v) && decide (t < vr l)) = false := by
          simp only [Bool.and_eq_false_iff, decide_eq_false_iff_not]; omega
        simp [this]
      · rw [if_neg hb]
        simp only [Bool.or_eq_true, decide_eq_true_eq, not_or] at hb
        have : (decide (-v ≤ l) && decide (l ≤ v) && decide (t < vr l)) = true := by
          simp only [Bool.and_eq_true, decide_eq_true_eq]; omega
        rw [this, Bool.true_and]
        exact ih (vr l)
  · intro k a t hk _
    refine ⟨?_, fun _ _ => trivial⟩
    simp only [m_cnf_normal_lp1, stCl]
    rw [if_pos (ltB (len_lt hk)), idx_nat hk]
    simp only [bsm]
    rw [inK_eq (by omega)]
    simp only [bsm, Int.zero_sub]
    by_cases h1 : (decide (a < -v) || decide (v < a)) = true
    · simp [h1]
    · rw [if_neg h1]
      simp only [Bool.or_eq_true, decide_eq_true_eq, not_or] at h1
      rw [var_ok (by omega)]
      have h1' : (decide (a < -v) || decide (v < a)) = false := by simp; omega
      simp only [bsm, h1', Bool.false_or]
      by_cases h2 : vr a ≤ t
      · simp [h2]
      · simp [h2, inK_up (len_lt hk) hc]
  · intro t _
    simp only [m_cnf_normal_lp1]
    rw [if_neg ltB']
theorem in1 : inK .i64 1 = some 1 := inK_eq ⟨by decide, by decide⟩
theorem runL_clF {c : List Int} {v t : Int} (ht : 0 ≤ t) : (match runL (stCl v) (fun _ => (Out.brk () : Out Unit Bool)) c t with | .brk _ => true | .ret r => r) = clF v t c := by
  induction c generalizing t with
  | nil => simp [runL, clF]
  | cons l r ih =>
    unfold runL stCl clF
    by_cases hb : ((decide (l < -v)) || (decide (v < l)) || (decide (vr l ≤ t))) = true
    · rw [if_pos hb]
      simp only [Bool.or_eq_true, decide_eq_true_eq] at hb
      have : (decide (-v ≤ l) && decide (l ≤ v) && decide (t < vr l)) = false := by
        simp only [Bool.and_eq_false_iff, decide_eq_false_iff_not]; omega
      simp [this]
    · rw [if_neg hb]
      simp only [Bool.or_eq_true, decide_eq_true_eq, not_or] at hb
      have : (decide (-v ≤ l) && decide (l ≤ v) && decide (t < vr l)) = true := by
        simp only [Bool.and_eq_true, decide_eq_true_eq]; omega
      rw [this, Bool.true_and]
      exact ih (vr_nn l)
theorem ref_isClause {c : List Int} {v : Int} (hv : 0 ≤ v ∧ v ≤ 1099511627776) (hc : c.length ≤ 9223372036854775807) : m_assessorref26_IsClause c v = some (clF v 0 c) := by
  unfold m_assessorref26_IsClause
  have h := loopL (body := fun s : Int => m_assessorref26_IsClause_lp1 c v s) (s0 := (0 : Int)) c (fun k t => (k : Int))
    (stCl v) (fun _ => Out.brk ())
    (fun k t => (k = 0 ∧ t = 0) ∨ (0 < k ∧ ∃ b, c[k - 1]? = some b ∧ t = vr b ∧ -v ≤ b ∧ b ≤ v)) (t0 := (0 : Int)) rfl (Or.inl ⟨rfl, rfl⟩) ?_ ?_
  · rw [h]
    simp only [bsm]
    rw [← runL_clF (c := c) (v := v) (t := 0) (Int.le_refl 0)]
    generalize runL (stCl v) (fun _ => Out.brk ()) c 0 = o
    cases o <;> rfl
  · intro k a t hk hI
    refine ⟨?_, fun t' ht' => ?_⟩
    · simp only [m_assessorref26_IsClause_lp1, stCl]
      rw [if_pos (ltB (len_lt hk)), idx_nat hk]
      simp only [bsm]
      rw [inK_eq (show -9223372036854775808 ≤ 0 - v ∧ 0 - v ≤ 9223372036854775807 by omega)]
      have ht : 0 ≤ t := by
        rcases hI with ⟨_, rfl⟩ | ⟨_, b, _, rfl, _⟩
        · omega
        · exact vr_nn b
      by_cases h0 : a = 0
      · have : vr a ≤ t := by rw [vr_zero.2 h0]; exact ht
        simp [h0]
        rw [h0] at this; simp [this]
      · by_cases h1 : a < -v
        · simp [h0, h1]
        · by_cases h2 : v < a
          · simp [h0, h1, h2]
          · have h3 : (decide (a < -v) || decide (v < a)) = false := by simp; omega
            rcases hI with ⟨rfl, rfl⟩ | ⟨hk0, b, hb, rfl, hb1, hb2⟩
            · have : ¬ vr a ≤ 0 := fun h => h0 (vr_zero.1 (by have := vr_nn a; omega))
              simp [h0, h1, h2, this, in1]
            · have e1 : inK .i64 ((k : Int) - 1) = some ((k - 1 : Nat) : Int) := by
                rw [inK_eq ⟨by omega, by have := len_lt hk; omega⟩]; congr 1; omega
              rw [rvar_ok (by omega)]
              simp only [bsm]
              simp [h0, h1, h2, show 0 < k from hk0, e1, idx_nat hb, rvar_ok (show -9223372036854775807 ≤ b ∧ b ≤ 9223372036854775807 by omega), inK_up (len_lt hk) hc]
              by_cases h4 : vr a ≤ vr b
              · simp [h4]
              · simp [h4]
    · refine Or.inr ⟨by omega, a, by simpa using hk, ?_⟩
      unfold stCl at ht'
      by_cases hb : ((decide (a < -v)) || (decide (v < a)) || (decide (vr a ≤ t))) = true
      · rw [if_pos hb] at ht'; cases ht'
      · rw [if_neg hb] at ht'
        simp only [Bool.or_eq_true, decide_eq_true_eq, not_or] at hb
        exact ⟨(Step.next.inj ht').symm, by omega, by omega⟩
  · intro t _
    simp only [m_assessorref26_IsClause_lp1]
    rw [if_neg ltB']
def validB (f : Formula) : Bool := decide (0 ≤ f.vars) && decide (f.vars ≤ 65536) && decide (f.clauses.length ≤ 262144) && f.clauses.all (clF f.vars 0)
def FLen (cs : List (List Int)) : Prop := cs.length ≤ 9223372036854775807 ∧ ∀ c ∈ cs, c.length ≤ 9223372036854775807
theorem any_not_all {α : Type} (p : α → Bool) (l : List α) : (if l.any (fun a => !p a) = true then (Out.ret false : Out Unit Bool) else Out.brk ()) = (if l.all p = true then Out.brk () else Out.ret false) := by
  have : l.any (fun a => !p a) = !l.all p := by simp [List.all_eq_not_any_not]
  rw [this]; cases l.all p <;> rfl
theorem validB_pre (f : Formula) (hp : ¬ (((decide (f.vars < 0)) || (decide (65536 < f.vars))) || (decide (262144 < (f.clauses.length : Int)))) = true) : validB f = f.clauses.all (clF f.vars 0) := by
  simp only [Bool.or_eq_true, decide_eq_true_eq, not_or] at hp
  unfold validB
  have : (decide (0 ≤ f.vars) && decide (f.vars ≤ 65536) && decide (f.clauses.length ≤ 262144)) = true := by simp only [Bool.and_eq_true, decide_eq_true_eq]; omega
  rw [this, Bool.true_and]
theorem validB_no (f : Formula) (hp : (((decide (f.vars < 0)) || (decide (65536 < f.vars))) || (decide (262144 < (f.clauses.length : Int)))) = true) : validB f = false := by
  simp only [Bool.or_eq_true, decide_eq_true_eq] at hp
  unfold validB
  have : (decide (0 ≤ f.vars) && decide (f.vars ≤ 65536) && decide (f.clauses.length ≤ 262144)) = false := by
    simp only [Bool.and_eq_false_iff, decide_eq_false_iff_not]; omega
  rw [this, Bool.false_and]
theorem cnf_valid {f : Formula} (hl : FLen f.clauses) : m_cnf_Valid f = some (validB f) := by
  unfold m_cnf_Valid
  by_cases hp : (((decide (f.vars < 0)) || (decide (65536 < f.vars))) || (decide (262144 < (f.clauses.length : Int)))) = true
  · rw [if_pos hp, validB_no f hp]
  · rw [if_neg hp, validB_pre f hp]
    have hp' := hp
    simp only [Bool.or_eq_true, decide_eq_true_eq, not_or] at hp'
    refine bind_any f.clauses (fun c => !clF f.vars 0 c) (Out.ret false) (Out.brk ()) ?_ ?_ ?_
    · intro k a hk
      simp only [m_cnf_Valid_lp1]
      rw [if_pos (ltB (len_lt hk)), idx_nat hk]
      simp only [bsm]
      rw [cnf_normal ⟨by omega, by omega⟩ (hl.2 a (mem_get hk)), inK_up (len_lt hk) hl.1]
      cases clF f.vars 0 a <;> rfl
    · simp only [m_cnf_Valid_lp1]
      rw [if_neg ltB']
    · rw [any_not_all]
      cases f.clauses.all (clF f.vars 0) <;> rfl
theorem lists_equal (a b : List Int) (ha : a.length ≤ 9223372036854775807) : m_slices_Equal_int_int_ a b = some (decide (a = b)) := by
  unfold m_slices_Equal_int_int_
  by_cases hl : a.length = b.length
  · rw [if_neg (by simp [hl])]
    refine bind_same hl (Out.ret false) (Out.brk ()) ?_ ?_ ?_
    · intro k x y hx hy
      simp only [m_slices_Equal_int_int__lp1]
      rw [if_pos (ltB (len_lt hx)), idx_nat hx, idx_nat hy]
      simp only [bsm]
      rw [inK_up (len_lt hx) ha]
      by_cases h : x = y <;> simp [h]
    · simp only [m_slices_Equal_int_int__lp1]
      rw [if_neg ltB']
    · by_cases h : a = b <;> simp [h]
  · rw [if_pos (by simp; omega)]
    have : a ≠ b := fun e => hl (by rw [e])
    simp [this]
theorem clauses_equal (a b : List (List Int)) (ha : FLen a) : m_assessorref26_Clauses a b = some (decide (a = b)) := by
  unfold m_assessorref26_Clauses
  by_cases hl : a.length = b.length
  · rw [if_neg (by simp [hl])]
    refine bind_same hl (Out.ret false) (Out.brk ()) ?_ ?_ ?_
    · intro k x y hx hy
      simp only [m_assessorref26_Clauses_lp1]
      rw [if_pos (ltB (len_lt hx)), idx_nat hx, idx_nat hy]
      simp only [bsm]
      by_cases hxy : x.length = y.length
      · rw [if_neg (by simp [hxy])]
        have hxl := ha.2 x (mem_get hx)
        refine bind_same hxy (Out.ret false) (Out.brk ()) ?_ ?_ ?_
        · intro j u v hu hv
          simp only [m_assessorref26_Clauses_lp2]
          rw [idx_nat hx]
          simp only [bsm]
          rw [if_pos (ltB (len_lt hu)), idx_nat hu, idx_nat hy]
          simp only [bsm]
          rw [idx_nat hv]
          simp only [bsm]
          rw [inK_up (len_lt hu) hxl]
          by_cases h : u = v <;> simp [h]
        · simp only [m_assessorref26_Clauses_lp2]
          rw [idx_nat hx]
          simp only [bsm]
          rw [if_neg ltB']
        · by_cases h : x = y
          · simp [h, inK_up (len_lt hx) ha.1]
          · simp [h]
      · rw [if_pos (by simp; omega)]
        have : x ≠ y := fun e => hxy (by rw [e])
        simp [this]
    · simp only [m_assessorref26_Clauses_lp1]
      rw [if_neg ltB']
    · by_cases h : a = b <;> simp [h]
  · rw [if_pos (by simp; omega)]
    have : a ≠ b := fun e => hl (by rw [e])
    simp [this]
theorem Formula.ext_ {f g : Formula} (h1 : f.vars = g.vars) (h2 : f.clauses = g.clauses) : f = g := by
  obtain ⟨a, b⟩ := f; obtain ⟨c, d⟩ := g; simp at h1 h2; rw [h1, h2]
instance : DecidableEq Formula := fun f g => if h : f.vars = g.vars ∧ f.clauses = g.clauses then isTrue (Formula.ext_ h.1 h.2) else isFalse (fun e => h (by rw [e]; exact ⟨rfl, rfl⟩))
def smallB (f : Formula) (v n : Int) : Bool := f.clauses.all (fun c => decide (c.length ≤ 30)) && decide (f.vars ≤ v) && decide ((f.clauses.length : Int) ≤ n)
theorem small_eq (f : Formula) (v n : Int) (hl : f.clauses.length ≤ 9223372036854775807) : m_assessorref26_Small f v n = some (smallB f v n) := by
  unfold m_assessorref26_Small smallB
  refine bind_any f.clauses (fun c => !decide (c.length ≤ 30)) (Out.ret false) (Out.brk ()) ?_ ?_ ?_
  · intro k a hk
    simp only [m_assessorref26_Small_lp1]
    rw [if_pos (ltB (len_lt hk)), idx_nat hk]
    simp only [bsm]
    rw [inK_up (len_lt hk) hl]
    by_cases h : a.length ≤ 30
    · rw [if_neg (by simp; omega)]; simp [h]
    · rw [if_pos (by simp; omega)]; simp [h]
  · simp only [m_assessorref26_Small_lp1]
    rw [if_neg ltB']
  · rw [any_not_all]
    cases f.clauses.all (fun c => decide (c.length ≤ 30)) <;> rfl
def mdF : Int → List Int → Bool
  | _, [] => true
  | i, l :: r => (decide (l = i) || decide (l = -i)) && mdF (i + 1) r
theorem clF_mem {v : Int} : ∀ {t : Int} {c : List Int}, 0 ≤ t → clF v t c = true → ∀ l ∈ c, -v ≤ l ∧ l ≤ v ∧ t < vr l
  | _, [], _, _, l, h => by simp at h
  | t, x :: c, ht, h, l, hl => by
    unfold clF at h
    simp only [Bool.and_eq_true, decide_eq_true_eq] at h
    rcases List.mem_cons.1 hl with rfl | hl
    · exact ⟨h.1.1.1, h.1.1.2, h.1.2⟩
    · have := clF_mem (vr_nn x) h.2 l hl
      exact ⟨this.1, this.2.1, by omega⟩
theorem valid_bnd {f : Formula} (h : validB f = true) : 0 ≤ f.vars ∧ f.vars ≤ 65536 ∧ f.clauses.length ≤ 262144 ∧ ∀ c ∈ f.clauses, clF f.vars 0 c = true := by
  unfold validB at h
  simp only [Bool.and_eq_true, decide_eq_true_eq, List.all_eq_true] at h
  exact ⟨h.1.1.1, h.1.1.2, h.1.2, h.2⟩
theorem valid_lit {f : Formula} (h : validB f = true) {c : List Int} (hc : c ∈ f.clauses) {l : Int} (hl : l ∈ c) : -f.vars ≤ l ∧ l ≤ f.vars ∧ 0 < vr l ∧ vr l ≤ f.vars := by
  have := clF_mem (Int.le_refl 0) ((valid_bnd h).2.2.2 c hc) l hl
  exact ⟨this.1, this.2.1, this.2.2, vr_le.2 ⟨this.1, this.2.1⟩⟩
end Go.Proofs.YtfajmelamonolaaGreatDoor

/- Unit propagation: what follows, and what the reference's Closure and Propagate compute. -/
set_option linter.unusedVariables false
set_option linter.unusedSimpArgs false
namespace Go.Proofs.YtfajmelamonolaaGreatDoor
open Go.RowKit
inductive UP (F : List (List Int)) (S : List Int) : Int → Prop
  | start {l : Int} : l ∈ S → UP F S l
  | unit {c : List Int} {x : Int} : c ∈ F → x ∈ c → (∀ y ∈ c, y ≠ x → UP F S (-y)) → UP F S x
def Fails (F : List (List Int)) (S : List Int) : Prop := (∃ l, UP F S l ∧ UP F S (-l)) ∨ ∃ c ∈ F, ∀ y ∈ c, UP F S (-y)
structure Lits (n : Int) (F : List (List Int)) (S : List Int) : Prop where
  nn : 0 ≤ n ∧ n ≤ 65536
  cl : ∀ c ∈ F, ∀ y ∈ c, y ≠ 0 ∧ vr y ≤ n
  st : ∀ y ∈ S, y ≠ 0 ∧ vr y ≤ n
  nd : ∀ c ∈ F, c.Nodup
theorem UP.lit {n : Int} {F : List (List Int)} {S : List Int} (h : Lits n F S) {l : Int} (hl : UP F S l) : l ≠ 0 ∧ vr l ≤ n := by
  cases hl with
  | start hs => exact h.st _ hs
  | unit hc hx _ => exact h.cl _ hc _ hx
def gv (val : List Int) (l : Int) : Option Int := val[(vr l).toNat]?
theorem gv_neg (val : List Int) (l : Int) : gv val (-l) = gv val l := by unfold gv; rw [vr_neg]
structure ValOk (n : Int) (F : List (List Int)) (S : List Int) (val : List Int) : Prop where
  len : (val.length : Int) = n + 1
  own : ∀ (v : Nat) x, val[v]? = some x → x = 0 ∨ (x ≠ 0 ∧ vr x = v)
  sound : ∀ (v : Nat) x, val[v]? = some x → x ≠ 0 → UP F S x
theorem ValOk.get {n : Int} {F : List (List Int)} {S : List Int} {val : List Int} (h : ValOk n F S val) {l : Int} (hl : vr l ≤ n) : ∃ x, gv val l = some x ∧ idx val (vr l) = some x ∧ (x = 0 ∨ x = l ∨ x = -l) := by
  have h0 := vr_nn l
  obtain ⟨x, hx⟩ := get_of_lt (show (vr l).toNat < val.length by have := h.len; omega)
  refine ⟨x, hx, idx_of h0 hx, ?_⟩
  rcases h.own _ x hx with h1 | ⟨_, h1⟩
  · exact Or.inl h1
  · exact Or.inr (vr_eq.1 (by omega))
theorem ValOk.up {n : Int} {F : List (List Int)} {S : List Int} {val : List Int} (h : ValOk n F S val) {l : Int} (h0 : l ≠ 0) (hl : gv val l = some l) : UP F S l := h.sound _ l hl h0
theorem ValOk.set {n : Int} {F : List (List Int)} {S : List Int} {val : List Int} (h : ValOk n F S val) {l : Int} (h0 : l ≠ 0) (hl : vr l ≤ n) (hu : UP F S l) : ValOk n F S (val.set (vr l).toNat l) := by
  have hv := vr_nn l
  refine ⟨by rw [List.length_set]; exact h.len, fun v x hx => ?_, fun v x hx hx0 => ?_⟩
  · rw [List.getElem?_set] at hx
    split at hx
    · rename_i e
      split at hx
      · obtain rfl := Option.some.inj hx
        exact Or.inr ⟨h0, by omega⟩
      · cases hx
    · exact h.own v x hx
  · rw [List.getElem?_set] at hx
    split at hx
    · split at hx
      · obtain rfl := Option.some.inj hx; exact hu
      · cases hx
    · exact h.sound v x hx hx0
theorem gv_set {n : Int} {val : List Int} {l m : Int} (hlen : (val.length : Int) = n + 1) (hl : vr l ≤ n) : gv (val.set (vr l).toNat l) m = if vr m = vr l then some l else gv val m := by
  unfold gv
  have h1 := vr_nn l
  have h2 := vr_nn m
  rw [List.getElem?_set]
  by_cases e : vr m = vr l
  · rw [if_pos (by omega), if_pos (by omega), if_pos e]
  · rw [if_neg (by omega), if_neg e]
def Good (val c : List Int) : Prop := (∃ y ∈ c, gv val y = some y) ∨ ∃ y ∈ c, ∃ z ∈ c, y ≠ z ∧ gv val y = some 0 ∧ gv val z = some 0
theorem closed_up {n : Int} {F : List (List Int)} {S : List Int} {val : List Int} (hL : Lits n F S) (h : ValOk n F S val) (hs : ∀ l ∈ S, gv val l = some l) (hg : ∀ c ∈ F, Good val c) : ∀ {l}, UP F S l → gv val l = some l := by
  intro l hl
  induction hl with
  | start hm => exact hs _ hm
  | @unit c x hc hx hy ih =>
    rcases hg c hc with ⟨y, hyc, h1⟩ | ⟨y, hyc, z, hzc, hyz, h1, h2⟩
    · by_cases e : y = x
      · rw [← e]; exact h1
      · have := ih y hyc e
        rw [gv_neg, h1] at this
        have := Option.some.inj this
        exact absurd (show y = 0 by omega) (hL.cl c hc y hyc).1
    · by_cases e : y = x
      · have := ih z hzc (by rw [← e]; exact fun e' => hyz e'.symm)
        rw [gv_neg, h2] at this
        have := Option.some.inj this
        exact absurd (show z = 0 by omega) (hL.cl c hc z hzc).1
      · have := ih y hyc e
        rw [gv_neg, h1] at this
        have := Option.some.inj this
        exact absurd (show y = 0 by omega) (hL.cl c hc y hyc).1
theorem closed_ok {n : Int} {F : List (List Int)} {S : List Int} {val : List Int} (hL : Lits n F S) (h : ValOk n F S val) (hs : ∀ l ∈ S, gv val l = some l) (hg : ∀ c ∈ F, Good val c) : ¬ Fails F S := by
  rintro (⟨l, h1, h2⟩ | ⟨c, hc, hy⟩)
  · have e1 := closed_up hL h hs hg h1
    have e2 := closed_up hL h hs hg h2
    rw [gv_neg, e1] at e2
    have := Option.some.inj e2
    exact (h1.lit hL).1 (by omega)
  · rcases hg c hc with ⟨y, hyc, h1⟩ | ⟨y, hyc, z, hzc, hyz, h1, h2⟩
    · have := closed_up hL h hs hg (hy y hyc)
      rw [gv_neg, h1] at this
      have := Option.some.inj this
      exact (hL.cl c hc y hyc).1 (by omega)
    · have := closed_up hL h hs hg (hy y hyc)
      rw [gv_neg, h1] at this
      have := Option.some.inj this
      exact (hL.cl c hc y hyc).1 (by omega)
def sOk (v x : Int) : Bool := decide (x ≠ 0) && decide (-v ≤ x) && decide (x ≤ v)
def PropOk (f : Formula) (S : List Int) (r : List Int × Bool × Int) : Prop :=
  if validB f = true ∧ ∀ x ∈ S, sOk f.vars x = true then
    r.2.2 = 0 ∧ ((r.2.1 = true ∧ ¬ Fails f.clauses S ∧ (r.1.Pairwise fun x y => vr x < vr y) ∧ ∀ x, x ∈ r.1 ↔ UP f.clauses S x) ∨ (r.2.1 = false ∧ r.1 = [] ∧ Fails f.clauses S))
  else r = ([], false, 1)
theorem PropOk.eq {f : Formula} {S : List Int} {r q : List Int × Bool × Int} (h1 : PropOk f S r) (h2 : PropOk f S q) : r = q := by
  unfold PropOk at *
  split at h1
  · rename_i hv
    rw [if_pos hv] at h2
    obtain ⟨r1, r2, r3⟩ := r
    obtain ⟨q1, q2, q3⟩ := q
    obtain ⟨e1, h1⟩ := h1
    obtain ⟨e2, h2⟩ := h2
    simp only at e1 e2 h1 h2
    subst e1 e2
    rcases h1 with ⟨rfl, a1, a2, a3⟩ | ⟨rfl, rfl, a1⟩ <;> rcases h2 with ⟨rfl, b1, b2, b3⟩ | ⟨rfl, rfl, b1⟩
    · rw [rising_ext (r := fun x y => vr x < vr y) (fun a => by omega) (fun a b c h1 h2 => by omega) a2 b2 (fun x => by rw [a3, b3])]
    · exact absurd b1 a1
    · exact absurd a1 b1
    · rfl
  · rename_i hv
    rw [if_neg hv] at h2
    rw [h1, h2]
end Go.Proofs.YtfajmelamonolaaGreatDoor

/- Clauses of which two literals are watched: what holds of the lists whatever is looked at next. No program in sight. -/
set_option linter.unusedVariables false
set_option linter.unusedSimpArgs false
namespace Go.Proofs.YtfajmelamonolaaGreatDoor
open Go.RowKit
def ixL (l : Int) : Nat := (if l < 0 then -2 * l + 1 else 2 * l).toNat
theorem ixL_inj {l m : Int} (h : ixL l = ixL m) : l = m := by
  unfold ixL at h; split at h <;> split at h <;> omega
def Pair (c : List Int) (w o : Int) : Prop := (c[0]? = some w ∧ c[1]? = some o) ∨ (c[1]? = some w ∧ c[0]? = some o)
theorem Pair.comm {c : List Int} {w o : Int} (h : Pair c w o) : Pair c o w := by
  rcases h with ⟨a, b⟩ | ⟨a, b⟩
  · exact Or.inr ⟨b, a⟩
  · exact Or.inl ⟨b, a⟩
theorem Pair.mem {c : List Int} {w o : Int} (h : Pair c w o) : w ∈ c ∧ o ∈ c := by
  rcases h with ⟨a, b⟩ | ⟨a, b⟩
  · exact ⟨mem_get a, mem_get b⟩
  · exact ⟨mem_get a, mem_get b⟩
theorem nodup_ix {α : Type} : ∀ {c : List α}, c.Nodup → ∀ {i j : Nat} {a : α}, c[i]? = some a → c[j]? = some a → i = j
  | [], _, i, j, a, h, _ => by simp at h
  | x :: c, hn, 0, 0, a, _, _ => rfl
  | x :: c, hn, 0, j + 1, a, h1, h2 => by
    simp only [List.getElem?_cons_zero, Option.some.injEq] at h1
    rw [List.getElem?_cons_succ] at h2
    exact absurd (h1 ▸ mem_get h2) (List.nodup_cons.1 hn).1
  | x :: c, hn, i + 1, 0, a, h1, h2 => by
    simp only [List.getElem?_cons_zero, Option.some.injEq] at h2
    rw [List.getElem?_cons_succ] at h1
    exact absurd (h2 ▸ mem_get h1) (List.nodup_cons.1 hn).1
  | x :: c, hn, i + 1, j + 1, a, h1, h2 => by
    rw [List.getElem?_cons_succ] at h1 h2
    rw [nodup_ix (List.nodup_cons.1 hn).2 h1 h2]
theorem Pair.ne {c : List Int} {w o : Int} (hn : c.Nodup) (h : Pair c w o) : w ≠ o := by
  rintro rfl
  rcases h with ⟨a, b⟩ | ⟨a, b⟩
  · have := nodup_ix hn a b; omega
  · have := nodup_ix hn a b; omega
theorem Pair.other {c : List Int} {l o w p : Int} (h : Pair c l o) (h' : Pair c w p) : (w = l ∧ p = o) ∨ (w = o ∧ p = l) := by
  rcases h with ⟨a, b⟩ | ⟨a, b⟩ <;> rcases h' with ⟨a', b'⟩ | ⟨a', b'⟩
  · exact Or.inl ⟨Option.some.inj (a'.symm.trans a), Option.some.inj (b'.symm.trans b)⟩
  · exact Or.inr ⟨Option.some.inj (a'.symm.trans b), Option.some.inj (b'.symm.trans a)⟩
  · exact Or.inr ⟨Option.some.inj (a'.symm.trans b), Option.some.inj (b'.symm.trans a)⟩
  · exact Or.inl ⟨Option.some.inj (a'.symm.trans a), Option.some.inj (b'.symm.trans b)⟩
theorem UP.mono {F G : List (List Int)} {S T : List Int} (hF : ∀ c ∈ F, c ∈ G) (hS : ∀ x ∈ S, x ∈ T) : ∀ {x}, UP F S x → UP G T x := by
  intro x h
  induction h with
  | start h => exact .start (hS _ h)
  | unit hc hx _ ih => exact .unit (hF _ hc) hx ih
structure Eng (n : Int) (F : List (List Int)) (S : List Int) (np nc : Nat) (D : Nat → Int → Prop) (val trail : List Int) (ws : List (List Nat)) (cl : List (List Int)) : Prop where
  vo : ValOk n F S val
  tr : ∀ x, x ∈ trail ↔ x ≠ 0 ∧ gv val x = some x
  nd : trail.Nodup
  nn : np ≤ nc ∧ nc ≤ trail.length
  bs : ∀ x ∈ trail.take nc, UP F [] x
  wl : (ws.length : Int) = 2 * n + 2
  ok : ∀ (id : Nat) c, cl[id]? = some c → 2 ≤ c.length ∧ c.Nodup ∧ ∀ y ∈ c, y ≠ 0 ∧ vr y ≤ n
  src : ∀ (id : Nat) c, cl[id]? = some c → ∃ o ∈ F, (∀ y ∈ c, y ∈ o) ∧ ∀ y ∈ o, y ∉ c → -y ∈ trail.take nc
  cov : ∀ o ∈ F, (∃ y ∈ o, y ∈ trail.take nc) ∨ ∃ (id : Nat) (c : List Int), cl[id]? = some c ∧ ∀ y ∈ c, y ∈ o
  row : ∀ (r : Nat) ids, ws[r]? = some ids → ids.Nodup ∧ ∀ id, id ∈ ids ↔ ∃ c w o, cl[id]? = some c ∧ Pair c w o ∧ ixL w = r
  base : ∀ (id : Nat) c w o, cl[id]? = some c → Pair c w o → -w ∈ trail.take np → o ∈ trail.take np
  pr : ∀ (id : Nat) c w o, cl[id]? = some c → Pair c w o → D id w → o ∈ trail
section
variable {n : Int} {F : List (List Int)} {S : List Int} {np nc : Nat} {D : Nat → Int → Prop} {val trail : List Int} {ws : List (List Nat)} {cl : List (List Int)}
theorem Eng.less (h : Eng n F S np nc D val trail ws cl) {D' : Nat → Int → Prop} (hD : ∀ id w, D' id w → D id w) : Eng n F S np nc D' val trail ws cl :=
  { h with pr := fun id c w o h1 h2 h3 => h.pr id c w o h1 h2 (hD _ _ h3) }
theorem Eng.up (h : Eng n F S np nc D val trail ws cl) {x : Int} (hx : x ∈ trail) : UP F S x := h.vo.up ((h.tr x).1 hx).1 ((h.tr x).1 hx).2
theorem Eng.opp (h : Eng n F S np nc D val trail ws cl) {x : Int} (hx : x ∈ trail) (hn : -x ∈ trail) : False := by
  have h1 := (h.tr x).1 hx
  have h2 := (h.tr (-x)).1 hn
  rw [gv_neg, h1.2] at h2
  have := Option.some.inj h2.2
  exact h1.1 (by omega)
theorem Eng.cases (h : Eng n F S np nc D val trail ws cl) {x : Int} (h0 : x ≠ 0) (hx : vr x ≤ n) : (gv val x = some x ∧ x ∈ trail) ∨ (gv val x = some (-x) ∧ -x ∈ trail) ∨ (gv val x = some 0 ∧ x ∉ trail ∧ -x ∉ trail) := by
  obtain ⟨y, h1, _, h2⟩ := h.vo.get hx
  rcases h2 with rfl | rfl | rfl
  · refine Or.inr (Or.inr ⟨h1, fun hm => ?_, fun hm => ?_⟩)
    · have := ((h.tr x).1 hm).2; rw [h1] at this; exact h0 (Option.some.inj this).symm
    · have := ((h.tr (-x)).1 hm).2; rw [gv_neg, h1] at this; have := Option.some.inj this; omega
  · exact Or.inl ⟨h1, (h.tr _).2 ⟨h0, h1⟩⟩
  · exact Or.inr (Or.inl ⟨h1, (h.tr _).2 ⟨by omega, by rw [gv_neg]; exact h1⟩⟩)
theorem Eng.done (h : Eng n F S np nc D val trail ws cl) {id : Nat} {c : List Int} {l o : Int} (hc : cl[id]? = some c) (hp : Pair c l o) (ho : o ∈ trail) : Eng n F S np nc (fun i w => D i w ∨ (i = id ∧ w = l)) val trail ws cl := by
  refine { h with pr := fun i c' w p h1 h2 h3 => ?_ }
  rcases h3 with h3 | ⟨rfl, rfl⟩
  · exact h.pr i c' w p h1 h2 h3
  · obtain rfl := Option.some.inj (hc.symm.trans h1)
    rcases hp.other h2 with ⟨_, rfl⟩ | ⟨e, _⟩
    · exact ho
    · exact absurd e (hp.ne (h.ok _ _ hc).2.1)
structure Same (c c' : List Int) : Prop where
  len : c'.length = c.length
  nd : c'.Nodup
  mem : ∀ y, y ∈ c' ↔ y ∈ c
theorem get_set_cases {α : Type} {l : List α} {i j : Nat} {a b : α} (h : (l.set i a)[j]? = some b) : (j = i ∧ b = a) ∨ (j ≠ i ∧ l[j]? = some b) := by
  rw [List.getElem?_set] at h
  split at h
  · rename_i e
    split at h
    · exact Or.inl ⟨e.symm, (Option.some.inj h).symm⟩
    · cases h
  · rename_i e
    exact Or.inr ⟨fun e' => e e'.symm, h⟩
theorem get_set_ne {α : Type} {l : List α} {i j : Nat} {a : α} (h : j ≠ i) : (l.set i a)[j]? = l[j]? := by
  rw [List.getElem?_set, if_neg (fun e => h e.symm)]
theorem get_set_eq {α : Type} {l : List α} {i : Nat} {a b : α} (h : l[i]? = some b) : (l.set i a)[i]? = some a := by
  rw [List.getElem?_set, if_pos rfl, if_pos (List.getElem?_eq_some_iff.1 h).1]
theorem Eng.turn (h : Eng n F S np nc D val trail ws cl) {id : Nat} {c c' : List Int} (hc : cl[id]? = some c) (hs : Same c c') (hp : ∀ w o, Pair c' w o ↔ Pair c w o) : Eng n F S np nc D val trail ws (cl.set id c') := by
  have back : ∀ (i : Nat) d, (cl.set id c')[i]? = some d → ∃ d0, cl[i]? = some d0 ∧ (∀ y, y ∈ d ↔ y ∈ d0) ∧ ∀ w o, Pair d w o ↔ Pair d0 w o := fun i d hd => by
    rcases get_set_cases hd with ⟨rfl, rfl⟩ | ⟨_, hd⟩
    · exact ⟨c, hc, hs.mem, hp⟩
    · exact ⟨d, hd, fun _ => Iff.rfl, fun _ _ => Iff.rfl⟩
  have forth : ∀ (i : Nat) d, cl[i]? = some d → ∃ d', (cl.set id c')[i]? = some d' ∧ (∀ y, y ∈ d' ↔ y ∈ d) ∧ ∀ w o, Pair d' w o ↔ Pair d w o := fun i d hd => by
    by_cases e : i = id
    · subst e
      obtain rfl := Option.some.inj (hc.symm.trans hd)
      exact ⟨c', get_set_eq hc, hs.mem, hp⟩
    · exact ⟨d, by rw [get_set_ne e]; exact hd, fun _ => Iff.rfl, fun _ _ => Iff.rfl⟩
  refine { h with ok := fun i d hd => ?_, src := fun i d hd => ?_, cov := fun o ho => ?_, row := fun r ids hr => ?_, base := fun i d w o hd hw hb => ?_, pr := fun i d w o hd hw hb => ?_ }
  · rcases get_set_cases hd with ⟨rfl, rfl⟩ | ⟨_, hd⟩
    · have := h.ok _ _ hc
      exact ⟨by rw [hs.len]; exact this.1, hs.nd, fun y hy => this.2.2 y ((hs.mem y).1 hy)⟩
    · exact h.ok _ _ hd
  · obtain ⟨d0, h1, h2, _⟩ := back i d hd
    obtain ⟨o, ho, h3, h4⟩ := h.src i d0 h1
    exact ⟨o, ho, fun y hy => h3 y ((h2 y).1 hy), fun y hy hn => h4 y hy fun hm => hn ((h2 y).2 hm)⟩
  · rcases h.cov o ho with h1 | ⟨i, d, h1, h2⟩
    · exact Or.inl h1
    · obtain ⟨d', h3, h4, _⟩ := forth i d h1
      exact Or.inr ⟨i, d', h3, fun y hy => h2 y ((h4 y).1 hy)⟩
  · obtain ⟨h1, h2⟩ := h.row r ids hr
    refine ⟨h1, fun i => (h2 i).trans ⟨?_, ?_⟩⟩
    · rintro ⟨d, w, o, h3, h4, h5⟩
      obtain ⟨d', h6, _, h7⟩ := forth i d h3
      exact ⟨d', w, o, h6, (h7 w o).2 h4, h5⟩
    · rintro ⟨d, w, o, h3, h4, h5⟩
      obtain ⟨d0, h6, _, h7⟩ := back i d h3
      exact ⟨d0, w, o, h6, (h7 w o).1 h4, h5⟩
  · obtain ⟨d0, h1, _, h2⟩ := back i d hd
    exact h.base i d0 w o h1 ((h2 w o).1 hw) hb
  · obtain ⟨d0, h1, _, h2⟩ := back i d hd
    exact h.pr i d0 w o h1 ((h2 w o).1 hw) hb
theorem Eng.hold (h : Eng n F S np nc D val trail ws cl) {x : Int} (h0 : x ≠ 0) (hx : vr x ≤ n) (hz : gv val x = some 0) (hu : UP F S x) : Eng n F S np nc D (val.set (vr x).toNat x) (trail ++ [x]) ws cl := by
  have hnx : x ∉ trail := fun hm => by have := ((h.tr x).1 hm).2; rw [hz] at this; exact h0 (Option.some.inj this).symm
  have hnn : -x ∉ trail := fun hm => by have := ((h.tr (-x)).1 hm).2; rw [gv_neg, hz] at this; have := Option.some.inj this; omega
  have ht : ∀ k, k ≤ trail.length → (trail ++ [x]).take k = trail.take k := fun k hk => List.take_append_of_le_length hk
  have e1 := ht np (Nat.le_trans h.nn.1 h.nn.2)
  have e2 := ht nc h.nn.2
  refine { vo := h.vo.set h0 hx hu, tr := fun y => ?_, nd := ?_, nn := ⟨h.nn.1, by rw [List.length_append]; have := h.nn.2; omega⟩, bs := by rw [e2]; exact h.bs, wl := h.wl, ok := h.ok, src := by rw [e2]; exact h.src, cov := by rw [e2]; exact h.cov, row := h.row, base := by rw [e1]; exact h.base, pr := fun id c w o a b d => List.mem_append_left _ (h.pr id c w o a b d) }
  · rw [gv_set h.vo.len hx, List.mem_append, List.mem_singleton]
    by_cases e : vr y = vr x
    · rw [if_pos e]
      rcases vr_eq.1 e with rfl | rfl
      · exact ⟨fun _ => ⟨h0, rfl⟩, fun _ => Or.inr rfl⟩
      · constructor
        · rintro (hm | hm)
          · exact absurd hm hnn
          · omega
        · rintro ⟨_, hm⟩
          have := Option.some.inj hm; omega
    · rw [if_neg e]
      refine ⟨fun hm => (h.tr y).1 (hm.resolve_right fun e' => e (by rw [e'])), fun hm => Or.inl ((h.tr y).2 hm)⟩
  · rw [List.nodup_append]
    exact ⟨h.nd, by simp, fun a ha b hb => by rw [List.mem_singleton] at hb; subst hb; exact fun e => hnx (e ▸ ha)⟩
theorem Eng.unit (h : Eng n F S np nc D val trail ws cl) {id : Nat} {c : List Int} {x : Int} (hc : cl[id]? = some c) (hx : x ∈ c) (hall : ∀ y ∈ c, y ≠ x → -y ∈ trail) : UP F S x := by
  obtain ⟨o, ho, h1, h2⟩ := h.src id c hc
  refine .unit ho (h1 x hx) fun y hy hne => h.up ?_
  by_cases hm : y ∈ c
  · exact hall y hm hne
  · exact List.mem_of_mem_take (h2 y hy hm)
theorem Eng.fail (h : Eng n F S np nc D val trail ws cl) {id : Nat} {c : List Int} (hc : cl[id]? = some c) (hall : ∀ y ∈ c, -y ∈ trail) : Fails F S := by
  obtain ⟨o, ho, h1, h2⟩ := h.src id c hc
  refine Or.inr ⟨o, ho, fun y hy => h.up ?_⟩
  by_cases hm : y ∈ c
  · exact hall y hm
  · exact List.mem_of_mem_take (h2 y hy hm)
theorem Eng.move (h : Eng n F S np nc D val trail ws cl) {id : Nat} {c c' : List Int} {l o y : Int} {V1 V2 R : List Nat} (hc : cl[id]? = some c) (hs : Same c c') (hp : Pair c l o) (hp' : Pair c' y o) (hyl : y ≠ l) (hyo : y ≠ o)
    (hl : -l ∈ trail) (hy : -y ∉ trail) (ho : o ∉ trail) (hD : ∀ i w, D i w → -w ∈ trail) (hr : ws[ixL l]? = some (V1 ++ id :: V2)) (hR : ws[ixL y]? = some R) :
    Eng n F S np nc D val trail ((ws.set (ixL y) (R ++ [id])).set (ixL l) (V1 ++ V2)) (cl.set id c') := by
  have hlo := hp.ne (h.ok _ _ hc).2.1
  have hix : ixL y ≠ ixL l := fun e => hyl (ixL_inj e)
  refine { vo := h.vo, tr := h.tr, nd := h.nd, nn := h.nn, bs := h.bs, wl := by rw [List.length_set, List.length_set]; exact h.wl, ok := fun i d hd => ?_, src := fun i d hd => ?_, cov := fun q hq => ?_, row := fun r ids hrr => ?_, base := fun i d w p hd hw hb => ?_, pr := fun i d w p hd hw hb => ?_ }
  · rcases get_set_cases hd with ⟨rfl, rfl⟩ | ⟨_, hd⟩
    · have := h.ok _ _ hc
      exact ⟨by rw [hs.len]; exact this.1, hs.nd, fun y hy => this.2.2 y ((hs.mem y).1 hy)⟩
    · exact h.ok _ _ hd
  · rcases get_set_cases hd with ⟨rfl, rfl⟩ | ⟨_, hd⟩
    · obtain ⟨q, hq, h3, h4⟩ := h.src _ c hc
      exact ⟨q, hq, fun z hz => h3 z ((hs.mem z).1 hz), fun z hz hn => h4 z hz fun hm => hn ((hs.mem z).2 hm)⟩
    · exact h.src _ _ hd
  · rcases h.cov q hq with h1 | ⟨i, d, h1, h2⟩
    · exact Or.inl h1
    · by_cases e : i = id
      · subst e
        obtain rfl := Option.some.inj (hc.symm.trans h1)
        exact Or.inr ⟨i, c', get_set_eq hc, fun z hz => h2 z ((hs.mem z).1 hz)⟩
      · exact Or.inr ⟨i, d, by rw [get_set_ne e]; exact h1, h2⟩
  ·
    have oth : ∀ i r', i ≠ id → ((∃ c w o, (cl.set id c')[i]? = some c ∧ Pair c w o ∧ ixL w = r') ↔ ∃ c w o, cl[i]? = some c ∧ Pair c w o ∧ ixL w = r') := fun i r' e => by rw [get_set_ne e]
    have own : ∀ r', (∃ d w p, (cl.set id c')[id]? = some d ∧ Pair d w p ∧ ixL w = r') ↔ (r' = ixL y ∨ r' = ixL o) := fun r' => by
      rw [get_set_eq hc]
      constructor
      · rintro ⟨d, w, p, h1, h2, h3⟩
        obtain rfl := Option.some.inj h1
        rcases hp'.other h2 with ⟨rfl, _⟩ | ⟨rfl, _⟩
        · exact Or.inl h3.symm
        · exact Or.inr h3.symm
      · rintro (rfl | rfl)
        · exact ⟨c', y, o, rfl, hp', rfl⟩
        · exact ⟨c', o, y, rfl, hp'.comm, rfl⟩
    have was : ∀ r', (∃ d w p, cl[id]? = some d ∧ Pair d w p ∧ ixL w = r') ↔ (r' = ixL l ∨ r' = ixL o) := fun r' => by
      constructor
      · rintro ⟨d, w, p, h1, h2, h3⟩
        obtain rfl := Option.some.inj (hc.symm.trans h1)
        rcases hp.other h2 with ⟨rfl, _⟩ | ⟨rfl, _⟩
        · exact Or.inl h3.symm
        · exact Or.inr h3.symm
      · rintro (rfl | rfl)
        · exact ⟨c, l, o, hc, hp, rfl⟩
        · exact ⟨c, o, l, hc, hp.comm, rfl⟩
    rcases get_set_cases hrr with ⟨rfl, rfl⟩ | ⟨hne, hrr⟩
    · obtain ⟨h1, h2⟩ := h.row _ _ hr
      have hn : id ∉ V1 ++ V2 := by
        intro hm
        rw [List.nodup_append] at h1
        obtain ⟨a1, a2, a3⟩ := h1
        rw [List.nodup_cons] at a2
        rcases List.mem_append.1 hm with hm | hm
        · exact a3 id hm id (List.mem_cons_self ..) rfl
        · exact a2.1 hm
      refine ⟨h1.sublist ((List.sublist_cons_self _ _).append_left _), fun i => ?_⟩
      by_cases e : i = id
      · subst e
        rw [own]
        refine ⟨fun hm => absurd hm hn, fun hm => ?_⟩
        rcases hm with hm | hm
        · exact absurd hm.symm hix
        · exact absurd (ixL_inj hm) hlo
      · rw [oth i _ e, ← h2 i]
        simp [e]
    · rcases get_set_cases hrr with ⟨rfl, rfl⟩ | ⟨hne2, hrr⟩
      · obtain ⟨h1, h2⟩ := h.row _ _ hR
        have hn : id ∉ R := fun hm => by
          rcases (was _).1 ((h2 id).1 hm) with e | e
          · exact hix e
          · exact hyo (ixL_inj e)
        refine ⟨?_, fun i => ?_⟩
        · rw [List.nodup_append]
          exact ⟨h1, by simp, fun a ha b hb => by rw [List.mem_singleton] at hb; subst hb; exact fun e => hn (e ▸ ha)⟩
        · by_cases e : i = id
          · subst e
            rw [own]
            exact ⟨fun _ => Or.inl rfl, fun _ => by simp⟩
          · rw [oth i _ e, ← h2 i]
            simp [e]
      · obtain ⟨h1, h2⟩ := h.row _ _ hrr
        refine ⟨h1, fun i => ?_⟩
        by_cases e : i = id
        · subst e
          rw [own, h2 i, was]
          exact ⟨fun hm => Or.inr (hm.resolve_left hne), fun hm => Or.inr (hm.resolve_left hne2)⟩
        · rw [oth i _ e, ← h2 i]
  · rcases get_set_cases hd with ⟨rfl, rfl⟩ | ⟨_, hd⟩
    · rcases hp'.other hw with ⟨rfl, _⟩ | ⟨rfl, _⟩
      · exact absurd (List.mem_of_mem_take hb) hy
      · have := h.base _ _ _ _ hc hp.comm hb
        exact (h.opp (List.mem_of_mem_take this) hl).elim
    · exact h.base _ _ _ _ hd hw hb
  · rcases get_set_cases hd with ⟨rfl, rfl⟩ | ⟨_, hd⟩
    · rcases hp'.other hw with ⟨rfl, _⟩ | ⟨rfl, rfl⟩
      · exact absurd (hD _ _ hb) hy
      · have := h.pr _ _ _ _ hc hp.comm hb
        exact (h.opp this hl).elim
    · exact h.pr _ _ _ _ hd hw hb
theorem Eng.closed (h : Eng n F S np nc D val trail ws cl) (hD : ∀ id w, -w ∈ trail → D id w) : ∀ o ∈ F, Good val o := by
  intro o ho
  rcases h.cov o ho with ⟨y, hy, hm⟩ | ⟨id, c, hc, hsub⟩
  · exact Or.inl ⟨y, hy, ((h.tr y).1 (List.mem_of_mem_take hm)).2⟩
  · obtain ⟨h1, h2, h3⟩ := h.ok id c hc
    obtain ⟨a, ha⟩ := get_of_lt (show 0 < c.length by omega)
    obtain ⟨b, hb⟩ := get_of_lt (show 1 < c.length by omega)
    have hp : Pair c a b := Or.inl ⟨ha, hb⟩
    have hA := h3 a (mem_get ha)
    have hB := h3 b (mem_get hb)
    have good : ∀ y ∈ c, y ∈ trail → Good val o := fun y hy hm => Or.inl ⟨y, hsub y hy, ((h.tr y).1 hm).2⟩
    rcases h.cases hA.1 hA.2 with ⟨_, hm⟩ | ⟨_, hm⟩ | ⟨ea, _, _⟩
    · exact good a (mem_get ha) hm
    · exact good b (mem_get hb) (h.pr id c a b hc hp (hD id a hm))
    · rcases h.cases hB.1 hB.2 with ⟨_, hm⟩ | ⟨_, hm⟩ | ⟨eb, _, _⟩
      · exact good b (mem_get hb) hm
      · exact good a (mem_get ha) (h.pr id c b a hc hp.comm (hD id b hm))
      · exact Or.inr ⟨a, hsub a (mem_get ha), b, hsub b (mem_get hb), hp.ne h2, ea, eb⟩
theorem Eng.rebase (h : Eng n F [] np nc D val trail ws cl) (hD : ∀ id w, -w ∈ trail → D id w) : Eng n F [] trail.length trail.length (fun _ w => -w ∈ trail) val trail ws cl := by
  have e : trail.take trail.length = trail := List.take_length
  refine { vo := h.vo, tr := h.tr, nd := h.nd, nn := ⟨Nat.le_refl _, Nat.le_refl _⟩, bs := fun x hx => h.up (by rw [e] at hx; exact hx), wl := h.wl, ok := h.ok, src := fun id c hc => ?_, cov := fun o ho => ?_, row := h.row, base := fun id c w o hc hp hb => ?_, pr := fun id c w o hc hp hb => h.pr id c w o hc hp (hD id w hb) }
  · obtain ⟨o, ho, h1, h2⟩ := h.src id c hc
    exact ⟨o, ho, h1, fun y hy hn => by rw [e]; exact List.mem_of_mem_take (h2 y hy hn)⟩
  · rcases h.cov o ho with ⟨y, hy, hm⟩ | h1
    · exact Or.inl ⟨y, hy, by rw [e]; exact List.mem_of_mem_take hm⟩
    · exact Or.inr h1
  · rw [e] at hb ⊢
    exact h.pr id c w o hc hp (hD id w hb)
theorem Eng.reset (h : Eng n F S np np D val trail ws cl) {val' : List Int} (hl : val'.length = val.length) (hv : ∀ (v : Nat), (∃ x ∈ trail.drop np, (vr x).toNat = v) → val'[v]? = some 0 ∨ val.length ≤ v) (hk : ∀ (v : Nat), (∀ x ∈ trail.drop np, (vr x).toNat ≠ v) → val'[v]? = val[v]?) (T : List Int) :
    Eng n F T np np (fun _ w => -w ∈ trail.take np) val' (trail.take np) ws cl := by
  have e : (trail.take np).take np = trail.take np := by rw [List.take_take, Nat.min_self]
  have hdis : ∀ x, x ∈ trail.take np → x ∉ trail.drop np := fun x h1 h2 => by
    have hn := h.nd
    rw [← List.take_append_drop np trail, List.nodup_append] at hn
    exact hn.2.2 x h1 x h2 rfl
  have sp : ∀ x, x ∈ trail → x ∈ trail.take np ∨ x ∈ trail.drop np := fun x hx => by
    rw [← List.take_append_drop np trail] at hx; exact List.mem_append.1 hx
  have stay : ∀ (v : Nat) x, val'[v]? = some x → x ≠ 0 → val[v]? = some x ∧ ∀ z ∈ trail.drop np, (vr z).toNat ≠ v := fun v x hx h0 => by
    by_cases hz : ∃ z ∈ trail.drop np, (vr z).toNat = v
    · rcases hv v hz with e1 | e1
      · rw [e1] at hx; exact absurd (Option.some.inj hx).symm h0
      · have := len_lt hx; omega
    · have hz' : ∀ z ∈ trail.drop np, (vr z).toNat ≠ v := fun z h1 h2 => hz ⟨z, h1, h2⟩
      rw [hk v hz'] at hx
      exact ⟨hx, hz'⟩
  have tr' : ∀ x, x ∈ trail.take np ↔ x ≠ 0 ∧ gv val' x = some x := fun x => by
    constructor
    · intro hx
      have h1 := (h.tr x).1 (List.mem_of_mem_take hx)
      refine ⟨h1.1, ?_⟩
      have : ∀ z ∈ trail.drop np, (vr z).toNat ≠ (vr x).toNat := fun z hz e1 => by
        have a := vr_nn z
        have b := vr_nn x
        rcases vr_eq.1 (show vr z = vr x by omega) with rfl | rfl
        · exact hdis _ hx hz
        · exact h.opp (List.mem_of_mem_take hx) (List.mem_of_mem_drop hz)
      unfold gv
      rw [hk _ this]
      exact h1.2
    · rintro ⟨h0, hx⟩
      obtain ⟨h1, h2⟩ := stay _ x hx h0
      have hm := (h.tr x).2 ⟨h0, h1⟩
      rcases sp x hm with hm | hm
      · exact hm
      · exact absurd rfl (h2 x hm)
  refine { vo := ⟨by have := h.vo.len; omega, fun v x hx => ?_, fun v x hx h0 => ?_⟩, tr := tr', nd := h.nd.sublist (List.take_sublist _ _), nn := ⟨Nat.le_refl _, by rw [List.length_take]; have := h.nn.2; omega⟩, bs := by rw [e]; exact h.bs, wl := h.wl, ok := h.ok, src := by rw [e]; exact h.src, cov := by rw [e]; exact h.cov, row := h.row, base := by rw [e]; exact h.base, pr := fun id c w o hc hp hb => h.base id c w o hc hp hb }
  · by_cases h0 : x = 0
    · exact Or.inl h0
    · exact h.vo.own v x (stay v x hx h0).1
  · have h1 := stay v x hx h0
    have h2 : gv val x = some x := by
      rcases h.vo.own v x h1.1 with e1 | ⟨_, e1⟩
      · exact absurd e1 h0
      · unfold gv; rw [e1]; simpa using h1.1
    have hm := (h.tr x).2 ⟨h0, h2⟩
    rcases sp x hm with hm | hm
    · exact (h.bs x hm).mono (fun _ h => h) (by simp)
    · have : (vr x).toNat = v := by
        rcases h.vo.own v x h1.1 with e1 | ⟨_, e1⟩
        · exact absurd e1 h0
        · omega
      exact absurd this (h1.2 x hm)
end
end Go.Proofs.YtfajmelamonolaaGreatDoor

/- Clauses of which two literals are watched: a further clause. No program in sight. -/
set_option linter.unusedVariables false
set_option linter.unusedSimpArgs false
namespace Go.Proofs.YtfajmelamonolaaGreatDoor
open Go.RowKit
theorem ValOk.mono {n : Int} {F G : List (List Int)} {S T val : List Int} (h : ValOk n F S val) (hF : ∀ c ∈ F, c ∈ G) (hS : ∀ x ∈ S, x ∈ T) : ValOk n G T val :=
  ⟨h.len, h.own, fun v x hx h0 => (h.sound v x hx h0).mono hF hS⟩
theorem Fails.mono {F G : List (List Int)} {S T : List Int} (hF : ∀ c ∈ F, c ∈ G) (hS : ∀ x ∈ S, x ∈ T) : Fails F S → Fails G T := by
  rintro (⟨l, a, b⟩ | ⟨c, hc, hy⟩)
  · exact Or.inl ⟨l, a.mono hF hS, b.mono hF hS⟩
  · exact Or.inr ⟨c, hF c hc, fun y h => (hy y h).mono hF hS⟩
section
variable {n : Int} {F : List (List Int)} {S : List Int} {np nc : Nat} {D : Nat → Int → Prop} {val trail : List Int} {ws : List (List Nat)} {cl : List (List Int)}
theorem Eng.assume (h : Eng n F [] np nc D val trail ws cl) (S : List Int) : Eng n F S np nc D val trail ws cl :=
  { h with vo := h.vo.mono (fun _ h => h) (by simp) }
theorem Eng.addSat (h : Eng n F S np nc D val trail ws cl) {q : List Int} {y : Int} (hy : y ∈ q) (hm : y ∈ trail.take nc) : Eng n (F ++ [q]) S np nc D val trail ws cl := by
  have hF : ∀ c ∈ F, c ∈ F ++ [q] := fun c hc => List.mem_append_left _ hc
  refine { h with vo := h.vo.mono hF (fun _ h => h), bs := fun x hx => (h.bs x hx).mono hF (fun _ h => h), src := fun id c hc => ?_, cov := fun o ho => ?_ }
  · obtain ⟨o, ho, h1⟩ := h.src id c hc
    exact ⟨o, hF o ho, h1⟩
  · rcases List.mem_append.1 ho with ho | ho
    · exact h.cov o ho
    · rw [List.mem_singleton] at ho
      subst ho
      exact Or.inl ⟨y, hy, hm⟩
theorem Eng.addUnit (h : Eng n F [] trail.length trail.length D val trail ws cl) {q : List Int} {x : Int} (hx : x ∈ q) (h0 : x ≠ 0) (hn : vr x ≤ n) (hz : gv val x = some 0) (hall : ∀ y ∈ q, y ≠ x → -y ∈ trail) :
    Eng n (F ++ [q]) [] trail.length (trail.length + 1) D (val.set (vr x).toNat x) (trail ++ [x]) ws cl := by
  have hF : ∀ c ∈ F, c ∈ F ++ [q] := fun c hc => List.mem_append_left _ hc
  have hu : UP (F ++ [q]) [] x := .unit (List.mem_append_right _ (List.mem_singleton.2 rfl)) hx fun y hy hne => (h.up (hall y hy hne)).mono hF (fun _ h => h)
  have hnx : x ∉ trail := fun hm => by have := ((h.tr x).1 hm).2; rw [hz] at this; exact h0 (Option.some.inj this).symm
  have hnn : -x ∉ trail := fun hm => by have := ((h.tr (-x)).1 hm).2; rw [gv_neg, hz] at this; have := Option.some.inj this; omega
  have e1 : (trail ++ [x]).take trail.length = trail := List.take_left' rfl
  have e2 : (trail ++ [x]).take (trail.length + 1) = trail ++ [x] := List.take_of_length_le (by simp)
  have e3 : trail.take trail.length = trail := List.take_length
  refine { vo := (h.vo.mono hF (fun _ h => h)).set h0 hn hu, tr := fun y => ?_, nd := ?_, nn := ⟨by omega, by simp⟩, bs := fun y hy => ?_, wl := h.wl, ok := h.ok, src := fun id c hc => ?_, cov := fun o ho => ?_, row := h.row, base := ?_, pr := fun id c w o a b d => List.mem_append_left _ (h.pr id c w o a b d) }
  · rw [gv_set h.vo.len hn, List.mem_append, List.mem_singleton]
    by_cases e : vr y = vr x
    · rw [if_pos e]
      rcases vr_eq.1 e with rfl | rfl
      · exact ⟨fun _ => ⟨h0, rfl⟩, fun _ => Or.inr rfl⟩
      · constructor
        · rintro (hm | hm)
          · exact absurd hm hnn
          · omega
        · rintro ⟨_, hm⟩
          have := Option.some.inj hm; omega
    · rw [if_neg e]
      refine ⟨fun hm => (h.tr y).1 (hm.resolve_right fun e' => e (by rw [e'])), fun hm => Or.inl ((h.tr y).2 hm)⟩
  · rw [List.nodup_append]
    exact ⟨h.nd, by simp, fun a ha b hb => by rw [List.mem_singleton] at hb; subst hb; exact fun e => hnx (e ▸ ha)⟩
  · rw [e2] at hy
    rcases List.mem_append.1 hy with hy | hy
    · exact (h.up hy).mono hF (fun _ h => h)
    · rw [List.mem_singleton.1 hy]; exact hu
  · obtain ⟨o, ho, h1, h2⟩ := h.src id c hc
    rw [e3] at h2
    exact ⟨o, hF o ho, h1, fun y hy hm => by rw [e2]; exact List.mem_append_left _ (h2 y hy hm)⟩
  · rw [e2]
    rcases List.mem_append.1 ho with ho | ho
    · rcases h.cov o ho with ⟨y, hy, hm⟩ | h1
      · rw [e3] at hm
        exact Or.inl ⟨y, hy, List.mem_append_left _ hm⟩
      · exact Or.inr h1
    · rw [List.mem_singleton] at ho
      subst ho
      exact Or.inl ⟨x, hx, List.mem_append_right _ (List.mem_singleton.2 rfl)⟩
  · rw [e1]
    intro id c w o a b d
    have := h.base id c w o a b
    rw [e3] at this
    exact this d
theorem Eng.addCl (h : Eng n F S np nc D val trail ws cl) {q d : List Int} {a b : Int} {Ra Rb : List Nat} (ha : d[0]? = some a) (hb : d[1]? = some b) (hnd : d.Nodup) (hlit : ∀ y ∈ d, y ≠ 0 ∧ vr y ≤ n) (hsub : ∀ y ∈ d, y ∈ q) (hout : ∀ y ∈ q, y ∉ d → -y ∈ trail.take nc)
    (hfa : -a ∉ trail) (hfb : -b ∉ trail) (hD : ∀ i w, D i w → -w ∈ trail) (hra : ws[ixL a]? = some Ra) (hrb : ws[ixL b]? = some Rb) :
    Eng n (F ++ [q]) S np nc D val trail ((ws.set (ixL a) (Ra ++ [cl.length])).set (ixL b) (Rb ++ [cl.length])) (cl ++ [d]) := by
  have hF : ∀ c ∈ F, c ∈ F ++ [q] := fun c hc => List.mem_append_left _ hc
  have hab : a ≠ b := by rintro rfl; have := nodup_ix hnd ha hb; omega
  have hix : ixL a ≠ ixL b := fun e => hab (ixL_inj e)
  have hp : Pair d a b := Or.inl ⟨ha, hb⟩
  have cases : ∀ (i : Nat) c, (cl ++ [d])[i]? = some c → (i = cl.length ∧ c = d) ∨ (i < cl.length ∧ cl[i]? = some c) := fun i c hc => by
    rw [List.getElem?_append] at hc
    split at hc
    · rename_i hi; exact Or.inr ⟨hi, hc⟩
    · rename_i hi
      rcases Nat.lt_or_ge (i - cl.length) 1 with h1 | h1
      · have e : i = cl.length := by omega
        subst e
        simp only [Nat.sub_self, List.getElem?_cons_zero, Option.some.injEq] at hc
        exact Or.inl ⟨rfl, hc.symm⟩
      · rw [List.getElem?_eq_none (by simpa using h1)] at hc; cases hc
  have old : ∀ (i : Nat) c, cl[i]? = some c → (cl ++ [d])[i]? = some c := fun i c hc => by
    rw [List.getElem?_append_left (len_lt hc)]; exact hc
  have new : (cl ++ [d])[cl.length]? = some d := by rw [List.getElem?_append_right (Nat.le_refl _)]; simp
  refine { vo := h.vo.mono hF (fun _ h => h), tr := h.tr, nd := h.nd, nn := h.nn, bs := fun x hx => (h.bs x hx).mono hF (fun _ h => h), wl := by rw [List.length_set, List.length_set]; exact h.wl, ok := fun i c hc => ?_, src := fun i c hc => ?_, cov := fun o ho => ?_, row := fun r ids hr => ?_, base := fun i c w o hc hw hbb => ?_, pr := fun i c w o hc hw hbb => ?_ }
  · rcases cases i c hc with ⟨_, rfl⟩ | ⟨_, hc⟩
    · exact ⟨by have := len_lt hb; omega, hnd, hlit⟩
    · exact h.ok i c hc
  · rcases cases i c hc with ⟨_, rfl⟩ | ⟨_, hc⟩
    · exact ⟨q, List.mem_append_right _ (List.mem_singleton.2 rfl), hsub, hout⟩
    · obtain ⟨o, ho, h1⟩ := h.src i c hc
      exact ⟨o, hF o ho, h1⟩
  · rcases List.mem_append.1 ho with ho | ho
    · rcases h.cov o ho with h1 | ⟨i, c, h1, h2⟩
      · exact Or.inl h1
      · exact Or.inr ⟨i, c, old i c h1, h2⟩
    · rw [List.mem_singleton] at ho
      subst ho
      exact Or.inr ⟨_, d, new, hsub⟩
  · have oth : ∀ i r', i ≠ cl.length → ((∃ c w o, (cl ++ [d])[i]? = some c ∧ Pair c w o ∧ ixL w = r') ↔ ∃ c w o, cl[i]? = some c ∧ Pair c w o ∧ ixL w = r') := fun i r' e => by
      constructor
      · rintro ⟨c, w, o, h1, h2⟩
        rcases cases i c h1 with ⟨e', _⟩ | ⟨_, h1⟩
        · exact absurd e' e
        · exact ⟨c, w, o, h1, h2⟩
      · rintro ⟨c, w, o, h1, h2⟩
        exact ⟨c, w, o, old i c h1, h2⟩
    have own : ∀ r', (∃ c w o, (cl ++ [d])[cl.length]? = some c ∧ Pair c w o ∧ ixL w = r') ↔ (r' = ixL a ∨ r' = ixL b) := fun r' => by
      rw [new]
      constructor
      · rintro ⟨c, w, o, h1, h2, h3⟩
        obtain rfl := Option.some.inj h1
        rcases hp.other h2 with ⟨rfl, _⟩ | ⟨rfl, _⟩
        · exact Or.inl h3.symm
        · exact Or.inr h3.symm
      · rintro (rfl | rfl)
        · exact ⟨d, a, b, rfl, hp, rfl⟩
        · exact ⟨d, b, a, rfl, hp.comm, rfl⟩
    have none_ : ∀ r' ids', ws[r']? = some ids' → cl.length ∉ ids' := fun r' ids' hr' hm => by
      obtain ⟨c, w, o, h1, _⟩ := ((h.row r' ids' hr').2 _).1 hm
      have := len_lt h1; omega
    have snoc : ∀ (R : List Nat), cl.length ∉ R → R.Nodup → (R ++ [cl.length]).Nodup := fun R h1 h2 => by
      rw [List.nodup_append]
      exact ⟨h2, by simp, fun x hx y hy => by rw [List.mem_singleton] at hy; subst hy; exact fun e => h1 (e ▸ hx)⟩
    rcases get_set_cases hr with ⟨rfl, rfl⟩ | ⟨hne, hr⟩
    · obtain ⟨h1, h2⟩ := h.row _ _ hrb
      refine ⟨snoc _ (none_ _ _ hrb) h1, fun i => ?_⟩
      by_cases e : i = cl.length
      · subst e; rw [own]; exact ⟨fun _ => Or.inr rfl, fun _ => by simp⟩
      · rw [oth i _ e, ← h2 i]; simp [e]
    · rcases get_set_cases hr with ⟨rfl, rfl⟩ | ⟨hne2, hr⟩
      · obtain ⟨h1, h2⟩ := h.row _ _ hra
        refine ⟨snoc _ (none_ _ _ hra) h1, fun i => ?_⟩
        by_cases e : i = cl.length
        · subst e; rw [own]; exact ⟨fun _ => Or.inl rfl, fun _ => by simp⟩
        · rw [oth i _ e, ← h2 i]; simp [e]
      · obtain ⟨h1, h2⟩ := h.row _ _ hr
        refine ⟨h1, fun i => ?_⟩
        by_cases e : i = cl.length
        · subst e
          rw [own]
          refine ⟨fun hm => absurd hm (none_ _ _ hr), fun hm => ?_⟩
          rcases hm with hm | hm
          · exact absurd hm hne2
          · exact absurd hm hne
        · rw [oth i _ e, ← h2 i]
  · rcases cases i c hc with ⟨_, rfl⟩ | ⟨_, hc⟩
    · rcases hp.other hw with ⟨rfl, _⟩ | ⟨rfl, _⟩
      · exact absurd (List.mem_of_mem_take hbb) hfa
      · exact absurd (List.mem_of_mem_take hbb) hfb
    · exact h.base i c w o hc hw hbb
  · rcases cases i c hc with ⟨_, rfl⟩ | ⟨_, hc⟩
    · rcases hp.other hw with ⟨rfl, _⟩ | ⟨rfl, _⟩
      · exact absurd (hD _ _ hbb) hfa
      · exact absurd (hD _ _ hbb) hfb
    · exact h.pr i c w o hc hw hbb
end
theorem Eng.start {n : Int} (h0 : 0 ≤ n) : Eng n [] [] 0 0 (fun _ w => -w ∈ ([] : List Int)) (List.replicate (n + 1).toNat 0) [] (List.replicate (2 * n + 2).toNat []) [] := by
  have hz : ∀ (v : Nat) x, (List.replicate (n + 1).toNat (0 : Int))[v]? = some x → x = 0 := fun v x hx => List.eq_of_mem_replicate (List.mem_of_getElem? hx)
  refine { vo := ⟨by rw [List.length_replicate]; omega, fun v x hx => Or.inl (hz v x hx), fun v x hx hne => absurd (hz v x hx) hne⟩, tr := fun x => ?_, nd := List.nodup_nil, nn := ⟨Nat.le_refl _, Nat.le_refl _⟩, bs := by simp, wl := by rw [List.length_replicate]; omega, ok := by simp, src := by simp, cov := by simp, row := fun r ids hr => ?_, base := by simp, pr := by simp }
  · refine ⟨fun hm => absurd hm (by simp), fun ⟨hne, hx⟩ => absurd (hz _ x hx) hne⟩
  · have : ids = [] := List.eq_of_mem_replicate (List.mem_of_getElem? hr)
    subst this
    exact ⟨List.nodup_nil, fun id => by simp⟩
end Go.Proofs.YtfajmelamonolaaGreatDoor

/- The engine of proofs: index, of, hold, and how the literals of a clause are looked at. -/
set_option linter.unusedVariables false
set_option linter.unusedSimpArgs false
namespace Go.Proofs.YtfajmelamonolaaGreatDoor
open Go.RowKit
theorem nodup_lt : ∀ (m : Nat) (l : List Nat), l.Nodup → (∀ x ∈ l, x < m) → l.length ≤ m
  | 0, [], _, _ => Nat.le_refl _
  | 0, x :: _, _, h => absurd (h x (List.mem_cons_self ..)) (by omega)
  | m + 1, l, hn, h => by
    have h1 := nodup_lt m (l.erase m) (hn.erase m) (fun x hx => by
      have h2 := h x (List.mem_of_mem_erase hx)
      have h3 : x ≠ m := fun e => by subst e; exact hn.not_mem_erase hx
      omega)
    by_cases hm : m ∈ l
    · rw [List.length_erase_of_mem hm] at h1; omega
    · rw [List.erase_of_not_mem hm] at h1; omega
section
variable {n : Int} {F : List (List Int)} {S : List Int} {np nc : Nat} {D : Nat → Int → Prop} {val trail : List Int} {ws : List (List Nat)} {cl : List (List Int)}
theorem Eng.rowLen (h : Eng n F S np nc D val trail ws cl) {r : Nat} {ids : List Nat} (hr : ws[r]? = some ids) : ids.length ≤ cl.length :=
  nodup_lt _ _ (h.row r ids hr).1 fun id hid => by
    obtain ⟨c, _, _, hc, _⟩ := ((h.row r ids hr).2 id).1 hid
    exact len_lt hc
theorem Eng.lit (h : Eng n F S np nc D val trail ws cl) {x : Int} (hx : x ∈ trail) : x ≠ 0 ∧ vr x ≤ n := by
  obtain ⟨h0, h1⟩ := (h.tr x).1 hx
  have h2 := len_lt h1
  have h3 := h.vo.len
  have h4 := vr_nn x
  exact ⟨h0, by omega⟩
theorem Eng.trailLen (h : Eng n F S np nc D val trail ws cl) (hn : 0 ≤ n) : (trail.length : Int) ≤ n := by
  have h1 := nodup_lt n.toNat (trail.map fun x => (vr x).toNat - 1) (by
    unfold List.Nodup
    rw [List.pairwise_map]
    refine List.Pairwise.imp_of_mem (fun {a b} ha hb hne he => ?_) h.nd
    have h1 := h.lit ha
    have h2 := h.lit hb
    have h3 := vr_nn a
    have h4 := vr_nn b
    have h5 : vr a ≠ 0 := fun e => h1.1 (vr_zero.1 e)
    have h6 : vr b ≠ 0 := fun e => h2.1 (vr_zero.1 e)
    rcases vr_eq.1 (show vr a = vr b by omega) with e | e
    · exact hne e
    · exact h.opp hb (e ▸ ha)) (fun x hx => by
    obtain ⟨y, hy, rfl⟩ := List.mem_map.1 hx
    have h1 := h.lit hy
    have h3 := vr_nn y
    have h5 : vr y ≠ 0 := fun e => h1.1 (vr_zero.1 e)
    omega)
  rw [List.length_map] at h1
  omega
theorem Eng.void (h : Eng n F S np nc D val trail ws cl) {id : Nat} {c : List Int} {l : Int} (hc : cl[id]? = some c) (hv : ∀ o, ¬ Pair c l o) : Eng n F S np nc (fun i w => D i w ∨ (i = id ∧ w = l)) val trail ws cl := by
  refine { h with pr := fun i c' w p h1 h2 h3 => ?_ }
  rcases h3 with h3 | ⟨rfl, rfl⟩
  · exact h.pr i c' w p h1 h2 h3
  · obtain rfl := Option.some.inj (hc.symm.trans h1)
    exact absurd h2 (hv p)
end
theorem index_ok {l : Int} (h : -1099511627776 ≤ l ∧ l ≤ 1099511627776) : m_proof_index l = some (ixL l : Int) := by
  unfold m_proof_index ixL
  by_cases h0 : l < 0
  · rw [if_pos (by simpa using h0), if_pos h0, inK_eq ⟨by omega, by omega⟩, bsm, inK_eq ⟨by omega, by omega⟩, bsm]
    congr 1; omega
  · rw [if_neg (by simpa using h0), if_neg h0, inK_eq ⟨by omega, by omega⟩, bsm]
    congr 1; omega
theorem ixL_bnd {l n : Int} (hl : vr l ≤ n) : (ixL l : Int) < 2 * n + 2 := by
  have h1 := vr_le.1 hl
  unfold ixL; split <;> omega
section
variable {n : Int} {F : List (List Int)} {S : List Int} {np nc : Nat} {D : Nat → Int → Prop} {val trail : List Int} {ws : List (List Nat)} {cl : List (List Int)}
theorem Eng.rowAt (h : Eng n F S np nc D val trail ws cl) {l : Int} (hl : vr l ≤ n) : ∃ R, ws[ixL l]? = some R :=
  get_of_lt (by have := ixL_bnd hl; have := h.wl; omega)
theorem of_ok (h : Eng n F S np nc D val trail ws cl) {l : Int} (h0 : l ≠ 0) (hl : vr l ≤ n) (hn : n ≤ 65536) {tr : List Int} {hd : Int} {W : List (List Nat) × List (List Int)} {fl : Bool} :
    ∃ r, m_proof_engine_of (PEng.mk val tr hd W fl) l = some r ∧ ((r = 1 ∧ l ∈ trail) ∨ (r = -1 ∧ -l ∈ trail) ∨ (r = 0 ∧ gv val l = some 0 ∧ l ∉ trail ∧ -l ∉ trail)) := by
  have hb := vr_le.1 hl
  unfold m_proof_engine_of
  have key : ∀ y, gv val l = some y → idx val (max l (0 - l)) = some y := fun y hy => idx_of (vr_nn l) hy
  rw [inK_eq ⟨by omega, by omega⟩, bsm]
  simp only
  rcases h.cases h0 hl with ⟨h1, h2⟩ | ⟨h1, h2⟩ | ⟨h1, h2, h3⟩
  · rw [key _ h1, bsm]
    exact ⟨1, by simp [h0], Or.inl ⟨rfl, h2⟩⟩
  · rw [key _ h1, bsm]
    have e1 : ¬ (-l = 0) := by omega
    have e2 : ¬ (-l = l) := by omega
    exact ⟨-1, by simp [e1, e2], Or.inr (Or.inl ⟨rfl, h2⟩)⟩
  · rw [key _ h1, bsm]
    exact ⟨0, by simp, Or.inr (Or.inr ⟨rfl, h1, h2, h3⟩)⟩
theorem hold_ok (h : Eng n F S np nc D val trail ws cl) {l : Int} (hl : vr l ≤ n) (hn : n ≤ 65536) (hn0 : 0 ≤ n) {hd : Int} {W : List (List Nat) × List (List Int)} {fl : Bool} :
    m_proof_engine_hold (PEng.mk val trail hd W fl) l = some (PEng.mk (val.set (vr l).toNat l) (trail ++ [l]) hd W fl) := by
  have hb := vr_le.1 hl
  have ht := h.trailLen hn0
  obtain ⟨y, h1, _, _⟩ := h.vo.get hl
  unfold m_proof_engine_hold
  rw [inK_eq ⟨by omega, by omega⟩, bsm]
  simp only
  rw [show idx val (max l (0 - l)) = some y from idx_of (vr_nn l) h1, bsm, app_ok (by simp; omega), bsm]
  rfl
theorem seek_ok (h : Eng n F S np nc D val trail ws cl) (hn : n ≤ 65536) {c : List Int} (hc : ∀ y ∈ c, y ≠ 0 ∧ vr y ≤ n) (hlen : 2 ≤ c.length) (hc4 : c.length ≤ 4294967296) {tr : List Int} {hd : Int} {W : List (List Nat) × List (List Int)} {fl : Bool} :
    ∃ b : Nat, loopM (fun s => m_proof_engine_propagate_lp3 W hd fl val tr c s) 2 = some (b : Int) ∧ 2 ≤ b ∧ b ≤ c.length ∧ (∀ j y, 2 ≤ j → j < b → c[j]? = some y → -y ∈ trail) ∧ (∀ y, c[b]? = some y → -y ∉ trail) := by
  have key : ∀ (m k : Nat), k + m = c.length → 2 ≤ k → (∀ j y, 2 ≤ j → j < k → c[j]? = some y → -y ∈ trail) →
      ∃ b : Nat, loopM (fun s => m_proof_engine_propagate_lp3 W hd fl val tr c s) (k : Int) = some (b : Int) ∧ 2 ≤ b ∧ b ≤ c.length ∧ (∀ j y, 2 ≤ j → j < b → c[j]? = some y → -y ∈ trail) ∧ (∀ y, c[b]? = some y → -y ∉ trail) := by
    intro m
    induction m with
    | zero =>
      intro k hk h2 hi
      obtain rfl : k = c.length := by omega
      refine ⟨c.length, loopM_done ?_, h2, Nat.le_refl _, hi, fun y hy => by rw [List.getElem?_eq_none (Nat.le_refl _)] at hy; cases hy⟩
      simp only [m_proof_engine_propagate_lp3, ltB', if_false, Bool.false_eq_true, bsm]
    | succ m ih =>
      intro k hk h2 hi
      have hlt : k < c.length := by omega
      obtain ⟨y, hy⟩ := get_of_lt hlt
      obtain ⟨r, hr, hcase⟩ := of_ok h (hc y (mem_get hy)).1 (hc y (mem_get hy)).2 hn (tr := tr) (hd := hd) (W := W) (fl := fl)
      by_cases hneg : -y ∈ trail
      · have er : r = -1 := by
          rcases hcase with ⟨_, e⟩ | ⟨e, _⟩ | ⟨_, _, _, e⟩
          · exact (h.opp e hneg).elim
          · exact e
          · exact absurd hneg e
        subst er
        obtain ⟨b, hb, h3⟩ := ih (k + 1) (by omega) (by omega) (fun j z hj2 hj hz => by
          by_cases e : j = k
          · subst e; rw [hy] at hz; exact Option.some.inj hz ▸ hneg
          · exact hi j z hj2 (by omega) hz)
        refine ⟨b, ?_, h3⟩
        rw [loopM_next (s' := ((k + 1 : Nat) : Int)) ?_]
        · exact hb
        · simp only [m_proof_engine_propagate_lp3, ltB hlt, if_true, idx_nat hy, bsm, hr, inK_up hlt (show c.length ≤ 9223372036854775807 by omega)]
          rfl
      · have er : ¬ r < 0 := by
          rcases hcase with ⟨e, _⟩ | ⟨_, e⟩ | ⟨e, _⟩
          · omega
          · exact absurd e hneg
          · omega
        refine ⟨k, loopM_done ?_, h2, by omega, hi, fun z hz => by rw [hy] at hz; exact Option.some.inj hz ▸ hneg⟩
        simp only [m_proof_engine_propagate_lp3, ltB hlt, if_true, idx_nat hy, bsm, hr, er, decide_false, if_false, Bool.false_eq_true]
  have := key (c.length - 2) 2 (by omega) (Nat.le_refl _) (fun j y h1 h2 => by omega)
  simpa using this
end
end Go.Proofs.YtfajmelamonolaaGreatDoor
