/-
  Regions that draw their order, where what an operation looks at may be turned by operations that wait for it. Plain theorems over any program.
-/
import Derived.Test.YtmfepkadggigpaaMut2
set_option linter.unusedVariables false
set_option linter.unusedSimpArgs false
namespace Go.Proofs.Ytmfepkadggigpaa
open Go.RowKit

/-- Facts on the world, each with the operations behind which it need hold no more. -/
abbrev Facts := List (List Nat × (World → Prop))
def alive (G : List Nat) (listed : Array Bool) : Bool := G.all fun g => !listed.getD g true
def invV : Facts → Array Bool → World → Prop
  | [], _, _ => True
  | p :: r, listed, w => (alive p.1 listed = true → p.2 w) ∧ invV r listed w
theorem invV.get {listed : Array Bool} {w : World} {G : List Nat} {C : World → Prop} : ∀ {F : Facts} (n : Nat), F[n]? = some (G, C) → alive G listed = true → invV F listed w → C w
  | [], _, h, _, _ => by simp at h
  | p :: r, 0, h, ha, hi => by
    simp only [List.getElem?_cons_zero, Option.some.injEq] at h
    subst h
    exact hi.1 ha
  | p :: r, n + 1, h, ha, hi => invV.get (F := r) n (by simpa using h) ha hi.2
theorem alive_set {G : List Nat} {listed : Array Bool} {i : Nat} (h : alive G (listed.setIfInBounds i true) = true) : alive G listed = true := by
  unfold alive at *
  rw [List.all_eq_true] at *
  intro g hg
  have := h g hg
  by_cases e : i = g
  · subst e
    rcases Nat.lt_or_ge i listed.size with h' | h'
    · simp [h'] at this
    · simp [Array.getElem?_eq_none h'] at this
  · rw [getD_set_ne true e] at this; exact this
theorem invV.weak {listed : Array Bool} {w : World} {i : Nat} : ∀ {F : Facts}, invV F listed w → invV F (listed.setIfInBounds i true) w
  | [], h => trivial
  | p :: r, h => ⟨fun ha => h.1 (alive_set ha), invV.weak h.2⟩
/-- Operation i is none behind which a fact ends. -/
def noGate : Facts → Nat → Bool
  | [], _ => true
  | p :: r, i => !p.1.contains i && noGate r i
theorem alive_of_set {G : List Nat} {listed : Array Bool} {i : Nat} (hc : G.contains i = false) (h : alive G listed = true) : alive G (listed.setIfInBounds i true) = true := by
  unfold alive at *
  rw [List.all_eq_true] at *
  intro g hg
  have hne : i ≠ g := fun e => by
    subst e
    have : G.contains i = true := by simpa using hg
    rw [hc] at this; cases this
  rw [getD_set_ne true hne]; exact h g hg
theorem invV.back {listed : Array Bool} {w : World} {i : Nat} : ∀ {F : Facts}, noGate F i = true → invV F (listed.setIfInBounds i true) w → invV F listed w
  | [], _, _ => trivial
  | p :: r, hn, h => by
    simp only [noGate, Bool.and_eq_true, Bool.not_eq_true'] at hn
    exact ⟨fun ha => h.1 (alive_of_set hn.1 ha), invV.back hn.2 h.2⟩
section
variable {P : Program} {ops : Array Oper} {Q : Exit → Act → World → Prop} {md : Region.Mode} {F : Facts}
def wpAnyV (P : Program) (md : Region.Mode) (ops : Array Oper) (Q : Exit → Act → World → Prop) (F : Facts) : Nat → Array Bool → Act → World → Prop
  | 0, listed, a, w => Region.ready md ops listed = [] ∧ Q .normal a w
  | fuel + 1, listed, a, w =>
    (Region.ready md ops listed = [] → Q .normal a w) ∧
    ∀ i ∈ Region.ready md ops listed, wpOp P ops Q i (fun a' w' => invV F (listed.setIfInBounds i true) w' ∧ wpAnyV P md ops Q F fuel (listed.setIfInBounds i true) a' w') a w
theorem wpAny_of_V : ∀ (fuel : Nat) (listed : Array Bool) (a : Act) (w : World), wpAnyV P md ops Q F fuel listed a w → wpAny P md ops Q fuel listed a w
  | 0, _, _, _, h => h
  | fuel + 1, _, _, _, h => ⟨h.1, fun i hi => wpOp_mono (fun a' w' h' => wpAny_of_V fuel _ a' w' h'.2) (h.2 i hi)⟩
/-- The operations of G wait for operation i. -/
def waits (md : Region.Mode) (ops : Array Oper) (G : List Nat) (i : Nat) : Bool := G.all fun g => match ops[g]? with | some o => o.after.any fun e => Region.binds md e && e.on == i | none => false
theorem waits_spec {G : List Nat} {i : Nat} (h : waits md ops G i = true) {g : Nat} (hg : g ∈ G) : ∃ o, ops[g]? = some o ∧ ∃ e ∈ o.after, Region.binds md e = true ∧ e.on = i := by
  have h1 := List.all_eq_true.1 h g hg
  cases ho : ops[g]? with
  | none => simp [ho] at h1
  | some o =>
    simp only [ho] at h1
    obtain ⟨e, he, hb⟩ := Array.any_eq_true'.1 h1
    simp only [Bool.and_eq_true, beq_iff_eq] at hb
    exact ⟨o, rfl, e, he, hb.1, hb.2⟩
theorem wpAnyV_first {i : Nat} {oi : Oper} {v : Value} (hi : ops[i]? = some oi) (hsel : ∀ (j : Nat) (o : Oper) cs b, ops[j]? = some o → o.op ≠ .select cs b)
    (hQ : ∀ c a w, Q (.panic c) (a.put oi.dst v) w → Q (.panic c) a w) {n : Nat} {G : List Nat} {C : World → Prop} (hn : F[n]? = some (G, C)) (hG : waits md ops G i = true) (hN : noGate F i = true) :
    ∀ (fuel : Nat) (listed : Array Bool) (a : Act) (w : World),
      (∀ j oj, ops[j]? = some oj → j ≠ i → listed.getD j true = false → (∀ e ∈ oj.after, Region.binds md e = true → e.on ≠ i) → oi.apart ops oj = true) →
      i ∈ Region.ready md ops listed → YieldsIf P ops C oi v a → alive G listed = true → invV F listed w →
      wpAnyV P md ops Q F fuel (listed.setIfInBounds i true) (a.put oi.dst v) w → wpAnyV P md ops Q F (fuel + 1) listed a w := by
  intro fuel
  induction fuel with
  | zero =>
    intro listed a w _ hr hy ha hS H
    refine ⟨fun h => (by rw [h] at hr; cases hr), fun j hj => ?_⟩
    by_cases hji : j = i
    · subst hji; exact hy.wpOp hi (hS.get n hn ha) ⟨hS.weak, H⟩
    · have := ready_mono hj hji
      rw [H.1] at this
      cases this
  | succ fuel ih =>
    intro listed a w hfree hr hy ha hS H
    refine ⟨fun h => (by rw [h] at hr; cases hr), fun j hj => ?_⟩
    by_cases hji : j = i
    · subst hji; exact hy.wpOp hi (hS.get n hn ha) ⟨hS.weak, H⟩
    · have h1 := H.2 j (ready_mono hj hji)
      obtain ⟨hjun, oj, hoj, hall⟩ := mem_ready.1 hj
      have hnot : ∀ e ∈ oj.after, Region.binds md e = true → e.on ≠ i := fun e he hb heq => by
        have h1 := hall e he hb
        have h0 := (mem_ready.1 hr).1
        rw [heq] at h1
        rcases Nat.lt_or_ge i listed.size with h' | h'
        · simp [h'] at h0 h1; rw [h0] at h1; cases h1
        · simp [Array.getElem?_eq_none h'] at h1
      have hjG : j ∉ G := fun hm => by
        obtain ⟨o, ho, e, he, hb, heq⟩ := waits_spec hG hm
        rw [hoj] at ho
        obtain rfl := Option.some.inj ho
        exact hnot e he hb heq
      have ha' : alive G (listed.setIfInBounds j true) = true := by
        unfold alive at *
        rw [List.all_eq_true] at *
        intro g hg
        have hne : j ≠ g := fun e => hjG (e ▸ hg)
        rw [getD_set_ne true hne]; exact ha g hg
      have h2 := wpOp_putIf hoj (hfree j oj hoj hji hjun hnot) (fun cs b => hsel i oi cs b hi) (fun cs b => hsel j oj cs b hoj) hQ hy h1
      have hfree' : ∀ k ok, ops[k]? = some ok → k ≠ i → (listed.setIfInBounds j true).getD k true = false →
          (∀ e ∈ ok.after, Region.binds md e = true → e.on ≠ i) → oi.apart ops ok = true := fun k ok hk hki hun hno => by
        refine hfree k ok hk hki ?_ hno
        by_cases hjk : j = k
        · subst hjk; exact hjun
        · rw [getD_set_ne true hjk] at hun; exact hun
      refine wpOp_mono (fun a' w' h3 => ?_) h2
      obtain ⟨hy', hinv, hrest⟩ := h3
      rw [Array.setIfInBounds_comm _ _ (Ne.symm hji)] at hinv hrest
      have hinv' : invV F (listed.setIfInBounds j true) w' := invV.back hN hinv
      refine ⟨hinv', ih (listed.setIfInBounds j true) a' w' hfree' (ready_mono hr (Ne.symm hji)) hy' ha' hinv' ?_⟩
      exact hrest
end
section
variable {P : Program} {ops : Array Oper} {a : Act} {w : World} {N : Nat} {E : Ent} {d : Nat} {J : Act → World → Prop} {fuel : Nat} {listed : Array Bool} {o : Oper} {F : Facts}
theorem k_heldV {Q : Exit → Act → World → Prop} {cs : List Code} {id : Nat} {l : List Oper} (F : Facts) (J : Act → World → Prop) (hm : P.follows .mixedOrders = true) (h0 : invV F (Array.replicate l.length false) w.drew)
    (h : invV F (Array.replicate l.length false) w.drew → wpAnyV P .any l.toArray (QJ J) F l.length (Array.replicate l.length false) a w.drew) (hk : ∀ a w, J a w → wpK P Q cs a w) : wpK P Q (.region id l.toArray true :: cs) a w := by
  have h1 : (Code.region id l.toArray true).wp P (QJ J) a w := wp_region_any hm (by simpa using wpAny_of_V _ _ _ _ (h h0))
  exact Code.wp_mono (fun e a w q => by
    cases e with
    | normal => exact hk a w q
    | _ => exact q.elim) h1
def At0 (Z : World) (ρ : PH) : World → Prop := fun w => ∃ L, Hp Z ρ L w
def At1 (Z : World) (ρ : PH) (A : Atom) : World → Prop := fun w => ∃ L, Hp Z ρ (A :: L) w
variable {Z : World} {ρ : PH} {A : Atom}
theorem v_take (i n : Nat) {G : List Nat} {C : World → Prop} (wk : Region.wanted o (yielded ops a.tmps) = true) (hi : ops[i]? = some o) (hd : o.dst = some d) (hN : Nat.blt d N = true) (hE : Env N E a) (hs : Region.noSelect ops = true) (hf : Region.free .any ops listed i = true) (hr : (Region.ready .any ops listed).contains i = true)
    (hn : F[n]? = some (G, C)) (hG : (waits .any ops G i && alive G listed && noGate F i) = true) (hS : invV F listed w) {v : Value} (hx : Ex P C a o v)
    (K : ∀ a, Env N ((d, v) :: E) a → invV F (listed.setIfInBounds i true) w → wpAnyV P .any ops (QJ J) F fuel (listed.setIfInBounds i true) a w) : wpAnyV P .any ops (QJ J) F (fuel + 1) listed a w := by
  simp only [Bool.and_eq_true] at hG
  exact wpAnyV_first hi (Region.noSelect_spec hs) (fun _ _ _ q => q.elim) hn hG.1.1 hG.2 fuel listed a w (Region.free_spec hi hf) (by simpa using hr) (Or.inl ⟨wk, hx⟩) hG.1.2 hS (by rw [hd]; exact K _ (hE.put hN v) hS.weak)
theorem v_take0 (i : Nat) (wk : Region.wanted o (yielded ops a.tmps) = true) (hi : ops[i]? = some o) (hd : o.dst = some d) (hN : Nat.blt d N = true) (hE : Env N E a) (hs : Region.noSelect ops = true) (hf : Region.free .any ops listed i = true) (hr : (Region.ready .any ops listed).contains i = true)
    (hn : F[0]? = some ([], At0 Z ρ)) (hG : (waits .any ops [] i && alive [] listed && noGate F i) = true) (hS : invV F listed w) {v : Value} (hx : ∀ L, Ex P (Hp Z ρ L) a o v)
    (K : ∀ a, Env N ((d, v) :: E) a → invV F (listed.setIfInBounds i true) w → wpAnyV P .any ops (QJ J) F fuel (listed.setIfInBounds i true) a w) : wpAnyV P .any ops (QJ J) F (fuel + 1) listed a w :=
  v_take i 0 wk hi hd hN hE hs hf hr hn hG hS (fun w ⟨L, hw⟩ => hx L w hw) K
theorem v_take1 (i n : Nat) {G : List Nat} (wk : Region.wanted o (yielded ops a.tmps) = true) (hi : ops[i]? = some o) (hd : o.dst = some d) (hN : Nat.blt d N = true) (hE : Env N E a) (hs : Region.noSelect ops = true) (hf : Region.free .any ops listed i = true) (hr : (Region.ready .any ops listed).contains i = true)
    (hn : F[n]? = some (G, At1 Z ρ A)) (hG : (waits .any ops G i && alive G listed && noGate F i) = true) (hS : invV F listed w) {v : Value} (hx : ∀ L, Ex P (Hp Z ρ (A :: L)) a o v)
    (K : ∀ a, Env N ((d, v) :: E) a → invV F (listed.setIfInBounds i true) w → wpAnyV P .any ops (QJ J) F fuel (listed.setIfInBounds i true) a w) : wpAnyV P .any ops (QJ J) F (fuel + 1) listed a w :=
  v_take i n wk hi hd hN hE hs hf hr hn hG hS (fun w ⟨L, hw⟩ => hx L w hw) K
theorem v_skip (i : Nat) (wk : Region.wanted o (yielded ops a.tmps) = false) (hi : ops[i]? = some o) (hd : o.dst = some d) (hN : Nat.blt d N = true) (hE : Env N E a) (hs : Region.noSelect ops = true) (hf : Region.free .any ops listed i = true) (hr : (Region.ready .any ops listed).contains i = true)
    (hn : F[0]? = some ([], At0 Z ρ)) (hG : noGate F i = true) (hS : invV F listed w)
    (K : ∀ a, Env N ((d, undef) :: E) a → invV F (listed.setIfInBounds i true) w → wpAnyV P .any ops (QJ J) F fuel (listed.setIfInBounds i true) a w) : wpAnyV P .any ops (QJ J) F (fuel + 1) listed a w :=
  wpAnyV_first hi (Region.noSelect_spec hs) (fun _ _ _ q => q.elim) hn rfl hG fuel listed a w (Region.free_spec hi hf) (by simpa using hr) (Or.inr ⟨wk, rfl⟩) rfl hS (by rw [hd]; exact K _ (hE.put hN undef) hS.weak)
theorem and_with {p q : Prop} (h : p) (k : p → q) : p ∧ q := ⟨h, k h⟩
theorem v_all (rs : List Nat) (hr : Region.ready .any ops listed = rs) (hne : rs.isEmpty = false) (h : ∀ i ∈ rs, wpOp P ops (QJ J) i (fun a' w' => invV F (listed.setIfInBounds i true) w' ∧ wpAnyV P .any ops (QJ J) F fuel (listed.setIfInBounds i true) a' w') a w) : wpAnyV P .any ops (QJ J) F (fuel + 1) listed a w :=
  ⟨fun h0 => absurd (hr ▸ h0) (by intro e; rw [e] at hne; cases hne), hr ▸ h⟩
theorem v_done (hr : Region.ready .any ops listed = []) (h : J a w) : wpAnyV P .any ops (QJ J) F fuel listed a w := by
  cases fuel with
  | zero => exact ⟨hr, h⟩
  | succ n => exact ⟨fun _ => h, by rw [hr]; simp⟩
theorem dead {G : List Nat} {p : Prop} (h : alive G listed = false) : alive G listed = true → p := fun e => by rw [h] at e; cases e
end
end Go.Proofs.Ytmfepkadggigpaa
