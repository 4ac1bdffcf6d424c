/- Owned slices of elements whose cells point elsewhere: the row's cells are named, and what they stand for is a fact of its own. -/
import Derived.Test.YtfajmelamonolaaGreatDoorKNe2
import Derived.Test.YtfajmelamonolaaGreatDoorProg
import Derived.Sort.OwnSortedInts
import Derived.Lib.ItoaNum
import Derived.Lib.LaidTab
import Derived.LaidLaws
import Derived.Handed
import Derived.HandedShaped
import Derived.Shelf.Vars
import Derived.MakeChecks
import Derived.Lay
import Derived.Test.YtfajmelamonolaaGreatDoorRows
import Derived.Lib.SlicesCompact
import Derived.Lib.AtoiAll
import Derived.Lib.IndexMore
import Derived.Lib.Split
set_option linter.unusedVariables false
set_option linter.unusedSimpArgs false
namespace Go.Proofs.YtfajmelamonolaaGreatDoor
open Go.RowKit
class Rep1 (α : Type) [Rep α] : Prop where
  one : ∀ {ρ : PH} {a : α} {cs : List Value}, Rep.ok ρ a cs → ∀ v ∈ cs, v.oneCell' = true
  pos : 0 < Rep.sz α
def RowR {α : Type} [Rep α] (T : TypeId) (v : Value) (l : List α) (xs : List Value) : Atom := Row T (Rep.sz α) v l.length xs
section
variable {α : Type} [Rep α] {ρ ρ' : PH} {l m : List α} {xs ys : List Value}
theorem RepAll.nil : RepAll ρ ([] : List α) [] := rfl
theorem RepAll.mono (h : ρ.le ρ') : ∀ {l : List α} {xs : List Value}, RepAll ρ l xs → RepAll ρ' l xs
  | [], _, e => e
  | a :: l, _, ⟨c, r, e, hc, hr⟩ => ⟨c, r, e, Rep.mono h hc, RepAll.mono h hr⟩
theorem RepAll.len : ∀ {l : List α} {xs : List Value}, RepAll ρ l xs → xs.length = l.length * Rep.sz α
  | [], _, e => by rw [e]; simp
  | a :: l, _, ⟨c, r, e, hc, hr⟩ => by
    rw [e, List.length_append, Rep.len hc, RepAll.len hr, List.length_cons, Nat.add_mul]; omega
theorem RepAll.app : ∀ {l : List α} {xs : List Value}, RepAll ρ l xs → RepAll ρ m ys → RepAll ρ (l ++ m) (xs ++ ys)
  | [], _, e, h => by rw [e]; exact h
  | a :: l, _, ⟨c, r, e, hc, hr⟩, h => ⟨c, r ++ ys, by rw [e, List.append_assoc], hc, RepAll.app hr h⟩
theorem RepAll.one1 [Rep1 α] : ∀ {l : List α} {xs : List Value}, RepAll ρ l xs → ∀ v ∈ xs, v.oneCell' = true
  | [], _, e, v, hv => by rw [e] at hv; simp at hv
  | a :: l, _, ⟨c, r, e, hc, hr⟩, v, hv => by
    rw [e, List.mem_append] at hv
    rcases hv with hv | hv
    · exact Rep1.one hc v hv
    · exact RepAll.one1 hr v hv
theorem RepAll.set : ∀ {l : List α} {xs : List Value} (i : Nat) {a : α} {cs : List Value}, RepAll ρ l xs → i < l.length → Rep.ok ρ a cs → RepAll ρ (l.set i a) (xs.take (i * Rep.sz α) ++ cs ++ xs.drop ((i + 1) * Rep.sz α))
  | b :: l, _, 0, a, cs, ⟨c, r, e, hc, hr⟩, _, ha => by
    rw [e, Nat.zero_mul, List.take_zero, List.nil_append, Nat.zero_add, Nat.one_mul, ← Rep.len hc, List.drop_left, List.set_cons_zero]
    exact ⟨cs, r, rfl, ha, hr⟩
  | b :: l, _, i + 1, a, cs, ⟨c, r, e, hc, hr⟩, hi, ha => by
    have := RepAll.set i hr (by simpa using hi) ha
    have hl := Rep.len hc
    rw [e, List.set_cons_succ, Nat.add_mul, Nat.one_mul, show i * Rep.sz α + Rep.sz α = c.length + i * Rep.sz α by omega, List.take_append, List.take_of_length_le (by omega), Nat.add_sub_cancel_left,
      show (i + 1 + 1) * Rep.sz α = c.length + (i + 1) * Rep.sz α by rw [Nat.add_mul (i + 1)]; omega, List.drop_append, List.drop_of_length_le (by omega), List.nil_append, Nat.add_sub_cancel_left]
    exact ⟨c, _, by simp only [List.append_assoc], hc, this⟩
end
section
variable {α : Type} [Rep α] {Rn : Option Nat} {P : Program} {Z : World} {ρ : PH} {L : List Atom} {w : World} {T El : TypeId} {v : Value} {l : List α} {xs : List Value}
theorem RowR.nil (T : TypeId) : RowR T (.slice none 0 0) ([] : List α) [] PH.emp := Row.nil T _ none
theorem rowR_of_pt {b : Nat} {l : List α} {n : Nat} {cs : List Value} (hn : l.length = n) (hl : n ≤ maxLen) (hc : cs.length = n * Rep.sz α) : ∀ k, Pt b (.cells cs.toArray El) k → RowR El (.slice (some ⟨b, 0, none⟩) n n) l cs k := fun k hk => by
  subst hn
  refine ⟨hc, Or.inr ⟨b, 0, l.length, cs.toArray, rfl, hk, Nat.le_refl _, hl, ?_, ?_⟩⟩
  · rw [List.size_toArray, hc, Nat.zero_add]
  · rw [List.toList_toArray, List.drop_zero, List.take_of_length_le (by rw [hc]; exact Nat.le_refl _)]
theorem RowR.len {sz bytes : Nat} (hp : Hp Z ρ L w) (k : Nat) (hk : L[k]? = some (RowR El v l xs)) (ht : SlTy P T El sz bytes) (w' : World) (ty : TypeId) : (Builtin.len_ #[T] ty #[v]).run P w' = .ok (.int .i64 l.length) w' := by
  rcases (hp.get k hk).row.2 with ⟨A, rfl, hn⟩ | ⟨g, off, cap, cur, rfl, _, _⟩
  · rw [hn]; exact run_len ht A 0 0 w' ty
  · exact run_len ht _ _ cap w' ty
theorem RowR.cells (hp : Hp Z ρ L w) (k : Nat) (hk : L[k]? = some (RowR El v l xs)) : v.cells = #[v] := by
  rcases (hp.get k hk).row.2 with ⟨A, rfl, _⟩ | ⟨g, off, cap, cur, rfl, _⟩ <;> rfl
theorem RowR.one (hp : Hp Z ρ L w) (k : Nat) (hk : L[k]? = some (RowR El v l xs)) : v.oneCell' = true := by
  rcases (hp.get k hk).row.2 with ⟨A, rfl, _⟩ | ⟨g, off, cap, cur, rfl, _⟩ <;> rfl
theorem RowR.ro {k : PH} (d : ρ.dj k) (h : RowR T v l xs k) (hR : RepAll ρ l xs) : RoSl (ρ.un k) v l := by
  obtain ⟨hxl, h⟩ := h
  rcases h with ⟨A, rfl, hn⟩ | ⟨g, off, cap, cur, rfl, rfl, h1, h2, h3, h4⟩
  · obtain rfl := List.eq_nil_of_length_eq_zero hn
    exact ⟨A, 0, rfl, Nat.le_refl _, fun i a h => by simp at h⟩
  · refine ⟨some ⟨g, off, none⟩, cap, rfl, h1, fun i a hi => ?_⟩
    obtain ⟨c, hc, hg⟩ := hR.get i a hi
    refine ⟨g, off, c, rfl, Rep.mono (PH.le_un _ _) hc, fun j u hj => ?_⟩
    have hb : (ρ.un (PH.one g (.cells cur T (0, 0)))) g = some (.cells cur T (0, 0)) := PH.le_un_r d g _ (by simp [PH.one])
    unfold cellAt
    rw [hb]
    simp only
    have hf := hg j u hj
    rw [← h4, List.getElem?_take] at hf
    split at hf
    · rw [List.getElem?_drop, ← Nat.add_assoc] at hf
      rw [← Array.getElem?_toList]
      exact hf
    · cases hf
theorem RowR.at {bytes : Nat} (hp : Hp Z ρ L w) (k : Nat) (hk : L[k]? = some (RowR El v l xs)) (hR : RepAll ρ l xs) (ht : SlTy P T El (Rep.sz α) bytes) {i : Int} {e : α} (hi : idx l i = some e) :
    ∃ g off cs, (∀ w, (Instr.indexAt T v (.int .i64 i)).run P w = .ok (.pointer (some ⟨g, off, none⟩)) w) ∧ (∃ of0 cap, v = .slice (some ⟨g, of0, none⟩) l.length cap ∧ off = of0 + i.toNat * Rep.sz α) ∧ Rep.ok ρ e cs ∧ ∀ (j : Nat) (u : Value), cs[j]? = some u → ∀ ρ' L' w, Hp Z ρ' (RowR El v l xs :: L') w → w.cell? ⟨g, off + j, none⟩ = some u := by
  obtain ⟨i0, i1, i2⟩ := idx_some hi
  rcases (hp.get k hk).row.2 with ⟨_, _, hn⟩ | ⟨g, of0, cap, cur, rfl, _, _⟩
  · omega
  · obtain ⟨c, hc, hg⟩ := hR.get i.toNat e i2
    refine ⟨g, of0 + i.toNat * Rep.sz α, c, fun w => run_index ht g of0 _ cap i0 i1 w, ⟨of0, cap, rfl, rfl⟩, hc, fun j u hj ρ' L' w' hw' => ?_⟩
    rcases hw'.row.2 with ⟨A, hA, hn⟩ | ⟨g', of1, cap', cur', e2, hpt, h2, h3, h4, h5⟩
    · omega
    · simp only [Value.slice.injEq, Option.some.injEq, Addr.mk.injEq, and_true, true_and] at e2
      obtain ⟨⟨rfl, rfl⟩, rfl⟩ := e2
      have hlook := hpt.look 0 rfl
      have hf := hg j u hj
      rw [← h5, List.getElem?_take] at hf
      split at hf
      · rw [List.getElem?_drop, ← Nat.add_assoc] at hf
        simp [World.cell?, hlook, ← Array.getElem?_toList, hf]
      · cases hf
end
section
variable {α : Type} [Rep α] {ρ : PH}
theorem RoSl.rowR {v : Value} {l : List α} (h : RoSl ρ v l) (hl : 0 < l.length) : ∃ b off c ys, v = .slice (some ⟨b, off, none⟩) l.length c ∧ RepAll ρ l ys ∧ AtP ρ b off ys := by
  obtain ⟨A, c, rfl, _, hh⟩ := h
  obtain ⟨b, off, cs, e1, _, _⟩ := hh 0 l[0] (List.getElem?_eq_getElem hl)
  subst e1
  have key : ∀ (m : List α) (o : Nat), (∀ i a, m[i]? = some a → ∃ cs, Rep.ok ρ a cs ∧ AtP ρ b (o + i * Rep.sz α) cs) → ∃ ys, RepAll ρ m ys ∧ AtP ρ b o ys := by
    intro m
    induction m with
    | nil => intro o _; exact ⟨[], rfl, fun j u h => by simp at h⟩
    | cons a m ih =>
      intro o hm
      obtain ⟨cs, h1, h2⟩ := hm 0 a rfl
      rw [Nat.zero_mul, Nat.add_zero] at h2
      obtain ⟨ys, h3, h4⟩ := ih (o + Rep.sz α) (fun i a' hi => by
        obtain ⟨cs, h5, h6⟩ := hm (i + 1) a' (by simpa using hi)
        rw [Nat.add_mul, Nat.one_mul, show o + (i * Rep.sz α + Rep.sz α) = o + Rep.sz α + i * Rep.sz α by omega] at h6
        exact ⟨cs, h5, h6⟩)
      refine ⟨cs ++ ys, ⟨cs, ys, rfl, h1, h3⟩, fun j u hj => ?_⟩
      have hc := Rep.len h1
      rcases Nat.lt_or_ge j cs.length with h | h
      · rw [List.getElem?_append_left h] at hj; exact h2 j u hj
      · rw [List.getElem?_append_right h] at hj
        have := h4 _ u hj
        rw [show o + Rep.sz α + (j - cs.length) = o + j by omega] at this
        exact this
  obtain ⟨ys, h1, h2⟩ := key l off (fun i a hi => by
    obtain ⟨b2, o2, cs2, e2, h4, h5⟩ := hh i a hi
    simp only [Option.some.injEq, Addr.mk.injEq, and_true] at e2
    obtain ⟨rfl, rfl⟩ := e2
    exact ⟨cs2, h4, h5⟩)
  exact ⟨b, off, c, ys, rfl, h1, h2⟩
end
section
variable {α : Type} [Rep α] [Rep1 α] {Rn : Option Nat} {P : Program} {ops : Array Oper} {Q : Exit → Act → World → Prop} {rest : List Oper} {o : Oper} {a : Act} {w : World} {Df : List Deferred} {N : Nat} {E : Ent} {d : Nat} {Z : World} {ρ : PH} {L : List Atom}
theorem s_appR (wk : Region.wanted o (yielded ops a.tmps) = true) (hd : o.dst = some d) (hN : Nat.blt d N = true) (hE : EnvD Df N E a) (hp : Hp Z ρ L w) {x y : Operand} {t : TypeId} (ho : o.op = .call { callee := .builtin .append, args := #[x, y], argTypes := #[t, t] }) {El : TypeId} {bytes : Nat} (ht : SlTy P t El (Rep.sz α) bytes) (hby : Nat.ble bytes 16384 = true)
    {v : Value} (hx : evo E x = some v) (i : Nat) {l : List α} {xs : List Value} (hi : L[i]? = some (RowR El v l xs)) {b off m c : Nat} (hy : evo E y = some (.slice (some ⟨b, off, none⟩) m c)) {l2 r : List α} {ys : List Value} (hm : l2.length = m) (hR2 : RepAll ρ l2 ys) (hn : ∀ j u, ys[j]? = some u → w.cell? ⟨b, off + j, none⟩ = some u) (hr : app l l2 = some r)
    (K : ∀ v' a w, EnvD Df N ((d, v') :: E) a → Hp Z ρ (L.set i (RowR El v' r (xs ++ ys))) w → wpL Rn P ops Q rest a w) : wpL Rn P ops Q (o :: rest) a w := by
  obtain ⟨hlen, rfl⟩ := app_some hr
  have hby' : bytes ≤ 16384 := by simpa using hby
  have hb2 : (l.length + m) * bytes ≤ 4294967296 * 16384 := Nat.mul_le_mul (by omega) hby'
  obtain ⟨v', w', hrun, hp'⟩ := run_app (P := P) ht Rep1.pos o.type (hp.get i hi) ⟨b, off, none⟩ m c ys (by rw [hR2.len, hm]) (fun j u hj => by rw [Addr.add_lit]; exact hn j u hj) hR2.one1 (by unfold maxLen; omega) (by omega)
  refine s_run wk hd hN hE (v := v') (w' := w') ?_ fun a' hE' => K v' a' w' hE' ?_
  · simp only [execOp, ho, resolve, invoke, builtin, Sem.run_bind, Sem.run_pure, Result.andThen_ok, List.map_toArray, List.map_cons, List.map_nil, hE.eval hx, hE.eval hy, hrun]
  · refine Hp.put i (set_get (A := RowR El v l xs) (_B := RowR El v l xs) hi).2 ?_
    unfold RowR
    rw [List.length_append, hm]
    exact hp'
theorem s_appsR (wk : Region.wanted o (yielded ops a.tmps) = true) (hd : o.dst = some d) (hN : Nat.blt d N = true) (hE : EnvD Df N E a) (hp : Hp Z ρ L w) {x y : Operand} {t : TypeId} (ho : o.op = .call { callee := .builtin .append, args := #[x, y], argTypes := #[t, t] }) {El : TypeId} {bytes : Nat} (ht : SlTy P t El (Rep.sz α) bytes) (hby : Nat.ble bytes 16384 = true)
    {v : Value} (hx : evo E x = some v) (i : Nat) {l : List α} {xs : List Value} (hi : L[i]? = some (RowR El v l xs)) {v2 : Value} (hy : evo E y = some v2) {l2 r : List α} (hs : RoSl ρ v2 l2) (hr : app l l2 = some r)
    (K : ∀ v' ys a w, RepAll ρ l2 ys → EnvD Df N ((d, v') :: E) a → Hp Z ρ (L.set i (RowR El v' r (xs ++ ys))) w → wpL Rn P ops Q rest a w) : wpL Rn P ops Q (o :: rest) a w := by
  rcases Nat.eq_zero_or_pos l2.length with h0 | h0
  · have hnil := List.eq_nil_of_length_eq_zero h0
    subst hnil
    obtain ⟨hlen, rfl⟩ := app_some hr
    obtain ⟨A, c, rfl, _, _⟩ := hs
    cases A with
    | some ad =>
      obtain ⟨b, off, sp⟩ := ad
      have hby' : bytes ≤ 16384 := by simpa using hby
      have hb2 : (l.length + 0) * bytes ≤ 4294967296 * 16384 := Nat.mul_le_mul (by simp at hlen; omega) hby'
      obtain ⟨v', w', hrun, hp'⟩ := run_app (P := P) ht Rep1.pos o.type (hp.get i hi) ⟨b, off, sp⟩ 0 c [] (by simp) (fun j u hj => by simp at hj) (fun u hu => by simp at hu) (by unfold maxLen; simp at hlen; omega) (by omega)
      refine s_run wk hd hN hE (v := v') (w' := w') ?_ fun a' hE' => K v' [] a' w' rfl hE' ?_
      · simp only [execOp, ho, resolve, invoke, builtin, Sem.run_bind, Sem.run_pure, Result.andThen_ok, List.map_toArray, List.map_cons, List.map_nil, hE.eval hx, hE.eval hy]
        simp only [List.length_nil, hrun]
        rfl
      · refine Hp.put i (set_get (A := RowR El v l xs) (_B := RowR El v l xs) hi).2 ?_
        unfold RowR
        simpa using hp'
    | none =>
      refine s_run wk hd hN hE (v := v) (w' := w) ?_ fun a' hE' => K v [] a' w rfl hE' ?_
      · have hrun := run_appN (P := P) ht o.type (hp.get i hi) c
        simp only [execOp, ho, resolve, invoke, builtin, Sem.run_bind, Sem.run_pure, Result.andThen_ok, List.map_toArray, List.map_cons, List.map_nil, hE.eval hx, hE.eval hy]
        simp only [List.length_nil, hrun]
        rfl
      · rw [List.append_nil, List.append_nil, set_same hi]
        exact hp
  · obtain ⟨b, off, c, ys, rfl, hR, hat⟩ := hs.rowR h0
    exact s_appR wk hd hN hE hp ho ht hby hx i hi hy rfl hR (fun j u hj => cell_of hp.le (hat j u hj)) hr (fun v' a w => K v' ys a w hR)
end
instance rep1Enc {α : Type} [Enc α] : Rep1 α := ⟨fun h v hv => by
  have h' : _ = Enc.enc _ := h
  rw [h'] at hv; exact Enc.one _ v hv, Enc.pos⟩
end Go.Proofs.YtfajmelamonolaaGreatDoor

/- Regions that draw their order, where what an operation looks at may be turned by operations that wait for it. Plain theorems over any program. -/
set_option linter.unusedVariables false
set_option linter.unusedSimpArgs false
namespace Go.Proofs.YtfajmelamonolaaGreatDoor
open Go.RowKit
abbrev Facts := List (List Nat × (World → Prop))
def alive (G : List Nat) (listed : Array Bool) : Bool := G.all fun g => !listed.getD g true
def invV : Facts → Array Bool → World → Prop
  | [], _, _ => True
  | p :: r, listed, w => (alive p.1 listed = true → p.2 w) ∧ invV r listed w
theorem invV.get {listed : Array Bool} {w : World} {G : List Nat} {C : World → Prop} : ∀ {F : Facts} (n : Nat), F[n]? = some (G, C) → alive G listed = true → invV F listed w → C w
  | [], _, h, _, _ => by simp at h
  | p :: r, 0, h, ha, hi => by
    simp only [List.getElem?_cons_zero, Option.some.injEq] at h
    subst h
    exact hi.1 ha
  | p :: r, n + 1, h, ha, hi => invV.get (F := r) n (by simpa using h) ha hi.2
theorem alive_set {G : List Nat} {listed : Array Bool} {i : Nat} (h : alive G (listed.setIfInBounds i true) = true) : alive G listed = true := by
  unfold alive at *
  rw [List.all_eq_true] at *
  intro g hg
  have := h g hg
  by_cases e : i = g
  · subst e
    rcases Nat.lt_or_ge i listed.size with h' | h'
    · simp [h'] at this
    · simp [Array.getElem?_eq_none h'] at this
  · rw [getD_set_ne true e] at this; exact this
theorem invV.weak {listed : Array Bool} {w : World} {i : Nat} : ∀ {F : Facts}, invV F listed w → invV F (listed.setIfInBounds i true) w
  | [], h => trivial
  | p :: r, h => ⟨fun ha => h.1 (alive_set ha), invV.weak h.2⟩
def noGate : Facts → Nat → Bool
  | [], _ => true
  | p :: r, i => !p.1.contains i && noGate r i
theorem alive_of_set {G : List Nat} {listed : Array Bool} {i : Nat} (hc : G.contains i = false) (h : alive G listed = true) : alive G (listed.setIfInBounds i true) = true := by
  unfold alive at *
  rw [List.all_eq_true] at *
  intro g hg
  have hne : i ≠ g := fun e => by
    subst e
    have : G.contains i = true := by simpa using hg
    rw [hc] at this; cases this
  rw [getD_set_ne true hne]; exact h g hg
theorem invV.back {listed : Array Bool} {w : World} {i : Nat} : ∀ {F : Facts}, noGate F i = true → invV F (listed.setIfInBounds i true) w → invV F listed w
  | [], _, _ => trivial
  | p :: r, hn, h => by
    simp only [noGate, Bool.and_eq_true, Bool.not_eq_true'] at hn
    exact ⟨fun ha => h.1 (alive_of_set hn.1 ha), invV.back hn.2 h.2⟩
section
variable {Rn : Option Nat} {P : Program} {ops : Array Oper} {Q : Exit → Act → World → Prop} {md : Region.Mode} {F : Facts}
def wpAnyV (P : Program) (md : Region.Mode) (ops : Array Oper) (Q : Exit → Act → World → Prop) (F : Facts) : Nat → Array Bool → Act → World → Prop
  | 0, listed, a, w => Region.ready md ops listed = [] ∧ Q .normal a w
  | fuel + 1, listed, a, w =>
    (Region.ready md ops listed = [] → Q .normal a w) ∧
    ∀ i ∈ Region.ready md ops listed, wpOp P ops Q i (fun a' w' => invV F (listed.setIfInBounds i true) w' ∧ wpAnyV P md ops Q F fuel (listed.setIfInBounds i true) a' w') a w
theorem wpAny_of_V : ∀ (fuel : Nat) (listed : Array Bool) (a : Act) (w : World), wpAnyV P md ops Q F fuel listed a w → wpAny P md ops Q fuel listed a w
  | 0, _, _, _, h => h
  | fuel + 1, _, _, _, h => ⟨h.1, fun i hi => wpOp_mono (fun a' w' h' => wpAny_of_V fuel _ a' w' h'.2) (h.2 i hi)⟩
def waits (md : Region.Mode) (ops : Array Oper) (G : List Nat) (i : Nat) : Bool := G.all fun g => match ops[g]? with | some o => o.after.any fun e => Region.binds md e && e.on == i | none => false
theorem waits_spec {G : List Nat} {i : Nat} (h : waits md ops G i = true) {g : Nat} (hg : g ∈ G) : ∃ o, ops[g]? = some o ∧ ∃ e ∈ o.after, Region.binds md e = true ∧ e.on = i := by
  have h1 := List.all_eq_true.1 h g hg
  cases ho : ops[g]? with
  | none => simp [ho] at h1
  | some o =>
    simp only [ho] at h1
    obtain ⟨e, he, hb⟩ := Array.any_eq_true'.1 h1
    simp only [Bool.and_eq_true, beq_iff_eq] at hb
    exact ⟨o, rfl, e, he, hb.1, hb.2⟩
theorem wpAnyV_first {i : Nat} {oi : Oper} {v : Value} (hi : ops[i]? = some oi) (hsel : ∀ (j : Nat) (o : Oper) cs b, ops[j]? = some o → o.op ≠ .select cs b)
    (hQ : ∀ c a w, Q (.panic c) (a.put oi.dst v) w → Q (.panic c) a w) {n : Nat} {G : List Nat} {C : World → Prop} (hn : F[n]? = some (G, C)) (hG : waits md ops G i = true) (hN : noGate F i = true) :
    ∀ (fuel : Nat) (listed : Array Bool) (a : Act) (w : World),
      (∀ j oj, ops[j]? = some oj → j ≠ i → listed.getD j true = false → (∀ e ∈ oj.after, Region.binds md e = true → e.on ≠ i) → oi.apart ops oj = true) →
      i ∈ Region.ready md ops listed → YieldsIf P ops C oi v a → alive G listed = true → invV F listed w →
      wpAnyV P md ops Q F fuel (listed.setIfInBounds i true) (a.put oi.dst v) w → wpAnyV P md ops Q F (fuel + 1) listed a w := by
  intro fuel
  induction fuel with
  | zero =>
    intro listed a w _ hr hy ha hS H
    refine ⟨fun h => (by rw [h] at hr; cases hr), fun j hj => ?_⟩
    by_cases hji : j = i
    · subst hji; exact hy.wpOp hi (hS.get n hn ha) ⟨hS.weak, H⟩
    · have := ready_mono hj hji
      rw [H.1] at this
      cases this
  | succ fuel ih =>
    intro listed a w hfree hr hy ha hS H
    refine ⟨fun h => (by rw [h] at hr; cases hr), fun j hj => ?_⟩
    by_cases hji : j = i
    · subst hji; exact hy.wpOp hi (hS.get n hn ha) ⟨hS.weak, H⟩
    · have h1 := H.2 j (ready_mono hj hji)
      obtain ⟨hjun, oj, hoj, hall⟩ := mem_ready.1 hj
      have hnot : ∀ e ∈ oj.after, Region.binds md e = true → e.on ≠ i := fun e he hb heq => by
        have h1 := hall e he hb
        have h0 := (mem_ready.1 hr).1
        rw [heq] at h1
        rcases Nat.lt_or_ge i listed.size with h' | h'
        · simp [h'] at h0 h1; rw [h0] at h1; cases h1
        · simp [Array.getElem?_eq_none h'] at h1
      have hjG : j ∉ G := fun hm => by
        obtain ⟨o, ho, e, he, hb, heq⟩ := waits_spec hG hm
        rw [hoj] at ho
        obtain rfl := Option.some.inj ho
        exact hnot e he hb heq
      have ha' : alive G (listed.setIfInBounds j true) = true := by
        unfold alive at *
        rw [List.all_eq_true] at *
        intro g hg
        have hne : j ≠ g := fun e => hjG (e ▸ hg)
        rw [getD_set_ne true hne]; exact ha g hg
      have h2 := wpOp_putIf hoj (hfree j oj hoj hji hjun hnot) (fun cs b => hsel i oi cs b hi) (fun cs b => hsel j oj cs b hoj) hQ hy h1
      have hfree' : ∀ k ok, ops[k]? = some ok → k ≠ i → (listed.setIfInBounds j true).getD k true = false →
          (∀ e ∈ ok.after, Region.binds md e = true → e.on ≠ i) → oi.apart ops ok = true := fun k ok hk hki hun hno => by
        refine hfree k ok hk hki ?_ hno
        by_cases hjk : j = k
        · subst hjk; exact hjun
        · rw [getD_set_ne true hjk] at hun; exact hun
      refine wpOp_mono (fun a' w' h3 => ?_) h2
      obtain ⟨hy', hinv, hrest⟩ := h3
      rw [Array.setIfInBounds_comm _ _ (Ne.symm hji)] at hinv hrest
      have hinv' : invV F (listed.setIfInBounds j true) w' := invV.back hN hinv
      refine ⟨hinv', ih (listed.setIfInBounds j true) a' w' hfree' (ready_mono hr (Ne.symm hji)) hy' ha' hinv' ?_⟩
      exact hrest
end
section
variable {Rn : Option Nat} {P : Program} {ops : Array Oper} {a : Act} {w : World} {Df : List Deferred} {N : Nat} {E : Ent} {d : Nat} {J : Act → World → Prop} {fuel : Nat} {listed : Array Bool} {o : Oper} {F : Facts}
theorem k_heldV {Q : Exit → Act → World → Prop} {cs : List Code} {id : Nat} {l : List Oper} (F : Facts) (J : Act → World → Prop) (hm : P.follows .mixedOrders = true) (h0 : invV F (Array.replicate l.length false) w.drew)
    (h : invV F (Array.replicate l.length false) w.drew → wpAnyV P .any l.toArray (QJ J) F l.length (Array.replicate l.length false) a w.drew) (hk : ∀ a w, J a w → wpK none P Q cs a w) : wpK none P Q (.region id l.toArray true :: cs) a w := by
  have h1 : (Code.region id l.toArray true).wp P (QJ J) a w := wp_region_any hm (by simpa using wpAny_of_V _ _ _ _ (h h0))
  exact wpIn_wide.2 <| Code.wp_mono (fun e a w q => by
    cases e with
    | normal => exact hk a w q
    | _ => exact q.elim) h1
def At0 (Z : World) (ρ : PH) : World → Prop := fun w => ∃ L, Hp Z ρ L w
def At1 (Z : World) (ρ : PH) (A : Atom) : World → Prop := fun w => ∃ L, Hp Z ρ (A :: L) w
variable {Z : World} {ρ : PH} {A : Atom}
theorem v_take (i n : Nat) {G : List Nat} {C : World → Prop} (wk : Region.wanted o (yielded ops a.tmps) = true) (hi : ops[i]? = some o) (hd : o.dst = some d) (hN : Nat.blt d N = true) (hE : EnvD Df N E a) (hs : Region.noSelect ops = true) (hf : Region.free .any ops listed i = true) (hr : (Region.ready .any ops listed).contains i = true)
    (hn : F[n]? = some (G, C)) (hG : (waits .any ops G i && alive G listed && noGate F i) = true) (hS : invV F listed w) {v : Value} (hx : Ex P C a o v)
    (K : ∀ a, EnvD Df N ((d, v) :: E) a → invV F (listed.setIfInBounds i true) w → wpAnyV P .any ops (QJ J) F fuel (listed.setIfInBounds i true) a w) : wpAnyV P .any ops (QJ J) F (fuel + 1) listed a w := by
  simp only [Bool.and_eq_true] at hG
  exact wpAnyV_first hi (Region.noSelect_spec hs) (fun _ _ _ q => q.elim) hn hG.1.1 hG.2 fuel listed a w (Region.free_spec hi hf) (by simpa using hr) (Or.inl ⟨wk, hx⟩) hG.1.2 hS (by rw [hd]; exact K _ (hE.put hN v) hS.weak)
theorem v_take0 (i : Nat) (wk : Region.wanted o (yielded ops a.tmps) = true) (hi : ops[i]? = some o) (hd : o.dst = some d) (hN : Nat.blt d N = true) (hE : EnvD Df N E a) (hs : Region.noSelect ops = true) (hf : Region.free .any ops listed i = true) (hr : (Region.ready .any ops listed).contains i = true)
    (hn : F[0]? = some ([], At0 Z ρ)) (hG : (waits .any ops [] i && alive [] listed && noGate F i) = true) (hS : invV F listed w) {v : Value} (hx : ∀ L, Ex P (Hp Z ρ L) a o v)
    (K : ∀ a, EnvD Df N ((d, v) :: E) a → invV F (listed.setIfInBounds i true) w → wpAnyV P .any ops (QJ J) F fuel (listed.setIfInBounds i true) a w) : wpAnyV P .any ops (QJ J) F (fuel + 1) listed a w :=
  v_take i 0 wk hi hd hN hE hs hf hr hn hG hS (fun w ⟨L, hw⟩ => hx L w hw) K
theorem v_take1 (i n : Nat) {G : List Nat} (wk : Region.wanted o (yielded ops a.tmps) = true) (hi : ops[i]? = some o) (hd : o.dst = some d) (hN : Nat.blt d N = true) (hE : EnvD Df N E a) (hs : Region.noSelect ops = true) (hf : Region.free .any ops listed i = true) (hr : (Region.ready .any ops listed).contains i = true)
    (hn : F[n]? = some (G, At1 Z ρ A)) (hG : (waits .any ops G i && alive G listed && noGate F i) = true) (hS : invV F listed w) {v : Value} (hx : ∀ L, Ex P (Hp Z ρ (A :: L)) a o v)
    (K : ∀ a, EnvD Df N ((d, v) :: E) a → invV F (listed.setIfInBounds i true) w → wpAnyV P .any ops (QJ J) F fuel (listed.setIfInBounds i true) a w) : wpAnyV P .any ops (QJ J) F (fuel + 1) listed a w :=
  v_take i n wk hi hd hN hE hs hf hr hn hG hS (fun w ⟨L, hw⟩ => hx L w hw) K
theorem v_skip (i : Nat) (wk : Region.wanted o (yielded ops a.tmps) = false) (hi : ops[i]? = some o) (hd : o.dst = some d) (hN : Nat.blt d N = true) (hE : EnvD Df N E a) (hs : Region.noSelect ops = true) (hf : Region.free .any ops listed i = true) (hr : (Region.ready .any ops listed).contains i = true)
    (hn : F[0]? = some ([], At0 Z ρ)) (hG : noGate F i = true) (hS : invV F listed w)
    (K : ∀ a, EnvD Df N ((d, undef) :: E) a → invV F (listed.setIfInBounds i true) w → wpAnyV P .any ops (QJ J) F fuel (listed.setIfInBounds i true) a w) : wpAnyV P .any ops (QJ J) F (fuel + 1) listed a w :=
  wpAnyV_first hi (Region.noSelect_spec hs) (fun _ _ _ q => q.elim) hn rfl hG fuel listed a w (Region.free_spec hi hf) (by simpa using hr) (Or.inr ⟨wk, rfl⟩) rfl hS (by rw [hd]; exact K _ (hE.put hN undef) hS.weak)
theorem and_with {p q : Prop} (h : p) (k : p → q) : p ∧ q := ⟨h, k h⟩
theorem v_all (rs : List Nat) (hr : Region.ready .any ops listed = rs) (hne : rs.isEmpty = false) (h : ∀ i ∈ rs, wpOp P ops (QJ J) i (fun a' w' => invV F (listed.setIfInBounds i true) w' ∧ wpAnyV P .any ops (QJ J) F fuel (listed.setIfInBounds i true) a' w') a w) : wpAnyV P .any ops (QJ J) F (fuel + 1) listed a w :=
  ⟨fun h0 => absurd (hr ▸ h0) (by intro e; rw [e] at hne; cases hne), hr ▸ h⟩
theorem v_done (hr : Region.ready .any ops listed = []) (h : J a w) : wpAnyV P .any ops (QJ J) F fuel listed a w := by
  cases fuel with
  | zero => exact ⟨hr, h⟩
  | succ n => exact ⟨fun _ => h, by rw [hr]; simp⟩
theorem dead {G : List Nat} {p : Prop} (h : alive G listed = false) : alive G listed = true → p := fun e => by rw [h] at e; cases e
end
end Go.Proofs.YtfajmelamonolaaGreatDoor

/- Parts of owned slices that are looked at; clear; elements of many cells that are turned. Plain theorems over any program. -/
set_option linter.unusedVariables false
set_option linter.unusedSimpArgs false
namespace Go.Proofs.YtfajmelamonolaaGreatDoor
open Go.RowKit
instance rep1List {α : Type} [Rep α] : Rep1 (List α) := ⟨fun h v hv => by
  obtain ⟨u, rfl, h⟩ := h
  rw [List.mem_singleton.1 hv]; exact h.one, Nat.one_pos⟩
section
variable {Rn : Option Nat} {P : Program} {ops : Array Oper} {Q : Exit → Act → World → Prop} {rest : List Oper} {o : Oper} {a : Act} {w : World} {Df : List Deferred} {N : Nat} {E : Ent} {d : Nat} {Z : World} {ρ : PH} {L : List Atom}
variable {α : Type} [Enc α] {T El : TypeId} {bytes : Nat} {v : Value} {l r : List α}
omit [Enc α] in
theorem sl_det [Rep α] (w : World) {x y : Option Value} {v1 v2 : Value} (h1 : ∀ w, (Instr.sliceAt T v x y none).run P w = .ok v1 w) (h2 : ∀ w, (Instr.sliceAt T v x y none).run P w = .ok v2 w) (h : RoSl ρ v1 l) : RoSl ρ v2 l := by
  have := (h1 w).symm.trans (h2 w)
  injection this with e
  exact e ▸ h
end
end Go.Proofs.YtfajmelamonolaaGreatDoor

/- Slices without room behind: what is appended to them lies in a new block. Plain theorems over any program. -/
set_option linter.unusedVariables false
set_option linter.unusedSimpArgs false
namespace Go.Proofs.YtfajmelamonolaaGreatDoor
open Go.RowKit
theorem map_add0 (A : Option Addr) : A.map (fun x => x.add 0) = A := by
  cases A with
  | none => rfl
  | some a => simp [Addr.add]
theorem run_sl3 {P : Program} {T El : TypeId} {sz bytes : Nat} (ht : SlTy P T El sz bytes) (A : Option Addr) (n c : Nat) {k k' : IntKind} {j : Int} (h0 : 0 ≤ j) (h2 : j ≤ c) (w : World) :
    (Instr.sliceAt T (.slice A n c) none (some (.int k j)) (some (.int k' j))).run P w = .ok (.slice A j.toNat j.toNat) w := by
  obtain ⟨inf, z, hI, hz, hsz, hby, hzs⟩ := ht.inf
  have hjc : j.toNat ≤ c := by omega
  have hmx : max j 0 = j := by omega
  simp [Instr.sliceAt, Instr.slice, Instr.sliceBounds, Instr.sliceBound, asIntOf, run_underlying ht.und, sizeOf, typeInfo, hI, hsz, h0, h2, hjc, hmx, map_add0]
def RoFull {α : Type} [Rep α] (ρ : PH) (v : Value) (l : List α) : Prop := RoSl ρ v l ∧ ∃ A, v = .slice A l.length l.length
theorem RoFull.mono {α : Type} [Rep α] {ρ ρ' : PH} {v : Value} {l : List α} (h : RoFull ρ v l) (hl : ρ.le ρ') : RoFull ρ' v l := ⟨h.1.mono hl, h.2⟩
theorem RoSl.full {P : Program} {α : Type} [Rep α] {ρ : PH} {v : Value} {l : List α} (h : RoSl ρ v l) {T El : TypeId} {bytes : Nat} (ht : SlTy P T El (Rep.sz α) bytes) (k k' : IntKind) :
    ∃ v', (∀ w, (Instr.sliceAt T v none (some (.int k (l.length : Int))) (some (.int k' (l.length : Int)))).run P w = .ok v' w) ∧ RoFull ρ v' l := by
  obtain ⟨A, c, rfl, h2, h3⟩ := h
  exact ⟨_, fun w => run_sl3 ht A l.length c (by omega) (by omega) w, ⟨A, l.length, by simp, Nat.le_refl _, h3⟩, A, by simp⟩
theorem run_sl30 {P : Program} {T El : TypeId} {sz bytes : Nat} (ht : SlTy P T El sz bytes) {v : Value} (hv : ∃ A n c, v = .slice A n c) (k k' : IntKind) : ∃ A, ∀ w, (Instr.sliceAt T v none (some (.int k 0)) (some (.int k' 0))).run P w = .ok (.slice A 0 0) w := by
  obtain ⟨A, n, c, rfl⟩ := hv
  exact ⟨A, fun w => run_sl3 ht A n c (j := 0) (by omega) (by omega) w⟩
section
variable {P : Program} {o : Oper} {a : Act} {C : World → Prop} {Df : List Deferred} {N : Nat} {E : Ent}
theorem ex_sl3 {t : TypeId} {x h m : Operand} (ho : o.op = .slice t x none (some h) (some m)) (hE : EnvD Df N E a) {p v : Value} (hx : evo E x = some p) {k k' : IntKind} {i j : Int} (hh : evo E h = some (.int k i)) (hm : evo E m = some (.int k' j)) (hr : ∀ w, (Instr.sliceAt t p none (some (.int k i)) (some (.int k' j))).run P w = .ok v w) : Ex P C a o v :=
  ex_slice ho hE hx fun w => by simp only [Option.map_none, Option.map_some, hE.eval hh, hE.eval hm]; exact hr w
end
section
variable {α : Type} [Rep α] [Rep1 α] {Rn : Option Nat} {P : Program} {ops : Array Oper} {Q : Exit → Act → World → Prop} {rest : List Oper} {o : Oper} {a : Act} {w : World} {Df : List Deferred} {N : Nat} {E : Ent} {d : Nat} {Z : World} {ρ : PH} {L : List Atom}
theorem s_appC (wk : Region.wanted o (yielded ops a.tmps) = true) (hd : o.dst = some d) (hN : Nat.blt d N = true) (hE : EnvD Df N E a) (hp : Hp Z ρ L w) {x y : Operand} {t : TypeId} (ho : o.op = .call { callee := .builtin .append, args := #[x, y], argTypes := #[t, t] }) {El : TypeId} {bytes : Nat} (ht : SlTy P t El (Rep.sz α) bytes) (hby : Nat.ble bytes 16384 = true)
    {v : Value} (hx : evo E x = some v) {l : List α} (hs : RoFull ρ v l) {b off m c : Nat} (hy : evo E y = some (.slice (some ⟨b, off, none⟩) m c)) {l2 r : List α} {ys : List Value} (hm : l2.length = m) (hm0 : Nat.blt 0 m = true) (hR2 : RepAll ρ l2 ys) (hn : ∀ j u, ys[j]? = some u → w.cell? ⟨b, off + j, none⟩ = some u) (hr : app l l2 = some r)
    (K : ∀ v' xs a w, RepAll ρ l xs → EnvD Df N ((d, v') :: E) a → Hp Z ρ (RowR El v' r (xs ++ ys) :: L) w → wpL Rn P ops Q rest a w) : wpL Rn P ops Q (o :: rest) a w := by
  obtain ⟨hs, A, rfl⟩ := hs
  rcases Nat.eq_zero_or_pos l.length with h0 | h0
  · have hnil := List.eq_nil_of_length_eq_zero h0
    subst hnil
    have hp' : Hp Z ρ (RowR El (.slice A 0 0) ([] : List α) [] :: L) w := hp.emp (Row.nil El _ A)
    exact s_appR wk hd hN hE hp' ho ht hby hx 0 rfl hy hm hR2 hn hr fun v' a w hE hp => K v' [] a w rfl hE hp
  · obtain ⟨hlen, rfl⟩ := app_some hr
    have hm0' : 0 < m := by simpa using hm0
    have hby' : bytes ≤ 16384 := by simpa using hby
    have hb2 : (l.length + m) * bytes ≤ 4294967296 * 16384 := Nat.mul_le_mul (by omega) hby'
    obtain ⟨b0, off0, c0, xs, e0, hR, hat⟩ := hs.rowR h0
    simp only [Value.slice.injEq] at e0
    obtain ⟨rfl, _, _⟩ := e0
    obtain ⟨i, z, hi, hz, hsize, hbyt, hzs⟩ := ht.inf
    have hxl : xs.length = l.length * i.size := by rw [hR.len, hsize]
    have hyl : ys.length = m * i.size := by rw [hR2.len, hm, hsize]
    have hcell : ∀ j u, xs[j]? = some u → w.cell? ((⟨b0, off0, none⟩ : Addr).add j) = some u := fun j u hj => by rw [Addr.add_lit]; exact cell_of hp.le (hat j u hj)
    have hrun := run_append_grow (P := P) w t o.type El i z ht.und hi hz ⟨b0, off0, none⟩ l.length l.length xs hxl hcell ⟨b, off, none⟩ m c ys hyl (fun j u hj => by rw [Addr.add_lit]; exact hn j u hj) (by omega) (by omega) (growslice_fits (by omega) (by rw [hbyt]; omega))
    obtain ⟨v', w', hrun2, hp'⟩ : ∃ v' w', (Builtin.append_ #[t, t] o.type #[.slice (some ⟨b0, off0, none⟩) l.length l.length, .slice (some ⟨b, off, none⟩) m c]).run P w = .ok v' w' ∧ Hp Z ρ (RowR El v' (l ++ l2) (xs ++ ys) :: L) w' := by
      refine ⟨_, _, hrun, ?_⟩
      have hge := grownCap_ge w (l.length + m) l.length El
      have hcm : grownCap w (l.length + m) l.length El ≤ maxLen := grownCap_le_maxLen w (l.length + m) l.length El (by unfold maxLen; omega)
      unfold RowR
      rw [List.length_append, hm]
      refine (hp.drew.alloc _).shut hge hcm ?_ ?_
      · simp only [Array.size_append, List.size_toArray, size_zeroCells, hzs, hxl, hyl, List.length_append, ← hsize, ← Nat.add_mul]
        congr 1
        omega
      · have hlen : (xs ++ ys).length = (l.length + m) * i.size := by rw [List.length_append, hxl, hyl, Nat.add_mul]
        simp only [Array.toList_append, List.append_assoc]
        rw [← List.append_assoc, ← hsize, ← hlen]
        exact List.take_left
    refine s_run wk hd hN hE (v := v') (w' := w') ?_ fun a' hE' => K v' xs a' w' hR hE' hp'
    simp only [execOp, ho, resolve, invoke, builtin, Sem.run_bind, Sem.run_pure, Result.andThen_ok, List.map_toArray, List.map_cons, List.map_nil, hE.eval hx, hE.eval hy, hrun2]
end
end Go.Proofs.YtfajmelamonolaaGreatDoor

/- An arena of rows, and tables whose elements name its rows; a table of which one row is looked at while others grow. Plain theorems over any program. -/
set_option linter.unusedVariables false
set_option linter.unusedSimpArgs false
namespace Go.Proofs.YtfajmelamonolaaGreatDoor
open Go.RowKit
def hd (au : List Sl) (i : Nat) : Sl := au.getD i Sl.nil
def wmap (au : List Sl) (ids : List (List Nat)) : List (List Sl) := ids.map fun r => r.map (hd au)
def idsOk (n : Nat) (ids : List (List Nat)) : Bool := ids.all fun r => r.all fun i => decide (i < n)
def arPut {α : Type} (l : List (List α)) (ids : List (List Nat)) (c : List α) : Option (List (List α)) := if idsOk l.length ids = true then some (l ++ [c]) else none
theorem arPut_some {α : Type} {l r : List (List α)} {ids : List (List Nat)} {c : List α} (h : arPut l ids c = some r) : idsOk l.length ids = true ∧ r = l ++ [c] := by
  unfold arPut at h
  split at h
  · exact ⟨by assumption, (Option.some.inj h).symm⟩
  · cases h
theorem hd_app {au : List Sl} {s : Sl} {i : Nat} (h : i < au.length) : hd (au ++ [s]) i = hd au i := by
  unfold hd; rw [List.getD_eq_getElem?_getD, List.getD_eq_getElem?_getD, List.getElem?_append_left h]
theorem hd_new {au : List Sl} {s : Sl} : hd (au ++ [s]) au.length = s := by
  unfold hd; rw [List.getD_eq_getElem?_getD, List.getElem?_append_right (Nat.le_refl _)]; simp
theorem hd_get {au : List Sl} {i : Nat} {u : Sl} (h : au[i]? = some u) : hd au i = u := by unfold hd; rw [List.getD_eq_getElem?_getD, h]; rfl
theorem wmap_app {au : List Sl} {s : Sl} {ids : List (List Nat)} (h : idsOk au.length ids = true) : wmap (au ++ [s]) ids = wmap au ids := by
  unfold idsOk at h
  simp only [List.all_eq_true, decide_eq_true_eq] at h
  unfold wmap
  refine List.map_congr_left fun r hr => List.map_congr_left fun i hi => hd_app (h r hr i hi)
theorem idx_map' {α β : Type} {f : α → β} {l : List α} {i : Int} {a : α} (h : idx l i = some a) : idx (l.map f) i = some (f a) := by
  obtain ⟨h0, _, h1⟩ := idx_some h
  unfold idx; rw [if_pos h0, List.getElem?_map, h1]; rfl
theorem app_map {α β : Type} {f : α → β} {l l2 r : List α} (h : app l l2 = some r) : app (l.map f) (l2.map f) = some (r.map f) := by
  obtain ⟨h1, rfl⟩ := app_some h
  unfold app; rw [if_pos (by simpa using h1), List.map_append]
theorem sub_map {α β : Type} {f : α → β} {l r : List α} {i j : Int} (h : sub l i j = some r) : sub (l.map f) i j = some (r.map f) := by
  unfold sub at h ⊢
  split at h
  · rename_i hc
    rw [if_pos (by simpa using hc)]
    obtain rfl := Option.some.inj h
    rw [← List.map_take, ← List.map_drop]
  · cases h
theorem wmap_idx {au : List Sl} {ids : List (List Nat)} {i : Int} {r : List Nat} (h : idx ids i = some r) : idx (wmap au ids) i = some (r.map (hd au)) := idx_map' h
theorem wmap_set {au : List Sl} {ids : List (List Nat)} {i : Nat} {r : List Nat} : wmap au (ids.set i r) = (wmap au ids).set i (r.map (hd au)) := by unfold wmap; rw [List.map_set]
theorem wmap_len {au : List Sl} {ids : List (List Nat)} : (wmap au ids).length = ids.length := by unfold wmap; rw [List.length_map]
theorem wmap_nils {au : List Sl} (n : Nat) : wmap au (List.replicate n []) = List.replicate n [] := by unfold wmap; simp
section
variable {Z : World} {ρ : PH} {L : List Atom} {w : World} {α : Type} [Enc α] {Ti : TypeId} {au : List Sl} {l : List (List α)}
theorem Hp.arPut {s : Sl} {vr : Value} (he : s.v = vr) {c : List α} (hp : Hp Z ρ (OwnSl Ti vr c :: RowsA Ti au l :: L) w) : Hp Z ρ (RowsA Ti (au ++ [s]) (l ++ [c]) :: L) w := by
  subst he; exact hp.to RowsA.snoc
theorem Hp.arLen (hp : Hp Z ρ (RowsA Ti au l :: L) w) : au.length = l.length := RowsA.len hp.sep
def ArX (Ti : TypeId) (au : List Sl) (l : List (List α)) (i : Nat) : Atom := RowsA Ti (au.eraseIdx i) (l.eraseIdx i)
theorem Hp.arTake {i : Nat} {c : List α} (hi : l[i]? = some c) (hp : Hp Z ρ (RowsA Ti au l :: L) w) : Hp Z ρ (OwnSl Ti (hd au i).v c :: ArX Ti au l i :: L) w := by
  have hl := hp.arLen
  obtain ⟨h1, _⟩ := List.getElem?_eq_some_iff.1 hi
  have hu : au[i]? = some au[i] := List.getElem?_eq_getElem (by omega)
  rw [hd_get hu]
  exact hp.to (RowsA.take i hu hi).1
theorem Hp.arBack {i : Nat} {c c' : List α} (hi : l[i]? = some c) (hl : au.length = l.length) (hp : Hp Z ρ (OwnSl Ti (hd au i).v c' :: ArX Ti au l i :: L) w) : Hp Z ρ (RowsA Ti au (l.set i c') :: L) w := by
  obtain ⟨h1, _⟩ := List.getElem?_eq_some_iff.1 hi
  have hu : au[i]? = some au[i] := List.getElem?_eq_getElem (by omega)
  rw [hd_get hu] at hp
  refine hp.to fun s => (RowsA.take (us := au) (l := l.set i c') (r := c') i hu (by rw [List.getElem?_set_self h1])).2 ?_
  rw [List.eraseIdx_set_eq]; exact s
end
def TblZ {α : Type} [Enc α] (T Ti : TypeId) (v : Value) (us : List Sl) (l : List (List α)) (i : Int) : Atom := star (OwnSl T v us) (RowsA Ti (us.set i.toNat Sl.nil) (l.set i.toNat []))
def TblZX {α : Type} [Enc α] (T Ti : TypeId) (v : Value) (us : List Sl) (l : List (List α)) (i j : Int) : Atom := star (OwnSl T v us) (RowsA Ti ((us.set i.toNat Sl.nil).eraseIdx j.toNat) ((l.set i.toNat []).eraseIdx j.toNat))
section
variable {Rn : Option Nat} {P : Program} {ops : Array Oper} {Q : Exit → Act → World → Prop} {rest : List Oper} {o : Oper} {a : Act} {w : World} {Df : List Deferred} {N : Nat} {E : Ent} {d : Nat} {Z : World} {ρ : PH} {L : List Atom}
variable {α : Type} [Enc α] {T Ti To Tr : TypeId} {v : Value} {us : List Sl} {l : List (List α)} {bytes : Nat}
theorem TblA.lendRow (hp : Hp Z ρ L w) (k : Nat) (hk : L[k]? = some (TblA T Ti v us l)) {i : Int} {u : Sl} {r : List α} (hu : idx us i = some u) (hi : idx l i = some r) :
    Hp Z ρ (OwnSl Ti u.v r :: TblZ T Ti v us l i :: L.eraseIdx k) w := by
  obtain ⟨_, hui, hus⟩ := idx_some hu
  obtain ⟨_, hli, hls⟩ := idx_some hi
  refine (TblA.focus hp k hk hu hi).to fun s => Sep.cons_mono (fun ρ h s => Sep.two.2 (Sep.swap ?_)) s
  refine (RowsA.take (us := us.set i.toNat Sl.nil) (l := l.set i.toNat []) (u := Sl.nil) (r := ([] : List α)) i.toNat (by rw [List.getElem?_set_self (by omega)]) (by rw [List.getElem?_set_self (by omega)])).2 ?_
  rw [List.eraseIdx_set_eq, List.eraseIdx_set_eq]
  refine ⟨PH.emp, OwnSl.nil Ti, PH.dj_emp ρ, ?_⟩
  have e : ρ.un PH.emp = ρ := by funext b; unfold PH.un PH.emp; cases ρ b <;> rfl
  rw [e]; exact s
theorem TblZ.lens {i : Int} (hp : Hp Z ρ (TblZ T Ti v us l i :: L) w) : us.length = l.length := by
  have := RowsA.len (Sep.swap (hp.to Sep.two.1).sep)
  simpa using this
theorem TblZ.hdr {i : Int} (hp : Hp Z ρ L w) (k : Nat) (hk : L[k]? = some (TblZ T Ti v us l i)) (ht : SlTy P To T 1 bytes) {j : Int} {r : List α} (hi : idx l j = some r) :
    ∃ (u : Sl) (g off : Nat), idx us j = some u ∧ (∀ w, (Instr.indexAt To v (.int .i64 j)).run P w = .ok (.pointer (some ⟨g, off, none⟩)) w) ∧ (∃ of0 cap, v = .slice (some ⟨g, of0, none⟩) us.length cap ∧ off = of0 + j.toNat * 1) ∧
      ∀ (q : Nat) (x : Value), [u.v][q]? = some x → ∀ ρ' L' w, Hp Z ρ' (TblZ T Ti v us l i :: L') w → w.cell? ⟨g, off + q, none⟩ = some x := by
  have h := (hp.get k hk)
  obtain ⟨i0, i1, i2⟩ := idx_some hi
  have hl := TblZ.lens h
  have hu : idx us j = some us[j.toNat] := by unfold idx; rw [if_pos i0]; exact List.getElem?_eq_getElem (by omega)
  obtain ⟨g, off, e1, e2, e3⟩ := OwnSl.at (h.to Sep.two.1) 0 rfl ht hu
  exact ⟨_, g, off, hu, e1, e2, fun q x hx ρ' L' w hw => e3 q x hx _ _ w (hw.to Sep.two.1)⟩
theorem TblZ.takeRow {i : Int} (hp : Hp Z ρ L w) (k : Nat) (hk : L[k]? = some (TblZ T Ti v us l i)) {j : Int} (hne : j.toNat ≠ i.toNat) {u : Sl} {r : List α} (hu : idx us j = some u) (hi : idx l j = some r) :
    Hp Z ρ (OwnSl Ti u.v r :: TblZX T Ti v us l i j :: L.eraseIdx k) w := by
  obtain ⟨_, _, hus⟩ := idx_some hu
  obtain ⟨_, _, hls⟩ := idx_some hi
  refine ((hp.get k hk).to Sep.two.1).to fun s => ?_
  have h2 := (RowsA.take (us := us.set i.toNat Sl.nil) (l := l.set i.toNat []) (u := u) (r := r) j.toNat (by rw [List.getElem?_set, if_neg (fun e => hne e.symm)]; exact hus) (by rw [List.getElem?_set, if_neg (fun e => hne e.symm)]; exact hls)).1 s.swap
  exact Sep.cons_mono (fun ρ h s => Sep.two.2 (Sep.swap s)) h2
theorem TblZX.adr {i j : Int} (hp : Hp Z ρ L w) (k : Nat) (hk : L[k]? = some (TblZX T Ti v us l i j)) (ht : SlTy P To T 1 bytes) {m : Int} {u : Sl} (hu : idx us m = some u) :
    ∃ (g off : Nat), (∀ w, (Instr.indexAt To v (.int .i64 m)).run P w = .ok (.pointer (some ⟨g, off, none⟩)) w) ∧ (∃ of0 cap, v = .slice (some ⟨g, of0, none⟩) us.length cap ∧ off = of0 + m.toNat * 1) := by
  obtain ⟨g, off, e1, e2, _⟩ := OwnSl.at ((hp.get k hk).to Sep.two.1) 0 rfl ht hu
  exact ⟨g, off, e1, e2⟩
theorem TblZ.adr {i : Int} (hp : Hp Z ρ L w) (k : Nat) (hk : L[k]? = some (TblZ T Ti v us l i)) (ht : SlTy P To T 1 bytes) {m : Int} {u : Sl} (hu : idx us m = some u) :
    ∃ (g off : Nat), (∀ w, (Instr.indexAt To v (.int .i64 m)).run P w = .ok (.pointer (some ⟨g, off, none⟩)) w) ∧ (∃ of0 cap, v = .slice (some ⟨g, of0, none⟩) us.length cap ∧ off = of0 + m.toNat * 1) := by
  obtain ⟨g, off, e1, e2, _⟩ := OwnSl.at ((hp.get k hk).to Sep.two.1) 0 rfl ht hu
  exact ⟨g, off, e1, e2⟩
theorem s_tputZ (wk : Region.wanted o (yielded ops a.tmps) = true) (hd : o.dst = none) (hE : EnvD Df N E a) {ur : Sl} {vr : Value} (he : ur.v = vr) {r' : List α} (hp : Hp Z ρ (OwnSl Ti vr r' :: L) w) {Tx : TypeId} {x y : Operand} (ho : o.op = .store Tx x y) {g off : Nat} (hx : evo E x = some (.pointer (some ⟨g, off, none⟩))) (hy : evo E y = some vr) (k : Nat) {i j : Int} (hk : L[k]? = some (TblZX T Ti v us l i j)) (hne : j.toNat ≠ i.toNat)
    {u : Sl} {r : List α} (hu : idx us j = some u) (hi : idx l j = some r) (hv : ∃ of0 cap, v = .slice (some ⟨g, of0, none⟩) us.length cap ∧ off = of0 + j.toNat * 1) (ht : ∀ w, (sizeOf Tx).run P w = .ok 1 w)
    (K : ∀ w, Hp Z ρ (L.set k (TblZ T Ti v (us.set j.toNat ur) (l.set j.toNat r') i)) w → wpL Rn P ops Q rest a w) : wpL Rn P ops Q (o :: rest) a w := by
  subst he
  obtain ⟨_, hui, hus⟩ := idx_some hu
  obtain ⟨_, hli, hls⟩ := idx_some hi
  have h0 : Hp Z ρ (OwnSl T v us :: OwnSl Ti ur.v r' :: RowsA Ti ((us.set i.toNat Sl.nil).eraseIdx j.toNat) ((l.set i.toNat []).eraseIdx j.toNat) :: L.eraseIdx k) w :=
    (hp.get (k + 1) (A := TblZX T Ti v us l i j) (by simpa using hk)).to fun s => Sep.cons_mono (fun ρ h => Sep.swap) (Sep.two.1 s)
  refine s_stel wk hd hE h0 ho hx hy 0 rfl hu hv 0 ht rfl ur.cells ur.one ⟨rfl, rfl⟩ fun w hw => K w ?_
  refine Hp.put k (List.getElem?_eq_some_iff.1 hk).1 (hw.to fun s => Sep.two.2 (Sep.cons_mono (fun ρ h s => ?_) s))
  rw [List.set_comm _ _ hne, List.set_comm _ _ hne]
  refine (RowsA.take (us := (us.set i.toNat Sl.nil).set j.toNat ur) (l := (l.set i.toNat []).set j.toNat r') (u := ur) (r := r') j.toNat (by rw [List.getElem?_set_self (by simpa using (by omega : j.toNat < us.length))]) (by rw [List.getElem?_set_self (by simpa using (by omega : j.toNat < l.length))])).2 ?_
  rw [List.eraseIdx_set_eq, List.eraseIdx_set_eq]
  exact s
theorem s_tputI (wk : Region.wanted o (yielded ops a.tmps) = true) (hd : o.dst = none) (hE : EnvD Df N E a) {ur : Sl} {vr : Value} (he : ur.v = vr) {r' : List α} (hp : Hp Z ρ (OwnSl Ti vr r' :: L) w) {Tx : TypeId} {x y : Operand} (ho : o.op = .store Tx x y) {g off : Nat} (hx : evo E x = some (.pointer (some ⟨g, off, none⟩))) (hy : evo E y = some vr) (k : Nat) {i : Int} (hk : L[k]? = some (TblZ T Ti v us l i))
    {u : Sl} {r : List α} (hu : idx us i = some u) (hi : idx l i = some r) (hv : ∃ of0 cap, v = .slice (some ⟨g, of0, none⟩) us.length cap ∧ off = of0 + i.toNat * 1) (ht : ∀ w, (sizeOf Tx).run P w = .ok 1 w)
    (K : ∀ w, Hp Z ρ (L.set k (TblA T Ti v (us.set i.toNat ur) (l.set i.toNat r'))) w → wpL Rn P ops Q rest a w) : wpL Rn P ops Q (o :: rest) a w := by
  subst he
  obtain ⟨_, hui, hus⟩ := idx_some hu
  obtain ⟨_, hli, hls⟩ := idx_some hi
  have h0 : Hp Z ρ (OwnSl T v us :: OwnSl Ti ur.v r' :: RowsA Ti (us.set i.toNat Sl.nil) (l.set i.toNat []) :: L.eraseIdx k) w :=
    (hp.get (k + 1) (A := TblZ T Ti v us l i) (by simpa using hk)).to fun s => Sep.cons_mono (fun ρ h => Sep.swap) (Sep.two.1 s)
  refine s_stel wk hd hE h0 ho hx hy 0 rfl hu hv 0 ht rfl ur.cells ur.one ⟨rfl, rfl⟩ fun w hw => K w ?_
  refine Hp.put k (List.getElem?_eq_some_iff.1 hk).1 (Hp.tblShut (hw.to fun s => Sep.cons_mono (fun ρ h s => ?_) s))
  refine (RowsA.take (us := us.set i.toNat ur) (l := l.set i.toNat r') (u := ur) (r := r') i.toNat (by rw [List.getElem?_set_self (by omega)]) (by rw [List.getElem?_set_self (by omega)])).2 ?_
  rw [List.eraseIdx_set_eq, List.eraseIdx_set_eq]
  refine Sep.cons_mono (fun ρ h s => ?_) s
  have h2 := (RowsA.take (us := us.set i.toNat Sl.nil) (l := l.set i.toNat []) (u := Sl.nil) (r := ([] : List α)) i.toNat (by rw [List.getElem?_set_self (by omega)]) (by rw [List.getElem?_set_self (by omega)])).1 s
  rw [List.eraseIdx_set_eq, List.eraseIdx_set_eq] at h2
  exact Sep.drop h2
def WTb (T Ti Tc : TypeId) (v : Value) (ua : List Sl × List Sl) (W : List (List Nat) × List (List Int)) : Atom := star (TblA T Ti v ua.1 (wmap ua.2 W.1)) (RowsA Tc ua.2 W.2)
variable {Tc : TypeId} {ua : List Sl × List Sl} {W : List (List Nat) × List (List Int)}
theorem WTb.opn (h : Hp Z ρ (WTb T Ti Tc v ua W :: L) w) : Hp Z ρ (TblA T Ti v ua.1 (wmap ua.2 W.1) :: RowsA Tc ua.2 W.2 :: L) w := h.to Sep.two.1
theorem WTb.shut (h : Hp Z ρ (TblA T Ti v ua.1 (wmap ua.2 W.1) :: RowsA Tc ua.2 W.2 :: L) w) : Hp Z ρ (WTb T Ti Tc v ua W :: L) w := h.to Sep.two.2
theorem WTb.slice (hp : Hp Z ρ L w) (k : Nat) (hk : L[k]? = some (WTb T Ti Tc v ua W)) : ∃ s : Sl, s.v = v := TblA.slice (WTb.opn (hp.get k hk)) 0 rfl
theorem WTb.cells (hp : Hp Z ρ L w) (k : Nat) (hk : L[k]? = some (WTb T Ti Tc v ua W)) : v.cells = #[v] := by obtain ⟨s, rfl⟩ := WTb.slice hp k hk; exact s.cells
theorem WTb.one (hp : Hp Z ρ L w) (k : Nat) (hk : L[k]? = some (WTb T Ti Tc v ua W)) : v.oneCell' = true := by obtain ⟨s, rfl⟩ := WTb.slice hp k hk; exact s.one
theorem WTb.len (hp : Hp Z ρ L w) (k : Nat) (hk : L[k]? = some (WTb T Ti Tc v ua W)) (ht : SlTy P To T 1 bytes) (w : World) (ty : TypeId) : (Builtin.len_ #[To] ty #[v]).run P w = .ok (.int .i64 W.1.length) w := by
  rw [← wmap_len (au := ua.2)]
  exact TblA.len (WTb.opn (hp.get k hk)) 0 rfl ht w ty
theorem WTb.start (Tc : TypeId) {n : Nat} {us : List Sl} (hp : Hp Z ρ (TblA T Ti v us (List.replicate n ([] : List Sl)) :: L) w) : Hp Z ρ (WTb T Ti Tc v (us, []) (List.replicate n [], []) :: L) w := by
  refine WTb.shut ?_
  rw [wmap_nils]
  exact hp.to fun s => Sep.cons_mono (fun ρ h s => Sep.emp1.2 s) s
theorem s_wmake (wk : Region.wanted o (yielded ops a.tmps) = true) (hd : o.dst = some d) (hN : Nat.blt d N = true) (hE : EnvD Df N E a) (hp : Hp Z ρ L w) {x y : Operand} (ho : o.op = .makeSlice To x y) (hu : P.underlying To = some (.slice T))
    (hi : (P.info? T).map (fun i => (i.zero.map Value.cells, i.size, i.bytes)) = some (some #[.slice none 0 0], 1, bytes)) (hby : Nat.ble bytes 16384 = true) {k k' : IntKind} {n c : Int} (hx : evo E x = some (.int k n)) (hy : evo E y = some (.int k' c)) {r : List (List Nat)} (hr : mkc n c ([] : List Nat) = some r) (Ti Tc : TypeId)
    (K : ∀ v ua a w, EnvD Df N ((d, v) :: E) a → Hp Z ρ (WTb T Ti Tc v ua (r, []) :: L) w → wpL Rn P ops Q rest a w) : wpL Rn P ops Q (o :: rest) a w := by
  obtain ⟨h0, h1, h2, rfl⟩ := mkc_some hr
  exact s_tmake (α := Sl) wk hd hN hE hp ho hu hi hby hx hy (r := List.replicate n.toNat []) (by unfold mkc; rw [if_pos ⟨h0, h1, h2⟩]) Ti fun v us a w hE hp => K v (us, []) a w hE (WTb.start Tc hp)
theorem WTb.give {s : Sl} {vr : Value} (he : s.v = vr) {c : List Int} {l' : List (List Int)} (hl : Go.Proofs.YtfajmelamonolaaGreatDoor.arPut W.2 W.1 c = some l') (hp : Hp Z ρ (OwnSl Tc vr c :: WTb T Ti Tc v ua W :: L) w) :
    Hp Z ρ (WTb T Ti Tc v (ua.1, ua.2 ++ [s]) (W.1, l') :: L) w ∧ hd (ua.2 ++ [s]) W.2.length = s := by
  obtain ⟨hok, rfl⟩ := arPut_some hl
  have h1 : Hp Z ρ (OwnSl Tc vr c :: RowsA Tc ua.2 W.2 :: TblA T Ti v ua.1 (wmap ua.2 W.1) :: L) w := hp.to fun s => Sep.cons_mono (fun ρ h s => Sep.swap (Sep.two.1 s)) s
  have hlen : ua.2.length = W.2.length := (h1.to fun s => s.swap).arLen
  have h2 := Hp.arPut he h1
  refine ⟨WTb.shut ?_, by rw [← hlen]; exact hd_new⟩
  rw [wmap_app (by rw [hlen]; exact hok)]
  exact h2.to fun s => s.swap
def TblL (T Ti : TypeId) (v : Value) (us : List Sl) (l : List (List Sl)) : Option Int → Atom
  | none => TblA T Ti v us l
  | some i => TblZ T Ti v us l i
def ArL (Tc : TypeId) (au : List Sl) (l : List (List Int)) : Option (Nat × Value) → Atom
  | none => RowsA Tc au l
  | some h => fun k => ArX Tc au l h.1 k ∧ au.length = l.length ∧ h.1 < l.length ∧ (hd au h.1).v = h.2
def WTbG (T Ti Tc : TypeId) (v : Value) (ua : List Sl × List Sl) (W : List (List Nat) × List (List Int)) (li : Option Int) (ai : Option (Nat × Value)) : Atom :=
  star (TblL T Ti v ua.1 (wmap ua.2 W.1) li) (ArL Tc ua.2 W.2 ai)
theorem WTbG.of (h : Hp Z ρ (WTb T Ti Tc v ua W :: L) w) : Hp Z ρ (WTbG T Ti Tc v ua W none none :: L) w := h
theorem WTbG.to (h : Hp Z ρ (WTbG T Ti Tc v ua W none none :: L) w) : Hp Z ρ (WTb T Ti Tc v ua W :: L) w := h
theorem OwnSl.sl30 {β : Type} [Enc β] {r : List β} (hp : Hp Z ρ L w) (k : Nat) (hk : L[k]? = some (OwnSl T v r)) {Tq : TypeId} {sz : Nat} (ht : SlTy P Tq T sz bytes) (i i' : IntKind) : ∃ A, ∀ w, (Instr.sliceAt Tq v none (some (.int i 0)) (some (.int i' 0))).run P w = .ok (.slice A 0 0) w := by
  obtain ⟨s, rfl⟩ := OwnSl.toSl hp k hk
  exact run_sl30 ht s.2 i i'
theorem OwnH.len {au : List Sl} {r : List Nat} (hp : Hp Z ρ L w) (k : Nat) (hk : L[k]? = some (OwnSl T v (r.map (hd au)))) (ht : SlTy P To T 1 bytes) (w : World) (ty : TypeId) : (Builtin.len_ #[To] ty #[v]).run P w = .ok (.int .i64 r.length) w := by
  have := OwnSl.len hp k hk ht w ty
  rwa [List.length_map] at this
theorem OwnH.at {au : List Sl} {r : List Nat} {i : Int} {h : Nat} (hp : Hp Z ρ L w) (k : Nat) (hk : L[k]? = some (OwnSl T v (r.map (hd au)))) (ht : SlTy P To T 1 bytes) (hi : idx r i = some h) :
    ∃ g off, (∀ w, (Instr.indexAt To v (.int .i64 i)).run P w = .ok (.pointer (some ⟨g, off, none⟩)) w) ∧
      ∀ (j : Nat) (x : Value), ([(hd au h).v] : List Value)[j]? = some x → ∀ ρ' L' w, Hp Z ρ' (OwnSl T v (r.map (hd au)) :: L') w → w.cell? ⟨g, off + j, none⟩ = some x := by
  obtain ⟨g, off, e1, _, e3⟩ := OwnSl.at hp k hk ht (idx_map' (f := hd au) hi)
  exact ⟨g, off, e1, e3⟩
theorem WTbG.slice {li : Option Int} {ai : Option (Nat × Value)} (hp : Hp Z ρ L w) (k : Nat) (hk : L[k]? = some (WTbG T Ti Tc v ua W li ai)) : ∃ s : Sl, s.v = v := by
  cases li with
  | none => exact TblA.slice ((hp.get k hk).to Sep.two.1) 0 rfl
  | some i => exact OwnSl.toSl (((hp.get k hk).to Sep.two.1).to Sep.two.1) 0 rfl
theorem WTbG.cells {li : Option Int} {ai : Option (Nat × Value)} (hp : Hp Z ρ L w) (k : Nat) (hk : L[k]? = some (WTbG T Ti Tc v ua W li ai)) : v.cells = #[v] := by obtain ⟨s, rfl⟩ := WTbG.slice hp k hk; exact s.cells
theorem WTbG.one {li : Option Int} {ai : Option (Nat × Value)} (hp : Hp Z ρ L w) (k : Nat) (hk : L[k]? = some (WTbG T Ti Tc v ua W li ai)) : v.oneCell' = true := by obtain ⟨s, rfl⟩ := WTbG.slice hp k hk; exact s.one
theorem s_wmakeG (wk : Region.wanted o (yielded ops a.tmps) = true) (hd : o.dst = some d) (hN : Nat.blt d N = true) (hE : EnvD Df N E a) (hp : Hp Z ρ L w) {x y : Operand} (ho : o.op = .makeSlice To x y) (hu : P.underlying To = some (.slice T))
    (hi : (P.info? T).map (fun i => (i.zero.map Value.cells, i.size, i.bytes)) = some (some #[.slice none 0 0], 1, bytes)) (hby : Nat.ble bytes 16384 = true) {k k' : IntKind} {n c : Int} (hx : evo E x = some (.int k n)) (hy : evo E y = some (.int k' c)) {r : List (List Nat)} (hr : mkc n c ([] : List Nat) = some r) (Ti Tc : TypeId)
    (K : ∀ v ua a w, EnvD Df N ((d, v) :: E) a → Hp Z ρ (WTbG T Ti Tc v ua (r, []) none none :: L) w → wpL Rn P ops Q rest a w) : wpL Rn P ops Q (o :: rest) a w :=
  s_wmake wk hd hN hE hp ho hu hi hby hx hy hr Ti Tc fun v ua a w hE hp => K v ua a w hE (WTbG.of hp)
theorem WTbG.lend {ai : Option (Nat × Value)} {i : Int} {u : Sl} {r : List Nat} (hu : idx ua.1 i = some u) (hi : idx W.1 i = some r) (hp : Hp Z ρ (WTbG T Ti Tc v ua W none ai :: L) w) :
    Hp Z ρ (OwnSl Ti u.v (r.map (hd ua.2)) :: WTbG T Ti Tc v ua W (some i) ai :: L) w := by
  have h2 := TblA.lendRow (hp.to Sep.two.1) 0 rfl hu (wmap_idx hi)
  exact h2.to fun s => Sep.cons_mono (fun ρ h s => Sep.two.2 s) s
theorem WTbG.take {li : Option Int} {i : Nat} {c : List Int} (hi : W.2[i]? = some c) (hp : Hp Z ρ (WTbG T Ti Tc v ua W li none :: L) w) : ∃ vc, (hd ua.2 i).v = vc ∧ Hp Z ρ (OwnSl Tc vc c :: WTbG T Ti Tc v ua W li (some (i, vc)) :: L) w := by
  have h1 : Hp Z ρ (RowsA Tc ua.2 W.2 :: TblL T Ti v ua.1 (wmap ua.2 W.1) li :: L) w := hp.to fun s => Sep.swap (Sep.two.1 s)
  have hl := h1.arLen
  have hlt := (List.getElem?_eq_some_iff.1 hi).1
  exact ⟨_, rfl, (Hp.arTake hi h1).to fun s => Sep.cons_mono (fun ρ h s => Sep.two.2 (Sep.swap (s.imp fun _ a => ⟨a, hl, hlt, rfl⟩))) s⟩
theorem WTbG.back {li : Option Int} {i : Nat} {vc : Value} {c' : List Int} (hp : Hp Z ρ (OwnSl Tc vc c' :: WTbG T Ti Tc v ua W li (some (i, vc)) :: L) w) : Hp Z ρ (WTbG T Ti Tc v ua (W.1, W.2.set i c') li none :: L) w := by
  have h1 : Hp Z ρ ((fun k => ArX Tc ua.2 W.2 i k ∧ ua.2.length = W.2.length ∧ i < W.2.length ∧ (hd ua.2 i).v = vc) :: OwnSl Tc vc c' :: TblL T Ti v ua.1 (wmap ua.2 W.1) li :: L) w :=
    hp.to fun s => Sep.swap (Sep.cons_mono (fun ρ h s => Sep.swap (Sep.two.1 s)) s)
  obtain ⟨_, hl, hlt, hv⟩ := Hp.fact (A := ArX Tc ua.2 W.2 i) h1
  subst hv
  have h2 : Hp Z ρ (OwnSl Tc (hd ua.2 i).v c' :: ArX Tc ua.2 W.2 i :: TblL T Ti v ua.1 (wmap ua.2 W.1) li :: L) w := (h1.imp fun _ a => a.1).to fun s => s.swap
  exact (Hp.arBack (List.getElem?_eq_getElem hlt) hl h2).to fun s => Sep.two.2 s.swap
theorem WTbG.away {li : Option Int} {i : Nat} {vc : Value} (hp : Hp Z ρ L w) (k : Nat) (hk : L[k]? = some (WTbG T Ti Tc v ua W li (some (i, vc)))) : (hd ua.2 i).v = vc := by
  have h1 : Hp Z ρ ((fun k => ArX Tc ua.2 W.2 i k ∧ ua.2.length = W.2.length ∧ i < W.2.length ∧ (hd ua.2 i).v = vc) :: TblL T Ti v ua.1 (wmap ua.2 W.1) li :: L.eraseIdx k) w := (hp.get k hk).to fun s => Sep.swap (Sep.two.1 s)
  exact (Hp.fact (A := ArX Tc ua.2 W.2 i) h1).2.2.2
theorem WTbG.give {vr : Value} {c : List Int} {l' : List (List Int)} (hl : Go.Proofs.YtfajmelamonolaaGreatDoor.arPut W.2 W.1 c = some l') (hp : Hp Z ρ (OwnSl Tc vr c :: WTbG T Ti Tc v ua W none none :: L) w) :
    ∃ au : List Sl × List Sl, Hp Z ρ (OwnSl Tc vr c :: WTbG T Ti Tc v au (W.1, l') none (some (W.2.length, vr)) :: L) w := by
  obtain ⟨s, hs⟩ := OwnSl.toSl hp 0 rfl
  obtain ⟨h1, h2⟩ := WTb.give hs hl hp
  obtain ⟨_, rfl⟩ := arPut_some hl
  obtain ⟨vc, e1, h3⟩ := WTbG.take (c := c) (i := W.2.length) (ua := (ua.1, ua.2 ++ [s])) (W := (W.1, W.2 ++ [c])) (by simp) (WTbG.of h1)
  rw [h2, hs] at e1
  subst e1
  exact ⟨_, h3⟩
def TblLX (T Ti : TypeId) (v : Value) (us : List Sl) (l : List (List Sl)) (j : Int) : Option Int → Atom
  | none => TblX T Ti v us l j
  | some i => TblZX T Ti v us l i j
def neL (j : Int) : Option Int → Prop
  | none => True
  | some i => j.toNat ≠ i.toNat
def WTbR (T Ti Tc : TypeId) (v : Value) (ua : List Sl × List Sl) (W : List (List Nat) × List (List Int)) (li : Option Int) (ai : Option (Nat × Value)) (j : Int) : Atom := star (TblLX T Ti v ua.1 (wmap ua.2 W.1) j li) (ArL Tc ua.2 W.2 ai)
theorem WTbG.takeRow {li : Option Int} {ai : Option (Nat × Value)} {j : Int} (hne : neL j li) {u : Sl} {r : List Nat} (hu : idx ua.1 j = some u) (hi : idx W.1 j = some r) (hp : Hp Z ρ (WTbG T Ti Tc v ua W li ai :: L) w) :
    Hp Z ρ (OwnSl Ti u.v (r.map (hd ua.2)) :: WTbR T Ti Tc v ua W li ai j :: L) w := by
  cases li with
  | none => exact (TblA.takeRow (hp.to Sep.two.1) 0 rfl hu (wmap_idx hi)).to fun s => Sep.cons_mono (fun ρ h s => Sep.two.2 s) s
  | some i => exact (TblZ.takeRow (hp.to Sep.two.1) 0 rfl hne hu (wmap_idx hi)).to fun s => Sep.cons_mono (fun ρ h s => Sep.two.2 s) s
theorem WTbR.away {li : Option Int} {i : Nat} {vc : Value} {j : Int} (hp : Hp Z ρ L w) (k : Nat) (hk : L[k]? = some (WTbR T Ti Tc v ua W li (some (i, vc)) j)) : (hd ua.2 i).v = vc := by
  have h1 : Hp Z ρ ((fun k => ArX Tc ua.2 W.2 i k ∧ ua.2.length = W.2.length ∧ i < W.2.length ∧ (hd ua.2 i).v = vc) :: TblLX T Ti v ua.1 (wmap ua.2 W.1) j li :: L.eraseIdx k) w := (hp.get k hk).to fun s => Sep.swap (Sep.two.1 s)
  exact (Hp.fact (A := ArX Tc ua.2 W.2 i) h1).2.2.2
theorem WTbR.adr {li : Option Int} {ai : Option (Nat × Value)} {j : Int} (hp : Hp Z ρ (WTbR T Ti Tc v ua W li ai j :: L) w) (ht : SlTy P To T 1 bytes) {u : Sl} (hu : idx ua.1 j = some u) :
    ∃ (g off : Nat), (∀ w, (Instr.indexAt To v (.int .i64 j)).run P w = .ok (.pointer (some ⟨g, off, none⟩)) w) ∧ (∃ of0 cap, v = .slice (some ⟨g, of0, none⟩) ua.1.length cap ∧ off = of0 + j.toNat * 1) := by
  cases li with
  | none => exact TblX.adr (hp.to Sep.two.1) 0 rfl ht hu
  | some i => exact TblZX.adr (hp.to Sep.two.1) 0 rfl ht hu
theorem WTbG.lens {li : Option Int} {ai : Option (Nat × Value)} (hp : Hp Z ρ (WTbG T Ti Tc v ua W li ai :: L) w) : ua.1.length = W.1.length := by
  rw [← wmap_len (au := ua.2)]
  cases li with
  | none => exact TblA.lens (hp.to Sep.two.1)
  | some i => exact TblZ.lens (hp.to Sep.two.1)
theorem WTbG.adr {li : Option Int} {ai : Option (Nat × Value)} {j : Int} (hp : Hp Z ρ (WTbG T Ti Tc v ua W li ai :: L) w) (ht : SlTy P To T 1 bytes) {u : Sl} (hu : idx ua.1 j = some u) :
    ∃ (g off : Nat), (∀ w, (Instr.indexAt To v (.int .i64 j)).run P w = .ok (.pointer (some ⟨g, off, none⟩)) w) ∧ (∃ of0 cap, v = .slice (some ⟨g, of0, none⟩) ua.1.length cap ∧ off = of0 + j.toNat * 1) := by
  cases li with
  | none =>
    obtain ⟨g, off, e1, e2, _⟩ := OwnSl.at ((hp.to Sep.two.1).to Sep.two.1) 0 rfl ht hu
    exact ⟨g, off, e1, e2⟩
  | some i => exact TblZ.adr (hp.to Sep.two.1) 0 rfl ht hu
theorem WTbG.hdr {li : Option Int} {ai : Option (Nat × Value)} {j : Int} (hp : Hp Z ρ (WTbG T Ti Tc v ua W li ai :: L) w) (ht : SlTy P To T 1 bytes) {r : List Nat} (hi : idx W.1 j = some r) :
    ∃ (u : Sl) (g off : Nat), idx ua.1 j = some u ∧ (∀ w, (Instr.indexAt To v (.int .i64 j)).run P w = .ok (.pointer (some ⟨g, off, none⟩)) w) ∧ (∃ of0 cap, v = .slice (some ⟨g, of0, none⟩) ua.1.length cap ∧ off = of0 + j.toNat * 1) ∧
      ∀ (q : Nat) (x : Value), [u.v][q]? = some x → ∀ ρ' L' w, Hp Z ρ' (WTbG T Ti Tc v ua W li ai :: L') w → w.cell? ⟨g, off + q, none⟩ = some x := by
  cases li with
  | none =>
    obtain ⟨u, g, off, e1, e2, e3, e4⟩ := TblA.hdr (hp.to Sep.two.1) 0 rfl ht (wmap_idx hi)
    exact ⟨u, g, off, e1, e2, e3, fun q x hx ρ' L' w hw => e4 q x hx ρ' _ w (hw.to Sep.two.1)⟩
  | some i =>
    obtain ⟨u, g, off, e1, e2, e3, e4⟩ := TblZ.hdr (hp.to Sep.two.1) 0 rfl ht (wmap_idx hi)
    exact ⟨u, g, off, e1, e2, e3, fun q x hx ρ' L' w hw => e4 q x hx ρ' _ w (hw.to Sep.two.1)⟩
theorem s_wput (wk : Region.wanted o (yielded ops a.tmps) = true) (hd' : o.dst = none) (hE : EnvD Df N E a) {ur : Sl} {vr : Value} (he : ur.v = vr) {r' : List Nat} {li : Option Int} {ai : Option (Nat × Value)} {j : Int} (hp : Hp Z ρ (OwnSl Ti vr (r'.map (hd ua.2)) :: WTbR T Ti Tc v ua W li ai j :: L) w) {Tx : TypeId} {x y : Operand} (ho : o.op = .store Tx x y) {g off : Nat} (hx : evo E x = some (.pointer (some ⟨g, off, none⟩))) (hy : evo E y = some vr) (hne : neL j li)
    {u : Sl} {r : List Nat} (hu : idx ua.1 j = some u) (hi : idx W.1 j = some r) (hv : ∃ of0 cap, v = .slice (some ⟨g, of0, none⟩) ua.1.length cap ∧ off = of0 + j.toNat * 1) (ht : ∀ w, (sizeOf Tx).run P w = .ok 1 w)
    (K : ∀ w, Hp Z ρ (WTbG T Ti Tc v (ua.1.set j.toNat ur, ua.2) (W.1.set j.toNat r', W.2) li ai :: L) w → wpL Rn P ops Q rest a w) : wpL Rn P ops Q (o :: rest) a w := by
  have h0 : Hp Z ρ (OwnSl Ti vr (r'.map (hd ua.2)) :: TblLX T Ti v ua.1 (wmap ua.2 W.1) j li :: ArL Tc ua.2 W.2 ai :: L) w := hp.to fun s => Sep.cons_mono (fun ρ h s => Sep.two.1 s) s
  cases li with
  | none => exact s_tputX wk hd' hE he h0 ho hx hy 0 rfl hu (wmap_idx hi) hv ht fun w hw => K w (by
      have hw : Hp Z ρ (TblA T Ti v (ua.1.set j.toNat ur) ((wmap ua.2 W.1).set j.toNat (r'.map (hd ua.2))) :: ArL Tc ua.2 W.2 ai :: L) w := hw
      rw [← wmap_set] at hw
      exact hw.to Sep.two.2)
  | some i => exact s_tputZ wk hd' hE he h0 ho hx hy 0 rfl hne hu (wmap_idx hi) hv ht fun w hw => K w (by
      have hw : Hp Z ρ (TblZ T Ti v (ua.1.set j.toNat ur) ((wmap ua.2 W.1).set j.toNat (r'.map (hd ua.2))) i :: ArL Tc ua.2 W.2 ai :: L) w := hw
      rw [← wmap_set] at hw
      exact hw.to Sep.two.2)
theorem s_wputI (wk : Region.wanted o (yielded ops a.tmps) = true) (hd' : o.dst = none) (hE : EnvD Df N E a) {ur : Sl} {vr : Value} (he : ur.v = vr) {r' : List Nat} {ai : Option (Nat × Value)} {i j : Int} (hji : j = i) (hp : Hp Z ρ (OwnSl Ti vr (r'.map (hd ua.2)) :: WTbG T Ti Tc v ua W (some i) ai :: L) w) {Tx : TypeId} {x y : Operand} (ho : o.op = .store Tx x y) {g off : Nat} (hx : evo E x = some (.pointer (some ⟨g, off, none⟩))) (hy : evo E y = some vr)
    {u : Sl} {r : List Nat} (hu : idx ua.1 j = some u) (hi : idx W.1 j = some r) (hv : ∃ of0 cap, v = .slice (some ⟨g, of0, none⟩) ua.1.length cap ∧ off = of0 + j.toNat * 1) (ht : ∀ w, (sizeOf Tx).run P w = .ok 1 w)
    (K : ∀ w, Hp Z ρ (WTbG T Ti Tc v (ua.1.set i.toNat ur, ua.2) (W.1.set i.toNat r', W.2) none ai :: L) w → wpL Rn P ops Q rest a w) : wpL Rn P ops Q (o :: rest) a w := by
  subst hji
  have h0 : Hp Z ρ (OwnSl Ti vr (r'.map (hd ua.2)) :: TblZ T Ti v ua.1 (wmap ua.2 W.1) j :: ArL Tc ua.2 W.2 ai :: L) w := hp.to fun s => Sep.cons_mono (fun ρ h s => Sep.two.1 s) s
  exact s_tputI wk hd' hE he h0 ho hx hy 0 rfl hu (wmap_idx hi) hv ht fun w hw => K w (by
    have hw : Hp Z ρ (TblA T Ti v (ua.1.set j.toNat ur) ((wmap ua.2 W.1).set j.toNat (r'.map (hd ua.2))) :: ArL Tc ua.2 W.2 ai :: L) w := hw
    rw [← wmap_set] at hw
    exact hw.to Sep.two.2)
end
section
variable {P : Program} {Z : World} {ρ : PH} {L : List Atom} {w : World} {α : Type} [Enc α] {T El : TypeId} {bytes : Nat} {v v' : Value} {l r : List α}
def ViewF (El : TypeId) (v : Value) (l : List α) (v' : Value) (r : List α) : Prop := ∀ ρ k, PH.dj ρ k → OwnSl El v l k → RoSl (ρ.un k) v' r
theorem OwnSl.viewF (hp : Hp Z ρ L w) (k : Nat) (hk : L[k]? = some (OwnSl El v l)) (ht : SlTy P T El (Enc.sz α) bytes) (lo hi : Option (IntKind × Int)) {i j : Int} (hlo : i = match lo with | none => 0 | some p => p.2) (hhi : j = match hi with | none => (l.length : Int) | some p => p.2) (hr : sub l i j = some r) :
    ∃ v', (∀ w, (Instr.sliceAt T v (lo.map fun p => .int p.1 p.2) (hi.map fun p => .int p.1 p.2) none).run P w = .ok v' w) ∧ ViewF El v l v' r := by
  obtain ⟨κ, ha, hd, _⟩ := (hp.get k hk).lend
  obtain ⟨v', h, _⟩ := RoSl.part (OwnSl.ro hd ha) ht lo hi hlo hhi hr
  refine ⟨v', h, fun ρ' κ' hd' ha' => ?_⟩
  obtain ⟨v2, h2, h3⟩ := RoSl.part (OwnSl.ro hd' ha') ht lo hi hlo hhi hr
  exact sl_det w h2 h h3
theorem ViewF.len {sz : Nat} (h : ViewF El v l v' r) (hp : Hp Z ρ L w) (k : Nat) (hk : L[k]? = some (OwnSl El v l)) (ht : SlTy P T El sz bytes) (w : World) (ty : TypeId) : (Builtin.len_ #[T] ty #[v']).run P w = .ok (.int .i64 r.length) w := by
  obtain ⟨κ, ha, hd, _⟩ := (hp.get k hk).lend
  exact (h _ _ hd ha).len ht w ty
theorem ViewF.at (h : ViewF El v l v' r) (hp : Hp Z ρ L w) (k : Nat) (hk : L[k]? = some (OwnSl El v l)) (ht : SlTy P T El (Enc.sz α) bytes) {i : Int} {e : α} (hi : idx r i = some e) :
    ∃ g off, (∀ w, (Instr.indexAt T v' (.int .i64 i)).run P w = .ok (.pointer (some ⟨g, off, none⟩)) w) ∧
      ∀ (j : Nat) (u : Value), (Enc.enc e)[j]? = some u → ∀ ρ' L' w, Hp Z ρ' (OwnSl El v l :: L') w → w.cell? ⟨g, off + j, none⟩ = some u := by
  obtain ⟨κ, ha, hd, hh⟩ := (hp.get k hk).lend
  obtain ⟨b, o, cs, e1, _, _⟩ := (h _ _ hd ha).at ht hi
  refine ⟨b, o, e1, fun j u hj ρ' L' w' hw' => ?_⟩
  obtain ⟨κ', ha', hd', hh'⟩ := hw'.lend
  obtain ⟨b', o', cs', e1', e2', hat⟩ := (h _ _ hd' ha').at ht hi
  have e3 := (e1 w).symm.trans (e1' w)
  simp only [Result.ok.injEq, Value.pointer.injEq, Option.some.injEq, Addr.mk.injEq, and_true] at e3
  obtain ⟨rfl, rfl⟩ := e3
  have e2'' : cs' = Enc.enc e := e2'
  subst e2''
  exact cell_of hh'.le (hat j u hj)
end
def guardNe (i j : Int) : Option Unit := if i.toNat = j.toNat then none else some ()
theorem guardNe_some {i j : Int} {u : Unit} (h : guardNe i j = some u) : i.toNat ≠ j.toNat := by
  unfold guardNe at h
  split at h
  · cases h
  · assumption
end Go.Proofs.YtfajmelamonolaaGreatDoor

/- Formulas, as data. -/
set_option linter.unusedVariables false
set_option linter.unusedSimpArgs false
namespace Go.Proofs.YtfajmelamonolaaGreatDoor
open Go.RowKit
structure Formula where
  vars : Int
  clauses : List (List Int)
structure PEng where
  value : List Int
  trail : List Int
  head : Int
  watches : List (List Nat) × List (List Int)
  fails : Bool
end Go.Proofs.YtfajmelamonolaaGreatDoor

/- Formulas and circuits whose numbers are ints and whose lists are not too long. -/
namespace Go.Proofs.YtfajmelamonolaaGreatDoor
open Go.RowKit
def FWf (f : Formula) : Prop := I64 f.vars ∧ LW (LW I64) f.clauses
instance repFormula : Rep Formula := ⟨2, fun ρ f cs => ∃ v, cs = [.int .i64 f.vars, v] ∧ RoSl ρ v f.clauses, fun ⟨_, h, _⟩ => by rw [h]; rfl, fun hl ⟨v, h1, h2⟩ => ⟨v, h1, h2.mono hl⟩⟩
end Go.Proofs.YtfajmelamonolaaGreatDoor

/- Formulas and circuits as arguments of laws: what is read at their types stands for them. -/
set_option linter.unusedVariables false
set_option linter.unusedSimpArgs false
namespace Go.Proofs.YtfajmelamonolaaGreatDoor
open Go.ChangeShapes Go.WideShapes Go.ChangeAt Go.RowKit
theorem reads_i : Reads Tryz.prog 3 Int I64 := reads_int Tryz.underlying3 (by kernel_rfl)
theorem reads_ints : Reads Tryz.prog 25 (List Int) (LW I64) := ⟨by kernel_rfl, by decide, fun h => by
  obtain ⟨l, v, rfl, h1, h2⟩ := reads_slice reads_i Tryz.underlying25 h
  exact ⟨l, ⟨v, rfl, h1⟩, h2⟩⟩
set_option maxRecDepth 100000 in
theorem reads_formula : Reads Tryz.prog 24 Formula FWf := ⟨by kernel_rfl, by decide, fun {H enc w base spare held fuel cs x} h => by
  obtain ⟨xs, n, _, _, hl, hx, hf⟩ := DataW.trod_struct Tryz.underlying24 h
  have hl2 : cs.length = 2 := hl.trans (by kernel_rfl)
  have hx2 : xs.length = 2 := hx
  have ki : Tryz.prog.cellsOf 3 = 1 := by kernel_rfl
  have kl : Tryz.prog.cellsOf 22 = 1 := by kernel_rfl
  match cs, hl2, xs, hx2 with
  | [c0, c1], _, [y0, y1], _ =>
    have z0 := hf 0 _ rfl
    have z1 := hf 1 _ rfl
    simp [ki] at z0
    simp [kl] at z1
    obtain ⟨n0, e0, _, w0⟩ := DataW.trod_int Tryz.underlying3 z0
    obtain ⟨l, v, e1, h1, h2⟩ := reads_slice reads_ints Tryz.underlying22 z1
    simp only [List.cons.injEq, and_true] at e0 e1
    subst e0 e1
    exact ⟨⟨n0, l⟩, ⟨_, rfl, h1⟩, I64.of w0, h2⟩⟩
end Go.Proofs.YtfajmelamonolaaGreatDoor

/- The shelf's contracts on slices of integers, over owned slices and slices that are only read: what they share. Plain theorems. -/
set_option linter.unusedVariables false
set_option linter.unusedSimpArgs false
namespace Go.Proofs.YtfajmelamonolaaGreatDoor
open Go.RowKit Go.Sort
section
variable {Z : World} {ρ : PH} {L : List Atom} {w : World}
theorem flat_int (l : List Int) : flat l = l.map (Value.int .i64) := by
  induction l with
  | nil => rfl
  | cons x l ih => rw [flat_cons, ih]; rfl
end
end Go.Proofs.YtfajmelamonolaaGreatDoor

/- What functions of Go's library compute, as data: decimal numbers; the keys of a map, sorted. -/
set_option linter.unusedVariables false
set_option linter.unusedSimpArgs false
namespace Go.Proofs.YtfajmelamonolaaGreatDoor
open Go.RowKit
def m_itoa (n : Int) : Option ByteArray := if -9223372036854775808 ≤ n ∧ n ≤ 9223372036854775807 then some ⟨(Lib.itoa n).toArray⟩ else none
end Go.Proofs.YtfajmelamonolaaGreatDoor

/- What the library reads in memory and what lies for ever: the powers of ten, how long a word may be that is looked for, two errors. -/
set_option linter.unusedVariables false
set_option linter.unusedSimpArgs false
namespace Go.Proofs.YtfajmelamonolaaGreatDoor
open Go.RowKit
structure Tabs (ρ : PH) : Prop where
  pow : ∀ w : World, ρ.le (hp w) → Lib.TabIs Tryz.prog w "internal/strconv.uint64pow10" .u64 Lib.pow10Tab
  maxl : ∃ m : Int, ∀ w : World, ρ.le (hp w) → w.cell? ⟨0, 0, none⟩ = some (.int .i64 m)
  syn : ∃ v : Value, (∀ w : World, ρ.le (hp w) → w.cell? ⟨1, 0, none⟩ = some v) ∧ (v = .nilIface ∨ ∃ te pe, v = .iface te pe)
  rng : ∃ v : Value, (∀ w : World, ρ.le (hp w) → w.cell? ⟨2, 0, none⟩ = some v) ∧ (v = .nilIface ∨ ∃ te pe, v = .iface te pe)
theorem Tabs.mono {ρ ρ' : PH} (h : Tabs ρ) (hl : ρ.le ρ') : Tabs ρ' :=
  ⟨fun w hw => h.pow w (hl.tr hw), h.maxl.imp fun _ k w hw => k w (hl.tr hw), h.syn.imp fun _ k => ⟨fun w hw => k.1 w (hl.tr hw), k.2⟩, h.rng.imp fun _ k => ⟨fun w hw => k.1 w (hl.tr hw), k.2⟩⟩
end Go.Proofs.YtfajmelamonolaaGreatDoor

/- Tables that a row lays. -/
set_option linter.unusedVariables false
set_option linter.unusedSimpArgs false
namespace Go.Proofs.YtfajmelamonolaaGreatDoor
open Go.ChangeShapes Go.WideShapes Go.RowKit
theorem laidVars_mem {P : Program} {w : World} : ∀ {l : List (String × DataW Unit)} {ps : List MemPlace}, DataW.LaidVars P w l ps → ∀ {n : String} {d : DataW Unit}, (n, d) ∈ l →
    ∃ g t cs fuel p, P.globalNamed n = some g ∧ (P.globals[g]?).map (·.type) = some t ∧ w.var? P n = some cs ∧ DataW.trod (fun _ => ()) P w 0 (fun _ => true) false fuel t cs.toList = some (d, p)
  | [], _, _, _, _, h => by simp at h
  | (n', d') :: l, ps, ⟨g, t, cs, fuel, p, q, h1, h2, h3, h4, h5, _⟩, n, d, h => by
    rcases List.mem_cons.1 h with e | h
    · simp only [Prod.mk.injEq] at e
      obtain ⟨rfl, rfl⟩ := e
      exact ⟨g, t, cs, fuel, p, h1, h2, h3, h4⟩
    · exact laidVars_mem h5 h
theorem tabIs_of_mem {P : Program} {W : World} {name : String} {k : IntKind} {zs : List Int} {l : List (String × DataW Unit)} {g : Nat} {t e : TypeId} {n : Nat} {d : DataW Unit} (hd : d = Lib.tabData k zs)
    (hg : P.globalNamed name = some g) (hty : (P.globals[g]?).map (·.type) = some t) (ht : P.underlying t = some (.array n e)) (he : P.underlying e = some (.int k)) (hce : P.cellsOf e = 1) (hct : P.cellsOf t = n)
    (hm : (name, d) ∈ l) (h : laidMet P l W) : Lib.TabIs P W name k zs := by
  subst hd
  obtain ⟨ps, hl, _⟩ := h
  obtain ⟨g', t', cs, fuel, p, h1, h2, h3, h4⟩ := laidVars_mem hl hm
  obtain rfl := Option.some.inj (hg.symm.trans h1)
  obtain rfl := Option.some.inj (hty.symm.trans h2)
  unfold Lib.TabIs
  rw [h3, ← Lib.cells_of_tab ht he hce hct h4]
end Go.Proofs.YtfajmelamonolaaGreatDoor

/- Variables that a row lays, one of them pinned, and the shape of the world at hand: what the library reads lies for ever. -/
set_option linter.unusedVariables false
set_option linter.unusedSimpArgs false
namespace Go.Proofs.YtfajmelamonolaaGreatDoor
open Go.ChangeShapes Go.WideShapes Go.RowKit
theorem returnsInHanded_of_laid_shaped {H : Type} {enc : TypeId × Value → H} {a : Assume} {C : Checked} {os : Os} {f : FuncId} {fn : Func} {s : ChangeSpec} {conds : List PathCond} {apart fresh handsOn again : Bool} {X : World → Array Value → Prop}
    (hX : ∀ (w w' : World) (args : Array Value), w.heap = w'.heap → X w args → X w' args)
    (own : ownKnob C.prog.godebug = none) (started : os.Started) (noInit : C.prog.inits.idxOf? f = none) (hfn : C.prog.funcs[f]? = some fn)
    (witness : ∃ (w : World) (tape : Tape) (i : Input), w.os = os ∧ (w.forCall tape i).Shaped C.prog ∧ i.vars = [] ∧ Input.okWide C.prog (w.forCall tape i) .any w.heap.size f i ∧
      ((s.pre enc C.prog fn conds apart (w.forCall tape i).memory i.args ∧ X (w.forCall tape i).memory i.args) ∧ sizedMet enc C.prog fn (OpenSpec.ofChange s) apart (w.forCall tape i).memory i.args) ∧ a.holds C.prog (lone (Frame.enter C.prog f i.args .normal) [] (w.forCall tape i)))
    (contract : ∀ (W : World) (base : Nat) (args : Array Value) (ds gs : List (DataW H)) (before : List MemPlace),
      (∀ (j : Nat) t v, fn.params[j]? = some t → args[j]? = some v → Value.okWide C.prog W .any base t v) →
      DataW.Whole enc C.prog fn.params.toList s.vars apart W args.toList ds gs before →
      (DataW.weightsEach C.prog (fn.params.toList ++ s.plain.varTypes C.prog) (ds ++ gs)).all (· ≤ reachBytes) = true → X W args → W.ShapedOpen C.prog →
      Calls C.prog f args W fun e W' => ∃ v, e = .returned v ∧ s.post enc C.prog fn apart fresh handsOn again W args v W') :
    ReturnsInHanded a C os f .any (fun w args => (s.pre enc C.prog fn conds apart w args ∧ X w args) ∧ sizedMet enc C.prog fn (OpenSpec.ofChange s) apart w args) (s.post enc C.prog fn apart fresh handsOn again) := by
  refine returnsInHanded_of_calls own started noInit witness ?_
  intro w tape i _ hsh _ hok hpre hholds
  obtain ⟨_, _, _, fn', hfn', _, _, _, _, hval⟩ := hok
  have e : fn' = fn := Option.some.inj (hfn'.symm.trans hfn)
  subst e
  obtain ⟨⟨⟨ds, gs, before, hw, hc⟩, hx⟩, hz⟩ := hpre
  have hw' := DataW.Whole.of_heap (w' := w.forCall tape i) (by rfl) hw
  refine (contract (w.forCall tape i) w.heap.size i.args ds gs before hval hw' (hz.weights hw) (hX _ _ _ (by rfl) hx) hsh).mono fun e W' ⟨v, he, hp⟩ => ?_
  subst he
  exact ChangeSpec.post_blind hp
theorem var_stays {P : Program} {W w : World} (hw : (hp W).le (hp w)) {name : String} {cs : Array Value} (h : W.var? P name = some cs) : w.var? P name = some cs := by
  unfold World.var? at *
  obtain ⟨g, hg, h⟩ := Option.bind_eq_some_iff.1 h
  refine Option.bind_eq_some_iff.2 ⟨g, hg, ?_⟩
  split at h
  · rename_i cs el fz hb
    rw [show w.heap[g]? = some (.cells cs el fz) from hw g _ hb]
    exact h
  · cases h
theorem cell_stays {W w : World} (hw : (hp W).le (hp w)) {b i : Nat} {v : Value} (h : W.cell? ⟨b, i, none⟩ = some v) : w.cell? ⟨b, i, none⟩ = some v := by
  simp only [World.cell?, Option.isSome_none, Bool.false_eq_true, if_false] at h ⊢
  cases ho : W.heap[b]? with
  | none => rw [ho] at h; cases h
  | some o => rw [show w.heap[b]? = some o from hw b _ ho]; rw [ho] at h; exact h
theorem iface_laid {P : Program} {W : World} {name ty : String} {d : DataW Unit} {l : List (String × DataW Unit)} {g : Nat} {t : TypeId} {ms : Array (String × TypeId)}
    (hg : P.globalNamed name = some g) (hty : (P.globals[g]?).map (·.type) = some t) (ht : P.underlying t = some (.interface ms)) (hm : (name, .iface ty d) ∈ l) (h : laidMet P l W) :
    ∃ v : Value, (∀ w : World, (hp W).le (hp w) → w.cell? ⟨g, 0, none⟩ = some v) ∧ (v = .nilIface ∨ ∃ te pe, v = .iface te pe) := by
  obtain ⟨ps, hl, _⟩ := h
  obtain ⟨g', t', cs, fuel, p, h1, h2, h3, h4⟩ := laidVars_mem hl hm
  obtain rfl := Option.some.inj (hg.symm.trans h1)
  obtain rfl := Option.some.inj (hty.symm.trans h2)
  obtain ⟨_, u, v, hc, _⟩ := iface_of_trod ht h4
  refine ⟨.iface u v, fun w hw => ?_, Or.inr ⟨u, v, rfl⟩⟩
  have := World.var?_cell hg (var_stays hw h3) 0
  rw [this]
  have : cs[0]? = cs.toList[0]? := by simp
  rw [this, hc]; rfl
end Go.Proofs.YtfajmelamonolaaGreatDoor

/- How the arguments of the laws are read. (Printed by wip/sp/gen.py.) -/
set_option linter.unusedVariables false
set_option linter.unusedSimpArgs false
namespace Go.Proofs.YtfajmelamonolaaGreatDoor
open Go.ChangeShapes Go.WideShapes Go.ChangeAt Go.RowKit
theorem own_ : ownKnob Tryz.prog.godebug = none := by kernel_rfl
theorem laidOut_ : laidOutB Tryz.prog = true := by kernel_rfl
def laidL : List (String × DataW Unit) := [("math/bits.deBruijn32tab", Rows.laid_math_bits_deBruijn32tab), ("math/bits.deBruijn64tab", Rows.laid_math_bits_deBruijn64tab), ("internal/strconv.uint64pow10", Rows.laid_internal_strconv_uint64pow10), ("unicode/utf8.acceptRanges", Rows.laid_unicode_utf8_acceptRanges), ("strconv.ErrRange", Rows.laid_strconv_ErrRange), ("strconv.ErrSyntax", Rows.laid_strconv_ErrSyntax), ("unicode/utf8.first", Rows.laid_unicode_utf8_first)]
theorem laidMetH_plain_ (W : World) : laidMetH Tryz.prog laidL W = laidMet Tryz.prog laidL W := MakeChecks.laidMetH_plain _ _ _ (by kernel_rfl)
theorem tabs_of {W : World} (h : laidMet Tryz.prog laidL W) (hs : W.ShapedOpen Tryz.prog) : Tabs (hp W) := by
  refine ⟨fun w hw => ?_, ?_, iface_laid (t := 71) (g := 1) (d := .ptr (.agg [.lit (.string [105, 110, 118, 97, 108, 105, 100, 32, 115, 121, 110, 116, 97, 120])])) (ty := "*errors.errorString") (by kernel_rfl) (by kernel_rfl) Tryz.underlying71 (List.mem_of_getElem? (show laidL[5]? = some ("strconv.ErrSyntax", _) from rfl)) h, iface_laid (t := 71) (g := 2) (d := .ptr (.agg [.lit (.string [118, 97, 108, 117, 101, 32, 111, 117, 116, 32, 111, 102, 32, 114, 97, 110, 103, 101])])) (ty := "*errors.errorString") (by kernel_rfl) (by kernel_rfl) Tryz.underlying71 (List.mem_of_getElem? (show laidL[4]? = some ("strconv.ErrRange", _) from rfl)) h⟩
  · exact var_stays hw (tabIs_of_mem (g := 3) (t := 150) (e := 104) (n := 20) (d := Rows.laid_internal_strconv_uint64pow10) (by kernel_rfl) (by kernel_rfl) (by kernel_rfl) (by kernel_rfl) (by kernel_rfl) (by kernel_rfl) (by kernel_rfl) (List.mem_of_getElem? (show laidL[2]? = some ("internal/strconv.uint64pow10", _) from rfl)) h)
  · obtain ⟨m, hm⟩ := Go.Proofs.cell_of_shapedOpen_int (zero := #[.int .i64 0]) (g := 0) (t := 3) hs (of_decide_eq_true (by kernel_rfl)) (by kernel_rfl) rfl (by kernel_rfl) (by kernel_rfl) Tryz.underlying3
    exact ⟨m, fun w hw => cell_stays hw hm⟩
theorem reads3 : Reads Tryz.prog 3 Int I64 := reads_int Tryz.underlying3 (by kernel_rfl)
theorem reads25 : Reads Tryz.prog 25 (List Int) (LW I64) := ⟨by kernel_rfl, by decide, fun h => by
  obtain ⟨l, v, rfl, h1, h2⟩ := reads_slice reads3 Tryz.underlying25 h
  exact ⟨l, ⟨v, rfl, h1⟩, h2⟩⟩
end Go.Proofs.YtfajmelamonolaaGreatDoor

/- What functions of Go's library compute at the places where the program calls them, as data. -/
set_option linter.unusedVariables false
set_option linter.unusedSimpArgs false
namespace Go.Proofs.YtfajmelamonolaaGreatDoor
open Go.RowKit
def vr (l : Int) : Int := max l (0 - l)
def ltN (x y : Int) : Bool := decide (vr x < vr y ∨ vr x = vr y ∧ x < y)
def litOk (l : List Int) : Bool := l.all fun x => decide (-4611686018427387904 ≤ x ∧ x ≤ 4611686018427387904)
def m_sortN (l : List Int) : Option (List Int) := if l.length < 17592186044417 ∧ litOk l = true then some (l.mergeSort fun x y => !ltN y x) else none
def m_compactI (l : List Int) : Option (List Int) := if l.length < 17592186044417 then some (Lib.compact l) else none
def m_atoi (s : ByteArray) : Option Int := if s.size ≤ 281474976710656 then some (match Lib.atoiAll s.data.toList with | .ok v => v | .range => Lib.atoiSat s.data.toList | _ => 0) else none
def m_cut (s sep : ByteArray) : Option (ByteArray × ByteArray × Bool) := if s.size < 4294967281 then some (⟨(Lib.cut s.data.toList sep.data.toList).1.toArray⟩, ⟨(Lib.cut s.data.toList sep.data.toList).2.1.toArray⟩, (Lib.cut s.data.toList sep.data.toList).2.2) else none
def m_split (s sep : ByteArray) : Option (List ByteArray) := if s.size < 4294967281 ∧ 1 ≤ sep.size ∧ Lib.countB s sep < 4294967296 then some (Lib.splitB sep 0 (Lib.countB s sep) s) else none
def m_WStr (l s : ByteArray) : Option ByteArray := if l.size + s.size ≤ 140737488355328 then some (l ++ s) else none
def m_BStr (l : ByteArray) : Option ByteArray := some l
def m_cloneI (l : List Int) : Option (List Int) := if l.length < 17592186044417 then some l else none
theorem cloneI_ok {l : List Int} (h : l.length < 17592186044417) : m_cloneI l = some l := by unfold m_cloneI; rw [if_pos h]
def m_revI (l : List Int) : Option (List Int) := if l.length < 4294967297 then some l.reverse else none
def m_delR (l : List (List Int)) (i j : Int) : Option (List (List Int)) := if 0 ≤ i ∧ i ≤ j ∧ j ≤ l.length ∧ 0 < l.length ∧ l.length ≤ 4294967296 then some (l.take i.toNat ++ l.drop j.toNat) else none
end Go.Proofs.YtfajmelamonolaaGreatDoor

/- Models of: assessor/cnf.variable, assessor/cnf.normal, assessor/cnf.Valid, assessor/cnf.Holds$1, slices.IndexFunc[[]int,int]@assessor/cnf.Holds$1, slices.Contai -/
set_option linter.unusedVariables false
set_option linter.unusedSimpArgs false
namespace Go.Proofs.YtfajmelamonolaaGreatDoor
open Go.RowKit
noncomputable def m_cnf_variable (p0 : Int) : Option Int :=
  (inK .i64 (0 - p0)).bind fun x1 =>
  some (max p0 x1)
noncomputable def m_cnf_normal_lp1 (p0 : (List Int)) (p1 : Int) (lp1_0 : Int) (lp1_1 : Int) : Option (Step (Int × Int) (Out Unit Bool)) :=
  if (decide (lp1_1 < (p0.length : Int))) = true then
    (idx p0 lp1_1).bind fun x1 =>
    (inK .i64 (0 - p1)).bind fun x2 =>
    ((if ((decide (x1 < x2)) || (decide (p1 < x1))) = true then
      some true
    else
      (m_cnf_variable x1).bind fun x3 =>
      some (decide (x3 ≤ lp1_0))) : Option Bool).bind fun m1 =>
    if m1 = true then
      some (.done (.ret false))
    else
      (m_cnf_variable x1).bind fun x4 =>
      (inK .i64 (lp1_1 + 1)).bind fun x5 =>
      some (.next (x4, x5))
  else
    some (.done (.brk ()))
noncomputable def m_cnf_normal (p0 : (List Int)) (p1 : Int) : Option Bool :=
  (loopM (fun s => m_cnf_normal_lp1 p0 p1 s.1 s.2) (0, 0) : Option (Out Unit Bool)).bind fun b1 =>
  match b1 with
  | .brk b1s =>
    some true
  | .ret r => some r
noncomputable def m_cnf_Valid_lp1 (p0 : Formula) (lp1_0 : Int) : Option (Step Int (Out Unit Bool)) :=
  if (decide (lp1_0 < (p0.clauses.length : Int))) = true then
    (idx p0.clauses lp1_0).bind fun x1 =>
    (m_cnf_normal x1 p0.vars).bind fun x2 =>
    if (!x2) = true then
      some (.done (.ret false))
    else
      (inK .i64 (lp1_0 + 1)).bind fun x3 =>
      some (.next x3)
  else
    some (.done (.brk ()))
noncomputable def m_cnf_Valid (p0 : Formula) : Option Bool :=
  if (((decide (p0.vars < 0)) || (decide (65536 < p0.vars))) || (decide (262144 < (p0.clauses.length : Int)))) = true then
    some false
  else
    (loopM (fun s => m_cnf_Valid_lp1 p0 s) 0 : Option (Out Unit Bool)).bind fun b2 =>
    match b2 with
    | .brk b2s =>
      some true
    | .ret r => some r
noncomputable def m_cnf_Normal_lp1 (p0 : (List Int)) (lp1_0 : Int) : Option (Step Int (Out Unit ((List Int) × Bool))) :=
  if (decide (lp1_0 < (p0.length : Int))) = true then
    (idx p0 lp1_0).bind fun x1 =>
    if (((decide (x1 = 0)) || (decide (x1 < (-1073741824)))) || (decide (1073741824 < x1))) = true then
      some (.done (.ret ([], false)))
    else
      (inK .i64 (lp1_0 + 1)).bind fun x2 =>
      some (.next x2)
  else
    some (.done (.brk ()))
noncomputable def m_cnf_Normal_lp2 (x5 : (List Int)) (lp2_0 : Int) : Option (Step Int (Out Unit ((List Int) × Bool))) :=
  if (decide (lp2_0 < (x5.length : Int))) = true then
    (inK .i64 (lp2_0 - 1)).bind fun x6 =>
    (idx x5 x6).bind fun x7 =>
    (idx x5 lp2_0).bind fun x8 =>
    (inK .i64 (0 - x8)).bind fun x9 =>
    if (decide (x7 = x9)) = true then
      some (.done (.ret ([], false)))
    else
      (inK .i64 (lp2_0 + 1)).bind fun x10 =>
      some (.next x10)
  else
    some (.done (.brk ()))
noncomputable def m_cnf_Normal (p0 : (List Int)) : Option ((List Int) × Bool) :=
  (loopM (fun s => m_cnf_Normal_lp1 p0 s) 0 : Option (Out Unit ((List Int) × Bool))).bind fun b1 =>
  match b1 with
  | .brk b1s =>
    (m_cloneI p0).bind fun x3 =>
    (m_sortN x3).bind fun x4 =>
    (m_compactI x4).bind fun x5 =>
    (loopM (fun s => m_cnf_Normal_lp2 x5 s) 1 : Option (Out Unit ((List Int) × Bool))).bind fun b3 =>
    match b3 with
    | .brk b3s =>
      some (x5, true)
    | .ret r => some r
  | .ret r => some r
end Go.Proofs.YtfajmelamonolaaGreatDoor
