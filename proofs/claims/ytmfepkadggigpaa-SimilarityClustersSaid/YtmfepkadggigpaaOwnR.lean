/-
  Owned slices of elements whose cells point elsewhere: the row's cells are named, and what they stand for is a fact of its own.
-/
import Derived.Test.YtmfepkadggigpaaStr
set_option linter.unusedVariables false
set_option linter.unusedSimpArgs false
namespace Go.Proofs.Ytmfepkadggigpaa
open Go.RowKit
/-- Elements of at least one cell, each cell a value of its own. -/
class Rep1 (α : Type) [Rep α] : Prop where
  one : ∀ {ρ : PH} {a : α} {cs : List Value}, Rep.ok ρ a cs → ∀ v ∈ cs, v.oneCell' = true
  pos : 0 < Rep.sz α
def RowR {α : Type} [Rep α] (T : TypeId) (v : Value) (l : List α) (xs : List Value) : Atom := Row T (Rep.sz α) v l.length xs
section
variable {α : Type} [Rep α] {ρ ρ' : PH} {l m : List α} {xs ys : List Value}
theorem RepAll.nil : RepAll ρ ([] : List α) [] := rfl
theorem RepAll.mono (h : ρ.le ρ') : ∀ {l : List α} {xs : List Value}, RepAll ρ l xs → RepAll ρ' l xs
  | [], _, e => e
  | a :: l, _, ⟨c, r, e, hc, hr⟩ => ⟨c, r, e, Rep.mono h hc, RepAll.mono h hr⟩
theorem RepAll.len : ∀ {l : List α} {xs : List Value}, RepAll ρ l xs → xs.length = l.length * Rep.sz α
  | [], _, e => by rw [e]; simp
  | a :: l, _, ⟨c, r, e, hc, hr⟩ => by
    rw [e, List.length_append, Rep.len hc, RepAll.len hr, List.length_cons, Nat.add_mul]; omega
theorem RepAll.app : ∀ {l : List α} {xs : List Value}, RepAll ρ l xs → RepAll ρ m ys → RepAll ρ (l ++ m) (xs ++ ys)
  | [], _, e, h => by rw [e]; exact h
  | a :: l, _, ⟨c, r, e, hc, hr⟩, h => ⟨c, r ++ ys, by rw [e, List.append_assoc], hc, RepAll.app hr h⟩
theorem RepAll.sing {a : α} {cs : List Value} (h : Rep.ok ρ a cs) : RepAll ρ [a] cs := ⟨cs, [], by simp, h, rfl⟩
theorem RepAll.one1 [Rep1 α] : ∀ {l : List α} {xs : List Value}, RepAll ρ l xs → ∀ v ∈ xs, v.oneCell' = true
  | [], _, e, v, hv => by rw [e] at hv; simp at hv
  | a :: l, _, ⟨c, r, e, hc, hr⟩, v, hv => by
    rw [e, List.mem_append] at hv
    rcases hv with hv | hv
    · exact Rep1.one hc v hv
    · exact RepAll.one1 hr v hv
theorem RepAll.set : ∀ {l : List α} {xs : List Value} (i : Nat) {a : α} {cs : List Value}, RepAll ρ l xs → i < l.length → Rep.ok ρ a cs → RepAll ρ (l.set i a) (xs.take (i * Rep.sz α) ++ cs ++ xs.drop ((i + 1) * Rep.sz α))
  | b :: l, _, 0, a, cs, ⟨c, r, e, hc, hr⟩, _, ha => by
    rw [e, Nat.zero_mul, List.take_zero, List.nil_append, Nat.zero_add, Nat.one_mul, ← Rep.len hc, List.drop_left, List.set_cons_zero]
    exact ⟨cs, r, rfl, ha, hr⟩
  | b :: l, _, i + 1, a, cs, ⟨c, r, e, hc, hr⟩, hi, ha => by
    have := RepAll.set i hr (by simpa using hi) ha
    have hl := Rep.len hc
    rw [e, List.set_cons_succ, Nat.add_mul, Nat.one_mul, show i * Rep.sz α + Rep.sz α = c.length + i * Rep.sz α by omega, List.take_append, List.take_of_length_le (by omega), Nat.add_sub_cancel_left,
      show (i + 1 + 1) * Rep.sz α = c.length + (i + 1) * Rep.sz α by rw [Nat.add_mul (i + 1)]; omega, List.drop_append, List.drop_of_length_le (by omega), List.nil_append, Nat.add_sub_cancel_left]
    exact ⟨c, _, by simp only [List.append_assoc], hc, this⟩
end
section
variable {α : Type} [Rep α] {P : Program} {Z : World} {ρ : PH} {L : List Atom} {w : World} {T El : TypeId} {v : Value} {l : List α} {xs : List Value}
theorem RowR.nil (T : TypeId) : RowR T (.slice none 0 0) ([] : List α) [] PH.emp := Row.nil T _ none
theorem rowR_of_pt {b : Nat} {l : List α} {n : Nat} {cs : List Value} (hn : l.length = n) (hl : n ≤ maxLen) (hc : cs.length = n * Rep.sz α) : ∀ k, Pt b (.cells cs.toArray El) k → RowR El (.slice (some ⟨b, 0, none⟩) n n) l cs k := fun k hk => by
  subst hn
  refine ⟨hc, Or.inr ⟨b, 0, l.length, cs.toArray, rfl, hk, Nat.le_refl _, hl, ?_, ?_⟩⟩
  · rw [List.size_toArray, hc, Nat.zero_add]
  · rw [List.toList_toArray, List.drop_zero, List.take_of_length_le (by rw [hc]; exact Nat.le_refl _)]
theorem RowR.len {sz bytes : Nat} (hp : Hp Z ρ L w) (k : Nat) (hk : L[k]? = some (RowR El v l xs)) (ht : SlTy P T El sz bytes) (w' : World) (ty : TypeId) : (Builtin.len_ #[T] ty #[v]).run P w' = .ok (.int .i64 l.length) w' := by
  rcases (hp.get k hk).row.2 with ⟨A, rfl, hn⟩ | ⟨g, off, cap, cur, rfl, _, _⟩
  · rw [hn]; exact run_len ht A 0 0 w' ty
  · exact run_len ht _ _ cap w' ty
theorem RowR.cells (hp : Hp Z ρ L w) (k : Nat) (hk : L[k]? = some (RowR El v l xs)) : v.cells = #[v] := by
  rcases (hp.get k hk).row.2 with ⟨A, rfl, _⟩ | ⟨g, off, cap, cur, rfl, _⟩ <;> rfl
theorem RowR.one (hp : Hp Z ρ L w) (k : Nat) (hk : L[k]? = some (RowR El v l xs)) : v.oneCell' = true := by
  rcases (hp.get k hk).row.2 with ⟨A, rfl, _⟩ | ⟨g, off, cap, cur, rfl, _⟩ <;> rfl
/-- Lent for good, it is only read. -/
theorem RowR.ro {k : PH} (d : ρ.dj k) (h : RowR T v l xs k) (hR : RepAll ρ l xs) : RoSl (ρ.un k) v l := by
  obtain ⟨hxl, h⟩ := h
  rcases h with ⟨A, rfl, hn⟩ | ⟨g, off, cap, cur, rfl, rfl, h1, h2, h3, h4⟩
  · obtain rfl := List.eq_nil_of_length_eq_zero hn
    exact ⟨A, 0, rfl, Nat.le_refl _, fun i a h => by simp at h⟩
  · refine ⟨some ⟨g, off, none⟩, cap, rfl, h1, fun i a hi => ?_⟩
    obtain ⟨c, hc, hg⟩ := hR.get i a hi
    refine ⟨g, off, c, rfl, Rep.mono (PH.le_un _ _) hc, fun j u hj => ?_⟩
    have hb : (ρ.un (PH.one g (.cells cur T (0, 0)))) g = some (.cells cur T (0, 0)) := PH.le_un_r d g _ (by simp [PH.one])
    unfold cellAt
    rw [hb]
    simp only
    have hf := hg j u hj
    rw [← h4, List.getElem?_take] at hf
    split at hf
    · rw [List.getElem?_drop, ← Nat.add_assoc] at hf
      rw [← Array.getElem?_toList]
      exact hf
    · cases hf
/-- An element: its place, and its cells there. -/
theorem RowR.at {bytes : Nat} (hp : Hp Z ρ L w) (k : Nat) (hk : L[k]? = some (RowR El v l xs)) (hR : RepAll ρ l xs) (ht : SlTy P T El (Rep.sz α) bytes) {i : Int} {e : α} (hi : idx l i = some e) :
    ∃ g off cs, (∀ w, (Instr.indexAt T v (.int .i64 i)).run P w = .ok (.pointer (some ⟨g, off, none⟩)) w) ∧ (∃ of0 cap, v = .slice (some ⟨g, of0, none⟩) l.length cap ∧ off = of0 + i.toNat * Rep.sz α) ∧ Rep.ok ρ e cs ∧ ∀ (j : Nat) (u : Value), cs[j]? = some u → ∀ ρ' L' w, Hp Z ρ' (RowR El v l xs :: L') w → w.cell? ⟨g, off + j, none⟩ = some u := by
  obtain ⟨i0, i1, i2⟩ := idx_some hi
  rcases (hp.get k hk).row.2 with ⟨_, _, hn⟩ | ⟨g, of0, cap, cur, rfl, _, _⟩
  · omega
  · obtain ⟨c, hc, hg⟩ := hR.get i.toNat e i2
    refine ⟨g, of0 + i.toNat * Rep.sz α, c, fun w => run_index ht g of0 _ cap i0 i1 w, ⟨of0, cap, rfl, rfl⟩, hc, fun j u hj ρ' L' w' hw' => ?_⟩
    rcases hw'.row.2 with ⟨A, hA, hn⟩ | ⟨g', of1, cap', cur', e2, hpt, h2, h3, h4, h5⟩
    · omega
    · simp only [Value.slice.injEq, Option.some.injEq, Addr.mk.injEq, and_true, true_and] at e2
      obtain ⟨⟨rfl, rfl⟩, rfl⟩ := e2
      have hlook := hpt.look 0 rfl
      have hf := hg j u hj
      rw [← h5, List.getElem?_take] at hf
      split at hf
      · rw [List.getElem?_drop, ← Nat.add_assoc] at hf
        simp [World.cell?, hlook, ← Array.getElem?_toList, hf]
      · cases hf
end
section
variable {α : Type} [Rep α] {ρ : PH}
/-- The cells of all elements of a slice that is only read. -/
theorem RoSl.rowR {v : Value} {l : List α} (h : RoSl ρ v l) (hl : 0 < l.length) : ∃ b off c ys, v = .slice (some ⟨b, off, none⟩) l.length c ∧ RepAll ρ l ys ∧ AtP ρ b off ys := by
  obtain ⟨A, c, rfl, _, hh⟩ := h
  obtain ⟨b, off, cs, e1, _, _⟩ := hh 0 l[0] (List.getElem?_eq_getElem hl)
  subst e1
  have key : ∀ (m : List α) (o : Nat), (∀ i a, m[i]? = some a → ∃ cs, Rep.ok ρ a cs ∧ AtP ρ b (o + i * Rep.sz α) cs) → ∃ ys, RepAll ρ m ys ∧ AtP ρ b o ys := by
    intro m
    induction m with
    | nil => intro o _; exact ⟨[], rfl, fun j u h => by simp at h⟩
    | cons a m ih =>
      intro o hm
      obtain ⟨cs, h1, h2⟩ := hm 0 a rfl
      rw [Nat.zero_mul, Nat.add_zero] at h2
      obtain ⟨ys, h3, h4⟩ := ih (o + Rep.sz α) (fun i a' hi => by
        obtain ⟨cs, h5, h6⟩ := hm (i + 1) a' (by simpa using hi)
        rw [Nat.add_mul, Nat.one_mul, show o + (i * Rep.sz α + Rep.sz α) = o + Rep.sz α + i * Rep.sz α by omega] at h6
        exact ⟨cs, h5, h6⟩)
      refine ⟨cs ++ ys, ⟨cs, ys, rfl, h1, h3⟩, fun j u hj => ?_⟩
      have hc := Rep.len h1
      rcases Nat.lt_or_ge j cs.length with h | h
      · rw [List.getElem?_append_left h] at hj; exact h2 j u hj
      · rw [List.getElem?_append_right h] at hj
        have := h4 _ u hj
        rw [show o + Rep.sz α + (j - cs.length) = o + j by omega] at this
        exact this
  obtain ⟨ys, h1, h2⟩ := key l off (fun i a hi => by
    obtain ⟨b2, o2, cs2, e2, h4, h5⟩ := hh i a hi
    simp only [Option.some.injEq, Addr.mk.injEq, and_true] at e2
    obtain ⟨rfl, rfl⟩ := e2
    exact ⟨cs2, h4, h5⟩)
  exact ⟨b, off, c, ys, rfl, h1, h2⟩
end
section
variable {α : Type} [Rep α] [Rep1 α] {P : Program} {ops : Array Oper} {Q : Exit → Act → World → Prop} {rest : List Oper} {o : Oper} {a : Act} {w : World} {N : Nat} {E : Ent} {d : Nat} {Z : World} {ρ : PH} {L : List Atom}
/-- 'append' of a literal's elements. -/
theorem s_appR (wk : Region.wanted o (yielded ops a.tmps) = true) (hd : o.dst = some d) (hN : Nat.blt d N = true) (hE : Env N E a) (hp : Hp Z ρ L w) {x y : Operand} {t : TypeId} (ho : o.op = .call { callee := .builtin .append, args := #[x, y], argTypes := #[t, t] }) {El : TypeId} {bytes : Nat} (ht : SlTy P t El (Rep.sz α) bytes) (hby : Nat.ble bytes 16384 = true)
    {v : Value} (hx : evo E x = some v) (i : Nat) {l : List α} {xs : List Value} (hi : L[i]? = some (RowR El v l xs)) {b off m c : Nat} (hy : evo E y = some (.slice (some ⟨b, off, none⟩) m c)) {l2 r : List α} {ys : List Value} (hm : l2.length = m) (hR2 : RepAll ρ l2 ys) (hn : ∀ j u, ys[j]? = some u → w.cell? ⟨b, off + j, none⟩ = some u) (hr : app l l2 = some r)
    (K : ∀ v' a w, Env N ((d, v') :: E) a → Hp Z ρ (L.set i (RowR El v' r (xs ++ ys))) w → wpList P ops Q rest a w) : wpList P ops Q (o :: rest) a w := by
  obtain ⟨hlen, rfl⟩ := app_some hr
  have hby' : bytes ≤ 16384 := by simpa using hby
  have hb2 : (l.length + m) * bytes ≤ 4294967296 * 16384 := Nat.mul_le_mul (by omega) hby'
  obtain ⟨v', w', hrun, hp'⟩ := run_app (P := P) ht Rep1.pos o.type (hp.get i hi) ⟨b, off, none⟩ m c ys (by rw [hR2.len, hm]) (fun j u hj => by rw [Addr.add_lit]; exact hn j u hj) hR2.one1 (by unfold maxLen; omega) (by omega)
  refine s_run wk hd hN hE (v := v') (w' := w') ?_ fun a' hE' => K v' a' w' hE' ?_
  · simp only [execOp, ho, resolve, invoke, builtin, Sem.run_bind, Sem.run_pure, Result.andThen_ok, List.map_toArray, List.map_cons, List.map_nil, hE.eval hx, hE.eval hy, hrun]
  · refine Hp.put i (set_get (A := RowR El v l xs) (_B := RowR El v l xs) hi).2 ?_
    unfold RowR
    rw [List.length_append, hm]
    exact hp'
/-- 'append' of all elements of a slice that is only read. -/
theorem s_appsR (wk : Region.wanted o (yielded ops a.tmps) = true) (hd : o.dst = some d) (hN : Nat.blt d N = true) (hE : Env N E a) (hp : Hp Z ρ L w) {x y : Operand} {t : TypeId} (ho : o.op = .call { callee := .builtin .append, args := #[x, y], argTypes := #[t, t] }) {El : TypeId} {bytes : Nat} (ht : SlTy P t El (Rep.sz α) bytes) (hby : Nat.ble bytes 16384 = true)
    {v : Value} (hx : evo E x = some v) (i : Nat) {l : List α} {xs : List Value} (hi : L[i]? = some (RowR El v l xs)) {v2 : Value} (hy : evo E y = some v2) {l2 r : List α} (hs : RoSl ρ v2 l2) (hr : app l l2 = some r)
    (K : ∀ v' ys a w, RepAll ρ l2 ys → Env N ((d, v') :: E) a → Hp Z ρ (L.set i (RowR El v' r (xs ++ ys))) w → wpList P ops Q rest a w) : wpList P ops Q (o :: rest) a w := by
  rcases Nat.eq_zero_or_pos l2.length with h0 | h0
  · have hnil := List.eq_nil_of_length_eq_zero h0
    subst hnil
    obtain ⟨hlen, rfl⟩ := app_some hr
    obtain ⟨A, c, rfl, _, _⟩ := hs
    cases A with
    | some ad =>
      obtain ⟨b, off, sp⟩ := ad
      have hby' : bytes ≤ 16384 := by simpa using hby
      have hb2 : (l.length + 0) * bytes ≤ 4294967296 * 16384 := Nat.mul_le_mul (by simp at hlen; omega) hby'
      obtain ⟨v', w', hrun, hp'⟩ := run_app (P := P) ht Rep1.pos o.type (hp.get i hi) ⟨b, off, sp⟩ 0 c [] (by simp) (fun j u hj => by simp at hj) (fun u hu => by simp at hu) (by unfold maxLen; simp at hlen; omega) (by omega)
      refine s_run wk hd hN hE (v := v') (w' := w') ?_ fun a' hE' => K v' [] a' w' rfl hE' ?_
      · simp only [execOp, ho, resolve, invoke, builtin, Sem.run_bind, Sem.run_pure, Result.andThen_ok, List.map_toArray, List.map_cons, List.map_nil, hE.eval hx, hE.eval hy]
        simp only [List.length_nil, hrun]
        rfl
      · refine Hp.put i (set_get (A := RowR El v l xs) (_B := RowR El v l xs) hi).2 ?_
        unfold RowR
        simpa using hp'
    | none =>
      refine s_run wk hd hN hE (v := v) (w' := w) ?_ fun a' hE' => K v [] a' w rfl hE' ?_
      · have hrun := run_appN (P := P) ht o.type (hp.get i hi) c
        simp only [execOp, ho, resolve, invoke, builtin, Sem.run_bind, Sem.run_pure, Result.andThen_ok, List.map_toArray, List.map_cons, List.map_nil, hE.eval hx, hE.eval hy]
        simp only [List.length_nil, hrun]
        rfl
      · rw [List.append_nil, List.append_nil, set_same hi]
        exact hp
  · obtain ⟨b, off, c, ys, rfl, hR, hat⟩ := hs.rowR h0
    exact s_appR wk hd hN hE hp ho ht hby hx i hi hy rfl hR (fun j u hj => cell_of hp.le (hat j u hj)) hr (fun v' a w => K v' ys a w hR)
/-- A store into an element: some of its cells, or all. -/
theorem s_stelR (wk : Region.wanted o (yielded ops a.tmps) = true) (hd : o.dst = none) (hE : Env N E a) (hp : Hp Z ρ L w) {T : TypeId} {x y : Operand} (ho : o.op = .store T x y) {g off off' : Nat} (hx : evo E x = some (.pointer (some ⟨g, off', none⟩))) {u : Value} (hy : evo E y = some u) (k : Nat) {El : TypeId} {v : Value} {l : List α} {xs : List Value} (hk : L[k]? = some (RowR El v l xs))
    (hR : RepAll ρ l xs) {i : Int} {e e' : α} (hi : idx l i = some e) (hv : ∃ of0 cap, v = .slice (some ⟨g, of0, none⟩) l.length cap ∧ off = of0 + i.toNat * Rep.sz α) (j : Nat) {us cs : List Value} (ht : ∀ w, (sizeOf T).run P w = .ok us.length w) (hoff : off' = off + j) (hc : u.cells = us.toArray) (hcs : Rep.ok ρ e cs) (hgc : ∀ (q : Nat) (z : Value), cs[q]? = some z → w.cell? ⟨g, off + q, none⟩ = some z)
    (hok : Rep.ok ρ e' (cs.take j ++ us ++ cs.drop (j + us.length))) (hju0 : Nat.ble (j + us.length) (Rep.sz α) = true)
    (K : ∀ w xs', RepAll ρ (l.set i.toNat e') xs' → Hp Z ρ (L.set k (RowR El v (l.set i.toNat e') xs')) w → wpList P ops Q rest a w) : wpList P ops Q (o :: rest) a w := by
  subst hoff
  obtain ⟨of0, cap, rfl, rfl⟩ := hv
  obtain ⟨i0, i1, i2⟩ := idx_some hi
  have hlt := (set_get (A := RowR El (.slice (some ⟨g, of0, none⟩) l.length cap) l xs) (_B := RowR El (.slice (some ⟨g, of0, none⟩) l.length cap) l xs) hk).2
  have hll := hR.len
  have hcl := Rep.len hcs
  have hkl := Rep.len hok
  rw [List.length_append, List.length_append, List.length_take, List.length_drop] at hkl
  have hju : j + us.length ≤ Rep.sz α := by simpa using hju0
  rcases (hp.get k hk).row.2 with ⟨_, _, hn⟩ | ⟨g', of1, cap', cur, e2, hpt, h2, h3, h4, h5⟩
  · omega
  · simp only [Value.slice.injEq, Option.some.injEq, Addr.mk.injEq, and_true, true_and] at e2
    obtain ⟨⟨rfl, rfl⟩, rfl⟩ := e2
    have hg := hpt.look 0 rfl
    have hpos : (i.toNat + 1) * Rep.sz α ≤ l.length * Rep.sz α := Nat.mul_le_mul_right _ (by omega)
    have hle : l.length * Rep.sz α ≤ cap * Rep.sz α := Nat.mul_le_mul_right _ h2
    rw [Nat.add_mul, Nat.one_mul] at hpos
    generalize hiz : i.toNat * Rep.sz α = iz at *
    have one1 : ∀ z ∈ us, z.oneCell' = true := fun z hz => Rep1.one hok z (by simp [hz])
    have r1 := run_storeCells_at P g (of0 + iz + j) El us 0 cur w hg (by omega) one1
    simp only [Nat.add_zero] at r1
    refine s_unit wk hd hE (w' := w.setRow g (cur.toList.take (of0 + iz + j) ++ us ++ cur.toList.drop (of0 + iz + j + us.length)).toArray) ?_ (K _ (xs.take iz ++ (cs.take j ++ us ++ cs.drop (j + us.length)) ++ xs.drop (iz + Rep.sz α)) ?_ ?_)
    · simp [execOp, ho, hE.eval hx, hE.eval hy, Instr.storeAt, Instr.sureAddr, storeVar, ht w, hc, r1]
    · have := hR.set i.toNat (a := e') (by omega) hok
      rw [Nat.add_mul, Nat.one_mul, hiz] at this
      exact this
    · have hseg : cs = (xs.drop iz).take (Rep.sz α) := by
        apply List.ext_getElem?
        intro q
        rcases Nat.lt_or_ge q (Rep.sz α) with hq | hq
        · obtain ⟨z, hz⟩ : ∃ z, cs[q]? = some z := ⟨_, List.getElem?_eq_getElem (by omega)⟩
          have hz2 := hgc q z hz
          rw [hz, List.getElem?_take, if_pos hq, List.getElem?_drop, ← h5, List.getElem?_take, if_pos (by omega), List.getElem?_drop, Array.getElem?_toList]
          simp only [World.cell?, hg] at hz2
          simp at hz2
          rw [show of0 + (iz + q) = of0 + iz + q by omega]
          exact hz2.symm
        · rw [List.getElem?_eq_none (by omega), List.getElem?_take, if_neg (by omega)]
      refine Hp.put k hlt ?_
      have hq := (Hp.set (w' := w.setRow g (cur.toList.take (of0 + iz + j) ++ us ++ cur.toList.drop (of0 + iz + j + us.length)).toArray) hpt rfl rfl rfl (setRow_heap w g cur _ El _ hg) (fun k hk => setRow_other w g k _ hk)).shutO (off := of0) (n := l.length) (cap := cap) (sz := Rep.sz α) (xs := xs.take iz ++ (cs.take j ++ us ++ cs.drop (j + us.length)) ++ xs.drop (iz + Rep.sz α)) h2 h3 (by
          simp only [List.size_toArray, List.length_append, List.length_take, List.length_drop, Array.length_toList]; omega) (by
          rw [List.toList_toArray]
          have hlenx : (xs.take iz ++ (cs.take j ++ us ++ cs.drop (j + us.length)) ++ xs.drop (iz + Rep.sz α)).length = l.length * Rep.sz α := by
            simp only [List.length_append, List.length_take, List.length_drop]; omega
          apply List.ext_getElem?
          intro q
          rcases Nat.lt_or_ge q (l.length * Rep.sz α) with hq | hq
          · have hx5 : ∀ q, q < l.length * Rep.sz α → xs[q]? = cur.toList[of0 + q]? := fun q hq => by
              rw [← h5, List.getElem?_take, if_pos hq, List.getElem?_drop]
            have hcq : ∀ q, q < Rep.sz α → cs[q]? = cur.toList[of0 + iz + q]? := fun q hq => by
              rw [hseg, List.getElem?_take, if_pos hq, List.getElem?_drop, hx5 _ (by omega)]
              congr 1; omega
            rw [List.getElem?_take, if_pos hq, List.getElem?_drop]
            have t1 : (cur.toList.take (of0 + iz + j)).length = of0 + iz + j := by rw [List.length_take, Array.length_toList]; omega
            have t2 : (xs.take iz).length = iz := by rw [List.length_take]; omega
            have t3 : (cs.take j).length = j := by rw [List.length_take]; omega
            have t4 : (cs.take j ++ us ++ cs.drop (j + us.length)).length = Rep.sz α := by simp only [List.length_append, List.length_take, List.length_drop]; omega
            simp only [List.append_assoc] at t4 ⊢
            rcases Nat.lt_or_ge q iz with c1 | c1
            · rw [List.getElem?_append_left (by omega), List.getElem?_take, if_pos (by omega), List.getElem?_append_left (by omega), List.getElem?_take, if_pos c1, hx5 q hq]
            · rw [List.getElem?_append_right (l₁ := xs.take iz) (by omega), t2]
              rcases Nat.lt_or_ge q (iz + j) with c2 | c2
              · rw [List.getElem?_append_left (by omega), List.getElem?_take, if_pos (by omega), List.getElem?_append_left (by omega), List.getElem?_take, if_pos (by omega), hcq _ (by omega)]
                congr 1; omega
              · rw [List.getElem?_append_right (l₁ := cur.toList.take (of0 + iz + j)) (by omega), t1, List.getElem?_append_right (l₁ := cs.take j) (by omega), t3]
                rcases Nat.lt_or_ge q (iz + j + us.length) with c3 | c3
                · rw [List.getElem?_append_left (by omega), List.getElem?_append_left (by omega)]
                  congr 1; omega
                · rw [List.getElem?_append_right (l₁ := us) (by omega), List.getElem?_append_right (l₁ := us) (by omega), List.getElem?_drop]
                  rcases Nat.lt_or_ge q (iz + Rep.sz α) with c4 | c4
                  · rw [List.getElem?_append_left (by rw [List.length_drop]; omega), List.getElem?_drop, hcq _ (by omega)]
                    congr 1; omega
                  · rw [List.getElem?_append_right (by rw [List.length_drop]; omega), List.getElem?_drop, List.length_drop, hx5 _ (by omega)]
                    congr 1; omega
          · rw [List.getElem?_eq_none (by rw [List.length_take]; omega), List.getElem?_eq_none (by rw [hlenx]; exact hq)])
      unfold RowR
      rw [List.length_set]
      exact hq
end
instance rep1Enc {α : Type} [Enc α] : Rep1 α := ⟨fun h v hv => by
  have h' : _ = Enc.enc _ := h
  rw [h'] at hv; exact Enc.one _ v hv, Enc.pos⟩
end Go.Proofs.Ytmfepkadggigpaa
