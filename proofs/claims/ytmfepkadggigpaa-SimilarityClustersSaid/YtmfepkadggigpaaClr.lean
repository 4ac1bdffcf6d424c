/-
  Parts of owned slices that are looked at; clear; elements of many cells that are turned. Plain theorems over any program.
-/
import Derived.Test.YtmfepkadggigpaaOwnR
import Derived.Test.YtmfepkadggigpaaMapT
import Derived.Test.YtmfepkadggigpaaHeld
set_option linter.unusedVariables false
set_option linter.unusedSimpArgs false
namespace Go.Proofs.Ytmfepkadggigpaa
open Go.RowKit
instance rep1List {α : Type} [Rep α] : Rep1 (List α) := ⟨fun h v hv => by
  obtain ⟨u, rfl, h⟩ := h
  rw [List.mem_singleton.1 hv]; exact h.one, Nat.one_pos⟩
section
variable {P : Program} {ops : Array Oper} {Q : Exit → Act → World → Prop} {rest : List Oper} {o : Oper} {a : Act} {w : World} {N : Nat} {E : Ent} {d : Nat} {Z : World} {ρ : PH} {L : List Atom}
variable {α : Type} [Enc α] {T El : TypeId} {bytes : Nat} {v : Value} {l r : List α}
/-- A part of an owned slice, to be looked at. -/
theorem OwnSl.view (hp : Hp Z ρ L w) (k : Nat) (hk : L[k]? = some (OwnSl El v l)) (ht : SlTy P T El (Enc.sz α) bytes) (lo hi : Option (IntKind × Int)) {i j : Int} (hlo : i = match lo with | none => 0 | some p => p.2) (hhi : j = match hi with | none => (l.length : Int) | some p => p.2) (hr : sub l i j = some r) :
    ∃ v', ∀ w, (Instr.sliceAt T v (lo.map fun p => .int p.1 p.2) (hi.map fun p => .int p.1 p.2) none).run P w = .ok v' w := by
  obtain ⟨κ, ha, hd, _⟩ := (hp.get k hk).lend
  obtain ⟨v', h, _⟩ := RoSl.part (OwnSl.ro hd ha) ht lo hi hlo hhi hr
  exact ⟨v', h⟩
omit [Enc α] in
theorem sl_det [Rep α] (w : World) {x y : Option Value} {v1 v2 : Value} (h1 : ∀ w, (Instr.sliceAt T v x y none).run P w = .ok v1 w) (h2 : ∀ w, (Instr.sliceAt T v x y none).run P w = .ok v2 w) (h : RoSl ρ v1 l) : RoSl ρ v2 l := by
  have := (h1 w).symm.trans (h2 w)
  injection this with e
  exact e ▸ h
theorem repAll_flat : ∀ (l : List α), RepAll ρ l (flat l)
  | [] => rfl
  | a :: l => ⟨Enc.enc a, flat l, by simp [flat], rfl, repAll_flat l⟩
theorem repAll_eq : ∀ {l : List α} {xs : List Value}, RepAll ρ l xs → xs = flat l
  | [], _, e => e
  | a :: l, _, ⟨c, r, e, hc, hr⟩ => by
    have hc' : c = Enc.enc a := hc
    rw [e, hc', repAll_eq hr]; simp [flat]
/-- An element is turned as a whole. -/
theorem s_stels (wk : Region.wanted o (yielded ops a.tmps) = true) (hd : o.dst = none) (hE : Env N E a) (hp : Hp Z ρ L w) {x y : Operand} (ho : o.op = .store T x y) {g off : Nat} (hx : evo E x = some (.pointer (some ⟨g, off, none⟩))) {u : Value} (hy : evo E y = some u) (k : Nat) (hk : L[k]? = some (OwnSl El v l))
    {i : Int} {e : α} (hi : idx l i = some e) (hv : ∃ of0 cap, v = .slice (some ⟨g, of0, none⟩) l.length cap ∧ off = of0 + i.toNat * Enc.sz α) {e' : α} (ht : ∀ w, (sizeOf T).run P w = .ok (Enc.enc e').length w) (hc : u.cells = (Enc.enc e').toArray) (hgc : ∀ (q : Nat) (z : Value), (Enc.enc e)[q]? = some z → w.cell? ⟨g, off + q, none⟩ = some z)
    (K : ∀ w, Hp Z ρ (L.set k (OwnSl El v (l.set i.toNat e'))) w → wpList P ops Q rest a w) : wpList P ops Q (o :: rest) a w := by
  have h1 := Enc.len e'
  have h2 := Enc.len e
  refine s_stelR wk hd hE hp ho hx hy k (xs := flat l) hk (repAll_flat l) hi hv 0 ht rfl hc (cs := Enc.enc e) (e' := e') rfl hgc ?_ ?_ fun w xs' hR hw => K w ?_
  · show _ = Enc.enc e'
    rw [List.take_zero, List.nil_append, Nat.zero_add, List.drop_of_length_le (by omega), List.append_nil]
  · show Nat.ble (0 + (Enc.enc e').length) (Enc.sz α) = true
    rw [Nat.ble_eq]; omega
  · rw [repAll_eq hR] at hw
    exact hw
omit [Enc α] in
/-- An operation whose value is dropped. -/
theorem s_unitV (wk : Region.wanted o (yielded ops a.tmps) = true) (hd : o.dst = none) (hE : Env N E a) {u : Value} {w' : World} (hx : (execOp a.eval o).run P w = .ok (.value u) w') (K : wpList P ops Q rest a w') : wpList P ops Q (o :: rest) a w := by
  unfold wpList
  rw [if_pos wk]
  left
  unfold Oper.wp
  rw [hx]
  simp only [Oper.upon]
  rw [hd]
  exact K
theorem s_clear (wk : Region.wanted o (yielded ops a.tmps) = true) (hd : o.dst = none) (hE : Env N E a) (hp : Hp Z ρ L w) {x : Operand} (ho : o.op = .call { callee := .builtin .clear, args := #[x], argTypes := #[T] }) (ht : SlTy P T El (Enc.sz α) bytes) {z : Value} (hz : ∀ w, (zeroValue El).run P w = .ok z w) {nv : Value} (hx : evo E x = some nv) (k : Nat) (hk : L[k]? = some (OwnSl El v l)) (lo : IntKind × Int) (hr : sub l lo.2 (l.length : Int) = some r) (hv : ∀ w, (Instr.sliceAt T v (some (.int lo.1 lo.2)) none none).run P w = .ok nv w) (hz1 : (Nat.beq z.cells.size (Enc.sz α) && z.cells.toList.all Value.oneCell') = true)
    (K : ∀ v' w, (∀ (kd : IntKind) w, (Instr.sliceAt T v none (some (.int kd lo.2)) none).run P w = .ok v' w) → Hp Z ρ (L.set k (OwnSl El v' (l.take lo.2.toNat))) w → wpList P ops Q rest a w) : wpList P ops Q (o :: rest) a w := by
  obtain ⟨kd0, i⟩ := lo
  simp only at *
  obtain ⟨h0, h1, hj, rfl⟩ := sub_some hr
  have hlt := (List.getElem?_eq_some_iff.1 hk).1
  rw [Bool.and_eq_true] at hz1
  obtain ⟨hzs, hzo⟩ := hz1
  have hzs' : z.cells.size = Enc.sz α := Nat.eq_of_beq_eq_true hzs
  have hpos : 0 < Enc.sz α := Enc.pos
  have hil : (l.take i.toNat).length = i.toNat := by rw [List.length_take]; omega
  have hsub0 : sub l 0 i = some (l.take i.toNat) := by
    unfold sub
    rw [if_pos ⟨by omega, h0, by omega⟩]; simp
  rcases (hp.get k hk).row.2 with ⟨A, rfl, hn⟩ | ⟨g, of0, cap, cur, rfl, hpt, h2, h3, h4, h5⟩
  · have hl := List.eq_nil_of_length_eq_zero hn
    subst hl
    have hi0 : i = 0 := by simp at h1; omega
    subst hi0
    have e1 := (hv w).symm.trans (run_sl ht A 0 0 (some (kd0, 0)) none (i := 0) (j := 0) rfl rfl (by omega) (by omega) (by omega) w)
    injection e1 with e1
    subst e1
    refine s_unitV (u := .tuple #[]) wk hd hE (w' := w) ?_ (K _ _ (fun kd w => run_sl ht A 0 0 none (some (kd, 0)) (i := 0) (j := 0) rfl rfl (by omega) (by omega) (by omega) w) ?_)
    · cases A <;> simp [execOp, ho, resolve, invoke, builtin, hE.eval hx, Builtin.clear_, run_underlying ht.und]
    · have := hp.get k hk
      refine Hp.put k hlt ?_
      simpa using this
  · have e1 := (hv w).symm.trans (run_sl ht (some ⟨g, of0, none⟩) l.length cap (some (kd0, i)) none (i := i) (j := (l.length : Int)) rfl rfl h0 h1 (by omega) w)
    injection e1 with e1
    have hd2 : ∀ (kd : IntKind) w, (Instr.sliceAt T (.slice (some ⟨g, of0, none⟩) l.length cap) none (some (.int kd i)) none).run P w = .ok (.slice (some ⟨g, of0, none⟩) i.toNat cap) w := fun kd w => by
      have := run_sl ht (some ⟨g, of0, none⟩) l.length cap none (some (kd, i)) (i := 0) (j := i) rfl rfl (by omega) h0 (by omega) w
      have e2 : (if cap = (0 : Int).toNat then some (⟨g, of0, none⟩ : Addr) else (some (⟨g, of0, none⟩ : Addr)).map (·.add ((0 : Int).toNat * Enc.sz α))) = some ⟨g, of0, none⟩ := by
        split <;> simp [Addr.add_lit]
      rw [e2] at this
      simpa using this
    have hg := hpt.look 0 rfl
    have keep : ∀ (vs : List Value), of0 + i.toNat * Enc.sz α + vs.length ≤ cur.size → Hp Z ρ (L.set k (OwnSl El (.slice (some ⟨g, of0, none⟩) i.toNat cap) (l.take i.toNat))) (w.setRow g (cur.toList.take (of0 + i.toNat * Enc.sz α + 0) ++ vs ++ cur.toList.drop (of0 + i.toNat * Enc.sz α + 0 + vs.length)).toArray) := by
      intro vs hvs
      have hle : i.toNat * Enc.sz α ≤ cap * Enc.sz α := Nat.mul_le_mul_right _ (by omega)
      have hle2 : i.toNat * Enc.sz α ≤ l.length * Enc.sz α := Nat.mul_le_mul_right _ (by omega)
      refine Hp.put k hlt ?_
      unfold OwnSl
      rw [hil]
      refine (Hp.set (w' := w.setRow g _) hpt rfl rfl rfl (setRow_heap w g cur _ El _ hg) (fun k hk => setRow_other w g k _ hk)).shutO (by omega) h3 ?_ ?_
      · simp only [List.size_toArray, List.length_append, List.length_take, List.length_drop, Array.length_toList]; omega
      · rw [List.toList_toArray, flat_take, ← h5, List.take_take, Nat.min_eq_left hle2]
        apply List.ext_getElem?
        intro q
        rw [List.getElem?_take, List.getElem?_take]
        split
        · rename_i hq
          have t1 : (cur.toList.take (of0 + i.toNat * Enc.sz α + 0)).length = of0 + i.toNat * Enc.sz α := by rw [List.length_take, Array.length_toList]; omega
          rw [List.getElem?_drop, List.getElem?_drop, List.append_assoc, List.getElem?_append_left (by omega), List.getElem?_take, if_pos (by omega)]
        · rfl
    rcases Nat.eq_zero_or_pos (l.length - i.toNat) with hzl | hzl
    · refine s_unitV (u := .tuple #[]) wk hd hE (w' := w) ?_ (K _ _ hd2 ?_)
      · obtain ⟨B, hB⟩ : ∃ B, nv = .slice B 0 (cap - i.toNat) := ⟨_, e1.trans (by rw [show (l.length : Int).toNat - i.toNat = 0 by omega])⟩
        subst hB
        cases B <;> simp [execOp, ho, resolve, invoke, builtin, hE.eval hx, Builtin.clear_, run_underlying ht.und]
      · have := keep [] (by
          have : i.toNat * Enc.sz α ≤ cap * Enc.sz α := Nat.mul_le_mul_right _ (by omega)
          simp; omega)
        have e3 : (cur.toList.take (of0 + i.toNat * Enc.sz α + 0) ++ [] ++ cur.toList.drop (of0 + i.toNat * Enc.sz α + 0 + ([] : List Value).length)).toArray = cur := by simp
        rw [e3, setRow_self w g cur El (0, 0) hg] at this
        exact this
    · have hci : ¬ cap = i.toNat := by omega
      rw [if_neg hci] at e1
      simp only [Option.map_some, Addr.add_lit] at e1
      subst e1
      have hlen : ((Builtin.zeroCells z.cells (l.length - i.toNat)).toList).length = (l.length - i.toNat) * Enc.sz α := by
        simp [Builtin.zeroCells, hzs']
      have hle : l.length * Enc.sz α ≤ cap * Enc.sz α := Nat.mul_le_mul_right _ h2
      have hsum : i.toNat * Enc.sz α + (l.length - i.toNat) * Enc.sz α = l.length * Enc.sz α := by
        rw [← Nat.add_mul]; congr 1; omega
      have hfit : of0 + i.toNat * Enc.sz α + ((Builtin.zeroCells z.cells (l.length - i.toNat)).toList).length ≤ cur.size := by rw [hlen]; omega
      have one1 : ∀ y ∈ (Builtin.zeroCells z.cells (l.length - i.toNat)).toList, y.oneCell' = true := by
        intro y hy
        simp only [Builtin.zeroCells, Array.toList_map, List.mem_map] at hy
        obtain ⟨q, _, rfl⟩ := hy
        have hq : q % z.cells.size < z.cells.size := Nat.mod_lt _ (by omega)
        rw [getElem!_pos z.cells _ hq]
        exact List.all_eq_true.1 hzo _ (by simp)
      have r1 := run_storeCells_at P g (of0 + i.toNat * Enc.sz α) El (Builtin.zeroCells z.cells (l.length - i.toNat)).toList 0 cur w hg (by omega) one1
      refine s_unitV (u := .tuple #[]) wk hd hE (w' := w.setRow g (cur.toList.take (of0 + i.toNat * Enc.sz α + 0) ++ (Builtin.zeroCells z.cells (l.length - i.toNat)).toList ++ cur.toList.drop (of0 + i.toNat * Enc.sz α + 0 + (Builtin.zeroCells z.cells (l.length - i.toNat)).toList.length)).toArray) ?_ (K _ _ hd2 (keep _ hfit))
      obtain ⟨m, hm⟩ : ∃ m, l.length - i.toNat = m + 1 := ⟨l.length - i.toNat - 1, by omega⟩
      rw [show (l.length : Int).toNat - i.toNat = l.length - i.toNat by omega, hm] at hx
      rw [hm] at r1 ⊢
      simp [execOp, ho, resolve, invoke, builtin, hE.eval hx, Builtin.clear_, run_underlying ht.und, hz] at r1 ⊢
      simp [r1]
end
end Go.Proofs.Ytmfepkadggigpaa
