/-
  Steps that make or turn what is owned. Plain theorems over any program.
-/
import Derived.Test.YtmfepkadggigpaaRep
set_option linter.unusedVariables false
set_option linter.unusedSimpArgs false
namespace Go.Proofs.Ytmfepkadggigpaa
open Go.RowKit

/-- How long a list may grow that the model has. -/
def app {α : Type} (l m : List α) : Option (List α) := if l.length + m.length ≤ 4294967296 then some (l ++ m) else none
theorem app_some {α : Type} {l m r : List α} (h : app l m = some r) : l.length + m.length ≤ 4294967296 ∧ r = l ++ m := by
  unfold app at h
  split at h
  · exact ⟨‹_›, (Option.some.inj h).symm⟩
  · cases h
/-- How many elements are made. -/
def mk {α : Type} (n : Int) (z : α) : Option (List α) := if 0 ≤ n ∧ n ≤ 4294967296 then some (List.replicate n.toNat z) else none
/-- An element is turned. -/
def upd {α : Type} (l : List α) (i : Int) (a : α) : Option (List α) := if 0 ≤ i ∧ i < l.length then some (l.set i.toNat a) else none
theorem upd_some {α : Type} {l r : List α} {i : Int} {a : α} (h : upd l i a = some r) : 0 ≤ i ∧ i < l.length ∧ r = l.set i.toNat a := by
  unfold upd at h
  split at h
  · rename_i hh; exact ⟨hh.1, hh.2, (Option.some.inj h).symm⟩
  · cases h
/-- A part of a list. -/
def sub {α : Type} (l : List α) (i j : Int) : Option (List α) := if 0 ≤ i ∧ i ≤ j ∧ j ≤ l.length then some ((l.take j.toNat).drop i.toNat) else none
theorem sub_some {α : Type} {l r : List α} {i j : Int} (h : sub l i j = some r) : 0 ≤ i ∧ i ≤ j ∧ j ≤ l.length ∧ r = (l.take j.toNat).drop i.toNat := by
  unfold sub at h
  split at h
  · rename_i hh; exact ⟨hh.1, hh.2.1, hh.2.2, (Option.some.inj h).symm⟩
  · cases h
/-- Numbers that stay in their kind. -/
def inK (k : IntKind) (n : Int) : Option Int := if k.wrap n = n then some n else none
theorem inK_some {k : IntKind} {n r : Int} (h : inK k n = some r) : k.wrap n = r := by
  unfold inK at h
  split at h
  · rename_i hh; rw [hh]; exact Option.some.inj h
  · cases h
theorem inK_ok (n : Int) (h1 : -9223372036854775808 ≤ n) (h2 : n ≤ 9223372036854775807) : inK .i64 n = some n := by
  unfold inK
  rw [if_pos (by rw [IntKind.wrap_i64]; omega)]
/-- Division and remainder, as Go has them. -/
def quoK (k : IntKind) (m n : Int) : Option Int := if n ≠ 0 ∧ k.wrap (m.tdiv n) = m.tdiv n then some (m.tdiv n) else none
theorem quoK_some {k : IntKind} {m n r : Int} (h : quoK k m n = some r) : n ≠ 0 ∧ k.wrap (m.tdiv n) = r := by
  unfold quoK at h
  split at h
  · rename_i hh; exact ⟨hh.1, by rw [hh.2]; exact Option.some.inj h⟩
  · cases h
def remK (m n : Int) : Option Int := if n ≠ 0 then some (m.tmod n) else none
theorem remK_some {m n r : Int} (h : remK m n = some r) : n ≠ 0 ∧ m.tmod n = r := by
  unfold remK at h
  split at h
  · rename_i hh; exact ⟨hh, Option.some.inj h⟩
  · cases h

section
variable {P : Program} {ops : Array Oper} {Q : Exit → Act → World → Prop} {rest : List Oper} {o : Oper} {a : Act} {w : World} {N : Nat} {E : Ent} {d : Nat} {Z : World} {ρ : PH} {L : List Atom}
/-- Parts and what they hold. -/
def evP (E : Ent) : List (Nat × Operand) → List (Nat × Value) → Prop
  | [], [] => True
  | x :: xs, v :: vs => (x.1 = v.1 ∧ evo E x.2 = some v.2) ∧ evP E xs vs
  | _, _ => False
theorem evP_map (hE : Env N E a) : ∀ {xs : List (Nat × Operand)} {vs : List (Nat × Value)}, evP E xs vs → xs.map (fun p => (p.1, a.eval p.2)) = vs
  | [], [], _ => rfl
  | x :: xs, v :: vs, h => by rw [List.map_cons, hE.eval h.1.2, h.1.1, evP_map hE h.2]
  | [], _ :: _, h => h.elim
  | _ :: _, [], h => h.elim
/-- A slice that is written out. -/
theorem s_lit (wk : Region.wanted o (yielded ops a.tmps) = true) (hd : o.dst = some d) (hN : Nat.blt d N = true) (hE : Env N E a) (hp : Hp Z ρ L w) {T : TypeId} {n : Nat} {ps : List (Nat × Operand)} (ho : o.op = .buildSlice T n ps.toArray) (vs : List (Nat × Value)) (hx : evP E ps vs)
    (cs : List Value) (El : TypeId) (hr : ∀ w, (Instr.buildSlice T n vs.toArray).run P w = .ok (.slice (some ⟨w.heap.size, 0, none⟩) n n) (w.alloc (.cells cs.toArray El)))
    (K : ∀ a w b, Env N ((d, .slice (some ⟨b, 0, none⟩) n n) :: E) a → Hp Z ρ (Pt b (.cells cs.toArray El (0, 0)) :: L) w → wpList P ops Q rest a w) : wpList P ops Q (o :: rest) a w := by
  have hps : ps.toArray.map (fun p => (p.1, a.eval p.2)) = vs.toArray := by rw [List.map_toArray, evP_map hE hx]
  refine s_run wk hd hN hE (v := .slice (some ⟨w.heap.size, 0, none⟩) n n) (w' := w.alloc (.cells cs.toArray El)) ?_ fun a' hE' => K a' _ _ hE' (hp.alloc _)
  simp only [execOp, ho, hps, Sem.run_bind, hr w]
  rfl
/-- A struct that is built. -/
theorem ex_bld {C : World → Prop} {t : TypeId} {ps : List (Nat × Operand)} (ho : o.op = .build t ps.toArray) (hE : Env N E a) (vs : List (Nat × Value)) (hx : evP E ps vs) {v : Value} (h : ∀ w, (Instr.build t vs.toArray).run P w = .ok v w) : Ex P C a o v :=
  ex_build ho fun w => by rw [List.map_toArray, evP_map hE hx]; exact h w
/-- A new variable. -/
theorem s_new (wk : Region.wanted o (yielded ops a.tmps) = true) (hd : o.dst = some d) (hN : Nat.blt d N = true) (hE : Env N E a) (hp : Hp Z ρ L w) {T : TypeId} (ho : o.op = .alloc T) (cs : List Value) (hr : ∀ w, (Instr.alloc T true (.tuple #[])).run P w = .ok (.pointer (some ⟨w.heap.size, 0, none⟩)) (w.alloc (.cells cs.toArray T)))
    (K : ∀ a w b, Env N ((d, .pointer (some ⟨b, 0, none⟩)) :: E) a → Hp Z ρ (Pt b (.cells cs.toArray T (0, 0)) :: L) w → wpList P ops Q rest a w) : wpList P ops Q (o :: rest) a w := by
  refine s_run wk hd hN hE (v := .pointer (some ⟨w.heap.size, 0, none⟩)) (w' := w.alloc (.cells cs.toArray T)) ?_ fun a' hE' => K a' _ _ hE' (hp.alloc _)
  simp only [execOp, ho, Sem.run_bind, hr w]
  rfl
theorem OwnSl.len {α : Type} [Enc α] {T El : TypeId} {sz bytes : Nat} {v : Value} {l : List α} (hp : Hp Z ρ L w) (k : Nat) (hk : L[k]? = some (OwnSl El v l)) (ht : SlTy P T El sz bytes) (w : World) (ty : TypeId) : (Builtin.len_ #[T] ty #[v]).run P w = .ok (.int .i64 l.length) w := by
  rcases (hp.get k hk).row.2 with ⟨A, rfl, hn⟩ | ⟨g, off, cap, cur, rfl, _, _⟩
  · rw [hn]; exact run_len ht A 0 0 w ty
  · exact run_len ht _ _ cap w ty
/-- A block that is read as an owned slice. -/
theorem Hp.drop2 {A B : Atom} (h : Hp Z ρ (A :: B :: L) w) : Hp Z ρ (A :: L) w := h.to fun s => Sep.cons_mono (fun _ _ s => s.drop) s
theorem own_of_pt {α : Type} [Enc α] {b : Nat} {El : TypeId} {l : List α} {n : Nat} (hn : l.length = n) (hl : n ≤ maxLen) {cs : Array Value} (hc : cs = (flat l).toArray) : ∀ k, Pt b (.cells cs El) k → OwnSl El (.slice (some ⟨b, 0, none⟩) n n) l k := fun k hk => by
  subst hn
  refine ⟨flat_len l, Or.inr ⟨b, 0, l.length, cs, rfl, hk, Nat.le_refl _, hl, ?_, ?_⟩⟩
  · rw [hc, List.size_toArray, flat_len, Nat.zero_add]
  · rw [hc, List.toList_toArray, List.drop_zero, List.take_of_length_le (by rw [flat_len]; exact Nat.le_refl _)]
theorem set_get {A _B : Atom} {i : Nat} (h : L[i]? = some A) : (L.eraseIdx i).length + 1 = L.length ∧ i < L.length := by
  have hl := (List.getElem?_eq_some_iff.1 h).1
  exact ⟨by rw [List.length_eraseIdx_of_lt hl]; omega, hl⟩
/-- 'append' of what lies readable to an owned slice. -/
theorem s_app {α : Type} [Enc α] (wk : Region.wanted o (yielded ops a.tmps) = true) (hd : o.dst = some d) (hN : Nat.blt d N = true) (hE : Env N E a) (hp : Hp Z ρ L w) {x y : Operand} {t : TypeId} (ho : o.op = .call { callee := .builtin .append, args := #[x, y], argTypes := #[t, t] }) {El : TypeId} {bytes : Nat} (ht : SlTy P t El (Enc.sz α) bytes) (hby : Nat.ble bytes 16384 = true)
    {v : Value} (hx : evo E x = some v) (i : Nat) {l : List α} (hi : L[i]? = some (OwnSl El v l)) {b off m c : Nat} (hy : evo E y = some (.slice (some ⟨b, off, none⟩) m c)) {l2 r : List α} (hm : l2.length = m) (hn : ∀ j u, (flat l2)[j]? = some u → w.cell? ⟨b, off + j, none⟩ = some u) (hr : app l l2 = some r)
    (K : ∀ v' a w, Env N ((d, v') :: E) a → Hp Z ρ (L.set i (OwnSl El v' r)) w → wpList P ops Q rest a w) : wpList P ops Q (o :: rest) a w := by
  obtain ⟨hlen, rfl⟩ := app_some hr
  have hby' : bytes ≤ 16384 := by simpa using hby
  have hb2 : (l.length + m) * bytes ≤ 4294967296 * 16384 := Nat.mul_le_mul (by omega) hby'
  obtain ⟨v', w', hrun, hp'⟩ := run_app (P := P) ht Enc.pos o.type (hp.get i hi) ⟨b, off, none⟩ m c (flat l2) (by rw [flat_len, hm]) (fun j u hj => by rw [Addr.add_lit]; exact hn j u hj) (flat_one l2) (by unfold maxLen; omega) (by omega)
  refine s_run wk hd hN hE (v := v') (w' := w') ?_ fun a' hE' => K v' a' w' hE' ?_
  · simp only [execOp, ho, resolve, invoke, builtin, Sem.run_bind, Sem.run_pure, Result.andThen_ok, List.map_toArray, List.map_cons, List.map_nil, hE.eval hx, hE.eval hy, hrun]
  · refine Hp.put i (set_get (A := OwnSl El v l) (_B := OwnSl El v l) hi).2 ?_
    unfold OwnSl
    rw [flat_app, List.length_append, hm]
    exact hp'
theorem run_appN {P : Program} {t E : TypeId} {bytes sz : Nat} (ht : SlTy P t E sz bytes) (ty : TypeId) {v : Value} {n : Nat} {xs : List Value} (hp : Hp Z ρ (Row E sz v n xs :: L) w) (c : Nat) :
    (Builtin.append_ #[t, t] ty #[v, .slice none 0 c]).run P w = .ok v w := by
  obtain ⟨i, z, hi, hz, hsize, hby, hzs⟩ := ht.inf
  rcases hp.row.2 with ⟨A, rfl, rfl⟩ | ⟨g, off, cap, cur, rfl, _, hnc, _⟩
  · cases A <;> simp [storeCells, Builtin.append_, run_underlying ht.und, sizeOf, typeInfo, hi, Builtin.lenOf, Builtin.firstCells]
  · simp [Builtin.append_, run_underlying ht.und, sizeOf, typeInfo, hi, Builtin.lenOf, Builtin.firstCells, hnc, storeCells]
/-- 'append' of all elements of a slice that is only read. -/
theorem s_apps {α : Type} [Enc α] (wk : Region.wanted o (yielded ops a.tmps) = true) (hd : o.dst = some d) (hN : Nat.blt d N = true) (hE : Env N E a) (hp : Hp Z ρ L w) {x y : Operand} {t : TypeId} (ho : o.op = .call { callee := .builtin .append, args := #[x, y], argTypes := #[t, t] }) {El : TypeId} {bytes : Nat} (ht : SlTy P t El (Enc.sz α) bytes) (hby : Nat.ble bytes 16384 = true)
    {v : Value} (hx : evo E x = some v) (i : Nat) {l : List α} (hi : L[i]? = some (OwnSl El v l)) {v2 : Value} (hy : evo E y = some v2) {l2 r : List α} (hs : RoSl ρ v2 l2) (hr : app l l2 = some r)
    (K : ∀ v' a w, Env N ((d, v') :: E) a → Hp Z ρ (L.set i (OwnSl El v' r)) w → wpList P ops Q rest a w) : wpList P ops Q (o :: rest) a w := by
  obtain ⟨A, c, rfl, _, hh⟩ := hs
  cases A with
  | some ad =>
    rcases Nat.eq_zero_or_pos l2.length with h0 | h0
    · obtain ⟨b, off, sp⟩ := ad
      have hnil := List.eq_nil_of_length_eq_zero h0
      subst hnil
      obtain ⟨hlen, rfl⟩ := app_some hr
      have hby' : bytes ≤ 16384 := by simpa using hby
      have hb2 : (l.length + 0) * bytes ≤ 4294967296 * 16384 := Nat.mul_le_mul (by simp at hlen; omega) hby'
      obtain ⟨v', w', hrun, hp'⟩ := run_app (P := P) ht Enc.pos o.type (hp.get i hi) ⟨b, off, sp⟩ 0 c [] (by simp) (fun j u hj => by simp at hj) (fun u hu => by simp at hu) (by unfold maxLen; simp at hlen; omega) (by omega)
      refine s_run wk hd hN hE (v := v') (w' := w') ?_ fun a' hE' => K v' a' w' hE' ?_
      · simp only [execOp, ho, resolve, invoke, builtin, Sem.run_bind, Sem.run_pure, Result.andThen_ok, List.map_toArray, List.map_cons, List.map_nil, hE.eval hx, hE.eval hy]
        simp only [List.length_nil, hrun]
        rfl
      · refine Hp.put i (set_get (A := OwnSl El v l) (_B := OwnSl El v l) hi).2 ?_
        unfold OwnSl
        simpa using hp'
    · obtain ⟨b, off, cs, e1, _, _⟩ := hh 0 l2[0] (List.getElem?_eq_getElem h0)
      simp only [Option.some.injEq] at e1
      subst e1
      refine s_app wk hd hN hE hp ho ht hby hx i hi hy rfl (fun j u hj => ?_) hr K
      have hjl : j < l2.length * Enc.sz α := by rw [← flat_len]; exact (List.getElem?_eq_some_iff.1 hj).1
      have hz : 0 < Enc.sz α := Enc.pos
      have hi' : j / Enc.sz α < l2.length := Nat.div_lt_of_lt_mul (by rw [Nat.mul_comm]; exact hjl)
      have he : j = j / Enc.sz α * Enc.sz α + j % Enc.sz α := by rw [Nat.mul_comm]; exact (Nat.div_add_mod j _).symm
      have hm : j % Enc.sz α < Enc.sz α := Nat.mod_lt _ hz
      obtain ⟨b2, o2, cs2, e2, h4, h5⟩ := hh (j / Enc.sz α) l2[j / Enc.sz α] (List.getElem?_eq_getElem hi')
      simp only [Option.some.injEq, Addr.mk.injEq, and_true] at e2
      obtain ⟨rfl, rfl⟩ := e2
      have h4' : cs2 = Enc.enc l2[j / Enc.sz α] := h4
      subst h4'
      rw [he, flat_get l2 _ _ _ (List.getElem?_eq_getElem hi') hm] at hj
      have := cell_of hp.le (h5 _ u hj)
      have e3 : off + j / Enc.sz α * Rep.sz α + j % Enc.sz α = off + j := by
        show off + j / Enc.sz α * Enc.sz α + j % Enc.sz α = off + j
        omega
      rw [e3] at this
      exact this
  | none =>
    have hnil : l2 = [] := by
      rcases Nat.eq_zero_or_pos l2.length with h0 | h0
      · exact List.eq_nil_of_length_eq_zero h0
      · obtain ⟨b, off, cs, e1, _, _⟩ := hh 0 l2[0] (List.getElem?_eq_getElem h0)
        cases e1
    subst hnil
    obtain ⟨hlen, rfl⟩ := app_some hr
    refine s_run wk hd hN hE (v := v) (w' := w) ?_ fun a' hE' => K v a' w hE' ?_
    · have hrun := run_appN (P := P) ht o.type (hp.get i hi) c
      simp only [execOp, ho, resolve, invoke, builtin, Sem.run_bind, Sem.run_pure, Result.andThen_ok, List.map_toArray, List.map_cons, List.map_nil, hE.eval hx, hE.eval hy]
      simp only [List.length_nil, hrun]
      rfl
    · rw [List.append_nil]
      have : L.set i (OwnSl El v l) = L := by
        apply List.ext_getElem?
        intro j
        rw [List.getElem?_set]
        split
        · rename_i e; subst e
          rw [if_pos (List.getElem?_eq_some_iff.1 hi).1, hi]
        · rfl
      rw [this]
      exact hp
/-- An owned slice, lent: it is only read. -/
theorem OwnSl.ro {α : Type} [Enc α] {T : TypeId} {v : Value} {l : List α} {k : PH} (d : ρ.dj k) (h : OwnSl T v l k) : RoSl (ρ.un k) v l := by
  obtain ⟨hxl, h⟩ := h
  rcases h with ⟨A, rfl, hn⟩ | ⟨g, off, cap, cur, rfl, rfl, h1, h2, h3, h4⟩
  · obtain rfl := List.eq_nil_of_length_eq_zero hn
    exact ⟨A, 0, rfl, Nat.le_refl _, fun i a h => by simp at h⟩
  · refine ⟨some ⟨g, off, none⟩, cap, rfl, h1, fun i a hi => ⟨g, off, Enc.enc a, rfl, rfl, fun j u hj => ?_⟩⟩
    have hjs : j < Enc.sz α := by rw [← Enc.len a]; exact (List.getElem?_eq_some_iff.1 hj).1
    have hg : (ρ.un (PH.one g (.cells cur T (0, 0)))) g = some (.cells cur T (0, 0)) := PH.le_un_r d g _ (by simp [PH.one])
    unfold cellAt
    rw [hg]
    simp only
    have hf := flat_get l i j a hi hjs
    rw [hj, ← h4, List.getElem?_take] at hf
    split at hf
    · rw [List.getElem?_drop, ← Nat.add_assoc] at hf
      rw [← Array.getElem?_toList]
      exact hf
    · cases hf
/-- An element of an owned slice: its place, and its cells there. -/
theorem OwnSl.at {α : Type} [Enc α] {T El : TypeId} {bytes : Nat} {v : Value} {l : List α} (hp : Hp Z ρ L w) (k : Nat) (hk : L[k]? = some (OwnSl El v l)) (ht : SlTy P T El (Enc.sz α) bytes) {i : Int} {e : α} (hi : idx l i = some e) :
    ∃ g off, (∀ w, (Instr.indexAt T v (.int .i64 i)).run P w = .ok (.pointer (some ⟨g, off, none⟩)) w) ∧ (∃ of0 cap, v = .slice (some ⟨g, of0, none⟩) l.length cap ∧ off = of0 + i.toNat * Enc.sz α) ∧ ∀ (j : Nat) (u : Value), (Enc.enc e)[j]? = some u → ∀ ρ' L' w, Hp Z ρ' (OwnSl El v l :: L') w → w.cell? ⟨g, off + j, none⟩ = some u := by
  obtain ⟨i0, i1, i2⟩ := idx_some hi
  rcases (hp.get k hk).row.2 with ⟨_, _, hn⟩ | ⟨g, of0, cap, cur, rfl, _, _⟩
  · omega
  · refine ⟨g, of0 + i.toNat * Enc.sz α, fun w => run_index ht g of0 _ cap i0 i1 w, ⟨of0, cap, rfl, rfl⟩, fun j u hj ρ' L' w' hw' => ?_⟩
    obtain ⟨m, am, dm, hl⟩ := hw'.lend
    obtain ⟨A, c, hA, _, hro⟩ := OwnSl.ro dm am
    obtain ⟨b, off, cs, e1, e2, hat⟩ := hro _ e i2
    simp only [Value.slice.injEq] at hA
    rw [← hA.1] at e1
    simp only [Option.some.injEq, Addr.mk.injEq, and_true] at e1
    obtain ⟨rfl, rfl⟩ := e1
    have e2' : cs = Enc.enc e := e2
    subst e2'
    exact cell_of hl.le (hat j u hj)
theorem run_st1 {t : TypeId} {p : Addr} {u : Value} (hs : ∀ w, (sizeOf t).run P w = .ok 1 w) (h1 : u.cells = #[u]) (h2 : u.oneCell' = true) {c : Value} (hc : w.cell? p = some c) (hf : w.frozen? p = false) : (Instr.storeAt t (.pointer (some p)) u).run P w = .ok () (w.setCell p u) := by
  have hadd : p.add 0 = p := by simp [Addr.add]
  have : (Go.store p u).run P w = .ok () (w.setCell p u) := by
    cases u <;> simp [Value.oneCell'] at h2 <;> simp [Go.store, Sem.run, hc, hf]
  simp [Instr.storeAt, Instr.sureAddr, storeVar, hs w, h1, storeCells, hadd, this]
end

/-! ### Variables in memory -/
structure VarTy (P : Program) (T : TypeId) (agg : Bool) (sz : Nat) : Prop where
  agg_ : ∀ w, (isAgg T).run P w = .ok agg w
  size_ : ∀ w, (sizeOf T).run P w = .ok sz w
section
variable {P : Program} {Z : World} {ρ : PH} {L : List Atom}
theorem run_ld1 {T : TypeId} (ht : VarTy P T false 1) {p : Addr} {v : Value} {w : World} (h : w.cell? p = some v) : (Instr.loadAt T (.pointer (some p))).run P w = .ok v w := by
  simp [Instr.loadAt, Instr.sureAddr, loadVar, ht.agg_ w, load, Sem.run, h]
theorem run_ldN {T : TypeId} {cs : List Value} (ht : VarTy P T true cs.length) {b o : Nat} {w : World} (h : ∀ j u, cs[j]? = some u → w.cell? ⟨b, o + j, none⟩ = some u) : (Instr.loadAt T (.pointer (some ⟨b, o, none⟩))).run P w = .ok (.agg cs.toArray) w := by
  have := run_loadCells_list (P := P) (w := w) ⟨b, o, none⟩ cs (fun j v hj => by rw [Addr.add_lit]; exact h j v hj)
  simp [Instr.loadAt, Instr.sureAddr, loadVar, ht.agg_ w, ht.size_ w, this]
/-- A field's place. -/
def FldTy (P : Program) (T : TypeId) (f off : Nat) : Prop := ∀ b o w, (Instr.fieldAt T (.pointer (some ⟨b, o, none⟩)) f).run P w = .ok (.pointer (some ⟨b, o + off, none⟩)) w
theorem Hp.cN {b : Nat} {cs : List Value} {T : TypeId} {fz : Nat × Nat} (i : Nat) (e : L[i]? = some (Pt b (.cells cs.toArray T fz))) (o : Nat) (ds : List Value) (hd : ∀ j u, ds[j]? = some u → cs[o + j]? = some u) : ∀ w, Hp Z ρ L w → ∀ j u, ds[j]? = some u → w.cell? ⟨b, o + j, none⟩ = some u := fun w hw j u hj => Hp.c i e (o + j) (by simpa using hd j u hj) w hw
theorem sub_all {ds cs : List Value} {o : Nat} (h : (cs.drop o).take ds.length = ds) : ∀ j u, ds[j]? = some u → cs[o + j]? = some u := fun j u hj => by
  rw [← h, List.getElem?_take] at hj
  split at hj
  · rw [List.getElem?_drop] at hj; exact hj
  · cases hj
variable {ops : Array Oper} {Q : Exit → Act → World → Prop} {rest : List Oper} {o : Oper} {a : Act} {w : World} {N : Nat} {E : Ent} {d : Nat}
/-- An operation that yields no value. -/
theorem s_unit (wk : Region.wanted o (yielded ops a.tmps) = true) (hd : o.dst = none) (hE : Env N E a) {w' : World} (hx : (execOp a.eval o).run P w = .ok .skip w') (K : wpList P ops Q rest a w') : wpList P ops Q (o :: rest) a w := by
  unfold wpList
  rw [if_pos wk]
  left
  unfold Oper.wp
  rw [hx]
  simp only [Oper.upon]
  rw [hd]
  exact K
theorem frozen_pt {b : Nat} {cs : Array Value} {T : TypeId} (i : Nat) (hp : Hp Z ρ L w) (e : L[i]? = some (Pt b (.cells cs T (0, 0)))) (j : Nat) : w.frozen? ⟨b, j, none⟩ = false := by
  have := hp.look i e
  simp [World.frozen?, this]
/-- A store to an owned block. -/
theorem s_store (wk : Region.wanted o (yielded ops a.tmps) = true) (hd : o.dst = none) (hE : Env N E a) (hp : Hp Z ρ L w) {T : TypeId} {x y : Operand} (ho : o.op = .store T x y) {b off : Nat} (hx : evo E x = some (.pointer (some ⟨b, off, none⟩))) {v : Value} (hy : evo E y = some v) (i : Nat) {cs : List Value} {El : TypeId} (hi : L[i]? = some (Pt b (.cells cs.toArray El (0, 0))))
    (ht : ∀ w, (sizeOf T).run P w = .ok v.cells.size w) (hl : Nat.ble (off + v.cells.size) cs.length = true) (h1 : ∀ u ∈ v.cells.toList, u.oneCell' = true) (cs' : List Value) (hcs : cs' = cs.take off ++ v.cells.toList ++ cs.drop (off + v.cells.size))
    (K : ∀ w, Hp Z ρ (L.set i (Pt b (.cells cs'.toArray El (0, 0)))) w → wpList P ops Q rest a w) : wpList P ops Q (o :: rest) a w := by
  subst hcs
  have hg := hp.look i hi
  have r1 := run_storeCells_at P b off El v.cells.toList 0 cs.toArray w hg (by have := Nat.le_of_ble_eq_true hl; simpa using this) h1
  simp only [Nat.add_zero] at r1
  generalize hcur : ((cs.toArray.toList.take off ++ v.cells.toList ++ cs.toArray.toList.drop (off + v.cells.toList.length)).toArray : Array Value) = cur at r1
  refine s_unit wk hd hE (w' := w.setRow b cur) ?_ (K (w.setRow b cur) ?_)
  · simp [execOp, ho, hE.eval hx, hE.eval hy, Instr.storeAt, Instr.sureAddr, storeVar, ht w, r1]
  · refine Hp.put i (set_get (A := Pt b (.cells cs.toArray El (0, 0))) (_B := Pt b (.cells cs.toArray El (0, 0))) hi).2 (Hp.set (w' := w.setRow b cur) (hp.get i hi) rfl rfl rfl ?_ (fun k hk => setRow_other w b k _ hk))
    rw [setRow_heap w b cs.toArray _ El _ hg, ← hcur]
    simp
end
/-! ### Ways of the model -/
theorem it {α : Type} {b : Bool} {A B : α} (h : b = true) : (if b = true then A else B) = A := if_pos h
theorem ie {α : Type} {b : Bool} {A B : α} (h : b = false) : (if b = true then A else B) = B := if_neg (by rw [h]; decide)
theorem bnd {α β : Type} {o : Option α} {f : α → Option β} {b : β} (h : o.bind f = some b) : ∃ x, o = some x ∧ f x = some b := Option.bind_eq_some_iff.1 h
inductive Out (σ ρ : Type) where
  | brk (s : σ)
  | ret (r : ρ)
theorem Env.eqv {N d : Nat} {v v' : Value} {E : Ent} {a : Act} (h : Env N ((d, v) :: E) a) (e : v = v') : Env N ((d, v') :: E) a := e ▸ h
/-- What a call hands back. -/
def Ret (R : Value → World → Prop) : Ending → World → Prop := fun e w => ∃ v, e = .returned v ∧ R v w
theorem Ret.ret {R : Value → World → Prop} : ∀ e w, Ret R e w → ∃ v, e = .returned v := fun _ _ ⟨v, h, _⟩ => ⟨v, h⟩
theorem Ret.of {R : Value → World → Prop} {v : Value} {w : World} (h : Ret R (.returned v) w) : R v w := by
  obtain ⟨v', e, h⟩ := h
  injection e with e
  subst e
  exact h

/-! ### Regions that draw their order and do more than read -/
def QJ (J : Act → World → Prop) : Exit → Act → World → Prop := fun e a w => match e with | .normal => J a w | _ => False
section
variable {P : Program} {ops : Array Oper} {a : Act} {w : World} {N : Nat} {E : Ent} {d : Nat} {Z : World} {ρ : PH} {L : List Atom} {J : Act → World → Prop} {fuel : Nat} {listed : Array Bool} {o : Oper}
theorem k_held {Q : Exit → Act → World → Prop} {cs : List Code} {id : Nat} {l : List Oper} (LS : List Atom) (J : Act → World → Prop) (hm : P.follows .mixedOrders = true)
    (h : wpAnyH P .any l.toArray (QJ J) (Hp Z ρ LS) l.length (Array.replicate l.length false) a w.drew) (hk : ∀ a w, J a w → wpK P Q cs a w) : wpK P Q (.region id l.toArray true :: cs) a w := by
  have h1 : (Code.region id l.toArray true).wp P (QJ J) a w := wp_region_held (S := Hp Z ρ LS) hm (by simpa using h)
  exact Code.wp_mono (fun e a w q => by
    cases e with
    | normal => exact hk a w q
    | _ => exact q.elim) h1
theorem h_take (i : Nat) (wk : Region.wanted o (yielded ops a.tmps) = true) (hi : ops[i]? = some o) (hd : o.dst = some d) (hN : Nat.blt d N = true) (hE : Env N E a) (hs : Region.noSelect ops = true) (hf : Region.free .any ops listed i = true) (hr : (Region.ready .any ops listed).contains i = true) (hS : Hp Z ρ L w) {v : Value} (hx : Ex P (Hp Z ρ L) a o v)
    (K : ∀ a, Env N ((d, v) :: E) a → wpAnyH P .any ops (QJ J) (Hp Z ρ L) fuel (listed.setIfInBounds i true) a w) : wpAnyH P .any ops (QJ J) (Hp Z ρ L) (fuel + 1) listed a w :=
  wpAnyH_take hi hs hf hr (fun _ _ _ q => q.elim) (Or.inl ⟨wk, hx⟩) hS (by rw [hd]; exact K _ (hE.put hN v))
theorem h_skip (i : Nat) (wk : Region.wanted o (yielded ops a.tmps) = false) (hi : ops[i]? = some o) (hd : o.dst = some d) (hN : Nat.blt d N = true) (hE : Env N E a) (hs : Region.noSelect ops = true) (hf : Region.free .any ops listed i = true) (hr : (Region.ready .any ops listed).contains i = true) (hS : Hp Z ρ L w)
    (K : ∀ a, Env N ((d, undef) :: E) a → wpAnyH P .any ops (QJ J) (Hp Z ρ L) fuel (listed.setIfInBounds i true) a w) : wpAnyH P .any ops (QJ J) (Hp Z ρ L) (fuel + 1) listed a w :=
  wpAnyH_take hi hs hf hr (fun _ _ _ q => q.elim) (Or.inr ⟨wk, rfl⟩) hS (by rw [hd]; exact K _ (hE.put hN undef))
theorem h_op {Q : Exit → Act → World → Prop} {i : Nat} {K : Act → World → Prop} (hi : ops[i]? = some o) (h : wpList P ops (fun e a w => match e with | .normal => K a w | e => Q e a w) [o] a w) : wpOp P ops Q i K a w := by
  unfold wpOp
  rw [hi]
  simp only
  unfold wpList at h
  split at h
  · rename_i hw
    rw [if_pos hw]
    rcases h with h | ⟨h1, x, y, q⟩
    · left
      unfold Oper.wp at *
      generalize (execOp a.eval o).run P w = r at *
      cases r with
      | ok n w' =>
        cases n <;> simp only [Oper.upon] at h ⊢ <;> first
          | exact h
          | (refine Calls.mono h fun e w'' he => ?_
             cases e with
             | returned v => exact he
             | panicked c => exact he
             | outgrown => obtain ⟨x, y, q⟩ := he; exact ⟨x, y, q⟩)
          | exact Rows.mono h fun _ _ he => he
      | halt x w' => cases x <;> simp only [Oper.upon] at h ⊢ <;> exact h
    · exact Or.inr ⟨h1, x, y, q⟩
  · rename_i hw
    rw [if_neg hw]
    exact h
theorem h_all (rs : List Nat) (hr : Region.ready .any ops listed = rs) (hne : rs.isEmpty = false) (h : ∀ i ∈ rs, wpOp P ops (QJ J) i (fun a' w' => Hp Z ρ L w' ∧ wpAnyH P .any ops (QJ J) (Hp Z ρ L) fuel (listed.setIfInBounds i true) a' w') a w) : wpAnyH P .any ops (QJ J) (Hp Z ρ L) (fuel + 1) listed a w :=
  wpAnyH_all hr (by intro e; rw [e] at hne; cases hne) h
theorem h_done (hr : Region.ready .any ops listed = []) (h : J a w) : wpAnyH P .any ops (QJ J) (Hp Z ρ L) fuel listed a w := wpAnyH_done hr h _
end
end Go.Proofs.Ytmfepkadggigpaa
