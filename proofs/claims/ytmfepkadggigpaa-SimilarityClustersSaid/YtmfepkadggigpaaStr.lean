/-
  Strings, bytes, and slices of one's own that are only read. Plain theorems over any program.
-/
import Derived.Test.YtmfepkadggigpaaMut2
import Derived.Laws.IdiomStrings
import Derived.Laws.StructEq
set_option linter.unusedVariables false
set_option linter.unusedSimpArgs false
namespace Go.Proofs.Ytmfepkadggigpaa
open Go.RowKit

instance encU8 : Enc UInt8 := ⟨1, fun n => [.int .u8 n.toNat], fun _ => rfl, fun _ v h => by rw [List.mem_singleton.1 h]; rfl, by decide⟩
/-- A slice of one's own that is only read. -/
def RoA {α : Type} [Rep α] (v : Value) (l : List α) : Atom := fun k => RoSl k v l
def catK (a b : ByteArray) : Option ByteArray := if a.size + b.size ≤ 4294967296 then some (a ++ b) else none
theorem catK_some {a b r : ByteArray} (h : catK a b = some r) : a.size + b.size ≤ 4294967296 ∧ a ++ b = r := by
  unfold catK at h
  split at h
  · exact ⟨‹_›, Option.some.inj h⟩
  · cases h
def sidx (s : ByteArray) (i : Int) : Option Int := if 0 ≤ i then (s[i.toNat]?).map fun b => (b.toNat : Int) else none
theorem sidx_some {s : ByteArray} {i r : Int} (h : sidx s i = some r) : 0 ≤ i ∧ ∃ b : UInt8, s[i.toNat]? = some b ∧ r = (b.toNat : Int) := by
  unfold sidx at h
  split at h
  · obtain ⟨b, hb, rfl⟩ := Option.map_eq_some_iff.1 h
    exact ⟨‹_›, b, hb, rfl⟩
  · cases h
/-- The part of a string. -/
def ssub (s : ByteArray) (i j : Int) : Option ByteArray := if 0 ≤ i ∧ i ≤ j ∧ j ≤ s.size then some (s.extract i.toNat j.toNat) else none
theorem ssub_some {s r : ByteArray} {i j : Int} (h : ssub s i j = some r) : 0 ≤ i ∧ i ≤ j ∧ j ≤ s.size ∧ r = s.extract i.toNat j.toNat := by
  unfold ssub at h
  split at h
  · rename_i h2
    exact ⟨h2.1, h2.2.1, h2.2.2, (Option.some.inj h).symm⟩
  · cases h
def xorK (k : IntKind) (a b : Int) : Int := k.wrap (BitVec.ofInt k.bits a ^^^ BitVec.ofInt k.bits b).toNat
theorem bytes_eq (a b : ByteArray) : (a.toList == b.toList) = decide (a = b) := by
  rw [ByteArray.toList_eq, ByteArray.toList_eq]
  obtain ⟨⟨x⟩⟩ := a
  obtain ⟨⟨y⟩⟩ := b
  by_cases h : x = y
  · subst h; simp
  · have h2 : ¬ (ByteArray.mk ⟨x⟩ = ByteArray.mk ⟨y⟩) := fun e => h (by injection e with e; injection e)
    simp [h, h2]
section
variable {P : Program} {ops : Array Oper} {Q : Exit → Act → World → Prop} {rest : List Oper} {o : Oper} {a : Act} {w : World} {N : Nat} {E : Ent} {d : Nat} {Z : World} {ρ : PH} {L : List Atom} {C : World → Prop}
theorem ex_cat {t t' : TypeId} {x y : Operand} (ho : o.op = .binOp .add t x y t') (hE : Env N E a) {m n r : ByteArray} (hx : evo E x = some (.string m)) (hy : evo E y = some (.string n)) (h : catK m n = some r) : Ex P C a o (.string r) := by
  obtain ⟨h1, rfl⟩ := catK_some h
  refine ex_bin ho hE hx hy fun w _ => ?_
  have : ¬ (((m.size + n.size : Nat) : Int) > IntKind.i64.max) := by
    have e : IntKind.i64.max = 9223372036854775807 := by decide
    rw [e]; omega
  simp only [eqGuard, binOp, Op.stringOp]
  rw [if_neg this]
  simp
theorem ex_seql {t t' : TypeId} {x y : Operand} (ho : o.op = .binOp .eql t x y t') (hE : Env N E a) {m n : ByteArray} (hx : evo E x = some (.string m)) (hy : evo E y = some (.string n)) : Ex P C a o (.bool (decide (m = n))) :=
  ex_bin ho hE hx hy fun w _ => by
    simp only [eqGuard, binOp, Op.stringOp, bytes_eq]
    simp
theorem ex_sneq {t t' : TypeId} {x y : Operand} (ho : o.op = .binOp .neq t x y t') (hE : Env N E a) {m n : ByteArray} (hx : evo E x = some (.string m)) (hy : evo E y = some (.string n)) : Ex P C a o (.bool (!decide (m = n))) :=
  ex_bin ho hE hx hy fun w _ => by
    simp only [eqGuard, binOp, Op.stringOp, bytes_eq]
    simp
theorem ex_slen {t : TypeId} (ht : P.underlying t = some .string) {x : Operand} (ho : o.op = .call { callee := .builtin .len, args := #[x], argTypes := #[t] }) (hE : Env N E a) {m : ByteArray} (hx : evo E x = some (.string m)) : Ex P C a o (.int .i64 m.size) :=
  ex_len ho hE hx fun w ty => by simp [Builtin.len_, run_underlying ht, goInt]
theorem ex_six {t : TypeId} (ht : P.underlying t = some .string) {x i : Operand} (ho : o.op = .index t x i) (hE : Env N E a) {m : ByteArray} {j r : Int} (hx : evo E x = some (.string m)) (hi : evo E i = some (.int .i64 j)) (h : sidx m j = some r) : Ex P C a o (.int .u8 r) := by
  obtain ⟨h0, b, hb, rfl⟩ := sidx_some h
  exact ex_elem ho hE hx hi fun w => by simp [Instr.index, asIntOf, run_underlying ht, h0, hb]
theorem ex_xor {t t' : TypeId} {x y : Operand} (ho : o.op = .binOp .xor t x y t') (hE : Env N E a) {k : IntKind} {m n : Int} (hx : evo E x = some (.int k m)) (hy : evo E y = some (.int k n)) : Ex P C a o (.int k (xorK k m n)) :=
  ex_bin ho hE hx hy fun w _ => by simp [eqGuard, binOp, Op.intBits, xorK]
theorem run_ssub {t : TypeId} (ht : P.underlying t = some .string) {s r : ByteArray} (lo hi : Option (IntKind × Int)) {i j : Int} (hlo : i = match lo with | none => 0 | some p => p.2) (hhi : j = match hi with | none => (s.size : Int) | some p => p.2) (h : ssub s i j = some r) (w : World) :
    (Instr.sliceAt t (.string s) (lo.map fun p => .int p.1 p.2) (hi.map fun p => .int p.1 p.2) none).run P w = .ok (.string r) w := by
  obtain ⟨h0, h1, h2, rfl⟩ := ssub_some h
  subst hlo
  subst hhi
  cases lo with
  | none =>
    cases hi with
    | none => simp [Instr.sliceAt, Instr.slice, Instr.sliceBounds, run_underlying ht] at *
    | some q =>
      simp only at h0 h1 h2 ⊢
      simp [Instr.sliceAt, Instr.slice, Instr.sliceBounds, Instr.sliceBound, asIntOf, run_underlying ht, h1, h2]
  | some p =>
    cases hi with
    | none =>
      simp only at h0 h1 h2 ⊢
      simp [Instr.sliceAt, Instr.slice, Instr.sliceBounds, Instr.sliceBound, asIntOf, run_underlying ht, h0, h1]
    | some q =>
      simp only at h0 h1 h2 ⊢
      have h3 : p.2 ≤ ((q.2.toNat : Nat) : Int) := by omega
      have h4 : 0 ≤ q.2 := by omega
      simp [Instr.sliceAt, Instr.slice, Instr.sliceBounds, Instr.sliceBound, asIntOf, run_underlying ht, h0, h2, h3, h4]
      intro hh; exfalso; omega
/-- The bytes of a string. -/
theorem s_bytes (wk : Region.wanted o (yielded ops a.tmps) = true) (hd : o.dst = some d) (hN : Nat.blt d N = true) (hE : Env N E a) (hp : Hp Z ρ L w) {src dst e : TypeId} {x : Operand} (ho : o.op = .convert src dst x) (hs : P.underlying src = some .string) (hdd : P.underlying dst = some (.slice e)) (he : P.underlying e = some (.int .u8)) {s : ByteArray} (hx : evo E x = some (.string s))
    (K : ∀ v a w, Env N ((d, v) :: E) a → Hp Z ρ (RoA v s.data.toList :: L) w → wpList P ops Q rest a w) : wpList P ops Q (o :: rest) a w := by
  have hr := run_bytes_of_string (P := P) w src dst e s hs hdd he
  have hcap := grownCap_ge w s.size 0 e
  generalize hc : grownCap w s.size 0 e = c at hr hcap
  refine s_run wk hd hN hE (v := .slice (some ⟨w.heap.size, 0, none⟩) s.size c) (w' := w.drew.alloc (.cells (bytesRow s c) e ((bytesRow s c).size, (bytesRow s c).size + 1))) (by simp only [execOp, ho, hE.eval hx]; simp [hr]) fun a' hE' => K _ a' _ hE' ?_
  refine (hp.drew.alloc (.cells (bytesRow s c) e ((bytesRow s c).size, (bytesRow s c).size + 1))).imp fun k hk => ?_
  have hk' : k = PH.one w.heap.size (.cells (bytesRow s c) e ((bytesRow s c).size, (bytesRow s c).size + 1)) := hk
  subst hk'
  refine ⟨some ⟨w.heap.size, 0, none⟩, c, ?_, ?_, fun i b hi => ⟨w.heap.size, 0, [.int .u8 b.toNat], rfl, rfl, fun j u hj => ?_⟩⟩
  · rw [Array.length_toList]; rfl
  · rw [Array.length_toList]; exact hcap
  · have hj0 : j = 0 := by
      have := (List.getElem?_eq_some_iff.1 hj).1
      simp at this; exact this
    subst hj0
    simp only [List.getElem?_cons_zero, Option.some.injEq] at hj
    subst hj
    have hi2 : s.data[i]? = some b := by simpa using hi
    have hlt : i < s.data.size := (Array.getElem?_eq_some_iff.1 hi2).1
    unfold cellAt
    simp only [PH.one, if_true]
    show (bytesRow s c)[0 + i * Rep.sz UInt8 + 0]? = _
    have e1 : 0 + i * Rep.sz UInt8 + 0 = i := by show 0 + i * 1 + 0 = i; omega
    rw [e1]
    unfold bytesRow
    rw [Array.getElem?_append_left (by simpa using hlt)]
    simp [hi2]
/-- '==' at a struct. -/
def EqSt (P : Program) (t : TypeId) (xs ys : List Value) (b : Bool) : Prop := P.eqGuardType P.depth t = false ∧ ∀ w, (Op.equalIn 10000 t (.agg xs.toArray) (.agg ys.toArray)).run P w = .ok b w
theorem ba_beq (a : ByteArray) : (a == a) = true := by
  obtain ⟨d⟩ := a
  show (d == d) = true
  exact beq_self_eq_true d
theorem ba_inj (a b : ByteArray) : (a.toList = b.toList) = (a = b) := by
  rw [ByteArray.toList_eq, ByteArray.toList_eq]
  apply propext
  constructor
  · intro h
    obtain ⟨⟨x⟩⟩ := a
    obtain ⟨⟨y⟩⟩ := b
    simp only at h
    rw [h]
  · intro h; rw [h]
theorem eqst_of {t : TypeId} {xs ys : List Value} {b : Bool} (hg : P.eqGuardType P.depth t = false) (ht : P.underlying t = some (.struct (P.fieldsOf t))) (hp : P.stoodInHeld t = false)
    (h : ∀ w, (Op.eqFields 9999 xs.toArray ys.toArray (P.fieldsOf t).toList).run P w = .ok b w) : EqSt P t xs ys b :=
  ⟨hg, fun w => by rw [show (10000 : Nat) = 9999 + 1 from rfl, run_equalIn_agg w 9999 t _ _ ht hp]; exact h w⟩
theorem ex_steql {t t' : TypeId} {xs ys : List Value} {b : Bool} (h : EqSt P t xs ys b) {x y : Operand} (ho : o.op = .binOp .eql t x y t') (hE : Env N E a) (hx : evo E x = some (.agg xs.toArray)) (hy : evo E y = some (.agg ys.toArray)) : Ex P C a o (.bool b) :=
  ex_bin ho hE hx hy fun w _ => by
    rw [Sem.run_bind, run_eqGuard_agg w .eql t x y _ _ h.1]
    simp only [Result.andThen_ok]
    rw [run_eql_struct w t, h.2 w]; rfl
theorem ex_stneq {t t' : TypeId} {xs ys : List Value} {b : Bool} (h : EqSt P t xs ys b) {x y : Operand} (ho : o.op = .binOp .neq t x y t') (hE : Env N E a) (hx : evo E x = some (.agg xs.toArray)) (hy : evo E y = some (.agg ys.toArray)) : Ex P C a o (.bool (!b)) :=
  ex_bin ho hE hx hy fun w _ => by
    rw [Sem.run_bind, run_eqGuard_agg w .neq t x y _ _ h.1]
    simp only [Result.andThen_ok]
    rw [run_neq_struct w t, h.2 w]; rfl
/-- Elements that lie one behind the other. -/
def RepAll {α : Type} [Rep α] (ρ : PH) : List α → List Value → Prop
  | [], cs => cs = []
  | a :: l, cs => ∃ c r, cs = c ++ r ∧ Rep.ok ρ a c ∧ RepAll ρ l r
theorem RepAll.get {α : Type} [Rep α] {ρ : PH} : ∀ {l : List α} {cs : List Value}, RepAll ρ l cs → ∀ (i : Nat) (a : α), l[i]? = some a → ∃ c, Rep.ok ρ a c ∧ ∀ (j : Nat) (u : Value), c[j]? = some u → cs[i * Rep.sz α + j]? = some u
  | [], _, _, i, a, h => by simp at h
  | b :: l, _, ⟨c, r, rfl, hb, hr⟩, 0, a, h => by
    simp only [List.getElem?_cons_zero, Option.some.injEq] at h
    subst h
    exact ⟨c, hb, fun j u hj => by rw [Nat.zero_mul, Nat.zero_add, List.getElem?_append_left (List.getElem?_eq_some_iff.1 hj).1]; exact hj⟩
  | b :: l, _, ⟨c, r, rfl, hb, hr⟩, i + 1, a, h => by
    rw [List.getElem?_cons_succ] at h
    obtain ⟨c2, h2, h3⟩ := RepAll.get hr i a h
    exact ⟨c2, h2, fun j u hj => by
      have hc := Rep.len hb
      rw [List.getElem?_append_right (by rw [hc, Nat.add_mul]; omega), hc, show (i + 1) * Rep.sz α + j - Rep.sz α = i * Rep.sz α + j from by rw [Nat.add_mul]; omega]
      exact h3 j u hj⟩
theorem RoSl.of_all {α : Type} [Rep α] {l : List α} {b : Nat} {cs : List Value} {T : TypeId} {fz : Nat × Nat} {k : PH} (d : ρ.dj k) (ka : Pt b (.cells cs.toArray T fz) k) (h : RepAll (ρ.un k) l cs) : RoSl (ρ.un k) (.slice (some ⟨b, 0, none⟩) l.length l.length) l := by
  refine ⟨some ⟨b, 0, none⟩, l.length, rfl, Nat.le_refl _, fun i a hi => ?_⟩
  obtain ⟨c, hc, hg⟩ := h.get i a hi
  refine ⟨b, 0, c, rfl, hc, fun j u hj => ?_⟩
  have hb : (ρ.un k) b = some (.cells cs.toArray T fz) := PH.le_un_r d b _ (by rw [ka]; simp [PH.one])
  unfold cellAt
  rw [hb]
  simp only [Nat.zero_add]
  simpa using hg j u hj
theorem RoA.len {α : Type} [Rep α] {T El : TypeId} {sz bytes : Nat} {v : Value} {l : List α} (hp : Hp Z ρ L w) (i : Nat) (hi : L[i]? = some (RoA v l)) (ht : SlTy P T El sz bytes) (w' : World) (ty : TypeId) : (Builtin.len_ #[T] ty #[v]).run P w' = .ok (.int .i64 l.length) w' := by
  obtain ⟨k, hk, _, _⟩ := (hp.get i hi).lend
  exact RoSl.len (ρ := k) hk ht w' ty
/-- Lent for good: it is read as what is only read. -/
theorem RoA.thaw {α : Type} [Rep α] {v : Value} {l : List α} (hp : Hp Z ρ (RoA v l :: L) w) : ∃ k, ρ.dj k ∧ RoSl (ρ.un k) v l ∧ Hp Z (ρ.un k) L w := by
  obtain ⟨k, hk, d, h⟩ := hp.lend
  exact ⟨k, d, RoSl.mono hk (PH.le_un_r d), h⟩
end
end Go.Proofs.Ytmfepkadggigpaa
