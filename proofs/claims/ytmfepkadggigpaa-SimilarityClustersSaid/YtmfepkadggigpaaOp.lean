/-
  The steps of a region's operations, over frames as short lists and worlds as parts. Plain theorems over any program.
-/
import Derived.Test.YtmfepkadggigpaaEn
set_option linter.unusedVariables false
set_option linter.unusedSimpArgs false
namespace Go.Proofs.Ytmfepkadggigpaa
open Go.RowKit

/-! ### Guards -/
section
variable {ops : Array Oper} {o : Oper} {a : Act} {N : Nat} {E : Ent}
theorem wk0 (hg : o.guard = none) : Region.wanted o (yielded ops a.tmps) = true := by simp [Region.wanted, hg]
theorem yielded_of (hE : Env N E a) {j d : Nat} (hj : (ops[j]?).bind (·.dst) = some d) {v : Value} (hl : lk E d = some v) : yielded ops a.tmps j = match v with | .bool b => some b | _ => none := by
  unfold yielded
  rw [hj]
  simp only [Option.bind_some, hE.val d v hl]
  cases v <;> rfl
theorem wk1 (hE : Env N E a) {j : Nat} {b : Bool} (hg : o.guard = some (j, b)) {d : Nat} (hj : (ops[j]?).bind (·.dst) = some d) {c : Bool} (hl : lk E d = some (.bool c)) (hc : c = b) : Region.wanted o (yielded ops a.tmps) = true := by
  subst hc
  simp [Region.wanted, hg, yielded_of hE hj hl]
theorem wk2 (hE : Env N E a) {j : Nat} {b : Bool} (hg : o.guard = some (j, b)) {d : Nat} (hj : (ops[j]?).bind (·.dst) = some d) {c : Bool} (hl : lk E d = some (.bool c)) (hc : c = !b) : Region.wanted o (yielded ops a.tmps) = false := by
  subst hc
  simp [Region.wanted, hg, yielded_of hE hj hl]
theorem wk3 (hE : Env N E a) {j : Nat} {b : Bool} (hg : o.guard = some (j, b)) {d : Nat} (hj : (ops[j]?).bind (·.dst) = some d) (hl : lk E d = some undef) : Region.wanted o (yielded ops a.tmps) = false := by
  have : yielded ops a.tmps j = none := by rw [yielded_of hE hj hl]; rfl
  simp [Region.wanted, hg, this]
end

/-! ### Carrying out: a value, and the world as it was -/
abbrev Ex (P : Program) (C : World → Prop) (a : Act) (o : Oper) (v : Value) : Prop := ∀ w, C w → (execOp a.eval o).run P w = .ok (.value v) w
section
variable {P : Program} {ops : Array Oper} {Q : Exit → Act → World → Prop} {rest : List Oper} {o : Oper} {a : Act} {w : World} {N : Nat} {E : Ent} {d : Nat} {C : World → Prop}
/-- .. in the order of the text. -/
theorem s_val (wk : Region.wanted o (yielded ops a.tmps) = true) (hd : o.dst = some d) (hN : Nat.blt d N = true) (hE : Env N E a) (hC : C w) {v : Value} (hx : Ex P C a o v) (K : ∀ a, Env N ((d, v) :: E) a → wpList P ops Q rest a w) : wpList P ops Q (o :: rest) a w := by
  unfold wpList
  rw [if_pos wk]
  left
  unfold Oper.wp
  rw [hx w hC]
  simp only [Oper.upon]
  rw [hd]
  exact K _ (hE.put hN v)
theorem s_skip (wk : Region.wanted o (yielded ops a.tmps) = false) (hd : o.dst = some d) (hN : Nat.blt d N = true) (hE : Env N E a) (K : ∀ a, Env N ((d, undef) :: E) a → wpList P ops Q rest a w) : wpList P ops Q (o :: rest) a w := by
  unfold wpList
  rw [if_neg (by rw [wk]; simp), hd]
  exact K _ (hE.put hN undef)
theorem s_nil (h : Q .normal a w) : wpList P ops Q [] a w := h
/-- .. in whatever order. -/
theorem q_val {Q : Act → Prop} (wk : Region.wanted o (yielded ops a.tmps) = true) (hd : o.dst = some d) (hN : Nat.blt d N = true) (hE : Env N E a) {v : Value} (hx : Ex P C a o v) (K : ∀ a, Env N ((d, v) :: E) a → wpQuiet P ops C Q rest a) : wpQuiet P ops C Q (o :: rest) a := by
  unfold wpQuiet
  rw [if_pos wk]
  refine ⟨v, fun w hw => ?_, ?_⟩
  · unfold Oper.quietAt
    rw [hx w hw]
    exact ⟨rfl, rfl⟩
  · rw [hd]; exact K _ (hE.put hN v)
theorem q_skip {Q : Act → Prop} (wk : Region.wanted o (yielded ops a.tmps) = false) (hd : o.dst = some d) (hN : Nat.blt d N = true) (hE : Env N E a) (K : ∀ a, Env N ((d, undef) :: E) a → wpQuiet P ops C Q rest a) : wpQuiet P ops C Q (o :: rest) a := by
  unfold wpQuiet
  rw [if_neg (by rw [wk]; simp), hd]
  exact K _ (hE.put hN undef)
theorem q_nil {Q : Act → Prop} (h : Q a) : wpQuiet P ops C Q [] a := h
/-- What follows some operations is shown once: behind them J holds. -/
theorem s_cut (l1 : List Oper) {l2 : List Oper} (J : Act → World → Prop) (h : wpList P ops (fun e a w => match e with | .normal => J a w | e => Q e a w) l1 a w) (hk : ∀ a w, J a w → wpList P ops Q l2 a w) : wpList P ops Q (l1 ++ l2) a w := by
  induction l1 generalizing a w with
  | nil => exact hk _ _ h
  | cons o l ih =>
    rw [List.cons_append]
    unfold wpList at h ⊢
    split at h
    · rename_i hw
      rw [if_pos hw]
      rcases h with h | ⟨h1, h2⟩
      · left
        unfold Oper.wp at *
        generalize (execOp a.eval o).run P w = r at *
        cases r with
        | ok n w' =>
          cases n <;> simp only [Oper.upon] at h ⊢
          case value u => exact ih h
          case skip => exact ih h
          case defer => exact ih h
          case enter =>
            refine Calls.mono h fun e w'' he => ?_
            cases e with
            | returned v => exact ih he
            | panicked c => exact he
            | outgrown => obtain ⟨x, y, q⟩ := he; exact ⟨x, y, q⟩
          case row => exact Rows.mono h fun v w'' he => ih he
        | halt x w' => cases x <;> simp only [Oper.upon] at h ⊢ <;> exact h
      · right
        obtain ⟨x, y, q⟩ := h2
        exact ⟨h1, x, y, q⟩
    · rename_i hw
      rw [if_neg hw]
      exact ih h
theorem q_cut {Q : Act → Prop} (l1 : List Oper) {l2 : List Oper} (J : Act → Prop) (h : wpQuiet P ops C J l1 a) (hk : ∀ a, J a → wpQuiet P ops C Q l2 a) : wpQuiet P ops C Q (l1 ++ l2) a := by
  induction l1 generalizing a with
  | nil => exact hk _ h
  | cons o l ih =>
    rw [List.cons_append]
    unfold wpQuiet at h ⊢
    split at h
    · rename_i hw
      rw [if_pos hw]
      obtain ⟨v, h1, h2⟩ := h
      exact ⟨v, h1, ih h2⟩
    · rename_i hw
      rw [if_neg hw]
      exact ih h
/-- A region that draws its order, all of whose operations are quiet. -/
theorem k_quiet {cs : List Code} {id : Nat} {l : List Oper} {Z : World} {ρ : PH} {L : List Atom} (hm : P.follows .mixedOrders = true) (hB : Region.lexB .any l.toArray = true) (hC : Hp Z ρ L w)
    (h : wpQuiet P l.toArray (Hp Z ρ L) (fun a => ∀ w, Hp Z ρ L w → wpK P Q cs a w) l a) : wpK P Q (.region id l.toArray true :: cs) a w :=
  wp_region_quiet (C := Hp Z ρ L) hm hB hC.drew (by
    have e : (fun a => ∀ w, Hp Z ρ L w → wpK P Q cs a w) = (fun a' => ∀ w', Hp Z ρ L w' → Exit.then (wpK P Q cs) Q .normal a' w') := rfl
    rw [← e]; simpa using h)

/-! ### What an operation comes to -/
theorem ex_move {x : Operand} (ho : o.op = .move x) (hE : Env N E a) {v : Value} (hx : evo E x = some v) : Ex P C a o v := fun w _ => by simp [execOp, ho, hE.eval hx]
theorem ex_asn {x : Operand} (ho : o.op = .assign x) (hE : Env N E a) {v : Value} (hx : evo E x = some v) : Ex P C a o v := fun w _ => by simp [execOp, ho, hE.eval hx]
theorem ex_pick1 {c x y : Operand} (ho : o.op = .pick c x y) (hE : Env N E a) {b : Bool} (hc : evo E c = some (.bool b)) (hb : b = true) {v : Value} (hx : evo E x = some v) : Ex P C a o v := fun w _ => by
  subst hb; simp [execOp, ho, hE.eval hx, hE.eval hc, asBool]
theorem ex_pick0 {c x y : Operand} (ho : o.op = .pick c x y) (hE : Env N E a) {b : Bool} (hc : evo E c = some (.bool b)) (hb : b = false) {v : Value} (hx : evo E y = some v) : Ex P C a o v := fun w _ => by
  subst hb; simp [execOp, ho, hE.eval hx, hE.eval hc, asBool]
theorem ex_not {t : TypeId} {x : Operand} (ho : o.op = .unOp .not t x) (hE : Env N E a) {b : Bool} (hx : evo E x = some (.bool b)) : Ex P C a o (.bool (!b)) := fun w _ => by simp [execOp, ho, hE.eval hx, Op.unary]
theorem ex_neg {t : TypeId} {x : Operand} (ho : o.op = .unOp .neg t x) (hE : Env N E a) {k : IntKind} {m r : Int} (hx : evo E x = some (.int k m)) (hr : k.wrap (0 - m) = r) : Ex P C a o (.int k r) := fun w _ => by simp [execOp, ho, hE.eval hx, Op.unary, Op.intArith, ← hr]
theorem ex_bin {op : BinOp} {t t' : TypeId} {x y : Operand} (ho : o.op = .binOp op t x y t') (hE : Env N E a) {p q v : Value} (hx : evo E x = some p) (hy : evo E y = some q) (h : ∀ w, C w → (do eqGuard op t x y p q; binOp op t p q : Sem Value).run P w = .ok v w) : Ex P C a o v := fun w hw => by
  have := h w hw; simp only [execOp, ho, hE.eval hx, hE.eval hy, Sem.run_bind, this]; rfl
theorem ex_lss {t t' : TypeId} {x y : Operand} (ho : o.op = .binOp .lss t x y t') (hE : Env N E a) {k : IntKind} {m n : Int} (hx : evo E x = some (.int k m)) (hy : evo E y = some (.int k n)) : Ex P C a o (.bool (decide (m < n))) := ex_bin ho hE hx hy fun w _ => by simp [eqGuard, binOp, Op.intCmp]
theorem ex_leq {t t' : TypeId} {x y : Operand} (ho : o.op = .binOp .leq t x y t') (hE : Env N E a) {k : IntKind} {m n : Int} (hx : evo E x = some (.int k m)) (hy : evo E y = some (.int k n)) : Ex P C a o (.bool (decide (m ≤ n))) := ex_bin ho hE hx hy fun w _ => by simp [eqGuard, binOp, Op.intCmp]
theorem ex_gtr {t t' : TypeId} {x y : Operand} (ho : o.op = .binOp .gtr t x y t') (hE : Env N E a) {k : IntKind} {m n : Int} (hx : evo E x = some (.int k m)) (hy : evo E y = some (.int k n)) : Ex P C a o (.bool (decide (n < m))) := ex_bin ho hE hx hy fun w _ => by simp [eqGuard, binOp, Op.intCmp]
theorem ex_geq {t t' : TypeId} {x y : Operand} (ho : o.op = .binOp .geq t x y t') (hE : Env N E a) {k : IntKind} {m n : Int} (hx : evo E x = some (.int k m)) (hy : evo E y = some (.int k n)) : Ex P C a o (.bool (decide (n ≤ m))) := ex_bin ho hE hx hy fun w _ => by simp [eqGuard, binOp, Op.intCmp]
theorem ex_eql {t t' : TypeId} {x y : Operand} (ho : o.op = .binOp .eql t x y t') (hE : Env N E a) {k : IntKind} {m n : Int} (hx : evo E x = some (.int k m)) (hy : evo E y = some (.int k n)) : Ex P C a o (.bool (decide (m = n))) := ex_bin ho hE hx hy fun w _ => by simp [eqGuard, binOp, Op.intCmp]; by_cases h : m = n <;> simp [h]
theorem ex_neq {t t' : TypeId} {x y : Operand} (ho : o.op = .binOp .neq t x y t') (hE : Env N E a) {k : IntKind} {m n : Int} (hx : evo E x = some (.int k m)) (hy : evo E y = some (.int k n)) : Ex P C a o (.bool (!decide (m = n))) := ex_bin ho hE hx hy fun w _ => by simp [eqGuard, binOp, Op.intCmp]; by_cases h : m = n <;> simp [h]
theorem ex_add {t t' : TypeId} {x y : Operand} (ho : o.op = .binOp .add t x y t') (hE : Env N E a) {k : IntKind} {m n r : Int} (hx : evo E x = some (.int k m)) (hy : evo E y = some (.int k n)) (hr : k.wrap (m + n) = r) : Ex P C a o (.int k r) := ex_bin ho hE hx hy fun w _ => by simp [eqGuard, binOp, Op.intArith, ← hr]
theorem ex_sub {t t' : TypeId} {x y : Operand} (ho : o.op = .binOp .sub t x y t') (hE : Env N E a) {k : IntKind} {m n r : Int} (hx : evo E x = some (.int k m)) (hy : evo E y = some (.int k n)) (hr : k.wrap (m - n) = r) : Ex P C a o (.int k r) := ex_bin ho hE hx hy fun w _ => by simp [eqGuard, binOp, Op.intArith, ← hr]
theorem ex_mul {t t' : TypeId} {x y : Operand} (ho : o.op = .binOp .mul t x y t') (hE : Env N E a) {k : IntKind} {m n r : Int} (hx : evo E x = some (.int k m)) (hy : evo E y = some (.int k n)) (hr : k.wrap (m * n) = r) : Ex P C a o (.int k r) := ex_bin ho hE hx hy fun w _ => by simp [eqGuard, binOp, Op.intArith, ← hr]
theorem ex_quo {t t' : TypeId} {x y : Operand} (ho : o.op = .binOp .quo t x y t') (hE : Env N E a) {k : IntKind} {m n r : Int} (hx : evo E x = some (.int k m)) (hy : evo E y = some (.int k n)) (h0 : n ≠ 0) (hr : k.wrap (m.tdiv n) = r) : Ex P C a o (.int k r) := ex_bin ho hE hx hy fun w _ => by simp [eqGuard, binOp, Op.intDiv, h0, ← hr]
theorem ex_rem {t t' : TypeId} {x y : Operand} (ho : o.op = .binOp .rem t x y t') (hE : Env N E a) {k : IntKind} {m n r : Int} (hx : evo E x = some (.int k m)) (hy : evo E y = some (.int k n)) (h0 : n ≠ 0) (hr : m.tmod n = r) : Ex P C a o (.int k r) := ex_bin ho hE hx hy fun w _ => by simp [eqGuard, binOp, Op.intDiv, h0, ← hr]
theorem ex_load {t : TypeId} {x : Operand} (ho : o.op = .load t x) (hE : Env N E a) {p v : Value} (hx : evo E x = some p) (h : ∀ w, C w → (Instr.loadAt t p).run P w = .ok v w) : Ex P C a o v := fun w hw => by simp [execOp, ho, hE.eval hx, h w hw]
theorem ex_field {t : TypeId} {x : Operand} {f : Nat} (ho : o.op = .fieldAddr t x f) (hE : Env N E a) {p v : Value} (hx : evo E x = some p) (h : ∀ w, (Instr.fieldAt t p f).run P w = .ok v w) : Ex P C a o v := fun w _ => by simp [execOp, ho, hE.eval hx, h w]
theorem ex_fieldV {t : TypeId} {x : Operand} {f : Nat} (ho : o.op = .field t x f) (hE : Env N E a) {p v : Value} (hx : evo E x = some p) (h : ∀ w, (Instr.field t p f).run P w = .ok v w) : Ex P C a o v := fun w _ => by simp [execOp, ho, hE.eval hx, h w]
theorem ex_index {t : TypeId} {x i : Operand} (ho : o.op = .indexAddr t x i) (hE : Env N E a) {p q v : Value} (hx : evo E x = some p) (hi : evo E i = some q) (h : ∀ w, (Instr.indexAt t p q).run P w = .ok v w) : Ex P C a o v := fun w _ => by simp [execOp, ho, hE.eval hx, hE.eval hi, h w]
theorem ex_elem {t : TypeId} {x i : Operand} (ho : o.op = .index t x i) (hE : Env N E a) {p q v : Value} (hx : evo E x = some p) (hi : evo E i = some q) (h : ∀ w, (Instr.index t p q).run P w = .ok v w) : Ex P C a o v := fun w _ => by simp [execOp, ho, hE.eval hx, hE.eval hi, h w]
theorem ex_conv {s t : TypeId} {x : Operand} (ho : o.op = .convert s t x) (hE : Env N E a) {p v : Value} (hx : evo E x = some p) (h : ∀ w, C w → (convert s t p).run P w = .ok v w) : Ex P C a o v := fun w hw => by simp [execOp, ho, hE.eval hx, h w hw]
theorem ex_extract {x : Operand} {i : Nat} (ho : o.op = .extract x i) (hE : Env N E a) {vs : Array Value} {v : Value} (hx : evo E x = some (.tuple vs)) (h : vs[i]? = some v) : Ex P C a o v := fun w _ => by simp [execOp, ho, hE.eval hx, Instr.extract, h]
theorem ex_build {t : TypeId} {parts : Array (Nat × Operand)} (ho : o.op = .build t parts) {v : Value} (h : ∀ w, (Instr.build t (parts.map fun p => (p.1, a.eval p.2))).run P w = .ok v w) : Ex P C a o v := fun w _ => by simp [execOp, ho, h w]
theorem ex_slice {t : TypeId} {x : Operand} {lo hi mx : Option Operand} (ho : o.op = .slice t x lo hi mx) (hE : Env N E a) {p v : Value} (hx : evo E x = some p) (h : ∀ w, (Instr.sliceAt t p (lo.map a.eval) (hi.map a.eval) (mx.map a.eval)).run P w = .ok v w) : Ex P C a o v := fun w _ => by simp [execOp, ho, hE.eval hx, h w]
theorem ex_b1 {b : Builtin} {t : Array TypeId} {x : Operand} (ho : o.op = .call { callee := .builtin b, args := #[x], argTypes := t }) (hE : Env N E a) {p v : Value} (hx : evo E x = some p) (h : ∀ w c, C w → (builtin b t o.type c #[p]).run P w = .ok (.value v) w) : Ex P C a o v := fun w hw => by
  have := h w (#[x].map fun | .const _ => true | _ => false) hw
  simp only [execOp, ho, resolve, invoke, Sem.run_bind, Sem.run_pure, Result.andThen_ok, List.map_toArray, List.map_cons, List.map_nil, hE.eval hx] at this ⊢
  exact this
theorem ex_b2 {b : Builtin} {t : Array TypeId} {x y : Operand} (ho : o.op = .call { callee := .builtin b, args := #[x, y], argTypes := t }) (hE : Env N E a) {p q v : Value} (hx : evo E x = some p) (hy : evo E y = some q) (h : ∀ w c, C w → (builtin b t o.type c #[p, q]).run P w = .ok (.value v) w) : Ex P C a o v := fun w hw => by
  have := h w (#[x, y].map fun | .const _ => true | _ => false) hw
  simp only [execOp, ho, resolve, invoke, Sem.run_bind, Sem.run_pure, Result.andThen_ok, List.map_toArray, List.map_cons, List.map_nil, hE.eval hx, hE.eval hy] at this ⊢
  exact this
theorem ex_len {t : TypeId} {x : Operand} (ho : o.op = .call { callee := .builtin .len, args := #[x], argTypes := #[t] }) (hE : Env N E a) {p v : Value} (hx : evo E x = some p) (h : ∀ w ty, (Builtin.len_ #[t] ty #[p]).run P w = .ok v w) : Ex P C a o v := ex_b1 ho hE hx fun w c _ => by simp [builtin, h w]
theorem ex_min {t : Array TypeId} {x y : Operand} (ho : o.op = .call { callee := .builtin .min, args := #[x, y], argTypes := t }) (hE : Env N E a) {k : IntKind} {m n : Int} (hx : evo E x = some (.int k m)) (hy : evo E y = some (.int k n)) : Ex P C a o (.int k (min m n)) := ex_b2 ho hE hx hy fun w c _ => by
  simp [builtin, Builtin.min_, Builtin.min2]; split <;> omega
theorem ex_max {t : Array TypeId} {x y : Operand} (ho : o.op = .call { callee := .builtin .max, args := #[x, y], argTypes := t }) (hE : Env N E a) {k : IntKind} {m n : Int} (hx : evo E x = some (.int k m)) (hy : evo E y = some (.int k n)) : Ex P C a o (.int k (max m n)) := ex_b2 ho hE hx hy fun w c _ => by
  simp [builtin, Builtin.max_, Builtin.max2]; split <;> omega
end

/-! ### Cells -/
def cellAt (ρ : PH) (b i : Nat) : Option Value := match ρ b with | some (.cells c _ _) => c[i]? | _ => none
theorem cellAt_mono {ρ ρ' : PH} (l : ρ.le ρ') {b i : Nat} {v : Value} (h : cellAt ρ b i = some v) : cellAt ρ' b i = some v := by
  unfold cellAt at *
  cases hb : ρ b with
  | none => rw [hb] at h; cases h
  | some o => rw [hb] at h; rw [l b o hb]; exact h
theorem cell_of {ρ : PH} {w : World} (l : ρ.le (hp w)) {b i : Nat} {v : Value} (h : cellAt ρ b i = some v) : w.cell? ⟨b, i, none⟩ = some v := by
  have := cellAt_mono l h
  unfold cellAt hp at this
  unfold World.cell?
  simp only [Option.isSome_none, Bool.false_eq_true, if_false]
  exact this
/-- Cells in a row. -/
def AtP (ρ : PH) (b o : Nat) (cs : List Value) : Prop := ∀ (j : Nat) (u : Value), cs[j]? = some u → cellAt ρ b (o + j) = some u
theorem AtP.mono {ρ ρ' : PH} (l : ρ.le ρ') {b o : Nat} {cs : List Value} (h : AtP ρ b o cs) : AtP ρ' b o cs := fun j u e => cellAt_mono l (h j u e)
theorem AtP.c {ρ : PH} {b o : Nat} {cs : List Value} (h : AtP ρ b o cs) {Z : World} {L : List Atom} (j : Nat) {u : Value} (e : cs[j]? = some u) : ∀ w, Hp Z ρ L w → w.cell? ⟨b, o + j, none⟩ = some u := fun _ hw => cell_of hw.le (h j u e)
/-- A cell of an owned block. -/
theorem Hp.c {Z : World} {ρ : PH} {L : List Atom} {b : Nat} {cs : Array Value} {T : TypeId} {fz : Nat × Nat} (i : Nat) (e : L[i]? = some (Pt b (.cells cs T fz))) (j : Nat) {u : Value} (hu : cs[j]? = some u) : ∀ w, Hp Z ρ L w → w.cell? ⟨b, j, none⟩ = some u := fun w hw => by
  have := hw.look i e
  simp [World.cell?, this, hu]

/-! ### Steps that turn the world -/
section
variable {P : Program} {ops : Array Oper} {Q : Exit → Act → World → Prop} {rest : List Oper} {o : Oper} {a : Act} {w : World} {N : Nat} {E : Ent} {d : Nat} {Z : World} {ρ : PH} {L : List Atom}
theorem s_run {v : Value} {w' : World} (wk : Region.wanted o (yielded ops a.tmps) = true) (hd : o.dst = some d) (hN : Nat.blt d N = true) (hE : Env N E a) (hx : (execOp a.eval o).run P w = .ok (.value v) w') (K : ∀ a, Env N ((d, v) :: E) a → wpList P ops Q rest a w') : wpList P ops Q (o :: rest) a w := by
  unfold wpList
  rw [if_pos wk]
  left
  unfold Oper.wp
  rw [hx]
  simp only [Oper.upon]
  rw [hd]
  exact K _ (hE.put hN v)
theorem run_new (T : TypeId) (v : Value) : (newVar T v).run P w = .ok ⟨w.heap.size, 0, none⟩ (w.alloc (.cells v.cells T)) := by
  simp [newVar, go_sem]
theorem s_box (wk : Region.wanted o (yielded ops a.tmps) = true) (hd : o.dst = some d) (hN : Nat.blt d N = true) (hE : Env N E a) (hp : Hp Z ρ L w) {T : TypeId} {x : Operand} (ho : o.op = .box T x) {v : Value} (hx : evo E x = some v)
    (K : ∀ a w b, Env N ((d, .pointer (some ⟨b, 0, none⟩)) :: E) a → Hp Z ρ (Pt b (.cells v.cells T) :: L) w → wpList P ops Q rest a w) : wpList P ops Q (o :: rest) a w :=
  s_run wk hd hN hE (v := .pointer (some ⟨w.heap.size, 0, none⟩)) (w' := w.alloc (.cells v.cells T)) (by simp [execOp, ho, hE.eval hx, Instr.box, run_new]) fun a' hE' => K a' _ _ hE' (hp.alloc _)
/-- Operands and what they hold. -/
def evA (E : Ent) : List Operand → List Value → Prop
  | [], [] => True
  | x :: xs, v :: vs => evo E x = some v ∧ evA E xs vs
  | _, _ => False
theorem evA_map (hE : Env N E a) : ∀ {xs : List Operand} {vs : List Value}, evA E xs vs → xs.map a.eval = vs
  | [], [], _ => rfl
  | x :: xs, v :: vs, h => by rw [List.map_cons, hE.eval h.1, evA_map hE h.2]
  | [], _ :: _, h => h.elim
  | _ :: _, [], h => h.elim
/-- A call, by a contract. -/
theorem s_call (wk : Region.wanted o (yielded ops a.tmps) = true) (hd : o.dst = some d) (hN : Nat.blt d N = true) (hE : Env N E a) {f : FuncId} {xs : List Operand} {ts : Array TypeId} (ho : o.op = .call { callee := .value (.func f), args := xs.toArray, argTypes := ts }) (vs : List Value) (hx : evA E xs vs)
    (he : ∀ args w, (callFunc f args).run P w = .ok (.enter f args) w) {R : Ending → World → Prop} (hc : Calls P f vs.toArray w R) (hr : ∀ e w, R e w → ∃ v, e = .returned v)
    (K : ∀ v a w, R (.returned v) w → Env N ((d, v) :: E) a → wpList P ops Q rest a w) : wpList P ops Q (o :: rest) a w := by
  have hxs : xs.toArray.map a.eval = vs.toArray := by rw [List.map_toArray, evA_map hE hx]
  have hex : (execOp a.eval o).run P w = .ok (.enter f vs.toArray) w := by
    have hf : a.eval (.func f) = .func (.func f) #[] #[] := rfl
    simp only [execOp, ho, resolve, hf, hxs, Deferred.ofValue, invoke, Sem.run_bind, Sem.run_pure, Result.andThen_ok]; simp [he]
  unfold wpList
  rw [if_pos wk]
  left
  unfold Oper.wp
  rw [hex]
  refine Calls.mono hc fun e w' hR => ?_
  obtain ⟨v, rfl⟩ := hr e w' hR
  rw [hd]
  exact K v _ w' hR (hE.put hN v)
/-- .. whose value is told, and that leaves all as it was. -/
theorem q_call {Q : Act → Prop} (wk : Region.wanted o (yielded ops a.tmps) = true) (hd : o.dst = some d) (hN : Nat.blt d N = true) (hE : Env N E a) {f : FuncId} {xs : List Operand} {ts : Array TypeId} (ho : o.op = .call { callee := .value (.func f), args := xs.toArray, argTypes := ts }) (vs : List Value) (hx : evA E xs vs)
    (he : ∀ args w, (callFunc f args).run P w = .ok (.enter f args) w) {v : Value} (hc : ∀ w, Hp Z ρ L w → Calls P f vs.toArray w fun e w' => e = .returned v ∧ Hp Z ρ L w')
    (K : ∀ a, Env N ((d, v) :: E) a → wpQuiet P ops (Hp Z ρ L) Q rest a) : wpQuiet P ops (Hp Z ρ L) Q (o :: rest) a := by
  have hxs : xs.toArray.map a.eval = vs.toArray := by rw [List.map_toArray, evA_map hE hx]
  unfold wpQuiet
  rw [if_pos wk]
  refine ⟨v, fun w hw => ?_, by rw [hd]; exact K _ (hE.put hN v)⟩
  unfold Oper.quietAt
  have hex : (execOp a.eval o).run P w = .ok (.enter f vs.toArray) w := by
    have hf : a.eval (.func f) = .func (.func f) #[] #[] := rfl
    simp only [execOp, ho, resolve, hf, hxs, Deferred.ofValue, invoke, Sem.run_bind, Sem.run_pure, Result.andThen_ok]; simp [he]
  rw [hex]
  exact ⟨rfl, hc w hw⟩
end

/-! ### Entering and leaving -/
theorem enters {P : Program} {f : FuncId} {fn : Func} {c : Code} (hf : P.funcs[f]? = some fn) (hn : (fn.name == "runtime.NumGoroutine") = false) (hb : fn.body = some c) (args : Array Value) (w : World) : (callFunc f args).run P w = .ok (.enter f args) w := by
  have h1 : ¬ fn.name = "runtime.NumGoroutine" := by simpa using hn
  simp [callFunc, program, Sem.run, bind, Sem.bind, hf, h1, hb, pure]
theorem enter {P : Program} {f : FuncId} {fn : Func} {c : Code} {args : Array Value} {w : World} {R : Ending → World → Prop} {N : Nat} (hf : P.funcs[f]? = some fn) (hb : fn.body = some c) (hN : fn.ntmps = N) (E : Ent) (h1 : Nat.ble args.size N = true) (hE : ∀ p ∈ E, args[p.1]? = some p.2)
    (h : ∀ a, Env N E a → wpK P (bodyPost P fn R) [c] a w) : Calls P f args w R :=
  calls_of_wp hf hb (by rw [hN]; exact k_one (h _ (Env.start N args E (by simpa using h1) hE)))
def argsIn (args : Array Value) : Ent → Prop
  | [] => True
  | p :: r => args[p.1]? = some p.2 ∧ argsIn args r
theorem argsIn_mem {args : Array Value} : ∀ {E : Ent}, argsIn args E → ∀ p ∈ E, args[p.1]? = some p.2
  | [], _, p, h => by simp at h
  | q :: r, ⟨h1, h2⟩, p, h => by
    rcases List.mem_cons.1 h with rfl | h
    · exact h1
    · exact argsIn_mem h2 p h
section
variable {P : Program} {fn : Func} {R : Ending → World → Prop} {a : Act} {w : World} {N : Nat} {E : Ent}
theorem ret1 (hE : Env N E a) {t : Nat} (hr : fn.results = #[.tmp t]) {v : Value} (hv : lk E t = some v) (h : R (.returned v) w) : bodyPost P fn R .ret a w := by
  refine ⟨hE.defers, v, ?_, h⟩
  have := hE.val t v hv
  rw [results_tmp hr]
  simp [Array.getD_eq_getD_getElem?, this]
theorem ret2 (hE : Env N E a) {t u : Nat} (hr : fn.results = #[.tmp t, .tmp u]) {v x : Value} (hv : lk E t = some v) (hx : lk E u = some x) (h : R (.returned (.tuple #[v, x])) w) : bodyPost P fn R .ret a w := by
  refine ⟨hE.defers, _, ?_, h⟩
  have h1 := hE.val t v hv
  have h2 := hE.val u x hx
  simp [results, hr, Array.getD_eq_getD_getElem?, h1, h2]
theorem ret3 (hE : Env N E a) {t u s : Nat} (hr : fn.results = #[.tmp t, .tmp u, .tmp s]) {v x y : Value} (hv : lk E t = some v) (hx : lk E u = some x) (hy : lk E s = some y) (h : R (.returned (.tuple #[v, x, y])) w) : bodyPost P fn R .ret a w := by
  refine ⟨hE.defers, _, ?_, h⟩
  have h1 := hE.val t v hv
  have h2 := hE.val u x hx
  have h3 := hE.val s y hy
  simp [results, hr, Array.getD_eq_getD_getElem?, h1, h2, h3]
end
end Go.Proofs.Ytmfepkadggigpaa
