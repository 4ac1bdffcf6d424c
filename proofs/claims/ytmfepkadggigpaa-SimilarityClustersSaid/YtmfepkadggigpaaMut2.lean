/-
  More steps: make, copy, parts of slices, calls of function values, new functions. Plain theorems over any program.
-/
import Derived.Test.YtmfepkadggigpaaMut
import Derived.Lib.SliceRun
set_option linter.unusedVariables false
set_option linter.unusedSimpArgs false
namespace Go.Proofs.Ytmfepkadggigpaa
open Go.RowKit
section
variable {P : Program} {ops : Array Oper} {Q : Exit → Act → World → Prop} {rest : List Oper} {o : Oper} {a : Act} {w : World} {N : Nat} {E : Ent} {d : Nat} {Z : World} {ρ : PH} {L : List Atom}

/-! ### make -/
/-- How a slice is made: so many elements, room for so many. -/
def mkc {α : Type} (n c : Int) (z : α) : Option (List α) := if 0 ≤ n ∧ n ≤ c ∧ c ≤ 4294967296 then some (List.replicate n.toNat z) else none
theorem mkc_some {α : Type} {n c : Int} {z : α} {r : List α} (h : mkc n c z = some r) : 0 ≤ n ∧ n ≤ c ∧ c ≤ 4294967296 ∧ r = List.replicate n.toNat z := by
  unfold mkc at h
  split at h
  · rename_i hh; exact ⟨hh.1, hh.2.1, hh.2.2, (Option.some.inj h).symm⟩
  · cases h
theorem flat_rep {α : Type} [Enc α] (z : α) (n : Nat) (j : Nat) (h : j < n * Enc.sz α) : (flat (List.replicate n z))[j]? = (Enc.enc z)[j % Enc.sz α]? := by
  have hz : 0 < Enc.sz α := Enc.pos
  have hi' : j / Enc.sz α < n := Nat.div_lt_of_lt_mul (by rw [Nat.mul_comm]; exact h)
  have he : j = j / Enc.sz α * Enc.sz α + j % Enc.sz α := by rw [Nat.mul_comm]; exact (Nat.div_add_mod j _).symm
  conv => lhs; rw [he]
  exact flat_get _ _ _ z (by simp [hi']) (Nat.mod_lt _ hz)
theorem made_flat {α : Type} [Enc α] (z : α) (n c : Nat) (h : n ≤ c) : (madeCells (Enc.enc z).toArray (c * Enc.sz α)).toList.take (n * Enc.sz α) = flat (List.replicate n z) := by
  have hz : 0 < Enc.sz α := Enc.pos
  have hle : n * Enc.sz α ≤ c * Enc.sz α := Nat.mul_le_mul_right _ h
  apply List.ext_getElem?
  intro j
  rw [List.getElem?_take]
  split
  · rename_i hj
    rw [flat_rep z n j hj]
    have hm : j % Enc.sz α < (Enc.enc z).length := by rw [Enc.len]; exact Nat.mod_lt _ hz
    have hjc : j < c * Enc.sz α := by omega
    have e : (Enc.enc z).toArray.size = Enc.sz α := by rw [List.size_toArray, Enc.len]
    simp only [madeCells, Array.toList_map, Array.toList_range, List.getElem?_map, e]
    rw [List.getElem?_range hjc]
    simp only [Option.map_some]
    rw [List.getElem?_eq_getElem hm]
    simp [hm]
  · rename_i hj
    rw [List.getElem?_eq_none (by rw [flat_len, List.length_replicate]; omega)]
theorem s_make {α : Type} [Enc α] (wk : Region.wanted o (yielded ops a.tmps) = true) (hd : o.dst = some d) (hN : Nat.blt d N = true) (hE : Env N E a) (hp : Hp Z ρ L w) {T : TypeId} {x y : Operand} (ho : o.op = .makeSlice T x y) {El : TypeId} {bytes : Nat} (hu : P.underlying T = some (.slice El)) (z : α)
    (hi : (P.info? El).map (fun i => (i.zero.map Value.cells, i.size, i.bytes)) = some (some (Enc.enc z).toArray, Enc.sz α, bytes)) (hby : Nat.ble bytes 16384 = true) {k k' : IntKind} {n c : Int} (hx : evo E x = some (.int k n)) (hy : evo E y = some (.int k' c)) {r : List α} (hr : mkc n c z = some r)
    (K : ∀ v a w, Env N ((d, v) :: E) a → Hp Z ρ (OwnSl El v r :: L) w → wpList P ops Q rest a w) : wpList P ops Q (o :: rest) a w := by
  obtain ⟨h0, h1, h2, rfl⟩ := mkc_some hr
  cases hI : P.info? El with
  | none => rw [hI] at hi; cases hi
  | some i =>
    rw [hI] at hi
    simp only [Option.map_some, Option.some.injEq, Prod.mk.injEq] at hi
    obtain ⟨i1, i2, i3⟩ := hi
    cases hz : i.zero with
    | none => rw [hz] at i1; cases i1
    | some zv =>
      rw [hz] at i1
      simp only [Option.map_some, Option.some.injEq] at i1
      have hby' : bytes ≤ 16384 := by simpa using hby
      have hb2 : (i.bytes : Int) * c ≤ 16384 * 4294967296 := by
        rw [i3]
        exact Int.mul_le_mul (by omega) h2 (by omega) (by omega)
      have hrun := run_make (P := P) w T El i zv hu hI hz k k' n c h0 h1 (by omega) (by omega)
      refine s_run wk hd hN hE (v := .slice (some ⟨w.heap.size, 0, none⟩) n.toNat c.toNat) (w' := w.alloc (.cells (madeCells zv.cells (c.toNat * i.size)) El)) ?_ fun a' hE' => K _ a' _ hE' ?_
      · simp [execOp, ho, hE.eval hx, hE.eval hy, hrun]
      · have := (hp.alloc (.cells (madeCells zv.cells (c.toNat * i.size)) El)).shut (n := n.toNat) (cap := c.toNat) (sz := Enc.sz α) (xs := flat (List.replicate n.toNat z)) (by omega) (by unfold maxLen; omega) (by rw [size_madeCells, i2]) (by rw [i1, i2]; exact made_flat z _ _ (by omega))
        unfold OwnSl
        rw [List.length_replicate]
        exact this

/-! ### copy -/
def cpy {α : Type} (l l2 : List α) : List α := l2.take (min l.length l2.length) ++ l.drop (min l.length l2.length)
theorem cpy_len {α : Type} (l l2 : List α) : (cpy l l2).length = l.length := by simp [cpy]; omega
theorem run_copyP (w : World) (dT sT ty elem : TypeId) (g o dLen dCap : Nat) (a : Addr) (sLen sCap k : Nat) (cur : Array Value) (t : TypeId) (cs : List Value)
    (hu : P.underlying dT = some (.slice elem)) (hs : (P.info? elem).map (·.size) = some k)
    (hg : w.heap[g]? = some (.cells cur t (0, 0))) (hn : cs.length = Nat.min sLen dLen * k)
    (hsrc : ∀ j v, cs[j]? = some v → w.cell? (a.add j) = some v) (hfit : o + cs.length ≤ cur.size) (h1 : ∀ v ∈ cs, v.oneCell' = true) :
    (Builtin.copy_ #[dT, sT] ty #[.slice (some ⟨g, o, none⟩) dLen dCap, .slice (some a) sLen sCap]).run P w =
      .ok (goInt (Nat.min sLen dLen)) (w.setRow g (cur.toList.take o ++ cs ++ cur.toList.drop (o + cs.length)).toArray) := by
  have hl := run_loadCells_list (P := P) w a cs hsrc
  have hst := run_storeCells_at P g o t cs 0 cur w hg (by simpa using hfit) h1
  cases hq : P.info? elem with
  | none => simp [hq] at hs
  | some i =>
    have hi : i.size = k := by simpa [hq] using hs
    have hn' : cs.length = (sLen.min dLen) * k := hn
    simp only [Builtin.copy_, Builtin.lenOf, Builtin.firstCells]
    simp [run_underlying hu, sizeOf, typeInfo, hq, hi, ← hn', hl, hst]
theorem RoSl.row {α : Type} [Enc α] {v : Value} {l : List α} (h : RoSl ρ v l) (hl : 0 < l.length) : ∃ b off c, v = .slice (some ⟨b, off, none⟩) l.length c ∧ AtP ρ b off (flat l) := by
  obtain ⟨A, c, rfl, _, hh⟩ := h
  obtain ⟨b, off, cs, e1, _, _⟩ := hh 0 l[0] (List.getElem?_eq_getElem hl)
  subst e1
  refine ⟨b, off, c, rfl, fun j u hj => ?_⟩
  have hjl : j < l.length * Enc.sz α := by rw [← flat_len]; exact (List.getElem?_eq_some_iff.1 hj).1
  have hz : 0 < Enc.sz α := Enc.pos
  have hi' : j / Enc.sz α < l.length := Nat.div_lt_of_lt_mul (by rw [Nat.mul_comm]; exact hjl)
  have he : j = j / Enc.sz α * Enc.sz α + j % Enc.sz α := by rw [Nat.mul_comm]; exact (Nat.div_add_mod j _).symm
  have hm : j % Enc.sz α < Enc.sz α := Nat.mod_lt _ hz
  obtain ⟨b2, o2, cs2, e2, h4, h5⟩ := hh (j / Enc.sz α) l[j / Enc.sz α] (List.getElem?_eq_getElem hi')
  simp only [Option.some.injEq, Addr.mk.injEq, and_true] at e2
  obtain ⟨rfl, rfl⟩ := e2
  have h4' : cs2 = Enc.enc l[j / Enc.sz α] := h4
  subst h4'
  rw [he, flat_get l _ _ _ (List.getElem?_eq_getElem hi') hm] at hj
  have := h5 _ u hj
  have e3 : off + j / Enc.sz α * Rep.sz α + j % Enc.sz α = off + j := by
    show off + j / Enc.sz α * Enc.sz α + j % Enc.sz α = off + j
    omega
  rw [e3] at this
  exact this
theorem flat_take {α : Type} [Enc α] (l : List α) (m : Nat) : flat (l.take m) = (flat l).take (m * Enc.sz α) := by
  induction l generalizing m with
  | nil => simp [flat]
  | cons b l ih =>
    cases m with
    | zero => simp [flat]
    | succ m =>
      have e : (Enc.enc b).take ((m + 1) * Enc.sz α) = Enc.enc b := List.take_of_length_le (by rw [Enc.len, Nat.add_mul]; omega)
      rw [List.take_succ_cons, flat_cons, flat_cons, ih, List.take_append, e, Enc.len]
      congr 2
      rw [Nat.add_mul]; omega
theorem flat_drop {α : Type} [Enc α] (l : List α) (m : Nat) : flat (l.drop m) = (flat l).drop (m * Enc.sz α) := by
  induction l generalizing m with
  | nil => simp [flat]
  | cons b l ih =>
    cases m with
    | zero => simp [flat]
    | succ m =>
      have e : (Enc.enc b).drop ((m + 1) * Enc.sz α) = [] := List.drop_of_length_le (by rw [Enc.len, Nat.add_mul]; omega)
      rw [List.drop_succ_cons, flat_cons, ih, List.drop_append, e, Enc.len, List.nil_append]
      congr 1
      rw [Nat.add_mul]; omega
theorem set_same {A : Atom} {i : Nat} (h : L[i]? = some A) : L.set i A = L := by
  apply List.ext_getElem?
  intro j
  rw [List.getElem?_set]
  by_cases e : i = j
  · subst e
    have := (List.getElem?_eq_some_iff.1 h).1
    rw [if_pos rfl, if_pos this, h]
  · simp [e]
/-- 'copy' of what is only read into an owned slice. -/
theorem s_copy {α : Type} [Enc α] (wk : Region.wanted o (yielded ops a.tmps) = true) (hd : o.dst = some d) (hN : Nat.blt d N = true) (hE : Env N E a) (hp : Hp Z ρ L w) {x y : Operand} {t t2 : TypeId} (ho : o.op = .call { callee := .builtin .copy, args := #[x, y], argTypes := #[t, t2] }) {El : TypeId} {bytes : Nat} (ht : SlTy P t El (Enc.sz α) bytes)
    {v : Value} (hx : evo E x = some v) (i : Nat) {l : List α} (hi : L[i]? = some (OwnSl El v l)) {v2 : Value} (hy : evo E y = some v2) {l2 : List α} (hs : RoSl ρ v2 l2)
    (K : ∀ a w, Env N ((d, .int .i64 (min l2.length l.length : Nat)) :: E) a → Hp Z ρ (L.set i (OwnSl El v (cpy l l2))) w → wpList P ops Q rest a w) : wpList P ops Q (o :: rest) a w := by
  obtain ⟨inf, z, hI, hz, hsz, hby, hzs⟩ := ht.inf
  have hlt := (set_get (A := OwnSl El v l) (_B := OwnSl El v l) hi).2
  have same : ∀ A c, v2 = .slice A l2.length c → min l.length l2.length = 0 → wpList P ops Q (o :: rest) a w := by
    rintro A c rfl hm
    have hm' : min l2.length l.length = 0 := by omega
    have hr : (cpy l l2) = l := by unfold cpy; rw [hm]; simp
    refine s_run wk hd hN hE (v := .int .i64 (min l2.length l.length : Nat)) (w' := w) ?_ fun a' hE' => K a' w hE' ?_
    · have hm2 : Nat.min l2.length l.length = 0 := hm'
      obtain ⟨hxl, hv⟩ := (hp.get i hi).row
      rcases hv with ⟨B, rfl, hn⟩ | ⟨g, off0, cap, cur, rfl, _⟩
      · have hm3 : Nat.min l2.length 0 = 0 := Nat.min_zero _
        rw [hm']
        cases A <;> cases B <;> simp [execOp, ho, resolve, invoke, builtin, hE.eval hx, hE.eval hy, Builtin.copy_, run_underlying ht.und, sizeOf, typeInfo, hI, Builtin.lenOf, Builtin.firstCells, hm2, hm3, hn, storeCells, loadCells, loadCellsFrom, goInt]
      · rw [hm']
        cases A <;> simp [execOp, ho, resolve, invoke, builtin, hE.eval hx, hE.eval hy, Builtin.copy_, run_underlying ht.und, sizeOf, typeInfo, hI, Builtin.lenOf, Builtin.firstCells, hm2, storeCells, loadCells, loadCellsFrom, goInt]
    · rw [hr]
      rw [set_same hi]; exact hp
  by_cases hm : min l.length l2.length = 0
  · obtain ⟨A, c, e⟩ := hs.shape
    exact same A c e hm
  · obtain ⟨b, off, c, rfl, hat⟩ := hs.row (by omega)
    obtain ⟨hxl, hv⟩ := (hp.get i hi).row
    rcases hv with ⟨B, rfl, hn⟩ | ⟨g, of0, cap, cur, rfl, hpt, h1, h2, h3, h4⟩
    · omega
    · have hg := hpt.look 0 rfl
      have hcs : ((flat l2).take (min l.length l2.length * Enc.sz α)).length = Nat.min l2.length l.length * Enc.sz α := by
        rw [List.length_take, flat_len, Nat.min_eq_left (Nat.mul_le_mul_right _ (by omega))]
        have : Nat.min l2.length l.length = min l.length l2.length := by
          show min l2.length l.length = _; omega
        rw [this]
      have hml : min l.length l2.length * Enc.sz α ≤ l.length * Enc.sz α := Nat.mul_le_mul_right _ (by omega)
      have hlc : l.length * Enc.sz α ≤ cap * Enc.sz α := Nat.mul_le_mul_right _ h1
      have e1 : Nat.min l2.length l.length = min l.length l2.length := by show min l2.length l.length = _; omega
      have hrun := run_copyP (P := P) w t t2 o.type El g of0 l.length cap ⟨b, off, none⟩ l2.length c (Enc.sz α) cur El ((flat l2).take (min l.length l2.length * Enc.sz α)) ht.und (by rw [hI, Option.map_some, hsz]) hg hcs
        (fun j u hj => by
          rw [Addr.add_lit]
          rw [List.getElem?_take] at hj
          split at hj
          · exact cell_of hp.le (hat j u hj)
          · cases hj) (by rw [hcs, h3, e1]; omega) (fun u hu => flat_one l2 u (List.mem_of_mem_take hu))
      generalize hnew : ((cur.toList.take of0 ++ (flat l2).take (min l.length l2.length * Enc.sz α) ++ cur.toList.drop (of0 + ((flat l2).take (min l.length l2.length * Enc.sz α)).length)).toArray : Array Value) = new at hrun
      refine s_run wk hd hN hE (v := .int .i64 (min l2.length l.length : Nat)) (w' := w.setRow g new) ?_ fun a' hE' => K a' _ hE' ?_
      · simp [execOp, ho, resolve, invoke, builtin, hE.eval hx, hE.eval hy, hrun, goInt]
      · refine Hp.put i hlt ?_
        unfold OwnSl
        rw [cpy_len]
        refine (Hp.set (w' := w.setRow g new) hpt rfl rfl rfl (setRow_heap w g cur _ El _ hg) (fun k hk => setRow_other w g k _ hk)).shutO h1 h2 ?_ ?_
        · rw [← hnew]
          simp only [List.size_toArray, List.length_append, List.length_take, List.length_drop, Array.length_toList, flat_len, h3]
          have := Nat.mul_le_mul_right (Enc.sz α) (Nat.min_le_right l.length l2.length)
          omega
        · rw [← hnew]
          have e3 : (cur.toList.take of0).length = of0 := by rw [List.length_take, Array.length_toList]; omega
          simp only [List.toList_toArray, hcs, e1]
          rw [List.append_assoc, List.drop_append_of_le_length (by omega), List.drop_of_length_le (by omega), List.nil_append]
          unfold cpy
          rw [flat_app, flat_take, flat_drop, List.take_append, List.take_of_length_le (by rw [hcs, e1]; exact hml), hcs, e1]
          congr 1
          rw [← h4, List.drop_take, List.drop_drop]

/-! ### Parts of slices -/
theorem run_sl {T El : TypeId} {sz bytes : Nat} (ht : SlTy P T El sz bytes) (A : Option Addr) (n c : Nat) (lo hi : Option (IntKind × Int)) {i j : Int} (hlo : i = match lo with | none => 0 | some p => p.2) (hhi : j = match hi with | none => n | some p => p.2) (h0 : 0 ≤ i) (h1 : i ≤ j) (h2 : j ≤ c) (w : World) :
    (Instr.sliceAt T (.slice A n c) (lo.map fun p => .int p.1 p.2) (hi.map fun p => .int p.1 p.2) none).run P w = .ok (.slice (if c = i.toNat then A else A.map (·.add (i.toNat * sz))) (j.toNat - i.toNat) (c - i.toNat)) w := by
  obtain ⟨inf, z, hI, hz, hsz, hby, hzs⟩ := ht.inf
  have hj0 : 0 ≤ j := by omega
  have hjc : j.toNat ≤ c := by omega
  have hij : i ≤ (j.toNat : Int) := by omega
  have hmx : max j 0 = j := by omega
  cases lo with
  | none =>
    cases hi with
    | none =>
      simp only at hlo hhi
      subst hlo hhi
      simp [Instr.sliceAt, Instr.slice, Instr.sliceBounds, run_underlying ht.und, sizeOf, typeInfo, hI, hsz]
    | some q =>
      simp only at hlo hhi
      subst hlo hhi
      simp [Instr.sliceAt, Instr.slice, Instr.sliceBounds, Instr.sliceBound, asIntOf, run_underlying ht.und, sizeOf, typeInfo, hI, hsz, hj0, h2]
  | some p =>
    cases hi with
    | none =>
      simp only at hlo hhi
      subst hlo hhi
      simp [Instr.sliceAt, Instr.slice, Instr.sliceBounds, Instr.sliceBound, asIntOf, run_underlying ht.und, sizeOf, typeInfo, hI, hsz, h0, h1]
    | some q =>
      simp only at hlo hhi
      subst hlo hhi
      simp [Instr.sliceAt, Instr.slice, Instr.sliceBounds, Instr.sliceBound, asIntOf, run_underlying ht.und, sizeOf, typeInfo, hI, hsz, h0, h1, hmx, hij, hj0, h2]
/-- A slice that is only read, compared with nil. -/
theorem RoSl.nilq {α : Type} [Rep α] {v : Value} {l : List α} (h : RoSl ρ v l) {T El : TypeId} {sz bytes : Nat} (ht : SlTy P T El sz bytes) : ∃ b : Bool, (∀ w x y, (do eqGuard .eql T x y v (.slice none 0 0); binOp .eql T v (.slice none 0 0) : Sem Value).run P w = .ok (.bool b) w) ∧ (b = true → l = []) := by
  obtain ⟨A, c, rfl, h2, h3⟩ := h
  cases A with
  | none =>
    refine ⟨true, fun w x y => ?_, fun _ => ?_⟩
    · have := Lib.run_eql_slice_nil (P := P) w T El none l.length c 0 0 ht.und
      simpa [eqGuard, binOp] using this
    · rcases Nat.eq_zero_or_pos l.length with h0 | h0
      · exact List.eq_nil_of_length_eq_zero h0
      · obtain ⟨b, o, cs, e, _⟩ := h3 0 l[0] (List.getElem?_eq_getElem h0); cases e
  | some ad =>
    refine ⟨false, fun w x y => ?_, fun e => by cases e⟩
    have := Lib.run_eql_slice_nil (P := P) w T El (some ad) l.length c 0 0 ht.und
    simpa [eqGuard, binOp] using this
def evS (E : Ent) : Option Operand → Option (IntKind × Int) → Prop
  | none, none => True
  | some x, some p => evo E x = some (.int p.1 p.2)
  | _, _ => False
theorem evS_map (hE : Env N E a) : ∀ {x : Option Operand} {p : Option (IntKind × Int)}, evS E x p → x.map a.eval = p.map fun p => .int p.1 p.2
  | none, none, _ => rfl
  | some x, some p, h => by simp [hE.eval h]
  | none, some _, h => h.elim
  | some _, none, h => h.elim
/-- A part of a slice that is only read. -/
theorem RoSl.part {α : Type} [Rep α] {v : Value} {l r : List α} (h : RoSl ρ v l) {T El : TypeId} {bytes : Nat} (ht : SlTy P T El (Rep.sz α) bytes) (lo hi : Option (IntKind × Int)) {i j : Int} (hlo : i = match lo with | none => 0 | some p => p.2) (hhi : j = match hi with | none => (l.length : Int) | some p => p.2) (hr : sub l i j = some r) :
    ∃ v', (∀ w, (Instr.sliceAt T v (lo.map fun p => .int p.1 p.2) (hi.map fun p => .int p.1 p.2) none).run P w = .ok v' w) ∧ RoSl ρ v' r := by
  obtain ⟨A, c, rfl, h2, h3⟩ := h
  obtain ⟨h0, h1, hj, rfl⟩ := sub_some hr
  refine ⟨_, fun w => run_sl ht A l.length c lo hi hlo hhi h0 h1 (by omega) w, ?_⟩
  refine ⟨(if c = i.toNat then A else A.map (·.add (i.toNat * Rep.sz α))), c - i.toNat, ?_, ?_, fun q e hq => ?_⟩
  · congr 1
    simp only [List.length_drop, List.length_take]
    omega
  · simp only [List.length_drop, List.length_take]; omega
  · rw [List.getElem?_drop, List.getElem?_take] at hq
    split at hq
    · rename_i hlt
      obtain ⟨b, off, cs, rfl, h4, h5⟩ := h3 _ e hq
      have hlen := (List.getElem?_eq_some_iff.1 hq).1
      rw [if_neg (by omega)]
      refine ⟨b, off + i.toNat * Rep.sz α, cs, by simp [Addr.add_lit], h4, ?_⟩
      rw [Nat.add_mul, ← Nat.add_assoc] at h5
      exact h5
    · cases hq
theorem ex_sl {C : World → Prop} {t : TypeId} {x : Operand} {lo hi : Option Operand} (ho : o.op = .slice t x lo hi none) (hE : Env N E a) {p v : Value} (hx : evo E x = some p) (l h : Option (IntKind × Int)) (hl : evS E lo l) (hh : evS E hi h) (hr : ∀ w, (Instr.sliceAt t p (l.map fun p => .int p.1 p.2) (h.map fun p => .int p.1 p.2) none).run P w = .ok v w) : Ex P C a o v :=
  ex_slice ho hE hx fun w => by rw [evS_map hE hl, evS_map hE hh]; exact hr w
/-- The head of an owned slice. -/
theorem OwnSl.head {α : Type} [Enc α] {El : TypeId} {v : Value} {l r : List α} (hp : Hp Z ρ (OwnSl El v l :: L) w) {T : TypeId} {bytes : Nat} (ht : SlTy P T El (Enc.sz α) bytes) (hi : Option (IntKind × Int)) {j : Int} (hhi : j = match hi with | none => (l.length : Int) | some p => p.2) (hr : sub l 0 j = some r) :
    ∃ v', (∀ w, (Instr.sliceAt T v none (hi.map fun p => .int p.1 p.2) none).run P w = .ok v' w) ∧ Hp Z ρ (OwnSl El v' r :: L) w := by
  obtain ⟨_, h1, hj, rfl⟩ := sub_some hr
  obtain ⟨hxl, hv⟩ := hp.row
  have e : (l.take j.toNat).drop (0 : Int).toNat = l.take j.toNat := by simp
  rw [e]
  have hjl : (l.take j.toNat).length = j.toNat := by rw [List.length_take]; omega
  rcases hv with ⟨A, rfl, hn⟩ | ⟨g, of0, cap, cur, rfl, hpt, h2, h3, h4, h5⟩
  · have hj0 : j = 0 := by omega
    subst hj0
    have hl := List.eq_nil_of_length_eq_zero hn
    subst hl
    refine ⟨_, fun w => run_sl ht A 0 0 none hi rfl hhi (by omega) (by omega) (by omega) w, ?_⟩
    simpa using hp
  · refine ⟨_, fun w => run_sl ht (some ⟨g, of0, none⟩) l.length cap none hi rfl hhi (by omega) (by omega) (by omega) w, ?_⟩
    have e2 : (if cap = (0 : Int).toNat then some (⟨g, of0, none⟩ : Addr) else (some (⟨g, of0, none⟩ : Addr)).map (·.add ((0 : Int).toNat * Enc.sz α))) = some ⟨g, of0, none⟩ := by
      split <;> simp [Addr.add_lit]
    rw [e2]
    unfold OwnSl
    rw [hjl]
    simp only [Int.toNat_zero, Nat.sub_zero]
    refine hpt.shutO (by omega) h3 h4 ?_
    rw [flat_take, ← h5, List.take_take, Nat.min_eq_left (Nat.mul_le_mul_right _ (by omega))]
/-- A part of an owned slice. -/
theorem OwnSl.part {α : Type} [Enc α] {El : TypeId} {v : Value} {l r : List α} (hp : Hp Z ρ (OwnSl El v l :: L) w) {T : TypeId} {bytes : Nat} (ht : SlTy P T El (Enc.sz α) bytes) (lo hi : Option (IntKind × Int)) {i j : Int} (hlo : i = match lo with | none => 0 | some p => p.2) (hhi : j = match hi with | none => (l.length : Int) | some p => p.2) (hr : sub l i j = some r) :
    ∃ v', (∀ w, (Instr.sliceAt T v (lo.map fun p => .int p.1 p.2) (hi.map fun p => .int p.1 p.2) none).run P w = .ok v' w) ∧ Hp Z ρ (OwnSl El v' r :: L) w := by
  obtain ⟨h0, h1, hj, rfl⟩ := sub_some hr
  have hjl : ((l.take j.toNat).drop i.toNat).length = j.toNat - i.toNat := by rw [List.length_drop, List.length_take]; omega
  obtain ⟨hxl, hv⟩ := hp.row
  rcases hv with ⟨A, rfl, hn⟩ | ⟨g, of0, cap, cur, rfl, hpt, h2, h3, h4, h5⟩
  · have hl := List.eq_nil_of_length_eq_zero hn
    subst hl
    simp only [List.length_nil] at hj
    have hj0 : j = 0 := by omega
    have hi0 : i = 0 := by omega
    refine ⟨_, fun w => run_sl ht A 0 0 lo hi hlo hhi h0 h1 (by omega) w, ?_⟩
    subst hj0
    rw [hi0]
    simpa using hp
  · refine ⟨_, fun w => run_sl ht (some ⟨g, of0, none⟩) l.length cap lo hi hlo hhi h0 h1 (by omega) w, ?_⟩
    unfold OwnSl
    rw [hjl]
    by_cases hz : cap = i.toNat
    · rw [if_pos hz]
      have e1 : j.toNat - i.toNat = 0 := by omega
      have e2 : cap - i.toNat = 0 := by omega
      rw [e1, e2, List.eq_nil_of_length_eq_zero (hjl.trans e1)]
      exact hpt.drop.emp (Row.nil _ _ _)
    · rw [if_neg hz]
      have hm : i.toNat * Enc.sz α ≤ cap * Enc.sz α := Nat.mul_le_mul_right _ (by omega)
      have e3 : (Option.map (fun x => x.add (i.toNat * Enc.sz α)) (some (⟨g, of0, none⟩ : Addr))) = some ⟨g, of0 + i.toNat * Enc.sz α, none⟩ := by simp [Addr.add_lit]
      rw [e3]
      refine hpt.shutO (by omega) (by omega) (by rw [h4, Nat.sub_mul]; omega) ?_
      rw [flat_drop, flat_take, ← h5, List.take_take, Nat.min_eq_left (Nat.mul_le_mul_right _ (by omega)), List.drop_take, List.drop_drop, Nat.sub_mul]
/-! ### Bools compared -/
theorem ex_beql {C : World → Prop} {t t' : TypeId} (hb : P.underlying t = some .bool) {x y : Operand} (ho : o.op = .binOp .eql t x y t') (hE : Env N E a) {m n : Bool} (hx : evo E x = some (.bool m)) (hy : evo E y = some (.bool n)) : Ex P C a o (.bool (m == n)) := ex_bin ho hE hx hy fun w _ => by
  have := run_eql_bool (P := P) w t m n hb
  simp [eqGuard, this]
theorem ex_bneq {C : World → Prop} {t t' : TypeId} (hb : P.underlying t = some .bool) {x y : Operand} (ho : o.op = .binOp .neq t x y t') (hE : Env N E a) {m n : Bool} (hx : evo E x = some (.bool m)) (hy : evo E y = some (.bool n)) : Ex P C a o (.bool (!(m == n))) := ex_bin ho hE hx hy fun w _ => by
  have := run_neq_bool (P := P) w t m n hb
  simp [eqGuard, this]
  try cases m <;> cases n <;> rfl
/-- A cell of an element of an owned slice is turned. -/
theorem s_stel {α : Type} [Enc α] (wk : Region.wanted o (yielded ops a.tmps) = true) (hd : o.dst = none) (hE : Env N E a) (hp : Hp Z ρ L w) {T : TypeId} {x y : Operand} (ho : o.op = .store T x y) {g off off' : Nat} (hx : evo E x = some (.pointer (some ⟨g, off', none⟩))) {u : Value} (hy : evo E y = some u) (k : Nat) {El : TypeId} {v : Value} {l : List α} (hk : L[k]? = some (OwnSl El v l))
    {i : Int} {e : α} (hi : idx l i = some e) (hv : ∃ of0 cap, v = .slice (some ⟨g, of0, none⟩) l.length cap ∧ off = of0 + i.toNat * Enc.sz α) (j : Nat) {e' : α} (ht : ∀ w, (sizeOf T).run P w = .ok 1 w) (hoff : off' = off + j) (hc : u.cells = #[u]) (h1 : u.oneCell' = true) (he : (Enc.enc e).set j u = Enc.enc e' ∧ Nat.blt j (Enc.sz α) = true)
    (K : ∀ w, Hp Z ρ (L.set k (OwnSl El v (l.set i.toNat e'))) w → wpList P ops Q rest a w) : wpList P ops Q (o :: rest) a w := by
  obtain ⟨he, hj⟩ := he
  have hj' : j < Enc.sz α := by simpa [Nat.blt_eq] using hj
  subst hoff
  obtain ⟨of0, cap, rfl, rfl⟩ := hv
  obtain ⟨i0, i1, i2⟩ := idx_some hi
  have hlt := (set_get (A := OwnSl El (.slice (some ⟨g, of0, none⟩) l.length cap) l) (_B := OwnSl El (.slice (some ⟨g, of0, none⟩) l.length cap) l) hk).2
  rcases (hp.get k hk).row.2 with ⟨_, _, hn⟩ | ⟨g', of1, cap', cur, e2, hpt, h2, h3, h4, h5⟩
  · omega
  · simp only [Value.slice.injEq, Option.some.injEq, Addr.mk.injEq, and_true, true_and] at e2
    obtain ⟨⟨rfl, rfl⟩, rfl⟩ := e2
    have hg := hpt.look 0 rfl
    have hpos : i.toNat * Enc.sz α + j < l.length * Enc.sz α := by
      have : (i.toNat + 1) * Enc.sz α ≤ l.length * Enc.sz α := Nat.mul_le_mul_right _ (by omega)
      rw [Nat.add_mul] at this; omega
    have hle : l.length * Enc.sz α ≤ cap * Enc.sz α := Nat.mul_le_mul_right _ h2
    have hcl : of0 + i.toNat * Enc.sz α + j < cur.size := by omega
    have hcell : w.cell? ⟨g, of0 + i.toNat * Enc.sz α + j, none⟩ = some cur[of0 + i.toNat * Enc.sz α + j] := by simp [World.cell?, hg, hcl]
    have hfr : w.frozen? ⟨g, of0 + i.toNat * Enc.sz α + j, none⟩ = false := by simp [World.frozen?, hg]
    have hst := run_st1 (P := P) (p := ⟨g, of0 + i.toNat * Enc.sz α + j, none⟩) ht hc h1 hcell hfr
    refine s_unit wk hd hE (w' := w.setCell ⟨g, of0 + i.toNat * Enc.sz α + j, none⟩ u) ?_ (K _ ?_)
    · simp [execOp, ho, hE.eval hx, hE.eval hy, hst]
    · refine Hp.put k hlt ?_
      have hnew : (w.setCell ⟨g, of0 + i.toNat * Enc.sz α + j, none⟩ u).heap[g]? = some (.cells (cur.setIfInBounds (of0 + i.toNat * Enc.sz α + j) u) El (0, 0)) := by
        simp [World.setCell, Array.getElem?_modify, hg]
      have hq := (Hp.set (w' := w.setCell ⟨g, of0 + i.toNat * Enc.sz α + j, none⟩ u) hpt rfl rfl rfl hnew (fun q hq => by
        simp only [World.setCell, Array.getElem?_modify]
        rw [if_neg (fun e => hq e.symm)])).shutO (off := of0) (n := l.length) (cap := cap) (sz := Enc.sz α) (xs := flat (l.set i.toNat e')) h2 h3 (by simpa using h4) (by
          rw [Array.toList_setIfInBounds, Nat.add_assoc, List.drop_set, if_neg (by omega), Nat.add_sub_cancel_left, List.take_set, h5]
          exact flat_set l i.toNat e e' j u i2 he hj')
      unfold OwnSl
      rw [List.length_set]
      exact hq
theorem RoSl.cells {α : Type} [Rep α] {v : Value} {l : List α} (h : RoSl ρ v l) : v.cells = #[v] := by
  obtain ⟨A, c, rfl⟩ := h.shape; rfl
theorem OwnSl.cells {α : Type} [Enc α] {El : TypeId} {v : Value} {l : List α} (hp : Hp Z ρ L w) (k : Nat) (hk : L[k]? = some (OwnSl El v l)) : v.cells = #[v] := by
  rcases (hp.get k hk).row.2 with ⟨A, rfl, _⟩ | ⟨g, off, cap, cur, rfl, _⟩ <;> rfl
theorem RoSl.one {α : Type} [Rep α] {v : Value} {l : List α} (h : RoSl ρ v l) : v.oneCell' = true := by
  obtain ⟨A, c, rfl⟩ := h.shape; rfl
theorem OwnSl.one {α : Type} [Enc α] {El : TypeId} {v : Value} {l : List α} (hp : Hp Z ρ L w) (k : Nat) (hk : L[k]? = some (OwnSl El v l)) : v.oneCell' = true := by
  rcases (hp.get k hk).row.2 with ⟨A, rfl, _⟩ | ⟨g, off, cap, cur, rfl, _⟩ <;> rfl
def allOne : List Value → Prop
  | [] => True
  | u :: r => u.oneCell' = true ∧ allOne r
theorem allOne_mem : ∀ {l : List Value}, allOne l → ∀ u ∈ l, u.oneCell' = true
  | [], _, u, h => by simp at h
  | v :: r, h, u, hu => by
    rcases List.mem_cons.1 hu with rfl | hu
    · exact h.1
    · exact allOne_mem h.2 u hu
/-- A store of one cell to an owned block. -/
theorem s_store1 (wk : Region.wanted o (yielded ops a.tmps) = true) (hd : o.dst = none) (hE : Env N E a) (hp : Hp Z ρ L w) {T : TypeId} {x y : Operand} (ho : o.op = .store T x y) {b off : Nat} (hx : evo E x = some (.pointer (some ⟨b, off, none⟩))) {v : Value} (hy : evo E y = some v) (i : Nat) {cs : List Value} {El : TypeId} (hi : L[i]? = some (Pt b (.cells cs.toArray El (0, 0))))
    (ht : ∀ w, (sizeOf T).run P w = .ok 1 w) (hc : v.cells = #[v]) (h1 : v.oneCell' = true) (hl : Nat.ble (off + 1) cs.length = true) (cs' : List Value) (hcs : cs' = cs.set off v)
    (K : ∀ w, Hp Z ρ (L.set i (Pt b (.cells cs'.toArray El (0, 0)))) w → wpList P ops Q rest a w) : wpList P ops Q (o :: rest) a w := by
  have hl' := Nat.le_of_ble_eq_true hl
  refine s_store wk hd hE hp ho hx hy i hi (by rw [hc]; exact ht) (by rw [hc]; exact hl) (by rw [hc]; intro u hu; simp at hu; subst hu; exact h1) cs' ?_ K
  rw [hcs, hc, List.set_eq_take_append_cons_drop, if_pos (by omega)]
  simp
/-! ### Function values -/
theorem ex_fn {C : World → Prop} {fn : Fn} {cs : List Operand} (ho : o.op = .makeFunc fn #[] cs.toArray) (hE : Env N E a) (vs : List Value) (hx : evA E cs vs) : Ex P C a o (.func fn #[] vs.toArray) := fun w _ => by
  simp [execOp, ho, Instr.makeFunc, List.map_toArray, evA_map hE hx]
/-- A call of a function value, by a contract. -/
theorem s_callv (wk : Region.wanted o (yielded ops a.tmps) = true) (hd : o.dst = some d) (hN : Nat.blt d N = true) (hE : Env N E a) {x : Operand} {f : FuncId} {cap : List Value} {xs : List Operand} {ts : Array TypeId} (ho : o.op = .call { callee := .value x, args := xs.toArray, argTypes := ts }) (hf : evo E x = some (.func (.func f) #[] cap.toArray)) (vs : List Value) (hx : evA E xs vs)
    (he : ∀ args w, (callFunc f args).run P w = .ok (.enter f args) w) {R : Ending → World → Prop} (hc : Calls P f (vs ++ cap).toArray w R) (hr : ∀ e w, R e w → ∃ v, e = .returned v)
    (K : ∀ v a w, R (.returned v) w → Env N ((d, v) :: E) a → wpList P ops Q rest a w) : wpList P ops Q (o :: rest) a w := by
  have hxs : xs.toArray.map a.eval = vs.toArray := by rw [List.map_toArray, evA_map hE hx]
  have hex : (execOp a.eval o).run P w = .ok (.enter f (vs ++ cap).toArray) w := by
    simp only [execOp, ho, resolve, hE.eval hf, hxs, Deferred.ofValue, invoke, Sem.run_bind, Sem.run_pure, Result.andThen_ok]
    simp [he]
  unfold wpList
  rw [if_pos wk]
  left
  unfold Oper.wp
  rw [hex]
  refine Calls.mono hc fun e w' hR => ?_
  obtain ⟨v, rfl⟩ := hr e w' hR
  rw [hd]
  exact K v _ w' hR (hE.put hN v)
end
end Go.Proofs.Ytmfepkadggigpaa
