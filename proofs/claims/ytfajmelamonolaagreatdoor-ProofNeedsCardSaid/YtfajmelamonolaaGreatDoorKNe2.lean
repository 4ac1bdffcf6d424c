/- More steps: make, copy, parts of slices, calls of function values, new functions. Plain theorems over any program. -/
import Derived.Test.YtfajmelamonolaaGreatDoorKNe1
import Derived.Lib.SliceRun
import Derived.ProofKit
import Derived.Deep.Slices
import Derived.OpenShut
import Derived.Laws.IdiomStrings
import Derived.Laws.StructEq
import Derived.Maps.RangeRun
import Derived.Maps.Keyed
import Derived.Carry
set_option linter.unusedVariables false
set_option linter.unusedSimpArgs false
namespace Go.Proofs.YtfajmelamonolaaGreatDoor
open Go.RowKit
section
variable {Rn : Option Nat} {P : Program} {ops : Array Oper} {Q : Exit → Act → World → Prop} {rest : List Oper} {o : Oper} {a : Act} {w : World} {Df : List Deferred} {N : Nat} {E : Ent} {d : Nat} {Z : World} {ρ : PH} {L : List Atom}
def mkc {α : Type} (n c : Int) (z : α) : Option (List α) := if 0 ≤ n ∧ n ≤ c ∧ c ≤ 4294967296 then some (List.replicate n.toNat z) else none
theorem mkc_some {α : Type} {n c : Int} {z : α} {r : List α} (h : mkc n c z = some r) : 0 ≤ n ∧ n ≤ c ∧ c ≤ 4294967296 ∧ r = List.replicate n.toNat z := by
  unfold mkc at h
  split at h
  · rename_i hh; exact ⟨hh.1, hh.2.1, hh.2.2, (Option.some.inj h).symm⟩
  · cases h
theorem flat_rep {α : Type} [Enc α] (z : α) (n : Nat) (j : Nat) (h : j < n * Enc.sz α) : (flat (List.replicate n z))[j]? = (Enc.enc z)[j % Enc.sz α]? := by
  have hz : 0 < Enc.sz α := Enc.pos
  have hi' : j / Enc.sz α < n := Nat.div_lt_of_lt_mul (by rw [Nat.mul_comm]; exact h)
  have he : j = j / Enc.sz α * Enc.sz α + j % Enc.sz α := by rw [Nat.mul_comm]; exact (Nat.div_add_mod j _).symm
  conv => lhs; rw [he]
  exact flat_get _ _ _ z (by simp [hi']) (Nat.mod_lt _ hz)
theorem made_flat {α : Type} [Enc α] (z : α) (n c : Nat) (h : n ≤ c) : (madeCells (Enc.enc z).toArray (c * Enc.sz α)).toList.take (n * Enc.sz α) = flat (List.replicate n z) := by
  have hz : 0 < Enc.sz α := Enc.pos
  have hle : n * Enc.sz α ≤ c * Enc.sz α := Nat.mul_le_mul_right _ h
  apply List.ext_getElem?
  intro j
  rw [List.getElem?_take]
  split
  · rename_i hj
    rw [flat_rep z n j hj]
    have hm : j % Enc.sz α < (Enc.enc z).length := by rw [Enc.len]; exact Nat.mod_lt _ hz
    have hjc : j < c * Enc.sz α := by omega
    have e : (Enc.enc z).toArray.size = Enc.sz α := by rw [List.size_toArray, Enc.len]
    simp only [madeCells, Array.toList_map, Array.toList_range, List.getElem?_map, e]
    rw [List.getElem?_range hjc]
    simp only [Option.map_some]
    rw [List.getElem?_eq_getElem hm]
    simp [hm]
  · rename_i hj
    rw [List.getElem?_eq_none (by rw [flat_len, List.length_replicate]; omega)]
theorem s_make {α : Type} [Enc α] (wk : Region.wanted o (yielded ops a.tmps) = true) (hd : o.dst = some d) (hN : Nat.blt d N = true) (hE : EnvD Df N E a) (hp : Hp Z ρ L w) {T : TypeId} {x y : Operand} (ho : o.op = .makeSlice T x y) {El : TypeId} {bytes : Nat} (hu : P.underlying T = some (.slice El)) (z : α)
    (hi : (P.info? El).map (fun i => (i.zero.map Value.cells, i.size, i.bytes)) = some (some (Enc.enc z).toArray, Enc.sz α, bytes)) (hby : Nat.ble bytes 16384 = true) {k k' : IntKind} {n c : Int} (hx : evo E x = some (.int k n)) (hy : evo E y = some (.int k' c)) {r : List α} (hr : mkc n c z = some r)
    (K : ∀ v a w, EnvD Df N ((d, v) :: E) a → Hp Z ρ (OwnSl El v r :: L) w → wpL Rn P ops Q rest a w) : wpL Rn P ops Q (o :: rest) a w := by
  obtain ⟨h0, h1, h2, rfl⟩ := mkc_some hr
  cases hI : P.info? El with
  | none => rw [hI] at hi; cases hi
  | some i =>
    rw [hI] at hi
    simp only [Option.map_some, Option.some.injEq, Prod.mk.injEq] at hi
    obtain ⟨i1, i2, i3⟩ := hi
    cases hz : i.zero with
    | none => rw [hz] at i1; cases i1
    | some zv =>
      rw [hz] at i1
      simp only [Option.map_some, Option.some.injEq] at i1
      have hby' : bytes ≤ 16384 := by simpa using hby
      have hb2 : (i.bytes : Int) * c ≤ 16384 * 4294967296 := by
        rw [i3]
        exact Int.mul_le_mul (by omega) h2 (by omega) (by omega)
      have hrun := run_make (P := P) w T El i zv hu hI hz k k' n c h0 h1 (by omega) (by omega)
      refine s_run wk hd hN hE (v := .slice (some ⟨w.heap.size, 0, none⟩) n.toNat c.toNat) (w' := w.alloc (.cells (madeCells zv.cells (c.toNat * i.size)) El)) ?_ fun a' hE' => K _ a' _ hE' ?_
      · simp [execOp, ho, hE.eval hx, hE.eval hy, hrun]
      · have := (hp.alloc (.cells (madeCells zv.cells (c.toNat * i.size)) El)).shut (n := n.toNat) (cap := c.toNat) (sz := Enc.sz α) (xs := flat (List.replicate n.toNat z)) (by omega) (by unfold maxLen; omega) (by rw [size_madeCells, i2]) (by rw [i1, i2]; exact made_flat z _ _ (by omega))
        unfold OwnSl
        rw [List.length_replicate]
        exact this
theorem RoSl.row {α : Type} [Enc α] {v : Value} {l : List α} (h : RoSl ρ v l) (hl : 0 < l.length) : ∃ b off c, v = .slice (some ⟨b, off, none⟩) l.length c ∧ AtP ρ b off (flat l) := by
  obtain ⟨A, c, rfl, _, hh⟩ := h
  obtain ⟨b, off, cs, e1, _, _⟩ := hh 0 l[0] (List.getElem?_eq_getElem hl)
  subst e1
  refine ⟨b, off, c, rfl, fun j u hj => ?_⟩
  have hjl : j < l.length * Enc.sz α := by rw [← flat_len]; exact (List.getElem?_eq_some_iff.1 hj).1
  have hz : 0 < Enc.sz α := Enc.pos
  have hi' : j / Enc.sz α < l.length := Nat.div_lt_of_lt_mul (by rw [Nat.mul_comm]; exact hjl)
  have he : j = j / Enc.sz α * Enc.sz α + j % Enc.sz α := by rw [Nat.mul_comm]; exact (Nat.div_add_mod j _).symm
  have hm : j % Enc.sz α < Enc.sz α := Nat.mod_lt _ hz
  obtain ⟨b2, o2, cs2, e2, h4, h5⟩ := hh (j / Enc.sz α) l[j / Enc.sz α] (List.getElem?_eq_getElem hi')
  simp only [Option.some.injEq, Addr.mk.injEq, and_true] at e2
  obtain ⟨rfl, rfl⟩ := e2
  have h4' : cs2 = Enc.enc l[j / Enc.sz α] := h4
  subst h4'
  rw [he, flat_get l _ _ _ (List.getElem?_eq_getElem hi') hm] at hj
  have := h5 _ u hj
  have e3 : off + j / Enc.sz α * Rep.sz α + j % Enc.sz α = off + j := by
    show off + j / Enc.sz α * Enc.sz α + j % Enc.sz α = off + j
    omega
  rw [e3] at this
  exact this
theorem flat_take {α : Type} [Enc α] (l : List α) (m : Nat) : flat (l.take m) = (flat l).take (m * Enc.sz α) := by
  induction l generalizing m with
  | nil => simp [flat]
  | cons b l ih =>
    cases m with
    | zero => simp [flat]
    | succ m =>
      have e : (Enc.enc b).take ((m + 1) * Enc.sz α) = Enc.enc b := List.take_of_length_le (by rw [Enc.len, Nat.add_mul]; omega)
      rw [List.take_succ_cons, flat_cons, flat_cons, ih, List.take_append, e, Enc.len]
      congr 2
      rw [Nat.add_mul]; omega
theorem flat_drop {α : Type} [Enc α] (l : List α) (m : Nat) : flat (l.drop m) = (flat l).drop (m * Enc.sz α) := by
  induction l generalizing m with
  | nil => simp [flat]
  | cons b l ih =>
    cases m with
    | zero => simp [flat]
    | succ m =>
      have e : (Enc.enc b).drop ((m + 1) * Enc.sz α) = [] := List.drop_of_length_le (by rw [Enc.len, Nat.add_mul]; omega)
      rw [List.drop_succ_cons, flat_cons, ih, List.drop_append, e, Enc.len, List.nil_append]
      congr 1
      rw [Nat.add_mul]; omega
theorem set_same {A : Atom} {i : Nat} (h : L[i]? = some A) : L.set i A = L := by
  apply List.ext_getElem?
  intro j
  rw [List.getElem?_set]
  by_cases e : i = j
  · subst e
    have := (List.getElem?_eq_some_iff.1 h).1
    rw [if_pos rfl, if_pos this, h]
  · simp [e]
theorem run_sl {T El : TypeId} {sz bytes : Nat} (ht : SlTy P T El sz bytes) (A : Option Addr) (n c : Nat) (lo hi : Option (IntKind × Int)) {i j : Int} (hlo : i = match lo with | none => 0 | some p => p.2) (hhi : j = match hi with | none => n | some p => p.2) (h0 : 0 ≤ i) (h1 : i ≤ j) (h2 : j ≤ c) (w : World) :
    (Instr.sliceAt T (.slice A n c) (lo.map fun p => .int p.1 p.2) (hi.map fun p => .int p.1 p.2) none).run P w = .ok (.slice (if c = i.toNat then A else A.map (·.add (i.toNat * sz))) (j.toNat - i.toNat) (c - i.toNat)) w := by
  obtain ⟨inf, z, hI, hz, hsz, hby, hzs⟩ := ht.inf
  have hj0 : 0 ≤ j := by omega
  have hjc : j.toNat ≤ c := by omega
  have hij : i ≤ (j.toNat : Int) := by omega
  have hmx : max j 0 = j := by omega
  cases lo with
  | none =>
    cases hi with
    | none =>
      simp only at hlo hhi
      subst hlo hhi
      simp [Instr.sliceAt, Instr.slice, Instr.sliceBounds, run_underlying ht.und, sizeOf, typeInfo, hI, hsz]
    | some q =>
      simp only at hlo hhi
      subst hlo hhi
      simp [Instr.sliceAt, Instr.slice, Instr.sliceBounds, Instr.sliceBound, asIntOf, run_underlying ht.und, sizeOf, typeInfo, hI, hsz, hj0, h2]
  | some p =>
    cases hi with
    | none =>
      simp only at hlo hhi
      subst hlo hhi
      simp [Instr.sliceAt, Instr.slice, Instr.sliceBounds, Instr.sliceBound, asIntOf, run_underlying ht.und, sizeOf, typeInfo, hI, hsz, h0, h1]
    | some q =>
      simp only at hlo hhi
      subst hlo hhi
      simp [Instr.sliceAt, Instr.slice, Instr.sliceBounds, Instr.sliceBound, asIntOf, run_underlying ht.und, sizeOf, typeInfo, hI, hsz, h0, h1, hmx, hij, hj0, h2]
theorem RoSl.nilq {α : Type} [Rep α] {v : Value} {l : List α} (h : RoSl ρ v l) {T El : TypeId} {sz bytes : Nat} (ht : SlTy P T El sz bytes) : ∃ b : Bool, (∀ w x y, (do eqGuard .eql T x y v (.slice none 0 0); binOp .eql T v (.slice none 0 0) : Sem Value).run P w = .ok (.bool b) w) ∧ (b = true → l = []) := by
  obtain ⟨A, c, rfl, h2, h3⟩ := h
  cases A with
  | none =>
    refine ⟨true, fun w x y => ?_, fun _ => ?_⟩
    · have := Lib.run_eql_slice_nil (P := P) w T El none l.length c 0 0 ht.und
      simpa [eqGuard, binOp] using this
    · rcases Nat.eq_zero_or_pos l.length with h0 | h0
      · exact List.eq_nil_of_length_eq_zero h0
      · obtain ⟨b, o, cs, e, _⟩ := h3 0 l[0] (List.getElem?_eq_getElem h0); cases e
  | some ad =>
    refine ⟨false, fun w x y => ?_, fun e => by cases e⟩
    have := Lib.run_eql_slice_nil (P := P) w T El (some ad) l.length c 0 0 ht.und
    simpa [eqGuard, binOp] using this
def evS (E : Ent) : Option Operand → Option (IntKind × Int) → Prop
  | none, none => True
  | some x, some p => evo E x = some (.int p.1 p.2)
  | _, _ => False
theorem evS_map (hE : EnvD Df N E a) : ∀ {x : Option Operand} {p : Option (IntKind × Int)}, evS E x p → x.map a.eval = p.map fun p => .int p.1 p.2
  | none, none, _ => rfl
  | some x, some p, h => by simp [hE.eval h]
  | none, some _, h => h.elim
  | some _, none, h => h.elim
theorem RoSl.part {α : Type} [Rep α] {v : Value} {l r : List α} (h : RoSl ρ v l) {T El : TypeId} {bytes : Nat} (ht : SlTy P T El (Rep.sz α) bytes) (lo hi : Option (IntKind × Int)) {i j : Int} (hlo : i = match lo with | none => 0 | some p => p.2) (hhi : j = match hi with | none => (l.length : Int) | some p => p.2) (hr : sub l i j = some r) :
    ∃ v', (∀ w, (Instr.sliceAt T v (lo.map fun p => .int p.1 p.2) (hi.map fun p => .int p.1 p.2) none).run P w = .ok v' w) ∧ RoSl ρ v' r := by
  obtain ⟨A, c, rfl, h2, h3⟩ := h
  obtain ⟨h0, h1, hj, rfl⟩ := sub_some hr
  refine ⟨_, fun w => run_sl ht A l.length c lo hi hlo hhi h0 h1 (by omega) w, ?_⟩
  refine ⟨(if c = i.toNat then A else A.map (·.add (i.toNat * Rep.sz α))), c - i.toNat, ?_, ?_, fun q e hq => ?_⟩
  · congr 1
    simp only [List.length_drop, List.length_take]
    omega
  · simp only [List.length_drop, List.length_take]; omega
  · rw [List.getElem?_drop, List.getElem?_take] at hq
    split at hq
    · rename_i hlt
      obtain ⟨b, off, cs, rfl, h4, h5⟩ := h3 _ e hq
      have hlen := (List.getElem?_eq_some_iff.1 hq).1
      rw [if_neg (by omega)]
      refine ⟨b, off + i.toNat * Rep.sz α, cs, by simp [Addr.add_lit], h4, ?_⟩
      rw [Nat.add_mul, ← Nat.add_assoc] at h5
      exact h5
    · cases hq
theorem ex_sl {C : World → Prop} {t : TypeId} {x : Operand} {lo hi : Option Operand} (ho : o.op = .slice t x lo hi none) (hE : EnvD Df N E a) {p v : Value} (hx : evo E x = some p) (l h : Option (IntKind × Int)) (hl : evS E lo l) (hh : evS E hi h) (hr : ∀ w, (Instr.sliceAt t p (l.map fun p => .int p.1 p.2) (h.map fun p => .int p.1 p.2) none).run P w = .ok v w) : Ex P C a o v :=
  ex_slice ho hE hx fun w => by rw [evS_map hE hl, evS_map hE hh]; exact hr w
theorem OwnSl.head {α : Type} [Enc α] {El : TypeId} {v : Value} {l r : List α} (hp : Hp Z ρ (OwnSl El v l :: L) w) {T : TypeId} {bytes : Nat} (ht : SlTy P T El (Enc.sz α) bytes) (hi : Option (IntKind × Int)) {j : Int} (hhi : j = match hi with | none => (l.length : Int) | some p => p.2) (hr : sub l 0 j = some r) :
    ∃ v', (∀ w, (Instr.sliceAt T v none (hi.map fun p => .int p.1 p.2) none).run P w = .ok v' w) ∧ Hp Z ρ (OwnSl El v' r :: L) w := by
  obtain ⟨_, h1, hj, rfl⟩ := sub_some hr
  obtain ⟨hxl, hv⟩ := hp.row
  have e : (l.take j.toNat).drop (0 : Int).toNat = l.take j.toNat := by simp
  rw [e]
  have hjl : (l.take j.toNat).length = j.toNat := by rw [List.length_take]; omega
  rcases hv with ⟨A, rfl, hn⟩ | ⟨g, of0, cap, cur, rfl, hpt, h2, h3, h4, h5⟩
  · have hj0 : j = 0 := by omega
    subst hj0
    have hl := List.eq_nil_of_length_eq_zero hn
    subst hl
    refine ⟨_, fun w => run_sl ht A 0 0 none hi rfl hhi (by omega) (by omega) (by omega) w, ?_⟩
    simpa using hp
  · refine ⟨_, fun w => run_sl ht (some ⟨g, of0, none⟩) l.length cap none hi rfl hhi (by omega) (by omega) (by omega) w, ?_⟩
    have e2 : (if cap = (0 : Int).toNat then some (⟨g, of0, none⟩ : Addr) else (some (⟨g, of0, none⟩ : Addr)).map (·.add ((0 : Int).toNat * Enc.sz α))) = some ⟨g, of0, none⟩ := by
      split <;> simp [Addr.add_lit]
    rw [e2]
    unfold OwnSl
    rw [hjl]
    simp only [Int.toNat_zero, Nat.sub_zero]
    refine hpt.shutO (by omega) h3 h4 ?_
    rw [flat_take, ← h5, List.take_take, Nat.min_eq_left (Nat.mul_le_mul_right _ (by omega))]
theorem OwnSl.part {α : Type} [Enc α] {El : TypeId} {v : Value} {l r : List α} (hp : Hp Z ρ (OwnSl El v l :: L) w) {T : TypeId} {bytes : Nat} (ht : SlTy P T El (Enc.sz α) bytes) (lo hi : Option (IntKind × Int)) {i j : Int} (hlo : i = match lo with | none => 0 | some p => p.2) (hhi : j = match hi with | none => (l.length : Int) | some p => p.2) (hr : sub l i j = some r) :
    ∃ v', (∀ w, (Instr.sliceAt T v (lo.map fun p => .int p.1 p.2) (hi.map fun p => .int p.1 p.2) none).run P w = .ok v' w) ∧ Hp Z ρ (OwnSl El v' r :: L) w := by
  obtain ⟨h0, h1, hj, rfl⟩ := sub_some hr
  have hjl : ((l.take j.toNat).drop i.toNat).length = j.toNat - i.toNat := by rw [List.length_drop, List.length_take]; omega
  obtain ⟨hxl, hv⟩ := hp.row
  rcases hv with ⟨A, rfl, hn⟩ | ⟨g, of0, cap, cur, rfl, hpt, h2, h3, h4, h5⟩
  · have hl := List.eq_nil_of_length_eq_zero hn
    subst hl
    simp only [List.length_nil] at hj
    have hj0 : j = 0 := by omega
    have hi0 : i = 0 := by omega
    refine ⟨_, fun w => run_sl ht A 0 0 lo hi hlo hhi h0 h1 (by omega) w, ?_⟩
    subst hj0
    rw [hi0]
    simpa using hp
  · refine ⟨_, fun w => run_sl ht (some ⟨g, of0, none⟩) l.length cap lo hi hlo hhi h0 h1 (by omega) w, ?_⟩
    unfold OwnSl
    rw [hjl]
    by_cases hz : cap = i.toNat
    · rw [if_pos hz]
      have e1 : j.toNat - i.toNat = 0 := by omega
      have e2 : cap - i.toNat = 0 := by omega
      rw [e1, e2, List.eq_nil_of_length_eq_zero (hjl.trans e1)]
      exact hpt.drop.emp (Row.nil _ _ _)
    · rw [if_neg hz]
      have hm : i.toNat * Enc.sz α ≤ cap * Enc.sz α := Nat.mul_le_mul_right _ (by omega)
      have e3 : (Option.map (fun x => x.add (i.toNat * Enc.sz α)) (some (⟨g, of0, none⟩ : Addr))) = some ⟨g, of0 + i.toNat * Enc.sz α, none⟩ := by simp [Addr.add_lit]
      rw [e3]
      refine hpt.shutO (by omega) (by omega) (by rw [h4, Nat.sub_mul]; omega) ?_
      rw [flat_drop, flat_take, ← h5, List.take_take, Nat.min_eq_left (Nat.mul_le_mul_right _ (by omega)), List.drop_take, List.drop_drop, Nat.sub_mul]
theorem s_stel {α : Type} [Enc α] (wk : Region.wanted o (yielded ops a.tmps) = true) (hd : o.dst = none) (hE : EnvD Df N E a) (hp : Hp Z ρ L w) {T : TypeId} {x y : Operand} (ho : o.op = .store T x y) {g off off' : Nat} (hx : evo E x = some (.pointer (some ⟨g, off', none⟩))) {u : Value} (hy : evo E y = some u) (k : Nat) {El : TypeId} {v : Value} {l : List α} (hk : L[k]? = some (OwnSl El v l))
    {i : Int} {e : α} (hi : idx l i = some e) (hv : ∃ of0 cap, v = .slice (some ⟨g, of0, none⟩) l.length cap ∧ off = of0 + i.toNat * Enc.sz α) (j : Nat) {e' : α} (ht : ∀ w, (sizeOf T).run P w = .ok 1 w) (hoff : off' = off + j) (hc : u.cells = #[u]) (h1 : u.oneCell' = true) (he : (Enc.enc e).set j u = Enc.enc e' ∧ Nat.blt j (Enc.sz α) = true)
    (K : ∀ w, Hp Z ρ (L.set k (OwnSl El v (l.set i.toNat e'))) w → wpL Rn P ops Q rest a w) : wpL Rn P ops Q (o :: rest) a w := by
  obtain ⟨he, hj⟩ := he
  have hj' : j < Enc.sz α := by simpa [Nat.blt_eq] using hj
  subst hoff
  obtain ⟨of0, cap, rfl, rfl⟩ := hv
  obtain ⟨i0, i1, i2⟩ := idx_some hi
  have hlt := (set_get (A := OwnSl El (.slice (some ⟨g, of0, none⟩) l.length cap) l) (_B := OwnSl El (.slice (some ⟨g, of0, none⟩) l.length cap) l) hk).2
  rcases (hp.get k hk).row.2 with ⟨_, _, hn⟩ | ⟨g', of1, cap', cur, e2, hpt, h2, h3, h4, h5⟩
  · omega
  · simp only [Value.slice.injEq, Option.some.injEq, Addr.mk.injEq, and_true, true_and] at e2
    obtain ⟨⟨rfl, rfl⟩, rfl⟩ := e2
    have hg := hpt.look 0 rfl
    have hpos : i.toNat * Enc.sz α + j < l.length * Enc.sz α := by
      have : (i.toNat + 1) * Enc.sz α ≤ l.length * Enc.sz α := Nat.mul_le_mul_right _ (by omega)
      rw [Nat.add_mul] at this; omega
    have hle : l.length * Enc.sz α ≤ cap * Enc.sz α := Nat.mul_le_mul_right _ h2
    have hcl : of0 + i.toNat * Enc.sz α + j < cur.size := by omega
    have hcell : w.cell? ⟨g, of0 + i.toNat * Enc.sz α + j, none⟩ = some cur[of0 + i.toNat * Enc.sz α + j] := by simp [World.cell?, hg, hcl]
    have hfr : w.frozen? ⟨g, of0 + i.toNat * Enc.sz α + j, none⟩ = false := by simp [World.frozen?, hg]
    have hst := run_st1 (P := P) (p := ⟨g, of0 + i.toNat * Enc.sz α + j, none⟩) ht hc h1 hcell hfr
    refine s_unit wk hd hE (w' := w.setCell ⟨g, of0 + i.toNat * Enc.sz α + j, none⟩ u) ?_ (K _ ?_)
    · simp [execOp, ho, hE.eval hx, hE.eval hy, hst]
    · refine Hp.put k hlt ?_
      have hnew : (w.setCell ⟨g, of0 + i.toNat * Enc.sz α + j, none⟩ u).heap[g]? = some (.cells (cur.setIfInBounds (of0 + i.toNat * Enc.sz α + j) u) El (0, 0)) := by
        simp [World.setCell, Array.getElem?_modify, hg]
      have hq := (Hp.set (w' := w.setCell ⟨g, of0 + i.toNat * Enc.sz α + j, none⟩ u) hpt rfl rfl rfl hnew (fun q hq => by
        simp only [World.setCell, Array.getElem?_modify]
        rw [if_neg (fun e => hq e.symm)])).shutO (off := of0) (n := l.length) (cap := cap) (sz := Enc.sz α) (xs := flat (l.set i.toNat e')) h2 h3 (by simpa using h4) (by
          rw [Array.toList_setIfInBounds, Nat.add_assoc, List.drop_set, if_neg (by omega), Nat.add_sub_cancel_left, List.take_set, h5]
          exact flat_set l i.toNat e e' j u i2 he hj')
      unfold OwnSl
      rw [List.length_set]
      exact hq
theorem RoSl.cells {α : Type} [Rep α] {v : Value} {l : List α} (h : RoSl ρ v l) : v.cells = #[v] := by
  obtain ⟨A, c, rfl⟩ := h.shape; rfl
theorem OwnSl.cells {α : Type} [Enc α] {El : TypeId} {v : Value} {l : List α} (hp : Hp Z ρ L w) (k : Nat) (hk : L[k]? = some (OwnSl El v l)) : v.cells = #[v] := by
  rcases (hp.get k hk).row.2 with ⟨A, rfl, _⟩ | ⟨g, off, cap, cur, rfl, _⟩ <;> rfl
theorem RoSl.one {α : Type} [Rep α] {v : Value} {l : List α} (h : RoSl ρ v l) : v.oneCell' = true := by
  obtain ⟨A, c, rfl⟩ := h.shape; rfl
theorem OwnSl.one {α : Type} [Enc α] {El : TypeId} {v : Value} {l : List α} (hp : Hp Z ρ L w) (k : Nat) (hk : L[k]? = some (OwnSl El v l)) : v.oneCell' = true := by
  rcases (hp.get k hk).row.2 with ⟨A, rfl, _⟩ | ⟨g, off, cap, cur, rfl, _⟩ <;> rfl
def allOne : List Value → Prop
  | [] => True
  | u :: r => u.oneCell' = true ∧ allOne r
theorem allOne_mem : ∀ {l : List Value}, allOne l → ∀ u ∈ l, u.oneCell' = true
  | [], _, u, h => by simp at h
  | v :: r, h, u, hu => by
    rcases List.mem_cons.1 hu with rfl | hu
    · exact h.1
    · exact allOne_mem h.2 u hu
theorem s_store1 (wk : Region.wanted o (yielded ops a.tmps) = true) (hd : o.dst = none) (hE : EnvD Df N E a) (hp : Hp Z ρ L w) {T : TypeId} {x y : Operand} (ho : o.op = .store T x y) {b off : Nat} (hx : evo E x = some (.pointer (some ⟨b, off, none⟩))) {v : Value} (hy : evo E y = some v) (i : Nat) {cs : List Value} {El : TypeId} (hi : L[i]? = some (Pt b (.cells cs.toArray El (0, 0))))
    (ht : ∀ w, (sizeOf T).run P w = .ok 1 w) (hc : v.cells = #[v]) (h1 : v.oneCell' = true) (hl : Nat.ble (off + 1) cs.length = true) (cs' : List Value) (hcs : cs' = cs.set off v)
    (K : ∀ w, Hp Z ρ (L.set i (Pt b (.cells cs'.toArray El (0, 0)))) w → wpL Rn P ops Q rest a w) : wpL Rn P ops Q (o :: rest) a w := by
  have hl' := Nat.le_of_ble_eq_true hl
  refine s_store wk hd hE hp ho hx hy i hi (by rw [hc]; exact ht) (by rw [hc]; exact hl) (by rw [hc]; intro u hu; simp at hu; subst hu; exact h1) cs' ?_ K
  rw [hcs, hc, List.set_eq_take_append_cons_drop, if_pos (by omega)]
  simp
theorem ex_fn {C : World → Prop} {fn : Fn} {cs : List Operand} (ho : o.op = .makeFunc fn #[] cs.toArray) (hE : EnvD Df N E a) (vs : List Value) (hx : evA E cs vs) : Ex P C a o (.func fn #[] vs.toArray) := fun w _ => by
  simp [execOp, ho, Instr.makeFunc, List.map_toArray, evA_map hE hx]
end
end Go.Proofs.YtfajmelamonolaaGreatDoor

/- From a contract to the row of a law: arguments read as data, and read so behind the call. Plain theorems over any program. -/
set_option linter.unusedVariables false
set_option linter.unusedSimpArgs false
namespace Go.Proofs.YtfajmelamonolaaGreatDoor
open Go.ChangeShapes Go.WideShapes Go.ChangeAt Go.RowKit
def I64 (n : Int) : Prop := -9223372036854775808 ≤ n ∧ n ≤ 9223372036854775807
theorem I64.of {n : Int} (h : (Lit.int .i64 n).wf = true) : I64 n := by
  simp [Lit.wf, IntKind.min, IntKind.max, IntKind.signed, IntKind.bits] at h
  exact ⟨by omega, by omega⟩
theorem U8.of {n : Int} (h : (Lit.int .u8 n).wf = true) : 0 ≤ n ∧ n ≤ 255 := by
  simp [Lit.wf, IntKind.min, IntKind.max, IntKind.signed, IntKind.bits] at h
  omega
structure Reads (P : Program) (t : TypeId) (α : Type) [Rep α] (wf : α → Prop) : Prop where
  cells : P.cellsOf t = Rep.sz α
  pos : 0 < Rep.sz α
  get : ∀ {H : Type} {enc : TypeId × Value → H} {w : World} {base : Nat} {spare : Nat → Bool} {held : Bool} {fuel : Nat} {cs : List Value} {x : DataW H × List MemPlace},
    DataW.trod enc P w base spare held fuel t cs = some x → ∃ a : α, Rep.ok (hp w) a cs ∧ wf a
section
variable {P : Program} {t e : TypeId}
theorem reads_int (ht : P.underlying t = some (.int .i64)) (hc : P.cellsOf t = 1) : Reads P t Int I64 :=
  ⟨hc, by decide, fun h => by obtain ⟨n, rfl, _, hw⟩ := DataW.trod_int ht h; exact ⟨n, rfl, I64.of hw⟩⟩
def LW {α : Type} (wf : α → Prop) (l : List α) : Prop := l.length ≤ maxLen ∧ ∀ a ∈ l, wf a
theorem exists_list {α : Type} {p : Nat → α → Prop} : ∀ (n : Nat), (∀ i, i < n → ∃ a, p i a) → ∃ l : List α, l.length = n ∧ ∀ i a, l[i]? = some a → p i a
  | 0, _ => ⟨[], rfl, fun i a h => by simp at h⟩
  | n + 1, h => by
    obtain ⟨l, hl, hp⟩ := exists_list n (fun i hi => h i (by omega))
    obtain ⟨a, ha⟩ := h n (by omega)
    refine ⟨l ++ [a], by simp [hl], fun i b hb => ?_⟩
    rw [List.getElem?_append] at hb
    split at hb
    · exact hp i b hb
    · rename_i hi
      have : i - l.length = 0 := by
        rcases Nat.eq_zero_or_pos (i - l.length) with h0 | h0
        · exact h0
        · rw [List.getElem?_eq_none (by simp; omega)] at hb; cases hb
      rw [this] at hb
      simp only [List.getElem?_cons_zero, Option.some.injEq] at hb
      subst hb
      have : i = n := by omega
      rw [this]; exact ha
theorem reads_slice {α : Type} [Rep α] {wf : α → Prop} (he : Reads P e α wf) (ht : P.underlying t = some (.slice e)) {H : Type} {enc : TypeId × Value → H} {w : World} {base : Nat} {spare : Nat → Bool} {held : Bool} {fuel : Nat} {cs : List Value} {x : DataW H × List MemPlace}
    (h : DataW.trod enc P w base spare held fuel t cs = some x) : ∃ (l : List α) (v : Value), cs = [v] ∧ RoSl (hp w) v l ∧ LW wf l := by
  rcases DataW.trod_slice ht h with ⟨rfl, _⟩ | ⟨a, len, cap, elems, rest, n, _, rfl, _, hb, hl, hm, hlen, hel, _⟩
  · exact ⟨[], _, rfl, RoSl.nil _, by unfold maxLen; simp, by simp⟩
  · have key : ∀ i, i < len → ∃ z : α, wf z ∧ ∃ b o cs', some a = some ⟨b, o, none⟩ ∧ Rep.ok (hp w) z cs' ∧ AtP (hp w) b (o + i * Rep.sz α) cs' := by
      intro i hi
      have h1 := hel i hi
      rw [List.getElem?_eq_getElem (by omega)] at h1
      obtain ⟨cs', hc, ht'⟩ := Option.bind_eq_some_iff.1 h1
      obtain ⟨_, hcl, hat⟩ := World.cells?_some hc
      obtain ⟨z, hz, hw⟩ := he.get ht'
      have h0 := hel 0 (by omega)
      rw [List.getElem?_eq_getElem (by omega)] at h0
      obtain ⟨cs0, hc0, _⟩ := Option.bind_eq_some_iff.1 h0
      obtain ⟨_, hcl0, hat0⟩ := World.cells?_some hc0
      have hp0 : 0 < P.cellsOf e := by rw [he.cells]; exact he.pos
      have hs0 := hat0 0 hp0
      rw [List.getElem?_eq_getElem (by omega)] at hs0
      obtain ⟨b, o, sp⟩ := a
      have hsp : sp = none := by
        cases sp with
        | none => rfl
        | some s =>
          simp [Addr.add, World.cell?] at hs0
          split at hs0 <;> cases hs0
      subst hsp
      refine ⟨z, hw, b, o, cs', rfl, hz, fun j u hj => ?_⟩
      have hjl : j < P.cellsOf e := by rw [← hcl]; exact (List.getElem?_eq_some_iff.1 hj).1
      have := hat j hjl
      rw [Addr.add_lit, Addr.add_lit, hj, he.cells] at this
      unfold World.cell? at this
      simp only [Option.isSome_none, Bool.false_eq_true, if_false] at this
      exact this
    obtain ⟨l, hll, hp⟩ := exists_list len key
    refine ⟨l, _, rfl, ⟨some a, cap, by rw [hll], by rw [hll]; exact hl, fun i z hz => (hp i z hz).2⟩, by omega, fun z hz => ?_⟩
    obtain ⟨i, hi⟩ := List.getElem?_of_mem hz
    exact (hp i z hi).1
theorem arg_slice {α : Type} [Rep α] {wf : α → Prop} (he : Reads P e α wf) (ht : P.underlying t = some (.slice e)) {H : Type} {enc : TypeId × Value → H} {w : World} {base b0 : Nat} {spare : Nat → Bool} {held : Bool} {r : Reach} {v : Value} {d : DataW H} {p : List MemPlace}
    (hv : Value.okWide P w r b0 t v) (h : DataW.Trod enc P w base spare held t v d p) : ∃ l : List α, RoSl (hp w) v l ∧ LW wf l := by
  obtain ⟨a, len, cap, rfl⟩ := okWide_slice ht hv
  obtain ⟨fuel, hf⟩ := h
  obtain ⟨l, v', e, h1, h2⟩ := reads_slice he ht hf
  simp [Value.cells] at e
  subst e
  exact ⟨l, h1, h2⟩
theorem sized_arg {α : Type} [Rep α] {l : List α} (ht : P.underlying t = some (.slice e)) {H : Type} {enc : TypeId × Value → H} {w : World} {base b0 : Nat} {spare : Nat → Bool} {held : Bool} {r : Reach} {v : Value} {d : DataW H} {p : List MemPlace}
    (hs : RoSl (hp w) v l) (hv : Value.okWide P w r b0 t v) (h : DataW.Trod enc P w base spare held t v d p) {ts : List TypeId} {ds : List (DataW H)} (hz : (DataW.weightsEach P ts ds).all (· ≤ reachBytes) = true) {j n : Nat} (hts : ts[j]? = some t) (hd : ds[j]? = some d)
    (hb : P.bytesOf e = n) : l.length * n ≤ 140737488351232 := by
  obtain ⟨a, len, cap, rfl⟩ := okWide_slice ht hv
  obtain ⟨A, c, e1, _, _⟩ := hs
  injection e1 with e2 e3 e4
  subst e3
  obtain ⟨fuel, hf⟩ := h
  rcases DataW.trod_slice ht hf with ⟨h1, _⟩ | ⟨a', len', cap', elems, rest, m, _, h1, h2, _, _, _, h3, _⟩
  · simp [Value.cells] at h1
    rw [h1.2.1]; simp
  · simp [Value.cells] at h1
    simp only [Prod.mk.injEq] at h2
    have := sized_slice hz hts (hd.trans (congrArg some h2.1)) ht
    unfold reachBytes at this
    rw [hb] at this
    have h4 : l.length ≤ (elems.map (·.1)).length + (rest.map (·.1)).length := by rw [List.length_map]; omega
    exact Nat.le_trans (Nat.mul_le_mul_right n h4) this
theorem arg_struct {α : Type} [Rep α] {wf : α → Prop} (he : Reads P t α wf) {fs : Array Field} (ht : P.underlying t = some (.struct fs)) {H : Type} {enc : TypeId × Value → H} {w : World} {base b0 : Nat} {spare : Nat → Bool} {held : Bool} {r : Reach} {v : Value} {d : DataW H} {p : List MemPlace}
    (hv : Value.okWide P w r b0 t v) (h : DataW.Trod enc P w base spare held t v d p) : ∃ (a : α) (cs : List Value), v = .agg cs.toArray ∧ Rep.ok (hp w) a cs ∧ wf a := by
  obtain ⟨cs, rfl, _⟩ := okWide_struct ht hv
  obtain ⟨fuel, hf⟩ := h
  obtain ⟨a, h1, h2⟩ := he.get hf
  exact ⟨a, cs.toList, by simp, by simpa [Value.cells] using h1, h2⟩
theorem trodAll_stays {H : Type} {enc : TypeId × Value → H} (hl : laidOutB P = true) {W W' : World} (hb : Below W.heap.size W W') (sp : Nat → Bool) : ∀ {ts : List TypeId} {vs : List Value} {ds : List (DataW H)} {ps : List MemPlace},
    (ts.all fun t => P.readableRec t && decide (t < P.types.size)) = true → DataW.TrodAll enc P W 0 (fun _ => true) true ts vs ds ps → (∀ x ∈ ps, x.block < W.heap.size) → (∀ x ∈ ps, sp x.block = true) → DataW.TrodAll enc P W' 0 sp true ts vs ds ps
  | [], _, _, _, _, h, _, _ => by
    obtain ⟨rfl, rfl, rfl⟩ := trodAll_nil h
    simp [DataW.TrodAll]
  | t :: ts, vs, ds, ps, hr, h, hlt, hsp => by
    obtain ⟨v, vs', d, ds', p, q, rfl, rfl, rfl, h1, h2⟩ := trodAll_cons h
    simp only [List.all_cons, Bool.and_eq_true, decide_eq_true_eq] at hr
    exact trodAll_cons_mk (WideElems.Trod_stays hl hr.1.1 hr.1.2 h1 (fun x hx => hb.same (hlt x (List.mem_append_left _ hx))) (fun x hx => hsp x (List.mem_append_left _ hx)))
      (trodAll_stays hl hb sp (by simpa using hr.2) h2 (fun x hx => hlt x (List.mem_append_right _ hx)) (fun x hx => hsp x (List.mem_append_right _ hx)))
theorem below_of {W W' : World} (h : Hp W (hp W) [] W') : Below W.heap.size W W' := by
  have hb : ∀ k, k < W.heap.size → W'.heap[k]? = W.heap[k]? := fun k hk => by
    have e : W.heap[k]? = some W.heap[k] := by simp [hk]
    have := h.le k W.heap[k] e
    rw [e]; exact this
  refine ⟨h.os, h.tape, h.output, ?_, hb⟩
  rcases Nat.eq_zero_or_pos W.heap.size with h0 | h0
  · omega
  · have := hb (W.heap.size - 1) (by omega)
    have e : W.heap[W.heap.size - 1]? = some W.heap[W.heap.size - 1] := by simp [h0]
    rw [e] at this
    have := (Array.getElem?_eq_some_iff.1 this).1
    omega
theorem hp_whole (W : World) : Hp W (hp W) [] W := ⟨rfl, rfl, rfl, PH.le.rf _⟩
theorem law_post {H : Type} {enc : TypeId × Value → H} {f : Func} {s : ChangeSpec} {W W' : World} {args : Array Value} {ds gs : List (DataW H)} {before : List MemPlace} {tb : TypeId}
    (hl : laidOutB P = true) (hts : (f.params.toList.all fun t => P.readableRec t && decide (t < P.types.size)) = true)
    (hW : DataW.Whole enc P f.params.toList s.vars false W args.toList ds gs before) (hv : s.vars = []) (hr : f.resultTypes = #[tb]) (htb : P.underlying tb = some .bool) (hs : s.fn H (ds ++ gs) = { results := [.lit (.bool true)], args := ds }) (hb : Below W.heap.size W W') :
    s.post enc P f false true false false W args (.bool true) W' := by
  have hlt : ∀ p ∈ before, p.block < W.heap.size := fun p hp => hW.lt p hp
  have hold : ∀ p ∈ before, (fun b => decide (b < W.heap.size)) p.block = true := fun p hp => by simpa using hlt p hp
  have hW0 := hW
  obtain ⟨p, q, hA, hV, rfl, hz, hn⟩ := hW0
  rw [hv] at hV
  obtain ⟨rfl, rfl⟩ := trodVars_none hV
  simp only [List.append_nil] at *
  refine ⟨ds, [], p, [], p, [], by simpa using hW, ?_, ?_, ?_, World.keptBut_mono (fun x hx => ⟨hx, by simpa using hx⟩) (hb.frame (· ∈ p)), fun h => by cases h⟩
  · rw [hr, List.append_nil, hs]
    exact trodAll_mk1 ⟨1, by simp [DataW.trod, htb, Value.cells]⟩
  · rw [List.append_nil, hs]
    exact trodAll_stays hl hb _ hts hA hlt hold
  · rw [hv, List.append_nil, hs]; rfl
end
end Go.Proofs.YtfajmelamonolaaGreatDoor

/- Strings, bytes, and slices of one's own that are only read. Plain theorems over any program. -/
set_option linter.unusedVariables false
set_option linter.unusedSimpArgs false
namespace Go.Proofs.YtfajmelamonolaaGreatDoor
open Go.RowKit
instance encU8 : Enc UInt8 := ⟨1, fun n => [.int .u8 n.toNat], fun _ => rfl, fun _ v h => by rw [List.mem_singleton.1 h]; rfl, by decide⟩
def RoA {α : Type} [Rep α] (v : Value) (l : List α) : Atom := fun k => RoSl k v l
def catK (a b : ByteArray) : Option ByteArray := if a.size + b.size ≤ 4294967296 then some (a ++ b) else none
theorem catK_some {a b r : ByteArray} (h : catK a b = some r) : a.size + b.size ≤ 4294967296 ∧ a ++ b = r := by
  unfold catK at h
  split at h
  · exact ⟨‹_›, Option.some.inj h⟩
  · cases h
theorem bytes_eq (a b : ByteArray) : (a.toList == b.toList) = decide (a = b) := by
  rw [ByteArray.toList_eq, ByteArray.toList_eq]
  obtain ⟨⟨x⟩⟩ := a
  obtain ⟨⟨y⟩⟩ := b
  by_cases h : x = y
  · subst h; simp
  · have h2 : ¬ (ByteArray.mk ⟨x⟩ = ByteArray.mk ⟨y⟩) := fun e => h (by injection e with e; injection e)
    simp [h, h2]
section
variable {Rn : Option Nat} {P : Program} {ops : Array Oper} {Q : Exit → Act → World → Prop} {rest : List Oper} {o : Oper} {a : Act} {w : World} {Df : List Deferred} {N : Nat} {E : Ent} {d : Nat} {Z : World} {ρ : PH} {L : List Atom} {C : World → Prop}
theorem ex_cat {t t' : TypeId} {x y : Operand} (ho : o.op = .binOp .add t x y t') (hE : EnvD Df N E a) {m n r : ByteArray} (hx : evo E x = some (.string m)) (hy : evo E y = some (.string n)) (h : catK m n = some r) : Ex P C a o (.string r) := by
  obtain ⟨h1, rfl⟩ := catK_some h
  refine ex_bin ho hE hx hy fun w _ => ?_
  have : ¬ (((m.size + n.size : Nat) : Int) > IntKind.i64.max) := by
    have e : IntKind.i64.max = 9223372036854775807 := by decide
    rw [e]; omega
  simp only [eqGuard, binOp, Op.stringOp]
  rw [if_neg this]
  simp
theorem ex_seql {t t' : TypeId} {x y : Operand} (ho : o.op = .binOp .eql t x y t') (hE : EnvD Df N E a) {m n : ByteArray} (hx : evo E x = some (.string m)) (hy : evo E y = some (.string n)) : Ex P C a o (.bool (decide (m = n))) :=
  ex_bin ho hE hx hy fun w _ => by
    simp only [eqGuard, binOp, Op.stringOp, bytes_eq]
    simp
theorem ex_sneq {t t' : TypeId} {x y : Operand} (ho : o.op = .binOp .neq t x y t') (hE : EnvD Df N E a) {m n : ByteArray} (hx : evo E x = some (.string m)) (hy : evo E y = some (.string n)) : Ex P C a o (.bool (!decide (m = n))) :=
  ex_bin ho hE hx hy fun w _ => by
    simp only [eqGuard, binOp, Op.stringOp, bytes_eq]
    simp
def RepAll {α : Type} [Rep α] (ρ : PH) : List α → List Value → Prop
  | [], cs => cs = []
  | a :: l, cs => ∃ c r, cs = c ++ r ∧ Rep.ok ρ a c ∧ RepAll ρ l r
theorem RepAll.get {α : Type} [Rep α] {ρ : PH} : ∀ {l : List α} {cs : List Value}, RepAll ρ l cs → ∀ (i : Nat) (a : α), l[i]? = some a → ∃ c, Rep.ok ρ a c ∧ ∀ (j : Nat) (u : Value), c[j]? = some u → cs[i * Rep.sz α + j]? = some u
  | [], _, _, i, a, h => by simp at h
  | b :: l, _, ⟨c, r, rfl, hb, hr⟩, 0, a, h => by
    simp only [List.getElem?_cons_zero, Option.some.injEq] at h
    subst h
    exact ⟨c, hb, fun j u hj => by rw [Nat.zero_mul, Nat.zero_add, List.getElem?_append_left (List.getElem?_eq_some_iff.1 hj).1]; exact hj⟩
  | b :: l, _, ⟨c, r, rfl, hb, hr⟩, i + 1, a, h => by
    rw [List.getElem?_cons_succ] at h
    obtain ⟨c2, h2, h3⟩ := RepAll.get hr i a h
    exact ⟨c2, h2, fun j u hj => by
      have hc := Rep.len hb
      rw [List.getElem?_append_right (by rw [hc, Nat.add_mul]; omega), hc, show (i + 1) * Rep.sz α + j - Rep.sz α = i * Rep.sz α + j from by rw [Nat.add_mul]; omega]
      exact h3 j u hj⟩
theorem RoSl.of_all {α : Type} [Rep α] {l : List α} {b : Nat} {cs : List Value} {T : TypeId} {fz : Nat × Nat} {k : PH} (d : ρ.dj k) (ka : Pt b (.cells cs.toArray T fz) k) (h : RepAll (ρ.un k) l cs) : RoSl (ρ.un k) (.slice (some ⟨b, 0, none⟩) l.length l.length) l := by
  refine ⟨some ⟨b, 0, none⟩, l.length, rfl, Nat.le_refl _, fun i a hi => ?_⟩
  obtain ⟨c, hc, hg⟩ := h.get i a hi
  refine ⟨b, 0, c, rfl, hc, fun j u hj => ?_⟩
  have hb : (ρ.un k) b = some (.cells cs.toArray T fz) := PH.le_un_r d b _ (by rw [ka]; simp [PH.one])
  unfold cellAt
  rw [hb]
  simp only [Nat.zero_add]
  simpa using hg j u hj
theorem RoA.len {α : Type} [Rep α] {T El : TypeId} {sz bytes : Nat} {v : Value} {l : List α} (hp : Hp Z ρ L w) (i : Nat) (hi : L[i]? = some (RoA v l)) (ht : SlTy P T El sz bytes) (w' : World) (ty : TypeId) : (Builtin.len_ #[T] ty #[v]).run P w' = .ok (.int .i64 l.length) w' := by
  obtain ⟨k, hk, _, _⟩ := (hp.get i hi).lend
  exact RoSl.len (ρ := k) hk ht w' ty
end
end Go.Proofs.YtfajmelamonolaaGreatDoor

/- Maps that are owned: their entries in the order of making; lookups, stores, ranges. Plain theorems over any program. -/
set_option linter.unusedVariables false
set_option linter.unusedSimpArgs false
namespace Go.Proofs.YtfajmelamonolaaGreatDoor
open Go.RowKit
open Go.ChangeMaps (setBlock)
class Vl (α : Type) where
  vl : α → Value
instance vlInt : Vl Int := ⟨fun n => .int .i64 n⟩
instance vlBool : Vl Bool := ⟨fun n => .bool n⟩
instance vlStr : Vl ByteArray := ⟨fun n => .string n⟩
instance vlVal : Vl Value := ⟨fun n => n⟩
open Vl (vl)
def mget {κ β : Type} [DecidableEq κ] (l : List (κ × β)) (k : κ) : Option β := (l.find? (fun p => decide (p.1 = k))).map (·.2)
def mput {κ β : Type} [DecidableEq κ] : List (κ × β) → κ → β → List (κ × β)
  | [], k, v => [(k, v)]
  | p :: l, k, v => if p.1 = k then (k, v) :: l else p :: mput l k v
def mhas {κ β : Type} [DecidableEq κ] (l : List (κ × β)) (k : κ) : Bool := (mget l k).isSome
section
variable {κ β : Type} [DecidableEq κ]
theorem mget_at {l : List (κ × β)} (hn : (l.map (·.1)).Nodup) {j : Nat} {p : κ × β} (h : l[j]? = some p) : mget l p.1 = some p.2 := by
  induction l generalizing j with
  | nil => simp at h
  | cons q l ih =>
    rw [List.map_cons, List.nodup_cons] at hn
    cases j with
    | zero => simp at h; subst h; simp [mget]
    | succ j =>
      simp only [List.getElem?_cons_succ] at h
      have hne : q.1 ≠ p.1 := fun e => hn.1 (by rw [e]; exact List.mem_map_of_mem (List.mem_of_getElem? h))
      have := ih hn.2 h
      unfold mget at this ⊢
      rw [List.find?_cons_of_neg (by simpa using hne)]
      exact this
theorem mget_none {l : List (κ × β)} {k : κ} (h : k ∉ l.map (·.1)) : mget l k = none := by
  unfold mget
  rw [List.find?_eq_none.2 (fun p hp => by simp only [decide_eq_true_eq]; exact fun e => h (by rw [← e]; exact List.mem_map_of_mem hp))]
  rfl
theorem mput_new {l : List (κ × β)} {k : κ} {v : β} (h : k ∉ l.map (·.1)) : mput l k v = l ++ [(k, v)] := by
  induction l with
  | nil => rfl
  | cons p l ih =>
    simp only [List.map_cons, List.mem_cons, not_or] at h
    unfold mput
    rw [if_neg (fun e => h.1 e.symm), ih h.2]; rfl
theorem mput_at {l : List (κ × β)} (hn : (l.map (·.1)).Nodup) {k : κ} {v : β} {j : Nat} (h : (l.map (·.1))[j]? = some k) : mput l k v = l.set j (k, v) := by
  induction l generalizing j with
  | nil => simp at h
  | cons q l ih =>
    rw [List.map_cons, List.nodup_cons] at hn
    cases j with
    | zero => simp at h; subst h; simp [mput]
    | succ j =>
      simp only [List.map_cons, List.getElem?_cons_succ] at h
      have hne : q.1 ≠ k := fun e => hn.1 (by rw [e]; exact List.mem_of_getElem? h)
      unfold mput
      rw [if_neg hne, ih hn.2 h]; rfl
theorem mput_keys (l : List (κ × β)) (k : κ) (v : β) : (mput l k v).map (·.1) = if k ∈ l.map (·.1) then l.map (·.1) else l.map (·.1) ++ [k] := by
  induction l with
  | nil => rfl
  | cons p l ih =>
    unfold mput
    by_cases h : p.1 = k
    · subst h; simp
    · rw [if_neg h]
      simp only [List.map_cons, ih, List.mem_cons, fun e : k = p.1 => h e.symm, false_or]
      have : ¬ k = p.1 := fun e => h e.symm
      simp only [this, false_or]
      split <;> simp
end
structure KT (P : Program) (kt : TypeId) (κ : Type) [Vl κ] [DecidableEq κ] : Prop where
  check : ∀ em (k : κ) w, (Instr.checkKey em 10000 kt (vl k)).run P w = .ok () w
  find : ∀ w (x : κ) (ks : List κ) (es : List MapEntry), es.map (·.key) = ks.map vl → (((Instr.findKey kt (vl x) es).run P w = .ok none w ∧ x ∉ ks) ∨ ∃ j e, (Instr.findKey kt (vl x) es).run P w = .ok (some (j, e.val)) w ∧ es[j]? = some e ∧ ks[j]? = some x)
  stays : ∀ w (k : κ), (Instr.keyThatStays (vl k) (vl k)).run P w = .ok (vl k) w
section
variable {Rn : Option Nat} {P : Program}
end
structure EntOk {κ β : Type} [Vl κ] [Vl β] (es : Array MapEntry) (clock : Nat) (l : List (κ × β)) : Prop where
  ents : es.toList.map (fun e => (e.key, e.val)) = l.map (fun p => (vl p.1, vl p.2))
  nodup : (es.toList.map (·.born)).Nodup
  lt : ∀ e ∈ es.toList, e.born < clock
  keys : (l.map (·.1)).Nodup
def MapA {κ β : Type} [Vl κ] [Vl β] (b : Nat) (l : List (κ × β)) : Atom := fun k => ∃ es clock, k = PH.one b (.map es clock) ∧ EntOk es clock l
def star (A B : Atom) : Atom := fun k => ∃ k1 k2, A k1 ∧ B k2 ∧ k1.dj k2 ∧ k = k1.un k2
theorem Sep.two {A B : Atom} {L : List Atom} {ρ h : PH} : Sep ρ (star A B :: L) h ↔ Sep ρ (A :: B :: L) h := by
  constructor
  · rintro ⟨k, ⟨k1, k2, a, b, d, rfl⟩, dk, hs⟩
    have dk' := PH.dj_un.1 dk.symm
    exact ⟨k1, a, dk'.1.symm, k2, b, PH.dj_un.2 ⟨dk'.2.symm, d⟩, by rw [PH.un_assoc]; exact hs⟩
  · rintro ⟨k1, a, d1, k2, b, d2, hs⟩
    obtain ⟨d2, d3⟩ := PH.dj_un.1 d2
    exact ⟨k1.un k2, ⟨k1, k2, a, b, d3, rfl⟩, (PH.dj_un.2 ⟨d1.symm, d2.symm⟩).symm, by rw [← PH.un_assoc]; exact hs⟩
def MapIt {κ β : Type} [Vl κ] [Vl β] (b r : Nat) (l rem : List (κ × β)) (cur : Option (κ × β)) : Atom := fun k => ∃ es clock since seen last,
  star (Pt b (.map es clock)) (Pt r (.mapIter (some b) since seen last)) k ∧ EntOk es clock l ∧ (∀ e ∈ es.toList, e.born < since) ∧ since ≤ last ∧ since ≤ clock ∧
  (leftOf es seen).toList.map (fun e => (e.key, e.val)) = rem.map (fun p => (vl p.1, vl p.2)) ∧ rem.Sublist l ∧
  (∀ c, cur = some c → last = clock ∧ ∃ (e : MapEntry) (seen' : Array Nat), seen = seen'.push e.born ∧ e ∈ es.toList ∧ e.key = vl c.1 ∧ e.val = vl c.2)
section
variable {Rn : Option Nat} {P : Program} {ops : Array Oper} {Q : Exit → Act → World → Prop} {rest : List Oper} {o : Oper} {a : Act} {w : World} {Df : List Deferred} {N : Nat} {E : Ent} {d : Nat} {Z : World} {ρ : PH} {L : List Atom}
variable {κ β : Type} [Vl κ] [Vl β]
theorem Hp.fact {p : Prop} {A : Atom} (h : Hp Z ρ ((fun k => A k ∧ p) :: L) w) : Hp Z ρ (A :: L) w ∧ p := by
  obtain ⟨k, ⟨a, hp⟩, d, s⟩ := h.sep
  exact ⟨⟨h.os, h.tape, h.output, k, a, d, s⟩, hp⟩
theorem Hp.map {b : Nat} {l : List (κ × β)} (h : Hp Z ρ (MapA b l :: L) w) : ∃ es clock, Hp Z ρ (Pt b (.map es clock) :: L) w ∧ EntOk es clock l := by
  obtain ⟨k, ⟨es, clock, rfl, e⟩, d, s⟩ := h.sep
  exact ⟨es, clock, ⟨h.os, h.tape, h.output, _, rfl, d, s⟩, e⟩
theorem Hp.mapShut {b : Nat} {l : List (κ × β)} {es : Array MapEntry} {clock : Nat} (h : Hp Z ρ (Pt b (.map es clock) :: L) w) (e : EntOk es clock l) : Hp Z ρ (MapA b l :: L) w := h.imp fun k hk => ⟨es, clock, hk, e⟩
theorem EntOk.at {es : Array MapEntry} {clock : Nat} {l : List (κ × β)} (h : EntOk es clock l) {j : Nat} {e : MapEntry} (he : es.toList[j]? = some e) : ∃ p, l[j]? = some p ∧ e.key = vl p.1 ∧ e.val = vl p.2 := by
  have e1 : (es.toList.map (fun e => (e.key, e.val)))[j]? = some (e.key, e.val) := by rw [List.getElem?_map, he]; rfl
  rw [h.ents, List.getElem?_map] at e1
  obtain ⟨p, hp, e2⟩ := Option.map_eq_some_iff.1 e1
  exact ⟨p, hp, (congrArg Prod.fst e2).symm, (congrArg Prod.snd e2).symm⟩
theorem EntOk.size {es : Array MapEntry} {clock : Nat} {l : List (κ × β)} (h : EntOk es clock l) : es.size = l.length := by
  have := congrArg List.length h.ents
  simpa using this
section
variable [DecidableEq κ]
theorem EntOk.put {es : Array MapEntry} {clock : Nat} {l : List (κ × β)} (e : EntOk es clock l) (k : κ) (v : β) (hk : k ∉ l.map (·.1)) : EntOk (es.push { key := vl k, val := vl v, born := clock }) (clock + 1) (mput l k v) := by
  refine ⟨by rw [mput_new hk]; simp [e.ents], ?_, ?_, ?_⟩
  · rw [Array.toList_push, List.map_append, List.nodup_append]
    refine ⟨e.nodup, by simp, fun x hx y hy => ?_⟩
    obtain ⟨en, he, rfl⟩ := List.mem_map.1 hx
    simp at hy; subst hy
    exact Nat.ne_of_lt (e.lt en he)
  · intro x hx
    rw [Array.toList_push, List.mem_append] at hx
    rcases hx with hx | hx
    · exact Nat.lt_succ_of_lt (e.lt x hx)
    · simp at hx; subst hx; exact Nat.lt_succ_self _
  · rw [mput_keys, if_neg hk, List.nodup_append]
    exact ⟨e.keys, by simp, fun x hx y hy => by simp at hy; subst hy; exact fun e => hk (e ▸ hx)⟩
theorem EntOk.turn {es : Array MapEntry} {clock : Nat} {l : List (κ × β)} (e : EntOk es clock l) (k : κ) (v : β) {j : Nat} {en : MapEntry} (hj : es.toList[j]? = some en) (hk : (l.map (·.1))[j]? = some k) : EntOk (es.modify j fun e => { e with key := vl k, val := vl v }) clock (mput l k v) := by
  have hm := mput_at (v := v) e.keys hk
  have htl : (es.modify j fun e => { e with key := vl k, val := vl v }).toList = es.toList.set j { en with key := vl k, val := vl v } := by
    apply List.ext_getElem?
    intro i
    simp only [Array.toList_modify, List.getElem?_modify, List.getElem?_set]
    by_cases h : j = i
    · subst h
      have := (List.getElem?_eq_some_iff.1 hj).1
      simp only [hj, Option.map_some, if_true]
      rw [if_pos this]; rfl
    · simp [h]
  refine ⟨?_, ?_, ?_, ?_⟩
  · rw [htl, hm, List.map_set, List.map_set, e.ents]
  · rw [htl, List.map_set]
    have : (es.toList.map (·.born)).set j en.born = es.toList.map (·.born) := by
      apply List.ext_getElem?
      intro i
      rw [List.getElem?_set]
      split
      · rename_i h; subst h
        rw [List.getElem?_map, hj]
        have := (List.getElem?_eq_some_iff.1 hj).1
        simp only [List.length_map, this, if_true, Option.map_some]
      · rfl
    rw [this]; exact e.nodup
  · intro x hx
    rw [htl] at hx
    rcases List.mem_or_eq_of_mem_set hx with hx | hx
    · exact e.lt x hx
    · subst hx; exact e.lt en (List.mem_of_getElem? hj)
  · rw [mput_keys, if_pos (List.mem_of_getElem? hk)]; exact e.keys
end
theorem Hp.it {b r : Nat} {l rem : List (κ × β)} {cur : Option (κ × β)} (h : Hp Z ρ (MapIt b r l rem cur :: L) w) : ∃ es clock since seen last, Hp Z ρ (Pt b (.map es clock) :: Pt r (.mapIter (some b) since seen last) :: L) w ∧ EntOk es clock l ∧ (∀ e ∈ es.toList, e.born < since) ∧ since ≤ last ∧ since ≤ clock ∧
  (leftOf es seen).toList.map (fun e => (e.key, e.val)) = rem.map (fun p => (vl p.1, vl p.2)) ∧ rem.Sublist l ∧
  (∀ c, cur = some c → last = clock ∧ ∃ (e : MapEntry) (seen' : Array Nat), seen = seen'.push e.born ∧ e ∈ es.toList ∧ e.key = vl c.1 ∧ e.val = vl c.2) := by
  obtain ⟨k, ⟨es, clock, since, seen, last, hk, r⟩, d, s⟩ := h.sep
  exact ⟨es, clock, since, seen, last, h.with_ rfl rfl rfl (Sep.two.1 ⟨k, hk, d, s⟩), r⟩
theorem MapIt.done {b r : Nat} {l rem : List (κ × β)} {cur : Option (κ × β)} (h : Hp Z ρ (MapIt b r l rem cur :: L) w) : Hp Z ρ (MapA b l :: L) w := by
  obtain ⟨es, clock, since, seen, last, hp, e, _⟩ := h.it
  exact (hp.drop2).mapShut e
theorem map_erase {ε ζ : Type} (f : ε → ζ) : ∀ (l : List ε) (i : Nat), (l.eraseIdx i).map f = (l.map f).eraseIdx i
  | [], i => by simp
  | a :: l, 0 => rfl
  | a :: l, i + 1 => by simp [map_erase f l i]
end
end Go.Proofs.YtfajmelamonolaaGreatDoor

/- Tables: slices of slices that are written in place. Plain theorems over any program. -/
set_option linter.unusedVariables false
set_option linter.unusedSimpArgs false
namespace Go.Proofs.YtfajmelamonolaaGreatDoor
open Go.RowKit
def Sl : Type := { v : Value // ∃ A n c, v = .slice A n c }
def Sl.v (s : Sl) : Value := s.1
def Sl.nil : Sl := ⟨.slice none 0 0, none, 0, 0, rfl⟩
theorem Sl.one (s : Sl) : s.v.oneCell' = true := by obtain ⟨v, A, n, c, rfl⟩ := s; rfl
theorem Sl.cells (s : Sl) : s.v.cells = #[s.v] := by obtain ⟨v, A, n, c, rfl⟩ := s; rfl
instance encSl : Enc Sl := ⟨1, fun s => [s.v], fun _ => rfl, fun s v h => by rw [List.mem_singleton.1 h]; exact s.one, by decide⟩
theorem OwnSl.toSl {α : Type} [Enc α] {Z : World} {ρ : PH} {L : List Atom} {w : World} {El : TypeId} {v : Value} {l : List α} (hp : Hp Z ρ L w) (k : Nat) (hk : L[k]? = some (OwnSl El v l)) : ∃ s : Sl, s.v = v := by
  rcases (hp.get k hk).row.2 with ⟨A, rfl, _⟩ | ⟨g, off, cap, cur, rfl, _⟩
  · exact ⟨⟨_, _, _, _, rfl⟩, rfl⟩
  · exact ⟨⟨_, _, _, _, rfl⟩, rfl⟩
instance (priority := 50) repList {α : Type} [Rep α] : Rep (List α) := ⟨1, fun ρ l cs => ∃ v, cs = [v] ∧ RoSl ρ v l, fun ⟨_, h, _⟩ => by rw [h]; rfl, fun hl ⟨v, h, k⟩ => ⟨v, h, k.mono hl⟩⟩
def RowsA {α : Type} [Enc α] (Ti : TypeId) : List Sl → List (List α) → Atom
  | [], [] => fun k => k = PH.emp
  | u :: us, r :: l => star (OwnSl Ti u.v r) (RowsA Ti us l)
  | _, _ => fun _ => False
section
variable {α : Type} [Enc α] {Ti : TypeId} {L : List Atom} {ρ h : PH}
theorem Sep.emp1 : Sep ρ ((fun k => k = PH.emp) :: L) h ↔ Sep ρ L h := by
  have e : ρ.un PH.emp = ρ := by funext b; unfold PH.un PH.emp; cases ρ b <;> rfl
  constructor
  · rintro ⟨k, rfl, d, hs⟩; rw [e] at hs; exact hs
  · intro hs; exact ⟨PH.emp, rfl, PH.dj_emp ρ, by rw [e]; exact hs⟩
theorem RowsA.len {us : List Sl} {l : List (List α)} (hs : Sep ρ (RowsA Ti us l :: L) h) : us.length = l.length := by
  induction us generalizing l ρ L with
  | nil =>
    cases l with
    | nil => rfl
    | cons r l => obtain ⟨k, a, _⟩ := hs; exact a.elim
  | cons u us ih =>
    cases l with
    | nil => obtain ⟨k, a, _⟩ := hs; exact a.elim
    | cons r l => simp only [List.length_cons]; rw [ih (Sep.swap (Sep.two.1 hs))]
theorem RowsA.take : ∀ {us : List Sl} {l : List (List α)} (i : Nat) {u : Sl} {r : List α} {ρ h : PH} {L : List Atom}, us[i]? = some u → l[i]? = some r →
    (Sep ρ (RowsA Ti us l :: L) h ↔ Sep ρ (OwnSl Ti u.v r :: RowsA Ti (us.eraseIdx i) (l.eraseIdx i) :: L) h)
  | [], _, i, _, _, _, _, _, h1, _ => by simp at h1
  | _ :: _, [], i, _, _, _, _, _, _, h2 => by simp at h2
  | u0 :: us, r0 :: l, 0, u, r, ρ, h, L, h1, h2 => by
    simp only [List.getElem?_cons_zero, Option.some.injEq] at h1 h2
    subst h1 h2
    exact Sep.two
  | u0 :: us, r0 :: l, i + 1, u, r, ρ, h, L, h1, h2 => by
    simp only [List.getElem?_cons_succ] at h1 h2
    constructor
    · intro hs
      exact Sep.cons_mono (fun ρ h => Sep.two.2) (Sep.swap (Sep.cons_mono (fun ρ h => (RowsA.take i h1 h2).1) (Sep.two.1 hs)))
    · intro hs
      exact Sep.two.2 (Sep.cons_mono (fun ρ h => (RowsA.take i h1 h2).2) (Sep.swap (Sep.cons_mono (fun ρ h => Sep.two.1) hs)))
theorem RowsA.snoc : ∀ {us : List Sl} {l : List (List α)} {u : Sl} {r : List α} {ρ h : PH} {L : List Atom}, Sep ρ (OwnSl Ti u.v r :: RowsA Ti us l :: L) h → Sep ρ (RowsA Ti (us ++ [u]) (l ++ [r]) :: L) h
  | [], [], u, r, ρ, h, L, hs => Sep.two.2 (Sep.cons_mono (fun ρ h h1 => Sep.emp1.2 (Sep.emp1.1 h1)) hs)
  | [], _ :: _, _, _, _, _, _, hs => by obtain ⟨_, _, _, k, a, _⟩ := hs; exact a.elim
  | _ :: _, [], _, _, _, _, _, hs => by obtain ⟨_, _, _, k, a, _⟩ := hs; exact a.elim
  | u0 :: us, r0 :: l, u, r, ρ, h, L, hs => Sep.two.2 (Sep.cons_mono (fun ρ h => RowsA.snoc) (Sep.swap (Sep.cons_mono (fun ρ h => Sep.two.1) hs)))
theorem RowsA.nils : ∀ (n : Nat) {ρ h : PH} {L : List Atom}, Sep ρ L h → Sep ρ (RowsA Ti (List.replicate n Sl.nil) (List.replicate n ([] : List α)) :: L) h
  | 0, _, _, _, hs => Sep.emp1.2 hs
  | n + 1, ρ, h, L, hs => Sep.two.2 (by
    have h1 := RowsA.nils n hs
    refine ⟨PH.emp, OwnSl.nil Ti, PH.dj_emp ρ, ?_⟩
    have e : ρ.un PH.emp = ρ := by funext b; unfold PH.un PH.emp; cases ρ b <;> rfl
    rw [e]; exact h1)
end
def TblA {α : Type} [Enc α] (T Ti : TypeId) (v : Value) (us : List Sl) (l : List (List α)) : Atom := star (OwnSl T v us) (RowsA Ti us l)
section
variable {Rn : Option Nat} {P : Program} {ops : Array Oper} {Q : Exit → Act → World → Prop} {rest : List Oper} {o : Oper} {a : Act} {w : World} {Df : List Deferred} {N : Nat} {E : Ent} {d : Nat} {Z : World} {ρ : PH} {L : List Atom}
variable {α : Type} [Enc α] {T Ti To Tr : TypeId} {v : Value} {us : List Sl} {l : List (List α)} {bytes : Nat}
theorem Hp.tbl (h : Hp Z ρ (TblA T Ti v us l :: L) w) : Hp Z ρ (OwnSl T v us :: RowsA Ti us l :: L) w := h.to Sep.two.1
theorem Hp.tblShut (h : Hp Z ρ (OwnSl T v us :: RowsA Ti us l :: L) w) : Hp Z ρ (TblA T Ti v us l :: L) w := h.to Sep.two.2
theorem TblA.lens (hp : Hp Z ρ (TblA T Ti v us l :: L) w) : us.length = l.length := RowsA.len (Sep.swap hp.tbl.sep)
theorem TblA.slice (hp : Hp Z ρ L w) (k : Nat) (hk : L[k]? = some (TblA T Ti v us l)) : ∃ s : Sl, s.v = v := OwnSl.toSl (hp.get k hk).tbl 0 rfl
theorem TblA.cells (hp : Hp Z ρ L w) (k : Nat) (hk : L[k]? = some (TblA T Ti v us l)) : v.cells = #[v] := by obtain ⟨s, rfl⟩ := TblA.slice hp k hk; exact s.cells
theorem TblA.one (hp : Hp Z ρ L w) (k : Nat) (hk : L[k]? = some (TblA T Ti v us l)) : v.oneCell' = true := by obtain ⟨s, rfl⟩ := TblA.slice hp k hk; exact s.one
theorem TblA.len (hp : Hp Z ρ L w) (k : Nat) (hk : L[k]? = some (TblA T Ti v us l)) (ht : SlTy P To T 1 bytes) (w : World) (ty : TypeId) : (Builtin.len_ #[To] ty #[v]).run P w = .ok (.int .i64 l.length) w := by
  have h := (hp.get k hk)
  rw [← TblA.lens h]
  exact OwnSl.len h.tbl 0 rfl ht w ty
theorem TblA.hdr (hp : Hp Z ρ L w) (k : Nat) (hk : L[k]? = some (TblA T Ti v us l)) (ht : SlTy P To T 1 bytes) {i : Int} {r : List α} (hi : idx l i = some r) :
    ∃ (u : Sl) (g off : Nat), idx us i = some u ∧ (∀ w, (Instr.indexAt To v (.int .i64 i)).run P w = .ok (.pointer (some ⟨g, off, none⟩)) w) ∧ (∃ of0 cap, v = .slice (some ⟨g, of0, none⟩) us.length cap ∧ off = of0 + i.toNat * 1) ∧
      ∀ (j : Nat) (x : Value), [u.v][j]? = some x → ∀ ρ' L' w, Hp Z ρ' (TblA T Ti v us l :: L') w → w.cell? ⟨g, off + j, none⟩ = some x := by
  have h := (hp.get k hk)
  obtain ⟨i0, i1, i2⟩ := idx_some hi
  have hl := TblA.lens h
  have hu : idx us i = some us[i.toNat] := by unfold idx; rw [if_pos i0]; exact List.getElem?_eq_getElem (by omega)
  obtain ⟨g, off, e1, e2, e3⟩ := OwnSl.at h.tbl 0 rfl ht hu
  exact ⟨_, g, off, hu, e1, e2, fun j x hx ρ' L' w hw => e3 j x hx _ _ w hw.tbl⟩
theorem TblA.focus (hp : Hp Z ρ L w) (k : Nat) (hk : L[k]? = some (TblA T Ti v us l)) {i : Int} {u : Sl} {r : List α} (hu : idx us i = some u) (hi : idx l i = some r) :
    Hp Z ρ (OwnSl Ti u.v r :: RowsA Ti (us.eraseIdx i.toNat) (l.eraseIdx i.toNat) :: OwnSl T v us :: L.eraseIdx k) w :=
  (hp.get k hk).tbl.to fun s => (RowsA.take i.toNat (idx_some hu).2.2 (idx_some hi).2.2).1 s.swap
theorem TblA.at (hp : Hp Z ρ L w) (k : Nat) (hk : L[k]? = some (TblA T Ti v us l)) (ht : SlTy P Tr Ti (Enc.sz α) bytes) {i j : Int} {u : Sl} {r : List α} {e : α} (hu : idx us i = some u) (hi : idx l i = some r) (hj : idx r j = some e) :
    ∃ g off, (∀ w, (Instr.indexAt Tr u.v (.int .i64 j)).run P w = .ok (.pointer (some ⟨g, off, none⟩)) w) ∧ (∃ of0 cap, u.v = .slice (some ⟨g, of0, none⟩) r.length cap ∧ off = of0 + j.toNat * Enc.sz α) ∧ ∀ (j : Nat) (x : Value), (Enc.enc e)[j]? = some x → ∀ ρ' L' w, Hp Z ρ' (TblA T Ti v us l :: L') w → w.cell? ⟨g, off + j, none⟩ = some x := by
  obtain ⟨g, off, e1, e2, e3⟩ := OwnSl.at (TblA.focus hp k hk hu hi) 0 rfl ht hj
  exact ⟨g, off, e1, e2, fun j x hx ρ' L' w hw => e3 j x hx _ _ w (TblA.focus hw 0 rfl hu hi)⟩
theorem set_self {β : Type} {l : List β} {i : Nat} {x : β} (h : l[i]? = some x) : l.set i x = l := by
  apply List.ext_getElem?
  intro j
  rw [List.getElem?_set]
  split
  · rename_i e; subst e; rw [if_pos (List.getElem?_eq_some_iff.1 h).1, h]
  · rfl
theorem TblA.unfocus (k : Nat) (hk : L[k]? = some (TblA T Ti v us l)) {i : Int} {u : Sl} {r r' : List α} (hu : idx us i = some u) (hi : idx l i = some r)
    (hp : Hp Z ρ (OwnSl Ti u.v r' :: RowsA Ti (us.eraseIdx i.toNat) (l.eraseIdx i.toNat) :: OwnSl T v us :: L.eraseIdx k) w) : Hp Z ρ (L.set k (TblA T Ti v us (l.set i.toNat r'))) w := by
  obtain ⟨_, hui, hus⟩ := idx_some hu
  obtain ⟨_, hli, hls⟩ := idx_some hi
  refine Hp.put k (List.getElem?_eq_some_iff.1 hk).1 ((hp.to fun s => Sep.swap ?_).tblShut)
  refine (RowsA.take (us := us) (l := l.set i.toNat r') (r := r') i.toNat hus (by rw [List.getElem?_set_self (by omega)])).2 ?_
  have e2 : (l.set i.toNat r').eraseIdx i.toNat = l.eraseIdx i.toNat := List.eraseIdx_set_eq
  rw [e2]; exact s
theorem s_tmake (wk : Region.wanted o (yielded ops a.tmps) = true) (hd : o.dst = some d) (hN : Nat.blt d N = true) (hE : EnvD Df N E a) (hp : Hp Z ρ L w) {x y : Operand} (ho : o.op = .makeSlice To x y) (hu : P.underlying To = some (.slice T))
    (hi : (P.info? T).map (fun i => (i.zero.map Value.cells, i.size, i.bytes)) = some (some #[.slice none 0 0], 1, bytes)) (hby : Nat.ble bytes 16384 = true) {k k' : IntKind} {n c : Int} (hx : evo E x = some (.int k n)) (hy : evo E y = some (.int k' c)) {r : List (List α)} (hr : mkc n c ([] : List α) = some r) (Ti : TypeId)
    (K : ∀ v us a w, EnvD Df N ((d, v) :: E) a → Hp Z ρ (TblA T Ti v us r :: L) w → wpL Rn P ops Q rest a w) : wpL Rn P ops Q (o :: rest) a w := by
  obtain ⟨h0, h1, h2, rfl⟩ := mkc_some hr
  refine s_make (α := Sl) wk hd hN hE hp ho hu Sl.nil hi hby hx hy (r := List.replicate n.toNat Sl.nil) (by unfold mkc; rw [if_pos ⟨h0, h1, h2⟩]) fun v a w hE hp => K v _ a w hE (Hp.tblShut (hp.to fun s => Sep.cons_mono (fun ρ h s => RowsA.nils _ s) s))
theorem TblA.none (T Ti : TypeId) (A : Option Addr) : TblA T Ti (.slice A 0 0) [] ([] : List (List α)) PH.emp :=
  ⟨PH.emp, PH.emp, OwnSl.nilA T A, rfl, PH.dj_emp _, by funext b; rfl⟩
theorem s_tapp (wk : Region.wanted o (yielded ops a.tmps) = true) (hd : o.dst = some d) (hN : Nat.blt d N = true) (hE : EnvD Df N E a) {ur : Sl} {vr : Value} (he : ur.v = vr) {r' : List α} (hp : Hp Z ρ (OwnSl Ti vr r' :: L) w) {x y : Operand} (ho : o.op = .call { callee := .builtin .append, args := #[x, y], argTypes := #[To, To] }) (ht : SlTy P To T 1 bytes) (hby : Nat.ble bytes 16384 = true)
    (hx : evo E x = some v) (k : Nat) (hk : L[k]? = some (TblA T Ti v us l)) {b off c : Nat} (hy : evo E y = some (.slice (some ⟨b, off, none⟩) 1 c)) (hn : w.cell? ⟨b, off, none⟩ = some vr) {l' : List (List α)} (hr : app l [r'] = some l')
    (K : ∀ v' us' a w, EnvD Df N ((d, v') :: E) a → Hp Z ρ (L.set k (TblA T Ti v' us' l')) w → wpL Rn P ops Q rest a w) : wpL Rn P ops Q (o :: rest) a w := by
  obtain ⟨hlen, rfl⟩ := app_some hr
  subst he
  have h0 : Hp Z ρ (OwnSl T v us :: OwnSl Ti ur.v r' :: RowsA Ti us l :: L.eraseIdx k) w := (Hp.tbl (hp.get (k + 1) (A := TblA T Ti v us l) (by simpa using hk))).to fun s => Sep.cons_mono (fun ρ h => Sep.swap) s
  have hus := TblA.lens (hp.get (k + 1) (A := TblA T Ti v us l) (by simpa using hk))
  refine s_app (α := Sl) wk hd hN hE h0 ho ht hby hx 0 rfl hy (l2 := [ur]) (r := us ++ [ur]) rfl (fun j z hj => ?_) (by unfold app; rw [if_pos (by simp at hlen ⊢; omega)]) fun v' a w hE hw => K v' (us ++ [ur]) a w hE ?_
  · cases j with
    | zero =>
      simp only [flat, List.flatMap_cons, List.flatMap_nil, List.append_nil, Enc.enc, List.getElem?_cons_zero, Option.some.injEq] at hj
      subst hj; exact hn
    | succ j => simp [flat, Enc.enc] at hj
  · exact Hp.put k (List.getElem?_eq_some_iff.1 hk).1 (Hp.tblShut (hw.to fun s => Sep.cons_mono (fun ρ h s => RowsA.snoc s) s))
theorem RowsA.at_ : ∀ {us : List Sl} {l : List (List α)} {k : PH} (i : Nat) {u : Sl} {r : List α}, RowsA Ti us l k → us[i]? = some u → l[i]? = some r → ∃ k', OwnSl Ti u.v r k' ∧ k'.le k
  | [], _, _, i, _, _, _, h1, _ => by simp at h1
  | _ :: _, [], _, i, _, _, h, _, _ => h.elim
  | u0 :: us, r0 :: l, k, 0, u, r, h, h1, h2 => by
    obtain ⟨k1, k2, ha, hb, d, rfl⟩ := h
    simp only [List.getElem?_cons_zero, Option.some.injEq] at h1 h2
    subst h1 h2
    exact ⟨k1, ha, PH.le_un _ _⟩
  | u0 :: us, r0 :: l, k, i + 1, u, r, h, h1, h2 => by
    obtain ⟨k1, k2, ha, hb, d, rfl⟩ := h
    obtain ⟨k', h3, h4⟩ := RowsA.at_ i hb (by simpa using h1) (by simpa using h2)
    exact ⟨k', h3, h4.tr (PH.le_un_r d)⟩
theorem TblA.ro {k : PH} (d : ρ.dj k) (h : TblA T Ti v us l k) : RoSl (ρ.un k) v l := by
  obtain ⟨k1, k2, ha, hb, d2, rfl⟩ := h
  have hl : us.length = l.length := RowsA.len (ρ := k1) (h := k1.un k2) (L := []) ⟨k2, hb, d2, PH.le.rf _⟩
  have d12 := PH.dj_un.1 d.symm
  obtain ⟨A, c, e1, e2, e3⟩ := OwnSl.ro d12.1.symm ha
  refine ⟨A, c, by rw [← hl]; exact e1, by rw [← hl]; exact e2, fun i r hi => ?_⟩
  have hlt := (List.getElem?_eq_some_iff.1 hi).1
  obtain ⟨b, o, cs, h1, h2, h3⟩ := e3 i us[i] (List.getElem?_eq_getElem (by omega))
  obtain ⟨k', h4, h5⟩ := RowsA.at_ i hb (List.getElem?_eq_getElem (by omega)) hi
  have hk : k'.le (ρ.un (k1.un k2)) := h5.tr ((PH.le_un_r d2).tr (PH.le_un_r d))
  refine ⟨b, o, cs, h1, ⟨us[i].v, h2, ?_⟩, h3.mono (by rw [← PH.un_assoc]; exact PH.le_un _ _)⟩
  have h6 : RoSl (PH.emp.un k') us[i].v r := OwnSl.ro (PH.dj_emp k').symm h4
  exact h6.mono (by
    have : PH.emp.un k' = k' := by funext x; rfl
    rw [this]; exact hk)
theorem TblA.lend (hp : Hp Z ρ L w) (k : Nat) (hk : L[k]? = some (TblA T Ti v us l)) {i : Int} {u : Sl} {r : List α} (hu : idx us i = some u) (hi : idx l i = some r) :
    ∃ κ, RoSl (ρ.un κ) u.v r ∧ Hp Z (ρ.un κ) (RowsA Ti (us.eraseIdx i.toNat) (l.eraseIdx i.toNat) :: OwnSl T v us :: L.eraseIdx k) w ∧
      ∀ w, Hp Z (ρ.un κ) (RowsA Ti (us.eraseIdx i.toNat) (l.eraseIdx i.toNat) :: OwnSl T v us :: L.eraseIdx k) w → Hp Z ρ L w := by
  obtain ⟨κ, ha, hd, h⟩ := (TblA.focus hp k hk hu hi).lend
  refine ⟨κ, OwnSl.ro hd ha, h, fun w hw => ?_⟩
  have := TblA.unfocus k hk hu hi (Hp.back ha hd hw)
  rw [set_self (idx_some hi).2.2, set_same hk] at this
  exact this
end
section
variable {Rn : Option Nat} {P : Program} {fn : Func} {R : Ending → World → Prop} {a : Act} {w : World} {Df : List Deferred} {N : Nat} {E : Ent}
theorem ret0n (hE : Env N E a) (hr : fn.results = #[]) (h : R (.returned (.tuple #[])) w) : bodyPost P fn R .normal a w :=
  ⟨hE.defers, _, by simp [results, hr], h⟩
theorem ret0 (hE : Env N E a) (hr : fn.results = #[]) (h : R (.returned (.tuple #[])) w) : bodyPost P fn R .ret a w :=
  ⟨hE.defers, _, by simp [results, hr], h⟩
theorem run_lv1 {T : TypeId} (ht : VarTy P T false 1) {p : Addr} {v : Value} {w : World} (h : w.cell? p = some v) : (loadVar T p).run P w = .ok v w := by
  simp [loadVar, ht.agg_ w, load, Sem.run, h]
theorem run_lvN {T : TypeId} {cs : List Value} (ht : VarTy P T true cs.length) {b o : Nat} {w : World} (h : ∀ j u, cs[j]? = some u → w.cell? ⟨b, o + j, none⟩ = some u) : (loadVar T ⟨b, o, none⟩).run P w = .ok (.agg cs.toArray) w := by
  have := run_loadCells_list (P := P) (w := w) ⟨b, o, none⟩ cs (fun j v hj => by rw [Addr.add_lit]; exact h j v hj)
  simp [loadVar, ht.agg_ w, ht.size_ w, this]
theorem retc1 (hE : Env N E a) {t : Nat} {T : TypeId} (hr : fn.results = #[.cell t T]) {p : Addr} (hv : lk E t = some (.pointer (some p))) {v : Value} (hl : (loadVar T p).run P w = .ok v w) (h : R (.returned v) w) : bodyPost P fn R .ret a w := by
  refine ⟨hE.defers, v, ?_, h⟩
  have := hE.val t _ hv
  simp [results, hr, Array.getD_eq_getD_getElem?, this, asAddr, hl]
end
end Go.Proofs.YtfajmelamonolaaGreatDoor

/- Maps of slices: the map's own part holds the heads, another part the rows. Plain theorems over any program. -/
set_option linter.unusedVariables false
set_option linter.unusedSimpArgs false
namespace Go.Proofs.YtfajmelamonolaaGreatDoor
open Vl (vl)
open Go.RowKit
open Go.ChangeMaps (setBlock)
instance vlSl : Vl Sl := ⟨fun s => s.v⟩
def mset {κ β : Type} [DecidableEq κ] (l : List (κ × β)) (k : κ) (v : β) : List (κ × β) := if mhas l k then mput l k v else l
def guardEq {κ : Type} [DecidableEq κ] (a b : κ) : Option Unit := if a = b then some () else none
theorem guardEq_some {κ : Type} [DecidableEq κ] {a b : κ} {u : Unit} (h : guardEq a b = some u) : a = b := by
  unfold guardEq at h; split at h
  · assumption
  · cases h
section
variable {κ β : Type} [DecidableEq κ]
theorem mhas_iff {l : List (κ × β)} {k : κ} : mhas l k = true ↔ k ∈ l.map (·.1) := by
  unfold mhas mget
  rw [Option.isSome_map, List.find?_isSome]
  simp
theorem mget_mem {l : List (κ × β)} (hn : (l.map (·.1)).Nodup) {k : κ} {v : β} (h : (k, v) ∈ l) : mget l k = some v := by
  obtain ⟨j, hj⟩ := List.getElem?_of_mem h
  exact mget_at hn hj
theorem filter_ne {l : List (κ × β)} (hn : (l.map (·.1)).Nodup) {k : κ} {j : Nat} (h : (l.map (·.1))[j]? = some k) : l.filter (fun p => !decide (p.1 = k)) = l.eraseIdx j := by
  induction l generalizing j with
  | nil => simp at h
  | cons p l ih =>
    rw [List.map_cons, List.nodup_cons] at hn
    cases j with
    | zero =>
      simp at h
      rw [List.filter_cons_of_neg (by simp [h]), List.eraseIdx_cons_zero]
      refine List.filter_eq_self.2 fun q hq => ?_
      simp only [Bool.not_eq_true', decide_eq_false_iff_not]
      intro e
      exact hn.1 (by rw [h, ← e]; exact List.mem_map_of_mem hq)
    | succ j =>
      simp only [List.map_cons, List.getElem?_cons_succ] at h
      have hne : ¬ p.1 = k := fun e => hn.1 (by rw [e]; exact List.mem_of_getElem? h)
      rw [List.filter_cons_of_pos (by simp [hne]), ih hn.2 h]; rfl
theorem filter_all {l : List (κ × β)} {k : κ} (h : k ∉ l.map (·.1)) : l.filter (fun p => !decide (p.1 = k)) = l := by
  refine List.filter_eq_self.2 fun q hq => ?_
  simp only [Bool.not_eq_true', decide_eq_false_iff_not]
  intro e
  exact h (by rw [← e]; exact List.mem_map_of_mem hq)
theorem mget_idx {l : List (κ × β)} (hn : (l.map (·.1)).Nodup) {k : κ} {j : Nat} (h : (l.map (·.1))[j]? = some k) : ∃ v, l[j]? = some (k, v) ∧ mget l k = some v := by
  rw [List.getElem?_map] at h
  obtain ⟨p, hp, rfl⟩ := Option.map_eq_some_iff.1 h
  exact ⟨p.2, hp, mget_at hn hp⟩
theorem map_eraseIdx {γ δ : Type} (f : γ → δ) (l : List γ) (i : Nat) : (l.eraseIdx i).map f = (l.map f).eraseIdx i := map_erase f l i
theorem mput_keys_eq {l : List (κ × β)} {γ : Type} {m : List (κ × γ)} (h : l.map (·.1) = m.map (·.1)) (k : κ) (v : β) (u : γ) : (mput l k v).map (·.1) = (mput m k u).map (·.1) := by
  rw [mput_keys, mput_keys, h]
theorem mput_nodup {l : List (κ × β)} (h : (l.map (·.1)).Nodup) (k : κ) (v : β) : ((mput l k v).map (·.1)).Nodup := by
  rw [mput_keys]
  split
  · exact h
  · rename_i hk
    rw [List.nodup_append]
    refine ⟨h, by simp, fun a ha b hb => ?_⟩
    rw [List.mem_singleton.1 hb]
    intro e; exact hk (e ▸ ha)
end
section
variable {κ α : Type} [DecidableEq κ] [Enc α]
def RowsM (Ti : TypeId) (us : List (κ × Sl)) (l : List (κ × List α)) : Atom := fun h => RowsA Ti (us.map Prod.snd) (l.map Prod.snd) h ∧ us.map (·.1) = l.map (·.1) ∧ (us.map (·.1)).Nodup
def RowsX (Ti : TypeId) (us : List (κ × Sl)) (l : List (κ × List α)) (k : κ) : Atom := fun h => RowsA Ti ((us.filter fun p => !decide (p.1 = k)).map Prod.snd) ((l.filter fun p => !decide (p.1 = k)).map Prod.snd) h ∧ us.map (·.1) = l.map (·.1) ∧ (us.map (·.1)).Nodup
omit [DecidableEq κ] in
theorem RowsM.nil (Ti : TypeId) : RowsM Ti ([] : List (κ × Sl)) ([] : List (κ × List α)) PH.emp := ⟨rfl, rfl, by simp⟩
def RowsRo (ρ : PH) (us : List (κ × Sl)) (l : List (κ × List α)) : Prop := us.map (·.1) = l.map (·.1) ∧ (us.map (·.1)).Nodup ∧ ∀ k, RoSl ρ ((mget us k).getD Sl.nil).v ((mget l k).getD [])
variable {Z : World} {ρ : PH} {L : List Atom} {w : World} {Ti : TypeId} {us : List (κ × Sl)} {l : List (κ × List α)} {k : κ} {v : Value}
omit [DecidableEq κ] in
theorem RowsM.keys (h : Hp Z ρ (RowsM Ti us l :: L) w) : us.map (·.1) = l.map (·.1) := (Hp.fact (A := RowsA Ti (us.map Prod.snd) (l.map Prod.snd)) h).2.1
omit [DecidableEq κ] [Enc α] in
theorem Hp.addFact {A : Atom} {p : Prop} (h : Hp Z ρ (A :: L) w) (hp : p) : Hp Z ρ ((fun k => A k ∧ p) :: L) w := h.imp fun _ a => ⟨a, hp⟩
theorem RowsM.take (h : Hp Z ρ (RowsM Ti us l :: L) w) (k : κ) : Hp Z ρ (OwnSl Ti ((mget us k).getD Sl.nil).v ((mget l k).getD []) :: RowsX Ti us l k :: L) w := by
  obtain ⟨hr, hk, hn⟩ := Hp.fact (A := RowsA Ti (us.map Prod.snd) (l.map Prod.snd)) h
  have hn2 : (l.map (·.1)).Nodup := hk ▸ hn
  have done : Hp Z ρ (OwnSl Ti ((mget us k).getD Sl.nil).v ((mget l k).getD []) :: RowsA Ti ((us.filter fun p => !decide (p.1 = k)).map Prod.snd) ((l.filter fun p => !decide (p.1 = k)).map Prod.snd) :: L) w := by
    by_cases hm : k ∈ us.map (·.1)
    · obtain ⟨j, hj⟩ := List.getElem?_of_mem hm
      obtain ⟨u, hu, hu2⟩ := mget_idx hn hj
      have hj2 : (l.map (·.1))[j]? = some k := hk ▸ hj
      obtain ⟨r, hr1, hr2⟩ := mget_idx hn2 hj2
      rw [hu2, hr2, filter_ne hn hj, filter_ne hn2 hj2, map_eraseIdx, map_eraseIdx]
      exact hr.to fun s => (RowsA.take j (by rw [List.getElem?_map, hu]; rfl) (by rw [List.getElem?_map, hr1]; rfl)).1 s
    · rw [mget_none hm, mget_none (hk ▸ hm), filter_all hm, filter_all (hk ▸ hm)]
      exact hr.emp (OwnSl.nil Ti)
  exact (((done.get 1 rfl).addFact ⟨hk, hn⟩).get 1 rfl)
theorem RowsX.put {s : Sl} {v : Value} (he : s.v = v) {r : List α} (h : Hp Z ρ (OwnSl Ti v r :: RowsX Ti us l k :: L) w) : Hp Z ρ (RowsM Ti (mput us k s) (mput l k r) :: L) w := by
  subst he
  obtain ⟨h1, hk, hn⟩ := Hp.fact (A := RowsA Ti ((us.filter fun p => !decide (p.1 = k)).map Prod.snd) ((l.filter fun p => !decide (p.1 = k)).map Prod.snd)) (h.get 1 rfl)
  have hr := h1.get 1 rfl
  have hn2 : (l.map (·.1)).Nodup := hk ▸ hn
  refine Hp.addFact ?_ ⟨mput_keys_eq hk k s r, mput_nodup hn k s⟩
  by_cases hm : k ∈ us.map (·.1)
  · obtain ⟨j, hj⟩ := List.getElem?_of_mem hm
    have hj2 : (l.map (·.1))[j]? = some k := hk ▸ hj
    have hl1 := (List.getElem?_eq_some_iff.1 hj).1
    have hl2 := (List.getElem?_eq_some_iff.1 hj2).1
    rw [List.length_map] at hl1 hl2
    rw [mput_at hn hj, mput_at hn2 hj2]
    rw [filter_ne hn hj, filter_ne hn2 hj2, map_eraseIdx, map_eraseIdx] at hr
    refine hr.to fun t => (RowsA.take j (u := s) (r := r) (by rw [List.map_set, List.getElem?_set_self (by simpa using hl1)]) (by rw [List.map_set, List.getElem?_set_self (by simpa using hl2)])).2 ?_
    rw [List.map_set, List.map_set, List.eraseIdx_set_eq, List.eraseIdx_set_eq]
    exact t
  · rw [mput_new hm, mput_new (hk ▸ hm), List.map_append, List.map_append]
    rw [filter_all hm, filter_all (hk ▸ hm)] at hr
    exact hr.to fun t => RowsA.snoc t
theorem RowsX.back {v : Value} (he : ((mget us k).getD Sl.nil).v = v) {r : List α} (h : Hp Z ρ (OwnSl Ti v r :: RowsX Ti us l k :: L) w) : Hp Z ρ (RowsM Ti us (mset l k r) :: L) w := by
  subst he
  obtain ⟨h1, hk, hn⟩ := Hp.fact (A := RowsA Ti ((us.filter fun p => !decide (p.1 = k)).map Prod.snd) ((l.filter fun p => !decide (p.1 = k)).map Prod.snd)) (h.get 1 rfl)
  have hr := h1.get 1 rfl
  have hn2 : (l.map (·.1)).Nodup := hk ▸ hn
  unfold mset
  by_cases hm : k ∈ us.map (·.1)
  · rw [if_pos (mhas_iff.2 (hk ▸ hm))]
    refine Hp.addFact ?_ ⟨by rw [mput_keys, if_pos (hk ▸ hm)]; exact hk, hn⟩
    obtain ⟨j, hj⟩ := List.getElem?_of_mem hm
    have hj2 : (l.map (·.1))[j]? = some k := hk ▸ hj
    obtain ⟨u, hu, hu2⟩ := mget_idx hn hj
    have hl2 := (List.getElem?_eq_some_iff.1 hj2).1
    rw [List.length_map] at hl2
    rw [mput_at hn2 hj2]
    rw [hu2, filter_ne hn hj, filter_ne hn2 hj2, map_eraseIdx, map_eraseIdx] at hr
    refine hr.to fun t => (RowsA.take j (u := u) (r := r) (by rw [List.getElem?_map, hu]; rfl) (by rw [List.map_set, List.getElem?_set_self (by simpa using hl2)])).2 ?_
    rw [List.map_set, List.eraseIdx_set_eq]
    exact t
  · rw [if_neg (fun h => hm (hk ▸ mhas_iff.1 h))]
    refine Hp.addFact ?_ ⟨hk, hn⟩
    rw [filter_all hm, filter_all (hk ▸ hm)] at hr
    exact hr.drop
theorem RowsM.ro {h : PH} (d : ρ.dj h) (a : RowsM Ti us l h) : RowsRo (ρ.un h) us l := by
  obtain ⟨hr, hk, hn⟩ := a
  have hn2 : (l.map (·.1)).Nodup := hk ▸ hn
  refine ⟨hk, hn, fun k => ?_⟩
  by_cases hm : k ∈ us.map (·.1)
  · obtain ⟨j, hj⟩ := List.getElem?_of_mem hm
    obtain ⟨u, hu, hu2⟩ := mget_idx hn hj
    obtain ⟨r, hr1, hr2⟩ := mget_idx hn2 (hk ▸ hj : (l.map (·.1))[j]? = some k)
    rw [hu2, hr2]
    obtain ⟨k', h4, h5⟩ := RowsA.at_ j hr (by rw [List.getElem?_map, hu]; rfl) (by rw [List.getElem?_map, hr1]; rfl)
    have h6 : RoSl (PH.emp.un k') u.v r := OwnSl.ro (PH.dj_emp k').symm h4
    exact h6.mono (by
      have : PH.emp.un k' = k' := by funext x; rfl
      rw [this]; exact h5.tr (PH.le_un_r d))
  · rw [mget_none hm, mget_none (hk ▸ hm)]
    exact RoSl.nil _
theorem RowsRo.mono {ρ' : PH} (h : RowsRo ρ us l) (hl : ρ.le ρ') : RowsRo ρ' us l := ⟨h.1, h.2.1, fun k => (h.2.2 k).mono hl⟩
theorem RowsRo.get (h : RowsRo ρ us l) (k : κ) : ∃ v, ((mget us k).getD Sl.nil).v = v ∧ RoSl ρ v ((mget l k).getD []) := ⟨_, rfl, h.2.2 k⟩
theorem RowsRo.at_ (h : RowsRo ρ us l) {u : Sl} (hm : (k, u) ∈ us) : RoSl ρ (vl u) ((mget l k).getD []) := by
  have := h.2.2 k
  rw [mget_mem h.2.1 hm] at this
  exact this
end
section
variable {Rn : Option Nat} {P : Program} {ops : Array Oper} {Q : Exit → Act → World → Prop} {rest : List Oper} {o : Oper} {a : Act} {w : World} {Df : List Deferred} {N : Nat} {E : Ent} {d : Nat} {Z : World} {ρ : PH} {L : List Atom}
variable {κ β : Type} [Vl κ] [Vl β]
theorem MapIt.sub {b r : Nat} {l rem : List (κ × β)} {cur : Option (κ × β)} (h : Hp Z ρ (MapIt b r l rem cur :: L) w) : rem.Sublist l := by
  obtain ⟨es, clock, since, seen, last, _, _, _, _, _, _, h5, _⟩ := h.it
  exact h5
theorem MapIt.mem {b r : Nat} {l rem rem' : List (κ × β)} {cur : Option (κ × β)} {e : κ × β} (h : Hp Z ρ (MapIt b r l rem cur :: L) w) (hp : rem.Perm (e :: rem')) : e ∈ l := (MapIt.sub h).subset (hp.symm.subset (by simp))
variable [DecidableEq κ]
end
end Go.Proofs.YtfajmelamonolaaGreatDoor

/- A row that comes out of its table, to be appended to; pointers; arrays. Plain theorems over any program. -/
set_option linter.unusedVariables false
set_option linter.unusedSimpArgs false
namespace Go.Proofs.YtfajmelamonolaaGreatDoor
open Go.RowKit
def TblX {α : Type} [Enc α] (T Ti : TypeId) (v : Value) (us : List Sl) (l : List (List α)) (i : Int) : Atom := star (OwnSl T v us) (RowsA Ti (us.eraseIdx i.toNat) (l.eraseIdx i.toNat))
section
variable {Rn : Option Nat} {P : Program} {ops : Array Oper} {Q : Exit → Act → World → Prop} {rest : List Oper} {o : Oper} {a : Act} {w : World} {Df : List Deferred} {N : Nat} {E : Ent} {d : Nat} {Z : World} {ρ : PH} {L : List Atom} {C : World → Prop}
variable {α : Type} [Enc α] {T Ti To Tr : TypeId} {v : Value} {us : List Sl} {l : List (List α)} {bytes : Nat}
theorem ex_nil {x : Operand} (ho : o.op = .nilCheck x) (hE : EnvD Df N E a) {p : Addr} (hx : evo E x = some (.pointer (some p))) : Ex P C a o (.pointer (some p)) := fun w _ => by
  simp [execOp, ho, hE.eval hx]
theorem TblA.takeRow (hp : Hp Z ρ L w) (k : Nat) (hk : L[k]? = some (TblA T Ti v us l)) {i : Int} {u : Sl} {r : List α} (hu : idx us i = some u) (hi : idx l i = some r) :
    Hp Z ρ (OwnSl Ti u.v r :: TblX T Ti v us l i :: L.eraseIdx k) w :=
  (TblA.focus hp k hk hu hi).to fun s => Sep.cons_mono (fun ρ h s => Sep.two.2 (Sep.swap s)) s
theorem TblX.adr (hp : Hp Z ρ L w) (k : Nat) {i : Int} (hk : L[k]? = some (TblX T Ti v us l i)) (ht : SlTy P To T 1 bytes) {u : Sl} (hu : idx us i = some u) :
    ∃ (g off : Nat), (∀ w, (Instr.indexAt To v (.int .i64 i)).run P w = .ok (.pointer (some ⟨g, off, none⟩)) w) ∧ (∃ of0 cap, v = .slice (some ⟨g, of0, none⟩) us.length cap ∧ off = of0 + i.toNat * 1) := by
  have h : Hp Z ρ (OwnSl T v us :: RowsA Ti (us.eraseIdx i.toNat) (l.eraseIdx i.toNat) :: L.eraseIdx k) w := (hp.get k hk).to Sep.two.1
  obtain ⟨g, off, e1, e2, _⟩ := OwnSl.at h 0 rfl ht hu
  exact ⟨g, off, e1, e2⟩
theorem Hp.rowsNil (Ti : TypeId) (hp : Hp Z ρ L w) : Hp Z ρ (RowsA Ti [] ([] : List (List α)) :: L) w := hp.to Sep.emp1.2
theorem Hp.rowsCons {u : Sl} {vr : Value} (he : u.v = vr) {r : List α} (hp : Hp Z ρ (OwnSl Ti vr r :: RowsA Ti us l :: L) w) : Hp Z ρ (RowsA Ti (u :: us) (r :: l) :: L) w := by
  subst he; exact hp.to Sep.two.2
theorem RowsA.app : ∀ {us us2 : List Sl} {l l2 : List (List α)} {ρ h : PH} {L : List Atom}, Sep ρ (RowsA Ti us2 l2 :: RowsA Ti us l :: L) h → Sep ρ (RowsA Ti (us ++ us2) (l ++ l2) :: L) h
  | [], us2, [], l2, ρ, h, L, hs => Sep.cons_mono (fun ρ h s => Sep.emp1.1 s) hs
  | [], _, _ :: _, _, _, _, _, hs => by obtain ⟨_, _, _, k, a, _⟩ := hs; exact a.elim
  | _ :: _, _, [], _, _, _, _, hs => by obtain ⟨_, _, _, k, a, _⟩ := hs; exact a.elim
  | u :: us, us2, r :: l, l2, ρ, h, L, hs =>
    Sep.two.2 (Sep.cons_mono (fun ρ h s => RowsA.app s) (Sep.swap (Sep.cons_mono (fun ρ h s => Sep.two.1 s) hs) |> fun s => Sep.cons_mono (fun ρ h s => s) s))
theorem Hp.front2 {A B D : Atom} (hp : Hp Z ρ (A :: L) w) (k : Nat) (hk : L[k]? = some B) (hi : ∀ h, B h → D h) : Hp Z ρ (D :: A :: L.eraseIdx k) w := (hp.get (k + 1) (A := B) (by simpa using hk)).imp hi
theorem s_tputX (wk : Region.wanted o (yielded ops a.tmps) = true) (hd : o.dst = none) (hE : EnvD Df N E a) {ur : Sl} {vr : Value} (he : ur.v = vr) {r' : List α} (hp : Hp Z ρ (OwnSl Ti vr r' :: L) w) {Tx : TypeId} {x y : Operand} (ho : o.op = .store Tx x y) {g off : Nat} (hx : evo E x = some (.pointer (some ⟨g, off, none⟩))) (hy : evo E y = some vr) (k : Nat) {i : Int} (hk : L[k]? = some (TblX T Ti v us l i))
    {u : Sl} {r : List α} (hu : idx us i = some u) (hi : idx l i = some r) (hv : ∃ of0 cap, v = .slice (some ⟨g, of0, none⟩) us.length cap ∧ off = of0 + i.toNat * 1) (ht : ∀ w, (sizeOf Tx).run P w = .ok 1 w)
    (K : ∀ w, Hp Z ρ (L.set k (TblA T Ti v (us.set i.toNat ur) (l.set i.toNat r'))) w → wpL Rn P ops Q rest a w) : wpL Rn P ops Q (o :: rest) a w := by
  subst he
  have h0 : Hp Z ρ (OwnSl T v us :: OwnSl Ti ur.v r' :: RowsA Ti (us.eraseIdx i.toNat) (l.eraseIdx i.toNat) :: L.eraseIdx k) w :=
    (hp.get (k + 1) (A := TblX T Ti v us l i) (by simpa using hk)).to fun s => Sep.cons_mono (fun ρ h => Sep.swap) (Sep.two.1 s)
  refine s_stel wk hd hE h0 ho hx hy 0 rfl hu hv 0 ht rfl ur.cells ur.one ⟨rfl, rfl⟩ fun w hw => K w ?_
  refine Hp.put k (List.getElem?_eq_some_iff.1 hk).1 (Hp.tblShut (hw.to fun s => ?_))
  refine Sep.cons_mono (fun ρ h s => ?_) s
  obtain ⟨_, hui, hus⟩ := idx_some hu
  obtain ⟨_, hli, hls⟩ := idx_some hi
  refine (RowsA.take (us := us.set i.toNat ur) (l := l.set i.toNat r') (u := ur) (r := r') i.toNat (by rw [List.getElem?_set_self (by omega)]) (by rw [List.getElem?_set_self (by omega)])).2 ?_
  rw [List.eraseIdx_set_eq, List.eraseIdx_set_eq]
  exact s
end
section
variable {Rn : Option Nat} {P : Program} {fn : Func} {R : Ending → World → Prop} {a : Act} {w : World} {Df : List Deferred} {N : Nat} {E : Ent}
end
end Go.Proofs.YtfajmelamonolaaGreatDoor
