/-
  From a contract to the row of a law: arguments read as data, and read so behind the call. Plain theorems over any program.
-/
import Derived.Test.YtmfepkadggigpaaMut2
import Derived.ProofKit
import Derived.Deep.Slices
import Derived.OpenShut
set_option linter.unusedVariables false
set_option linter.unusedSimpArgs false
namespace Go.Proofs.Ytmfepkadggigpaa
open Go.ChangeShapes Go.WideShapes Go.ChangeAt Go.RowKit

/-- The numbers of Go's int. -/
def I64 (n : Int) : Prop := -9223372036854775808 ≤ n ∧ n ≤ 9223372036854775807
theorem I64.of {n : Int} (h : (Lit.int .i64 n).wf = true) : I64 n := by
  simp [Lit.wf, IntKind.min, IntKind.max, IntKind.signed, IntKind.bits] at h
  exact ⟨by omega, by omega⟩
theorem U8.of {n : Int} (h : (Lit.int .u8 n).wf = true) : 0 ≤ n ∧ n ≤ 255 := by
  simp [Lit.wf, IntKind.min, IntKind.max, IntKind.signed, IntKind.bits] at h
  omega
/-- What is read at type t stands for an α. -/
structure Reads (P : Program) (t : TypeId) (α : Type) [Rep α] (wf : α → Prop) : Prop where
  cells : P.cellsOf t = Rep.sz α
  pos : 0 < Rep.sz α
  get : ∀ {H : Type} {enc : TypeId × Value → H} {w : World} {base : Nat} {spare : Nat → Bool} {held : Bool} {fuel : Nat} {cs : List Value} {x : DataW H × List MemPlace},
    DataW.trod enc P w base spare held fuel t cs = some x → ∃ a : α, Rep.ok (hp w) a cs ∧ wf a
section
variable {P : Program} {t e : TypeId}
theorem reads_int (ht : P.underlying t = some (.int .i64)) (hc : P.cellsOf t = 1) : Reads P t Int I64 :=
  ⟨hc, by decide, fun h => by obtain ⟨n, rfl, _, hw⟩ := DataW.trod_int ht h; exact ⟨n, rfl, I64.of hw⟩⟩
theorem reads_bool (ht : P.underlying t = some .bool) (hc : P.cellsOf t = 1) : Reads P t Bool (fun _ => True) :=
  ⟨hc, by decide, fun h => by obtain ⟨n, rfl, _⟩ := DataW.trod_bool ht h; exact ⟨n, rfl, trivial⟩⟩
theorem reads_str (ht : P.underlying t = some .string) (hc : P.cellsOf t = 1) : Reads P t ByteArray (fun s => s.size ≤ maxLen) :=
  ⟨hc, by decide, fun h => by obtain ⟨s, rfl, _, hs⟩ := DataW.trod_string ht h; exact ⟨s, rfl, hs⟩⟩
/-- A list whose elements are so, and that is not too long. -/
def LW {α : Type} (wf : α → Prop) (l : List α) : Prop := l.length ≤ maxLen ∧ ∀ a ∈ l, wf a
theorem exists_list {α : Type} {p : Nat → α → Prop} : ∀ (n : Nat), (∀ i, i < n → ∃ a, p i a) → ∃ l : List α, l.length = n ∧ ∀ i a, l[i]? = some a → p i a
  | 0, _ => ⟨[], rfl, fun i a h => by simp at h⟩
  | n + 1, h => by
    obtain ⟨l, hl, hp⟩ := exists_list n (fun i hi => h i (by omega))
    obtain ⟨a, ha⟩ := h n (by omega)
    refine ⟨l ++ [a], by simp [hl], fun i b hb => ?_⟩
    rw [List.getElem?_append] at hb
    split at hb
    · exact hp i b hb
    · rename_i hi
      have : i - l.length = 0 := by
        rcases Nat.eq_zero_or_pos (i - l.length) with h0 | h0
        · exact h0
        · rw [List.getElem?_eq_none (by simp; omega)] at hb; cases hb
      rw [this] at hb
      simp only [List.getElem?_cons_zero, Option.some.injEq] at hb
      subst hb
      have : i = n := by omega
      rw [this]; exact ha
theorem reads_slice {α : Type} [Rep α] {wf : α → Prop} (he : Reads P e α wf) (ht : P.underlying t = some (.slice e)) {H : Type} {enc : TypeId × Value → H} {w : World} {base : Nat} {spare : Nat → Bool} {held : Bool} {fuel : Nat} {cs : List Value} {x : DataW H × List MemPlace}
    (h : DataW.trod enc P w base spare held fuel t cs = some x) : ∃ (l : List α) (v : Value), cs = [v] ∧ RoSl (hp w) v l ∧ LW wf l := by
  rcases DataW.trod_slice ht h with ⟨rfl, _⟩ | ⟨a, len, cap, elems, rest, n, _, rfl, _, hb, hl, hm, hlen, hel, _⟩
  · exact ⟨[], _, rfl, RoSl.nil _, by unfold maxLen; simp, by simp⟩
  · have key : ∀ i, i < len → ∃ z : α, wf z ∧ ∃ b o cs', some a = some ⟨b, o, none⟩ ∧ Rep.ok (hp w) z cs' ∧ AtP (hp w) b (o + i * Rep.sz α) cs' := by
      intro i hi
      have h1 := hel i hi
      rw [List.getElem?_eq_getElem (by omega)] at h1
      obtain ⟨cs', hc, ht'⟩ := Option.bind_eq_some_iff.1 h1
      obtain ⟨_, hcl, hat⟩ := World.cells?_some hc
      obtain ⟨z, hz, hw⟩ := he.get ht'
      -- the address bears no spot: its first element can be read
      have h0 := hel 0 (by omega)
      rw [List.getElem?_eq_getElem (by omega)] at h0
      obtain ⟨cs0, hc0, _⟩ := Option.bind_eq_some_iff.1 h0
      obtain ⟨_, hcl0, hat0⟩ := World.cells?_some hc0
      have hp0 : 0 < P.cellsOf e := by rw [he.cells]; exact he.pos
      have hs0 := hat0 0 hp0
      rw [List.getElem?_eq_getElem (by omega)] at hs0
      obtain ⟨b, o, sp⟩ := a
      have hsp : sp = none := by
        cases sp with
        | none => rfl
        | some s =>
          simp [Addr.add, World.cell?] at hs0
          split at hs0 <;> cases hs0
      subst hsp
      refine ⟨z, hw, b, o, cs', rfl, hz, fun j u hj => ?_⟩
      have hjl : j < P.cellsOf e := by rw [← hcl]; exact (List.getElem?_eq_some_iff.1 hj).1
      have := hat j hjl
      rw [Addr.add_lit, Addr.add_lit, hj, he.cells] at this
      unfold World.cell? at this
      simp only [Option.isSome_none, Bool.false_eq_true, if_false] at this
      exact this
    obtain ⟨l, hll, hp⟩ := exists_list len key
    refine ⟨l, _, rfl, ⟨some a, cap, by rw [hll], by rw [hll]; exact hl, fun i z hz => (hp i z hz).2⟩, by omega, fun z hz => ?_⟩
    obtain ⟨i, hi⟩ := List.getElem?_of_mem hz
    exact (hp i z hi).1
/-- A slice as an argument. -/
theorem arg_slice {α : Type} [Rep α] {wf : α → Prop} (he : Reads P e α wf) (ht : P.underlying t = some (.slice e)) {H : Type} {enc : TypeId × Value → H} {w : World} {base b0 : Nat} {spare : Nat → Bool} {held : Bool} {r : Reach} {v : Value} {d : DataW H} {p : List MemPlace}
    (hv : Value.okWide P w r b0 t v) (h : DataW.Trod enc P w base spare held t v d p) : ∃ l : List α, RoSl (hp w) v l ∧ LW wf l := by
  obtain ⟨a, len, cap, rfl⟩ := okWide_slice ht hv
  obtain ⟨fuel, hf⟩ := h
  obtain ⟨l, v', e, h1, h2⟩ := reads_slice he ht hf
  simp [Value.cells] at e
  subst e
  exact ⟨l, h1, h2⟩
/-- What a slice that is handed weighs. -/
theorem sized_arg {α : Type} [Rep α] {l : List α} (ht : P.underlying t = some (.slice e)) {H : Type} {enc : TypeId × Value → H} {w : World} {base b0 : Nat} {spare : Nat → Bool} {held : Bool} {r : Reach} {v : Value} {d : DataW H} {p : List MemPlace}
    (hs : RoSl (hp w) v l) (hv : Value.okWide P w r b0 t v) (h : DataW.Trod enc P w base spare held t v d p) {ts : List TypeId} {ds : List (DataW H)} (hz : (DataW.weightsEach P ts ds).all (· ≤ reachBytes) = true) {j n : Nat} (hts : ts[j]? = some t) (hd : ds[j]? = some d)
    (hb : P.bytesOf e = n) : l.length * n ≤ 140737488351232 := by
  obtain ⟨a, len, cap, rfl⟩ := okWide_slice ht hv
  obtain ⟨A, c, e1, _, _⟩ := hs
  injection e1 with e2 e3 e4
  subst e3
  obtain ⟨fuel, hf⟩ := h
  rcases DataW.trod_slice ht hf with ⟨h1, _⟩ | ⟨a', len', cap', elems, rest, m, _, h1, h2, _, _, _, h3, _⟩
  · simp [Value.cells] at h1
    rw [h1.2.1]; simp
  · simp [Value.cells] at h1
    simp only [Prod.mk.injEq] at h2
    have := sized_slice hz hts (hd.trans (congrArg some h2.1)) ht
    unfold reachBytes at this
    rw [hb] at this
    have h4 : l.length ≤ (elems.map (·.1)).length + (rest.map (·.1)).length := by rw [List.length_map]; omega
    exact Nat.le_trans (Nat.mul_le_mul_right n h4) this
theorem arg_int {k : IntKind} (ht : P.underlying t = some (.int k)) {H : Type} {enc : TypeId × Value → H} {w : World} {base b0 : Nat} {spare : Nat → Bool} {held : Bool} {r : Reach} {v : Value} {d : DataW H} {p : List MemPlace}
    (hv : Value.okWide P w r b0 t v) (h : DataW.Trod enc P w base spare held t v d p) : ∃ n, v = .int k n ∧ (Lit.int k n).wf = true := by
  obtain ⟨n, h1, _, _, h2⟩ := open_int ht hv h
  exact ⟨n, h1, h2⟩
/-- A struct as an argument, its fields by cells. -/
theorem arg_struct {α : Type} [Rep α] {wf : α → Prop} (he : Reads P t α wf) {fs : Array Field} (ht : P.underlying t = some (.struct fs)) {H : Type} {enc : TypeId × Value → H} {w : World} {base b0 : Nat} {spare : Nat → Bool} {held : Bool} {r : Reach} {v : Value} {d : DataW H} {p : List MemPlace}
    (hv : Value.okWide P w r b0 t v) (h : DataW.Trod enc P w base spare held t v d p) : ∃ (a : α) (cs : List Value), v = .agg cs.toArray ∧ Rep.ok (hp w) a cs ∧ wf a := by
  obtain ⟨cs, rfl, _⟩ := okWide_struct ht hv
  obtain ⟨fuel, hf⟩ := h
  obtain ⟨a, h1, h2⟩ := he.get hf
  exact ⟨a, cs.toList, by simp, by simpa [Value.cells] using h1, h2⟩

/-! ### Behind the call -/
theorem trodAll_stays {H : Type} {enc : TypeId × Value → H} (hl : laidOutB P = true) {W W' : World} (hb : Below W.heap.size W W') (sp : Nat → Bool) : ∀ {ts : List TypeId} {vs : List Value} {ds : List (DataW H)} {ps : List MemPlace},
    (ts.all fun t => P.readableRec t && decide (t < P.types.size)) = true → DataW.TrodAll enc P W 0 (fun _ => true) true ts vs ds ps → (∀ x ∈ ps, x.block < W.heap.size) → (∀ x ∈ ps, sp x.block = true) → DataW.TrodAll enc P W' 0 sp true ts vs ds ps
  | [], _, _, _, _, h, _, _ => by
    obtain ⟨rfl, rfl, rfl⟩ := trodAll_nil h
    simp [DataW.TrodAll]
  | t :: ts, vs, ds, ps, hr, h, hlt, hsp => by
    obtain ⟨v, vs', d, ds', p, q, rfl, rfl, rfl, h1, h2⟩ := trodAll_cons h
    simp only [List.all_cons, Bool.and_eq_true, decide_eq_true_eq] at hr
    exact trodAll_cons_mk (WideElems.Trod_stays hl hr.1.1 hr.1.2 h1 (fun x hx => hb.same (hlt x (List.mem_append_left _ hx))) (fun x hx => hsp x (List.mem_append_left _ hx)))
      (trodAll_stays hl hb sp (by simpa using hr.2) h2 (fun x hx => hlt x (List.mem_append_right _ hx)) (fun x hx => hsp x (List.mem_append_right _ hx)))
theorem below_of {W W' : World} (h : Hp W (hp W) [] W') : Below W.heap.size W W' := by
  have hb : ∀ k, k < W.heap.size → W'.heap[k]? = W.heap[k]? := fun k hk => by
    have e : W.heap[k]? = some W.heap[k] := by simp [hk]
    have := h.le k W.heap[k] e
    rw [e]; exact this
  refine ⟨h.os, h.tape, h.output, ?_, hb⟩
  rcases Nat.eq_zero_or_pos W.heap.size with h0 | h0
  · omega
  · have := hb (W.heap.size - 1) (by omega)
    have e : W.heap[W.heap.size - 1]? = some W.heap[W.heap.size - 1] := by simp [h0]
    rw [e] at this
    have := (Array.getElem?_eq_some_iff.1 this).1
    omega
theorem hp_whole (W : World) : Hp W (hp W) [] W := ⟨rfl, rfl, rfl, PH.le.rf _⟩
theorem law_post {H : Type} {enc : TypeId × Value → H} {f : Func} {s : ChangeSpec} {W W' : World} {args : Array Value} {ds gs : List (DataW H)} {before : List MemPlace} {tb : TypeId}
    (hl : laidOutB P = true) (hts : (f.params.toList.all fun t => P.readableRec t && decide (t < P.types.size)) = true)
    (hW : DataW.Whole enc P f.params.toList s.vars false W args.toList ds gs before) (hv : s.vars = []) (hr : f.resultTypes = #[tb]) (htb : P.underlying tb = some .bool) (hs : s.fn H (ds ++ gs) = { results := [.lit (.bool true)], args := ds }) (hb : Below W.heap.size W W') :
    s.post enc P f false true false false W args (.bool true) W' := by
  have hlt : ∀ p ∈ before, p.block < W.heap.size := fun p hp => hW.lt p hp
  have hold : ∀ p ∈ before, (fun b => decide (b < W.heap.size)) p.block = true := fun p hp => by simpa using hlt p hp
  have hW0 := hW
  obtain ⟨p, q, hA, hV, rfl, hz, hn⟩ := hW0
  rw [hv] at hV
  obtain ⟨rfl, rfl⟩ := trodVars_none hV
  simp only [List.append_nil] at *
  refine ⟨ds, [], p, [], p, [], by simpa using hW, ?_, ?_, ?_, World.keptBut_mono (fun x hx => ⟨hx, by simpa using hx⟩) (hb.frame (· ∈ p)), fun h => by cases h⟩
  · rw [hr, List.append_nil, hs]
    exact trodAll_mk1 ⟨1, by simp [DataW.trod, htb, Value.cells]⟩
  · rw [List.append_nil, hs]
    exact trodAll_stays hl hb _ hts hA hlt hold
  · rw [hv, List.append_nil, hs]; rfl
end
end Go.Proofs.Ytmfepkadggigpaa
