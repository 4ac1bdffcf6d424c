/-
  Maps that are owned: their entries in the order of making; lookups, stores, ranges. Plain theorems over any program.
-/
import Derived.Test.YtmfepkadggigpaaStr
import Derived.Maps.RangeRun
import Derived.Maps.Keyed
import Derived.Carry
set_option linter.unusedVariables false
set_option linter.unusedSimpArgs false
namespace Go.Proofs.Ytmfepkadggigpaa
open Go.RowKit
open Go.ChangeMaps (setBlock)

/-- Values that are told by their data. -/
class Vl (α : Type) where
  vl : α → Value
instance vlInt : Vl Int := ⟨fun n => .int .i64 n⟩
instance vlBool : Vl Bool := ⟨fun n => .bool n⟩
instance vlStr : Vl ByteArray := ⟨fun n => .string n⟩
instance vlVal : Vl Value := ⟨fun n => n⟩
open Vl (vl)

/-! ### Maps as data -/
def mget {κ β : Type} [DecidableEq κ] (l : List (κ × β)) (k : κ) : Option β := (l.find? (fun p => decide (p.1 = k))).map (·.2)
def mput {κ β : Type} [DecidableEq κ] : List (κ × β) → κ → β → List (κ × β)
  | [], k, v => [(k, v)]
  | p :: l, k, v => if p.1 = k then (k, v) :: l else p :: mput l k v
def mhas {κ β : Type} [DecidableEq κ] (l : List (κ × β)) (k : κ) : Bool := (mget l k).isSome
def mdel {κ β : Type} [DecidableEq κ] (l : List (κ × β)) (k : κ) : List (κ × β) := l.eraseP (fun p => decide (p.1 = k))
/-- What is got whatever the order. -/
def Perm1 {ε β : Type} (l : List ε) (f : List ε → Option β) (r : β) : Prop := ∀ p, p.Perm l → f p = some r
open Classical in
noncomputable def permM {ε β : Type} (l : List ε) (f : List ε → Option β) : Option β := if h : ∃ r, Perm1 l f r then some (Classical.choose h) else none
theorem permM_iff {ε β : Type} {l : List ε} {f : List ε → Option β} {r : β} : permM l f = some r ↔ Perm1 l f r := by
  unfold permM
  constructor
  · intro h
    split at h
    · rename_i hh
      rw [← Option.some.inj h]; exact Classical.choose_spec hh
    · cases h
  · intro h
    have hh : ∃ r, Perm1 l f r := ⟨r, h⟩
    rw [dif_pos hh]
    have := Classical.choose_spec hh l (List.Perm.refl _)
    rw [← this]; exact h l (List.Perm.refl _)
/-- A range over entries in an order. -/
def foldP {ε σ β : Type} (body : ε → σ → Option (Step σ β)) (fin : σ → Option β) : List ε → σ → Option β
  | [], s => fin s
  | e :: p, s => match body e s with
    | none => none
    | some (.next s') => foldP body fin p s'
    | some (.done b) => some b
def Foll {ε σ β : Type} (body : ε → σ → Option (Step σ β)) (fin : σ → Option β) (rem : List ε) (b : β) : Step σ β → Prop
  | .next s' => Perm1 rem (fun p => foldP body fin p s') b
  | .done b' => b' = b
theorem foldP_more {ε σ β : Type} {body : ε → σ → Option (Step σ β)} {fin : σ → Option β} {rem rem' : List ε} {e : ε} {s : σ} {b : β} (h : Perm1 rem (fun p => foldP body fin p s) b) (hr : rem.Perm (e :: rem')) :
    ∃ st, body e s = some st ∧ Foll body fin rem' b st := by
  have h0 := h (e :: rem') hr.symm
  simp only [foldP] at h0
  cases hb : body e s with
  | none => rw [hb] at h0; cases h0
  | some st =>
    refine ⟨st, rfl, ?_⟩
    cases st with
    | done b' => rw [hb] at h0; exact Option.some.inj h0
    | next s' =>
      intro p hp
      have h1 := h (e :: p) ((hp.cons e).trans hr.symm)
      simp only [foldP, hb] at h1
      exact h1
theorem foldP_end {ε σ β : Type} {body : ε → σ → Option (Step σ β)} {fin : σ → Option β} {s : σ} {b : β} (h : Perm1 [] (fun p => foldP body fin p s) b) : fin s = some b := h [] (List.Perm.refl _)

section
variable {κ β : Type} [DecidableEq κ]
theorem mget_at {l : List (κ × β)} (hn : (l.map (·.1)).Nodup) {j : Nat} {p : κ × β} (h : l[j]? = some p) : mget l p.1 = some p.2 := by
  induction l generalizing j with
  | nil => simp at h
  | cons q l ih =>
    rw [List.map_cons, List.nodup_cons] at hn
    cases j with
    | zero => simp at h; subst h; simp [mget]
    | succ j =>
      simp only [List.getElem?_cons_succ] at h
      have hne : q.1 ≠ p.1 := fun e => hn.1 (by rw [e]; exact List.mem_map_of_mem (List.mem_of_getElem? h))
      have := ih hn.2 h
      unfold mget at this ⊢
      rw [List.find?_cons_of_neg (by simpa using hne)]
      exact this
theorem mget_none {l : List (κ × β)} {k : κ} (h : k ∉ l.map (·.1)) : mget l k = none := by
  unfold mget
  rw [List.find?_eq_none.2 (fun p hp => by simp only [decide_eq_true_eq]; exact fun e => h (by rw [← e]; exact List.mem_map_of_mem hp))]
  rfl
theorem mput_new {l : List (κ × β)} {k : κ} {v : β} (h : k ∉ l.map (·.1)) : mput l k v = l ++ [(k, v)] := by
  induction l with
  | nil => rfl
  | cons p l ih =>
    simp only [List.map_cons, List.mem_cons, not_or] at h
    unfold mput
    rw [if_neg (fun e => h.1 e.symm), ih h.2]; rfl
theorem mput_at {l : List (κ × β)} (hn : (l.map (·.1)).Nodup) {k : κ} {v : β} {j : Nat} (h : (l.map (·.1))[j]? = some k) : mput l k v = l.set j (k, v) := by
  induction l generalizing j with
  | nil => simp at h
  | cons q l ih =>
    rw [List.map_cons, List.nodup_cons] at hn
    cases j with
    | zero => simp at h; subst h; simp [mput]
    | succ j =>
      simp only [List.map_cons, List.getElem?_cons_succ] at h
      have hne : q.1 ≠ k := fun e => hn.1 (by rw [e]; exact List.mem_of_getElem? h)
      unfold mput
      rw [if_neg hne, ih hn.2 h]; rfl
theorem mput_keys (l : List (κ × β)) (k : κ) (v : β) : (mput l k v).map (·.1) = if k ∈ l.map (·.1) then l.map (·.1) else l.map (·.1) ++ [k] := by
  induction l with
  | nil => rfl
  | cons p l ih =>
    unfold mput
    by_cases h : p.1 = k
    · subst h; simp
    · rw [if_neg h]
      simp only [List.map_cons, ih, List.mem_cons, fun e : k = p.1 => h e.symm, false_or]
      have : ¬ k = p.1 := fun e => h e.symm
      simp only [this, false_or]
      split <;> simp
end
/-! ### Keys -/
structure KT (P : Program) (kt : TypeId) (κ : Type) [Vl κ] [DecidableEq κ] : Prop where
  check : ∀ em (k : κ) w, (Instr.checkKey em 10000 kt (vl k)).run P w = .ok () w
  find : ∀ w (x : κ) (ks : List κ) (es : List MapEntry), es.map (·.key) = ks.map vl → (((Instr.findKey kt (vl x) es).run P w = .ok none w ∧ x ∉ ks) ∨ ∃ j e, (Instr.findKey kt (vl x) es).run P w = .ok (some (j, e.val)) w ∧ es[j]? = some e ∧ ks[j]? = some x)
  stays : ∀ w (k : κ), (Instr.keyThatStays (vl k) (vl k)).run P w = .ok (vl k) w
section
variable {P : Program}
theorem kt_of {κ : Type} [Vl κ] [DecidableEq κ] {kt : TypeId} {d : TypeDesc} (hd : P.underlying kt = some d) (hk : ∀ k : κ, MapKept.IsKey d (vl k)) (hi : ∀ a b : κ, vl a = vl b → a = b) : KT P kt κ where
  check em k w := MapKept.run_checkKey hd (hk k) em 9999
  find w x ks es h := by
    rcases MapKept.findNow_spec (hk x) es 0 (fun e he => by
      have : e.key ∈ ks.map vl := by rw [← h]; exact List.mem_map_of_mem he
      obtain ⟨k, _, e2⟩ := List.mem_map.1 this
      rw [← e2]; exact hk k) with ⟨h1, h2⟩ | ⟨j, e, h1, h2, h3⟩
    · refine Or.inl ⟨MapKept.run_findKey hd h1, fun hx => ?_⟩
      have : vl x ∈ es.map (·.key) := by rw [h]; exact List.mem_map_of_mem hx
      obtain ⟨e, he, e2⟩ := List.mem_map.1 this
      exact h2 e he e2
    · refine Or.inr ⟨j, e, by simpa using MapKept.run_findKey hd h1, h2, ?_⟩
      have e4 : (es.map (·.key))[j]? = some e.key := by rw [List.getElem?_map, h2]; rfl
      rw [h, List.getElem?_map, h3] at e4
      obtain ⟨y, hy, e5⟩ := Option.map_eq_some_iff.1 e4
      rw [hy, hi _ _ e5]
  stays w k := MapKept.run_keyThatStays (hk k)
theorem kt_int {kt : TypeId} (hd : P.underlying kt = some (.int .i64)) : KT P kt Int := kt_of hd (fun _ => rfl) (fun a b h => by simpa [vl] using h)
theorem kt_str {kt : TypeId} (hd : P.underlying kt = some .string) : KT P kt ByteArray := kt_of hd (fun _ => trivial) (fun a b h => by simpa [vl] using h)
/-- Keys that are structs. -/
theorem findAsking_spec {κ : Type} [Vl κ] [DecidableEq κ] {kt : TypeId} (heq : ∀ (a b : κ) w, (Op.equal kt (vl a) (vl b)).run P w = .ok (decide (a = b)) w) (w : World) (x : κ) : ∀ (ks : List κ) (es : List MapEntry) (i : Nat), es.map (·.key) = ks.map vl →
    (((Instr.findAsking kt (vl x) es i).run P w = .ok none w ∧ x ∉ ks) ∨ ∃ j e, (Instr.findAsking kt (vl x) es i).run P w = .ok (some (i + j, e.val)) w ∧ es[j]? = some e ∧ ks[j]? = some x)
  | [], es, i, h => by
    have : es = [] := by simpa using h
    subst this
    exact Or.inl ⟨rfl, by simp⟩
  | k :: ks, [], i, h => by simp at h
  | k :: ks, e :: es, i, h => by
    simp only [List.map_cons, List.cons.injEq] at h
    obtain ⟨h1, h2⟩ := h
    by_cases hx : x = k
    · subst hx
      refine Or.inr ⟨0, e, ?_, rfl, rfl⟩
      simp [Instr.findAsking, h1, heq]
    · rcases findAsking_spec heq w x ks es (i + 1) h2 with ⟨h3, h4⟩ | ⟨j, e', h3, h4, h5⟩
      · refine Or.inl ⟨?_, by simp [hx, h4]⟩
        simp [Instr.findAsking, h1, heq, hx, h3]
      · refine Or.inr ⟨j + 1, e', ?_, by simpa using h4, by simpa using h5⟩
        simp [Instr.findAsking, h1, heq, hx, h3]
        omega
theorem findNow_other {d : TypeDesc} (hd : ∀ a b, Instr.sameNow d a b = none) {k : Value} : ∀ (es : List MapEntry) (i : Nat), Instr.findNow d k es i = if es = [] then some none else none
  | [], _ => rfl
  | e :: es, i => by simp [Instr.findNow, hd]
theorem kt_of_eq {κ : Type} [Vl κ] [DecidableEq κ] {kt : TypeId} {d : TypeDesc} (hd : P.underlying kt = some d) (hs : ∀ a b, Instr.sameNow d a b = none) (hc : ∀ em (k : κ) w, (Instr.checkKey em 10000 kt (vl k)).run P w = .ok () w) (heq : ∀ (a b : κ) w, (Op.equal kt (vl a) (vl b)).run P w = .ok (decide (a = b)) w) (hst : ∀ k : κ, Instr.sameBits 10000 (vl k) (vl k) = true) : KT P kt κ where
  check := hc
  find w x ks es h := by
    cases es with
    | nil =>
      have : ks = [] := by simpa using h.symm
      subst this
      exact Or.inl ⟨by simp [Instr.findKey, run_underlying hd, Instr.findNow], by simp⟩
    | cons e es =>
      have e1 : Instr.findNow d (vl x) (e :: es) 0 = none := by rw [findNow_other hs]; simp
      have e2 : (Instr.findKey kt (vl x) (e :: es)).run P w = (Instr.findAsking kt (vl x) (e :: es) 0).run P w := by simp [Instr.findKey, run_underlying hd, e1]
      rw [e2]
      simpa using findAsking_spec heq w x ks (e :: es) 0 h
  stays w k := by simp [Instr.keyThatStays, hst k]
end

/-! ### The atoms -/
structure EntOk {κ β : Type} [Vl κ] [Vl β] (es : Array MapEntry) (clock : Nat) (l : List (κ × β)) : Prop where
  ents : es.toList.map (fun e => (e.key, e.val)) = l.map (fun p => (vl p.1, vl p.2))
  nodup : (es.toList.map (·.born)).Nodup
  lt : ∀ e ∈ es.toList, e.born < clock
  keys : (l.map (·.1)).Nodup
/-- A map that is owned. -/
def MapA {κ β : Type} [Vl κ] [Vl β] (b : Nat) (l : List (κ × β)) : Atom := fun k => ∃ es clock, k = PH.one b (.map es clock) ∧ EntOk es clock l
/-- Two parts as one. -/
def star (A B : Atom) : Atom := fun k => ∃ k1 k2, A k1 ∧ B k2 ∧ k1.dj k2 ∧ k = k1.un k2
theorem Sep.two {A B : Atom} {L : List Atom} {ρ h : PH} : Sep ρ (star A B :: L) h ↔ Sep ρ (A :: B :: L) h := by
  constructor
  · rintro ⟨k, ⟨k1, k2, a, b, d, rfl⟩, dk, hs⟩
    have dk' := PH.dj_un.1 dk.symm
    exact ⟨k1, a, dk'.1.symm, k2, b, PH.dj_un.2 ⟨dk'.2.symm, d⟩, by rw [PH.un_assoc]; exact hs⟩
  · rintro ⟨k1, a, d1, k2, b, d2, hs⟩
    obtain ⟨d2, d3⟩ := PH.dj_un.1 d2
    exact ⟨k1.un k2, ⟨k1, k2, a, b, d3, rfl⟩, (PH.dj_un.2 ⟨d1.symm, d2.symm⟩).symm, by rw [← PH.un_assoc]; exact hs⟩
/-- A map over which a range goes: what is left, and what has come last. -/
def MapIt {κ β : Type} [Vl κ] [Vl β] (b r : Nat) (l rem : List (κ × β)) (cur : Option (κ × β)) : Atom := fun k => ∃ es clock since seen last,
  star (Pt b (.map es clock)) (Pt r (.mapIter (some b) since seen last)) k ∧ EntOk es clock l ∧ (∀ e ∈ es.toList, e.born < since) ∧ since ≤ last ∧ since ≤ clock ∧
  (leftOf es seen).toList.map (fun e => (e.key, e.val)) = rem.map (fun p => (vl p.1, vl p.2)) ∧ rem.Sublist l ∧
  (∀ c, cur = some c → last = clock ∧ ∃ (e : MapEntry) (seen' : Array Nat), seen = seen'.push e.born ∧ e ∈ es.toList ∧ e.key = vl c.1 ∧ e.val = vl c.2)
section
variable {P : Program} {ops : Array Oper} {Q : Exit → Act → World → Prop} {rest : List Oper} {o : Oper} {a : Act} {w : World} {N : Nat} {E : Ent} {d : Nat} {Z : World} {ρ : PH} {L : List Atom}
variable {κ β : Type} [Vl κ] [Vl β]
theorem Hp.ex {ι : Type} {A : ι → Atom} (h : Hp Z ρ ((fun k => ∃ i, A i k) :: L) w) : ∃ i, Hp Z ρ (A i :: L) w := by
  obtain ⟨k, ⟨i, a⟩, d, s⟩ := h.sep
  exact ⟨i, h.os, h.tape, h.output, k, a, d, s⟩
theorem Hp.fact {p : Prop} {A : Atom} (h : Hp Z ρ ((fun k => A k ∧ p) :: L) w) : Hp Z ρ (A :: L) w ∧ p := by
  obtain ⟨k, ⟨a, hp⟩, d, s⟩ := h.sep
  exact ⟨⟨h.os, h.tape, h.output, k, a, d, s⟩, hp⟩
theorem Hp.map {b : Nat} {l : List (κ × β)} (h : Hp Z ρ (MapA b l :: L) w) : ∃ es clock, Hp Z ρ (Pt b (.map es clock) :: L) w ∧ EntOk es clock l := by
  obtain ⟨k, ⟨es, clock, rfl, e⟩, d, s⟩ := h.sep
  exact ⟨es, clock, ⟨h.os, h.tape, h.output, _, rfl, d, s⟩, e⟩
theorem Hp.mapShut {b : Nat} {l : List (κ × β)} {es : Array MapEntry} {clock : Nat} (h : Hp Z ρ (Pt b (.map es clock) :: L) w) (e : EntOk es clock l) : Hp Z ρ (MapA b l :: L) w := h.imp fun k hk => ⟨es, clock, hk, e⟩
theorem EntOk.keysEq {es : Array MapEntry} {clock : Nat} {l : List (κ × β)} (h : EntOk es clock l) : es.toList.map (·.key) = (l.map (·.1)).map vl := by
  have := congrArg (List.map Prod.fst) h.ents
  simpa [Function.comp_def] using this
theorem EntOk.at {es : Array MapEntry} {clock : Nat} {l : List (κ × β)} (h : EntOk es clock l) {j : Nat} {e : MapEntry} (he : es.toList[j]? = some e) : ∃ p, l[j]? = some p ∧ e.key = vl p.1 ∧ e.val = vl p.2 := by
  have e1 : (es.toList.map (fun e => (e.key, e.val)))[j]? = some (e.key, e.val) := by rw [List.getElem?_map, he]; rfl
  rw [h.ents, List.getElem?_map] at e1
  obtain ⟨p, hp, e2⟩ := Option.map_eq_some_iff.1 e1
  exact ⟨p, hp, (congrArg Prod.fst e2).symm, (congrArg Prod.snd e2).symm⟩
theorem EntOk.size {es : Array MapEntry} {clock : Nat} {l : List (κ × β)} (h : EntOk es clock l) : es.size = l.length := by
  have := congrArg List.length h.ents
  simpa using this
section
variable [DecidableEq κ]
/-- A lookup in an owned map. -/
theorem run_mlook {kt et T : TypeId} (K : KT P kt κ) (hT : P.underlying T = some (.map kt et)) {z : Value} (hz : ∀ w, (zeroValue et).run P w = .ok z w) {b : Nat} {es : Array MapEntry} {clock : Nat} {l : List (κ × β)} (e : EntOk es clock l) (k : κ) (ok : Bool) {w : World} (hb : w.heap[b]? = some (.map es clock)) :
    (Instr.lookup T (.map (some b)) (vl k) ok).run P w = .ok (if ok then .tuple #[match mget l k with | some v => vl v | none => z, .bool (mget l k).isSome] else match mget l k with | some v => vl v | none => z) w := by
  rcases K.find w k (l.map (·.1)) es.toList e.keysEq with ⟨h1, h2⟩ | ⟨j, en, h1, h2, h3⟩
  · rw [mget_none h2]
    cases ok <;> simp [Instr.lookup, run_underlying hT, MapKept.run_getObj_map hb, K.check, h1, hz]
  · obtain ⟨p, hp, ek, ev⟩ := e.at h2
    rw [List.getElem?_map, hp] at h3
    have hk : p.1 = k := by simpa using h3
    rw [← hk, mget_at e.keys hp]
    rw [← hk] at h1
    cases ok <;> simp [Instr.lookup, run_underlying hT, MapKept.run_getObj_map hb, K.check, h1, ev]
theorem EntOk.put {es : Array MapEntry} {clock : Nat} {l : List (κ × β)} (e : EntOk es clock l) (k : κ) (v : β) (hk : k ∉ l.map (·.1)) : EntOk (es.push { key := vl k, val := vl v, born := clock }) (clock + 1) (mput l k v) := by
  refine ⟨by rw [mput_new hk]; simp [e.ents], ?_, ?_, ?_⟩
  · rw [Array.toList_push, List.map_append, List.nodup_append]
    refine ⟨e.nodup, by simp, fun x hx y hy => ?_⟩
    obtain ⟨en, he, rfl⟩ := List.mem_map.1 hx
    simp at hy; subst hy
    exact Nat.ne_of_lt (e.lt en he)
  · intro x hx
    rw [Array.toList_push, List.mem_append] at hx
    rcases hx with hx | hx
    · exact Nat.lt_succ_of_lt (e.lt x hx)
    · simp at hx; subst hx; exact Nat.lt_succ_self _
  · rw [mput_keys, if_neg hk, List.nodup_append]
    exact ⟨e.keys, by simp, fun x hx y hy => by simp at hy; subst hy; exact fun e => hk (e ▸ hx)⟩
theorem EntOk.turn {es : Array MapEntry} {clock : Nat} {l : List (κ × β)} (e : EntOk es clock l) (k : κ) (v : β) {j : Nat} {en : MapEntry} (hj : es.toList[j]? = some en) (hk : (l.map (·.1))[j]? = some k) : EntOk (es.modify j fun e => { e with key := vl k, val := vl v }) clock (mput l k v) := by
  have hm := mput_at (v := v) e.keys hk
  have htl : (es.modify j fun e => { e with key := vl k, val := vl v }).toList = es.toList.set j { en with key := vl k, val := vl v } := by
    apply List.ext_getElem?
    intro i
    simp only [Array.toList_modify, List.getElem?_modify, List.getElem?_set]
    by_cases h : j = i
    · subst h
      have := (List.getElem?_eq_some_iff.1 hj).1
      simp only [hj, Option.map_some, if_true]
      rw [if_pos this]; rfl
    · simp [h]
  refine ⟨?_, ?_, ?_, ?_⟩
  · rw [htl, hm, List.map_set, List.map_set, e.ents]
  · rw [htl, List.map_set]
    have : (es.toList.map (·.born)).set j en.born = es.toList.map (·.born) := by
      apply List.ext_getElem?
      intro i
      rw [List.getElem?_set]
      split
      · rename_i h; subst h
        rw [List.getElem?_map, hj]
        have := (List.getElem?_eq_some_iff.1 hj).1
        simp only [List.length_map, this, if_true, Option.map_some]
      · rfl
    rw [this]; exact e.nodup
  · intro x hx
    rw [htl] at hx
    rcases List.mem_or_eq_of_mem_set hx with hx | hx
    · exact e.lt x hx
    · subst hx; exact e.lt en (List.mem_of_getElem? hj)
  · rw [mput_keys, if_pos (List.mem_of_getElem? hk)]; exact e.keys
/-- A store into an owned map. -/
theorem run_mput {kt et T : TypeId} (K : KT P kt κ) (hT : P.underlying T = some (.map kt et)) {b : Nat} {l : List (κ × β)} (hp : Hp Z ρ (MapA b l :: L) w) (k : κ) (v : β) :
    ∃ w', (Instr.mapUpdate T (.map (some b)) (vl k) (vl v)).run P w = .ok () w' ∧ Hp Z ρ (MapA b (mput l k v) :: L) w' := by
  obtain ⟨es, clock, hpt, e⟩ := hp.map
  have hb := hpt.look 0 rfl
  rcases K.find w k (l.map (·.1)) es.toList e.keysEq with ⟨h1, h2⟩ | ⟨j, en, h1, h2, h3⟩
  · refine ⟨setBlock w b (.map (es.push { key := vl k, val := vl v, born := clock }) (clock + 1)), ?_, ?_⟩
    · simp [Instr.mapUpdate, run_underlying hT, MapKept.run_getObj_map hb, K.check, h1, MapKept.run_setObj_map _ hb, setBlock]
    · have hs := MapKept.heap_set (o' := .map (es.push { key := vl k, val := vl v, born := clock }) (clock + 1)) hb
      exact (Hp.set (w' := setBlock w b _) hpt rfl rfl rfl hs.1 hs.2).mapShut (e.put k v h2)
  · obtain ⟨p, hp1, ek, ev⟩ := e.at h2
    have hk : p.1 = k := by rw [List.getElem?_map, hp1] at h3; simpa using h3
    have hkey : ((es[j]?).map (·.key)).getD (vl k) = vl k := by
      have : es[j]? = some en := by rw [← Array.getElem?_toList]; exact h2
      rw [this]; simp [ek, hk]
    refine ⟨setBlock w b (.map (es.modify j fun e => { e with key := vl k, val := vl v }) clock), ?_, ?_⟩
    · simp [Instr.mapUpdate, run_underlying hT, MapKept.run_getObj_map hb, K.check, h1, hkey, K.stays, MapKept.run_setObj_map _ hb, setBlock]
    · have hs := MapKept.heap_set (o' := .map (es.modify j fun e => { e with key := vl k, val := vl v }) clock) hb
      exact (Hp.set (w' := setBlock w b _) hpt rfl rfl rfl hs.1 hs.2).mapShut (e.turn k v h2 h3)
end
/-! ### Steps -/
/-- A new map. -/
theorem s_mkmap (wk : Region.wanted o (yielded ops a.tmps) = true) (hd : o.dst = some d) (hN : Nat.blt d N = true) (hE : Env N E a) (hp : Hp Z ρ L w) {T : TypeId} (ho : o.op = .makeMap T none)
    (K : ∀ a w b, Env N ((d, .map (some b)) :: E) a → Hp Z ρ (MapA b ([] : List (κ × β)) :: L) w → wpList P ops Q rest a w) : wpList P ops Q (o :: rest) a w := by
  refine s_run wk hd hN hE (v := .map (some w.heap.size)) (w' := w.alloc (.map #[] 0)) ?_ fun a' hE' => K a' _ _ hE' ((hp.alloc _).mapShut ⟨rfl, by simp, by simp, by simp⟩)
  simp [execOp, ho, run_makeMap]
theorem ex_mlen {T kt et : TypeId} (hT : P.underlying T = some (.map kt et)) {x : Operand} (ho : o.op = .call { callee := .builtin .len, args := #[x], argTypes := #[T] }) (hE : Env N E a) (i : Nat) {b : Nat} {l : List (κ × β)} (hx : evo E x = some (.map (some b))) (hi : L[i]? = some (MapA b l)) : Ex P (Hp Z ρ L) a o (.int .i64 l.length) :=
  ex_b1 ho hE hx fun w c hw => by
    obtain ⟨es, clock, hpt, e⟩ := (hw.get i hi).map
    have hb := hpt.look 0 rfl
    simp [builtin, Builtin.len_, run_underlying hT, MapKept.run_getObj_map hb, goInt, e.size]
theorem ex_mget [DecidableEq κ] {kt et T : TypeId} (K : KT P kt κ) (hT : P.underlying T = some (.map kt et)) {z : Value} (hz : ∀ w, (zeroValue et).run P w = .ok z w) {x y : Operand} {ok : Bool} (ho : o.op = .lookup T x y ok) (hE : Env N E a) (i : Nat) {b : Nat} {l : List (κ × β)} {k : κ} (hx : evo E x = some (.map (some b))) (hy : evo E y = some (vl k)) (hi : L[i]? = some (MapA b l)) :
    Ex P (Hp Z ρ L) a o (if ok then .tuple #[match mget l k with | some v => vl v | none => z, .bool (mget l k).isSome] else match mget l k with | some v => vl v | none => z) := fun w hw => by
  obtain ⟨es, clock, hpt, e⟩ := (hw.get i hi).map
  simp [execOp, ho, hE.eval hx, hE.eval hy, run_mlook K hT hz e k ok (hpt.look 0 rfl)]
theorem mget_getD {κ β : Type} [Vl β] {l : List (κ × β)} [DecidableEq κ] {k : κ} {z : Value} {zd : β} (h : vl zd = z) : (match mget l k with | some v => vl v | none => z) = vl ((mget l k).getD zd) := by
  cases mget l k <;> simp [h]
theorem ex_mget0 [DecidableEq κ] {kt et T : TypeId} (K : KT P kt κ) (hT : P.underlying T = some (.map kt et)) {zd : β} (hz : ∀ w, (zeroValue et).run P w = .ok (vl zd) w) {x y : Operand} (ho : o.op = .lookup T x y false) (hE : Env N E a) (i : Nat) {b : Nat} {l : List (κ × β)} {k : κ} (hx : evo E x = some (.map (some b))) (hy : evo E y = some (vl k)) (hi : L[i]? = some (MapA b l)) :
    Ex P (Hp Z ρ L) a o (vl ((mget l k).getD zd)) := by
  have := ex_mget (Z := Z) (ρ := ρ) K hT hz ho hE i hx hy hi
  rw [mget_getD (zd := zd) rfl] at this
  exact this
theorem ex_mget1 [DecidableEq κ] {kt et T : TypeId} (K : KT P kt κ) (hT : P.underlying T = some (.map kt et)) {zd : β} (hz : ∀ w, (zeroValue et).run P w = .ok (vl zd) w) {x y : Operand} (ho : o.op = .lookup T x y true) (hE : Env N E a) (i : Nat) {b : Nat} {l : List (κ × β)} {k : κ} (hx : evo E x = some (.map (some b))) (hy : evo E y = some (vl k)) (hi : L[i]? = some (MapA b l)) :
    Ex P (Hp Z ρ L) a o (.tuple #[vl ((mget l k).getD zd), .bool (mget l k).isSome]) := by
  have := ex_mget (Z := Z) (ρ := ρ) K hT hz ho hE i hx hy hi
  rw [mget_getD (zd := zd) rfl] at this
  exact this
theorem s_mput [DecidableEq κ] {kt et T : TypeId} (K : KT P kt κ) (hT : P.underlying T = some (.map kt et)) (wk : Region.wanted o (yielded ops a.tmps) = true) (hd : o.dst = none) (hE : Env N E a) (hp : Hp Z ρ L w) {x y u : Operand} (ho : o.op = .mapUpdate T x y u) (i : Nat) {b : Nat} {l : List (κ × β)} {k : κ} {v : β} (hx : evo E x = some (.map (some b))) (hy : evo E y = some (vl k)) (hu : evo E u = some (vl v)) (hi : L[i]? = some (MapA b l))
    (C : ∀ w, Hp Z ρ (L.set i (MapA b (mput l k v))) w → wpList P ops Q rest a w) : wpList P ops Q (o :: rest) a w := by
  obtain ⟨w', hr, hp'⟩ := run_mput K hT (hp.get i hi) k v
  refine s_unit wk hd hE (w' := w') ?_ (C w' (Hp.put i (set_get (A := MapA b l) (_B := MapA b l) hi).2 hp'))
  simp [execOp, ho, hE.eval hx, hE.eval hy, hE.eval hu, hr]
/-! ### Ranges -/
/-- A range over an owned map begins. -/
theorem s_range {T kt et : TypeId} (hT : P.underlying T = some (.map kt et)) (wk : Region.wanted o (yielded ops a.tmps) = true) (hd : o.dst = some d) (hN : Nat.blt d N = true) (hE : Env N E a) {b : Nat} {l : List (κ × β)} (hp : Hp Z ρ (MapA b l :: L) w) {x : Operand} (ho : o.op = .range T x) (hx : evo E x = some (.map (some b)))
    (K : ∀ a w r, Env N ((d, .pointer (some ⟨r, 0, none⟩)) :: E) a → Hp Z ρ (MapIt b r l l none :: L) w → wpList P ops Q rest a w) : wpList P ops Q (o :: rest) a w := by
  obtain ⟨es, clock, hpt, e⟩ := hp.map
  have hr := run_range_map (P := P) w T kt et b es clock hT (hpt.look 0 rfl)
  refine s_run wk hd hN hE (v := .pointer (some ⟨w.heap.size, 0, none⟩)) (w' := w.alloc (.mapIter (some b) clock #[] clock)) (by simp [execOp, ho, hE.eval hx, hr]) fun a' hE' => K a' _ _ hE' ?_
  have h2 := (hpt.alloc (.mapIter (some b) clock #[] clock)).to Sep.swap
  refine (h2.to Sep.two.2).imp fun k hk => ⟨es, clock, clock, #[], clock, hk, e, e.lt, Nat.le_refl _, Nat.le_refl _, ?_, List.Sublist.refl _, fun c hc => by cases hc⟩
  have : leftOf es #[] = es := by simp [leftOf]
  rw [this]; exact e.ents
theorem Hp.it {b r : Nat} {l rem : List (κ × β)} {cur : Option (κ × β)} (h : Hp Z ρ (MapIt b r l rem cur :: L) w) : ∃ es clock since seen last, Hp Z ρ (Pt b (.map es clock) :: Pt r (.mapIter (some b) since seen last) :: L) w ∧ EntOk es clock l ∧ (∀ e ∈ es.toList, e.born < since) ∧ since ≤ last ∧ since ≤ clock ∧
  (leftOf es seen).toList.map (fun e => (e.key, e.val)) = rem.map (fun p => (vl p.1, vl p.2)) ∧ rem.Sublist l ∧
  (∀ c, cur = some c → last = clock ∧ ∃ (e : MapEntry) (seen' : Array Nat), seen = seen'.push e.born ∧ e ∈ es.toList ∧ e.key = vl c.1 ∧ e.val = vl c.2) := by
  obtain ⟨k, ⟨es, clock, since, seen, last, hk, r⟩, d, s⟩ := h.sep
  exact ⟨es, clock, since, seen, last, h.with_ rfl rfl rfl (Sep.two.1 ⟨k, hk, d, s⟩), r⟩
/-- The range is over. -/
theorem MapIt.done {b r : Nat} {l rem : List (κ × β)} {cur : Option (κ × β)} (h : Hp Z ρ (MapIt b r l rem cur :: L) w) : Hp Z ρ (MapA b l :: L) w := by
  obtain ⟨es, clock, since, seen, last, hp, e, _⟩ := h.it
  exact (hp.drop2).mapShut e
theorem MapIt.forget {b r : Nat} {l rem : List (κ × β)} {cur : Option (κ × β)} (h : Hp Z ρ (MapIt b r l rem cur :: L) w) : Hp Z ρ (MapIt b r l rem none :: L) w :=
  h.imp fun k ⟨es, clock, since, seen, last, h1, h2, h3, h4, h5, h6, h7, _⟩ => ⟨es, clock, since, seen, last, h1, h2, h3, h4, h5, h6, h7, fun c hc => by cases hc⟩
theorem perm_erase {ε : Type} : ∀ (l : List ε) (i : Nat) (h : i < l.length), l.Perm (l[i] :: l.eraseIdx i)
  | a :: l, 0, _ => List.Perm.refl _
  | a :: l, i + 1, h => ((perm_erase l i (by simpa using h)).cons a).trans (List.Perm.swap ..)
theorem map_erase {ε ζ : Type} (f : ε → ζ) : ∀ (l : List ε) (i : Nat), (l.eraseIdx i).map f = (l.map f).eraseIdx i
  | [], i => by simp
  | a :: l, 0 => rfl
  | a :: l, i + 1 => by simp [map_erase f l i]
theorem filter_erase {es : List MapEntry} (hn : (es.map (·.born)).Nodup) {seen : Array Nat} {i : Nat} {e : MapEntry} (h : (es.filter fun e => !seen.contains e.born)[i]? = some e) :
    es.filter (fun x => !(seen.push e.born).contains x.born) = (es.filter fun e => !seen.contains e.born).eraseIdx i := by
  have e1 : es.filter (fun x => !(seen.push e.born).contains x.born) = (es.filter fun e => !seen.contains e.born).filter (fun x => !(x.born == e.born)) := by
    rw [List.filter_filter]
    apply List.filter_congr
    intro x _
    rw [Bool.and_comm]
    by_cases h1 : x.born = e.born <;> by_cases h2 : x.born ∈ seen <;> simp [h1, h2] <;> simp [← h1, h2]
  rw [e1]
  have hn2 : ((es.filter fun e => !seen.contains e.born).map (·.born)).Nodup := hn.sublist (List.filter_sublist.map _)
  generalize (es.filter fun e => !seen.contains e.born) = l at h hn2
  clear e1 hn
  induction l generalizing i with
  | nil => simp at h
  | cons x l ih =>
    rw [List.map_cons, List.nodup_cons] at hn2
    cases i with
    | zero =>
      simp at h; subst h
      rw [List.filter_cons_of_neg (by simp), List.eraseIdx_cons_zero]
      exact List.filter_eq_self.2 fun y hy => by
        simp only [Bool.not_eq_true', beq_eq_false_iff_ne]
        exact fun e => hn2.1 (by rw [← e]; exact List.mem_map_of_mem hy)
    | succ i =>
      simp only [List.getElem?_cons_succ] at h
      have hne : x.born ≠ e.born := fun q => hn2.1 (by rw [q]; exact List.mem_map_of_mem (List.mem_of_getElem? h))
      rw [List.filter_cons_of_pos (by simpa using hne), ih h hn2.2]; rfl
/-- A step of the range. -/
theorem s_next (wk : Region.wanted o (yielded ops a.tmps) = true) (hd : o.dst = some d) (hN : Nat.blt d N = true) (hE : Env N E a) {b r : Nat} {l rem : List (κ × β)} {cur : Option (κ × β)} (hp : Hp Z ρ (MapIt b r l rem cur :: L) w) {x : Operand} (ho : o.op = .next x false) (hx : evo E x = some (.pointer (some ⟨r, 0, none⟩)))
    (K0 : rem = [] → ∀ a, Env N ((d, .tuple #[.bool false]) :: E) a → wpList P ops Q rest a w)
    (K1 : ∀ (e : κ × β) (rem' : List (κ × β)), rem.Perm (e :: rem') → rem'.length < rem.length → ∀ a w, Env N ((d, .tuple #[.bool true, vl e.1, vl e.2]) :: E) a → Hp Z ρ (MapIt b r l rem' (some e) :: L) w → wpList P ops Q rest a w) : wpList P ops Q (o :: rest) a w := by
  obtain ⟨es, clock, since, seen, last, hpt, e, h1, h2, h3, h4, h5, _⟩ := hp.it
  have hb := hpt.look 0 rfl
  have hrb := hpt.look 1 rfl
  rcases run_next_at (P := P) w o.type r b since last seen es clock hrb hb h1 h2 with ⟨h0, hr⟩ | ⟨en, hen, w1, hw1, hr⟩
  · refine s_run wk hd hN hE (v := .tuple #[.bool false]) (w' := w) (by simp [execOp, ho, hE.eval hx, hr]) fun a' hE' => K0 ?_ a' hE'
    have hl : (leftOf es seen).toList = [] := List.eq_nil_of_length_eq_zero (by rw [Array.length_toList]; exact h0)
    rw [hl] at h4
    simpa using h4.symm
  · obtain ⟨i, hi⟩ := List.getElem?_of_mem hen
    have hi2 : ((leftOf es seen).toList.map (fun e => (e.key, e.val)))[i]? = some (en.key, en.val) := by rw [List.getElem?_map, hi]; rfl
    rw [h4, List.getElem?_map] at hi2
    obtain ⟨p, hp1, hpe⟩ := Option.map_eq_some_iff.1 hi2
    have ek : en.key = vl p.1 := (congrArg Prod.fst hpe).symm
    have ev : en.val = vl p.2 := (congrArg Prod.snd hpe).symm
    have hil := (List.getElem?_eq_some_iff.1 hp1).1
    have hpv := (List.getElem?_eq_some_iff.1 hp1).2
    refine s_run wk hd hN hE (v := .tuple #[.bool true, vl p.1, vl p.2]) (w' := setBlock w1 r (.mapIter (some b) since (seen.push en.born) clock)) (by simp [execOp, ho, hE.eval hx, hr, ek, ev]) fun a' hE' =>
      K1 p (rem.eraseIdx i) (by rw [← hpv]; exact perm_erase rem i hil) (by rw [List.length_eraseIdx_of_lt hil]; omega) a' _ hE' ?_
    have hw : Hp Z ρ (Pt b (.map es clock) :: Pt r (.mapIter (some b) since seen last) :: L) w1 := by
      rcases hw1 with rfl | rfl
      · exact hpt
      · exact hpt.drew
    have hrb1 := hw.look 1 rfl
    have hs := MapKept.heap_set (o' := .mapIter (some b) since (seen.push en.born) clock) hrb1
    have hw2 : Hp Z ρ (Pt r (.mapIter (some b) since (seen.push en.born) clock) :: Pt b (.map es clock) :: L) (setBlock w1 r (.mapIter (some b) since (seen.push en.born) clock)) :=
      Hp.set (w' := setBlock w1 r _) (hw.to Sep.swap) rfl rfl rfl hs.1 hs.2
    have hes : en ∈ es.toList := by
      have : en ∈ (es.toList.filter fun e => !seen.contains e.born) := by simpa [leftOf] using hen
      exact (List.mem_filter.1 this).1
    refine ((hw2.to Sep.swap).to Sep.two.2).imp fun k hk => ⟨es, clock, since, seen.push en.born, clock, hk, e, h1, h3, h3, ?_, (List.eraseIdx_sublist _ _).trans h5, fun c hc => ?_⟩
    · have e1 : (leftOf es (seen.push en.born)).toList = (leftOf es seen).toList.eraseIdx i := by
        have hi3 : (es.toList.filter fun e => !seen.contains e.born)[i]? = some en := by simpa [leftOf] using hi
        have := filter_erase e.nodup hi3
        simpa [leftOf] using this
      rw [e1, map_erase, h4, map_erase]
    · obtain rfl := Option.some.inj hc
      exact ⟨rfl, en, seen, rfl, hes, ek, ev⟩
/-- The entry that has come. -/
theorem ex_entry {x : Operand} (ho : o.op = .entry x) (hE : Env N E a) (i : Nat) {b r : Nat} {l rem : List (κ × β)} {c : κ × β} (hi : L[i]? = some (MapIt b r l rem (some c))) (hx : evo E x = some (.pointer (some ⟨r, 0, none⟩))) : Ex P (Hp Z ρ L) a o (.tuple #[vl c.1, vl c.2]) := fun w hw => by
  obtain ⟨es, clock, since, seen, last, hpt, e, h1, h2, h3, h4, h5, h6⟩ := (hw.get i hi).it
  obtain ⟨rfl, en, seen', rfl, hen, ek, ev⟩ := h6 c rfl
  have := run_entry_at (P := P) w r b since seen' es last en (hpt.look 1 rfl) (hpt.look 0 rfl) hen e.nodup
  simp [execOp, ho, hE.eval hx, this, ek, ev]
/-- A range over a map: what it comes to is the same in whatever order. -/
theorem k_loopP {c : Code} {cs : List Code} {σ β' ε : Type} {body : ε → σ → Option (Step σ β')} {fin : σ → Option β'} {l : List ε} {s : σ} {bb : β'} (hm : permM l (fun p => foldP body fin p s) = some bb) (I : List ε → σ → Act → World → Prop) (h0 : I l s a w)
    (round : ∀ rem s a w, I rem s a w → Perm1 rem (fun p => foldP body fin p s) bb → wpK P (fun e a w => match e with | .normal => ∃ rem' s', rem'.length < rem.length ∧ Perm1 rem' (fun p => foldP body fin p s') bb ∧ I rem' s' a w | e => Q e a w) [c] a w) : wpK P Q (.loop c :: cs) a w := by
  refine wp_loop_nat (fun n a w => ∃ rem s, rem.length = n ∧ Perm1 rem (fun p => foldP body fin p s) bb ∧ I rem s a w) l.length ⟨l, s, rfl, permM_iff.1 hm, h0⟩ ?_
  rintro n a w ⟨rem, s, rfl, hf, hi⟩
  refine Code.wp_mono (fun e a' w' q => ?_) (k_one (round rem s a w hi hf))
  cases e with
  | normal =>
    obtain ⟨rem', s', h1, h2, h3⟩ := q
    exact ⟨rem'.length, h1, rem', s', rfl, h2, h3⟩
  | _ => exact q
end
end Go.Proofs.Ytmfepkadggigpaa
