/-
  Maps from integers whose entries are told in the order of the keys, wherever they lie. Plain theorems over any program.
-/
import Derived.Test.YtmfepkadggigpaaMapT
import Derived.Test.YtmfepkadggigpaaLibD
set_option linter.unusedVariables false
set_option linter.unusedSimpArgs false
namespace Go.Proofs.Ytmfepkadggigpaa
open Vl (vl)
open Go.RowKit
def insK {β : Type} (e : Int × β) : List (Int × β) → List (Int × β)
  | [] => [e]
  | p :: l => if e.1 < p.1 then e :: p :: l else p :: insK e l
/-- An entry is put at its place among the keys. -/
def sput {β : Type} (l : List (Int × β)) (k : Int) (v : β) : List (Int × β) := insK (k, v) (l.filter fun p => !decide (p.1 = k))
section
variable {β : Type}
theorem insK_perm (e : Int × β) : ∀ (l : List (Int × β)), (insK e l).Perm (e :: l)
  | [] => List.Perm.refl _
  | p :: l => by
    unfold insK
    split
    · exact List.Perm.refl _
    · exact ((insK_perm e l).cons p).trans (List.Perm.swap ..)
theorem mput_perm {l : List (Int × β)} (hn : (l.map (·.1)).Nodup) (k : Int) (v : β) : (mput l k v).Perm ((k, v) :: l.filter fun p => !decide (p.1 = k)) := by
  by_cases hm : k ∈ l.map (·.1)
  · obtain ⟨j, hj⟩ := List.getElem?_of_mem hm
    have hl := (List.getElem?_eq_some_iff.1 hj).1
    rw [List.length_map] at hl
    rw [mput_at hn hj, filter_ne hn hj]
    have := perm_erase (l.set j (k, v)) j (by simpa using hl)
    simpa [List.eraseIdx_set_eq] using this
  · rw [mput_new hm, filter_all hm]
    exact List.perm_append_comm
theorem mget_perm {l m : List (Int × β)} (hn : (l.map (·.1)).Nodup) (h : l.Perm m) (k : Int) : mget l k = mget m k := by
  have hn2 : (m.map (·.1)).Nodup := (h.map _).nodup_iff.1 hn
  by_cases hm : k ∈ l.map (·.1)
  · obtain ⟨p, hp, rfl⟩ := List.mem_map.1 hm
    rw [mget_mem (v := p.2) hn hp, mget_mem (v := p.2) hn2 (h.mem_iff.1 hp)]
  · rw [mget_none hm, mget_none (fun h2 => hm ((h.map _).mem_iff.2 h2))]
theorem mergeSort_of_permI {l m : List Int} (h : l.Perm m) : (l.mergeSort fun x y => decide (x ≤ y)) = m.mergeSort fun x y => decide (x ≤ y) := by
  refine List.Perm.eq_of_pairwise (le := fun x y => decide (x ≤ y) = true) (fun a b _ _ h1 h2 => ?_) (List.pairwise_mergeSort ?_ ?_ _) (List.pairwise_mergeSort ?_ ?_ _) ((List.mergeSort_perm _ _).trans (h.trans (List.mergeSort_perm _ _).symm))
  · simp only [decide_eq_true_eq] at h1 h2; omega
  all_goals (intros; simp at *; omega)
theorem m_sortedKeys_perm {l m : List (Int × β)} (h : l.Perm m) : m_sortedKeys l = m_sortedKeys m := by
  unfold m_sortedKeys
  have e1 : (l.all fun p => decide (-9223372036854775808 ≤ p.1 ∧ p.1 ≤ 9223372036854775807)) = m.all fun p => decide (-9223372036854775808 ≤ p.1 ∧ p.1 ≤ 9223372036854775807) := by
    rw [Bool.eq_iff_iff, List.all_eq_true, List.all_eq_true]
    exact ⟨fun hh x hx => hh x (h.mem_iff.2 hx), fun hh x hx => hh x (h.mem_iff.1 hx)⟩
  have e2 : ((l.map (·.1)).mergeSort fun x y => decide (x ≤ y)) = (m.map (·.1)).mergeSort fun x y => decide (x ≤ y) := mergeSort_of_permI (h.map _)
  rw [e1, h.length_eq, e2]
end
theorem m_sortedKeys_congr {β γ : Type} {l : List (Int × β)} {m : List (Int × γ)} (h : l.map (·.1) = m.map (·.1)) : m_sortedKeys l = m_sortedKeys m := by
  unfold m_sortedKeys
  have e1 : ∀ {δ : Type} (l : List (Int × δ)), (l.all fun p => decide (-9223372036854775808 ≤ p.1 ∧ p.1 ≤ 9223372036854775807)) = (l.map (·.1)).all fun k => decide (-9223372036854775808 ≤ k ∧ k ≤ 9223372036854775807) := fun l => by rw [List.all_map]; rfl
  have e2 : l.length = m.length := by simpa using congrArg List.length h
  rw [e1 l, e1 m, h, e2]
/-- An owned map, its entries in whatever order. -/
def MapU {β : Type} [Vl β] (b : Nat) (l : List (Int × β)) : Atom := fun h => ∃ l', MapA b l' h ∧ l'.Perm l
section
variable {P : Program} {ops : Array Oper} {Q : Exit → Act → World → Prop} {rest : List Oper} {o : Oper} {a : Act} {w : World} {N : Nat} {E : Ent} {d : Nat} {Z : World} {ρ : PH} {L : List Atom}
variable {β : Type} [Vl β] {b : Nat} {l : List (Int × β)}
theorem MapU.of (h : Hp Z ρ (MapA b l :: L) w) : Hp Z ρ (MapU b l :: L) w := h.imp fun _ k => ⟨l, k, List.Perm.refl _⟩
theorem MapU.shut {l' : List (Int × β)} (h : Hp Z ρ (MapA b l' :: L) w) (hp : l'.Perm l) : Hp Z ρ (MapU b l :: L) w := h.imp fun _ k => ⟨l', k, hp⟩
theorem MapU.open_ (h : Hp Z ρ (MapU b l :: L) w) : ∃ l', Hp Z ρ (MapA b l' :: L) w ∧ l'.Perm l ∧ (l'.map (·.1)).Nodup := by
  obtain ⟨l', h1⟩ := Hp.ex (A := fun l' k => MapA b l' k ∧ l'.Perm l) h
  obtain ⟨h2, hp⟩ := Hp.fact (A := MapA b l') h1
  obtain ⟨es, clock, _, e⟩ := h2.map
  exact ⟨l', h2, hp, e.keys⟩
theorem ex_mget0U {kt et T : TypeId} (K : KT P kt Int) (hT : P.underlying T = some (.map kt et)) {zd : β} (hz : ∀ w, (zeroValue et).run P w = .ok (vl zd) w) {x y : Operand} (ho : o.op = .lookup T x y false) (hE : Env N E a) (i : Nat) {k : Int} (hx : evo E x = some (.map (some b))) (hy : evo E y = some (vl k)) (hi : L[i]? = some (MapU b l)) :
    Ex P (Hp Z ρ L) a o (vl ((mget l k).getD zd)) := by
  intro w hw
  obtain ⟨l', h1, hp, hn⟩ := MapU.open_ (hw.get i hi)
  have := ex_mget0 (Z := Z) (ρ := ρ) K hT hz ho hE 0 (L := MapA b l' :: L.eraseIdx i) hx hy rfl w h1
  rw [mget_perm hn hp] at this
  exact this
theorem s_mputU {kt et T : TypeId} (K : KT P kt Int) (hT : P.underlying T = some (.map kt et)) (wk : Region.wanted o (yielded ops a.tmps) = true) (hd : o.dst = none) (hE : Env N E a) (hp : Hp Z ρ L w) {x y u : Operand} (ho : o.op = .mapUpdate T x y u) (i : Nat) {k : Int} {v : β} (hx : evo E x = some (.map (some b))) (hy : evo E y = some (vl k)) (hu : evo E u = some (vl v)) (hi : L[i]? = some (MapU b l))
    (C : ∀ w, Hp Z ρ (L.set i (MapU b (sput l k v))) w → wpList P ops Q rest a w) : wpList P ops Q (o :: rest) a w := by
  obtain ⟨l', h1, hpm, hn⟩ := MapU.open_ (hp.get i hi)
  refine s_mput K hT wk hd hE h1 ho 0 hx hy hu rfl fun w hw => C w (Hp.put i (List.getElem?_eq_some_iff.1 hi).1 (MapU.shut hw ?_))
  exact (mput_perm hn k v).trans ((hpm.filter _ |>.cons _).trans (insK_perm _ _).symm)
end
end Go.Proofs.Ytmfepkadggigpaa
