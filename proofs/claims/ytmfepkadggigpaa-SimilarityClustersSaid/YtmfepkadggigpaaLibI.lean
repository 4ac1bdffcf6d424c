/-
  The shelf's contracts on slices of integers, over owned slices and slices that are only read: what they share. Plain theorems.
-/
import Derived.Test.YtmfepkadggigpaaMut2
import Derived.Sort.OwnSortedInts
set_option linter.unusedVariables false
set_option linter.unusedSimpArgs false
namespace Go.Proofs.Ytmfepkadggigpaa
open Go.RowKit Go.Sort
section
variable {Z : World} {ρ : PH} {L : List Atom} {w : World}
theorem flat_int (l : List Int) : flat l = l.map (Value.int .i64) := by
  induction l with
  | nil => rfl
  | cons x l ih => rw [flat_cons, ih]; rfl
/-- The cells of a slice of integers that is only read. -/
theorem RoSl.ints {v : Value} {l : List Int} (h : RoSl ρ v l) (hp : Hp Z ρ L w) : (∃ b o c, v = .slice (some ⟨b, o, none⟩) l.length c ∧ ∀ j, j < l.length → w.cell? ⟨b, o + j, none⟩ = some (.int .i64 (l.getD j 0))) ∨ (∃ A c, v = .slice A 0 c ∧ l = []) := by
  rcases Nat.eq_zero_or_pos l.length with h0 | h0
  · right
    have hl := List.eq_nil_of_length_eq_zero h0
    subst hl
    obtain ⟨A, c, rfl⟩ := h.shape
    exact ⟨A, c, rfl, rfl⟩
  · left
    obtain ⟨b, o, c, rfl, hat⟩ := h.row h0
    refine ⟨b, o, c, rfl, fun j hj => cell_of hp.le (hat j _ ?_)⟩
    rw [flat_int, List.getElem?_map, List.getElem?_eq_getElem hj]
    simp [List.getD_eq_getElem?_getD, List.getElem?_eq_getElem hj]
/-- A row of integers turned by the sort. -/
theorem Hp.sortI {g cap : Nat} {El : TypeId} {n : Nat} {os : Array Obj} {l l' : List Int} {cur : Array Value} (hpt : Hp Z ρ (Pt g (.cells cur El (0, 0)) :: L) w) (he : l'.length = l.length) (h1 : l.length ≤ cap) (h2 : cap ≤ maxLen) (h3 : cur.size = cap * 1) :
    Hp Z ρ (OwnSl El (.slice (some ⟨g, 0, none⟩) l.length cap) l' :: L) (grow (putRow (Value.int .i64) (Sort.ahead w n) g 0 l'.toArray) os) := by
  have hg := hpt.look 0 rfl
  have hnew : (putRow (Value.int .i64) (Sort.ahead w n) g 0 l'.toArray).heap[g]? = some (.cells (putCells (Value.int .i64) 0 l'.toArray cur) El (0, 0)) := by
    unfold putRow mapBlock
    simp only [Array.getElem?_modify, if_true, heap_ahead, hg, Option.map_some]
    rfl
  have a := (Hp.set (w' := putRow (Value.int .i64) (Sort.ahead w n) g 0 l'.toArray) hpt rfl rfl rfl hnew (fun k hk => by
    unfold putRow mapBlock
    simp only [Array.getElem?_modify, heap_ahead]
    rw [if_neg (fun e => hk e.symm)])).shut (n := l.length) (cap := cap) (sz := 1) (xs := flat l') h1 h2 (by simp [putCells, h3]) (by
      rw [flat_int, Nat.mul_one, ← he]
      exact take_putCellsI cur l' (by omega))
  have b : Hp Z ρ (OwnSl El (.slice (some ⟨g, 0, none⟩) l.length cap) l' :: L) (putRow (Value.int .i64) (Sort.ahead w n) g 0 l'.toArray) := by
    unfold OwnSl
    rw [he]
    exact a
  refine b.with_ (w' := grow (putRow (Value.int .i64) (Sort.ahead w n) g 0 l'.toArray) os) rfl rfl rfl (b.sep.mono fun c o e => ?_)
  have hlt : c < (putRow (Value.int .i64) (Sort.ahead w n) g 0 l'.toArray).heap.size := (Array.getElem?_eq_some_iff.1 e).1
  show (grow (putRow (Value.int .i64) (Sort.ahead w n) g 0 l'.toArray) os).heap[c]? = some o
  rw [heap_grow_old _ _ hlt]; exact e
end
/-- What slices.Sort makes of integers. -/
def m_sortI (l : List Int) : Option (List Int) := if l.length < 4294967297 then some (l.mergeSort fun x y => decide (x ≤ y)) else none
def m_containsI (l : List Int) (x : Int) : Option Bool := if l.length < 4294967297 then some (l.contains x) else none
def m_equalI (l m : List Int) : Option Bool := if l.length < 4294967297 ∧ m.length < 4294967297 then some (l == m) else none
end Go.Proofs.Ytmfepkadggigpaa
