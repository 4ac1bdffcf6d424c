/-
  The shelf's words for a row that is sorted in place, brought to owned slices at any place of their block. Plain theorems.
-/
import Derived.Test.YtmfepkadggigpaaLibI
import Derived.Shelf.SlSortCmp.InsertionK
set_option linter.unusedVariables false
set_option linter.unusedSimpArgs false
namespace Go.Proofs.Ytmfepkadggigpaa
open Go.RowKit Go.Sort
section
variable {β : Type} [Inhabited β] {Z : World} {ρ : PH} {L : List Atom} {w : World} {T : TypeId} {sz g off cap n : Nat} {xs xs' : List Value}
theorem putCells_seg (enc : β → Value) (off : Nat) (d : Array β) (cur : Array Value) (h : off + d.size ≤ cur.size) : ((putCells enc off d cur).toList.drop off).take d.size = d.toList.map enc := by
  apply List.ext_getElem?
  intro q
  rw [List.getElem?_take]
  by_cases hq : q < d.size
  · rw [if_pos hq, List.getElem?_drop, Array.getElem?_toList]
    unfold putCells
    rw [Array.getElem?_mapIdx, Array.getElem?_eq_getElem (by omega)]
    simp [hq]
  · rw [if_neg hq, List.getElem?_eq_none (by simpa using hq)]
/-- A row by its cells is held in the shelf's words. -/
theorem Hp.holdsO (enc : β → Value) {d : Array β} (h : Hp Z ρ (Row T sz (.slice (some ⟨g, off, none⟩) n cap) n xs :: L) w) (hn : 0 < n) (hd : d.toList.map enc = xs) : Holds enc w g off d ∧ g < w.heap.size := by
  obtain ⟨hxl, hr⟩ := h.row
  rcases hr with ⟨A, _, hn0⟩ | ⟨g', off', cap', cur, e, hpt, h1, h2, h3, h4⟩
  · omega
  · simp only [Value.slice.injEq, Option.some.injEq, Addr.mk.injEq, and_true, true_and] at e
    obtain ⟨⟨rfl, rfl⟩, rfl⟩ := e
    have hg := hpt.look 0 rfl
    refine ⟨fun j hj => ?_, (Array.getElem?_eq_some_iff.1 hg).1⟩
    have e1 : xs[j]? = some (enc d[j]!) := by
      rw [← hd, List.getElem?_map, Array.getElem?_toList, Array.getElem?_eq_getElem hj]
      simp [hj]
    have hjx : j < n * sz := by rw [← hxl]; exact (List.getElem?_eq_some_iff.1 e1).1
    rw [← h4, List.getElem?_take, if_pos hjx, List.getElem?_drop, Array.getElem?_toList] at e1
    refine ⟨?_, by simp [World.frozen?, hg]⟩
    rw [cell_of_row w g _ cur T (0, 0) hg]
    exact e1
/-- The row's cells are laid anew. -/
theorem Hp.putO (enc : β → Value) {m : Nat} {d : Array β} {os : Array Obj} (h : Hp Z ρ (Row T sz (.slice (some ⟨g, off, none⟩) n cap) n xs :: L) w) (hn : 0 < n) (hd : d.toList.map enc = xs') (hl : xs'.length = n * sz) : Hp Z ρ (Row T sz (.slice (some ⟨g, off, none⟩) n cap) n xs' :: L) (grow (putRow enc (Sort.ahead w m) g off d) os) := by
  rcases h.row.2 with ⟨A, _, hn0⟩ | ⟨g', off', cap', cur, e, hpt, h1, h2, h3, h4⟩
  · omega
  · simp only [Value.slice.injEq, Option.some.injEq, Addr.mk.injEq, and_true, true_and] at e
    obtain ⟨⟨rfl, rfl⟩, rfl⟩ := e
    have hg := hpt.look 0 rfl
    have hds : d.size = n * sz := by rw [← hl, ← hd]; simp
    have hle : n * sz ≤ cap * sz := Nat.mul_le_mul_right _ h1
    have hnew : (putRow enc (Sort.ahead w m) g off d).heap[g]? = some (.cells (putCells enc off d cur) T (0, 0)) := by
      unfold putRow mapBlock
      simp only [Array.getElem?_modify, if_true, heap_ahead, hg, Option.map_some]
      rfl
    have b := (Hp.set (w' := putRow enc (Sort.ahead w m) g off d) hpt rfl rfl rfl hnew (fun k hk => by
      unfold putRow mapBlock
      simp only [Array.getElem?_modify, heap_ahead]
      rw [if_neg (fun e => hk e.symm)])).shutO (off := off) (n := n) (cap := cap) (sz := sz) (xs := xs') h1 h2 (by simp [putCells, h3]) (by
        rw [← hds, putCells_seg enc off d cur (by omega), hd])
    refine b.with_ (w' := grow (putRow enc (Sort.ahead w m) g off d) os) rfl rfl rfl (b.sep.mono fun c o e => ?_)
    have hlt : c < (putRow enc (Sort.ahead w m) g off d).heap.size := (Array.getElem?_eq_some_iff.1 e).1
    show (grow (putRow enc (Sort.ahead w m) g off d) os).heap[c]? = some o
    rw [heap_grow_old _ _ hlt]; exact e
end
section
variable {α : Type} [Inhabited α] [Enc α] {Z : World} {ρ : PH} {L : List Atom} {w : World}
theorem flatK_enc (l : List α) : flatK Enc.enc (Enc.sz α) l.toArray = (flat l).toArray := by
  apply ext_get!
  · simp [flat_len]
  · intro t ht
    have ht' : t < l.length * Enc.sz α := by simpa using ht
    have ht2 : t < (flat l).length := by rw [flat_len]; exact ht'
    have k0 : 0 < Enc.sz α := Enc.pos
    have hi' : t / Enc.sz α < l.length := Nat.div_lt_of_lt_mul (by rw [Nat.mul_comm]; exact ht')
    have he : t = t / Enc.sz α * Enc.sz α + t % Enc.sz α := by rw [Nat.mul_comm]; exact (Nat.div_add_mod t _).symm
    have hm : t % Enc.sz α < Enc.sz α := Nat.mod_lt _ k0
    rw [get_flatK _ _ _ _ (by simpa using ht')]
    have hg := flat_get l _ _ _ (List.getElem?_eq_getElem hi') hm
    rw [← he, List.getElem?_eq_getElem ht2] at hg
    have a1 : l.toArray[t / Enc.sz α]! = l[t / Enc.sz α] := by simp [hi']
    have a2 : (flat l).toArray[t]! = (flat l)[t] := by simp [ht2]
    rw [a1, a2]
    have a3 := (List.getElem?_eq_some_iff.1 hg.symm).2
    have hjl := (List.getElem?_eq_some_iff.1 hg.symm).1
    rw [← a3]
    simp [hjl]
/-- An owned slice, in the shelf's words. -/
theorem OwnSl.holdsK {g off cap : Nat} {El : TypeId} {l : List α} (h : Hp Z ρ (OwnSl El (.slice (some ⟨g, off, none⟩) l.length cap) l :: L) w) (hl : 0 < l.length) : HoldsK Enc.enc (Enc.sz α) w g off l.toArray ∧ g < w.heap.size := by
  unfold HoldsK
  rw [flatK_enc]
  exact Hp.holdsO id h hl (by simp)
theorem OwnSl.sortK {g off cap m : Nat} {El : TypeId} {l l' : List α} {os : Array Obj} (h : Hp Z ρ (OwnSl El (.slice (some ⟨g, off, none⟩) l.length cap) l :: L) w) (hl : 0 < l.length) (he : l'.length = l.length) :
    Hp Z ρ (OwnSl El (.slice (some ⟨g, off, none⟩) l.length cap) l' :: L) (sortWorldK Enc.enc (Enc.sz α) w g off m l'.toArray os) := by
  have := Hp.putO (xs' := flat l') (m := m) (os := os) id h hl (d := (flat l').toArray) (by simp) (by rw [flat_len, he])
  unfold sortWorldK putRowK
  rw [flatK_enc]
  unfold OwnSl
  rw [he]
  exact this
end
end Go.Proofs.Ytmfepkadggigpaa
