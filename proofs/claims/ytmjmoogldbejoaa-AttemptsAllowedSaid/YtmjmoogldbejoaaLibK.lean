/-
  The shelf's words for a row that is sorted or turned round in place, brought to owned slices. Plain theorems.
-/
import Derived.Test.YtmjmoogldbejoaaMut2
import Derived.Shelf.SlSortCmp.InsertionK
import Derived.Shelf.SlicesQ.Reverse
set_option linter.unusedVariables false
set_option linter.unusedSimpArgs false
namespace Go.Proofs.Ytmjmoogldbejoaa
open Go.RowKit Go.Sort
section
variable {α : Type} [Enc α] {Z : World} {ρ : PH} {L : List Atom} {w : World}
theorem own_blk {g cap : Nat} {El : TypeId} {l : List α} (h : Hp Z ρ (OwnSl El (.slice (some ⟨g, 0, none⟩) l.length cap) l :: L) w) (hl : 0 < l.length) : ∃ cur, Hp Z ρ (Pt g (.cells cur El (0, 0)) :: L) w ∧ l.length ≤ cap ∧ cap ≤ maxLen ∧ cur.size = cap * Enc.sz α ∧ g < w.heap.size := by
  rcases h.row.2 with ⟨A, _, hn⟩ | ⟨g', cap', cur, e, hpt, h1, h2, h3, h4⟩
  · omega
  · simp only [Value.slice.injEq, Option.some.injEq, Addr.mk.injEq, and_true, true_and] at e
    obtain ⟨rfl, rfl⟩ := e
    exact ⟨cur, hpt, h1, h2, h3, (Array.getElem?_eq_some_iff.1 (hpt.look 0 rfl)).1⟩
theorem Hp.growK {A : Atom} {os : Array Obj} (h : Hp Z ρ (A :: L) w) : Hp Z ρ (A :: L) (grow w os) := by
  refine h.with_ (w' := grow w os) rfl rfl rfl (h.sep.mono fun b o e => ?_)
  have hlt : b < w.heap.size := (Array.getElem?_eq_some_iff.1 e).1
  show (grow w os).heap[b]? = some o
  rw [heap_grow_old _ _ hlt]; exact e
end
section
variable {α : Type} [Inhabited α] [Enc α] {Z : World} {ρ : PH} {L : List Atom} {w : World}
theorem flatK_enc (l : List α) : flatK Enc.enc (Enc.sz α) l.toArray = (flat l).toArray := by
  apply ext_get!
  · simp [flat_len]
  · intro t ht
    have ht' : t < l.length * Enc.sz α := by simpa using ht
    have ht2 : t < (flat l).length := by rw [flat_len]; exact ht'
    have k0 : 0 < Enc.sz α := Enc.pos
    have hi' : t / Enc.sz α < l.length := Nat.div_lt_of_lt_mul (by rw [Nat.mul_comm]; exact ht')
    have he : t = t / Enc.sz α * Enc.sz α + t % Enc.sz α := by rw [Nat.mul_comm]; exact (Nat.div_add_mod t _).symm
    have hm : t % Enc.sz α < Enc.sz α := Nat.mod_lt _ k0
    rw [get_flatK _ _ _ _ (by simpa using ht')]
    have hg := flat_get l _ _ _ (List.getElem?_eq_getElem hi') hm
    rw [← he, List.getElem?_eq_getElem ht2] at hg
    have a1 : l.toArray[t / Enc.sz α]! = l[t / Enc.sz α] := by simp [hi']
    have a2 : (flat l).toArray[t]! = (flat l)[t] := by simp [ht2]
    rw [a1, a2]
    have a3 := (List.getElem?_eq_some_iff.1 hg.symm).2
    have hjl := (List.getElem?_eq_some_iff.1 hg.symm).1
    rw [← a3]
    simp [hjl]
theorem Hp.holdsK {g cap : Nat} {El : TypeId} {l : List α} (h : Hp Z ρ (OwnSl El (.slice (some ⟨g, 0, none⟩) l.length cap) l :: L) w) (hl : 0 < l.length) : HoldsK Enc.enc (Enc.sz α) w g 0 l.toArray := by
  unfold HoldsK
  rw [flatK_enc]
  rcases h.row.2 with ⟨A, _, hn⟩ | ⟨g', cap', cur, e, hpt, h1, h2, h3, h4⟩
  · omega
  · simp only [Value.slice.injEq, Option.some.injEq, Addr.mk.injEq, and_true, true_and] at e
    obtain ⟨rfl, rfl⟩ := e
    have hg := hpt.look 0 rfl
    intro j hj
    have hj' : j < (flat l).length := by simpa using hj
    have hf : (flat l)[j]? = cur[j]? := by
      rw [← h4, List.getElem?_take, if_pos (by rw [flat_len] at hj'; exact hj')]
      simp
    refine ⟨?_, by simp [World.frozen?, hg]⟩
    rw [Nat.zero_add, cell_of_row w g j cur El (0, 0) hg, ← hf, List.getElem?_eq_getElem hj']
    simp [hj']
theorem Hp.putK {g cap m : Nat} {El : TypeId} {l l' : List α} (h : Hp Z ρ (OwnSl El (.slice (some ⟨g, 0, none⟩) l.length cap) l :: L) w) (hl : 0 < l.length) (he : l'.length = l.length) :
    Hp Z ρ (OwnSl El (.slice (some ⟨g, 0, none⟩) l.length cap) l' :: L) (putRowK Enc.enc (Enc.sz α) (Sort.ahead w m) g 0 l'.toArray) := by
  obtain ⟨cur, hpt, h1, h2, h3, h4⟩ := own_blk h hl
  have hg := hpt.look 0 rfl
  have hnew : (putRowK Enc.enc (Enc.sz α) (Sort.ahead w m) g 0 l'.toArray).heap[g]? = some (.cells (putCells id 0 (flat l').toArray cur) El (0, 0)) := by
    unfold putRowK putRow mapBlock
    rw [flatK_enc]
    simp only [Array.getElem?_modify, if_true, heap_ahead, hg, Option.map_some]
    rfl
  have hfl : (flat l').length = l.length * Enc.sz α := by rw [flat_len, he]
  have hle : l.length * Enc.sz α ≤ cap * Enc.sz α := Nat.mul_le_mul_right _ h1
  have := (Hp.set (w' := putRowK Enc.enc (Enc.sz α) (Sort.ahead w m) g 0 l'.toArray) hpt rfl rfl rfl hnew (fun k hk => by
    unfold putRowK putRow mapBlock
    simp only [Array.getElem?_modify, heap_ahead]
    rw [if_neg (fun e => hk e.symm)])).shut (n := l.length) (cap := cap) (sz := Enc.sz α) (xs := flat l') h1 h2 (by simp [putCells, h3]) (by
      apply List.ext_getElem?
      intro t
      rw [List.getElem?_take]
      by_cases ht : t < l.length * Enc.sz α
      · rw [if_pos ht]
        have ht1 : t < cur.size := by omega
        have ht2 : t < (flat l').length := by omega
        simp [putCells, ht1, ht2]
      · rw [if_neg ht, List.getElem?_eq_none (by omega)])
  unfold OwnSl
  rw [he]
  exact this
theorem Hp.sortK {g cap m : Nat} {El : TypeId} {l l' : List α} {os : Array Obj} (h : Hp Z ρ (OwnSl El (.slice (some ⟨g, 0, none⟩) l.length cap) l :: L) w) (hl : 0 < l.length) (he : l'.length = l.length) :
    Hp Z ρ (OwnSl El (.slice (some ⟨g, 0, none⟩) l.length cap) l' :: L) (sortWorldK Enc.enc (Enc.sz α) w g 0 m l'.toArray os) := (h.putK hl he).growK
end
end Go.Proofs.Ytmjmoogldbejoaa
