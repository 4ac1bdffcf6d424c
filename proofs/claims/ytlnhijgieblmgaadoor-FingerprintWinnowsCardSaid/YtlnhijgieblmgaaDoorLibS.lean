/-
  The shelf's contracts over owned parts: Itoa; maps.Keys, slices.Sorted over the keys of a map.
-/
import Derived.Test.YtlnhijgieblmgaaDoorLibD
import Derived.Test.YtlnhijgieblmgaaDoorTab
import Derived.Test.YtlnhijgieblmgaaDoorShelf
import Derived.Shelf.Abstract
set_option linter.unusedVariables false
set_option linter.unusedSimpArgs false
namespace Go.Proofs.YtlnhijgieblmgaaDoor
open Vl (vl)
open Go.RowKit Go.Sort Go.Maps
section
variable {Z : World} {ρ : PH} {L : List Atom} {w : World}
theorem Hp.grow (h : Hp Z ρ L w) (os : Array Obj) : Hp Z ρ L (grow w os) := by
  refine h.with_ (w' := Go.Sort.grow w os) rfl rfl rfl (h.sep.mono fun b o e => ?_)
  have hlt : b < w.heap.size := (Array.getElem?_eq_some_iff.1 e).1
  show (Go.Sort.grow w os).heap[b]? = some o
  rw [heap_grow_old _ _ hlt]; exact e
theorem c_itoa (hT : Tabs ρ) (n : Int) (hp : Hp Z ρ L w) (r : ByteArray) (hm : m_itoa n = some r) :
    Calls Tryd.prog 43 #[.int .i64 n] w (Ret fun v w' => v = .string r ∧ Hp Z ρ L w') := by
  unfold m_itoa at hm
  split at hm
  · rename_i h
    simp only [Option.some.injEq] at hm
    subst hm
    refine (Tryd.strconv_Itoa n h.1 h.2 w (hT w hp.le)).mono ?_
    rintro e w' ⟨rfl, k, os, rfl⟩
    exact ⟨_, rfl, rfl, (hp.drewN k).grow os⟩
  · cases hm
theorem c_keys_ib (b : Nat) (hp : Hp Z ρ L w) :
    Calls Tryd.prog 40 #[.map (some b)] w (Ret fun v w' => ∃ B : Nat, v = .func (.func 48) #[] #[.pointer (some ⟨B, 0, none⟩)] ∧ Hp Z ρ (Pt B (.cells #[.map (some b)] 64 (0, 0)) :: L) w') := by
  have cK : CallsIn Fence.wide 5 Tryd.prog 40 #[.map (some b)] w fun e w' => e = .returned (.func (.func 48) #[] #[.pointer (some ⟨w.heap.size, 0, none⟩)]) ∧ w' = w.alloc (.cells #[.map (some b)] 64) := AnyZI.keys_in Tryd.keysA Fence.wide 5 trivial rfl (some b) w
  refine ((callsIn_wide (n := 5)).1 cK).mono ?_
  rintro e w' ⟨rfl, rfl⟩
  exact ⟨_, rfl, _, rfl, hp.alloc _⟩
theorem sortsA (m : Nat) : AnyZI.SortsIn Tryd.prog Tryd.sortedA_ren Fence.wide m :=
  ⟨fun blk off cap ss W hH hblk hsz => callsIn_wide.2 (Tryd.slices_Sort_int blk off cap ss W hH hblk hsz),
   fun p cap W => callsIn_wide.2 (Tryd.slices_Sort_int_none p cap W)⟩
/-- Rows that are new. -/
theorem Hp.newRow {w' : World} {T : TypeId} {v : Value} {l : List Int} (hp : Hp Z ρ L w) (hb : Below w.heap.size w w') (h : w'.ownsRow w.heap.size T 1 v l.length (l.map encZ)) : Hp Z ρ (OwnSl T v l :: L) w' := by
  have hk := hp.keep hb
  obtain ⟨hl, h⟩ := h
  have e : l.map encZ = flat l := (flat_int l).symm
  rcases h with ⟨rfl, hn⟩ | ⟨g, cap, cur, rfl, h1, h2, h3, h4, h5, h6⟩
  · have := List.eq_nil_of_length_eq_zero hn
    subst this
    exact hk.emp (OwnSl.nil T)
  · have h7 : Hp Z ρ (Pt g (.cells cur T (0, 0)) :: L) w' := hk.with_ rfl rfl rfl (Sep.add (A := Pt g (.cells cur T (0, 0))) (k := PH.one g (.cells cur T (0, 0))) hp.sep (fun b hb' => by
      by_cases e : b = g
      · subst e
        show w.heap[b]? = none
        exact Array.getElem?_eq_none h1
      · simp [PH.one, e] at hb') (fun b o e => by
        have hlt : b < w.heap.size := (Array.getElem?_eq_some_iff.1 e).1
        exact (hb.block b hlt).trans e) (PH.one_le h2) rfl)
    exact h7.shut h3 h4 h5 (h6.trans e)
set_option maxRecDepth 100000 in
theorem c_sorted_ib (l : List (Int × Bool)) {b B : Nat} (hp : Hp Z ρ (Pt B (.cells #[.map (some b)] 64 (0, 0)) :: MapA b l :: L) w) (r : List Int) (hm : m_sortedKeys l = some r) :
    Calls Tryd.prog 39 #[.func (.func 48) #[] #[.pointer (some ⟨B, 0, none⟩)]] w (Ret fun v w' => ∃ v1, v = v1 ∧ Hp Z ρ (OwnSl 3 v1 r :: Pt B (.cells #[.map (some b)] 64 (0, 0)) :: MapA b l :: L) w') := by
  unfold m_sortedKeys at hm
  split at hm
  · rename_i hh
    obtain ⟨hr, hlen⟩ := hh
    simp only [Option.some.injEq] at hm
    subst hm
    obtain ⟨es, clock, hpt, e⟩ := (hp.get 1 rfl).map
    have hbk := hpt.look 0 rfl
    have hBk := hp.look 0 rfl
    have hBlt : B < w.heap.size := (Array.getElem?_eq_some_iff.1 hBk).1
    let R : Value → Option (DataW Unit × List MemPlace) := fun _ => some (.lit (.bool true), [])
    have hint : Tryd.prog.underlying 3 = some (.int .i64) := by kernel_rfl
    have hwf : ∀ x ∈ es.toList, ∃ n : Int, x.key = .int .i64 n ∧ (Lit.int .i64 n).wf = true ∧ ∃ p ∈ l, p.1 = n := by
      intro x hx
      obtain ⟨j, hj⟩ := List.getElem?_of_mem hx
      obtain ⟨p, hp1, ek, _⟩ := e.at hj
      have hpl := List.mem_of_getElem? hp1
      have := List.all_eq_true.1 hr p hpl
      simp only [decide_eq_true_eq] at this
      refine ⟨p.1, ek, ?_, p, hpl, rfl⟩
      simp [Lit.wf, IntKind.min, IntKind.max, IntKind.signed, IntKind.bits]
      omega
    have hrd : ∀ x ∈ es.toList, ∃ n : Int, x.key = .int .i64 n ∧ WideElems.rd Tryd.prog 3 R x = some (.int .i64 n, .lit (.bool true)) := by
      intro x hx
      obtain ⟨n, hk, hw, _⟩ := hwf x hx
      refine ⟨n, hk, ?_⟩
      unfold WideElems.rd
      rw [hk, keyOf_int_mk hint hw]
      rfl
    have hD : ∃ D : DataW Unit, w.ownsMap Tryd.prog 3 R b l.length D ∧ (intKeys D).Perm (l.map (·.1)) ∧ Maps.size D ≤ l.length := by
      have hown : w.ownsMap Tryd.prog 3 R b l.length (.map ((es.toList.map (WideElems.rg Tryd.prog 3 R)).foldr DataW.insert [])) := by
        refine ⟨es, clock, hbk, ⟨by have := e.size; unfold maxLen; omega, ⟨e.lt, e.nodup, ?_⟩, fun x hx => ?_⟩, by rw [e.size]; exact Nat.le_refl _, rfl⟩
        · rw [e.keysEq]
          exact e.keys.map (f := vl) (fun a b hab => by simpa [vl] using hab)
        · obtain ⟨n, _, h2⟩ := hrd x hx
          exact ⟨_, h2⟩
      refine ⟨_, hown, ?_, hown.size_le⟩
      show (((es.toList.map (WideElems.rg Tryd.prog 3 R)).foldr DataW.insert []).map fun p => Go.intOf p.1).Perm _
      refine ((Go.WideShapes.sorted_perm _).map _).trans ?_
      have : (es.toList.map (WideElems.rg Tryd.prog 3 R)).map (fun p => Go.intOf p.1) = l.map (·.1) := by
        have h1 : ∀ x ∈ es.toList, Go.intOf (WideElems.rg Tryd.prog 3 R x).1 = match x.key with | .int _ n => n | _ => 0 := by
          intro x hx
          obtain ⟨n, hk, h2⟩ := hrd x hx
          unfold WideElems.rg
          rw [h2, hk]; rfl
        rw [List.map_map]
        have h2 : es.toList.map (fun x => match x.key with | .int _ n => n | _ => (0 : Int)) = l.map (·.1) := by
          have := congrArg (List.map (fun k : Value => match k with | .int _ n => n | _ => (0 : Int))) e.keysEq
          simp only [List.map_map] at this
          have h3 : ((fun k : Value => match k with | .int _ n => n | _ => (0 : Int)) ∘ fun x : MapEntry => x.key) = fun x : MapEntry => match x.key with | .int _ n => n | _ => (0 : Int) := rfl
          rw [h3] at this
          rw [this]
          apply List.map_congr_left
          intro p _; rfl
        rw [← h2]
        exact List.map_congr_left h1
      rw [this]
    obtain ⟨D, hown, hperm, hsz⟩ := hD
    have hcell : w.cell? ⟨B, 0, none⟩ = some (.map (some b)) := by simp [World.cell?, hBk]
    have hseq : SeqGives Fence.wide 2 Tryd.prog 48 #[.pointer (some ⟨B, 0, none⟩)] encZ (fun ss => ss.Perm (intKeys D)) (Maps.size D) w :=
      AnyZI.keys_gives (ρ := Tryd.keysA_ren) { Tryd.keysA with } Fence.wide _ trivial rfl (by omega) B b l.length D w hBlt hcell hown
    have cS := AnyZI.sorted_in Tryd.sortedA Fence.wide 5 trivial trivial trivial trivial rfl (by omega) (sortsA _) (enters_of Tryd.func47 (by kernel_rfl) rfl) 48 #[.pointer (some ⟨B, 0, none⟩)] trivial (enters_of Tryd.func48 (by kernel_rfl) rfl) _ _ (by unfold maxLen; omega) (by omega) _ hseq
    refine ((callsIn_wide (n := 5)).1 cS).mono ?_
    rintro e2 w' ⟨v, ss, rfl, hS, hrow, _, hb⟩
    refine ⟨_, rfl, _, rfl, ?_⟩
    have hl2 : ss.length = (ss.mergeSort fun x y => decide (x ≤ y)).length := by simp
    rw [hl2] at hrow
    have h9 : (ss.mergeSort fun x y => decide (x ≤ y)) = (l.map (·.1)).mergeSort fun x y => decide (x ≤ y) := mergeSort_of_perm_i (hS.trans hperm)
    rw [h9] at hrow
    exact hp.newRow hb hrow
  · cases hm
end
end Go.Proofs.YtlnhijgieblmgaaDoor
