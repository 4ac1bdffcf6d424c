/-
  The shelf's contracts over owned parts: maps.Keys, slices.Sorted over the keys of a map, maps.DeleteFunc, slices.Sort.
-/
import Derived.Test.YtmfepkadggigpaaLibP
import Derived.Test.YtmfepkadggigpaaLibG
import Derived.Test.YtmfepkadggigpaaShelf
import Derived.Shelf.Abstract
set_option linter.unusedVariables false
set_option linter.unusedSimpArgs false
namespace Go.Proofs.Ytmfepkadggigpaa
open Vl (vl)
open Go.RowKit Go.Sort Go.Maps
section
variable {Z : World} {ρ : PH} {L : List Atom} {w : World}
theorem Hp.grow (h : Hp Z ρ L w) (os : Array Obj) : Hp Z ρ L (grow w os) := by
  refine h.with_ (w' := Go.Sort.grow w os) rfl rfl rfl (h.sep.mono fun b o e => ?_)
  have hlt : b < w.heap.size := (Array.getElem?_eq_some_iff.1 e).1
  show (Go.Sort.grow w os).heap[b]? = some o
  rw [heap_grow_old _ _ hlt]; exact e
theorem sortsA (m : Nat) : AnyZI.SortsIn Try.prog Try.sortedA_ren Fence.wide m :=
  ⟨fun blk off cap ss W hH hblk hsz => callsIn_wide.2 (Try.slices_Sort_int blk off cap ss W hH hblk hsz),
   fun p cap W => callsIn_wide.2 (Try.slices_Sort_int_none p cap W)⟩
/-- Rows that are new. -/
theorem Hp.newRow {w' : World} {T : TypeId} {v : Value} {l : List Int} (hp : Hp Z ρ L w) (hb : Below w.heap.size w w') (h : w'.ownsRow w.heap.size T 1 v l.length (l.map encZ)) : Hp Z ρ (OwnSl T v l :: L) w' := by
  have hk := hp.keep hb
  obtain ⟨hl, h⟩ := h
  have e : l.map encZ = flat l := (flat_int l).symm
  rcases h with ⟨rfl, hn⟩ | ⟨g, cap, cur, rfl, h1, h2, h3, h4, h5, h6⟩
  · have := List.eq_nil_of_length_eq_zero hn
    subst this
    exact hk.emp (OwnSl.nil T)
  · have h7 : Hp Z ρ (Pt g (.cells cur T (0, 0)) :: L) w' := hk.with_ rfl rfl rfl (Sep.add (A := Pt g (.cells cur T (0, 0))) (k := PH.one g (.cells cur T (0, 0))) hp.sep (fun b hb' => by
      by_cases e : b = g
      · subst e
        show w.heap[b]? = none
        exact Array.getElem?_eq_none h1
      · simp [PH.one, e] at hb') (fun b o e => by
        have hlt : b < w.heap.size := (Array.getElem?_eq_some_iff.1 e).1
        exact (hb.block b hlt).trans e) (PH.one_le h2) rfl)
    exact h7.shut h3 h4 h5 (h6.trans e)

theorem c_keys_ib (b : Nat) (hp : Hp Z ρ L w) :
    Calls Try.prog 33 #[.map (some b)] w (Ret fun v w' => ∃ B : Nat, v = .func (.func 60) #[] #[.pointer (some ⟨B, 0, none⟩)] ∧ Hp Z ρ (Pt B (.cells #[.map (some b)] 70 (0, 0)) :: L) w') := by
  have cK : CallsIn Fence.wide 5 Try.prog 33 #[.map (some b)] w fun e w' => e = .returned (.func (.func 60) #[] #[.pointer (some ⟨w.heap.size, 0, none⟩)]) ∧ w' = w.alloc (.cells #[.map (some b)] 70) := AnyZI.keys_in Try.keysIB Fence.wide 5 trivial rfl (some b) w
  refine ((callsIn_wide (n := 5)).1 cK).mono ?_
  rintro e w' ⟨rfl, rfl⟩
  exact ⟨_, rfl, _, rfl, hp.alloc _⟩
set_option maxRecDepth 100000 in
theorem c_sorted_ib (l : List (Int × Bool)) {b B : Nat} (hp : Hp Z ρ (Pt B (.cells #[.map (some b)] 70 (0, 0)) :: MapA b l :: L) w) (r : List Int) (hm : m_sortedKeys l = some r) :
    Calls Try.prog 32 #[.func (.func 60) #[] #[.pointer (some ⟨B, 0, none⟩)]] w (Ret fun v w' => ∃ v1, v = v1 ∧ Hp Z ρ (OwnSl 3 v1 r :: Pt B (.cells #[.map (some b)] 70 (0, 0)) :: MapA b l :: L) w') := by
  unfold m_sortedKeys at hm
  split at hm
  · rename_i hh
    obtain ⟨hr, hlen⟩ := hh
    simp only [Option.some.injEq] at hm
    subst hm
    obtain ⟨es, clock, hpt, e⟩ := (hp.get 1 rfl).map
    have hbk := hpt.look 0 rfl
    have hBk := hp.look 0 rfl
    have hBlt : B < w.heap.size := (Array.getElem?_eq_some_iff.1 hBk).1
    let R : Value → Option (DataW Unit × List MemPlace) := fun _ => some (.lit (.bool true), [])
    have hint : Try.prog.underlying 3 = some (.int .i64) := by kernel_rfl
    have hwf : ∀ x ∈ es.toList, ∃ n : Int, x.key = .int .i64 n ∧ (Lit.int .i64 n).wf = true ∧ ∃ p ∈ l, p.1 = n := by
      intro x hx
      obtain ⟨j, hj⟩ := List.getElem?_of_mem hx
      obtain ⟨p, hp1, ek, _⟩ := e.at hj
      have hpl := List.mem_of_getElem? hp1
      have := List.all_eq_true.1 hr p hpl
      simp only [decide_eq_true_eq] at this
      refine ⟨p.1, ek, ?_, p, hpl, rfl⟩
      simp [Lit.wf, IntKind.min, IntKind.max, IntKind.signed, IntKind.bits]
      omega
    have hrd : ∀ x ∈ es.toList, ∃ n : Int, x.key = .int .i64 n ∧ WideElems.rd Try.prog 3 R x = some (.int .i64 n, .lit (.bool true)) := by
      intro x hx
      obtain ⟨n, hk, hw, _⟩ := hwf x hx
      refine ⟨n, hk, ?_⟩
      unfold WideElems.rd
      rw [hk, keyOf_int_mk hint hw]
      rfl
    have hD : ∃ D : DataW Unit, w.ownsMap Try.prog 3 R b l.length D ∧ (intKeys D).Perm (l.map (·.1)) ∧ Maps.size D ≤ l.length := by
      have hown : w.ownsMap Try.prog 3 R b l.length (.map ((es.toList.map (WideElems.rg Try.prog 3 R)).foldr DataW.insert [])) := by
        refine ⟨es, clock, hbk, ⟨by have := e.size; unfold maxLen; omega, ⟨e.lt, e.nodup, ?_⟩, fun x hx => ?_⟩, by rw [e.size]; exact Nat.le_refl _, rfl⟩
        · rw [e.keysEq]
          exact e.keys.map (f := vl) (fun a b hab => by simpa [vl] using hab)
        · obtain ⟨n, _, h2⟩ := hrd x hx
          exact ⟨_, h2⟩
      refine ⟨_, hown, ?_, hown.size_le⟩
      show (((es.toList.map (WideElems.rg Try.prog 3 R)).foldr DataW.insert []).map fun p => Go.intOf p.1).Perm _
      refine ((Go.WideShapes.sorted_perm _).map _).trans ?_
      have : (es.toList.map (WideElems.rg Try.prog 3 R)).map (fun p => Go.intOf p.1) = l.map (·.1) := by
        have h1 : ∀ x ∈ es.toList, Go.intOf (WideElems.rg Try.prog 3 R x).1 = match x.key with | .int _ n => n | _ => 0 := by
          intro x hx
          obtain ⟨n, hk, h2⟩ := hrd x hx
          unfold WideElems.rg
          rw [h2, hk]; rfl
        rw [List.map_map]
        have h2 : es.toList.map (fun x => match x.key with | .int _ n => n | _ => (0 : Int)) = l.map (·.1) := by
          have := congrArg (List.map (fun k : Value => match k with | .int _ n => n | _ => (0 : Int))) e.keysEq
          simp only [List.map_map] at this
          have h3 : ((fun k : Value => match k with | .int _ n => n | _ => (0 : Int)) ∘ fun x : MapEntry => x.key) = fun x : MapEntry => match x.key with | .int _ n => n | _ => (0 : Int) := rfl
          rw [h3] at this
          rw [this]
          apply List.map_congr_left
          intro p _; rfl
        rw [← h2]
        exact List.map_congr_left h1
      rw [this]
    obtain ⟨D, hown, hperm, hsz⟩ := hD
    have hcell : w.cell? ⟨B, 0, none⟩ = some (.map (some b)) := by simp [World.cell?, hBk]
    have hseq : SeqGives Fence.wide 2 Try.prog 60 #[.pointer (some ⟨B, 0, none⟩)] encZ (fun ss => ss.Perm (intKeys D)) (Maps.size D) w :=
      AnyZI.keys_gives (ρ := Try.keysIB_ren) { Try.keysIB with } Fence.wide _ trivial rfl (by omega) B b l.length D w hBlt hcell hown
    have cS := AnyZI.sorted_in Try.sortedA Fence.wide 5 trivial trivial trivial trivial rfl (by omega) (sortsA _) (enters_of Try.func59 (by kernel_rfl) rfl) 60 #[.pointer (some ⟨B, 0, none⟩)] trivial (enters_of Try.func60 (by kernel_rfl) rfl) _ _ (by unfold maxLen; omega) (by omega) _ hseq
    refine ((callsIn_wide (n := 5)).1 cS).mono ?_
    rintro e2 w' ⟨v, ss, rfl, hS, hrow, _, hb⟩
    refine ⟨_, rfl, _, rfl, ?_⟩
    have hl2 : ss.length = (ss.mergeSort fun x y => decide (x ≤ y)).length := by simp
    rw [hl2] at hrow
    have h9 : (ss.mergeSort fun x y => decide (x ≤ y)) = (l.map (·.1)).mergeSort fun x y => decide (x ≤ y) := mergeSort_of_perm_i (hS.trans hperm)
    rw [h9] at hrow
    exact hp.newRow hb hrow
  · cases hm

theorem c_keys_ii (b : Nat) (hp : Hp Z ρ L w) :
    Calls Try.prog 42 #[.map (some b)] w (Ret fun v w' => ∃ B : Nat, v = .func (.func 63) #[] #[.pointer (some ⟨B, 0, none⟩)] ∧ Hp Z ρ (Pt B (.cells #[.map (some b)] 49 (0, 0)) :: L) w') := by
  have cK : CallsIn Fence.wide 5 Try.prog 42 #[.map (some b)] w fun e w' => e = .returned (.func (.func 63) #[] #[.pointer (some ⟨w.heap.size, 0, none⟩)]) ∧ w' = w.alloc (.cells #[.map (some b)] 49) := AnyZI.keys_in Try.keysII Fence.wide 5 trivial rfl (some b) w
  refine ((callsIn_wide (n := 5)).1 cK).mono ?_
  rintro e w' ⟨rfl, rfl⟩
  exact ⟨_, rfl, _, rfl, hp.alloc _⟩
set_option maxRecDepth 100000 in
theorem c_sorted_ii (l : List (Int × Int)) {b B : Nat} (hp : Hp Z ρ (Pt B (.cells #[.map (some b)] 49 (0, 0)) :: MapA b l :: L) w) (r : List Int) (hm : m_sortedKeys l = some r) :
    Calls Try.prog 32 #[.func (.func 63) #[] #[.pointer (some ⟨B, 0, none⟩)]] w (Ret fun v w' => ∃ v1, v = v1 ∧ Hp Z ρ (OwnSl 3 v1 r :: Pt B (.cells #[.map (some b)] 49 (0, 0)) :: MapA b l :: L) w') := by
  unfold m_sortedKeys at hm
  split at hm
  · rename_i hh
    obtain ⟨hr, hlen⟩ := hh
    simp only [Option.some.injEq] at hm
    subst hm
    obtain ⟨es, clock, hpt, e⟩ := (hp.get 1 rfl).map
    have hbk := hpt.look 0 rfl
    have hBk := hp.look 0 rfl
    have hBlt : B < w.heap.size := (Array.getElem?_eq_some_iff.1 hBk).1
    let R : Value → Option (DataW Unit × List MemPlace) := fun _ => some (.lit (.bool true), [])
    have hint : Try.prog.underlying 3 = some (.int .i64) := by kernel_rfl
    have hwf : ∀ x ∈ es.toList, ∃ n : Int, x.key = .int .i64 n ∧ (Lit.int .i64 n).wf = true ∧ ∃ p ∈ l, p.1 = n := by
      intro x hx
      obtain ⟨j, hj⟩ := List.getElem?_of_mem hx
      obtain ⟨p, hp1, ek, _⟩ := e.at hj
      have hpl := List.mem_of_getElem? hp1
      have := List.all_eq_true.1 hr p hpl
      simp only [decide_eq_true_eq] at this
      refine ⟨p.1, ek, ?_, p, hpl, rfl⟩
      simp [Lit.wf, IntKind.min, IntKind.max, IntKind.signed, IntKind.bits]
      omega
    have hrd : ∀ x ∈ es.toList, ∃ n : Int, x.key = .int .i64 n ∧ WideElems.rd Try.prog 3 R x = some (.int .i64 n, .lit (.bool true)) := by
      intro x hx
      obtain ⟨n, hk, hw, _⟩ := hwf x hx
      refine ⟨n, hk, ?_⟩
      unfold WideElems.rd
      rw [hk, keyOf_int_mk hint hw]
      rfl
    have hD : ∃ D : DataW Unit, w.ownsMap Try.prog 3 R b l.length D ∧ (intKeys D).Perm (l.map (·.1)) ∧ Maps.size D ≤ l.length := by
      have hown : w.ownsMap Try.prog 3 R b l.length (.map ((es.toList.map (WideElems.rg Try.prog 3 R)).foldr DataW.insert [])) := by
        refine ⟨es, clock, hbk, ⟨by have := e.size; unfold maxLen; omega, ⟨e.lt, e.nodup, ?_⟩, fun x hx => ?_⟩, by rw [e.size]; exact Nat.le_refl _, rfl⟩
        · rw [e.keysEq]
          exact e.keys.map (f := vl) (fun a b hab => by simpa [vl] using hab)
        · obtain ⟨n, _, h2⟩ := hrd x hx
          exact ⟨_, h2⟩
      refine ⟨_, hown, ?_, hown.size_le⟩
      show (((es.toList.map (WideElems.rg Try.prog 3 R)).foldr DataW.insert []).map fun p => Go.intOf p.1).Perm _
      refine ((Go.WideShapes.sorted_perm _).map _).trans ?_
      have : (es.toList.map (WideElems.rg Try.prog 3 R)).map (fun p => Go.intOf p.1) = l.map (·.1) := by
        have h1 : ∀ x ∈ es.toList, Go.intOf (WideElems.rg Try.prog 3 R x).1 = match x.key with | .int _ n => n | _ => 0 := by
          intro x hx
          obtain ⟨n, hk, h2⟩ := hrd x hx
          unfold WideElems.rg
          rw [h2, hk]; rfl
        rw [List.map_map]
        have h2 : es.toList.map (fun x => match x.key with | .int _ n => n | _ => (0 : Int)) = l.map (·.1) := by
          have := congrArg (List.map (fun k : Value => match k with | .int _ n => n | _ => (0 : Int))) e.keysEq
          simp only [List.map_map] at this
          have h3 : ((fun k : Value => match k with | .int _ n => n | _ => (0 : Int)) ∘ fun x : MapEntry => x.key) = fun x : MapEntry => match x.key with | .int _ n => n | _ => (0 : Int) := rfl
          rw [h3] at this
          rw [this]
          apply List.map_congr_left
          intro p _; rfl
        rw [← h2]
        exact List.map_congr_left h1
      rw [this]
    obtain ⟨D, hown, hperm, hsz⟩ := hD
    have hcell : w.cell? ⟨B, 0, none⟩ = some (.map (some b)) := by simp [World.cell?, hBk]
    have hseq : SeqGives Fence.wide 2 Try.prog 63 #[.pointer (some ⟨B, 0, none⟩)] encZ (fun ss => ss.Perm (intKeys D)) (Maps.size D) w :=
      AnyZI.keys_gives (ρ := Try.keysII_ren) { Try.keysII with } Fence.wide _ trivial rfl (by omega) B b l.length D w hBlt hcell hown
    have cS := AnyZI.sorted_in Try.sortedA Fence.wide 5 trivial trivial trivial trivial rfl (by omega) (sortsA _) (enters_of Try.func59 (by kernel_rfl) rfl) 63 #[.pointer (some ⟨B, 0, none⟩)] trivial (enters_of Try.func63 (by kernel_rfl) rfl) _ _ (by unfold maxLen; omega) (by omega) _ hseq
    refine ((callsIn_wide (n := 5)).1 cS).mono ?_
    rintro e2 w' ⟨v, ss, rfl, hS, hrow, _, hb⟩
    refine ⟨_, rfl, _, rfl, ?_⟩
    have hl2 : ss.length = (ss.mergeSort fun x y => decide (x ≤ y)).length := by simp
    rw [hl2] at hrow
    have h9 : (ss.mergeSort fun x y => decide (x ≤ y)) = (l.map (·.1)).mergeSort fun x y => decide (x ≤ y) := mergeSort_of_perm_i (hS.trans hperm)
    rw [h9] at hrow
    exact hp.newRow hb hrow
  · cases hm

theorem c_keys_is (b : Nat) (hp : Hp Z ρ L w) :
    Calls Try.prog 49 #[.map (some b)] w (Ret fun v w' => ∃ B : Nat, v = .func (.func 67) #[] #[.pointer (some ⟨B, 0, none⟩)] ∧ Hp Z ρ (Pt B (.cells #[.map (some b)] 85 (0, 0)) :: L) w') := by
  have cK : CallsIn Fence.wide 5 Try.prog 49 #[.map (some b)] w fun e w' => e = .returned (.func (.func 67) #[] #[.pointer (some ⟨w.heap.size, 0, none⟩)]) ∧ w' = w.alloc (.cells #[.map (some b)] 85) := AnyZI.keys_in Try.keysIS Fence.wide 5 trivial rfl (some b) w
  refine ((callsIn_wide (n := 5)).1 cK).mono ?_
  rintro e w' ⟨rfl, rfl⟩
  exact ⟨_, rfl, _, rfl, hp.alloc _⟩
set_option maxRecDepth 100000 in
theorem c_sorted_is (l : List (Int × Sl)) {b B : Nat} (hp : Hp Z ρ (Pt B (.cells #[.map (some b)] 85 (0, 0)) :: MapA b l :: L) w) (r : List Int) (hm : m_sortedKeys l = some r) :
    Calls Try.prog 32 #[.func (.func 67) #[] #[.pointer (some ⟨B, 0, none⟩)]] w (Ret fun v w' => ∃ v1, v = v1 ∧ Hp Z ρ (OwnSl 3 v1 r :: Pt B (.cells #[.map (some b)] 85 (0, 0)) :: MapA b l :: L) w') := by
  unfold m_sortedKeys at hm
  split at hm
  · rename_i hh
    obtain ⟨hr, hlen⟩ := hh
    simp only [Option.some.injEq] at hm
    subst hm
    obtain ⟨es, clock, hpt, e⟩ := (hp.get 1 rfl).map
    have hbk := hpt.look 0 rfl
    have hBk := hp.look 0 rfl
    have hBlt : B < w.heap.size := (Array.getElem?_eq_some_iff.1 hBk).1
    let R : Value → Option (DataW Unit × List MemPlace) := fun _ => some (.lit (.bool true), [])
    have hint : Try.prog.underlying 3 = some (.int .i64) := by kernel_rfl
    have hwf : ∀ x ∈ es.toList, ∃ n : Int, x.key = .int .i64 n ∧ (Lit.int .i64 n).wf = true ∧ ∃ p ∈ l, p.1 = n := by
      intro x hx
      obtain ⟨j, hj⟩ := List.getElem?_of_mem hx
      obtain ⟨p, hp1, ek, _⟩ := e.at hj
      have hpl := List.mem_of_getElem? hp1
      have := List.all_eq_true.1 hr p hpl
      simp only [decide_eq_true_eq] at this
      refine ⟨p.1, ek, ?_, p, hpl, rfl⟩
      simp [Lit.wf, IntKind.min, IntKind.max, IntKind.signed, IntKind.bits]
      omega
    have hrd : ∀ x ∈ es.toList, ∃ n : Int, x.key = .int .i64 n ∧ WideElems.rd Try.prog 3 R x = some (.int .i64 n, .lit (.bool true)) := by
      intro x hx
      obtain ⟨n, hk, hw, _⟩ := hwf x hx
      refine ⟨n, hk, ?_⟩
      unfold WideElems.rd
      rw [hk, keyOf_int_mk hint hw]
      rfl
    have hD : ∃ D : DataW Unit, w.ownsMap Try.prog 3 R b l.length D ∧ (intKeys D).Perm (l.map (·.1)) ∧ Maps.size D ≤ l.length := by
      have hown : w.ownsMap Try.prog 3 R b l.length (.map ((es.toList.map (WideElems.rg Try.prog 3 R)).foldr DataW.insert [])) := by
        refine ⟨es, clock, hbk, ⟨by have := e.size; unfold maxLen; omega, ⟨e.lt, e.nodup, ?_⟩, fun x hx => ?_⟩, by rw [e.size]; exact Nat.le_refl _, rfl⟩
        · rw [e.keysEq]
          exact e.keys.map (f := vl) (fun a b hab => by simpa [vl] using hab)
        · obtain ⟨n, _, h2⟩ := hrd x hx
          exact ⟨_, h2⟩
      refine ⟨_, hown, ?_, hown.size_le⟩
      show (((es.toList.map (WideElems.rg Try.prog 3 R)).foldr DataW.insert []).map fun p => Go.intOf p.1).Perm _
      refine ((Go.WideShapes.sorted_perm _).map _).trans ?_
      have : (es.toList.map (WideElems.rg Try.prog 3 R)).map (fun p => Go.intOf p.1) = l.map (·.1) := by
        have h1 : ∀ x ∈ es.toList, Go.intOf (WideElems.rg Try.prog 3 R x).1 = match x.key with | .int _ n => n | _ => 0 := by
          intro x hx
          obtain ⟨n, hk, h2⟩ := hrd x hx
          unfold WideElems.rg
          rw [h2, hk]; rfl
        rw [List.map_map]
        have h2 : es.toList.map (fun x => match x.key with | .int _ n => n | _ => (0 : Int)) = l.map (·.1) := by
          have := congrArg (List.map (fun k : Value => match k with | .int _ n => n | _ => (0 : Int))) e.keysEq
          simp only [List.map_map] at this
          have h3 : ((fun k : Value => match k with | .int _ n => n | _ => (0 : Int)) ∘ fun x : MapEntry => x.key) = fun x : MapEntry => match x.key with | .int _ n => n | _ => (0 : Int) := rfl
          rw [h3] at this
          rw [this]
          apply List.map_congr_left
          intro p _; rfl
        rw [← h2]
        exact List.map_congr_left h1
      rw [this]
    obtain ⟨D, hown, hperm, hsz⟩ := hD
    have hcell : w.cell? ⟨B, 0, none⟩ = some (.map (some b)) := by simp [World.cell?, hBk]
    have hseq : SeqGives Fence.wide 2 Try.prog 67 #[.pointer (some ⟨B, 0, none⟩)] encZ (fun ss => ss.Perm (intKeys D)) (Maps.size D) w :=
      AnyZI.keys_gives (ρ := Try.keysIS_ren) { Try.keysIS with } Fence.wide _ trivial rfl (by omega) B b l.length D w hBlt hcell hown
    have cS := AnyZI.sorted_in Try.sortedA Fence.wide 5 trivial trivial trivial trivial rfl (by omega) (sortsA _) (enters_of Try.func59 (by kernel_rfl) rfl) 67 #[.pointer (some ⟨B, 0, none⟩)] trivial (enters_of Try.func67 (by kernel_rfl) rfl) _ _ (by unfold maxLen; omega) (by omega) _ hseq
    refine ((callsIn_wide (n := 5)).1 cS).mono ?_
    rintro e2 w' ⟨v, ss, rfl, hS, hrow, _, hb⟩
    refine ⟨_, rfl, _, rfl, ?_⟩
    have hl2 : ss.length = (ss.mergeSort fun x y => decide (x ≤ y)).length := by simp
    rw [hl2] at hrow
    have h9 : (ss.mergeSort fun x y => decide (x ≤ y)) = (l.map (·.1)).mergeSort fun x y => decide (x ≤ y) := mergeSort_of_perm_i (hS.trans hperm)
    rw [h9] at hrow
    exact hp.newRow hb hrow
  · cases hm
theorem c_sortI (l : List Int) (v : Value) (hp : Hp Z ρ (OwnSl 3 v l :: L) w) (r : List Int) (hm : m_sortI l = some r) :
    Calls Try.prog 59 #[v] w (Ret fun u w' => u = .tuple #[] ∧ Hp Z ρ (OwnSl 3 v r :: L) w') := by
  unfold m_sortI at hm
  split at hm
  · rename_i hlen
    simp only [Option.some.injEq] at hm
    subst hm
    have none_ : ∀ A c, v = .slice A 0 c → l = [] → Calls Try.prog 59 #[v] w (Ret fun u w' => u = .tuple #[] ∧ Hp Z ρ (OwnSl 3 v (l.mergeSort fun x y => decide (x ≤ y)) :: L) w') := by
      rintro A c rfl rfl
      refine (Try.slices_Sort_int_none A c w).mono ?_
      rintro e w' ⟨rfl, rfl⟩
      exact ⟨_, rfl, rfl, by simpa using hp⟩
    rcases hp.row.2 with ⟨A, hv, hn⟩ | ⟨g, off, cap, cur, hv, _⟩
    · exact none_ A 0 hv (List.eq_nil_of_length_eq_zero hn)
    · rcases Nat.eq_zero_or_pos l.length with h0 | h0
      · exact none_ _ cap (by rw [hv, h0]) (List.eq_nil_of_length_eq_zero h0)
      · subst hv
        obtain ⟨hH, hg⟩ := Hp.holdsO (Value.int .i64) hp h0 (d := l.toArray) (by rw [flat_int])
        refine (Try.slices_Sort_int g off cap l w hH hg (by omega)).mono ?_
        rintro e w' ⟨rfl, m, os, rfl⟩
        have := Hp.putO (m := m) (os := os) (xs' := flat (l.mergeSort fun x y => decide (x ≤ y))) (Value.int .i64) hp h0 (d := (l.mergeSort fun x y => decide (x ≤ y)).toArray) (by rw [flat_int]) (by rw [flat_len]; simp)
        refine ⟨_, rfl, rfl, ?_⟩
        unfold OwnSl
        rw [List.length_mergeSort]
        exact this
  · cases hm
theorem c_sorted_iiU (l : List (Int × Int)) {b B : Nat} (hp : Hp Z ρ (Pt B (.cells #[.map (some b)] 49 (0, 0)) :: MapU b l :: L) w) (r : List Int) (hm : m_sortedKeys l = some r) :
    Calls Try.prog 32 #[.func (.func 63) #[] #[.pointer (some ⟨B, 0, none⟩)]] w (Ret fun v w' => ∃ v1, v = v1 ∧ Hp Z ρ (OwnSl 3 v1 r :: Pt B (.cells #[.map (some b)] 49 (0, 0)) :: MapU b l :: L) w') := by
  obtain ⟨l', h1, hpm, _⟩ := MapU.open_ (hp.get 1 rfl)
  refine (c_sorted_ii l' (h1.get 1 rfl) r ((m_sortedKeys_perm hpm).trans hm)).mono ?_
  rintro e w' ⟨v, rfl, v1, rfl, h2⟩
  exact ⟨_, rfl, _, rfl, ((MapU.shut (h2.get 2 rfl) hpm).get 2 rfl).get 2 rfl⟩
end
end Go.Proofs.Ytmfepkadggigpaa
