/-
  The shelf's contracts over owned parts: slices.Sort; maps.Values, slices.Sorted over the values of a map.
-/
import Derived.Test.YtnnccbagbgndpaaLibD
import Derived.Test.YtnnccbagbgndpaaShelf
import Derived.Maps.OwnIn
import Derived.Shelf.Abstract
set_option linter.unusedVariables false
set_option linter.unusedSimpArgs false
namespace Go.Proofs.Ytnnccbagbgndpaa
open Vl (vl)
open Go.RowKit Go.Sort Go.Maps Go.Proofs
/-- The map's value at the key. -/
def VAt {H : Type} (D0 : DataW H) (p : Int × Int) : Prop := ∀ zd, D0.atKey (.int .i64 p.1) zd = .lit (.int .i64 p.2)
def VAll {H : Type} (D0 : DataW H) (xs : List Int) : Prop := ∃ ps : List (Int × Int), (ps.map (·.1)).Perm (intKeys D0) ∧ (∀ p ∈ ps, VAt D0 p) ∧ xs = ps.map (·.2)
set_option maxRecDepth 100000 in
set_option maxHeartbeats 1000000 in
theorem values1N_in {H : Type} (F : Fence) (n : Nat) (h8 : F.fn 53) (hro : F.round = none) (hn : 1 ≤ n) (l Bm b nn : Nat) (D0 : DataW H) (J : List Int → World → Prop)
    (hY : ∀ pre x W, J pre W → pre.length < Maps.size D0 → YieldAt F (n - 1) Try.prog l #[.int .i64 x] W fun e W' => e = .returned (.bool true) ∧ J (pre ++ [x]) W' ∧ KeepsWalks W W')
    (W : World) (hJ : AbidesFrom W.heap.size J) (hm : W.cell? ⟨Bm, 0, none⟩ = some (.map (some b))) (hown : W.ownsMap Try.prog 3 (plainElem Try.prog 3) b nn D0) (h0 : J [] W) :
    CallsIn F n Try.prog 53 #[.func (.yield l) #[] #[], .pointer (some ⟨Bm, 0, none⟩)] W fun e W' => (∃ v, e = .returned v) ∧ ∃ xs, VAll D0 xs ∧ J xs W' := by
  have hK : Keyed Try.prog 3 := int_keyed Try.underlying3
  refine callsIn_of_wp Try.func53 rfl h8 ?_ hro
  simp only [Try.ntmps53, List.size_toArray, List.length_cons, List.length_nil, Nat.reduceAdd, Nat.reduceSub, Array.replicate_succ, Array.replicate_zero, List.push_toArray, List.append_toArray, List.nil_append, List.cons_append]
  gi_wp2_with (first
    | (gi_at_range; refine wpListIn_range_own _ rfl _ 84 rfl 3 3 hK Try.underlying84 _ b nn _ rfl hown ?_; intro w0 hrg0 hg0 hs0)
    | gi_in)
  go_frame
  gi_loopw [4] (fun _ wr => ∃ (left : Lit → Bool) (cnt : Nat) (ps : List (Int × Int)), wr.ranges Try.prog 3 (plainElem Try.prog 3) b W.heap.size nn D0 left cnt ∧ ps.length + cnt ≤ Maps.size D0 ∧ CollectedI D0 left (ps.map (·.1)) ∧ (∀ p ∈ ps, VAt D0 p) ∧ J (ps.map (·.2)) wr)
    (fun _ wr => wr.rangeLeft b W.heap.size)
  case atStart =>
    exact ⟨_, _, [], hrg0, by simp, CollectedI.start D0, by simp, hJ [] W w0 none h0 hg0 (fun r e => by cases e)⟩
  case round =>
    obtain ⟨left, cnt, ps, hrg, hcs, hC, hV, hJs⟩ := hrel
    gi_wp2_with (first
      | (gi_at_next; refine wpListIn_next_ranges _ rfl _ rfl 3 hK (plainElem Try.prog 3) encZ (Value.int .i64) (fun key kl hk => by obtain ⟨x, hx, _⟩ := Maps.keyOf_i64 Try.underlying3 hk; exact ⟨x, hx⟩) (fun v y hv => by obtain ⟨c, rfl, _⟩ := plainElem_int_inv Try.underlying3 hv; exact ⟨c, rfl⟩) b W.heap.size nn _ _ _ rfl hrg ?_ ?_)
      | gi_in)
    · intro hc0 hl0
      gi_wp2
      go_end0
      exact ⟨⟨_, rfl⟩, _, ⟨ps, hC.perm hown hK Try.underlying3 hl0, hV, rfl⟩, hJs⟩
    · intro x c kl yd yp w2 cnt2 hkey hlk hv hat hrg2 hlt hg2 hs2 hen
      obtain ⟨x', ex, rfl, _⟩ := Maps.keyOf_i64 Try.underlying3 hkey
      obtain rfl : x = x' := encZ_inj ex
      obtain ⟨c', ec, ez, _⟩ := plainElem_int_inv Try.underlying3 hv
      obtain rfl : c = c' := by simpa using ec
      obtain rfl : yd = .lit (.int .i64 c) := (Prod.mk.inj ez).1
      have hJ2 : J (ps.map (·.2)) w2 := hJ _ wr w2 (some W.heap.size) hJs hg2 (fun r e => by cases e; exact ⟨Nat.le_refl _, hrg.iter_walk⟩)
      obtain ⟨fn, tmps, assign, body, hy, hR⟩ := hY (ps.map (·.2)) c w2 hJ2 (by simp; omega)
      clear hs2
      gi_wp2
      refine hR.mono ?_
      have hC2 : CollectedI D0 (fun z => left z && !z.sameKey (.int .i64 x)) ((ps ++ [(x, c)]).map (·.1)) := by simpa using hC.step hlk hat
      have hV2 : ∀ p ∈ ps ++ [(x, c)], VAt D0 p := fun p hp => (List.mem_append.1 hp).elim (hV p) (fun e => by simp at e; subst e; exact hat)
      rintro e W3 ⟨rfl, hJ3, hk3⟩
      gi_wp2
      have hrg3 := hrg2.of_walks hk3
      go_roundw
      case rel => exact ⟨_, cnt2, ps ++ [(x, c)], hrg3, by simp; omega, hC2, hV2, by simpa using hJ3⟩
      case measure => rw [hrg3.left_eq, hrg.left_eq]; exact hlt
theorem values_gives {H : Type} (F : Fence) (n : Nat) (h7 : F.fn 53) (hro : F.round = none) (hn : 1 ≤ n) (Bm b nn : Nat) (D0 : DataW H) (w : World) (hBm : Bm < w.heap.size)
    (hm : w.cell? ⟨Bm, 0, none⟩ = some (.map (some b))) (hown : w.ownsMap Try.prog 3 (plainElem Try.prog 3) b nn D0) :
    SeqGives F n Try.prog 53 #[.pointer (some ⟨Bm, 0, none⟩)] encZ (VAll D0) (Maps.size D0) w := fun l J W hW hJ hY h0 => by
  have hown' : W.ownsMap Try.prog 3 (plainElem Try.prog 3) b nn D0 := by
    have hbl := hown.lt
    obtain ⟨es, clock, hb, Ft, hs, hD⟩ := hown
    exact ⟨es, clock, (hW.block b hbl).trans hb, Ft, hs, hD⟩
  exact values1N_in F n h7 hro hn l Bm b nn D0 J hY W hJ ((hW.cell (p := ⟨Bm, 0, none⟩) hBm).trans hm) hown' h0
section
variable {Z : World} {ρ : PH} {L : List Atom} {w : World}
theorem sortsA (m : Nat) : AnyZI.SortsIn Try.prog Try.sortedA_ren Fence.wide m :=
  ⟨fun blk off cap ss W hH hblk hsz => callsIn_wide.2 (Try.slices_Sort_int blk off cap ss W hH hblk hsz),
   fun p cap W => callsIn_wide.2 (Try.slices_Sort_int_none p cap W)⟩
/-- Rows that are new. -/
theorem Hp.newRow {w' : World} {T : TypeId} {v : Value} {l : List Int} (hp : Hp Z ρ L w) (hb : Below w.heap.size w w') (h : w'.ownsRow w.heap.size T 1 v l.length (l.map encZ)) : Hp Z ρ (OwnSl T v l :: L) w' := by
  have hk := hp.keep hb
  obtain ⟨hl, h⟩ := h
  have e : l.map encZ = flat l := (flat_int l).symm
  rcases h with ⟨rfl, hn⟩ | ⟨g, cap, cur, rfl, h1, h2, h3, h4, h5, h6⟩
  · have := List.eq_nil_of_length_eq_zero hn
    subst this
    exact hk.emp (OwnSl.nil T)
  · have h7 : Hp Z ρ (Pt g (.cells cur T (0, 0)) :: L) w' := hk.with_ rfl rfl rfl (Sep.add (A := Pt g (.cells cur T (0, 0))) (k := PH.one g (.cells cur T (0, 0))) hp.sep (fun b hb' => by
      by_cases e : b = g
      · subst e
        show w.heap[b]? = none
        exact Array.getElem?_eq_none h1
      · simp [PH.one, e] at hb') (fun b o e => by
        have hlt : b < w.heap.size := (Array.getElem?_eq_some_iff.1 e).1
        exact (hb.block b hlt).trans e) (PH.one_le h2) rfl)
    exact h7.shut h3 h4 h5 (h6.trans e)
set_option maxHeartbeats 1000000 in
theorem c_values_ii (b : Nat) (hp : Hp Z ρ L w) :
    Calls Try.prog 48 #[.map (some b)] w (Ret fun v w' => ∃ B : Nat, v = .func (.func 53) #[] #[.pointer (some ⟨B, 0, none⟩)] ∧ Hp Z ρ (Pt B (.cells #[.map (some b)] 84 (0, 0)) :: L) w') := by
  have cK : CallsIn Fence.wide 5 Try.prog 48 #[.map (some b)] w fun e w' => e = .returned (.func (.func 53) #[] #[.pointer (some ⟨w.heap.size, 0, none⟩)]) ∧ w' = w.alloc (.cells #[.map (some b)] 84) := by
    refine callsIn_of_wp Try.func48 rfl trivial ?_ rfl
    simp only [Try.ntmps48, List.size_toArray, List.length_cons, List.length_nil, Nat.reduceAdd, Nat.reduceSub, Array.replicate_succ, Array.replicate_zero, List.push_toArray, List.append_toArray, List.nil_append, List.cons_append]
    gi_wp2
    go_ret
    exact ⟨rfl, rfl⟩
  refine ((callsIn_wide (n := 5)).1 cK).mono ?_
  rintro e w' ⟨rfl, rfl⟩
  exact ⟨_, rfl, _, rfl, hp.alloc _⟩
set_option maxRecDepth 100000 in
theorem c_sortedV (l : List (Int × Int)) {b B : Nat} (hp : Hp Z ρ (Pt B (.cells #[.map (some b)] 84 (0, 0)) :: MapA b l :: L) w) (r : List Int) (hm : m_sortedVals l = some r) :
    Calls Try.prog 47 #[.func (.func 53) #[] #[.pointer (some ⟨B, 0, none⟩)]] w (Ret fun v w' => ∃ v1, v = v1 ∧ Hp Z ρ (OwnSl 3 v1 r :: Pt B (.cells #[.map (some b)] 84 (0, 0)) :: MapA b l :: L) w') := by
  unfold m_sortedVals at hm
  split at hm
  · rename_i hh
    obtain ⟨hr, hlen⟩ := hh
    simp only [Option.some.injEq] at hm
    subst hm
    obtain ⟨es, clock, hpt, e⟩ := (hp.get 1 rfl).map
    have hbk := hpt.look 0 rfl
    have hBk := hp.look 0 rfl
    have hBlt : B < w.heap.size := (Array.getElem?_eq_some_iff.1 hBk).1
    have hint : Try.prog.underlying 3 = some (.int .i64) := by kernel_rfl
    have hwf : ∀ (j : Nat) (x : MapEntry), es.toList[j]? = some x → ∃ p : Int × Int, l[j]? = some p ∧ x.key = .int .i64 p.1 ∧ x.val = .int .i64 p.2 ∧ (Lit.int .i64 p.1).wf = true ∧ (Lit.int .i64 p.2).wf = true := by
      intro j x hj
      obtain ⟨p, hp1, ek, ev⟩ := e.at hj
      have hpl := List.mem_of_getElem? hp1
      have := List.all_eq_true.1 hr p hpl
      simp only [Bool.and_eq_true, decide_eq_true_eq] at this
      refine ⟨p, hp1, ek, ev, ?_, ?_⟩
      · simp [Lit.wf, IntKind.min, IntKind.max, IntKind.signed, IntKind.bits]; omega
      · simp [Lit.wf, IntKind.min, IntKind.max, IntKind.signed, IntKind.bits]; omega
    have hrd : ∀ x ∈ es.toList, ∃ n m : Int, x.key = .int .i64 n ∧ x.val = .int .i64 m ∧ WideElems.rd Try.prog 3 (plainElem (H := Unit) Try.prog 3) x = some (.int .i64 n, .lit (.int .i64 m)) := by
      intro x hx
      obtain ⟨j, hj⟩ := List.getElem?_of_mem hx
      obtain ⟨p, _, hk, hv, hw1, hw2⟩ := hwf j x hj
      refine ⟨p.1, p.2, hk, hv, ?_⟩
      unfold WideElems.rd
      rw [hk, keyOf_int_mk hint hw1, hv, plainElem_int hint hw2]
      rfl
    have hF : WideElems.Fit Try.prog 3 (plainElem (H := Unit) Try.prog 3) es clock := by
      refine ⟨by have := e.size; unfold maxLen; omega, ⟨e.lt, e.nodup, ?_⟩, fun x hx => ?_⟩
      · rw [e.keysEq]
        exact e.keys.map (f := vl) (fun a b hab => by simpa [vl] using hab)
      · obtain ⟨n, m, _, _, h2⟩ := hrd x hx
        exact ⟨_, h2⟩
    have hK : Keyed Try.prog 3 := int_keyed Try.underlying3
    have hat : ∀ x ∈ es.toList, ∀ n m : Int, x.key = .int .i64 n → x.val = .int .i64 m → ∀ zd, (DataW.map (((es.toList.map (WideElems.rg Try.prog 3 (plainElem (H := Unit) Try.prog 3))).foldr DataW.insert []))).atKey (.int .i64 n) zd = .lit (.int .i64 m) := by
      intro x hx n m hn hm' zd
      obtain ⟨n', m', e1, e2, h2⟩ := hrd x hx
      rw [hn] at e1; rw [hm'] at e2
      injection e1 with _ e1; injection e2 with _ e2
      subst e1 e2
      have h3 := (WideShapes.atKey_sorted (es.toList.map (WideElems.rg Try.prog 3 (plainElem (H := Unit) Try.prog 3))) (fit_rising hK hF) (.int .i64 n) trivial).2 _ (List.mem_map.2 ⟨x, hx, rfl⟩) (by rw [WideElems.rg_of h2])
      rw [h3, WideElems.rg_of h2]
    have hD : ∃ D : DataW Unit, w.ownsMap Try.prog 3 (plainElem Try.prog 3) b l.length D ∧ (intKeys D).Perm (l.map (·.1)) ∧ Maps.size D ≤ l.length ∧ ∀ q ∈ l, VAt D q := by
      have hown : w.ownsMap Try.prog 3 (plainElem Try.prog 3) b l.length (.map ((es.toList.map (WideElems.rg Try.prog 3 (plainElem (H := Unit) Try.prog 3))).foldr DataW.insert [])) :=
        ⟨es, clock, hbk, hF, by rw [e.size]; exact Nat.le_refl _, rfl⟩
      refine ⟨_, hown, ?_, hown.size_le, fun q hq zd => ?_⟩
      · show (((es.toList.map (WideElems.rg Try.prog 3 (plainElem (H := Unit) Try.prog 3))).foldr DataW.insert []).map fun p => Go.intOf p.1).Perm _
        refine ((Go.WideShapes.sorted_perm _).map _).trans ?_
        have : (es.toList.map (WideElems.rg Try.prog 3 (plainElem (H := Unit) Try.prog 3))).map (fun p => Go.intOf p.1) = l.map (·.1) := by
          have h1 : ∀ x ∈ es.toList, Go.intOf (WideElems.rg Try.prog 3 (plainElem (H := Unit) Try.prog 3) x).1 = match x.key with | .int _ n => n | _ => 0 := by
            intro x hx
            obtain ⟨n, m, hk, _, h2⟩ := hrd x hx
            unfold WideElems.rg
            rw [h2, hk]; rfl
          rw [List.map_map]
          have h2 : es.toList.map (fun x => match x.key with | .int _ n => n | _ => (0 : Int)) = l.map (·.1) := by
            have := congrArg (List.map (fun k : Value => match k with | .int _ n => n | _ => (0 : Int))) e.keysEq
            simp only [List.map_map] at this
            have h3 : ((fun k : Value => match k with | .int _ n => n | _ => (0 : Int)) ∘ fun x : MapEntry => x.key) = fun x : MapEntry => match x.key with | .int _ n => n | _ => (0 : Int) := rfl
            rw [h3] at this
            rw [this]
            apply List.map_congr_left
            intro p _; rfl
          rw [← h2]
          exact List.map_congr_left h1
        rw [this]
      · obtain ⟨j, hj⟩ := List.getElem?_of_mem hq
        have hjl : j < es.toList.length := by
          have h4 := (List.getElem?_eq_some_iff.1 hj).1
          rw [Array.length_toList, e.size]; exact h4
        obtain ⟨q', hq', hk, hv, _, _⟩ := hwf j _ (List.getElem?_eq_getElem hjl)
        rw [hj] at hq'
        obtain rfl := Option.some.inj hq'
        exact hat _ (List.getElem_mem hjl) _ _ hk hv zd
    obtain ⟨D, hown, hperm, hsz, hval⟩ := hD
    have hcell : w.cell? ⟨B, 0, none⟩ = some (.map (some b)) := by simp [World.cell?, hBk]
    have hseq := values_gives Fence.wide 2 trivial rfl (by omega) B b l.length D w hBlt hcell hown
    have cS := AnyZI.sorted_in Try.sortedA Fence.wide 5 trivial trivial trivial trivial rfl (by omega) (sortsA _) (enters_of Try.func52 (by kernel_rfl) rfl) 53 #[.pointer (some ⟨B, 0, none⟩)] trivial (enters_of Try.func53 (by kernel_rfl) rfl) _ _ (by unfold maxLen; omega) (by omega) _ hseq
    refine ((callsIn_wide (n := 5)).1 cS).mono ?_
    rintro e2 w' ⟨v, ss, rfl, hS, hrow, _, hb⟩
    refine ⟨_, rfl, _, rfl, ?_⟩
    have hl2 : ss.length = (ss.mergeSort fun x y => decide (x ≤ y)).length := by simp
    rw [hl2] at hrow
    have hpv : ss.Perm (l.map (·.2)) := by
      obtain ⟨ps, hp1, hp2, rfl⟩ := hS
      let g : Int → Int := fun k => match D.atKey (.int .i64 k) (.lit (.int .i64 0)) with | .lit (.int _ n) => n | _ => 0
      have hg : ∀ p : Int × Int, VAt D p → p.2 = g p.1 := fun p hp => by
        show p.2 = match D.atKey (.int .i64 p.1) (.lit (.int .i64 0)) with | .lit (.int _ n) => n | _ => 0
        rw [hp]
      have e1 : ps.map (·.2) = (ps.map (·.1)).map g := by
        rw [List.map_map]; exact List.map_congr_left fun p hp => hg p (hp2 p hp)
      have e2 : l.map (·.2) = (l.map (·.1)).map g := by
        rw [List.map_map]; exact List.map_congr_left fun p hp => hg p (hval p hp)
      rw [e1, e2]
      exact (hp1.trans hperm).map g
    have h9 : (ss.mergeSort fun x y => decide (x ≤ y)) = (l.map (·.2)).mergeSort fun x y => decide (x ≤ y) := mergeSort_of_perm_i hpv
    rw [h9] at hrow
    exact hp.newRow hb hrow
  · cases hm
end
end Go.Proofs.Ytnnccbagbgndpaa
