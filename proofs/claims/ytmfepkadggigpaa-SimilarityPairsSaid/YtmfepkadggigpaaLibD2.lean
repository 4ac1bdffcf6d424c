/-
  maps.DeleteFunc of what is not often, over an owned map.
-/
import Derived.Test.YtmfepkadggigpaaLibP
import Derived.Test.YtmfepkadggigpaaShelf
import Derived.Shelf.Abstract
set_option linter.unusedVariables false
set_option linter.unusedSimpArgs false
namespace Go.Proofs.Ytmfepkadggigpaa
open Vl (vl)
open Go.RowKit Go.Sort Go.Maps
/-- Is the element, as it reads, at most lo? -/
def atMostD (lo : Int) (_ : Lit) : DataW Unit → Bool
  | .lit (.int _ v) => decide (v ≤ lo)
  | _ => false
set_option maxHeartbeats 400000 in
theorem closureF (k v lo : Int) (bx : Nat) (W : World) (hx : W.cell? ⟨bx, 0, none⟩ = some (.int .i64 lo)) :
    Calls Try.prog 41 (#[.int .i64 k, .int .i64 v] ++ #[.pointer (some ⟨bx, 0, none⟩)]) W fun e w' => e = .returned (.bool (decide (v ≤ lo))) ∧ w' = W := by
  show Calls Try.prog 41 #[.int .i64 k, .int .i64 v, .pointer (some ⟨bx, 0, none⟩)] W _
  go_enter Try.func41, Try.ntmps41
  go_wp2
  go_ret
  exact ⟨rfl, rfl⟩
section
variable {Z : World} {ρ : PH} {L : List Atom} {w : World}
open Go.ChangeMaps (setBlock)
def decE (x : MapEntry) : Int × Int := (match x.key with | .int _ n => n | _ => 0, match x.val with | .int _ n => n | _ => 0)
def decD (p : Lit × DataW Unit) : Int × Int := (Go.intOf p.1, match p.2 with | .lit (.int _ v) => v | _ => 0)
set_option maxRecDepth 100000 in
theorem c_mdel (l : List (Int × Int)) (most : Int) {b B : Nat} (hp : Hp Z ρ (Pt B (.cells #[.int .i64 most] 3 (0, 0)) :: MapU b l :: L) w) (r : List (Int × Int)) (hm : m_mdel most l = some r) :
    Calls Try.prog 40 #[.map (some b), .func (.func 41) #[] #[.pointer (some ⟨B, 0, none⟩)]] w (Ret fun v w' => v = .tuple #[] ∧ Hp Z ρ (Pt B (.cells #[.int .i64 most] 3 (0, 0)) :: MapU b r :: L) w') := by
  unfold m_mdel at hm
  split at hm
  · rename_i hh
    obtain ⟨hr, hlen⟩ := hh
    simp only [Option.some.injEq] at hm
    subst hm
    obtain ⟨l', h1, hpm, hn⟩ := MapU.open_ (hp.get 1 rfl)
    obtain ⟨es, clock, hpt, e⟩ := h1.map
    have hbk := hpt.look 0 rfl
    have hBk := hpt.look 1 rfl
    have hne : B ≠ b := fun h => by rw [h, hbk] at hBk; cases hBk
    have hint : Try.prog.underlying 3 = some (.int .i64) := by kernel_rfl
    let R : Value → Option (DataW Unit × List MemPlace) := plainElem Try.prog 3
    have wf_ : ∀ n : Int, -9223372036854775808 ≤ n ∧ n ≤ 9223372036854775807 → (Lit.int .i64 n).wf = true := by
      intro n hn
      simp [Lit.wf, IntKind.min, IntKind.max, IntKind.signed, IntKind.bits]
      omega
    have hrd : ∀ x ∈ es.toList, ∃ p : Int × Int, x.key = .int .i64 p.1 ∧ x.val = .int .i64 p.2 ∧ WideElems.rd Try.prog 3 R x = some (.int .i64 p.1, .lit (.int .i64 p.2)) := by
      intro x hx
      obtain ⟨j, hj⟩ := List.getElem?_of_mem hx
      obtain ⟨p, hp1, ek, ev⟩ := e.at hj
      have := List.all_eq_true.1 hr p (hpm.mem_iff.1 (List.mem_of_getElem? hp1))
      simp only [Bool.and_eq_true, decide_eq_true_eq] at this
      refine ⟨p, ek, ev, ?_⟩
      have h3 : R x.val = some (.lit (.int .i64 p.2), []) := by rw [ev]; exact plainElem_int hint (wf_ _ this.2)
      unfold WideElems.rd
      rw [h3, ek]
      show (keyOf Try.prog 3 (.int .i64 p.1)).bind _ = _
      rw [keyOf_int_mk hint (wf_ _ this.1)]
      rfl
    have hown : w.ownsMap Try.prog 3 R b l'.length (.map ((es.toList.map (WideElems.rg Try.prog 3 R)).foldr DataW.insert [])) := by
      refine ⟨es, clock, hbk, ⟨by have := e.size; have := hpm.length_eq; unfold maxLen; omega, ⟨e.lt, e.nodup, ?_⟩, fun x hx => ?_⟩, by rw [e.size]; exact Nat.le_refl _, rfl⟩
      · rw [e.keysEq]
        exact e.keys.map (f := vl) (fun a b hab => by simpa [vl] using hab)
      · obtain ⟨p, _, _, h2⟩ := hrd x hx
        exact ⟨_, h2⟩
    have eg : ∀ args w, (callFunc 41 args).run Try.prog w = .ok (.enter 41 args) w := enters Try.func41 (by kernel_rfl) rfl
    have hBc : w.cell? ⟨B, 0, none⟩ = some (.int .i64 most) := by simp [World.cell?, hBk]
    have hcon : Calls Try.prog 40 #[.map (some b), .func (.func 41) #[] #[.pointer (some ⟨B, 0, none⟩)]] w (fun e w' => e = .returned (.tuple #[]) ∧ w'.ownsMap Try.prog 3 R b l'.length (Lib.deleteFuncD (atMostD most) (.map ((es.toList.map (WideElems.rg Try.prog 3 R)).foldr DataW.insert []))) ∧ w.grownBy w' (some b)) :=
      AnyDf.maps_DeleteFunc Try.delA (int_keyed hint) R (atMostD most) 41 #[.pointer (some ⟨B, 0, none⟩)] b l'.length _ w eg hown (fun W key val kl yd yp hgW hkey hv => by
        obtain ⟨x, rfl, rfl, _⟩ := Maps.keyOf_int_inv hint hkey
        obtain ⟨c, rfl, hy, _⟩ := plainElem_int_inv hint hv
        obtain rfl : yd = .lit (.int .i64 c) := by simpa using (congrArg Prod.fst hy)
        exact (closureF x c most B W (hgW.cell hBc (fun e => hne (Option.some.inj e)))).mono fun _ _ ⟨he, hw⟩ => ⟨he, hw ▸ World.grownBy.refl _ _⟩)
    refine hcon.mono ?_
    rintro e' w' ⟨rfl, ⟨es2, clock2, hb2, hfit, hsz2, hD⟩, hg⟩
    have hrd2 : ∀ x ∈ es2.toList, ∃ p : Int × Int, x.key = .int .i64 p.1 ∧ x.val = .int .i64 p.2 ∧ WideElems.rd Try.prog 3 R x = some (.int .i64 p.1, .lit (.int .i64 p.2)) := by
      intro x hx
      obtain ⟨y, hy⟩ := hfit.reads x hx
      obtain ⟨n, hk, hk2, _⟩ := Maps.keyOf_int_inv hint (WideElems.rd_key hy)
      obtain ⟨z, hz, hz2⟩ := WideElems.rd_val hy
      obtain ⟨c, hv, hz3, _⟩ := plainElem_int_inv hint hz
      refine ⟨(n, c), hk, hv, ?_⟩
      rw [hy, ← hk2, show (DataW.lit (.int .i64 c) : DataW Unit) = y.2 by rw [hz2, hz3]]
    have rg_ : ∀ {x : MapEntry} {p : Int × Int}, WideElems.rd Try.prog 3 R x = some (.int .i64 p.1, .lit (.int .i64 p.2)) → WideElems.rg Try.prog 3 R x = (.int .i64 p.1, .lit (.int .i64 p.2)) := fun h => WideElems.rg_of h
    have dec_ : ∀ {x : MapEntry} {p : Int × Int}, x.key = .int .i64 p.1 → x.val = .int .i64 p.2 → decE x = p := fun h1 h2 => by unfold decE; rw [h1, h2]
    have e2 : EntOk es2 clock2 (es2.toList.map decE) := by
      refine ⟨?_, hfit.stamped.2.1, hfit.stamped.1, ?_⟩
      · rw [List.map_map]
        refine List.map_congr_left fun x hx => ?_
        obtain ⟨p, hk, hv, _⟩ := hrd2 x hx
        simp only [Function.comp_def, dec_ hk hv, hk, hv]
        rfl
      · have h3 := hfit.stamped.2.2
        have h4 : es2.toList.map (·.key) = ((es2.toList.map decE).map (·.1)).map (fun n : Int => (Value.int .i64 n)) := by
          rw [List.map_map, List.map_map]
          refine List.map_congr_left fun x hx => ?_
          obtain ⟨p, hk, hv, _⟩ := hrd2 x hx
          simp only [Function.comp_def, dec_ hk hv, hk]
        rw [h4] at h3
        exact List.Pairwise.of_map _ (fun a b h e => h (by rw [e])) h3
    have hl' : es.toList.map decE = l' := by
      have h3 := e.ents
      have h4 := congrArg (List.map (fun q : Value × Value => ((match q.1 with | .int _ n => n | _ => (0 : Int)), (match q.2 with | .int _ n => n | _ => (0 : Int))))) h3
      rw [List.map_map, List.map_map] at h4
      refine Eq.trans ?_ (h4.trans ?_)
      · exact List.map_congr_left fun x _ => rfl
      · exact (List.map_congr_left fun x _ => rfl).trans (List.map_id _)
    have hperm : (es2.toList.map decE).Perm (l'.filter fun p => !decide (p.2 ≤ most)) := by
      have h3 : ((es.toList.map (WideElems.rg Try.prog 3 R)).foldr DataW.insert []).filter (fun p => !atMostD most p.1 p.2) = (es2.toList.map (WideElems.rg Try.prog 3 R)).foldr DataW.insert [] := by
        injection hD
      have h4 : (es2.toList.map (WideElems.rg Try.prog 3 R)).Perm ((es.toList.map (WideElems.rg Try.prog 3 R)).filter fun p => !atMostD most p.1 p.2) :=
        (Go.WideShapes.sorted_perm _).symm.trans (h3 ▸ (Go.WideShapes.sorted_perm _).filter _)
      have h5 := h4.map decD
      have h6 : (es2.toList.map (WideElems.rg Try.prog 3 R)).map decD = es2.toList.map decE := by
        rw [List.map_map]
        refine List.map_congr_left fun x hx => ?_
        obtain ⟨p, hk, hv, h7⟩ := hrd2 x hx
        simp only [Function.comp_def, rg_ h7, dec_ hk hv]
        rfl
      have h8 : ((es.toList.map (WideElems.rg Try.prog 3 R)).filter fun p => !atMostD most p.1 p.2).map decD = l'.filter fun p => !decide (p.2 ≤ most) := by
        rw [← hl', List.filter_map, List.filter_map, List.map_map]
        have h9 : es.toList.filter ((fun p => !atMostD most p.1 p.2) ∘ WideElems.rg Try.prog 3 R) = es.toList.filter ((fun p : Int × Int => !decide (p.2 ≤ most)) ∘ decE) := by
          refine List.filter_congr fun x hx => ?_
          obtain ⟨p, hk, hv, h7⟩ := hrd x hx
          simp only [Function.comp_def, rg_ h7, dec_ hk hv]
          rfl
        rw [h9]
        refine List.map_congr_left fun x hx => ?_
        obtain ⟨p, hk, hv, h7⟩ := hrd x (List.mem_filter.1 hx).1
        simp only [Function.comp_def, rg_ h7, dec_ hk hv]
        rfl
      rw [h6, h8] at h5
      exact h5
    have hs := MapKept.heap_set (o' := .map es2 clock2) hbk
    have hw1 : Hp Z ρ (Pt b (.map es2 clock2) :: Pt B (.cells #[.int .i64 most] 3 (0, 0)) :: L) (setBlock w b (.map es2 clock2)) := Hp.set (w' := setBlock w b _) hpt rfl rfl rfl hs.1 hs.2
    have hw2 : Hp Z ρ (Pt b (.map es2 clock2) :: Pt B (.cells #[.int .i64 most] 3 (0, 0)) :: L) w' := by
      refine hw1.with_ (w' := w') hg.os hg.tape hg.output (hw1.sep.mono fun c o ho => ?_)
      by_cases hc : c = b
      · subst hc
        have this : some (Obj.map es2 clock2) = some o := hs.1.symm.trans ho
        show w'.heap[c]? = some o
        rw [hb2]; exact this
      · have h3 : w.heap[c]? = some o := (hs.2 c hc).symm.trans ho
        have hlt : c < w.heap.size := (Array.getElem?_eq_some_iff.1 h3).1
        show w'.heap[c]? = some o
        rw [hg.block c hlt (fun h => hc (Option.some.inj h))]; exact h3
    exact ⟨_, rfl, rfl, ((MapU.shut (hw2.mapShut e2) (hperm.trans (hpm.filter _))).get 1 rfl)⟩
  · cases hm
end
end Go.Proofs.Ytmfepkadggigpaa
