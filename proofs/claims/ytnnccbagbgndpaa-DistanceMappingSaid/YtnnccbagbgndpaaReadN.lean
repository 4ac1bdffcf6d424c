/-
  Trees as arguments of laws: what is read at the type of nodes stands for a tree. Tables that the row lays.
-/
import Derived.Test.YtnnccbagbgndpaaNode
import Derived.Test.YtnnccbagbgndpaaRow
import Derived.Test.YtnnccbagbgndpaaProg
import Derived.Lib.LaidTab
import Derived.LaidLaws
set_option linter.unusedVariables false
set_option linter.unusedSimpArgs false
namespace Go.Proofs.Ytnnccbagbgndpaa
open Go.ChangeShapes Go.WideShapes Go.ChangeAt Go.RowKit
/-- Numbers that are ints, texts and lists that are not too long. -/
inductive NodeWf : Node → Prop
  | mk (kind : Int) (text : ByteArray) (at_ fin : Int) (kids : List Node) (h1 : I64 kind) (h2 : text.size ≤ maxLen) (h3 : I64 at_) (h4 : I64 fin) (h5 : kids.length ≤ maxLen) (h6 : ∀ k ∈ kids, NodeWf k) : NodeWf ⟨kind, text, at_, fin, kids⟩
set_option maxRecDepth 100000 in
theorem node_trod {H : Type} {enc : TypeId × Value → H} {w : World} {base : Nat} {spare : Nat → Bool} {held : Bool} : ∀ (fuel : Nat) {cs : List Value} {x : DataW H × List MemPlace},
    DataW.trod enc Try.prog w base spare held fuel 24 cs = some x → ∃ a : Node, NodeAt (hp w) a cs ∧ NodeWf a := by
  intro fuel
  induction fuel using Nat.strongRecOn with
  | _ fuel ih =>
    intro cs x h
    obtain ⟨xs, n, rfl, _, hl, hx, hf⟩ := DataW.trod_struct Try.underlying24 h
    have hl2 : cs.length = 5 := hl.trans (by kernel_rfl)
    have hx2 : xs.length = 5 := hx
    have ki : Try.prog.cellsOf 3 = 1 := by kernel_rfl
    have ks : Try.prog.cellsOf 9 = 1 := by kernel_rfl
    have kl : Try.prog.cellsOf 22 = 1 := by kernel_rfl
    have kn : Try.prog.cellsOf 24 = 5 := by kernel_rfl
    match cs, hl2, xs, hx2 with
    | [c0, c1, c2, c3, c4], _, [y0, y1, y2, y3, y4], _ =>
      have z0 := hf 0 _ rfl
      have z1 := hf 1 _ rfl
      have z2 := hf 2 _ rfl
      have z3 := hf 3 _ rfl
      have z4 := hf 4 _ rfl
      simp [ki] at z0 z2 z3
      simp [ks] at z1
      simp [kl] at z4
      obtain ⟨n0, e0, _, w0⟩ := DataW.trod_int Try.underlying3 z0
      obtain ⟨n1, e1, _, w1⟩ := DataW.trod_string Try.underlying9 z1
      obtain ⟨n2, e2, _, w2⟩ := DataW.trod_int Try.underlying3 z2
      obtain ⟨n3, e3, _, w3⟩ := DataW.trod_int Try.underlying3 z3
      simp only [List.cons.injEq, and_true] at e0 e1 e2 e3
      subst e0 e1 e2 e3
      rcases DataW.trod_slice Try.underlying22 z4 with ⟨e4, _⟩ | ⟨a, len, cap, elems, rest, m, rfl, e4, _, hb, hle, hm, hlen, hel, _⟩
      · simp only [List.cons.injEq, and_true] at e4
        subst e4
        exact ⟨⟨n0, n1, n2, n3, []⟩, NodeAt.shut (RoSl.nil _), .mk _ _ _ _ _ (I64.of w0) w1 (I64.of w2) (I64.of w3) (by unfold maxLen; simp) (by simp)⟩
      · simp only [List.cons.injEq, and_true] at e4
        subst e4
        have key : ∀ i, i < len → ∃ z : Node, NodeWf z ∧ ∃ b o cs', some a = some ⟨b, o, none⟩ ∧ NodeAt (hp w) z cs' ∧ AtP (hp w) b (o + i * 5) cs' := by
          intro i hi
          have h1 := hel i hi
          rw [List.getElem?_eq_getElem (by omega), kn] at h1
          obtain ⟨cs', hc, ht'⟩ := Option.bind_eq_some_iff.1 h1
          obtain ⟨_, hcl, hat⟩ := World.cells?_some hc
          obtain ⟨z, hz, hw⟩ := ih m (by omega) ht'
          have h0 := hel 0 (by omega)
          rw [List.getElem?_eq_getElem (by omega), kn] at h0
          obtain ⟨cs0, hc0, _⟩ := Option.bind_eq_some_iff.1 h0
          obtain ⟨_, hcl0, hat0⟩ := World.cells?_some hc0
          have hs0 := hat0 0 (by omega)
          rw [List.getElem?_eq_getElem (by omega)] at hs0
          obtain ⟨b, o, sp⟩ := a
          have hsp : sp = none := by
            cases sp with
            | none => rfl
            | some s =>
              simp [Addr.add, World.cell?] at hs0
              split at hs0 <;> cases hs0
          subst hsp
          refine ⟨z, hw, b, o, cs', rfl, hz, fun j u hj => ?_⟩
          have hjl : j < 5 := by rw [← hcl]; exact (List.getElem?_eq_some_iff.1 hj).1
          have := hat j hjl
          rw [Addr.add_lit, Addr.add_lit, hj] at this
          unfold World.cell? at this
          simp only [Option.isSome_none, Bool.false_eq_true, if_false] at this
          exact this
        obtain ⟨l, hll, hp⟩ := exists_list len key
        refine ⟨⟨n0, n1, n2, n3, l⟩, NodeAt.shut ⟨some a, cap, by rw [hll], by rw [hll]; exact hle, fun i z hz => (hp i z hz).2⟩, .mk _ _ _ _ _ (I64.of w0) w1 (I64.of w2) (I64.of w3) (by omega) (fun z hz => ?_)⟩
        obtain ⟨i, hi⟩ := List.getElem?_of_mem hz
        exact (hp i z hi).1
theorem reads_node : Reads Try.prog 24 Node NodeWf := ⟨by kernel_rfl, by decide, fun h => node_trod _ h⟩
end Go.Proofs.Ytnnccbagbgndpaa
