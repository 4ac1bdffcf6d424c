/-
  Trees of the program, as data: a node, and how its cells stand for it. Plain theorems over any program.
-/
import Derived.Test.YtnnccbagbgndpaaStr
set_option linter.unusedVariables false
set_option linter.unusedSimpArgs false
namespace Go.Proofs.Ytnnccbagbgndpaa
open Go.RowKit

structure Node where
  kind : Int
  text : ByteArray
  at_ : Int
  fin : Int
  kids : List Node
/-- The cells cs stand for the node, where its kids lie in ρ. -/
inductive NodeAt (ρ : PH) : Node → List Value → Prop
  | mk (kind : Int) (text : ByteArray) (at_ fin : Int) (kids : List Node) (A : Option Addr) (c b o : Nat) (cs : Nat → List Value)
      (hc : kids.length ≤ c) (hA : ∀ (i : Nat) (a : Node), kids[i]? = some a → A = some ⟨b, o, none⟩)
      (hk : ∀ (i : Nat) (a : Node), kids[i]? = some a → NodeAt ρ a (cs i)) (hat : ∀ (i : Nat) (a : Node), kids[i]? = some a → AtP ρ b (o + i * 5) (cs i)) :
      NodeAt ρ ⟨kind, text, at_, fin, kids⟩ [.int .i64 kind, .string text, .int .i64 at_, .int .i64 fin, .slice A kids.length c]
theorem NodeAt.len {ρ : PH} {a : Node} {cs : List Value} (h : NodeAt ρ a cs) : cs.length = 5 := by cases h; rfl
theorem NodeAt.mono {ρ ρ' : PH} (hl : ρ.le ρ') {a : Node} {cs : List Value} (h : NodeAt ρ a cs) : NodeAt ρ' a cs := by
  induction h with
  | mk kind text at_ fin kids A c b o cs hc hA hk hat ih => exact .mk kind text at_ fin kids A c b o cs hc hA ih (fun i a hi => (hat i a hi).mono hl)
instance repNode : Rep Node := ⟨5, NodeAt, fun h => NodeAt.len h, fun h k => NodeAt.mono h k⟩
/-- A node, opened: its cells, and its kids, which are only read. -/
theorem NodeAt.opens {ρ : PH} {a : Node} {cs : List Value} (h : NodeAt ρ a cs) : ∃ v, cs = [.int .i64 a.kind, .string a.text, .int .i64 a.at_, .int .i64 a.fin, v] ∧ RoSl ρ v a.kids := by
  cases h with
  | mk kind text at_ fin kids A c b o cs hc hA hk hat =>
    exact ⟨_, rfl, A, c, rfl, hc, fun i x hi => ⟨b, o, cs i, hA i x hi, hk i x hi, hat i x hi⟩⟩
theorem NodeAt.shut {ρ : PH} {kind at_ fin : Int} {text : ByteArray} {kids : List Node} {v : Value} (h : RoSl ρ v kids) : NodeAt ρ ⟨kind, text, at_, fin, kids⟩ [.int .i64 kind, .string text, .int .i64 at_, .int .i64 fin, v] := by
  obtain ⟨A, c, rfl, hc, h3⟩ := h
  by_cases h0 : kids.length = 0
  · have hn := List.eq_nil_of_length_eq_zero h0
    subst hn
    exact .mk kind text at_ fin [] A c 0 0 (fun _ => []) hc (fun i a h => by simp at h) (fun i a h => by simp at h) (fun i a h => by simp at h)
  · obtain ⟨b, o, _, rfl, _, _⟩ := h3 0 kids[0] (List.getElem?_eq_getElem (by omega))
    have key : ∀ i, ∃ cs, ∀ a, kids[i]? = some a → NodeAt ρ a cs ∧ AtP ρ b (o + i * 5) cs := fun i => by
      cases hi : kids[i]? with
      | none => exact ⟨[], fun a h => by cases h⟩
      | some a =>
        obtain ⟨b', o', cs, e, h4, h5⟩ := h3 i a hi
        simp only [Option.some.injEq, Addr.mk.injEq, and_true] at e
        obtain ⟨rfl, rfl⟩ := e
        exact ⟨cs, fun a' h => by obtain rfl := Option.some.inj h; exact ⟨h4, h5⟩⟩
    exact .mk kind text at_ fin kids (some ⟨b, o, none⟩) c b o (fun i => Classical.choose (key i)) hc (fun _ _ _ => rfl) (fun i a h => (Classical.choose_spec (key i) a h).1) (fun i a h => (Classical.choose_spec (key i) a h).2)
theorem NodeAt.shutv {ρ : PH} {a : Node} {v : Value} (h : RoSl ρ v a.kids) : NodeAt ρ a [.int .i64 a.kind, .string a.text, .int .i64 a.at_, .int .i64 a.fin, v] := by
  obtain ⟨kind, text, at_, fin, kids⟩ := a
  exact NodeAt.shut h
end Go.Proofs.Ytnnccbagbgndpaa
