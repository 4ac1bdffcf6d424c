/-
  Nodes, and nodes with a number, as elements of owned slices.
-/
import Derived.Test.YtnnccbagbgndpaaTy
import Derived.Test.YtnnccbagbgndpaaOwnR
set_option linter.unusedVariables false
set_option linter.unusedSimpArgs false
namespace Go.Proofs.Ytnnccbagbgndpaa
open Go.RowKit
instance rep1Node : Rep1 Node := ⟨fun {ρ a cs} h v hv => by
  obtain ⟨u, rfl, hu⟩ := NodeAt.opens (show NodeAt ρ a cs from h)
  have h1 := RoSl.one hu
  simp only [List.mem_cons, List.not_mem_nil, or_false] at hv
  rcases hv with rfl | rfl | rfl | rfl | rfl <;> first | rfl | exact h1, by decide⟩
def LFlatAt (ρ : PH) (a : LFlat) (cs : List Value) : Prop := ∃ c, NodeAt ρ a.n c ∧ cs = c ++ [.int .i64 a.last]
instance repLFlat : Rep LFlat := ⟨6, LFlatAt, fun {ρ a cs} h => by
  obtain ⟨c, h1, rfl⟩ := h
  rw [List.length_append, NodeAt.len h1]; rfl, fun {ρ ρ' a cs} hl h => by
  obtain ⟨c, h1, rfl⟩ := h
  exact ⟨c, NodeAt.mono hl h1, rfl⟩⟩
theorem LFlatAt.opens {ρ : PH} {a : LFlat} {cs : List Value} (h : LFlatAt ρ a cs) : ∃ v, cs = [.int .i64 a.n.kind, .string a.n.text, .int .i64 a.n.at_, .int .i64 a.n.fin, v, .int .i64 a.last] ∧ RoSl ρ v a.n.kids := by
  obtain ⟨c, h1, rfl⟩ := h
  obtain ⟨v, rfl, hv⟩ := NodeAt.opens h1
  exact ⟨v, rfl, hv⟩
theorem LFlatAt.shut {ρ : PH} {n : Node} {last : Int} {v : Value} (h : RoSl ρ v n.kids) : LFlatAt ρ ⟨n, last⟩ [.int .i64 n.kind, .string n.text, .int .i64 n.at_, .int .i64 n.fin, v, .int .i64 last] := ⟨_, NodeAt.shutv h, rfl⟩
theorem LFlatAt.shutv {ρ : PH} {a : LFlat} {v : Value} (h : RoSl ρ v a.n.kids) : LFlatAt ρ a [.int .i64 a.n.kind, .string a.n.text, .int .i64 a.n.at_, .int .i64 a.n.fin, v, .int .i64 a.last] := by
  obtain ⟨n, last⟩ := a
  exact LFlatAt.shut h
instance rep1LFlat : Rep1 LFlat := ⟨fun {ρ a cs} h v hv => by
  obtain ⟨u, rfl, hu⟩ := LFlatAt.opens (show LFlatAt ρ a cs from h)
  have h1 := RoSl.one hu
  simp only [List.mem_cons, List.not_mem_nil, or_false] at hv
  rcases hv with rfl | rfl | rfl | rfl | rfl | rfl <;> first | rfl | exact h1, by decide⟩
end Go.Proofs.Ytnnccbagbgndpaa
