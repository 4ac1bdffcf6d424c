/-
  Trees in postorder, labels, nodes in preorder, as data.
-/
import Derived.Test.YtnnccbagbgndpaaNode
import Derived.Test.YtnnccbagbgndpaaTbl
import Derived.Test.YtnnccbagbgndpaaHeld
import Derived.Test.YtnnccbagbgndpaaMapE
set_option linter.unusedVariables false
set_option linter.unusedSimpArgs false
namespace Go.Proofs.Ytnnccbagbgndpaa
open Go.RowKit
/-- The reference's tree in postorder. -/
structure RFlat where
  kinds : List Int
  texts : List ByteArray
  left : List Int
  numbers : List Int
structure Lbl where
  kind : Int
  text : ByteArray
deriving DecidableEq
instance : Vl Lbl := ⟨fun a => .agg #[.int .i64 a.kind, .string a.text]⟩
instance : Enc Lbl := ⟨2, fun a => [.int .i64 a.kind, .string a.text], fun _ => rfl, fun a v h => by
  simp at h; rcases h with rfl | rfl <;> rfl, by decide⟩
structure DFlat where
  labels : List Lbl
  left : List Int
  numbers : List Int
/-- A node in preorder, and the number behind its subtree. -/
structure LFlat where
  n : Node
  last : Int
end Go.Proofs.Ytnnccbagbgndpaa
