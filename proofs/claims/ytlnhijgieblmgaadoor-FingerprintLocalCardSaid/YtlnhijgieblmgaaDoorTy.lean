/-
  Marks, as data.
-/
import Derived.Test.YtlnhijgieblmgaaDoorNode
import Derived.Test.YtlnhijgieblmgaaDoorMap
set_option linter.unusedVariables false
set_option linter.unusedSimpArgs false
namespace Go.Proofs.YtlnhijgieblmgaaDoor
open Go.RowKit
structure Mark where
  hash : Int
  at_ : Int
deriving DecidableEq
instance : Vl Mark := ⟨fun a => .agg #[.int .i64 a.hash, .int .i64 a.at_]⟩
instance : Enc Mark := ⟨2, fun a => [.int .i64 a.hash, .int .i64 a.at_], fun _ => rfl, fun a v h => by
  simp at h; rcases h with rfl | rfl <;> rfl, by decide⟩
end Go.Proofs.YtlnhijgieblmgaaDoor
