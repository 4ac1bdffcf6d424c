/-
  Marks, pairs and overlaps, as data.
-/
import Derived.Test.YtmfepkadggigpaaMapT
import Derived.Test.YtmfepkadggigpaaOwnR
set_option linter.unusedVariables false
set_option linter.unusedSimpArgs false
namespace Go.Proofs.Ytmfepkadggigpaa
open Go.RowKit
structure Mark where
  hash : Int
  at_ : Int
deriving DecidableEq
instance : Vl Mark := ⟨fun a => .agg #[.int .i64 a.hash, .int .i64 a.at_]⟩
instance : Enc Mark := ⟨2, fun a => [.int .i64 a.hash, .int .i64 a.at_], fun _ => rfl, fun a v h => by
  simp at h; rcases h with rfl | rfl <;> rfl, by decide⟩
structure Pair where
  a : Int
  b : Int
  shared : Int
  total : Int
deriving DecidableEq
instance : Enc Pair := ⟨4, fun p => [.int .i64 p.a, .int .i64 p.b, .int .i64 p.shared, .int .i64 p.total], fun _ => rfl, fun p v h => by
  simp at h; rcases h with rfl | rfl | rfl | rfl <;> rfl, by decide⟩
structure Overlap where
  a : Int
  b : Int
  len : Int
deriving DecidableEq
instance : Vl Overlap := ⟨fun p => .agg #[.int .i64 p.a, .int .i64 p.b, .int .i64 p.len]⟩
instance : Enc Overlap := ⟨3, fun p => [.int .i64 p.a, .int .i64 p.b, .int .i64 p.len], fun _ => rfl, fun p v h => by
  simp at h; rcases h with rfl | rfl | rfl <;> rfl, by decide⟩
end Go.Proofs.Ytmfepkadggigpaa
