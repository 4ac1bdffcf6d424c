/-
  Attempts and rules, as data.
-/
import Derived.Test.YtmjmoogldbejoaaMut
namespace Go.Proofs.Ytmjmoogldbejoaa
open Go.RowKit
structure Att where
  num : Int
  tick : Int
  pts : Int
structure Rule where
  kind : Int
  most : Int
  pause : Int
  keep : Int
instance : Enc Att := ⟨3, fun a => [.int .i64 a.num, .int .i64 a.tick, .int .i64 a.pts], fun _ => rfl, fun a v h => by
  simp at h; rcases h with rfl | rfl | rfl <;> rfl, by decide⟩
instance : Enc Rule := ⟨4, fun a => [.int .i64 a.kind, .int .i64 a.most, .int .i64 a.pause, .int .i64 a.keep], fun _ => rfl, fun a v h => by
  simp at h; rcases h with rfl | rfl | rfl | rfl <;> rfl, by decide⟩
end Go.Proofs.Ytmjmoogldbejoaa
