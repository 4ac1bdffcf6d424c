/-
  What functions of Go's library compute, as data: decimal numbers; the keys of a map, sorted.
-/
import Derived.Test.YtmfepkadggigpaaMap
import Derived.Test.YtmfepkadggigpaaLibI
import Derived.Lib.ItoaNum
set_option linter.unusedVariables false
set_option linter.unusedSimpArgs false
namespace Go.Proofs.Ytmfepkadggigpaa
open Go.RowKit
/-- strconv.Itoa. -/
def m_itoa (n : Int) : Option ByteArray := if -9223372036854775808 ≤ n ∧ n ≤ 9223372036854775807 then some ⟨(Lib.itoa n).toArray⟩ else none
/-- slices.Sorted(maps.Keys(..)) -/
def m_sortedKeys {β : Type} (l : List (Int × β)) : Option (List Int) := if (l.all fun p => decide (-9223372036854775808 ≤ p.1 ∧ p.1 ≤ 9223372036854775807)) = true ∧ l.length < 4294967297 then some ((l.map (·.1)).mergeSort fun x y => decide (x ≤ y)) else none
/-- slices.Sorted(maps.Values(..)) -/
def m_sortedVals (l : List (Int × Int)) : Option (List Int) := if (l.all fun p => decide (-9223372036854775808 ≤ p.1 ∧ p.1 ≤ 9223372036854775807) && decide (-9223372036854775808 ≤ p.2 ∧ p.2 ≤ 9223372036854775807)) = true ∧ l.length < 4294967297 then some ((l.map (·.2)).mergeSort fun x y => decide (x ≤ y)) else none
end Go.Proofs.Ytmfepkadggigpaa
