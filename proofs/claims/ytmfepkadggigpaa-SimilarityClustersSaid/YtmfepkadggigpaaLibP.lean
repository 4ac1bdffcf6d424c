/-
  What functions of Go's library compute at the places where the program calls them, as data.
-/
import Derived.Test.YtmfepkadggigpaaTy
import Derived.Test.YtmfepkadggigpaaMapU
set_option linter.unusedVariables false
set_option linter.unusedSimpArgs false
namespace Go.Proofs.Ytmfepkadggigpaa
open Go.RowKit
/-- maps.DeleteFunc of what is not often. -/
def m_mdel (most : Int) (l : List (Int × Int)) : Option (List (Int × Int)) := if (l.all fun p => decide (-9223372036854775808 ≤ p.1 ∧ p.1 ≤ 9223372036854775807) && decide (-9223372036854775808 ≤ p.2 ∧ p.2 ≤ 9223372036854775807)) = true ∧ l.length < 4294967297 then some (l.filter fun p => !decide (p.2 ≤ most)) else none
/-- Does an overlap come before another one? -/
def ovLt (x y : Overlap) : Bool := decide (y.len < x.len ∨ y.len = x.len ∧ (x.a < y.a ∨ x.a = y.a ∧ x.b < y.b))
def m_sortO (l : List Overlap) : Option (List Overlap) := if l.length < 4294967297 then some (l.mergeSort fun x y => !ovLt y x) else none
/-- Does a pair come before another one? -/
def prT (x : Pair) : Int := max 1 x.total
def prLt (x y : Pair) : Bool := decide (y.shared * prT x < x.shared * prT y ∨ y.shared * prT x = x.shared * prT y ∧ (x.a < y.a ∨ x.a = y.a ∧ x.b < y.b))
def prOk (x : Pair) : Bool := decide (0 ≤ x.shared ∧ x.shared < 2147483648 ∧ 0 < x.total ∧ x.total < 2147483648)
def m_sortP (l : List Pair) : Option (List Pair) := if l.length < 4294967297 ∧ l.all prOk = true ∧ (l.map fun p => (p.a, p.b)).Nodup then some (l.mergeSort fun x y => !prLt y x) else none
end Go.Proofs.Ytmfepkadggigpaa
