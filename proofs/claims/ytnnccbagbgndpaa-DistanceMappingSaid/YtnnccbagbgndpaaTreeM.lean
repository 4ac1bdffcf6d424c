/-
  How many nodes a tree has.
-/
import Derived.Test.YtnnccbagbgndpaaNode
set_option linter.unusedVariables false
set_option linter.unusedSimpArgs false
namespace Go.Proofs.Ytnnccbagbgndpaa
open Go.RowKit
mutual
def cntN : Node → Nat
  | ⟨_, _, _, _, kids⟩ => 1 + cntL kids
def cntL : List Node → Nat
  | [] => 0
  | k :: l => cntN k + cntL l
end
/-- tree.Count -/
def m_count (n : Node) : Option Int := if cntN n < 4611686018427387904 then some (cntN n : Int) else none
end Go.Proofs.Ytnnccbagbgndpaa
