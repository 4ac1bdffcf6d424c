/-
  How the arguments of the laws are read. (Printed by wip/sp/gen.py.)
-/
import Derived.Test.YtnnccbagbgndpaaRows
import Derived.Test.YtnnccbagbgndpaaRow
import Derived.Test.YtnnccbagbgndpaaTy
import Derived.Test.YtnnccbagbgndpaaReadN
set_option linter.unusedVariables false
set_option linter.unusedSimpArgs false
namespace Go.Proofs.Ytnnccbagbgndpaa
open Go.ChangeShapes Go.WideShapes Go.ChangeAt Go.RowKit
theorem own_ : ownKnob Try.prog.godebug = none := by kernel_rfl
theorem laidOut_ : laidOutB Try.prog = true := by kernel_rfl


end Go.Proofs.Ytnnccbagbgndpaa
