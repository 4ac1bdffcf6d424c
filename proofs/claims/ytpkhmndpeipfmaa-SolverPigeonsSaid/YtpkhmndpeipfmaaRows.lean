/-
  No cell of these rows narrows 'for every input' (looked for: loops, veiled, ifaces, maps, wideKeys, modest, calm, conditions, laid).
  DERIVED. THE GIVEN ROWS OF THIS SEAT. 7 by the template 'for every input the law returns true; each argument reads behind the call as it read before'; 0 by the template 'total and deterministic' (their statements: YtpkhmndpeipfmaaTotals.lean).
  GIVEN WITH THE SEED: the statements are not yours to turn. If you find one false, say at which input.
  Laid BY PROGRAM, IN A SANDBOX (cutbox-rows.mjs): the forced cells as the released guide's own fill.sh prints them over the translation dbfb26cdcc5a9a6e… (all of the seat's roots in one cut). By AI agents, Wed Nov 11 2026. No macro, syntax, notation, axiom, sorry.
-/
import Derived.Test.YtpkhmndpeipfmaaChecked
import GoSem.Claim
import GoSem.ClaimJoined
import GoSem.ClaimMapViews
import Derived.JoinedTies
import Derived.KernelRfl
namespace Go.Proofs.Ytpkhmndpeipfmaa
/- THE CELL 'sum', in the pinned program and in every row, IS THE sha256 OF THE DUMP (.gsa) THAT YtpkhmndpeipfmaaProg.lean LOADS. Nothing in Lean hashes anything: it is a label: what it is worth is what the hold of that sum in a sandbox is worth. -/
noncomputable def Try.pinned : Pinned := { name := "ytpkhmndpeipfmaa", sum := "dbfb26cdcc5a9a6ee1be613bce02842c1d4b86a44e8ca29a2b9b16513a4d9492", checked := Try.checked }
namespace Rows
def none {H : Type} : Left H := { results := [], args := [] }

/-- 'assessorlaw28.SolverAnswers': WHATEVER THE INPUT: true; the input reads as it did. -/
def solverAnswersSpec : ChangeSpec := { name := "solverAnswers", fn := fun _ => fun
  | [d1, d2, d3] => { results := [.lit (.bool true)], args := [d1, d2, d3] }
  | _ => none }
def solverAnswersRow : OpenClaim := { program := "ytpkhmndpeipfmaa", sum := "dbfb26cdcc5a9a6ee1be613bce02842c1d4b86a44e8ca29a2b9b16513a4d9492", func := "assessor/assessorlaw28.SolverAnswers", spec := "solverAnswers", unfollowed := true, recurses := true, apart := false }
def SolverAnswersSaid : Prop := solverAnswersRow.holds Try.pinned (OpenSpec.ofChange solverAnswersSpec)

/-- ITS FALSE NEIGHBOUR: 'it returns false'. Refute it at one input. -/
def solverAnswersWrong : ChangeSpec := { name := "solverAnswers", fn := fun _ => fun
  | [d1, d2, d3] => { results := [.lit (.bool false)], args := [d1, d2, d3] }
  | _ => none }
def SolverAnswersWrongFalsely : Prop := solverAnswersRow.holds Try.pinned (OpenSpec.ofChange solverAnswersWrong)

/-- 'assessorlaw28.SolverDecides': WHATEVER THE INPUT: true; the input reads as it did. -/
def solverDecidesSpec : ChangeSpec := { name := "solverDecides", fn := fun _ => fun
  | [d1, d2] => { results := [.lit (.bool true)], args := [d1, d2] }
  | _ => none }
def solverDecidesRow : OpenClaim := { program := "ytpkhmndpeipfmaa", sum := "dbfb26cdcc5a9a6ee1be613bce02842c1d4b86a44e8ca29a2b9b16513a4d9492", func := "assessor/assessorlaw28.SolverDecides", spec := "solverDecides", unfollowed := true, recurses := true, apart := false }
def SolverDecidesSaid : Prop := solverDecidesRow.holds Try.pinned (OpenSpec.ofChange solverDecidesSpec)

/-- ITS FALSE NEIGHBOUR: 'it returns false'. Refute it at one input. -/
def solverDecidesWrong : ChangeSpec := { name := "solverDecides", fn := fun _ => fun
  | [d1, d2] => { results := [.lit (.bool false)], args := [d1, d2] }
  | _ => none }
def SolverDecidesWrongFalsely : Prop := solverDecidesRow.holds Try.pinned (OpenSpec.ofChange solverDecidesWrong)

/-- 'assessorlaw28.SolverLeast': WHATEVER THE INPUT: true; the input reads as it did. -/
def solverLeastSpec : ChangeSpec := { name := "solverLeast", fn := fun _ => fun
  | [d1, d2, d3] => { results := [.lit (.bool true)], args := [d1, d2, d3] }
  | _ => none }
def solverLeastRow : OpenClaim := { program := "ytpkhmndpeipfmaa", sum := "dbfb26cdcc5a9a6ee1be613bce02842c1d4b86a44e8ca29a2b9b16513a4d9492", func := "assessor/assessorlaw28.SolverLeast", spec := "solverLeast", unfollowed := true, recurses := true, apart := false }
def SolverLeastSaid : Prop := solverLeastRow.holds Try.pinned (OpenSpec.ofChange solverLeastSpec)

/-- ITS FALSE NEIGHBOUR: 'it returns false'. Refute it at one input. -/
def solverLeastWrong : ChangeSpec := { name := "solverLeast", fn := fun _ => fun
  | [d1, d2, d3] => { results := [.lit (.bool false)], args := [d1, d2, d3] }
  | _ => none }
def SolverLeastWrongFalsely : Prop := solverLeastRow.holds Try.pinned (OpenSpec.ofChange solverLeastWrong)

/-- 'assessorlaw28.SolverSame': WHATEVER THE INPUT: true; the input reads as it did. -/
def solverSameSpec : ChangeSpec := { name := "solverSame", fn := fun _ => fun
  | [d1, d2, d3, d4] => { results := [.lit (.bool true)], args := [d1, d2, d3, d4] }
  | _ => none }
def solverSameRow : OpenClaim := { program := "ytpkhmndpeipfmaa", sum := "dbfb26cdcc5a9a6ee1be613bce02842c1d4b86a44e8ca29a2b9b16513a4d9492", func := "assessor/assessorlaw28.SolverSame", spec := "solverSame", unfollowed := true, recurses := true, apart := false }
def SolverSameSaid : Prop := solverSameRow.holds Try.pinned (OpenSpec.ofChange solverSameSpec)

/-- ITS FALSE NEIGHBOUR: 'it returns false'. Refute it at one input. -/
def solverSameWrong : ChangeSpec := { name := "solverSame", fn := fun _ => fun
  | [d1, d2, d3, d4] => { results := [.lit (.bool false)], args := [d1, d2, d3, d4] }
  | _ => none }
def SolverSameWrongFalsely : Prop := solverSameRow.holds Try.pinned (OpenSpec.ofChange solverSameWrong)

/-- 'assessorlaw28.SolverCounts': WHATEVER THE INPUT: true; the input reads as it did. -/
def solverCountsSpec : ChangeSpec := { name := "solverCounts", fn := fun _ => fun
  | [d] => { results := [.lit (.bool true)], args := [d] }
  | _ => none }
def solverCountsRow : OpenClaim := { program := "ytpkhmndpeipfmaa", sum := "dbfb26cdcc5a9a6ee1be613bce02842c1d4b86a44e8ca29a2b9b16513a4d9492", func := "assessor/assessorlaw28.SolverCounts", spec := "solverCounts", unfollowed := true, recurses := true, apart := false }
def SolverCountsSaid : Prop := solverCountsRow.holds Try.pinned (OpenSpec.ofChange solverCountsSpec)

/-- ITS FALSE NEIGHBOUR: 'it returns false'. Refute it at one input. -/
def solverCountsWrong : ChangeSpec := { name := "solverCounts", fn := fun _ => fun
  | [d] => { results := [.lit (.bool false)], args := [d] }
  | _ => none }
def SolverCountsWrongFalsely : Prop := solverCountsRow.holds Try.pinned (OpenSpec.ofChange solverCountsWrong)

/-- 'assessorlaw28.SolverPigeons': WHATEVER THE INPUT: true; the input reads as it did. -/
def solverPigeonsSpec : ChangeSpec := { name := "solverPigeons", fn := fun _ => fun
  | [d1, d2, d3] => { results := [.lit (.bool true)], args := [d1, d2, d3] }
  | _ => none }
def solverPigeonsRow : OpenClaim := { program := "ytpkhmndpeipfmaa", sum := "dbfb26cdcc5a9a6ee1be613bce02842c1d4b86a44e8ca29a2b9b16513a4d9492", func := "assessor/assessorlaw28.SolverPigeons", spec := "solverPigeons", unfollowed := true, recurses := true, apart := false }
def SolverPigeonsSaid : Prop := solverPigeonsRow.holds Try.pinned (OpenSpec.ofChange solverPigeonsSpec)

/-- ITS FALSE NEIGHBOUR: 'it returns false'. Refute it at one input. -/
def solverPigeonsWrong : ChangeSpec := { name := "solverPigeons", fn := fun _ => fun
  | [d1, d2, d3] => { results := [.lit (.bool false)], args := [d1, d2, d3] }
  | _ => none }
def SolverPigeonsWrongFalsely : Prop := solverPigeonsRow.holds Try.pinned (OpenSpec.ofChange solverPigeonsWrong)

/-- 'assessorlaw28.SolverAssumes': WHATEVER THE INPUT: true; the input reads as it did. -/
def solverAssumesSpec : ChangeSpec := { name := "solverAssumes", fn := fun _ => fun
  | [d1, d2] => { results := [.lit (.bool true)], args := [d1, d2] }
  | _ => none }
def solverAssumesRow : OpenClaim := { program := "ytpkhmndpeipfmaa", sum := "dbfb26cdcc5a9a6ee1be613bce02842c1d4b86a44e8ca29a2b9b16513a4d9492", func := "assessor/assessorlaw28.SolverAssumes", spec := "solverAssumes", unfollowed := true, recurses := true, apart := false }
def SolverAssumesSaid : Prop := solverAssumesRow.holds Try.pinned (OpenSpec.ofChange solverAssumesSpec)

/-- ITS FALSE NEIGHBOUR: 'it returns false'. Refute it at one input. -/
def solverAssumesWrong : ChangeSpec := { name := "solverAssumes", fn := fun _ => fun
  | [d1, d2] => { results := [.lit (.bool false)], args := [d1, d2] }
  | _ => none }
def SolverAssumesWrongFalsely : Prop := solverAssumesRow.holds Try.pinned (OpenSpec.ofChange solverAssumesWrong)

/- THE SECOND FORM. 'bulk': how many values and letters a reading holds, each counted each time it is reached (what is shared counts as often as it is met; a slice's spare places count too). A statement '..UptoSaid' is the law's where the arguments, and the package variables that the reading takes, are together of bulk at most 1048576: NARROWER than '..Said'. Prove '..Said' where nothing that the law and all that it calls make is longer than what came in: it says more and counts as full. Else prove '..UptoSaid'. A law counts once. -/
mutual
def uptoBulk {H : Type} : DataW H → Nat
  | .lit (.string bytes) => bytes.length + 1
  | .lit _ => 1
  | .nil => 1
  | .ptr d => uptoBulk d + 1
  | .slice elems spare => uptoBulkAll elems + uptoBulkAll spare + 1
  | .agg parts => uptoBulkAll parts + 1
  | .iface _ d => uptoBulk d + 1
  | .map entries => uptoBulkEntries entries + 1
  | .held _ => 1
def uptoBulkAll {H : Type} : List (DataW H) → Nat
  | [] => 0
  | d :: r => uptoBulk d + uptoBulkAll r
def uptoBulkEntries {H : Type} : List (Lit × DataW H) → Nat
  | [] => 0
  | x :: r => uptoBulkEntry x + uptoBulkEntries r
def uptoBulkEntry {H : Type} : Lit × DataW H → Nat
  | (.string bytes, d) => bytes.length + uptoBulk d + 1
  | (_, d) => uptoBulk d + 1
 end
def uptoSmall : (H : Type) → List (DataW H) → Bool := fun _ ds => decide (uptoBulkAll ds ≤ 1048576)
def OpenSpec.upto (s : _root_.Go.ChangeSpec) : _root_.Go.OpenSpec := { _root_.Go.OpenSpec.ofChange s with cond := some uptoSmall }

/-- 'assessorlaw28.SolverAnswers', WHERE WHAT IT READS IS OF BULK AT MOST 1048576: true; the input reads as it did. -/
def solverAnswersUptoRow : OpenClaim := { program := "ytpkhmndpeipfmaa", sum := "dbfb26cdcc5a9a6ee1be613bce02842c1d4b86a44e8ca29a2b9b16513a4d9492", func := "assessor/assessorlaw28.SolverAnswers", spec := "solverAnswers", unfollowed := true, recurses := true, apart := false, narrowed := true }
def SolverAnswersUptoSaid : Prop := solverAnswersUptoRow.holds Try.pinned (OpenSpec.upto solverAnswersSpec)

/-- 'assessorlaw28.SolverDecides', WHERE WHAT IT READS IS OF BULK AT MOST 1048576: true; the input reads as it did. -/
def solverDecidesUptoRow : OpenClaim := { program := "ytpkhmndpeipfmaa", sum := "dbfb26cdcc5a9a6ee1be613bce02842c1d4b86a44e8ca29a2b9b16513a4d9492", func := "assessor/assessorlaw28.SolverDecides", spec := "solverDecides", unfollowed := true, recurses := true, apart := false, narrowed := true }
def SolverDecidesUptoSaid : Prop := solverDecidesUptoRow.holds Try.pinned (OpenSpec.upto solverDecidesSpec)

/-- 'assessorlaw28.SolverLeast', WHERE WHAT IT READS IS OF BULK AT MOST 1048576: true; the input reads as it did. -/
def solverLeastUptoRow : OpenClaim := { program := "ytpkhmndpeipfmaa", sum := "dbfb26cdcc5a9a6ee1be613bce02842c1d4b86a44e8ca29a2b9b16513a4d9492", func := "assessor/assessorlaw28.SolverLeast", spec := "solverLeast", unfollowed := true, recurses := true, apart := false, narrowed := true }
def SolverLeastUptoSaid : Prop := solverLeastUptoRow.holds Try.pinned (OpenSpec.upto solverLeastSpec)

/-- 'assessorlaw28.SolverSame', WHERE WHAT IT READS IS OF BULK AT MOST 1048576: true; the input reads as it did. -/
def solverSameUptoRow : OpenClaim := { program := "ytpkhmndpeipfmaa", sum := "dbfb26cdcc5a9a6ee1be613bce02842c1d4b86a44e8ca29a2b9b16513a4d9492", func := "assessor/assessorlaw28.SolverSame", spec := "solverSame", unfollowed := true, recurses := true, apart := false, narrowed := true }
def SolverSameUptoSaid : Prop := solverSameUptoRow.holds Try.pinned (OpenSpec.upto solverSameSpec)

/-- 'assessorlaw28.SolverCounts', WHERE WHAT IT READS IS OF BULK AT MOST 1048576: true; the input reads as it did. -/
def solverCountsUptoRow : OpenClaim := { program := "ytpkhmndpeipfmaa", sum := "dbfb26cdcc5a9a6ee1be613bce02842c1d4b86a44e8ca29a2b9b16513a4d9492", func := "assessor/assessorlaw28.SolverCounts", spec := "solverCounts", unfollowed := true, recurses := true, apart := false, narrowed := true }
def SolverCountsUptoSaid : Prop := solverCountsUptoRow.holds Try.pinned (OpenSpec.upto solverCountsSpec)

/-- 'assessorlaw28.SolverPigeons', WHERE WHAT IT READS IS OF BULK AT MOST 1048576: true; the input reads as it did. -/
def solverPigeonsUptoRow : OpenClaim := { program := "ytpkhmndpeipfmaa", sum := "dbfb26cdcc5a9a6ee1be613bce02842c1d4b86a44e8ca29a2b9b16513a4d9492", func := "assessor/assessorlaw28.SolverPigeons", spec := "solverPigeons", unfollowed := true, recurses := true, apart := false, narrowed := true }
def SolverPigeonsUptoSaid : Prop := solverPigeonsUptoRow.holds Try.pinned (OpenSpec.upto solverPigeonsSpec)

/-- 'assessorlaw28.SolverAssumes', WHERE WHAT IT READS IS OF BULK AT MOST 1048576: true; the input reads as it did. -/
def solverAssumesUptoRow : OpenClaim := { program := "ytpkhmndpeipfmaa", sum := "dbfb26cdcc5a9a6ee1be613bce02842c1d4b86a44e8ca29a2b9b16513a4d9492", func := "assessor/assessorlaw28.SolverAssumes", spec := "solverAssumes", unfollowed := true, recurses := true, apart := false, narrowed := true }
def SolverAssumesUptoSaid : Prop := solverAssumesUptoRow.holds Try.pinned (OpenSpec.upto solverAssumesSpec)

end Rows
end Go.Proofs.Ytpkhmndpeipfmaa
