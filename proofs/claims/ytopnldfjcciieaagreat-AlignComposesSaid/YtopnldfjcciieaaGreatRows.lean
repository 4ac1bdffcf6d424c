/-
  NARROWER THAN 'FOR EVERY INPUT', by the rows' own cells (each row's printed sentence says how): AlignForm: loops · AlignLeast: loops · AlignChanges: loops · AlignInverts: loops · AlignComposes: loops · AlignApplies: loops · AlignUndoes: loops.
  DERIVED. THE GIVEN ROWS OF THIS SEAT. 7 by the template 'for every input the law returns true; each argument reads behind the call as it read before'; 0 by the template 'total and deterministic' (their statements: YtopnldfjcciieaaGreatTotals.lean).
  GIVEN WITH THE SEED: the statements are not yours to turn. If you find one false, say at which input.
  Laid BY PROGRAM, IN A SANDBOX (cutbox-rows.mjs): the forced cells as the released guide's own fill.sh prints them over the translation ce2add4b33e4b882… (all of the seat's roots in one cut). By AI agents, Wed Nov 11 2026. No macro, syntax, notation, axiom, sorry.
-/
import Derived.Test.YtopnldfjcciieaaGreatChecked
import GoSem.Claim
import GoSem.ClaimJoined
import GoSem.ClaimMapViews
import Derived.JoinedTies
import Derived.KernelRfl
namespace Go.Proofs.YtopnldfjcciieaaGreat
/- THE CELL 'sum', in the pinned program and in every row, IS THE sha256 OF THE DUMP (.gsa) THAT YtopnldfjcciieaaGreatProg.lean LOADS. Nothing in Lean hashes anything: it is a label: what it is worth is what the hold of that sum in a sandbox is worth. -/
noncomputable def Tryz.pinned : Pinned := { name := "ytopnldfjcciieaagreat", sum := "ce2add4b33e4b882bccb54f67214f771eeb1606163263ea323dbccf34cc5a40b", checked := Tryz.checked }
namespace Rows
def none {H : Type} : Left H := { results := [], args := [] }

/-- 'assessorlaw38.AlignForm': WHATEVER THE INPUT: true; the input reads as it did. -/
def alignFormSpec : ChangeSpec := { name := "alignForm", fn := fun _ => fun
  | [d1, d2, d3, d4] => { results := [.lit (.bool true)], args := [d1, d2, d3, d4] }
  | _ => none }
def alignFormRow : OpenClaim := { program := "ytopnldfjcciieaagreat", sum := "ce2add4b33e4b882bccb54f67214f771eeb1606163263ea323dbccf34cc5a40b", func := "assessor/assessorlaw38.AlignForm", spec := "alignForm", inPlace := ["slices.overlaps[assessor/api.Node]"], unfollowed := true, recurses := true, loops := true, apart := false }
def AlignFormSaid : Prop := alignFormRow.holds Tryz.pinned (OpenSpec.ofChange alignFormSpec)

/-- ITS FALSE NEIGHBOUR: 'it returns false'. Refute it at one input. -/
def alignFormWrong : ChangeSpec := { name := "alignForm", fn := fun _ => fun
  | [d1, d2, d3, d4] => { results := [.lit (.bool false)], args := [d1, d2, d3, d4] }
  | _ => none }
def AlignFormWrongFalsely : Prop := alignFormRow.holds Tryz.pinned (OpenSpec.ofChange alignFormWrong)

/-- 'assessorlaw38.AlignLeast': WHATEVER THE INPUT: true; the input reads as it did. -/
def alignLeastSpec : ChangeSpec := { name := "alignLeast", fn := fun _ => fun
  | [d1, d2] => { results := [.lit (.bool true)], args := [d1, d2] }
  | _ => none }
def alignLeastRow : OpenClaim := { program := "ytopnldfjcciieaagreat", sum := "ce2add4b33e4b882bccb54f67214f771eeb1606163263ea323dbccf34cc5a40b", func := "assessor/assessorlaw38.AlignLeast", spec := "alignLeast", inPlace := ["slices.overlaps[assessor/api.Node]"], unfollowed := true, recurses := true, loops := true, apart := false }
def AlignLeastSaid : Prop := alignLeastRow.holds Tryz.pinned (OpenSpec.ofChange alignLeastSpec)

/-- ITS FALSE NEIGHBOUR: 'it returns false'. Refute it at one input. -/
def alignLeastWrong : ChangeSpec := { name := "alignLeast", fn := fun _ => fun
  | [d1, d2] => { results := [.lit (.bool false)], args := [d1, d2] }
  | _ => none }
def AlignLeastWrongFalsely : Prop := alignLeastRow.holds Tryz.pinned (OpenSpec.ofChange alignLeastWrong)

/-- 'assessorlaw38.AlignChanges': WHATEVER THE INPUT: true; the input reads as it did. -/
def alignChangesSpec : ChangeSpec := { name := "alignChanges", fn := fun _ => fun
  | [d1, d2, d3] => { results := [.lit (.bool true)], args := [d1, d2, d3] }
  | _ => none }
def alignChangesRow : OpenClaim := { program := "ytopnldfjcciieaagreat", sum := "ce2add4b33e4b882bccb54f67214f771eeb1606163263ea323dbccf34cc5a40b", func := "assessor/assessorlaw38.AlignChanges", spec := "alignChanges", inPlace := ["slices.overlaps[assessor/api.Node]"], unfollowed := true, recurses := true, loops := true, apart := false }
def AlignChangesSaid : Prop := alignChangesRow.holds Tryz.pinned (OpenSpec.ofChange alignChangesSpec)

/-- ITS FALSE NEIGHBOUR: 'it returns false'. Refute it at one input. -/
def alignChangesWrong : ChangeSpec := { name := "alignChanges", fn := fun _ => fun
  | [d1, d2, d3] => { results := [.lit (.bool false)], args := [d1, d2, d3] }
  | _ => none }
def AlignChangesWrongFalsely : Prop := alignChangesRow.holds Tryz.pinned (OpenSpec.ofChange alignChangesWrong)

/-- 'assessorlaw38.AlignInverts': WHATEVER THE INPUT: true; the input reads as it did. -/
def alignInvertsSpec : ChangeSpec := { name := "alignInverts", fn := fun _ => fun
  | [d1, d2, d3] => { results := [.lit (.bool true)], args := [d1, d2, d3] }
  | _ => none }
def alignInvertsRow : OpenClaim := { program := "ytopnldfjcciieaagreat", sum := "ce2add4b33e4b882bccb54f67214f771eeb1606163263ea323dbccf34cc5a40b", func := "assessor/assessorlaw38.AlignInverts", spec := "alignInverts", inPlace := ["slices.overlaps[assessor/api.Node]"], unfollowed := true, recurses := true, loops := true, apart := false }
def AlignInvertsSaid : Prop := alignInvertsRow.holds Tryz.pinned (OpenSpec.ofChange alignInvertsSpec)

/-- ITS FALSE NEIGHBOUR: 'it returns false'. Refute it at one input. -/
def alignInvertsWrong : ChangeSpec := { name := "alignInverts", fn := fun _ => fun
  | [d1, d2, d3] => { results := [.lit (.bool false)], args := [d1, d2, d3] }
  | _ => none }
def AlignInvertsWrongFalsely : Prop := alignInvertsRow.holds Tryz.pinned (OpenSpec.ofChange alignInvertsWrong)

/-- 'assessorlaw38.AlignComposes': WHATEVER THE INPUT: true; the input reads as it did. -/
def alignComposesSpec : ChangeSpec := { name := "alignComposes", fn := fun _ => fun
  | [d1, d2, d3, d4, d5] => { results := [.lit (.bool true)], args := [d1, d2, d3, d4, d5] }
  | _ => none }
def alignComposesRow : OpenClaim := { program := "ytopnldfjcciieaagreat", sum := "ce2add4b33e4b882bccb54f67214f771eeb1606163263ea323dbccf34cc5a40b", func := "assessor/assessorlaw38.AlignComposes", spec := "alignComposes", inPlace := ["slices.overlaps[assessor/api.Node]"], unfollowed := true, recurses := true, loops := true, apart := false }
def AlignComposesSaid : Prop := alignComposesRow.holds Tryz.pinned (OpenSpec.ofChange alignComposesSpec)

/-- ITS FALSE NEIGHBOUR: 'it returns false'. Refute it at one input. -/
def alignComposesWrong : ChangeSpec := { name := "alignComposes", fn := fun _ => fun
  | [d1, d2, d3, d4, d5] => { results := [.lit (.bool false)], args := [d1, d2, d3, d4, d5] }
  | _ => none }
def AlignComposesWrongFalsely : Prop := alignComposesRow.holds Tryz.pinned (OpenSpec.ofChange alignComposesWrong)

/-- 'assessorlaw38.AlignApplies': WHATEVER THE INPUT: true; the input reads as it did. -/
def alignAppliesSpec : ChangeSpec := { name := "alignApplies", fn := fun _ => fun
  | [d1, d2] => { results := [.lit (.bool true)], args := [d1, d2] }
  | _ => none }
def alignAppliesRow : OpenClaim := { program := "ytopnldfjcciieaagreat", sum := "ce2add4b33e4b882bccb54f67214f771eeb1606163263ea323dbccf34cc5a40b", func := "assessor/assessorlaw38.AlignApplies", spec := "alignApplies", inPlace := ["slices.overlaps[assessor/api.Node]"], unfollowed := true, recurses := true, loops := true, apart := false }
def AlignAppliesSaid : Prop := alignAppliesRow.holds Tryz.pinned (OpenSpec.ofChange alignAppliesSpec)

/-- ITS FALSE NEIGHBOUR: 'it returns false'. Refute it at one input. -/
def alignAppliesWrong : ChangeSpec := { name := "alignApplies", fn := fun _ => fun
  | [d1, d2] => { results := [.lit (.bool false)], args := [d1, d2] }
  | _ => none }
def AlignAppliesWrongFalsely : Prop := alignAppliesRow.holds Tryz.pinned (OpenSpec.ofChange alignAppliesWrong)

/-- 'assessorlaw38.AlignUndoes': WHATEVER THE INPUT: true; the input reads as it did. -/
def alignUndoesSpec : ChangeSpec := { name := "alignUndoes", fn := fun _ => fun
  | [d1, d2] => { results := [.lit (.bool true)], args := [d1, d2] }
  | _ => none }
def alignUndoesRow : OpenClaim := { program := "ytopnldfjcciieaagreat", sum := "ce2add4b33e4b882bccb54f67214f771eeb1606163263ea323dbccf34cc5a40b", func := "assessor/assessorlaw38.AlignUndoes", spec := "alignUndoes", inPlace := ["slices.overlaps[assessor/api.Node]"], unfollowed := true, recurses := true, loops := true, apart := false }
def AlignUndoesSaid : Prop := alignUndoesRow.holds Tryz.pinned (OpenSpec.ofChange alignUndoesSpec)

/-- ITS FALSE NEIGHBOUR: 'it returns false'. Refute it at one input. -/
def alignUndoesWrong : ChangeSpec := { name := "alignUndoes", fn := fun _ => fun
  | [d1, d2] => { results := [.lit (.bool false)], args := [d1, d2] }
  | _ => none }
def AlignUndoesWrongFalsely : Prop := alignUndoesRow.holds Tryz.pinned (OpenSpec.ofChange alignUndoesWrong)

/- THE SECOND FORM. 'bulk': how many values and letters a reading holds, each counted each time it is reached (what is shared counts as often as it is met; a slice's spare places count too). A statement '..UptoSaid' is the law's where the arguments, and the package variables that the reading takes, are together of bulk at most 1048576: NARROWER than '..Said'. Prove '..Said' where nothing that the law and all that it calls make is longer than what came in: it says more and counts as full. Else prove '..UptoSaid'. A law counts once. -/
mutual
def uptoBulk {H : Type} : DataW H → Nat
  | .lit (.string bytes) => bytes.length + 1
  | .lit _ => 1
  | .nil => 1
  | .ptr d => uptoBulk d + 1
  | .slice elems spare => uptoBulkAll elems + uptoBulkAll spare + 1
  | .agg parts => uptoBulkAll parts + 1
  | .iface _ d => uptoBulk d + 1
  | .map entries => uptoBulkEntries entries + 1
  | .held _ => 1
def uptoBulkAll {H : Type} : List (DataW H) → Nat
  | [] => 0
  | d :: r => uptoBulk d + uptoBulkAll r
def uptoBulkEntries {H : Type} : List (Lit × DataW H) → Nat
  | [] => 0
  | x :: r => uptoBulkEntry x + uptoBulkEntries r
def uptoBulkEntry {H : Type} : Lit × DataW H → Nat
  | (.string bytes, d) => bytes.length + uptoBulk d + 1
  | (_, d) => uptoBulk d + 1
 end
def uptoSmall : (H : Type) → List (DataW H) → Bool := fun _ ds => decide (uptoBulkAll ds ≤ 1048576)
def OpenSpec.upto (s : _root_.Go.ChangeSpec) : _root_.Go.OpenSpec := { _root_.Go.OpenSpec.ofChange s with cond := some uptoSmall }

/-- 'assessorlaw38.AlignForm', WHERE WHAT IT READS IS OF BULK AT MOST 1048576: true; the input reads as it did. -/
def alignFormUptoRow : OpenClaim := { program := "ytopnldfjcciieaagreat", sum := "ce2add4b33e4b882bccb54f67214f771eeb1606163263ea323dbccf34cc5a40b", func := "assessor/assessorlaw38.AlignForm", spec := "alignForm", inPlace := ["slices.overlaps[assessor/api.Node]"], unfollowed := true, recurses := true, loops := true, apart := false, narrowed := true }
def AlignFormUptoSaid : Prop := alignFormUptoRow.holds Tryz.pinned (OpenSpec.upto alignFormSpec)

/-- 'assessorlaw38.AlignLeast', WHERE WHAT IT READS IS OF BULK AT MOST 1048576: true; the input reads as it did. -/
def alignLeastUptoRow : OpenClaim := { program := "ytopnldfjcciieaagreat", sum := "ce2add4b33e4b882bccb54f67214f771eeb1606163263ea323dbccf34cc5a40b", func := "assessor/assessorlaw38.AlignLeast", spec := "alignLeast", inPlace := ["slices.overlaps[assessor/api.Node]"], unfollowed := true, recurses := true, loops := true, apart := false, narrowed := true }
def AlignLeastUptoSaid : Prop := alignLeastUptoRow.holds Tryz.pinned (OpenSpec.upto alignLeastSpec)

/-- 'assessorlaw38.AlignChanges', WHERE WHAT IT READS IS OF BULK AT MOST 1048576: true; the input reads as it did. -/
def alignChangesUptoRow : OpenClaim := { program := "ytopnldfjcciieaagreat", sum := "ce2add4b33e4b882bccb54f67214f771eeb1606163263ea323dbccf34cc5a40b", func := "assessor/assessorlaw38.AlignChanges", spec := "alignChanges", inPlace := ["slices.overlaps[assessor/api.Node]"], unfollowed := true, recurses := true, loops := true, apart := false, narrowed := true }
def AlignChangesUptoSaid : Prop := alignChangesUptoRow.holds Tryz.pinned (OpenSpec.upto alignChangesSpec)

/-- 'assessorlaw38.AlignInverts', WHERE WHAT IT READS IS OF BULK AT MOST 1048576: true; the input reads as it did. -/
def alignInvertsUptoRow : OpenClaim := { program := "ytopnldfjcciieaagreat", sum := "ce2add4b33e4b882bccb54f67214f771eeb1606163263ea323dbccf34cc5a40b", func := "assessor/assessorlaw38.AlignInverts", spec := "alignInverts", inPlace := ["slices.overlaps[assessor/api.Node]"], unfollowed := true, recurses := true, loops := true, apart := false, narrowed := true }
def AlignInvertsUptoSaid : Prop := alignInvertsUptoRow.holds Tryz.pinned (OpenSpec.upto alignInvertsSpec)

/-- 'assessorlaw38.AlignComposes', WHERE WHAT IT READS IS OF BULK AT MOST 1048576: true; the input reads as it did. -/
def alignComposesUptoRow : OpenClaim := { program := "ytopnldfjcciieaagreat", sum := "ce2add4b33e4b882bccb54f67214f771eeb1606163263ea323dbccf34cc5a40b", func := "assessor/assessorlaw38.AlignComposes", spec := "alignComposes", inPlace := ["slices.overlaps[assessor/api.Node]"], unfollowed := true, recurses := true, loops := true, apart := false, narrowed := true }
def AlignComposesUptoSaid : Prop := alignComposesUptoRow.holds Tryz.pinned (OpenSpec.upto alignComposesSpec)

/-- 'assessorlaw38.AlignApplies', WHERE WHAT IT READS IS OF BULK AT MOST 1048576: true; the input reads as it did. -/
def alignAppliesUptoRow : OpenClaim := { program := "ytopnldfjcciieaagreat", sum := "ce2add4b33e4b882bccb54f67214f771eeb1606163263ea323dbccf34cc5a40b", func := "assessor/assessorlaw38.AlignApplies", spec := "alignApplies", inPlace := ["slices.overlaps[assessor/api.Node]"], unfollowed := true, recurses := true, loops := true, apart := false, narrowed := true }
def AlignAppliesUptoSaid : Prop := alignAppliesUptoRow.holds Tryz.pinned (OpenSpec.upto alignAppliesSpec)

/-- 'assessorlaw38.AlignUndoes', WHERE WHAT IT READS IS OF BULK AT MOST 1048576: true; the input reads as it did. -/
def alignUndoesUptoRow : OpenClaim := { program := "ytopnldfjcciieaagreat", sum := "ce2add4b33e4b882bccb54f67214f771eeb1606163263ea323dbccf34cc5a40b", func := "assessor/assessorlaw38.AlignUndoes", spec := "alignUndoes", inPlace := ["slices.overlaps[assessor/api.Node]"], unfollowed := true, recurses := true, loops := true, apart := false, narrowed := true }
def AlignUndoesUptoSaid : Prop := alignUndoesUptoRow.holds Tryz.pinned (OpenSpec.upto alignUndoesSpec)

end Rows
end Go.Proofs.YtopnldfjcciieaaGreat
