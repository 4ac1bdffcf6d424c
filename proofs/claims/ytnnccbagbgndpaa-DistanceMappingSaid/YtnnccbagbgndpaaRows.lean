/-
  NARROWER THAN 'FOR EVERY INPUT', by the rows' own cells (each row's printed sentence says how): DistanceForm: loops · DistanceMapping: loops · DistanceMetric: loops · DistanceBounds: loops · DistanceReplaces: loops · DistanceLists: loops · DistanceLimit: loops.
  DERIVED. THE GIVEN ROWS OF THIS SEAT. 7 by the template 'for every input the law returns true; each argument reads behind the call as it read before'; 0 by the template 'total and deterministic' (their statements: YtnnccbagbgndpaaTotals.lean).
  GIVEN WITH THE SEED: the statements are not yours to turn. If you find one false, say at which input.
  Laid BY PROGRAM, IN A SANDBOX (cutbox-rows.mjs): the forced cells as the released guide's own fill.sh prints them over the translation f29b64b4a49435e3… (all of the seat's roots in one cut). By AI agents, Wed Nov 11 2026. No macro, syntax, notation, axiom, sorry.
-/
import Derived.Test.YtnnccbagbgndpaaChecked
import GoSem.Claim
import GoSem.ClaimJoined
import GoSem.ClaimMapViews
import Derived.JoinedTies
import Derived.KernelRfl
namespace Go.Proofs.Ytnnccbagbgndpaa
/- THE CELL 'sum', in the pinned program and in every row, IS THE sha256 OF THE DUMP (.gsa) THAT YtnnccbagbgndpaaProg.lean LOADS. Nothing in Lean hashes anything: it is a label: what it is worth is what the hold of that sum in a sandbox is worth. -/
noncomputable def Try.pinned : Pinned := { name := "ytnnccbagbgndpaa", sum := "f29b64b4a49435e32232c387461dbee356813ab969fb789a038d2b5d8e27a935", checked := Try.checked }
namespace Rows
def none {H : Type} : Left H := { results := [], args := [] }

/-- 'assessorlaw37.DistanceForm': WHATEVER THE INPUT: true; the input reads as it did. -/
def distanceFormSpec : ChangeSpec := { name := "distanceForm", fn := fun _ => fun
  | [d1, d2] => { results := [.lit (.bool true)], args := [d1, d2] }
  | _ => none }
def distanceFormRow : OpenClaim := { program := "ytnnccbagbgndpaa", sum := "f29b64b4a49435e32232c387461dbee356813ab969fb789a038d2b5d8e27a935", func := "assessor/assessorlaw37.DistanceForm", spec := "distanceForm", unfollowed := true, recurses := true, loops := true, plainKeys := false, apart := false }
def DistanceFormSaid : Prop := distanceFormRow.holds Try.pinned (OpenSpec.ofChange distanceFormSpec)

/-- ITS FALSE NEIGHBOUR: 'it returns false'. Refute it at one input. -/
def distanceFormWrong : ChangeSpec := { name := "distanceForm", fn := fun _ => fun
  | [d1, d2] => { results := [.lit (.bool false)], args := [d1, d2] }
  | _ => none }
def DistanceFormWrongFalsely : Prop := distanceFormRow.holds Try.pinned (OpenSpec.ofChange distanceFormWrong)

/-- 'assessorlaw37.DistanceMapping': WHATEVER THE INPUT: true; the input reads as it did. -/
def distanceMappingSpec : ChangeSpec := { name := "distanceMapping", fn := fun _ => fun
  | [d1, d2] => { results := [.lit (.bool true)], args := [d1, d2] }
  | _ => none }
def distanceMappingRow : OpenClaim := { program := "ytnnccbagbgndpaa", sum := "f29b64b4a49435e32232c387461dbee356813ab969fb789a038d2b5d8e27a935", func := "assessor/assessorlaw37.DistanceMapping", spec := "distanceMapping", unfollowed := true, recurses := true, loops := true, plainKeys := false, apart := false }
def DistanceMappingSaid : Prop := distanceMappingRow.holds Try.pinned (OpenSpec.ofChange distanceMappingSpec)

/-- ITS FALSE NEIGHBOUR: 'it returns false'. Refute it at one input. -/
def distanceMappingWrong : ChangeSpec := { name := "distanceMapping", fn := fun _ => fun
  | [d1, d2] => { results := [.lit (.bool false)], args := [d1, d2] }
  | _ => none }
def DistanceMappingWrongFalsely : Prop := distanceMappingRow.holds Try.pinned (OpenSpec.ofChange distanceMappingWrong)

/-- 'assessorlaw37.DistanceMetric': WHATEVER THE INPUT: true; the input reads as it did. -/
def distanceMetricSpec : ChangeSpec := { name := "distanceMetric", fn := fun _ => fun
  | [d1, d2, d3, d4] => { results := [.lit (.bool true)], args := [d1, d2, d3, d4] }
  | _ => none }
def distanceMetricRow : OpenClaim := { program := "ytnnccbagbgndpaa", sum := "f29b64b4a49435e32232c387461dbee356813ab969fb789a038d2b5d8e27a935", func := "assessor/assessorlaw37.DistanceMetric", spec := "distanceMetric", unfollowed := true, recurses := true, loops := true, plainKeys := false, apart := false }
def DistanceMetricSaid : Prop := distanceMetricRow.holds Try.pinned (OpenSpec.ofChange distanceMetricSpec)

/-- ITS FALSE NEIGHBOUR: 'it returns false'. Refute it at one input. -/
def distanceMetricWrong : ChangeSpec := { name := "distanceMetric", fn := fun _ => fun
  | [d1, d2, d3, d4] => { results := [.lit (.bool false)], args := [d1, d2, d3, d4] }
  | _ => none }
def DistanceMetricWrongFalsely : Prop := distanceMetricRow.holds Try.pinned (OpenSpec.ofChange distanceMetricWrong)

/-- 'assessorlaw37.DistanceBounds': WHATEVER THE INPUT: true; the input reads as it did. -/
def distanceBoundsSpec : ChangeSpec := { name := "distanceBounds", fn := fun _ => fun
  | [d1, d2] => { results := [.lit (.bool true)], args := [d1, d2] }
  | _ => none }
def distanceBoundsRow : OpenClaim := { program := "ytnnccbagbgndpaa", sum := "f29b64b4a49435e32232c387461dbee356813ab969fb789a038d2b5d8e27a935", func := "assessor/assessorlaw37.DistanceBounds", spec := "distanceBounds", unfollowed := true, recurses := true, loops := true, plainKeys := false, apart := false }
def DistanceBoundsSaid : Prop := distanceBoundsRow.holds Try.pinned (OpenSpec.ofChange distanceBoundsSpec)

/-- ITS FALSE NEIGHBOUR: 'it returns false'. Refute it at one input. -/
def distanceBoundsWrong : ChangeSpec := { name := "distanceBounds", fn := fun _ => fun
  | [d1, d2] => { results := [.lit (.bool false)], args := [d1, d2] }
  | _ => none }
def DistanceBoundsWrongFalsely : Prop := distanceBoundsRow.holds Try.pinned (OpenSpec.ofChange distanceBoundsWrong)

/-- 'assessorlaw37.DistanceReplaces': WHATEVER THE INPUT: true; the input reads as it did. -/
def distanceReplacesSpec : ChangeSpec := { name := "distanceReplaces", fn := fun _ => fun
  | [d1, d2, d3, d4] => { results := [.lit (.bool true)], args := [d1, d2, d3, d4] }
  | _ => none }
def distanceReplacesRow : OpenClaim := { program := "ytnnccbagbgndpaa", sum := "f29b64b4a49435e32232c387461dbee356813ab969fb789a038d2b5d8e27a935", func := "assessor/assessorlaw37.DistanceReplaces", spec := "distanceReplaces", unfollowed := true, recurses := true, loops := true, plainKeys := false, apart := false }
def DistanceReplacesSaid : Prop := distanceReplacesRow.holds Try.pinned (OpenSpec.ofChange distanceReplacesSpec)

/-- ITS FALSE NEIGHBOUR: 'it returns false'. Refute it at one input. -/
def distanceReplacesWrong : ChangeSpec := { name := "distanceReplaces", fn := fun _ => fun
  | [d1, d2, d3, d4] => { results := [.lit (.bool false)], args := [d1, d2, d3, d4] }
  | _ => none }
def DistanceReplacesWrongFalsely : Prop := distanceReplacesRow.holds Try.pinned (OpenSpec.ofChange distanceReplacesWrong)

/-- 'assessorlaw37.DistanceLists': WHATEVER THE INPUT: true; the input reads as it did. -/
def distanceListsSpec : ChangeSpec := { name := "distanceLists", fn := fun _ => fun
  | [d1, d2] => { results := [.lit (.bool true)], args := [d1, d2] }
  | _ => none }
def distanceListsRow : OpenClaim := { program := "ytnnccbagbgndpaa", sum := "f29b64b4a49435e32232c387461dbee356813ab969fb789a038d2b5d8e27a935", func := "assessor/assessorlaw37.DistanceLists", spec := "distanceLists", unfollowed := true, recurses := true, loops := true, plainKeys := false, apart := false }
def DistanceListsSaid : Prop := distanceListsRow.holds Try.pinned (OpenSpec.ofChange distanceListsSpec)

/-- ITS FALSE NEIGHBOUR: 'it returns false'. Refute it at one input. -/
def distanceListsWrong : ChangeSpec := { name := "distanceLists", fn := fun _ => fun
  | [d1, d2] => { results := [.lit (.bool false)], args := [d1, d2] }
  | _ => none }
def DistanceListsWrongFalsely : Prop := distanceListsRow.holds Try.pinned (OpenSpec.ofChange distanceListsWrong)

/-- 'assessorlaw37.DistanceLimit': WHATEVER THE INPUT: true; the input reads as it did. -/
def distanceLimitSpec : ChangeSpec := { name := "distanceLimit", fn := fun _ => fun
  | [d1, d2, d3] => { results := [.lit (.bool true)], args := [d1, d2, d3] }
  | _ => none }
def distanceLimitRow : OpenClaim := { program := "ytnnccbagbgndpaa", sum := "f29b64b4a49435e32232c387461dbee356813ab969fb789a038d2b5d8e27a935", func := "assessor/assessorlaw37.DistanceLimit", spec := "distanceLimit", unfollowed := true, recurses := true, loops := true, plainKeys := false, apart := false }
def DistanceLimitSaid : Prop := distanceLimitRow.holds Try.pinned (OpenSpec.ofChange distanceLimitSpec)

/-- ITS FALSE NEIGHBOUR: 'it returns false'. Refute it at one input. -/
def distanceLimitWrong : ChangeSpec := { name := "distanceLimit", fn := fun _ => fun
  | [d1, d2, d3] => { results := [.lit (.bool false)], args := [d1, d2, d3] }
  | _ => none }
def DistanceLimitWrongFalsely : Prop := distanceLimitRow.holds Try.pinned (OpenSpec.ofChange distanceLimitWrong)

/- THE SECOND FORM. 'bulk': how many values and letters a reading holds, each counted each time it is reached (what is shared counts as often as it is met; a slice's spare places count too). A statement '..UptoSaid' is the law's where the arguments, and the package variables that the reading takes, are together of bulk at most 1048576: NARROWER than '..Said'. Prove '..Said' where nothing that the law and all that it calls make is longer than what came in: it says more and counts as full. Else prove '..UptoSaid'. A law counts once. -/
mutual
def uptoBulk {H : Type} : DataW H → Nat
  | .lit (.string bytes) => bytes.length + 1
  | .lit _ => 1
  | .nil => 1
  | .ptr d => uptoBulk d + 1
  | .slice elems spare => uptoBulkAll elems + uptoBulkAll spare + 1
  | .agg parts => uptoBulkAll parts + 1
  | .iface _ d => uptoBulk d + 1
  | .map entries => uptoBulkEntries entries + 1
  | .held _ => 1
def uptoBulkAll {H : Type} : List (DataW H) → Nat
  | [] => 0
  | d :: r => uptoBulk d + uptoBulkAll r
def uptoBulkEntries {H : Type} : List (Lit × DataW H) → Nat
  | [] => 0
  | x :: r => uptoBulkEntry x + uptoBulkEntries r
def uptoBulkEntry {H : Type} : Lit × DataW H → Nat
  | (.string bytes, d) => bytes.length + uptoBulk d + 1
  | (_, d) => uptoBulk d + 1
 end
def uptoSmall : (H : Type) → List (DataW H) → Bool := fun _ ds => decide (uptoBulkAll ds ≤ 1048576)
def OpenSpec.upto (s : _root_.Go.ChangeSpec) : _root_.Go.OpenSpec := { _root_.Go.OpenSpec.ofChange s with cond := some uptoSmall }

/-- 'assessorlaw37.DistanceForm', WHERE WHAT IT READS IS OF BULK AT MOST 1048576: true; the input reads as it did. -/
def distanceFormUptoRow : OpenClaim := { program := "ytnnccbagbgndpaa", sum := "f29b64b4a49435e32232c387461dbee356813ab969fb789a038d2b5d8e27a935", func := "assessor/assessorlaw37.DistanceForm", spec := "distanceForm", unfollowed := true, recurses := true, loops := true, plainKeys := false, apart := false, narrowed := true }
def DistanceFormUptoSaid : Prop := distanceFormUptoRow.holds Try.pinned (OpenSpec.upto distanceFormSpec)

/-- 'assessorlaw37.DistanceMapping', WHERE WHAT IT READS IS OF BULK AT MOST 1048576: true; the input reads as it did. -/
def distanceMappingUptoRow : OpenClaim := { program := "ytnnccbagbgndpaa", sum := "f29b64b4a49435e32232c387461dbee356813ab969fb789a038d2b5d8e27a935", func := "assessor/assessorlaw37.DistanceMapping", spec := "distanceMapping", unfollowed := true, recurses := true, loops := true, plainKeys := false, apart := false, narrowed := true }
def DistanceMappingUptoSaid : Prop := distanceMappingUptoRow.holds Try.pinned (OpenSpec.upto distanceMappingSpec)

/-- 'assessorlaw37.DistanceMetric', WHERE WHAT IT READS IS OF BULK AT MOST 1048576: true; the input reads as it did. -/
def distanceMetricUptoRow : OpenClaim := { program := "ytnnccbagbgndpaa", sum := "f29b64b4a49435e32232c387461dbee356813ab969fb789a038d2b5d8e27a935", func := "assessor/assessorlaw37.DistanceMetric", spec := "distanceMetric", unfollowed := true, recurses := true, loops := true, plainKeys := false, apart := false, narrowed := true }
def DistanceMetricUptoSaid : Prop := distanceMetricUptoRow.holds Try.pinned (OpenSpec.upto distanceMetricSpec)

/-- 'assessorlaw37.DistanceBounds', WHERE WHAT IT READS IS OF BULK AT MOST 1048576: true; the input reads as it did. -/
def distanceBoundsUptoRow : OpenClaim := { program := "ytnnccbagbgndpaa", sum := "f29b64b4a49435e32232c387461dbee356813ab969fb789a038d2b5d8e27a935", func := "assessor/assessorlaw37.DistanceBounds", spec := "distanceBounds", unfollowed := true, recurses := true, loops := true, plainKeys := false, apart := false, narrowed := true }
def DistanceBoundsUptoSaid : Prop := distanceBoundsUptoRow.holds Try.pinned (OpenSpec.upto distanceBoundsSpec)

/-- 'assessorlaw37.DistanceReplaces', WHERE WHAT IT READS IS OF BULK AT MOST 1048576: true; the input reads as it did. -/
def distanceReplacesUptoRow : OpenClaim := { program := "ytnnccbagbgndpaa", sum := "f29b64b4a49435e32232c387461dbee356813ab969fb789a038d2b5d8e27a935", func := "assessor/assessorlaw37.DistanceReplaces", spec := "distanceReplaces", unfollowed := true, recurses := true, loops := true, plainKeys := false, apart := false, narrowed := true }
def DistanceReplacesUptoSaid : Prop := distanceReplacesUptoRow.holds Try.pinned (OpenSpec.upto distanceReplacesSpec)

/-- 'assessorlaw37.DistanceLists', WHERE WHAT IT READS IS OF BULK AT MOST 1048576: true; the input reads as it did. -/
def distanceListsUptoRow : OpenClaim := { program := "ytnnccbagbgndpaa", sum := "f29b64b4a49435e32232c387461dbee356813ab969fb789a038d2b5d8e27a935", func := "assessor/assessorlaw37.DistanceLists", spec := "distanceLists", unfollowed := true, recurses := true, loops := true, plainKeys := false, apart := false, narrowed := true }
def DistanceListsUptoSaid : Prop := distanceListsUptoRow.holds Try.pinned (OpenSpec.upto distanceListsSpec)

/-- 'assessorlaw37.DistanceLimit', WHERE WHAT IT READS IS OF BULK AT MOST 1048576: true; the input reads as it did. -/
def distanceLimitUptoRow : OpenClaim := { program := "ytnnccbagbgndpaa", sum := "f29b64b4a49435e32232c387461dbee356813ab969fb789a038d2b5d8e27a935", func := "assessor/assessorlaw37.DistanceLimit", spec := "distanceLimit", unfollowed := true, recurses := true, loops := true, plainKeys := false, apart := false, narrowed := true }
def DistanceLimitUptoSaid : Prop := distanceLimitUptoRow.holds Try.pinned (OpenSpec.upto distanceLimitSpec)

end Rows
end Go.Proofs.Ytnnccbagbgndpaa
