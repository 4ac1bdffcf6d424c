/-
  No cell of these rows narrows 'for every input' (looked for: loops, veiled, ifaces, maps, wideKeys, modest, calm, conditions, laid).
  DERIVED. THE GIVEN ROWS OF THIS SEAT. 7 by the template 'for every input the law returns true; each argument reads behind the call as it read before'; 0 by the template 'total and deterministic' (their statements: YtmfepkadggigpaaTotals.lean).
  GIVEN WITH THE SEED: the statements are not yours to turn. If you find one false, say at which input.
  Laid BY PROGRAM, IN A SANDBOX (cutbox-rows.mjs): the forced cells as the released guide's own fill.sh prints them over the translation d7a14faf36892f0e… (all of the seat's roots in one cut). By AI agents, Wed Nov 11 2026. No macro, syntax, notation, axiom, sorry.
-/
import Derived.Test.YtmfepkadggigpaaChecked
import GoSem.Claim
import GoSem.ClaimJoined
import GoSem.ClaimMapViews
import Derived.JoinedTies
import Derived.KernelRfl
namespace Go.Proofs.Ytmfepkadggigpaa
/- THE CELL 'sum', in the pinned program and in every row, IS THE sha256 OF THE DUMP (.gsa) THAT YtmfepkadggigpaaProg.lean LOADS. Nothing in Lean hashes anything: it is a label: what it is worth is what the hold of that sum in a sandbox is worth. -/
noncomputable def Try.pinned : Pinned := { name := "ytmfepkadggigpaa", sum := "d7a14faf36892f0edc8a10e1e4c86039e9112fb34349ba2ca9e8ba891efe4fcf", checked := Try.checked }
namespace Rows
def none {H : Type} : Left H := { results := [], args := [] }

/-- 'assessorlaw44.SimilarityCounts': WHATEVER THE INPUT: true; the input reads as it did. -/
def similarityCountsSpec : ChangeSpec := { name := "similarityCounts", fn := fun _ => fun
  | [d1, d2, d3] => { results := [.lit (.bool true)], args := [d1, d2, d3] }
  | _ => none }
def similarityCountsRow : OpenClaim := { program := "ytmfepkadggigpaa", sum := "d7a14faf36892f0edc8a10e1e4c86039e9112fb34349ba2ca9e8ba891efe4fcf", func := "assessor/assessorlaw44.SimilarityCounts", spec := "similarityCounts", unfollowed := true, recurses := true, plainKeys := false, apart := false }
def SimilarityCountsSaid : Prop := similarityCountsRow.holds Try.pinned (OpenSpec.ofChange similarityCountsSpec)

/-- ITS FALSE NEIGHBOUR: 'it returns false'. Refute it at one input. -/
def similarityCountsWrong : ChangeSpec := { name := "similarityCounts", fn := fun _ => fun
  | [d1, d2, d3] => { results := [.lit (.bool false)], args := [d1, d2, d3] }
  | _ => none }
def SimilarityCountsWrongFalsely : Prop := similarityCountsRow.holds Try.pinned (OpenSpec.ofChange similarityCountsWrong)

/-- 'assessorlaw44.SimilarityPairs': WHATEVER THE INPUT: true; the input reads as it did. -/
def similarityPairsSpec : ChangeSpec := { name := "similarityPairs", fn := fun _ => fun
  | [d1, d2, d3] => { results := [.lit (.bool true)], args := [d1, d2, d3] }
  | _ => none }
def similarityPairsRow : OpenClaim := { program := "ytmfepkadggigpaa", sum := "d7a14faf36892f0edc8a10e1e4c86039e9112fb34349ba2ca9e8ba891efe4fcf", func := "assessor/assessorlaw44.SimilarityPairs", spec := "similarityPairs", unfollowed := true, recurses := true, plainKeys := false, apart := false }
def SimilarityPairsSaid : Prop := similarityPairsRow.holds Try.pinned (OpenSpec.ofChange similarityPairsSpec)

/-- ITS FALSE NEIGHBOUR: 'it returns false'. Refute it at one input. -/
def similarityPairsWrong : ChangeSpec := { name := "similarityPairs", fn := fun _ => fun
  | [d1, d2, d3] => { results := [.lit (.bool false)], args := [d1, d2, d3] }
  | _ => none }
def SimilarityPairsWrongFalsely : Prop := similarityPairsRow.holds Try.pinned (OpenSpec.ofChange similarityPairsWrong)

/-- 'assessorlaw44.SimilarityMetric': WHATEVER THE INPUT: true; the input reads as it did. -/
def similarityMetricSpec : ChangeSpec := { name := "similarityMetric", fn := fun _ => fun
  | [d1, d2, d3] => { results := [.lit (.bool true)], args := [d1, d2, d3] }
  | _ => none }
def similarityMetricRow : OpenClaim := { program := "ytmfepkadggigpaa", sum := "d7a14faf36892f0edc8a10e1e4c86039e9112fb34349ba2ca9e8ba891efe4fcf", func := "assessor/assessorlaw44.SimilarityMetric", spec := "similarityMetric", unfollowed := true, recurses := true, plainKeys := false, apart := false }
def SimilarityMetricSaid : Prop := similarityMetricRow.holds Try.pinned (OpenSpec.ofChange similarityMetricSpec)

/-- ITS FALSE NEIGHBOUR: 'it returns false'. Refute it at one input. -/
def similarityMetricWrong : ChangeSpec := { name := "similarityMetric", fn := fun _ => fun
  | [d1, d2, d3] => { results := [.lit (.bool false)], args := [d1, d2, d3] }
  | _ => none }
def SimilarityMetricWrongFalsely : Prop := similarityMetricRow.holds Try.pinned (OpenSpec.ofChange similarityMetricWrong)

/-- 'assessorlaw44.SimilarityClusters': WHATEVER THE INPUT: true; the input reads as it did. -/
def similarityClustersSpec : ChangeSpec := { name := "similarityClusters", fn := fun _ => fun
  | [d1, d2] => { results := [.lit (.bool true)], args := [d1, d2] }
  | _ => none }
def similarityClustersRow : OpenClaim := { program := "ytmfepkadggigpaa", sum := "d7a14faf36892f0edc8a10e1e4c86039e9112fb34349ba2ca9e8ba891efe4fcf", func := "assessor/assessorlaw44.SimilarityClusters", spec := "similarityClusters", unfollowed := true, recurses := true, plainKeys := false, apart := false }
def SimilarityClustersSaid : Prop := similarityClustersRow.holds Try.pinned (OpenSpec.ofChange similarityClustersSpec)

/-- ITS FALSE NEIGHBOUR: 'it returns false'. Refute it at one input. -/
def similarityClustersWrong : ChangeSpec := { name := "similarityClusters", fn := fun _ => fun
  | [d1, d2] => { results := [.lit (.bool false)], args := [d1, d2] }
  | _ => none }
def SimilarityClustersWrongFalsely : Prop := similarityClustersRow.holds Try.pinned (OpenSpec.ofChange similarityClustersWrong)

/-- 'assessorlaw44.SimilarityFiner': WHATEVER THE INPUT: true; the input reads as it did. -/
def similarityFinerSpec : ChangeSpec := { name := "similarityFiner", fn := fun _ => fun
  | [d1, d2, d3] => { results := [.lit (.bool true)], args := [d1, d2, d3] }
  | _ => none }
def similarityFinerRow : OpenClaim := { program := "ytmfepkadggigpaa", sum := "d7a14faf36892f0edc8a10e1e4c86039e9112fb34349ba2ca9e8ba891efe4fcf", func := "assessor/assessorlaw44.SimilarityFiner", spec := "similarityFiner", unfollowed := true, recurses := true, plainKeys := false, apart := false }
def SimilarityFinerSaid : Prop := similarityFinerRow.holds Try.pinned (OpenSpec.ofChange similarityFinerSpec)

/-- ITS FALSE NEIGHBOUR: 'it returns false'. Refute it at one input. -/
def similarityFinerWrong : ChangeSpec := { name := "similarityFiner", fn := fun _ => fun
  | [d1, d2, d3] => { results := [.lit (.bool false)], args := [d1, d2, d3] }
  | _ => none }
def SimilarityFinerWrongFalsely : Prop := similarityFinerRow.holds Try.pinned (OpenSpec.ofChange similarityFinerWrong)

/-- 'assessorlaw44.SimilarityOverlaps': WHATEVER THE INPUT: true; the input reads as it did. -/
def similarityOverlapsSpec : ChangeSpec := { name := "similarityOverlaps", fn := fun _ => fun
  | [d1, d2, d3] => { results := [.lit (.bool true)], args := [d1, d2, d3] }
  | _ => none }
def similarityOverlapsRow : OpenClaim := { program := "ytmfepkadggigpaa", sum := "d7a14faf36892f0edc8a10e1e4c86039e9112fb34349ba2ca9e8ba891efe4fcf", func := "assessor/assessorlaw44.SimilarityOverlaps", spec := "similarityOverlaps", unfollowed := true, recurses := true, plainKeys := false, apart := false }
def SimilarityOverlapsSaid : Prop := similarityOverlapsRow.holds Try.pinned (OpenSpec.ofChange similarityOverlapsSpec)

/-- ITS FALSE NEIGHBOUR: 'it returns false'. Refute it at one input. -/
def similarityOverlapsWrong : ChangeSpec := { name := "similarityOverlaps", fn := fun _ => fun
  | [d1, d2, d3] => { results := [.lit (.bool false)], args := [d1, d2, d3] }
  | _ => none }
def SimilarityOverlapsWrongFalsely : Prop := similarityOverlapsRow.holds Try.pinned (OpenSpec.ofChange similarityOverlapsWrong)

/-- 'assessorlaw44.SimilarityMatches': WHATEVER THE INPUT: true; the input reads as it did. -/
def similarityMatchesSpec : ChangeSpec := { name := "similarityMatches", fn := fun _ => fun
  | [d1, d2, d3] => { results := [.lit (.bool true)], args := [d1, d2, d3] }
  | _ => none }
def similarityMatchesRow : OpenClaim := { program := "ytmfepkadggigpaa", sum := "d7a14faf36892f0edc8a10e1e4c86039e9112fb34349ba2ca9e8ba891efe4fcf", func := "assessor/assessorlaw44.SimilarityMatches", spec := "similarityMatches", unfollowed := true, recurses := true, plainKeys := false, apart := false }
def SimilarityMatchesSaid : Prop := similarityMatchesRow.holds Try.pinned (OpenSpec.ofChange similarityMatchesSpec)

/-- ITS FALSE NEIGHBOUR: 'it returns false'. Refute it at one input. -/
def similarityMatchesWrong : ChangeSpec := { name := "similarityMatches", fn := fun _ => fun
  | [d1, d2, d3] => { results := [.lit (.bool false)], args := [d1, d2, d3] }
  | _ => none }
def SimilarityMatchesWrongFalsely : Prop := similarityMatchesRow.holds Try.pinned (OpenSpec.ofChange similarityMatchesWrong)

/- THE SECOND FORM. 'bulk': how many values and letters a reading holds, each counted each time it is reached (what is shared counts as often as it is met; a slice's spare places count too). A statement '..UptoSaid' is the law's where the arguments, and the package variables that the reading takes, are together of bulk at most 1048576: NARROWER than '..Said'. Prove '..Said' where nothing that the law and all that it calls make is longer than what came in: it says more and counts as full. Else prove '..UptoSaid'. A law counts once. -/
mutual
def uptoBulk {H : Type} : DataW H → Nat
  | .lit (.string bytes) => bytes.length + 1
  | .lit _ => 1
  | .nil => 1
  | .ptr d => uptoBulk d + 1
  | .slice elems spare => uptoBulkAll elems + uptoBulkAll spare + 1
  | .agg parts => uptoBulkAll parts + 1
  | .iface _ d => uptoBulk d + 1
  | .map entries => uptoBulkEntries entries + 1
  | .held _ => 1
def uptoBulkAll {H : Type} : List (DataW H) → Nat
  | [] => 0
  | d :: r => uptoBulk d + uptoBulkAll r
def uptoBulkEntries {H : Type} : List (Lit × DataW H) → Nat
  | [] => 0
  | x :: r => uptoBulkEntry x + uptoBulkEntries r
def uptoBulkEntry {H : Type} : Lit × DataW H → Nat
  | (.string bytes, d) => bytes.length + uptoBulk d + 1
  | (_, d) => uptoBulk d + 1
 end
def uptoSmall : (H : Type) → List (DataW H) → Bool := fun _ ds => decide (uptoBulkAll ds ≤ 1048576)
def OpenSpec.upto (s : _root_.Go.ChangeSpec) : _root_.Go.OpenSpec := { _root_.Go.OpenSpec.ofChange s with cond := some uptoSmall }

/-- 'assessorlaw44.SimilarityCounts', WHERE WHAT IT READS IS OF BULK AT MOST 1048576: true; the input reads as it did. -/
def similarityCountsUptoRow : OpenClaim := { program := "ytmfepkadggigpaa", sum := "d7a14faf36892f0edc8a10e1e4c86039e9112fb34349ba2ca9e8ba891efe4fcf", func := "assessor/assessorlaw44.SimilarityCounts", spec := "similarityCounts", unfollowed := true, recurses := true, plainKeys := false, apart := false, narrowed := true }
def SimilarityCountsUptoSaid : Prop := similarityCountsUptoRow.holds Try.pinned (OpenSpec.upto similarityCountsSpec)

/-- 'assessorlaw44.SimilarityPairs', WHERE WHAT IT READS IS OF BULK AT MOST 1048576: true; the input reads as it did. -/
def similarityPairsUptoRow : OpenClaim := { program := "ytmfepkadggigpaa", sum := "d7a14faf36892f0edc8a10e1e4c86039e9112fb34349ba2ca9e8ba891efe4fcf", func := "assessor/assessorlaw44.SimilarityPairs", spec := "similarityPairs", unfollowed := true, recurses := true, plainKeys := false, apart := false, narrowed := true }
def SimilarityPairsUptoSaid : Prop := similarityPairsUptoRow.holds Try.pinned (OpenSpec.upto similarityPairsSpec)

/-- 'assessorlaw44.SimilarityMetric', WHERE WHAT IT READS IS OF BULK AT MOST 1048576: true; the input reads as it did. -/
def similarityMetricUptoRow : OpenClaim := { program := "ytmfepkadggigpaa", sum := "d7a14faf36892f0edc8a10e1e4c86039e9112fb34349ba2ca9e8ba891efe4fcf", func := "assessor/assessorlaw44.SimilarityMetric", spec := "similarityMetric", unfollowed := true, recurses := true, plainKeys := false, apart := false, narrowed := true }
def SimilarityMetricUptoSaid : Prop := similarityMetricUptoRow.holds Try.pinned (OpenSpec.upto similarityMetricSpec)

/-- 'assessorlaw44.SimilarityClusters', WHERE WHAT IT READS IS OF BULK AT MOST 1048576: true; the input reads as it did. -/
def similarityClustersUptoRow : OpenClaim := { program := "ytmfepkadggigpaa", sum := "d7a14faf36892f0edc8a10e1e4c86039e9112fb34349ba2ca9e8ba891efe4fcf", func := "assessor/assessorlaw44.SimilarityClusters", spec := "similarityClusters", unfollowed := true, recurses := true, plainKeys := false, apart := false, narrowed := true }
def SimilarityClustersUptoSaid : Prop := similarityClustersUptoRow.holds Try.pinned (OpenSpec.upto similarityClustersSpec)

/-- 'assessorlaw44.SimilarityFiner', WHERE WHAT IT READS IS OF BULK AT MOST 1048576: true; the input reads as it did. -/
def similarityFinerUptoRow : OpenClaim := { program := "ytmfepkadggigpaa", sum := "d7a14faf36892f0edc8a10e1e4c86039e9112fb34349ba2ca9e8ba891efe4fcf", func := "assessor/assessorlaw44.SimilarityFiner", spec := "similarityFiner", unfollowed := true, recurses := true, plainKeys := false, apart := false, narrowed := true }
def SimilarityFinerUptoSaid : Prop := similarityFinerUptoRow.holds Try.pinned (OpenSpec.upto similarityFinerSpec)

/-- 'assessorlaw44.SimilarityOverlaps', WHERE WHAT IT READS IS OF BULK AT MOST 1048576: true; the input reads as it did. -/
def similarityOverlapsUptoRow : OpenClaim := { program := "ytmfepkadggigpaa", sum := "d7a14faf36892f0edc8a10e1e4c86039e9112fb34349ba2ca9e8ba891efe4fcf", func := "assessor/assessorlaw44.SimilarityOverlaps", spec := "similarityOverlaps", unfollowed := true, recurses := true, plainKeys := false, apart := false, narrowed := true }
def SimilarityOverlapsUptoSaid : Prop := similarityOverlapsUptoRow.holds Try.pinned (OpenSpec.upto similarityOverlapsSpec)

/-- 'assessorlaw44.SimilarityMatches', WHERE WHAT IT READS IS OF BULK AT MOST 1048576: true; the input reads as it did. -/
def similarityMatchesUptoRow : OpenClaim := { program := "ytmfepkadggigpaa", sum := "d7a14faf36892f0edc8a10e1e4c86039e9112fb34349ba2ca9e8ba891efe4fcf", func := "assessor/assessorlaw44.SimilarityMatches", spec := "similarityMatches", unfollowed := true, recurses := true, plainKeys := false, apart := false, narrowed := true }
def SimilarityMatchesUptoSaid : Prop := similarityMatchesUptoRow.holds Try.pinned (OpenSpec.upto similarityMatchesSpec)

end Rows
end Go.Proofs.Ytmfepkadggigpaa
