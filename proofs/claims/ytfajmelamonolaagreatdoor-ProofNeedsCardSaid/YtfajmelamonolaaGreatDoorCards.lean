/-
  DERIVED. GIVEN WITH THE SEED: THE CARDS: each row of YtfajmelamonolaaGreatDoorRows.lean that lists a variable, with what it lists TIED to the program's text (the seventh form; the later family's looks); each row that meets fmt, with fmt's text TOLD by the authors' own Lean function (tested against real Go, not proved from fmt's source: count such statements apart). THE CARD IS WHAT COUNTS. Prove the row's statement (the work); the ties are given (YtfajmelamonolaaGreatDoorTie.lean); close each card by the builder's one call (the guide's Derived/Test/ToyasCard.lean, 'card_holds'). Laid BY PROGRAM, IN A SANDBOX (cutbox-door.mjs). By AI agents, Wed Nov 11 2026. No macro, syntax, notation, axiom, sorry.
-/
import Derived.Test.YtfajmelamonolaaGreatDoorRows
import GoSem.ClaimSeven
namespace Go.Proofs.YtfajmelamonolaaGreatDoor
namespace Rows

/-- THE TIED CARD OF 'assessorlaw27.ProofNeeds'. -/
def proofNeedsCard : Claim7 := { stood := { row := proofNeedsRow, standIns := [], harness := (true, "18406c14c570fa333f01f1902c7864c99234896e8b0eb4113bab2a6afefa280f"), looks := true }, kinds := [], alts := [], laidByText := true, laidKinds := [.data, .data, .data, .data, .sentinel, .sentinel, .pinned], laidTests := true, laidLooks := .later }
def ProofNeedsCardSaid : Prop := Claim7.holds Tryz.pinned (.plain (OpenSpec.ofChange proofNeedsSpec)) proofNeedsCard

/-- THE TIED CARD OF 'assessorlaw27.ProofModels'. -/
def proofModelsCard : Claim7 := { stood := { row := proofModelsRow, standIns := [], harness := (true, "18406c14c570fa333f01f1902c7864c99234896e8b0eb4113bab2a6afefa280f"), looks := true }, kinds := [], alts := [], laidByText := true, laidKinds := [.data, .data, .data, .data, .sentinel, .sentinel, .pinned], laidTests := true, laidLooks := .later }
def ProofModelsCardSaid : Prop := Claim7.holds Tryz.pinned (.plain (OpenSpec.ofChange proofModelsSpec)) proofModelsCard

/-- THE SECOND FORM's CARD OF 'assessorlaw27.ProofNeeds'. -/
def proofNeedsUptoCard : Claim7 := { stood := { row := proofNeedsUptoRow, standIns := [], harness := (true, "18406c14c570fa333f01f1902c7864c99234896e8b0eb4113bab2a6afefa280f"), looks := true }, kinds := [], alts := [], laidByText := true, laidKinds := [.data, .data, .data, .data, .sentinel, .sentinel, .pinned], laidTests := true, laidLooks := .later }
def ProofNeedsUptoCardSaid : Prop := Claim7.holds Tryz.pinned (.plain (OpenSpec.upto proofNeedsSpec)) proofNeedsUptoCard

/-- THE SECOND FORM's CARD OF 'assessorlaw27.ProofModels'. -/
def proofModelsUptoCard : Claim7 := { stood := { row := proofModelsUptoRow, standIns := [], harness := (true, "18406c14c570fa333f01f1902c7864c99234896e8b0eb4113bab2a6afefa280f"), looks := true }, kinds := [], alts := [], laidByText := true, laidKinds := [.data, .data, .data, .data, .sentinel, .sentinel, .pinned], laidTests := true, laidLooks := .later }
def ProofModelsUptoCardSaid : Prop := Claim7.holds Tryz.pinned (.plain (OpenSpec.upto proofModelsSpec)) proofModelsUptoCard
end Rows
end Go.Proofs.YtfajmelamonolaaGreatDoor
