/-
  DERIVED. GIVEN WITH THE SEED: THE CARDS: each row of YtfajmelamonolaaDoorRows.lean that lists a variable, with what it lists TIED to the program's text (the seventh form; the later family's looks); each row that meets fmt, with fmt's text TOLD by the authors' own Lean function (tested against real Go, not proved from fmt's source: count such statements apart). THE CARD IS WHAT COUNTS. Prove the row's statement (the work); the ties are given (YtfajmelamonolaaDoorTie.lean); close each card by the builder's one call (the guide's Derived/Test/ToyasCard.lean, 'card_holds'). Laid BY PROGRAM, IN A SANDBOX (cutbox-door.mjs). By AI agents, Wed Nov 11 2026. No macro, syntax, notation, axiom, sorry.
-/
import Derived.Test.YtfajmelamonolaaDoorRows
import GoSem.ClaimSeven
namespace Go.Proofs.YtfajmelamonolaaDoor
namespace Rows

/-- THE TIED CARD OF 'assessorlaw27.ProofFollows'. -/
def proofFollowsCard : Claim7 := { stood := { row := proofFollowsRow, standIns := [], harness := (true, "ff2a5ccccdc464aa5f4e085112d1f3e4d95a662a972a860ba59c236cf3adac85"), looks := true }, kinds := [], alts := [], laidByText := true, laidKinds := [.data, .data, .data, .data, .sentinel, .sentinel, .pinned], laidTests := true, laidLooks := .later }
def ProofFollowsCardSaid : Prop := Claim7.holds Tryd.pinned (.plain (OpenSpec.ofChange proofFollowsSpec)) proofFollowsCard

/-- THE TIED CARD OF 'assessorlaw27.ProofChecks'. -/
def proofChecksCard : Claim7 := { stood := { row := proofChecksRow, standIns := [], harness := (true, "ff2a5ccccdc464aa5f4e085112d1f3e4d95a662a972a860ba59c236cf3adac85"), looks := true }, kinds := [], alts := [], laidByText := true, laidKinds := [.data, .data, .data, .data, .sentinel, .sentinel, .pinned], laidTests := true, laidLooks := .later }
def ProofChecksCardSaid : Prop := Claim7.holds Tryd.pinned (.plain (OpenSpec.ofChange proofChecksSpec)) proofChecksCard

/-- THE TIED CARD OF 'assessorlaw27.ProofTrims'. -/
def proofTrimsCard : Claim7 := { stood := { row := proofTrimsRow, standIns := [], harness := (true, "ff2a5ccccdc464aa5f4e085112d1f3e4d95a662a972a860ba59c236cf3adac85"), looks := true }, kinds := [], alts := [], laidByText := true, laidKinds := [.data, .data, .data, .data, .sentinel, .sentinel, .pinned], laidTests := true, laidLooks := .later }
def ProofTrimsCardSaid : Prop := Claim7.holds Tryd.pinned (.plain (OpenSpec.ofChange proofTrimsSpec)) proofTrimsCard

/-- THE TIED CARD OF 'assessorlaw27.ProofTexts'. -/
def proofTextsCard : Claim7 := { stood := { row := proofTextsRow, standIns := [], harness := (true, "ff2a5ccccdc464aa5f4e085112d1f3e4d95a662a972a860ba59c236cf3adac85"), looks := true }, kinds := [], alts := [], laidByText := true, laidKinds := [.data, .data, .data, .data, .sentinel, .sentinel, .pinned], laidTests := true, laidLooks := .later }
def ProofTextsCardSaid : Prop := Claim7.holds Tryd.pinned (.plain (OpenSpec.ofChange proofTextsSpec)) proofTextsCard

/-- THE TIED CARD OF 'assessorlaw27.ProofSound'. -/
def proofSoundCard : Claim7 := { stood := { row := proofSoundRow, standIns := [], harness := (true, "ff2a5ccccdc464aa5f4e085112d1f3e4d95a662a972a860ba59c236cf3adac85"), looks := true }, kinds := [], alts := [], laidByText := true, laidKinds := [.data, .data, .data, .data, .sentinel, .sentinel, .pinned], laidTests := true, laidLooks := .later }
def ProofSoundCardSaid : Prop := Claim7.holds Tryd.pinned (.plain (OpenSpec.ofChange proofSoundSpec)) proofSoundCard

/-- THE SECOND FORM's CARD OF 'assessorlaw27.ProofFollows'. -/
def proofFollowsUptoCard : Claim7 := { stood := { row := proofFollowsUptoRow, standIns := [], harness := (true, "ff2a5ccccdc464aa5f4e085112d1f3e4d95a662a972a860ba59c236cf3adac85"), looks := true }, kinds := [], alts := [], laidByText := true, laidKinds := [.data, .data, .data, .data, .sentinel, .sentinel, .pinned], laidTests := true, laidLooks := .later }
def ProofFollowsUptoCardSaid : Prop := Claim7.holds Tryd.pinned (.plain (OpenSpec.upto proofFollowsSpec)) proofFollowsUptoCard

/-- THE SECOND FORM's CARD OF 'assessorlaw27.ProofChecks'. -/
def proofChecksUptoCard : Claim7 := { stood := { row := proofChecksUptoRow, standIns := [], harness := (true, "ff2a5ccccdc464aa5f4e085112d1f3e4d95a662a972a860ba59c236cf3adac85"), looks := true }, kinds := [], alts := [], laidByText := true, laidKinds := [.data, .data, .data, .data, .sentinel, .sentinel, .pinned], laidTests := true, laidLooks := .later }
def ProofChecksUptoCardSaid : Prop := Claim7.holds Tryd.pinned (.plain (OpenSpec.upto proofChecksSpec)) proofChecksUptoCard

/-- THE SECOND FORM's CARD OF 'assessorlaw27.ProofTrims'. -/
def proofTrimsUptoCard : Claim7 := { stood := { row := proofTrimsUptoRow, standIns := [], harness := (true, "ff2a5ccccdc464aa5f4e085112d1f3e4d95a662a972a860ba59c236cf3adac85"), looks := true }, kinds := [], alts := [], laidByText := true, laidKinds := [.data, .data, .data, .data, .sentinel, .sentinel, .pinned], laidTests := true, laidLooks := .later }
def ProofTrimsUptoCardSaid : Prop := Claim7.holds Tryd.pinned (.plain (OpenSpec.upto proofTrimsSpec)) proofTrimsUptoCard

/-- THE SECOND FORM's CARD OF 'assessorlaw27.ProofTexts'. -/
def proofTextsUptoCard : Claim7 := { stood := { row := proofTextsUptoRow, standIns := [], harness := (true, "ff2a5ccccdc464aa5f4e085112d1f3e4d95a662a972a860ba59c236cf3adac85"), looks := true }, kinds := [], alts := [], laidByText := true, laidKinds := [.data, .data, .data, .data, .sentinel, .sentinel, .pinned], laidTests := true, laidLooks := .later }
def ProofTextsUptoCardSaid : Prop := Claim7.holds Tryd.pinned (.plain (OpenSpec.upto proofTextsSpec)) proofTextsUptoCard

/-- THE SECOND FORM's CARD OF 'assessorlaw27.ProofSound'. -/
def proofSoundUptoCard : Claim7 := { stood := { row := proofSoundUptoRow, standIns := [], harness := (true, "ff2a5ccccdc464aa5f4e085112d1f3e4d95a662a972a860ba59c236cf3adac85"), looks := true }, kinds := [], alts := [], laidByText := true, laidKinds := [.data, .data, .data, .data, .sentinel, .sentinel, .pinned], laidTests := true, laidLooks := .later }
def ProofSoundUptoCardSaid : Prop := Claim7.holds Tryd.pinned (.plain (OpenSpec.upto proofSoundSpec)) proofSoundUptoCard
end Rows
end Go.Proofs.YtfajmelamonolaaDoor
