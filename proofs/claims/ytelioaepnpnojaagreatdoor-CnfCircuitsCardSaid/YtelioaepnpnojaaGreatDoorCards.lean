/-
  DERIVED. GIVEN WITH THE SEED: THE CARDS: each row of YtelioaepnpnojaaGreatDoorRows.lean that lists a variable, with what it lists TIED to the program's text (the seventh form; the later family's looks); each row that meets fmt, with fmt's text TOLD by the authors' own Lean function (tested against real Go, not proved from fmt's source: count such statements apart). THE CARD IS WHAT COUNTS. Prove the row's statement (the work); the ties are given (YtelioaepnpnojaaGreatDoorTie.lean); close each card by the builder's one call (the guide's Derived/Test/ToyasCard.lean, 'card_holds'). Laid BY PROGRAM, IN A SANDBOX (cutbox-door.mjs). By AI agents, Wed Nov 11 2026. No macro, syntax, notation, axiom, sorry.
-/
import Derived.Test.YtelioaepnpnojaaGreatDoorRows
import GoSem.ClaimSeven
namespace Go.Proofs.YtelioaepnpnojaaGreatDoor
namespace Rows

/-- THE TIED CARD OF 'assessorlaw26.CnfForms'. -/
def cnfFormsCard : Claim7 := { stood := { row := cnfFormsRow, standIns := [], harness := (true, "3e1de01fa9f213e95b02636ce79036f3b0f944308c75edf4e3caf914449f61d4"), looks := true }, kinds := [], alts := [], laidByText := true, laidKinds := [.data, .data, .data, .data, .sentinel, .sentinel, .pinned], laidTests := true, laidLooks := .later }
def CnfFormsCardSaid : Prop := Claim7.holds Tryz.pinned (.plain (OpenSpec.ofChange cnfFormsSpec)) cnfFormsCard

/-- THE TIED CARD OF 'assessorlaw26.CnfTranslates'. -/
def cnfTranslatesCard : Claim7 := { stood := { row := cnfTranslatesRow, standIns := [], harness := (true, "3e1de01fa9f213e95b02636ce79036f3b0f944308c75edf4e3caf914449f61d4"), looks := true }, kinds := [], alts := [], laidByText := true, laidKinds := [.data, .data, .data, .data, .sentinel, .sentinel, .pinned], laidTests := true, laidLooks := .later }
def CnfTranslatesCardSaid : Prop := Claim7.holds Tryz.pinned (.plain (OpenSpec.ofChange cnfTranslatesSpec)) cnfTranslatesCard

/-- THE TIED CARD OF 'assessorlaw26.CnfPropagates'. -/
def cnfPropagatesCard : Claim7 := { stood := { row := cnfPropagatesRow, standIns := [], harness := (true, "3e1de01fa9f213e95b02636ce79036f3b0f944308c75edf4e3caf914449f61d4"), looks := true }, kinds := [], alts := [], laidByText := true, laidKinds := [.data, .data, .data, .data, .sentinel, .sentinel, .pinned], laidTests := true, laidLooks := .later }
def CnfPropagatesCardSaid : Prop := Claim7.holds Tryz.pinned (.plain (OpenSpec.ofChange cnfPropagatesSpec)) cnfPropagatesCard

/-- THE TIED CARD OF 'assessorlaw26.CnfTexts'. -/
def cnfTextsCard : Claim7 := { stood := { row := cnfTextsRow, standIns := [], harness := (true, "3e1de01fa9f213e95b02636ce79036f3b0f944308c75edf4e3caf914449f61d4"), looks := true }, kinds := [], alts := [], laidByText := true, laidKinds := [.data, .data, .data, .data, .sentinel, .sentinel, .pinned], laidTests := true, laidLooks := .later }
def CnfTextsCardSaid : Prop := Claim7.holds Tryz.pinned (.plain (OpenSpec.ofChange cnfTextsSpec)) cnfTextsCard

/-- THE TIED CARD OF 'assessorlaw26.CnfReturns'. -/
def cnfReturnsCard : Claim7 := { stood := { row := cnfReturnsRow, standIns := [], harness := (true, "3e1de01fa9f213e95b02636ce79036f3b0f944308c75edf4e3caf914449f61d4"), looks := true }, kinds := [], alts := [], laidByText := true, laidKinds := [.data, .data, .data, .data, .sentinel, .sentinel, .pinned], laidTests := true, laidLooks := .later }
def CnfReturnsCardSaid : Prop := Claim7.holds Tryz.pinned (.plain (OpenSpec.ofChange cnfReturnsSpec)) cnfReturnsCard

/-- THE TIED CARD OF 'assessorlaw26.CnfFollows'. -/
def cnfFollowsCard : Claim7 := { stood := { row := cnfFollowsRow, standIns := [], harness := (true, "3e1de01fa9f213e95b02636ce79036f3b0f944308c75edf4e3caf914449f61d4"), looks := true }, kinds := [], alts := [], laidByText := true, laidKinds := [.data, .data, .data, .data, .sentinel, .sentinel, .pinned], laidTests := true, laidLooks := .later }
def CnfFollowsCardSaid : Prop := Claim7.holds Tryz.pinned (.plain (OpenSpec.ofChange cnfFollowsSpec)) cnfFollowsCard

/-- THE TIED CARD OF 'assessorlaw26.CnfCircuits'. -/
def cnfCircuitsCard : Claim7 := { stood := { row := cnfCircuitsRow, standIns := [], harness := (true, "3e1de01fa9f213e95b02636ce79036f3b0f944308c75edf4e3caf914449f61d4"), looks := true }, kinds := [], alts := [], laidByText := true, laidKinds := [.data, .data, .data, .data, .sentinel, .sentinel, .pinned], laidTests := true, laidLooks := .later }
def CnfCircuitsCardSaid : Prop := Claim7.holds Tryz.pinned (.plain (OpenSpec.ofChange cnfCircuitsSpec)) cnfCircuitsCard

/-- THE SECOND FORM's CARD OF 'assessorlaw26.CnfForms'. -/
def cnfFormsUptoCard : Claim7 := { stood := { row := cnfFormsUptoRow, standIns := [], harness := (true, "3e1de01fa9f213e95b02636ce79036f3b0f944308c75edf4e3caf914449f61d4"), looks := true }, kinds := [], alts := [], laidByText := true, laidKinds := [.data, .data, .data, .data, .sentinel, .sentinel, .pinned], laidTests := true, laidLooks := .later }
def CnfFormsUptoCardSaid : Prop := Claim7.holds Tryz.pinned (.plain (OpenSpec.upto cnfFormsSpec)) cnfFormsUptoCard

/-- THE SECOND FORM's CARD OF 'assessorlaw26.CnfTranslates'. -/
def cnfTranslatesUptoCard : Claim7 := { stood := { row := cnfTranslatesUptoRow, standIns := [], harness := (true, "3e1de01fa9f213e95b02636ce79036f3b0f944308c75edf4e3caf914449f61d4"), looks := true }, kinds := [], alts := [], laidByText := true, laidKinds := [.data, .data, .data, .data, .sentinel, .sentinel, .pinned], laidTests := true, laidLooks := .later }
def CnfTranslatesUptoCardSaid : Prop := Claim7.holds Tryz.pinned (.plain (OpenSpec.upto cnfTranslatesSpec)) cnfTranslatesUptoCard

/-- THE SECOND FORM's CARD OF 'assessorlaw26.CnfPropagates'. -/
def cnfPropagatesUptoCard : Claim7 := { stood := { row := cnfPropagatesUptoRow, standIns := [], harness := (true, "3e1de01fa9f213e95b02636ce79036f3b0f944308c75edf4e3caf914449f61d4"), looks := true }, kinds := [], alts := [], laidByText := true, laidKinds := [.data, .data, .data, .data, .sentinel, .sentinel, .pinned], laidTests := true, laidLooks := .later }
def CnfPropagatesUptoCardSaid : Prop := Claim7.holds Tryz.pinned (.plain (OpenSpec.upto cnfPropagatesSpec)) cnfPropagatesUptoCard

/-- THE SECOND FORM's CARD OF 'assessorlaw26.CnfTexts'. -/
def cnfTextsUptoCard : Claim7 := { stood := { row := cnfTextsUptoRow, standIns := [], harness := (true, "3e1de01fa9f213e95b02636ce79036f3b0f944308c75edf4e3caf914449f61d4"), looks := true }, kinds := [], alts := [], laidByText := true, laidKinds := [.data, .data, .data, .data, .sentinel, .sentinel, .pinned], laidTests := true, laidLooks := .later }
def CnfTextsUptoCardSaid : Prop := Claim7.holds Tryz.pinned (.plain (OpenSpec.upto cnfTextsSpec)) cnfTextsUptoCard

/-- THE SECOND FORM's CARD OF 'assessorlaw26.CnfReturns'. -/
def cnfReturnsUptoCard : Claim7 := { stood := { row := cnfReturnsUptoRow, standIns := [], harness := (true, "3e1de01fa9f213e95b02636ce79036f3b0f944308c75edf4e3caf914449f61d4"), looks := true }, kinds := [], alts := [], laidByText := true, laidKinds := [.data, .data, .data, .data, .sentinel, .sentinel, .pinned], laidTests := true, laidLooks := .later }
def CnfReturnsUptoCardSaid : Prop := Claim7.holds Tryz.pinned (.plain (OpenSpec.upto cnfReturnsSpec)) cnfReturnsUptoCard

/-- THE SECOND FORM's CARD OF 'assessorlaw26.CnfFollows'. -/
def cnfFollowsUptoCard : Claim7 := { stood := { row := cnfFollowsUptoRow, standIns := [], harness := (true, "3e1de01fa9f213e95b02636ce79036f3b0f944308c75edf4e3caf914449f61d4"), looks := true }, kinds := [], alts := [], laidByText := true, laidKinds := [.data, .data, .data, .data, .sentinel, .sentinel, .pinned], laidTests := true, laidLooks := .later }
def CnfFollowsUptoCardSaid : Prop := Claim7.holds Tryz.pinned (.plain (OpenSpec.upto cnfFollowsSpec)) cnfFollowsUptoCard

/-- THE SECOND FORM's CARD OF 'assessorlaw26.CnfCircuits'. -/
def cnfCircuitsUptoCard : Claim7 := { stood := { row := cnfCircuitsUptoRow, standIns := [], harness := (true, "3e1de01fa9f213e95b02636ce79036f3b0f944308c75edf4e3caf914449f61d4"), looks := true }, kinds := [], alts := [], laidByText := true, laidKinds := [.data, .data, .data, .data, .sentinel, .sentinel, .pinned], laidTests := true, laidLooks := .later }
def CnfCircuitsUptoCardSaid : Prop := Claim7.holds Tryz.pinned (.plain (OpenSpec.upto cnfCircuitsSpec)) cnfCircuitsUptoCard
end Rows
end Go.Proofs.YtelioaepnpnojaaGreatDoor
