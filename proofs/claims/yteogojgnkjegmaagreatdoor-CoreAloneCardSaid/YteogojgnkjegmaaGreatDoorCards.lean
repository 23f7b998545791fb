/-
  DERIVED. GIVEN WITH THE SEED: THE CARDS: each row of YteogojgnkjegmaaGreatDoorRows.lean that lists a variable, with what it lists TIED to the program's text (the seventh form; the later family's looks); each row that meets fmt, with fmt's text TOLD by the authors' own Lean function (tested against real Go, not proved from fmt's source: count such statements apart). THE CARD IS WHAT COUNTS. Prove the row's statement (the work); the ties are given (YteogojgnkjegmaaGreatDoorTie.lean); close each card by the builder's one call (the guide's Derived/Test/ToyasCard.lean, 'card_holds'). Laid BY PROGRAM, IN A SANDBOX (cutbox-door.mjs). By AI agents, Wed Nov 11 2026. No macro, syntax, notation, axiom, sorry.
-/
import Derived.Test.YteogojgnkjegmaaGreatDoorRows
import GoSem.ClaimSeven
namespace Go.Proofs.YteogojgnkjegmaaGreatDoor
namespace Rows

/-- THE TIED CARD OF 'caucustop.CoreAgrees'. -/
def coreAgreesCard : Claim7 := { stood := { row := coreAgreesRow, standIns := [], harness := (true, "2bd43b8b9bab49a80501c85ad9c4676e1fa8e753d1aa75001a15b32b7b28cf8f"), looks := false }, kinds := [], alts := [], laidByText := true, laidKinds := [.data], laidTests := true, laidLooks := .later }
def CoreAgreesCardSaid : Prop := Claim7.holds Tryz.pinned (.plain (OpenSpec.ofChange coreAgreesSpec)) coreAgreesCard

/-- THE TIED CARD OF 'caucustop.CoreProposed'. -/
def coreProposedCard : Claim7 := { stood := { row := coreProposedRow, standIns := [], harness := (true, "2bd43b8b9bab49a80501c85ad9c4676e1fa8e753d1aa75001a15b32b7b28cf8f"), looks := false }, kinds := [], alts := [], laidByText := true, laidKinds := [.data], laidTests := true, laidLooks := .later }
def CoreProposedCardSaid : Prop := Claim7.holds Tryz.pinned (.plain (OpenSpec.ofChange coreProposedSpec)) coreProposedCard

/-- THE TIED CARD OF 'caucustop.CoreTold'. -/
def coreToldCard : Claim7 := { stood := { row := coreToldRow, standIns := [], harness := (true, "2bd43b8b9bab49a80501c85ad9c4676e1fa8e753d1aa75001a15b32b7b28cf8f"), looks := false }, kinds := [], alts := [], laidByText := true, laidKinds := [.data], laidTests := true, laidLooks := .later }
def CoreToldCardSaid : Prop := Claim7.holds Tryz.pinned (.plain (OpenSpec.ofChange coreToldSpec)) coreToldCard

/-- THE TIED CARD OF 'caucustop.CoreFast'. -/
def coreFastCard : Claim7 := { stood := { row := coreFastRow, standIns := [], harness := (true, "2bd43b8b9bab49a80501c85ad9c4676e1fa8e753d1aa75001a15b32b7b28cf8f"), looks := false }, kinds := [], alts := [], laidByText := true, laidKinds := [.data], laidTests := true, laidLooks := .later }
def CoreFastCardSaid : Prop := Claim7.holds Tryz.pinned (.plain (OpenSpec.ofChange coreFastSpec)) coreFastCard

/-- THE TIED CARD OF 'caucustop.CoreAlone'. -/
def coreAloneCard : Claim7 := { stood := { row := coreAloneRow, standIns := [], harness := (true, "2bd43b8b9bab49a80501c85ad9c4676e1fa8e753d1aa75001a15b32b7b28cf8f"), looks := false }, kinds := [], alts := [], laidByText := true, laidKinds := [.data], laidTests := true, laidLooks := .later }
def CoreAloneCardSaid : Prop := Claim7.holds Tryz.pinned (.plain (OpenSpec.ofChange coreAloneSpec)) coreAloneCard

/-- THE SECOND FORM's CARD OF 'caucustop.CoreAgrees'. -/
def coreAgreesUptoCard : Claim7 := { stood := { row := coreAgreesUptoRow, standIns := [], harness := (true, "2bd43b8b9bab49a80501c85ad9c4676e1fa8e753d1aa75001a15b32b7b28cf8f"), looks := false }, kinds := [], alts := [], laidByText := true, laidKinds := [.data], laidTests := true, laidLooks := .later }
def CoreAgreesUptoCardSaid : Prop := Claim7.holds Tryz.pinned (.plain (OpenSpec.upto coreAgreesSpec)) coreAgreesUptoCard

/-- THE SECOND FORM's CARD OF 'caucustop.CoreProposed'. -/
def coreProposedUptoCard : Claim7 := { stood := { row := coreProposedUptoRow, standIns := [], harness := (true, "2bd43b8b9bab49a80501c85ad9c4676e1fa8e753d1aa75001a15b32b7b28cf8f"), looks := false }, kinds := [], alts := [], laidByText := true, laidKinds := [.data], laidTests := true, laidLooks := .later }
def CoreProposedUptoCardSaid : Prop := Claim7.holds Tryz.pinned (.plain (OpenSpec.upto coreProposedSpec)) coreProposedUptoCard

/-- THE SECOND FORM's CARD OF 'caucustop.CoreTold'. -/
def coreToldUptoCard : Claim7 := { stood := { row := coreToldUptoRow, standIns := [], harness := (true, "2bd43b8b9bab49a80501c85ad9c4676e1fa8e753d1aa75001a15b32b7b28cf8f"), looks := false }, kinds := [], alts := [], laidByText := true, laidKinds := [.data], laidTests := true, laidLooks := .later }
def CoreToldUptoCardSaid : Prop := Claim7.holds Tryz.pinned (.plain (OpenSpec.upto coreToldSpec)) coreToldUptoCard

/-- THE SECOND FORM's CARD OF 'caucustop.CoreFast'. -/
def coreFastUptoCard : Claim7 := { stood := { row := coreFastUptoRow, standIns := [], harness := (true, "2bd43b8b9bab49a80501c85ad9c4676e1fa8e753d1aa75001a15b32b7b28cf8f"), looks := false }, kinds := [], alts := [], laidByText := true, laidKinds := [.data], laidTests := true, laidLooks := .later }
def CoreFastUptoCardSaid : Prop := Claim7.holds Tryz.pinned (.plain (OpenSpec.upto coreFastSpec)) coreFastUptoCard

/-- THE SECOND FORM's CARD OF 'caucustop.CoreAlone'. -/
def coreAloneUptoCard : Claim7 := { stood := { row := coreAloneUptoRow, standIns := [], harness := (true, "2bd43b8b9bab49a80501c85ad9c4676e1fa8e753d1aa75001a15b32b7b28cf8f"), looks := false }, kinds := [], alts := [], laidByText := true, laidKinds := [.data], laidTests := true, laidLooks := .later }
def CoreAloneUptoCardSaid : Prop := Claim7.holds Tryz.pinned (.plain (OpenSpec.upto coreAloneSpec)) coreAloneUptoCard
end Rows
end Go.Proofs.YteogojgnkjegmaaGreatDoor
