/-
  DERIVED. GIVEN WITH THE SEED: THE CARDS: each row of YtapinochbblfbaaGreatDoorRows.lean that lists a variable, with what it lists TIED to the program's text (the seventh form; the later family's looks); each row that meets fmt, with fmt's text TOLD by the authors' own Lean function (tested against real Go, not proved from fmt's source: count such statements apart). THE CARD IS WHAT COUNTS. Prove the row's statement (the work); the ties are given (YtapinochbblfbaaGreatDoorTie.lean); close each card by the builder's one call (the guide's Derived/Test/ToyasCard.lean, 'card_holds'). Laid BY PROGRAM, IN A SANDBOX (cutbox-door.mjs). By AI agents, Wed Nov 11 2026. No macro, syntax, notation, axiom, sorry.
-/
import Derived.Test.YtapinochbblfbaaGreatDoorRows
import GoSem.ClaimSeven
namespace Go.Proofs.YtapinochbblfbaaGreatDoor
namespace Rows

/-- THE TIED CARD OF 'certpathlaw33.ValidateErrors'. -/
def validateErrorsCard : Claim7 := { stood := { row := validateErrorsRow, standIns := [], harness := (true, "a1c9f529092e3705828d9a71b5060d5a43bd109dc1b1ef6b783a714c0f30d248"), looks := false }, kinds := [], alts := [], laidByText := true, laidKinds := [.data, .pinned], laidTests := true, laidLooks := .later }
def ValidateErrorsCardSaid : Prop := Claim7.holds Tryz.pinned (.plain (OpenSpec.ofChange validateErrorsSpec)) validateErrorsCard

/-- THE SECOND FORM's CARD OF 'certpathlaw33.ValidateErrors'. -/
def validateErrorsUptoCard : Claim7 := { stood := { row := validateErrorsUptoRow, standIns := [], harness := (true, "a1c9f529092e3705828d9a71b5060d5a43bd109dc1b1ef6b783a714c0f30d248"), looks := false }, kinds := [], alts := [], laidByText := true, laidKinds := [.data, .pinned], laidTests := true, laidLooks := .later }
def ValidateErrorsUptoCardSaid : Prop := Claim7.holds Tryz.pinned (.plain (OpenSpec.upto validateErrorsSpec)) validateErrorsUptoCard
end Rows
end Go.Proofs.YtapinochbblfbaaGreatDoor
