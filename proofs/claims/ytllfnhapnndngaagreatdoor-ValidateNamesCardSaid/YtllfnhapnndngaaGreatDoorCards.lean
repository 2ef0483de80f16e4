/-
  DERIVED. GIVEN WITH THE SEED: THE CARDS: each row of YtllfnhapnndngaaGreatDoorRows.lean that lists a variable, with what it lists TIED to the program's text (the seventh form; the later family's looks); each row that meets fmt, with fmt's text TOLD by the authors' own Lean function (tested against real Go, not proved from fmt's source: count such statements apart). THE CARD IS WHAT COUNTS. Prove the row's statement (the work); the ties are given (YtllfnhapnndngaaGreatDoorTie.lean); close each card by the builder's one call (the guide's Derived/Test/ToyasCard.lean, 'card_holds'). Laid BY PROGRAM, IN A SANDBOX (cutbox-door.mjs). By AI agents, Wed Nov 11 2026. No macro, syntax, notation, axiom, sorry.
-/
import Derived.Test.YtllfnhapnndngaaGreatDoorRows
import GoSem.ClaimSeven
namespace Go.Proofs.YtllfnhapnndngaaGreatDoor
namespace Rows

/-- THE TIED CARD OF 'certpathlaw33.ValidateLongest'. -/
def validateLongestCard : Claim7 := { stood := { row := validateLongestRow, standIns := [], harness := (true, "47ea05b9f053f20987e873cea3dbb3cafa7f10433abf0d649cb87bf21ca4a295"), looks := false }, kinds := [], alts := [], laidByText := true, laidKinds := [.data, .pinned], laidTests := true, laidLooks := .later }
def ValidateLongestCardSaid : Prop := Claim7.holds Tryz.pinned (.plain (OpenSpec.ofChange validateLongestSpec)) validateLongestCard

/-- THE TIED CARD OF 'certpathlaw33.ValidateStatus'. -/
def validateStatusCard : Claim7 := { stood := { row := validateStatusRow, standIns := [], harness := (true, "47ea05b9f053f20987e873cea3dbb3cafa7f10433abf0d649cb87bf21ca4a295"), looks := false }, kinds := [], alts := [], laidByText := true, laidKinds := [.data, .pinned], laidTests := true, laidLooks := .later }
def ValidateStatusCardSaid : Prop := Claim7.holds Tryz.pinned (.plain (OpenSpec.ofChange validateStatusSpec)) validateStatusCard

/-- THE TIED CARD OF 'certpathlaw33.ValidateNames'. -/
def validateNamesCard : Claim7 := { stood := { row := validateNamesRow, standIns := [], harness := (true, "47ea05b9f053f20987e873cea3dbb3cafa7f10433abf0d649cb87bf21ca4a295"), looks := false }, kinds := [], alts := [], laidByText := true, laidKinds := [.data, .pinned], laidTests := true, laidLooks := .later }
def ValidateNamesCardSaid : Prop := Claim7.holds Tryz.pinned (.plain (OpenSpec.ofChange validateNamesSpec)) validateNamesCard

/-- THE SECOND FORM's CARD OF 'certpathlaw33.ValidateLongest'. -/
def validateLongestUptoCard : Claim7 := { stood := { row := validateLongestUptoRow, standIns := [], harness := (true, "47ea05b9f053f20987e873cea3dbb3cafa7f10433abf0d649cb87bf21ca4a295"), looks := false }, kinds := [], alts := [], laidByText := true, laidKinds := [.data, .pinned], laidTests := true, laidLooks := .later }
def ValidateLongestUptoCardSaid : Prop := Claim7.holds Tryz.pinned (.plain (OpenSpec.upto validateLongestSpec)) validateLongestUptoCard

/-- THE SECOND FORM's CARD OF 'certpathlaw33.ValidateStatus'. -/
def validateStatusUptoCard : Claim7 := { stood := { row := validateStatusUptoRow, standIns := [], harness := (true, "47ea05b9f053f20987e873cea3dbb3cafa7f10433abf0d649cb87bf21ca4a295"), looks := false }, kinds := [], alts := [], laidByText := true, laidKinds := [.data, .pinned], laidTests := true, laidLooks := .later }
def ValidateStatusUptoCardSaid : Prop := Claim7.holds Tryz.pinned (.plain (OpenSpec.upto validateStatusSpec)) validateStatusUptoCard

/-- THE SECOND FORM's CARD OF 'certpathlaw33.ValidateNames'. -/
def validateNamesUptoCard : Claim7 := { stood := { row := validateNamesUptoRow, standIns := [], harness := (true, "47ea05b9f053f20987e873cea3dbb3cafa7f10433abf0d649cb87bf21ca4a295"), looks := false }, kinds := [], alts := [], laidByText := true, laidKinds := [.data, .pinned], laidTests := true, laidLooks := .later }
def ValidateNamesUptoCardSaid : Prop := Claim7.holds Tryz.pinned (.plain (OpenSpec.upto validateNamesSpec)) validateNamesUptoCard
end Rows
end Go.Proofs.YtllfnhapnndngaaGreatDoor
