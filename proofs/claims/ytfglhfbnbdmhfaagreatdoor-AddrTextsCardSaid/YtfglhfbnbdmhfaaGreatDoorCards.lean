/-
  DERIVED. GIVEN WITH THE SEED: THE CARDS: each row of YtfglhfbnbdmhfaaGreatDoorRows.lean that lists a variable, with what it lists TIED to the program's text (the seventh form; the later family's looks); each row that meets fmt, with fmt's text TOLD by the authors' own Lean function (tested against real Go, not proved from fmt's source: count such statements apart). THE CARD IS WHAT COUNTS. Prove the row's statement (the work); the ties are given (YtfglhfbnbdmhfaaGreatDoorTie.lean); close each card by the builder's one call (the guide's Derived/Test/ToyasCard.lean, 'card_holds'). Laid BY PROGRAM, IN A SANDBOX (cutbox-door.mjs). By AI agents, Wed Nov 11 2026. No macro, syntax, notation, axiom, sorry.
-/
import Derived.Test.YtfglhfbnbdmhfaaGreatDoorRows
import GoSem.ClaimSeven
namespace Go.Proofs.YtfglhfbnbdmhfaaGreatDoor
namespace Rows

/-- THE TIED CARD OF 'exchangepointlaw01.AddrTexts'. -/
def addrTextsCard : Claim7 := { stood := { row := addrTextsRow, standIns := [], harness := (true, "c80cbcdf1c47e38ffafe7a9caa19ebd7c273fd15f70df5684fbff34ab7fda4fe"), looks := true }, kinds := [], alts := [], laidByText := true, laidKinds := [.data, .data, .data, .data, .sentinel, .sentinel, .pinned, .pinned], laidTests := true, laidLooks := .later }
def AddrTextsCardSaid : Prop := Claim7.holds Tryz.pinned (.plain (OpenSpec.ofChange addrTextsSpec)) addrTextsCard

/-- THE SECOND FORM's CARD OF 'exchangepointlaw01.AddrTexts'. -/
def addrTextsUptoCard : Claim7 := { stood := { row := addrTextsUptoRow, standIns := [], harness := (true, "c80cbcdf1c47e38ffafe7a9caa19ebd7c273fd15f70df5684fbff34ab7fda4fe"), looks := true }, kinds := [], alts := [], laidByText := true, laidKinds := [.data, .data, .data, .data, .sentinel, .sentinel, .pinned, .pinned], laidTests := true, laidLooks := .later }
def AddrTextsUptoCardSaid : Prop := Claim7.holds Tryz.pinned (.plain (OpenSpec.upto addrTextsSpec)) addrTextsUptoCard
end Rows
end Go.Proofs.YtfglhfbnbdmhfaaGreatDoor
