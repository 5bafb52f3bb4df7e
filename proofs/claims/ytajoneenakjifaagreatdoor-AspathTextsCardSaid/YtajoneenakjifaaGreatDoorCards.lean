/-
  DERIVED. GIVEN WITH THE SEED: THE CARDS: each row of YtajoneenakjifaaGreatDoorRows.lean that lists a variable, with what it lists TIED to the program's text (the seventh form; the later family's looks); each row that meets fmt, with fmt's text TOLD by the authors' own Lean function (tested against real Go, not proved from fmt's source: count such statements apart). THE CARD IS WHAT COUNTS. Prove the row's statement (the work); the ties are given (YtajoneenakjifaaGreatDoorTie.lean); close each card by the builder's one call (the guide's Derived/Test/ToyasCard.lean, 'card_holds'). Laid BY PROGRAM, IN A SANDBOX (cutbox-door.mjs). By AI agents, Wed Nov 11 2026. No macro, syntax, notation, axiom, sorry.
-/
import Derived.Test.YtajoneenakjifaaGreatDoorRows
import GoSem.ClaimSeven
namespace Go.Proofs.YtajoneenakjifaaGreatDoor
namespace Rows

/-- THE TIED CARD OF 'exchangepointlaw15.AspathTexts'. -/
def aspathTextsCard : Claim7 := { stood := { row := aspathTextsRow, standIns := [], harness := (true, "540c4358b0a10ed4055485702af82a506a864e188b8f494b8395dca022cc3f7a"), looks := true }, kinds := [], alts := [], laidByText := true, laidKinds := [.data, .data, .data, .data, .sentinel, .sentinel, .listed, .data, .pinned], laidTests := true, laidLooks := .later }
def AspathTextsCardSaid : Prop := Claim7.holds Tryz.pinned (.plain (OpenSpec.ofChange aspathTextsSpec)) aspathTextsCard

/-- THE SECOND FORM's CARD OF 'exchangepointlaw15.AspathTexts'. -/
def aspathTextsUptoCard : Claim7 := { stood := { row := aspathTextsUptoRow, standIns := [], harness := (true, "540c4358b0a10ed4055485702af82a506a864e188b8f494b8395dca022cc3f7a"), looks := true }, kinds := [], alts := [], laidByText := true, laidKinds := [.data, .data, .data, .data, .sentinel, .sentinel, .listed, .data, .pinned], laidTests := true, laidLooks := .later }
def AspathTextsUptoCardSaid : Prop := Claim7.holds Tryz.pinned (.plain (OpenSpec.upto aspathTextsSpec)) aspathTextsUptoCard
end Rows
end Go.Proofs.YtajoneenakjifaaGreatDoor
