/-
  DERIVED. GIVEN WITH THE SEED: THE CARDS: each row of YtgfmodmeimhhpaaGreatDoorRows.lean that lists a variable, with what it lists TIED to the program's text (the seventh form; the later family's looks); each row that meets fmt, with fmt's text TOLD by the authors' own Lean function (tested against real Go, not proved from fmt's source: count such statements apart). THE CARD IS WHAT COUNTS. Prove the row's statement (the work); the ties are given (YtgfmodmeimhhpaaGreatDoorTie.lean); close each card by the builder's one call (the guide's Derived/Test/ToyasCard.lean, 'card_holds'). Laid BY PROGRAM, IN A SANDBOX (cutbox-door.mjs). By AI agents, Wed Nov 11 2026. No macro, syntax, notation, axiom, sorry.
-/
import Derived.Test.YtgfmodmeimhhpaaGreatDoorRows
import GoSem.ClaimSeven
namespace Go.Proofs.YtgfmodmeimhhpaaGreatDoor
namespace Rows

/-- THE TIED CARD OF 'exchangepointlaw26.WishVerdicts'. -/
def wishVerdictsCard : Claim7 := { stood := { row := wishVerdictsRow, standIns := [], harness := (true, "f55a6ff11437248a96f026ded9781ac2b58881a40602555f78b241fb2862df11"), looks := false }, kinds := [], alts := [], laidByText := true, laidKinds := [.mapped], laidTests := true, laidLooks := .later }
def WishVerdictsCardSaid : Prop := Claim7.holds Tryz.pinned (.plain (OpenSpec.ofChange wishVerdictsSpec)) wishVerdictsCard

/-- THE TIED CARD OF 'exchangepointlaw26.WishExports'. -/
def wishExportsCard : Claim7 := { stood := { row := wishExportsRow, standIns := [], harness := (true, "f55a6ff11437248a96f026ded9781ac2b58881a40602555f78b241fb2862df11"), looks := false }, kinds := [], alts := [], laidByText := true, laidKinds := [.mapped], laidTests := true, laidLooks := .later }
def WishExportsCardSaid : Prop := Claim7.holds Tryz.pinned (.plain (OpenSpec.ofChange wishExportsSpec)) wishExportsCard

/-- THE TIED CARD OF 'exchangepointlaw26.WishOffered'. -/
def wishOfferedCard : Claim7 := { stood := { row := wishOfferedRow, standIns := [], harness := (true, "f55a6ff11437248a96f026ded9781ac2b58881a40602555f78b241fb2862df11"), looks := false }, kinds := [], alts := [], laidByText := true, laidKinds := [.mapped], laidTests := true, laidLooks := .later }
def WishOfferedCardSaid : Prop := Claim7.holds Tryz.pinned (.plain (OpenSpec.ofChange wishOfferedSpec)) wishOfferedCard

/-- THE SECOND FORM's CARD OF 'exchangepointlaw26.WishVerdicts'. -/
def wishVerdictsUptoCard : Claim7 := { stood := { row := wishVerdictsUptoRow, standIns := [], harness := (true, "f55a6ff11437248a96f026ded9781ac2b58881a40602555f78b241fb2862df11"), looks := false }, kinds := [], alts := [], laidByText := true, laidKinds := [.mapped], laidTests := true, laidLooks := .later }
def WishVerdictsUptoCardSaid : Prop := Claim7.holds Tryz.pinned (.plain (OpenSpec.upto wishVerdictsSpec)) wishVerdictsUptoCard

/-- THE SECOND FORM's CARD OF 'exchangepointlaw26.WishExports'. -/
def wishExportsUptoCard : Claim7 := { stood := { row := wishExportsUptoRow, standIns := [], harness := (true, "f55a6ff11437248a96f026ded9781ac2b58881a40602555f78b241fb2862df11"), looks := false }, kinds := [], alts := [], laidByText := true, laidKinds := [.mapped], laidTests := true, laidLooks := .later }
def WishExportsUptoCardSaid : Prop := Claim7.holds Tryz.pinned (.plain (OpenSpec.upto wishExportsSpec)) wishExportsUptoCard

/-- THE SECOND FORM's CARD OF 'exchangepointlaw26.WishOffered'. -/
def wishOfferedUptoCard : Claim7 := { stood := { row := wishOfferedUptoRow, standIns := [], harness := (true, "f55a6ff11437248a96f026ded9781ac2b58881a40602555f78b241fb2862df11"), looks := false }, kinds := [], alts := [], laidByText := true, laidKinds := [.mapped], laidTests := true, laidLooks := .later }
def WishOfferedUptoCardSaid : Prop := Claim7.holds Tryz.pinned (.plain (OpenSpec.upto wishOfferedSpec)) wishOfferedUptoCard
end Rows
end Go.Proofs.YtgfmodmeimhhpaaGreatDoor
