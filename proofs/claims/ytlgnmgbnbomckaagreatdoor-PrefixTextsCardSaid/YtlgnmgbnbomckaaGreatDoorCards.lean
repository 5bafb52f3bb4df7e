/-
  DERIVED. GIVEN WITH THE SEED: THE CARDS: each row of YtlgnmgbnbomckaaGreatDoorRows.lean that lists a variable, with what it lists TIED to the program's text (the seventh form; the later family's looks); each row that meets fmt, with fmt's text TOLD by the authors' own Lean function (tested against real Go, not proved from fmt's source: count such statements apart). THE CARD IS WHAT COUNTS. Prove the row's statement (the work); the ties are given (YtlgnmgbnbomckaaGreatDoorTie.lean); close each card by the builder's one call (the guide's Derived/Test/ToyasCard.lean, 'card_holds'). Laid BY PROGRAM, IN A SANDBOX (cutbox-door.mjs). By AI agents, Wed Nov 11 2026. No macro, syntax, notation, axiom, sorry.
-/
import Derived.Test.YtlgnmgbnbomckaaGreatDoorRows
import GoSem.ClaimSeven
namespace Go.Proofs.YtlgnmgbnbomckaaGreatDoor
namespace Rows

/-- THE TIED CARD OF 'exchangepointlaw02.PrefixBack'. -/
def prefixBackCard : Claim7 := { stood := { row := prefixBackRow, standIns := [], harness := (true, "abb61db42a00441c8a113be25c2c579e48c9b5a12e9703417fe5941908f62ad9"), looks := true }, kinds := [], alts := [], laidByText := true, laidKinds := [.data, .data, .data, .data, .sentinel, .sentinel, .pinned], laidTests := true, laidLooks := .later }
def PrefixBackCardSaid : Prop := Claim7.holds Tryz.pinned (.plain (OpenSpec.ofChange prefixBackSpec)) prefixBackCard

/-- THE TIED CARD OF 'exchangepointlaw02.PrefixSpan'. -/
def prefixSpanCard : Claim7 := { stood := { row := prefixSpanRow, standIns := [], harness := (true, "abb61db42a00441c8a113be25c2c579e48c9b5a12e9703417fe5941908f62ad9"), looks := true }, kinds := [], alts := [], laidByText := true, laidKinds := [.data, .data, .data, .data, .sentinel, .sentinel, .pinned], laidTests := true, laidLooks := .later }
def PrefixSpanCardSaid : Prop := Claim7.holds Tryz.pinned (.plain (OpenSpec.ofChange prefixSpanSpec)) prefixSpanCard

/-- THE TIED CARD OF 'exchangepointlaw02.PrefixTexts'. -/
def prefixTextsCard : Claim7 := { stood := { row := prefixTextsRow, standIns := [], harness := (true, "abb61db42a00441c8a113be25c2c579e48c9b5a12e9703417fe5941908f62ad9"), looks := true }, kinds := [], alts := [], laidByText := true, laidKinds := [.data, .data, .data, .data, .sentinel, .sentinel, .pinned], laidTests := true, laidLooks := .later }
def PrefixTextsCardSaid : Prop := Claim7.holds Tryz.pinned (.plain (OpenSpec.ofChange prefixTextsSpec)) prefixTextsCard

/-- THE TIED CARD OF 'exchangepointlaw02.PrefixCovers'. -/
def prefixCoversCard : Claim7 := { stood := { row := prefixCoversRow, standIns := [], harness := (true, "abb61db42a00441c8a113be25c2c579e48c9b5a12e9703417fe5941908f62ad9"), looks := true }, kinds := [], alts := [], laidByText := true, laidKinds := [.data, .data, .data, .data, .sentinel, .sentinel, .pinned], laidTests := true, laidLooks := .later }
def PrefixCoversCardSaid : Prop := Claim7.holds Tryz.pinned (.plain (OpenSpec.ofChange prefixCoversSpec)) prefixCoversCard

/-- THE TIED CARD OF 'exchangepointlaw02.PrefixBits'. -/
def prefixBitsCard : Claim7 := { stood := { row := prefixBitsRow, standIns := [], harness := (true, "abb61db42a00441c8a113be25c2c579e48c9b5a12e9703417fe5941908f62ad9"), looks := true }, kinds := [], alts := [], laidByText := true, laidKinds := [.data, .data, .data, .data, .sentinel, .sentinel, .pinned], laidTests := true, laidLooks := .later }
def PrefixBitsCardSaid : Prop := Claim7.holds Tryz.pinned (.plain (OpenSpec.ofChange prefixBitsSpec)) prefixBitsCard

/-- THE TIED CARD OF 'exchangepointlaw02.PrefixMakes'. -/
def prefixMakesCard : Claim7 := { stood := { row := prefixMakesRow, standIns := [], harness := (true, "abb61db42a00441c8a113be25c2c579e48c9b5a12e9703417fe5941908f62ad9"), looks := true }, kinds := [], alts := [], laidByText := true, laidKinds := [.data, .data, .data, .data, .sentinel, .sentinel, .pinned], laidTests := true, laidLooks := .later }
def PrefixMakesCardSaid : Prop := Claim7.holds Tryz.pinned (.plain (OpenSpec.ofChange prefixMakesSpec)) prefixMakesCard

/-- THE TIED CARD OF 'exchangepointlaw02.PrefixNests'. -/
def prefixNestsCard : Claim7 := { stood := { row := prefixNestsRow, standIns := [], harness := (true, "abb61db42a00441c8a113be25c2c579e48c9b5a12e9703417fe5941908f62ad9"), looks := true }, kinds := [], alts := [], laidByText := true, laidKinds := [.data, .data, .data, .data, .sentinel, .sentinel, .pinned], laidTests := true, laidLooks := .later }
def PrefixNestsCardSaid : Prop := Claim7.holds Tryz.pinned (.plain (OpenSpec.ofChange prefixNestsSpec)) prefixNestsCard

/-- THE TIED CARD OF 'exchangepointlaw02.PrefixCommons'. -/
def prefixCommonsCard : Claim7 := { stood := { row := prefixCommonsRow, standIns := [], harness := (true, "abb61db42a00441c8a113be25c2c579e48c9b5a12e9703417fe5941908f62ad9"), looks := true }, kinds := [], alts := [], laidByText := true, laidKinds := [.data, .data, .data, .data, .sentinel, .sentinel, .pinned], laidTests := true, laidLooks := .later }
def PrefixCommonsCardSaid : Prop := Claim7.holds Tryz.pinned (.plain (OpenSpec.ofChange prefixCommonsSpec)) prefixCommonsCard

/-- THE SECOND FORM's CARD OF 'exchangepointlaw02.PrefixBack'. -/
def prefixBackUptoCard : Claim7 := { stood := { row := prefixBackUptoRow, standIns := [], harness := (true, "abb61db42a00441c8a113be25c2c579e48c9b5a12e9703417fe5941908f62ad9"), looks := true }, kinds := [], alts := [], laidByText := true, laidKinds := [.data, .data, .data, .data, .sentinel, .sentinel, .pinned], laidTests := true, laidLooks := .later }
def PrefixBackUptoCardSaid : Prop := Claim7.holds Tryz.pinned (.plain (OpenSpec.upto prefixBackSpec)) prefixBackUptoCard

/-- THE SECOND FORM's CARD OF 'exchangepointlaw02.PrefixSpan'. -/
def prefixSpanUptoCard : Claim7 := { stood := { row := prefixSpanUptoRow, standIns := [], harness := (true, "abb61db42a00441c8a113be25c2c579e48c9b5a12e9703417fe5941908f62ad9"), looks := true }, kinds := [], alts := [], laidByText := true, laidKinds := [.data, .data, .data, .data, .sentinel, .sentinel, .pinned], laidTests := true, laidLooks := .later }
def PrefixSpanUptoCardSaid : Prop := Claim7.holds Tryz.pinned (.plain (OpenSpec.upto prefixSpanSpec)) prefixSpanUptoCard

/-- THE SECOND FORM's CARD OF 'exchangepointlaw02.PrefixTexts'. -/
def prefixTextsUptoCard : Claim7 := { stood := { row := prefixTextsUptoRow, standIns := [], harness := (true, "abb61db42a00441c8a113be25c2c579e48c9b5a12e9703417fe5941908f62ad9"), looks := true }, kinds := [], alts := [], laidByText := true, laidKinds := [.data, .data, .data, .data, .sentinel, .sentinel, .pinned], laidTests := true, laidLooks := .later }
def PrefixTextsUptoCardSaid : Prop := Claim7.holds Tryz.pinned (.plain (OpenSpec.upto prefixTextsSpec)) prefixTextsUptoCard

/-- THE SECOND FORM's CARD OF 'exchangepointlaw02.PrefixCovers'. -/
def prefixCoversUptoCard : Claim7 := { stood := { row := prefixCoversUptoRow, standIns := [], harness := (true, "abb61db42a00441c8a113be25c2c579e48c9b5a12e9703417fe5941908f62ad9"), looks := true }, kinds := [], alts := [], laidByText := true, laidKinds := [.data, .data, .data, .data, .sentinel, .sentinel, .pinned], laidTests := true, laidLooks := .later }
def PrefixCoversUptoCardSaid : Prop := Claim7.holds Tryz.pinned (.plain (OpenSpec.upto prefixCoversSpec)) prefixCoversUptoCard

/-- THE SECOND FORM's CARD OF 'exchangepointlaw02.PrefixBits'. -/
def prefixBitsUptoCard : Claim7 := { stood := { row := prefixBitsUptoRow, standIns := [], harness := (true, "abb61db42a00441c8a113be25c2c579e48c9b5a12e9703417fe5941908f62ad9"), looks := true }, kinds := [], alts := [], laidByText := true, laidKinds := [.data, .data, .data, .data, .sentinel, .sentinel, .pinned], laidTests := true, laidLooks := .later }
def PrefixBitsUptoCardSaid : Prop := Claim7.holds Tryz.pinned (.plain (OpenSpec.upto prefixBitsSpec)) prefixBitsUptoCard

/-- THE SECOND FORM's CARD OF 'exchangepointlaw02.PrefixMakes'. -/
def prefixMakesUptoCard : Claim7 := { stood := { row := prefixMakesUptoRow, standIns := [], harness := (true, "abb61db42a00441c8a113be25c2c579e48c9b5a12e9703417fe5941908f62ad9"), looks := true }, kinds := [], alts := [], laidByText := true, laidKinds := [.data, .data, .data, .data, .sentinel, .sentinel, .pinned], laidTests := true, laidLooks := .later }
def PrefixMakesUptoCardSaid : Prop := Claim7.holds Tryz.pinned (.plain (OpenSpec.upto prefixMakesSpec)) prefixMakesUptoCard

/-- THE SECOND FORM's CARD OF 'exchangepointlaw02.PrefixNests'. -/
def prefixNestsUptoCard : Claim7 := { stood := { row := prefixNestsUptoRow, standIns := [], harness := (true, "abb61db42a00441c8a113be25c2c579e48c9b5a12e9703417fe5941908f62ad9"), looks := true }, kinds := [], alts := [], laidByText := true, laidKinds := [.data, .data, .data, .data, .sentinel, .sentinel, .pinned], laidTests := true, laidLooks := .later }
def PrefixNestsUptoCardSaid : Prop := Claim7.holds Tryz.pinned (.plain (OpenSpec.upto prefixNestsSpec)) prefixNestsUptoCard

/-- THE SECOND FORM's CARD OF 'exchangepointlaw02.PrefixCommons'. -/
def prefixCommonsUptoCard : Claim7 := { stood := { row := prefixCommonsUptoRow, standIns := [], harness := (true, "abb61db42a00441c8a113be25c2c579e48c9b5a12e9703417fe5941908f62ad9"), looks := true }, kinds := [], alts := [], laidByText := true, laidKinds := [.data, .data, .data, .data, .sentinel, .sentinel, .pinned], laidTests := true, laidLooks := .later }
def PrefixCommonsUptoCardSaid : Prop := Claim7.holds Tryz.pinned (.plain (OpenSpec.upto prefixCommonsSpec)) prefixCommonsUptoCard
end Rows
end Go.Proofs.YtlgnmgbnbomckaaGreatDoor
