/-
  DERIVED. GIVEN WITH THE SEED: THE CARDS: each row of YtgajbpiclnekkaaDoorRows.lean that lists a variable, with what it lists TIED to the program's text (the seventh form; the later family's looks); each row that meets fmt, with fmt's text TOLD by the authors' own Lean function (tested against real Go, not proved from fmt's source: count such statements apart). THE CARD IS WHAT COUNTS. Prove the row's statement (the work); the ties are given (YtgajbpiclnekkaaDoorTie.lean); close each card by the builder's one call (the guide's Derived/Test/ToyasCard.lean, 'card_holds'). Laid BY PROGRAM, IN A SANDBOX (cutbox-door.mjs). By AI agents, Wed Nov 11 2026. No macro, syntax, notation, axiom, sorry.
-/
import Derived.Test.YtgajbpiclnekkaaDoorRows
import GoSem.ClaimSeven
namespace Go.Proofs.YtgajbpiclnekkaaDoor
namespace Rows

/-- THE TIED CARD OF 'exchangepointlaw36.GlassTexts'. -/
def glassTextsCard : Claim7 := { stood := { row := glassTextsRow, standIns := [], harness := (true, "4e80f31eadf2004f4bb81a94ca456f0d8a07f27e27d3598ab0aab5886a18a619"), looks := true }, kinds := [], alts := [], laidByText := true, laidKinds := [.data, .data, .data, .data, .sentinel, .sentinel, .pinned], laidTests := true, laidLooks := .later }
def GlassTextsCardSaid : Prop := Claim7.holds Tryd.pinned (.plain (OpenSpec.ofChange glassTextsSpec)) glassTextsCard

/-- THE SECOND FORM's CARD OF 'exchangepointlaw36.GlassTexts'. -/
def glassTextsUptoCard : Claim7 := { stood := { row := glassTextsUptoRow, standIns := [], harness := (true, "4e80f31eadf2004f4bb81a94ca456f0d8a07f27e27d3598ab0aab5886a18a619"), looks := true }, kinds := [], alts := [], laidByText := true, laidKinds := [.data, .data, .data, .data, .sentinel, .sentinel, .pinned], laidTests := true, laidLooks := .later }
def GlassTextsUptoCardSaid : Prop := Claim7.holds Tryd.pinned (.plain (OpenSpec.upto glassTextsSpec)) glassTextsUptoCard
end Rows
end Go.Proofs.YtgajbpiclnekkaaDoor
