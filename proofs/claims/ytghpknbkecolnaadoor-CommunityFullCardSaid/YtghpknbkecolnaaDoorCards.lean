/-
  DERIVED. GIVEN WITH THE SEED: THE CARDS: each row of YtghpknbkecolnaaDoorRows.lean that lists a variable, with what it lists TIED to the program's text (the seventh form; the later family's looks); each row that meets fmt, with fmt's text TOLD by the authors' own Lean function (tested against real Go, not proved from fmt's source: count such statements apart). THE CARD IS WHAT COUNTS. Prove the row's statement (the work); the ties are given (YtghpknbkecolnaaDoorTie.lean); close each card by the builder's one call (the guide's Derived/Test/ToyasCard.lean, 'card_holds'). Laid BY PROGRAM, IN A SANDBOX (cutbox-door.mjs). By AI agents, Wed Nov 11 2026. No macro, syntax, notation, axiom, sorry.
-/
import Derived.Test.YtghpknbkecolnaaDoorRows
import GoSem.ClaimSeven
namespace Go.Proofs.YtghpknbkecolnaaDoor
namespace Rows

/-- THE TIED CARD OF 'exchangepointlaw17.CommunityFull'. -/
def communityFullCard : Claim7 := { stood := { row := communityFullRow, standIns := [], harness := (true, "24ccfbfae738b66a0271f08a8c926f82c1d8c772abb8488dfed6b391886a42f7"), looks := true }, kinds := [], alts := [], laidByText := true, laidKinds := [.data, .data, .data, .data, .sentinel, .sentinel, .listed, .data, .pinned], laidTests := true, laidLooks := .later }
def CommunityFullCardSaid : Prop := Claim7.holds Tryd.pinned (.plain (OpenSpec.ofChange communityFullSpec)) communityFullCard

/-- THE SECOND FORM's CARD OF 'exchangepointlaw17.CommunityFull'. -/
def communityFullUptoCard : Claim7 := { stood := { row := communityFullUptoRow, standIns := [], harness := (true, "24ccfbfae738b66a0271f08a8c926f82c1d8c772abb8488dfed6b391886a42f7"), looks := true }, kinds := [], alts := [], laidByText := true, laidKinds := [.data, .data, .data, .data, .sentinel, .sentinel, .listed, .data, .pinned], laidTests := true, laidLooks := .later }
def CommunityFullUptoCardSaid : Prop := Claim7.holds Tryd.pinned (.plain (OpenSpec.upto communityFullSpec)) communityFullUptoCard
end Rows
end Go.Proofs.YtghpknbkecolnaaDoor
