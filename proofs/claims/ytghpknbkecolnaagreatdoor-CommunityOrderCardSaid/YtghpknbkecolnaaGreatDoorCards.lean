/-
  DERIVED. GIVEN WITH THE SEED: THE CARDS: each row of YtghpknbkecolnaaGreatDoorRows.lean that lists a variable, with what it lists TIED to the program's text (the seventh form; the later family's looks); each row that meets fmt, with fmt's text TOLD by the authors' own Lean function (tested against real Go, not proved from fmt's source: count such statements apart). THE CARD IS WHAT COUNTS. Prove the row's statement (the work); the ties are given (YtghpknbkecolnaaGreatDoorTie.lean); close each card by the builder's one call (the guide's Derived/Test/ToyasCard.lean, 'card_holds'). Laid BY PROGRAM, IN A SANDBOX (cutbox-door.mjs). By AI agents, Wed Nov 11 2026. No macro, syntax, notation, axiom, sorry.
-/
import Derived.Test.YtghpknbkecolnaaGreatDoorRows
import GoSem.ClaimSeven
namespace Go.Proofs.YtghpknbkecolnaaGreatDoor
namespace Rows

/-- THE TIED CARD OF 'exchangepointlaw17.CommunityTexts'. -/
def communityTextsCard : Claim7 := { stood := { row := communityTextsRow, standIns := [], harness := (true, "e79ed493122dca2e2770e451de7e357bd985325f22980f4e5be57072ed9f834c"), looks := true }, kinds := [], alts := [], laidByText := true, laidKinds := [.data, .data, .data, .data, .sentinel, .sentinel, .listed, .data, .pinned], laidTests := true, laidLooks := .later }
def CommunityTextsCardSaid : Prop := Claim7.holds Tryz.pinned (.plain (OpenSpec.ofChange communityTextsSpec)) communityTextsCard

/-- THE TIED CARD OF 'exchangepointlaw17.CommunityLists'. -/
def communityListsCard : Claim7 := { stood := { row := communityListsRow, standIns := [], harness := (true, "e79ed493122dca2e2770e451de7e357bd985325f22980f4e5be57072ed9f834c"), looks := true }, kinds := [], alts := [], laidByText := true, laidKinds := [.data, .data, .data, .data, .sentinel, .sentinel, .listed, .data, .pinned], laidTests := true, laidLooks := .later }
def CommunityListsCardSaid : Prop := Claim7.holds Tryz.pinned (.plain (OpenSpec.ofChange communityListsSpec)) communityListsCard

/-- THE TIED CARD OF 'exchangepointlaw17.CommunityLarge'. -/
def communityLargeCard : Claim7 := { stood := { row := communityLargeRow, standIns := [], harness := (true, "e79ed493122dca2e2770e451de7e357bd985325f22980f4e5be57072ed9f834c"), looks := true }, kinds := [], alts := [], laidByText := true, laidKinds := [.data, .data, .data, .data, .sentinel, .sentinel, .listed, .data, .pinned], laidTests := true, laidLooks := .later }
def CommunityLargeCardSaid : Prop := Claim7.holds Tryz.pinned (.plain (OpenSpec.ofChange communityLargeSpec)) communityLargeCard

/-- THE TIED CARD OF 'exchangepointlaw17.CommunityOrder'. -/
def communityOrderCard : Claim7 := { stood := { row := communityOrderRow, standIns := [], harness := (true, "e79ed493122dca2e2770e451de7e357bd985325f22980f4e5be57072ed9f834c"), looks := true }, kinds := [], alts := [], laidByText := true, laidKinds := [.data, .data, .data, .data, .sentinel, .sentinel, .listed, .data, .pinned], laidTests := true, laidLooks := .later }
def CommunityOrderCardSaid : Prop := Claim7.holds Tryz.pinned (.plain (OpenSpec.ofChange communityOrderSpec)) communityOrderCard

/-- THE SECOND FORM's CARD OF 'exchangepointlaw17.CommunityTexts'. -/
def communityTextsUptoCard : Claim7 := { stood := { row := communityTextsUptoRow, standIns := [], harness := (true, "e79ed493122dca2e2770e451de7e357bd985325f22980f4e5be57072ed9f834c"), looks := true }, kinds := [], alts := [], laidByText := true, laidKinds := [.data, .data, .data, .data, .sentinel, .sentinel, .listed, .data, .pinned], laidTests := true, laidLooks := .later }
def CommunityTextsUptoCardSaid : Prop := Claim7.holds Tryz.pinned (.plain (OpenSpec.upto communityTextsSpec)) communityTextsUptoCard

/-- THE SECOND FORM's CARD OF 'exchangepointlaw17.CommunityLists'. -/
def communityListsUptoCard : Claim7 := { stood := { row := communityListsUptoRow, standIns := [], harness := (true, "e79ed493122dca2e2770e451de7e357bd985325f22980f4e5be57072ed9f834c"), looks := true }, kinds := [], alts := [], laidByText := true, laidKinds := [.data, .data, .data, .data, .sentinel, .sentinel, .listed, .data, .pinned], laidTests := true, laidLooks := .later }
def CommunityListsUptoCardSaid : Prop := Claim7.holds Tryz.pinned (.plain (OpenSpec.upto communityListsSpec)) communityListsUptoCard

/-- THE SECOND FORM's CARD OF 'exchangepointlaw17.CommunityLarge'. -/
def communityLargeUptoCard : Claim7 := { stood := { row := communityLargeUptoRow, standIns := [], harness := (true, "e79ed493122dca2e2770e451de7e357bd985325f22980f4e5be57072ed9f834c"), looks := true }, kinds := [], alts := [], laidByText := true, laidKinds := [.data, .data, .data, .data, .sentinel, .sentinel, .listed, .data, .pinned], laidTests := true, laidLooks := .later }
def CommunityLargeUptoCardSaid : Prop := Claim7.holds Tryz.pinned (.plain (OpenSpec.upto communityLargeSpec)) communityLargeUptoCard

/-- THE SECOND FORM's CARD OF 'exchangepointlaw17.CommunityOrder'. -/
def communityOrderUptoCard : Claim7 := { stood := { row := communityOrderUptoRow, standIns := [], harness := (true, "e79ed493122dca2e2770e451de7e357bd985325f22980f4e5be57072ed9f834c"), looks := true }, kinds := [], alts := [], laidByText := true, laidKinds := [.data, .data, .data, .data, .sentinel, .sentinel, .listed, .data, .pinned], laidTests := true, laidLooks := .later }
def CommunityOrderUptoCardSaid : Prop := Claim7.holds Tryz.pinned (.plain (OpenSpec.upto communityOrderSpec)) communityOrderUptoCard
end Rows
end Go.Proofs.YtghpknbkecolnaaGreatDoor
