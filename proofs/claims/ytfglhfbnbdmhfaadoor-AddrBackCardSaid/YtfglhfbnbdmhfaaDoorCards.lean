/-
  DERIVED. GIVEN WITH THE SEED: THE CARDS: each row of YtfglhfbnbdmhfaaDoorRows.lean that lists a variable, with what it lists TIED to the program's text (the seventh form; the later family's looks); each row that meets fmt, with fmt's text TOLD by the authors' own Lean function (tested against real Go, not proved from fmt's source: count such statements apart). THE CARD IS WHAT COUNTS. Prove the row's statement (the work); the ties are given (YtfglhfbnbdmhfaaDoorTie.lean); close each card by the builder's one call (the guide's Derived/Test/ToyasCard.lean, 'card_holds'). Laid BY PROGRAM, IN A SANDBOX (cutbox-door.mjs). By AI agents, Wed Nov 11 2026. No macro, syntax, notation, axiom, sorry.
-/
import Derived.Test.YtfglhfbnbdmhfaaDoorRows
import GoSem.ClaimSeven
namespace Go.Proofs.YtfglhfbnbdmhfaaDoor
namespace Rows

/-- THE TIED CARD OF 'exchangepointlaw01.AddrShort'. -/
def addrShortCard : Claim7 := { stood := { row := addrShortRow, standIns := [], harness := (true, "d6a0c9d08dcdea2ccc6c4722ecc28a77a71efb226c9249fda31a98191e6da971"), looks := true }, kinds := [], alts := [], laidByText := true, laidKinds := [.data, .data, .data, .data, .sentinel, .sentinel, .pinned], laidTests := true, laidLooks := .later }
def AddrShortCardSaid : Prop := Claim7.holds Tryd.pinned (.plain (OpenSpec.ofChange addrShortSpec)) addrShortCard

/-- THE TIED CARD OF 'exchangepointlaw01.AddrSteps'. -/
def addrStepsCard : Claim7 := { stood := { row := addrStepsRow, standIns := [], harness := (true, "d6a0c9d08dcdea2ccc6c4722ecc28a77a71efb226c9249fda31a98191e6da971"), looks := true }, kinds := [], alts := [], laidByText := true, laidKinds := [.data, .data, .data, .data, .sentinel, .sentinel, .pinned], laidTests := true, laidLooks := .later }
def AddrStepsCardSaid : Prop := Claim7.holds Tryd.pinned (.plain (OpenSpec.ofChange addrStepsSpec)) addrStepsCard

/-- THE TIED CARD OF 'exchangepointlaw01.AddrOrder'. -/
def addrOrderCard : Claim7 := { stood := { row := addrOrderRow, standIns := [], harness := (true, "d6a0c9d08dcdea2ccc6c4722ecc28a77a71efb226c9249fda31a98191e6da971"), looks := true }, kinds := [], alts := [], laidByText := true, laidKinds := [.data, .data, .data, .data, .sentinel, .sentinel, .pinned], laidTests := true, laidLooks := .later }
def AddrOrderCardSaid : Prop := Claim7.holds Tryd.pinned (.plain (OpenSpec.ofChange addrOrderSpec)) addrOrderCard

/-- THE TIED CARD OF 'exchangepointlaw01.AddrOrders'. -/
def addrOrdersCard : Claim7 := { stood := { row := addrOrdersRow, standIns := [], harness := (true, "d6a0c9d08dcdea2ccc6c4722ecc28a77a71efb226c9249fda31a98191e6da971"), looks := true }, kinds := [], alts := [], laidByText := true, laidKinds := [.data, .data, .data, .data, .sentinel, .sentinel, .pinned], laidTests := true, laidLooks := .later }
def AddrOrdersCardSaid : Prop := Claim7.holds Tryd.pinned (.plain (OpenSpec.ofChange addrOrdersSpec)) addrOrdersCard

/-- THE TIED CARD OF 'exchangepointlaw01.AddrBack'. -/
def addrBackCard : Claim7 := { stood := { row := addrBackRow, standIns := [], harness := (true, "d6a0c9d08dcdea2ccc6c4722ecc28a77a71efb226c9249fda31a98191e6da971"), looks := true }, kinds := [], alts := [], laidByText := true, laidKinds := [.data, .data, .data, .data, .sentinel, .sentinel, .pinned, .pinned], laidTests := true, laidLooks := .later }
def AddrBackCardSaid : Prop := Claim7.holds Tryd.pinned (.plain (OpenSpec.ofChange addrBackSpec)) addrBackCard

/-- THE SECOND FORM's CARD OF 'exchangepointlaw01.AddrShort'. -/
def addrShortUptoCard : Claim7 := { stood := { row := addrShortUptoRow, standIns := [], harness := (true, "d6a0c9d08dcdea2ccc6c4722ecc28a77a71efb226c9249fda31a98191e6da971"), looks := true }, kinds := [], alts := [], laidByText := true, laidKinds := [.data, .data, .data, .data, .sentinel, .sentinel, .pinned], laidTests := true, laidLooks := .later }
def AddrShortUptoCardSaid : Prop := Claim7.holds Tryd.pinned (.plain (OpenSpec.upto addrShortSpec)) addrShortUptoCard

/-- THE SECOND FORM's CARD OF 'exchangepointlaw01.AddrSteps'. -/
def addrStepsUptoCard : Claim7 := { stood := { row := addrStepsUptoRow, standIns := [], harness := (true, "d6a0c9d08dcdea2ccc6c4722ecc28a77a71efb226c9249fda31a98191e6da971"), looks := true }, kinds := [], alts := [], laidByText := true, laidKinds := [.data, .data, .data, .data, .sentinel, .sentinel, .pinned], laidTests := true, laidLooks := .later }
def AddrStepsUptoCardSaid : Prop := Claim7.holds Tryd.pinned (.plain (OpenSpec.upto addrStepsSpec)) addrStepsUptoCard

/-- THE SECOND FORM's CARD OF 'exchangepointlaw01.AddrOrder'. -/
def addrOrderUptoCard : Claim7 := { stood := { row := addrOrderUptoRow, standIns := [], harness := (true, "d6a0c9d08dcdea2ccc6c4722ecc28a77a71efb226c9249fda31a98191e6da971"), looks := true }, kinds := [], alts := [], laidByText := true, laidKinds := [.data, .data, .data, .data, .sentinel, .sentinel, .pinned], laidTests := true, laidLooks := .later }
def AddrOrderUptoCardSaid : Prop := Claim7.holds Tryd.pinned (.plain (OpenSpec.upto addrOrderSpec)) addrOrderUptoCard

/-- THE SECOND FORM's CARD OF 'exchangepointlaw01.AddrOrders'. -/
def addrOrdersUptoCard : Claim7 := { stood := { row := addrOrdersUptoRow, standIns := [], harness := (true, "d6a0c9d08dcdea2ccc6c4722ecc28a77a71efb226c9249fda31a98191e6da971"), looks := true }, kinds := [], alts := [], laidByText := true, laidKinds := [.data, .data, .data, .data, .sentinel, .sentinel, .pinned], laidTests := true, laidLooks := .later }
def AddrOrdersUptoCardSaid : Prop := Claim7.holds Tryd.pinned (.plain (OpenSpec.upto addrOrdersSpec)) addrOrdersUptoCard

/-- THE SECOND FORM's CARD OF 'exchangepointlaw01.AddrBack'. -/
def addrBackUptoCard : Claim7 := { stood := { row := addrBackUptoRow, standIns := [], harness := (true, "d6a0c9d08dcdea2ccc6c4722ecc28a77a71efb226c9249fda31a98191e6da971"), looks := true }, kinds := [], alts := [], laidByText := true, laidKinds := [.data, .data, .data, .data, .sentinel, .sentinel, .pinned, .pinned], laidTests := true, laidLooks := .later }
def AddrBackUptoCardSaid : Prop := Claim7.holds Tryd.pinned (.plain (OpenSpec.upto addrBackSpec)) addrBackUptoCard
end Rows
end Go.Proofs.YtfglhfbnbdmhfaaDoor
