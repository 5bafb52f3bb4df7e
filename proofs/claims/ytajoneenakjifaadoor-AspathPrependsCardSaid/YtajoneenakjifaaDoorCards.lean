/-
  DERIVED. GIVEN WITH THE SEED: THE CARDS: each row of YtajoneenakjifaaDoorRows.lean that lists a variable, with what it lists TIED to the program's text (the seventh form; the later family's looks); each row that meets fmt, with fmt's text TOLD by the authors' own Lean function (tested against real Go, not proved from fmt's source: count such statements apart). THE CARD IS WHAT COUNTS. Prove the row's statement (the work); the ties are given (YtajoneenakjifaaDoorTie.lean); close each card by the builder's one call (the guide's Derived/Test/ToyasCard.lean, 'card_holds'). Laid BY PROGRAM, IN A SANDBOX (cutbox-door.mjs). By AI agents, Wed Nov 11 2026. No macro, syntax, notation, axiom, sorry.
-/
import Derived.Test.YtajoneenakjifaaDoorRows
import GoSem.ClaimSeven
namespace Go.Proofs.YtajoneenakjifaaDoor
namespace Rows

/-- THE TIED CARD OF 'exchangepointlaw15.AspathBack'. -/
def aspathBackCard : Claim7 := { stood := { row := aspathBackRow, standIns := [], harness := (true, "a2d7ecfa8dbf082c705068bf50f063d45bf1e39e4ecd4ae3fefb9b6d868561dd"), looks := true }, kinds := [], alts := [], laidByText := true, laidKinds := [.data, .data, .data, .data, .sentinel, .sentinel, .listed, .data, .pinned], laidTests := true, laidLooks := .later }
def AspathBackCardSaid : Prop := Claim7.holds Tryd.pinned (.plain (OpenSpec.ofChange aspathBackSpec)) aspathBackCard

/-- THE TIED CARD OF 'exchangepointlaw15.AspathCounts'. -/
def aspathCountsCard : Claim7 := { stood := { row := aspathCountsRow, standIns := [], harness := (true, "a2d7ecfa8dbf082c705068bf50f063d45bf1e39e4ecd4ae3fefb9b6d868561dd"), looks := true }, kinds := [], alts := [], laidByText := true, laidKinds := [.data, .data, .data, .data, .sentinel, .sentinel, .listed, .data, .pinned], laidTests := true, laidLooks := .later }
def AspathCountsCardSaid : Prop := Claim7.holds Tryd.pinned (.plain (OpenSpec.ofChange aspathCountsSpec)) aspathCountsCard

/-- THE TIED CARD OF 'exchangepointlaw15.AspathReads'. -/
def aspathReadsCard : Claim7 := { stood := { row := aspathReadsRow, standIns := [], harness := (true, "a2d7ecfa8dbf082c705068bf50f063d45bf1e39e4ecd4ae3fefb9b6d868561dd"), looks := true }, kinds := [], alts := [], laidByText := true, laidKinds := [.data, .data, .data, .data, .sentinel, .sentinel, .listed, .data, .pinned], laidTests := true, laidLooks := .later }
def AspathReadsCardSaid : Prop := Claim7.holds Tryd.pinned (.plain (OpenSpec.ofChange aspathReadsSpec)) aspathReadsCard

/-- THE TIED CARD OF 'exchangepointlaw15.AspathPrepends'. -/
def aspathPrependsCard : Claim7 := { stood := { row := aspathPrependsRow, standIns := [], harness := (true, "a2d7ecfa8dbf082c705068bf50f063d45bf1e39e4ecd4ae3fefb9b6d868561dd"), looks := true }, kinds := [], alts := [], laidByText := true, laidKinds := [.data, .data, .data, .data, .sentinel, .sentinel, .listed, .data, .pinned], laidTests := true, laidLooks := .later }
def AspathPrependsCardSaid : Prop := Claim7.holds Tryd.pinned (.plain (OpenSpec.ofChange aspathPrependsSpec)) aspathPrependsCard

/-- THE TIED CARD OF 'exchangepointlaw15.AspathLonger'. -/
def aspathLongerCard : Claim7 := { stood := { row := aspathLongerRow, standIns := [], harness := (true, "a2d7ecfa8dbf082c705068bf50f063d45bf1e39e4ecd4ae3fefb9b6d868561dd"), looks := true }, kinds := [], alts := [], laidByText := true, laidKinds := [.data, .data, .data, .data, .sentinel, .sentinel, .listed, .data, .pinned], laidTests := true, laidLooks := .later }
def AspathLongerCardSaid : Prop := Claim7.holds Tryd.pinned (.plain (OpenSpec.ofChange aspathLongerSpec)) aspathLongerCard

/-- THE SECOND FORM's CARD OF 'exchangepointlaw15.AspathBack'. -/
def aspathBackUptoCard : Claim7 := { stood := { row := aspathBackUptoRow, standIns := [], harness := (true, "a2d7ecfa8dbf082c705068bf50f063d45bf1e39e4ecd4ae3fefb9b6d868561dd"), looks := true }, kinds := [], alts := [], laidByText := true, laidKinds := [.data, .data, .data, .data, .sentinel, .sentinel, .listed, .data, .pinned], laidTests := true, laidLooks := .later }
def AspathBackUptoCardSaid : Prop := Claim7.holds Tryd.pinned (.plain (OpenSpec.upto aspathBackSpec)) aspathBackUptoCard

/-- THE SECOND FORM's CARD OF 'exchangepointlaw15.AspathCounts'. -/
def aspathCountsUptoCard : Claim7 := { stood := { row := aspathCountsUptoRow, standIns := [], harness := (true, "a2d7ecfa8dbf082c705068bf50f063d45bf1e39e4ecd4ae3fefb9b6d868561dd"), looks := true }, kinds := [], alts := [], laidByText := true, laidKinds := [.data, .data, .data, .data, .sentinel, .sentinel, .listed, .data, .pinned], laidTests := true, laidLooks := .later }
def AspathCountsUptoCardSaid : Prop := Claim7.holds Tryd.pinned (.plain (OpenSpec.upto aspathCountsSpec)) aspathCountsUptoCard

/-- THE SECOND FORM's CARD OF 'exchangepointlaw15.AspathReads'. -/
def aspathReadsUptoCard : Claim7 := { stood := { row := aspathReadsUptoRow, standIns := [], harness := (true, "a2d7ecfa8dbf082c705068bf50f063d45bf1e39e4ecd4ae3fefb9b6d868561dd"), looks := true }, kinds := [], alts := [], laidByText := true, laidKinds := [.data, .data, .data, .data, .sentinel, .sentinel, .listed, .data, .pinned], laidTests := true, laidLooks := .later }
def AspathReadsUptoCardSaid : Prop := Claim7.holds Tryd.pinned (.plain (OpenSpec.upto aspathReadsSpec)) aspathReadsUptoCard

/-- THE SECOND FORM's CARD OF 'exchangepointlaw15.AspathPrepends'. -/
def aspathPrependsUptoCard : Claim7 := { stood := { row := aspathPrependsUptoRow, standIns := [], harness := (true, "a2d7ecfa8dbf082c705068bf50f063d45bf1e39e4ecd4ae3fefb9b6d868561dd"), looks := true }, kinds := [], alts := [], laidByText := true, laidKinds := [.data, .data, .data, .data, .sentinel, .sentinel, .listed, .data, .pinned], laidTests := true, laidLooks := .later }
def AspathPrependsUptoCardSaid : Prop := Claim7.holds Tryd.pinned (.plain (OpenSpec.upto aspathPrependsSpec)) aspathPrependsUptoCard

/-- THE SECOND FORM's CARD OF 'exchangepointlaw15.AspathLonger'. -/
def aspathLongerUptoCard : Claim7 := { stood := { row := aspathLongerUptoRow, standIns := [], harness := (true, "a2d7ecfa8dbf082c705068bf50f063d45bf1e39e4ecd4ae3fefb9b6d868561dd"), looks := true }, kinds := [], alts := [], laidByText := true, laidKinds := [.data, .data, .data, .data, .sentinel, .sentinel, .listed, .data, .pinned], laidTests := true, laidLooks := .later }
def AspathLongerUptoCardSaid : Prop := Claim7.holds Tryd.pinned (.plain (OpenSpec.upto aspathLongerSpec)) aspathLongerUptoCard
end Rows
end Go.Proofs.YtajoneenakjifaaDoor
