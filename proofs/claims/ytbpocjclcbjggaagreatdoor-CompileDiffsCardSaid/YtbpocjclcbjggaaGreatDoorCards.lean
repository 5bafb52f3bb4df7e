/-
  DERIVED. GIVEN WITH THE SEED: THE CARDS: each row of YtbpocjclcbjggaaGreatDoorRows.lean that lists a variable, with what it lists TIED to the program's text (the seventh form; the later family's looks); each row that meets fmt, with fmt's text TOLD by the authors' own Lean function (tested against real Go, not proved from fmt's source: count such statements apart). THE CARD IS WHAT COUNTS. Prove the row's statement (the work); the ties are given (YtbpocjclcbjggaaGreatDoorTie.lean); close each card by the builder's one call (the guide's Derived/Test/ToyasCard.lean, 'card_holds'). Laid BY PROGRAM, IN A SANDBOX (cutbox-door.mjs). By AI agents, Wed Nov 11 2026. No macro, syntax, notation, axiom, sorry.
-/
import Derived.Test.YtbpocjclcbjggaaGreatDoorRows
import GoSem.ClaimSeven
namespace Go.Proofs.YtbpocjclcbjggaaGreatDoor
namespace Rows

/-- THE TIED CARD OF 'exchangepointlaw09.CompileRules'. -/
def compileRulesCard : Claim7 := { stood := { row := compileRulesRow, standIns := [], harness := (true, "1cb1ee46644cf72de8463c16b9477c9b0632e15a903bca095dd2d2356243a270"), looks := false }, kinds := [], alts := [], laidByText := true, laidKinds := [.data, .pinned], laidTests := true, laidLooks := .later }
def CompileRulesCardSaid : Prop := Claim7.holds Tryz.pinned (.plain (OpenSpec.ofChange compileRulesSpec)) compileRulesCard

/-- THE TIED CARD OF 'exchangepointlaw09.CompileFinds'. -/
def compileFindsCard : Claim7 := { stood := { row := compileFindsRow, standIns := [], harness := (true, "1cb1ee46644cf72de8463c16b9477c9b0632e15a903bca095dd2d2356243a270"), looks := false }, kinds := [], alts := [], laidByText := true, laidKinds := [.data, .pinned], laidTests := true, laidLooks := .later }
def CompileFindsCardSaid : Prop := Claim7.holds Tryz.pinned (.plain (OpenSpec.ofChange compileFindsSpec)) compileFindsCard

/-- THE TIED CARD OF 'exchangepointlaw09.CompileOwners'. -/
def compileOwnersCard : Claim7 := { stood := { row := compileOwnersRow, standIns := [], harness := (true, "1cb1ee46644cf72de8463c16b9477c9b0632e15a903bca095dd2d2356243a270"), looks := false }, kinds := [], alts := [], laidByText := true, laidKinds := [.data, .pinned], laidTests := true, laidLooks := .later }
def CompileOwnersCardSaid : Prop := Claim7.holds Tryz.pinned (.plain (OpenSpec.ofChange compileOwnersSpec)) compileOwnersCard

/-- THE TIED CARD OF 'exchangepointlaw09.CompileDiffs'. -/
def compileDiffsCard : Claim7 := { stood := { row := compileDiffsRow, standIns := [], harness := (true, "1cb1ee46644cf72de8463c16b9477c9b0632e15a903bca095dd2d2356243a270"), looks := false }, kinds := [], alts := [], laidByText := true, laidKinds := [.data, .pinned], laidTests := true, laidLooks := .later }
def CompileDiffsCardSaid : Prop := Claim7.holds Tryz.pinned (.plain (OpenSpec.ofChange compileDiffsSpec)) compileDiffsCard

/-- THE TIED CARD OF 'exchangepointlaw09.CompileText'. -/
def compileTextCard : Claim7 := { stood := { row := compileTextRow, standIns := [], harness := (true, "1cb1ee46644cf72de8463c16b9477c9b0632e15a903bca095dd2d2356243a270"), looks := false }, kinds := [], alts := [], laidByText := true, laidKinds := [.data, .data, .data, .data, .pinned], laidTests := true, laidLooks := .later }
def CompileTextCardSaid : Prop := Claim7.holds Tryz.pinned (.plain (OpenSpec.ofChange compileTextSpec)) compileTextCard

/-- THE SECOND FORM's CARD OF 'exchangepointlaw09.CompileRules'. -/
def compileRulesUptoCard : Claim7 := { stood := { row := compileRulesUptoRow, standIns := [], harness := (true, "1cb1ee46644cf72de8463c16b9477c9b0632e15a903bca095dd2d2356243a270"), looks := false }, kinds := [], alts := [], laidByText := true, laidKinds := [.data, .pinned], laidTests := true, laidLooks := .later }
def CompileRulesUptoCardSaid : Prop := Claim7.holds Tryz.pinned (.plain (OpenSpec.upto compileRulesSpec)) compileRulesUptoCard

/-- THE SECOND FORM's CARD OF 'exchangepointlaw09.CompileFinds'. -/
def compileFindsUptoCard : Claim7 := { stood := { row := compileFindsUptoRow, standIns := [], harness := (true, "1cb1ee46644cf72de8463c16b9477c9b0632e15a903bca095dd2d2356243a270"), looks := false }, kinds := [], alts := [], laidByText := true, laidKinds := [.data, .pinned], laidTests := true, laidLooks := .later }
def CompileFindsUptoCardSaid : Prop := Claim7.holds Tryz.pinned (.plain (OpenSpec.upto compileFindsSpec)) compileFindsUptoCard

/-- THE SECOND FORM's CARD OF 'exchangepointlaw09.CompileOwners'. -/
def compileOwnersUptoCard : Claim7 := { stood := { row := compileOwnersUptoRow, standIns := [], harness := (true, "1cb1ee46644cf72de8463c16b9477c9b0632e15a903bca095dd2d2356243a270"), looks := false }, kinds := [], alts := [], laidByText := true, laidKinds := [.data, .pinned], laidTests := true, laidLooks := .later }
def CompileOwnersUptoCardSaid : Prop := Claim7.holds Tryz.pinned (.plain (OpenSpec.upto compileOwnersSpec)) compileOwnersUptoCard

/-- THE SECOND FORM's CARD OF 'exchangepointlaw09.CompileDiffs'. -/
def compileDiffsUptoCard : Claim7 := { stood := { row := compileDiffsUptoRow, standIns := [], harness := (true, "1cb1ee46644cf72de8463c16b9477c9b0632e15a903bca095dd2d2356243a270"), looks := false }, kinds := [], alts := [], laidByText := true, laidKinds := [.data, .pinned], laidTests := true, laidLooks := .later }
def CompileDiffsUptoCardSaid : Prop := Claim7.holds Tryz.pinned (.plain (OpenSpec.upto compileDiffsSpec)) compileDiffsUptoCard

/-- THE SECOND FORM's CARD OF 'exchangepointlaw09.CompileText'. -/
def compileTextUptoCard : Claim7 := { stood := { row := compileTextUptoRow, standIns := [], harness := (true, "1cb1ee46644cf72de8463c16b9477c9b0632e15a903bca095dd2d2356243a270"), looks := false }, kinds := [], alts := [], laidByText := true, laidKinds := [.data, .data, .data, .data, .pinned], laidTests := true, laidLooks := .later }
def CompileTextUptoCardSaid : Prop := Claim7.holds Tryz.pinned (.plain (OpenSpec.upto compileTextSpec)) compileTextUptoCard
end Rows
end Go.Proofs.YtbpocjclcbjggaaGreatDoor
