/-
  DERIVED. GIVEN WITH THE SEED: THE CARDS: each row of YtgfmodmeimhhpaaDoorRows.lean that lists a variable, with what it lists TIED to the program's text (the seventh form; the later family's looks); each row that meets fmt, with fmt's text TOLD by the authors' own Lean function (tested against real Go, not proved from fmt's source: count such statements apart). THE CARD IS WHAT COUNTS. Prove the row's statement (the work); the ties are given (YtgfmodmeimhhpaaDoorTie.lean); close each card by the builder's one call (the guide's Derived/Test/ToyasCard.lean, 'card_holds'). Laid BY PROGRAM, IN A SANDBOX (cutbox-door.mjs). By AI agents, Wed Nov 11 2026. No macro, syntax, notation, axiom, sorry.
-/
import Derived.Test.YtgfmodmeimhhpaaDoorRows
import GoSem.ClaimSeven
namespace Go.Proofs.YtgfmodmeimhhpaaDoor
namespace Rows

/-- THE TIED CARD OF 'exchangepointlaw26.WishPolicies'. -/
def wishPoliciesCard : Claim7 := { stood := { row := wishPoliciesRow, standIns := [], harness := (true, "c09c30ffc5729387764dd64315ea05e7d5448b1191cd1dfdb9e8b4aad7ea829f"), looks := false }, kinds := [], alts := [], laidByText := true, laidKinds := [.mapped], laidTests := true, laidLooks := .later }
def WishPoliciesCardSaid : Prop := Claim7.holds Tryd.pinned (.plain (OpenSpec.ofChange wishPoliciesSpec)) wishPoliciesCard

/-- THE TIED CARD OF 'exchangepointlaw26.WishOthers'. -/
def wishOthersCard : Claim7 := { stood := { row := wishOthersRow, standIns := [], harness := (true, "c09c30ffc5729387764dd64315ea05e7d5448b1191cd1dfdb9e8b4aad7ea829f"), looks := false }, kinds := [], alts := [], laidByText := true, laidKinds := [.mapped], laidTests := true, laidLooks := .later }
def WishOthersCardSaid : Prop := Claim7.holds Tryd.pinned (.plain (OpenSpec.ofChange wishOthersSpec)) wishOthersCard

/-- THE SECOND FORM's CARD OF 'exchangepointlaw26.WishPolicies'. -/
def wishPoliciesUptoCard : Claim7 := { stood := { row := wishPoliciesUptoRow, standIns := [], harness := (true, "c09c30ffc5729387764dd64315ea05e7d5448b1191cd1dfdb9e8b4aad7ea829f"), looks := false }, kinds := [], alts := [], laidByText := true, laidKinds := [.mapped], laidTests := true, laidLooks := .later }
def WishPoliciesUptoCardSaid : Prop := Claim7.holds Tryd.pinned (.plain (OpenSpec.upto wishPoliciesSpec)) wishPoliciesUptoCard

/-- THE SECOND FORM's CARD OF 'exchangepointlaw26.WishOthers'. -/
def wishOthersUptoCard : Claim7 := { stood := { row := wishOthersUptoRow, standIns := [], harness := (true, "c09c30ffc5729387764dd64315ea05e7d5448b1191cd1dfdb9e8b4aad7ea829f"), looks := false }, kinds := [], alts := [], laidByText := true, laidKinds := [.mapped], laidTests := true, laidLooks := .later }
def WishOthersUptoCardSaid : Prop := Claim7.holds Tryd.pinned (.plain (OpenSpec.upto wishOthersSpec)) wishOthersUptoCard
end Rows
end Go.Proofs.YtgfmodmeimhhpaaDoor
