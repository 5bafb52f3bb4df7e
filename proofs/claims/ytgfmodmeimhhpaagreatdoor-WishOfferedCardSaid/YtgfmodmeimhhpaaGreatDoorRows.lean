/-
  NARROWER THAN 'FOR EVERY INPUT', by the rows' own cells (each row's printed sentence says how): WishVerdicts: laid · WishExports: laid · WishOffered: laid.
  DERIVED. THE GIVEN ROWS OF THIS SEAT. 3 by the template 'for every input the law returns true; each argument reads behind the call as it read before'; 0 by the template 'total and deterministic' (their statements: YtgfmodmeimhhpaaGreatDoorTotals.lean).
  GIVEN WITH THE SEED: the statements are not yours to turn. If you find one false, say at which input.
  Laid BY PROGRAM, IN A SANDBOX (cutbox-rows.mjs): the forced cells as the released guide's own fill.sh prints them over the translation dbde793a6a14ae2b… (all of the seat's roots in one cut). By AI agents, Wed Nov 11 2026. No macro, syntax, notation, axiom, sorry.
-/
import Derived.Test.YtgfmodmeimhhpaaGreatDoorChecked
import GoSem.Claim
import GoSem.ClaimJoined
import GoSem.ClaimMapViews
import Derived.JoinedTies
import Derived.KernelRfl
namespace Go.Proofs.YtgfmodmeimhhpaaGreatDoor
/- THE CELL 'sum', in the pinned program and in every row, IS THE sha256 OF THE DUMP (.gsa) THAT YtgfmodmeimhhpaaGreatDoorProg.lean LOADS. Nothing in Lean hashes anything: it is a label: what it is worth is what the hold of that sum in a sandbox is worth. -/
noncomputable def Tryz.pinned : Pinned := { name := "ytgfmodmeimhhpaagreatdoor", sum := "dbde793a6a14ae2b4aff93df5f06b13b40bc342e1aa46e2830df1292c5a5f63a", checked := Tryz.checked }
namespace Rows
def none {H : Type} : Left H := { results := [], args := [] }

/- WHAT THE LISTED PACKAGE-LEVEL VARIABLES READ AS WHEN THE CALL BEGINS. Each datum BY PROGRAM (the guide's laid-datum.mjs) off the statement by which the dump's own 'gosem.cut.vars' lays the variable. In a bare row this is a premise. The card (YtgfmodmeimhhpaaGreatDoorCards.lean) ties it to the program's text. -/
def laid_exchangepoint_attribute_flags {H : Type} : DataW H := .map [(.int .i64 1, .lit (.int .i64 64)), (.int .i64 2, .lit (.int .i64 64)), (.int .i64 3, .lit (.int .i64 64)), (.int .i64 4, .lit (.int .i64 128)), (.int .i64 5, .lit (.int .i64 64)), (.int .i64 8, .lit (.int .i64 192)), (.int .i64 32, .lit (.int .i64 192)), (.int .i64 35, .lit (.int .i64 192))]

/-- 'exchangepointlaw26.WishVerdicts': WHATEVER THE INPUT: true; the input reads as it did. -/
def wishVerdictsSpec : ChangeSpec := { name := "wishVerdicts", fn := fun _ => fun
  | [d1, d2] => { results := [.lit (.bool true)], args := [d1, d2] }
  | _ => none }
def wishVerdictsRow : OpenClaim := { program := "ytgfmodmeimhhpaagreatdoor", sum := "dbde793a6a14ae2b4aff93df5f06b13b40bc342e1aa46e2830df1292c5a5f63a", func := "exchangepoint/exchangepointlaw26.WishVerdicts", spec := "wishVerdicts", inPlace := ["slices.overlaps[exchangepoint/api.Segment]"], unfollowed := true, recurses := true, named := ["exchangepoint/attribute.flags"], apart := false, laid := [("exchangepoint/attribute.flags", laid_exchangepoint_attribute_flags)] }
def WishVerdictsSaid : Prop := wishVerdictsRow.holds Tryz.pinned (OpenSpec.ofChange wishVerdictsSpec)

/-- ITS FALSE NEIGHBOUR: 'it returns false'. Refute it at one input. -/
def wishVerdictsWrong : ChangeSpec := { name := "wishVerdicts", fn := fun _ => fun
  | [d1, d2] => { results := [.lit (.bool false)], args := [d1, d2] }
  | _ => none }
def WishVerdictsWrongFalsely : Prop := wishVerdictsRow.holds Tryz.pinned (OpenSpec.ofChange wishVerdictsWrong)

/-- 'exchangepointlaw26.WishExports': WHATEVER THE INPUT: true; the input reads as it did. -/
def wishExportsSpec : ChangeSpec := { name := "wishExports", fn := fun _ => fun
  | [d1, d2, d3, d4] => { results := [.lit (.bool true)], args := [d1, d2, d3, d4] }
  | _ => none }
def wishExportsRow : OpenClaim := { program := "ytgfmodmeimhhpaagreatdoor", sum := "dbde793a6a14ae2b4aff93df5f06b13b40bc342e1aa46e2830df1292c5a5f63a", func := "exchangepoint/exchangepointlaw26.WishExports", spec := "wishExports", inPlace := ["slices.overlaps[exchangepoint/api.Segment]"], unfollowed := true, recurses := true, named := ["exchangepoint/attribute.flags"], apart := false, laid := [("exchangepoint/attribute.flags", laid_exchangepoint_attribute_flags)] }
def WishExportsSaid : Prop := wishExportsRow.holds Tryz.pinned (OpenSpec.ofChange wishExportsSpec)

/-- ITS FALSE NEIGHBOUR: 'it returns false'. Refute it at one input. -/
def wishExportsWrong : ChangeSpec := { name := "wishExports", fn := fun _ => fun
  | [d1, d2, d3, d4] => { results := [.lit (.bool false)], args := [d1, d2, d3, d4] }
  | _ => none }
def WishExportsWrongFalsely : Prop := wishExportsRow.holds Tryz.pinned (OpenSpec.ofChange wishExportsWrong)

/-- 'exchangepointlaw26.WishOffered': WHATEVER THE INPUT: true; the input reads as it did. -/
def wishOfferedSpec : ChangeSpec := { name := "wishOffered", fn := fun _ => fun
  | [d] => { results := [.lit (.bool true)], args := [d] }
  | _ => none }
def wishOfferedRow : OpenClaim := { program := "ytgfmodmeimhhpaagreatdoor", sum := "dbde793a6a14ae2b4aff93df5f06b13b40bc342e1aa46e2830df1292c5a5f63a", func := "exchangepoint/exchangepointlaw26.WishOffered", spec := "wishOffered", inPlace := ["slices.overlaps[exchangepoint/api.Segment]"], unfollowed := true, recurses := true, named := ["exchangepoint/attribute.flags"], apart := false, laid := [("exchangepoint/attribute.flags", laid_exchangepoint_attribute_flags)] }
def WishOfferedSaid : Prop := wishOfferedRow.holds Tryz.pinned (OpenSpec.ofChange wishOfferedSpec)

/-- ITS FALSE NEIGHBOUR: 'it returns false'. Refute it at one input. -/
def wishOfferedWrong : ChangeSpec := { name := "wishOffered", fn := fun _ => fun
  | [d] => { results := [.lit (.bool false)], args := [d] }
  | _ => none }
def WishOfferedWrongFalsely : Prop := wishOfferedRow.holds Tryz.pinned (OpenSpec.ofChange wishOfferedWrong)

/- THE SECOND FORM. 'bulk': how many values and letters a reading holds, each counted each time it is reached (what is shared counts as often as it is met; a slice's spare places count too). A statement '..UptoSaid' is the law's where the arguments, and the package variables that the reading takes, are together of bulk at most 1048576: NARROWER than '..Said'. Prove '..Said' where nothing that the law and all that it calls make is longer than what came in: it says more and counts as full. Else prove '..UptoSaid'. A law counts once. -/
mutual
def uptoBulk {H : Type} : DataW H → Nat
  | .lit (.string bytes) => bytes.length + 1
  | .lit _ => 1
  | .nil => 1
  | .ptr d => uptoBulk d + 1
  | .slice elems spare => uptoBulkAll elems + uptoBulkAll spare + 1
  | .agg parts => uptoBulkAll parts + 1
  | .iface _ d => uptoBulk d + 1
  | .map entries => uptoBulkEntries entries + 1
  | .held _ => 1
def uptoBulkAll {H : Type} : List (DataW H) → Nat
  | [] => 0
  | d :: r => uptoBulk d + uptoBulkAll r
def uptoBulkEntries {H : Type} : List (Lit × DataW H) → Nat
  | [] => 0
  | x :: r => uptoBulkEntry x + uptoBulkEntries r
def uptoBulkEntry {H : Type} : Lit × DataW H → Nat
  | (.string bytes, d) => bytes.length + uptoBulk d + 1
  | (_, d) => uptoBulk d + 1
 end
def uptoSmall : (H : Type) → List (DataW H) → Bool := fun _ ds => decide (uptoBulkAll ds ≤ 1048576)
def OpenSpec.upto (s : _root_.Go.ChangeSpec) : _root_.Go.OpenSpec := { _root_.Go.OpenSpec.ofChange s with cond := some uptoSmall }

/-- 'exchangepointlaw26.WishVerdicts', WHERE WHAT IT READS IS OF BULK AT MOST 1048576: true; the input reads as it did. -/
def wishVerdictsUptoRow : OpenClaim := { program := "ytgfmodmeimhhpaagreatdoor", sum := "dbde793a6a14ae2b4aff93df5f06b13b40bc342e1aa46e2830df1292c5a5f63a", func := "exchangepoint/exchangepointlaw26.WishVerdicts", spec := "wishVerdicts", inPlace := ["slices.overlaps[exchangepoint/api.Segment]"], unfollowed := true, recurses := true, named := ["exchangepoint/attribute.flags"], apart := false, laid := [("exchangepoint/attribute.flags", laid_exchangepoint_attribute_flags)], narrowed := true }
def WishVerdictsUptoSaid : Prop := wishVerdictsUptoRow.holds Tryz.pinned (OpenSpec.upto wishVerdictsSpec)

/-- 'exchangepointlaw26.WishExports', WHERE WHAT IT READS IS OF BULK AT MOST 1048576: true; the input reads as it did. -/
def wishExportsUptoRow : OpenClaim := { program := "ytgfmodmeimhhpaagreatdoor", sum := "dbde793a6a14ae2b4aff93df5f06b13b40bc342e1aa46e2830df1292c5a5f63a", func := "exchangepoint/exchangepointlaw26.WishExports", spec := "wishExports", inPlace := ["slices.overlaps[exchangepoint/api.Segment]"], unfollowed := true, recurses := true, named := ["exchangepoint/attribute.flags"], apart := false, laid := [("exchangepoint/attribute.flags", laid_exchangepoint_attribute_flags)], narrowed := true }
def WishExportsUptoSaid : Prop := wishExportsUptoRow.holds Tryz.pinned (OpenSpec.upto wishExportsSpec)

/-- 'exchangepointlaw26.WishOffered', WHERE WHAT IT READS IS OF BULK AT MOST 1048576: true; the input reads as it did. -/
def wishOfferedUptoRow : OpenClaim := { program := "ytgfmodmeimhhpaagreatdoor", sum := "dbde793a6a14ae2b4aff93df5f06b13b40bc342e1aa46e2830df1292c5a5f63a", func := "exchangepoint/exchangepointlaw26.WishOffered", spec := "wishOffered", inPlace := ["slices.overlaps[exchangepoint/api.Segment]"], unfollowed := true, recurses := true, named := ["exchangepoint/attribute.flags"], apart := false, laid := [("exchangepoint/attribute.flags", laid_exchangepoint_attribute_flags)], narrowed := true }
def WishOfferedUptoSaid : Prop := wishOfferedUptoRow.holds Tryz.pinned (OpenSpec.upto wishOfferedSpec)

end Rows
end Go.Proofs.YtgfmodmeimhhpaaGreatDoor
