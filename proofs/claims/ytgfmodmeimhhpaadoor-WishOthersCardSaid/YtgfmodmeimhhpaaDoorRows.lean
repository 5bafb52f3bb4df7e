/-
  NARROWER THAN 'FOR EVERY INPUT', by the rows' own cells (each row's printed sentence says how): WishPolicies: laid · WishOthers: laid.
  DERIVED. THE GIVEN ROWS OF THIS SEAT. 2 by the template 'for every input the law returns true; each argument reads behind the call as it read before'; 0 by the template 'total and deterministic' (their statements: YtgfmodmeimhhpaaDoorTotals.lean).
  GIVEN WITH THE SEED: the statements are not yours to turn. If you find one false, say at which input.
  Laid BY PROGRAM, IN A SANDBOX (cutbox-rows.mjs): the forced cells as the released guide's own fill.sh prints them over the translation 2aec6e0048e6268d… (all of the seat's roots in one cut). By AI agents, Wed Nov 11 2026. No macro, syntax, notation, axiom, sorry.
-/
import Derived.Test.YtgfmodmeimhhpaaDoorChecked
import GoSem.Claim
import GoSem.ClaimJoined
import GoSem.ClaimMapViews
import Derived.JoinedTies
import Derived.KernelRfl
namespace Go.Proofs.YtgfmodmeimhhpaaDoor
/- THE CELL 'sum', in the pinned program and in every row, IS THE sha256 OF THE DUMP (.gsa) THAT YtgfmodmeimhhpaaDoorProg.lean LOADS. Nothing in Lean hashes anything: it is a label: what it is worth is what the hold of that sum in a sandbox is worth. -/
noncomputable def Tryd.pinned : Pinned := { name := "ytgfmodmeimhhpaadoor", sum := "2aec6e0048e6268d069eef2085e730dd2d95232e5b3993845761a2a79881b6b0", checked := Tryd.checked }
namespace Rows
def none {H : Type} : Left H := { results := [], args := [] }

/- WHAT THE LISTED PACKAGE-LEVEL VARIABLES READ AS WHEN THE CALL BEGINS. Each datum BY PROGRAM (the guide's laid-datum.mjs) off the statement by which the dump's own 'gosem.cut.vars' lays the variable. In a bare row this is a premise. The card (YtgfmodmeimhhpaaDoorCards.lean) ties it to the program's text. -/
def laid_exchangepoint_attribute_flags {H : Type} : DataW H := .map [(.int .i64 1, .lit (.int .i64 64)), (.int .i64 2, .lit (.int .i64 64)), (.int .i64 3, .lit (.int .i64 64)), (.int .i64 4, .lit (.int .i64 128)), (.int .i64 5, .lit (.int .i64 64)), (.int .i64 8, .lit (.int .i64 192)), (.int .i64 32, .lit (.int .i64 192)), (.int .i64 35, .lit (.int .i64 192))]

/-- 'exchangepointlaw26.WishPolicies': WHATEVER THE INPUT: true; the input reads as it did. -/
def wishPoliciesSpec : ChangeSpec := { name := "wishPolicies", fn := fun _ => fun
  | [d1, d2, d3, d4] => { results := [.lit (.bool true)], args := [d1, d2, d3, d4] }
  | _ => none }
def wishPoliciesRow : OpenClaim := { program := "ytgfmodmeimhhpaadoor", sum := "2aec6e0048e6268d069eef2085e730dd2d95232e5b3993845761a2a79881b6b0", func := "exchangepoint/exchangepointlaw26.WishPolicies", spec := "wishPolicies", inPlace := ["slices.overlaps[exchangepoint/api.Segment]"], unfollowed := true, recurses := true, named := ["exchangepoint/attribute.flags"], apart := false, laid := [("exchangepoint/attribute.flags", laid_exchangepoint_attribute_flags)] }
def WishPoliciesSaid : Prop := wishPoliciesRow.holds Tryd.pinned (OpenSpec.ofChange wishPoliciesSpec)

/-- ITS FALSE NEIGHBOUR: 'it returns false'. Refute it at one input. -/
def wishPoliciesWrong : ChangeSpec := { name := "wishPolicies", fn := fun _ => fun
  | [d1, d2, d3, d4] => { results := [.lit (.bool false)], args := [d1, d2, d3, d4] }
  | _ => none }
def WishPoliciesWrongFalsely : Prop := wishPoliciesRow.holds Tryd.pinned (OpenSpec.ofChange wishPoliciesWrong)

/-- 'exchangepointlaw26.WishOthers': WHATEVER THE INPUT: true; the input reads as it did. -/
def wishOthersSpec : ChangeSpec := { name := "wishOthers", fn := fun _ => fun
  | [d1, d2, d3] => { results := [.lit (.bool true)], args := [d1, d2, d3] }
  | _ => none }
def wishOthersRow : OpenClaim := { program := "ytgfmodmeimhhpaadoor", sum := "2aec6e0048e6268d069eef2085e730dd2d95232e5b3993845761a2a79881b6b0", func := "exchangepoint/exchangepointlaw26.WishOthers", spec := "wishOthers", inPlace := ["slices.overlaps[exchangepoint/api.Segment]"], unfollowed := true, recurses := true, named := ["exchangepoint/attribute.flags"], apart := false, laid := [("exchangepoint/attribute.flags", laid_exchangepoint_attribute_flags)] }
def WishOthersSaid : Prop := wishOthersRow.holds Tryd.pinned (OpenSpec.ofChange wishOthersSpec)

/-- ITS FALSE NEIGHBOUR: 'it returns false'. Refute it at one input. -/
def wishOthersWrong : ChangeSpec := { name := "wishOthers", fn := fun _ => fun
  | [d1, d2, d3] => { results := [.lit (.bool false)], args := [d1, d2, d3] }
  | _ => none }
def WishOthersWrongFalsely : Prop := wishOthersRow.holds Tryd.pinned (OpenSpec.ofChange wishOthersWrong)

/- THE SECOND FORM. 'bulk': how many values and letters a reading holds, each counted each time it is reached (what is shared counts as often as it is met; a slice's spare places count too). A statement '..UptoSaid' is the law's where the arguments, and the package variables that the reading takes, are together of bulk at most 1048576: NARROWER than '..Said'. Prove '..Said' where nothing that the law and all that it calls make is longer than what came in: it says more and counts as full. Else prove '..UptoSaid'. A law counts once. -/
mutual
def uptoBulk {H : Type} : DataW H → Nat
  | .lit (.string bytes) => bytes.length + 1
  | .lit _ => 1
  | .nil => 1
  | .ptr d => uptoBulk d + 1
  | .slice elems spare => uptoBulkAll elems + uptoBulkAll spare + 1
  | .agg parts => uptoBulkAll parts + 1
  | .iface _ d => uptoBulk d + 1
  | .map entries => uptoBulkEntries entries + 1
  | .held _ => 1
def uptoBulkAll {H : Type} : List (DataW H) → Nat
  | [] => 0
  | d :: r => uptoBulk d + uptoBulkAll r
def uptoBulkEntries {H : Type} : List (Lit × DataW H) → Nat
  | [] => 0
  | x :: r => uptoBulkEntry x + uptoBulkEntries r
def uptoBulkEntry {H : Type} : Lit × DataW H → Nat
  | (.string bytes, d) => bytes.length + uptoBulk d + 1
  | (_, d) => uptoBulk d + 1
 end
def uptoSmall : (H : Type) → List (DataW H) → Bool := fun _ ds => decide (uptoBulkAll ds ≤ 1048576)
def OpenSpec.upto (s : _root_.Go.ChangeSpec) : _root_.Go.OpenSpec := { _root_.Go.OpenSpec.ofChange s with cond := some uptoSmall }

/-- 'exchangepointlaw26.WishPolicies', WHERE WHAT IT READS IS OF BULK AT MOST 1048576: true; the input reads as it did. -/
def wishPoliciesUptoRow : OpenClaim := { program := "ytgfmodmeimhhpaadoor", sum := "2aec6e0048e6268d069eef2085e730dd2d95232e5b3993845761a2a79881b6b0", func := "exchangepoint/exchangepointlaw26.WishPolicies", spec := "wishPolicies", inPlace := ["slices.overlaps[exchangepoint/api.Segment]"], unfollowed := true, recurses := true, named := ["exchangepoint/attribute.flags"], apart := false, laid := [("exchangepoint/attribute.flags", laid_exchangepoint_attribute_flags)], narrowed := true }
def WishPoliciesUptoSaid : Prop := wishPoliciesUptoRow.holds Tryd.pinned (OpenSpec.upto wishPoliciesSpec)

/-- 'exchangepointlaw26.WishOthers', WHERE WHAT IT READS IS OF BULK AT MOST 1048576: true; the input reads as it did. -/
def wishOthersUptoRow : OpenClaim := { program := "ytgfmodmeimhhpaadoor", sum := "2aec6e0048e6268d069eef2085e730dd2d95232e5b3993845761a2a79881b6b0", func := "exchangepoint/exchangepointlaw26.WishOthers", spec := "wishOthers", inPlace := ["slices.overlaps[exchangepoint/api.Segment]"], unfollowed := true, recurses := true, named := ["exchangepoint/attribute.flags"], apart := false, laid := [("exchangepoint/attribute.flags", laid_exchangepoint_attribute_flags)], narrowed := true }
def WishOthersUptoSaid : Prop := wishOthersUptoRow.holds Tryd.pinned (OpenSpec.upto wishOthersSpec)

end Rows
end Go.Proofs.YtgfmodmeimhhpaaDoor
