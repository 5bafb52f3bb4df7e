/-
  No cell of these rows narrows 'for every input' (looked for: loops, veiled, ifaces, maps, wideKeys, modest, calm, conditions, laid).
  DERIVED. THE GIVEN ROWS OF THIS SEAT. 5 by the template 'for every input the law returns true; each argument reads behind the call as it read before'; 0 by the template 'total and deterministic' (their statements: YtndaipcfahfkkaaTotals.lean).
  GIVEN WITH THE SEED: the statements are not yours to turn. If you find one false, say at which input.
  Laid BY PROGRAM, IN A SANDBOX (cutbox-rows.mjs): the forced cells as the released guide's own fill.sh prints them over the translation 95a35dfd58b9dade… (all of the seat's roots in one cut). By AI agents, Wed Nov 11 2026. No macro, syntax, notation, axiom, sorry.
-/
import Derived.Test.YtndaipcfahfkkaaChecked
import GoSem.Claim
import GoSem.ClaimJoined
import GoSem.ClaimMapViews
import Derived.JoinedTies
import Derived.KernelRfl
namespace Go.Proofs.Ytndaipcfahfkkaa
/- THE CELL 'sum', in the pinned program and in every row, IS THE sha256 OF THE DUMP (.gsa) THAT YtndaipcfahfkkaaProg.lean LOADS. Nothing in Lean hashes anything: it is a label: what it is worth is what the hold of that sum in a sandbox is worth. -/
noncomputable def Try.pinned : Pinned := { name := "ytndaipcfahfkkaa", sum := "95a35dfd58b9dadecfea261f0a9337015d4a93aa19ad07fefd4d51c248508180", checked := Try.checked }
namespace Rows
def none {H : Type} : Left H := { results := [], args := [] }

/-- 'exchangepointlaw04.EtherAddresses': WHATEVER THE INPUT: true; the input reads as it did. -/
def etherAddressesSpec : ChangeSpec := { name := "etherAddresses", fn := fun _ => fun
  | [d1, d2, d3, d4, d5] => { results := [.lit (.bool true)], args := [d1, d2, d3, d4, d5] }
  | _ => none }
def etherAddressesRow : OpenClaim := { program := "ytndaipcfahfkkaa", sum := "95a35dfd58b9dadecfea261f0a9337015d4a93aa19ad07fefd4d51c248508180", func := "exchangepoint/exchangepointlaw04.EtherAddresses", spec := "etherAddresses", inPlace := ["internal/bytealg.IndexByteString", "internal/abi.NoEscape", "internal/bytealg.MakeNoZero"], apart := false }
def EtherAddressesSaid : Prop := etherAddressesRow.holds Try.pinned (OpenSpec.ofChange etherAddressesSpec)

/-- ITS FALSE NEIGHBOUR: 'it returns false'. Refute it at one input. -/
def etherAddressesWrong : ChangeSpec := { name := "etherAddresses", fn := fun _ => fun
  | [d1, d2, d3, d4, d5] => { results := [.lit (.bool false)], args := [d1, d2, d3, d4, d5] }
  | _ => none }
def EtherAddressesWrongFalsely : Prop := etherAddressesRow.holds Try.pinned (OpenSpec.ofChange etherAddressesWrong)

/-- 'exchangepointlaw04.EtherGroups': WHATEVER THE INPUT: true; the input reads as it did. -/
def etherGroupsSpec : ChangeSpec := { name := "etherGroups", fn := fun _ => fun
  | [d1, d2, d3, d4] => { results := [.lit (.bool true)], args := [d1, d2, d3, d4] }
  | _ => none }
def etherGroupsRow : OpenClaim := { program := "ytndaipcfahfkkaa", sum := "95a35dfd58b9dadecfea261f0a9337015d4a93aa19ad07fefd4d51c248508180", func := "exchangepoint/exchangepointlaw04.EtherGroups", spec := "etherGroups", inPlace := ["internal/bytealg.IndexByteString", "internal/abi.NoEscape", "internal/bytealg.MakeNoZero"], apart := false }
def EtherGroupsSaid : Prop := etherGroupsRow.holds Try.pinned (OpenSpec.ofChange etherGroupsSpec)

/-- ITS FALSE NEIGHBOUR: 'it returns false'. Refute it at one input. -/
def etherGroupsWrong : ChangeSpec := { name := "etherGroups", fn := fun _ => fun
  | [d1, d2, d3, d4] => { results := [.lit (.bool false)], args := [d1, d2, d3, d4] }
  | _ => none }
def EtherGroupsWrongFalsely : Prop := etherGroupsRow.holds Try.pinned (OpenSpec.ofChange etherGroupsWrong)

/-- 'exchangepointlaw04.EtherFrames': WHATEVER THE INPUT: true; the input reads as it did. -/
def etherFramesSpec : ChangeSpec := { name := "etherFrames", fn := fun _ => fun
  | [d1, d2, d3, d4, d5] => { results := [.lit (.bool true)], args := [d1, d2, d3, d4, d5] }
  | _ => none }
def etherFramesRow : OpenClaim := { program := "ytndaipcfahfkkaa", sum := "95a35dfd58b9dadecfea261f0a9337015d4a93aa19ad07fefd4d51c248508180", func := "exchangepoint/exchangepointlaw04.EtherFrames", spec := "etherFrames", inPlace := ["internal/bytealg.IndexByteString", "internal/abi.NoEscape", "internal/bytealg.MakeNoZero"], apart := false }
def EtherFramesSaid : Prop := etherFramesRow.holds Try.pinned (OpenSpec.ofChange etherFramesSpec)

/-- ITS FALSE NEIGHBOUR: 'it returns false'. Refute it at one input. -/
def etherFramesWrong : ChangeSpec := { name := "etherFrames", fn := fun _ => fun
  | [d1, d2, d3, d4, d5] => { results := [.lit (.bool false)], args := [d1, d2, d3, d4, d5] }
  | _ => none }
def EtherFramesWrongFalsely : Prop := etherFramesRow.holds Try.pinned (OpenSpec.ofChange etherFramesWrong)

/-- 'exchangepointlaw04.EtherBack': WHATEVER THE INPUT: true; the input reads as it did. -/
def etherBackSpec : ChangeSpec := { name := "etherBack", fn := fun _ => fun
  | [d1, d2, d3, d4, d5] => { results := [.lit (.bool true)], args := [d1, d2, d3, d4, d5] }
  | _ => none }
def etherBackRow : OpenClaim := { program := "ytndaipcfahfkkaa", sum := "95a35dfd58b9dadecfea261f0a9337015d4a93aa19ad07fefd4d51c248508180", func := "exchangepoint/exchangepointlaw04.EtherBack", spec := "etherBack", inPlace := ["internal/bytealg.IndexByteString", "internal/abi.NoEscape", "internal/bytealg.MakeNoZero"], apart := false }
def EtherBackSaid : Prop := etherBackRow.holds Try.pinned (OpenSpec.ofChange etherBackSpec)

/-- ITS FALSE NEIGHBOUR: 'it returns false'. Refute it at one input. -/
def etherBackWrong : ChangeSpec := { name := "etherBack", fn := fun _ => fun
  | [d1, d2, d3, d4, d5] => { results := [.lit (.bool false)], args := [d1, d2, d3, d4, d5] }
  | _ => none }
def EtherBackWrongFalsely : Prop := etherBackRow.holds Try.pinned (OpenSpec.ofChange etherBackWrong)

/-- 'exchangepointlaw04.EtherTags': WHATEVER THE INPUT: true; the input reads as it did. -/
def etherTagsSpec : ChangeSpec := { name := "etherTags", fn := fun _ => fun
  | [d1, d2] => { results := [.lit (.bool true)], args := [d1, d2] }
  | _ => none }
def etherTagsRow : OpenClaim := { program := "ytndaipcfahfkkaa", sum := "95a35dfd58b9dadecfea261f0a9337015d4a93aa19ad07fefd4d51c248508180", func := "exchangepoint/exchangepointlaw04.EtherTags", spec := "etherTags", inPlace := ["internal/bytealg.IndexByteString", "internal/abi.NoEscape", "internal/bytealg.MakeNoZero"], apart := false }
def EtherTagsSaid : Prop := etherTagsRow.holds Try.pinned (OpenSpec.ofChange etherTagsSpec)

/-- ITS FALSE NEIGHBOUR: 'it returns false'. Refute it at one input. -/
def etherTagsWrong : ChangeSpec := { name := "etherTags", fn := fun _ => fun
  | [d1, d2] => { results := [.lit (.bool false)], args := [d1, d2] }
  | _ => none }
def EtherTagsWrongFalsely : Prop := etherTagsRow.holds Try.pinned (OpenSpec.ofChange etherTagsWrong)

/- THE SECOND FORM. 'bulk': how many values and letters a reading holds, each counted each time it is reached (what is shared counts as often as it is met; a slice's spare places count too). A statement '..UptoSaid' is the law's where the arguments, and the package variables that the reading takes, are together of bulk at most 1048576: NARROWER than '..Said'. Prove '..Said' where nothing that the law and all that it calls make is longer than what came in: it says more and counts as full. Else prove '..UptoSaid'. A law counts once. -/
mutual
def uptoBulk {H : Type} : DataW H → Nat
  | .lit (.string bytes) => bytes.length + 1
  | .lit _ => 1
  | .nil => 1
  | .ptr d => uptoBulk d + 1
  | .slice elems spare => uptoBulkAll elems + uptoBulkAll spare + 1
  | .agg parts => uptoBulkAll parts + 1
  | .iface _ d => uptoBulk d + 1
  | .map entries => uptoBulkEntries entries + 1
  | .held _ => 1
def uptoBulkAll {H : Type} : List (DataW H) → Nat
  | [] => 0
  | d :: r => uptoBulk d + uptoBulkAll r
def uptoBulkEntries {H : Type} : List (Lit × DataW H) → Nat
  | [] => 0
  | x :: r => uptoBulkEntry x + uptoBulkEntries r
def uptoBulkEntry {H : Type} : Lit × DataW H → Nat
  | (.string bytes, d) => bytes.length + uptoBulk d + 1
  | (_, d) => uptoBulk d + 1
 end
def uptoSmall : (H : Type) → List (DataW H) → Bool := fun _ ds => decide (uptoBulkAll ds ≤ 1048576)
def OpenSpec.upto (s : _root_.Go.ChangeSpec) : _root_.Go.OpenSpec := { _root_.Go.OpenSpec.ofChange s with cond := some uptoSmall }

/-- 'exchangepointlaw04.EtherAddresses', WHERE WHAT IT READS IS OF BULK AT MOST 1048576: true; the input reads as it did. -/
def etherAddressesUptoRow : OpenClaim := { program := "ytndaipcfahfkkaa", sum := "95a35dfd58b9dadecfea261f0a9337015d4a93aa19ad07fefd4d51c248508180", func := "exchangepoint/exchangepointlaw04.EtherAddresses", spec := "etherAddresses", inPlace := ["internal/bytealg.IndexByteString", "internal/abi.NoEscape", "internal/bytealg.MakeNoZero"], apart := false, narrowed := true }
def EtherAddressesUptoSaid : Prop := etherAddressesUptoRow.holds Try.pinned (OpenSpec.upto etherAddressesSpec)

/-- 'exchangepointlaw04.EtherGroups', WHERE WHAT IT READS IS OF BULK AT MOST 1048576: true; the input reads as it did. -/
def etherGroupsUptoRow : OpenClaim := { program := "ytndaipcfahfkkaa", sum := "95a35dfd58b9dadecfea261f0a9337015d4a93aa19ad07fefd4d51c248508180", func := "exchangepoint/exchangepointlaw04.EtherGroups", spec := "etherGroups", inPlace := ["internal/bytealg.IndexByteString", "internal/abi.NoEscape", "internal/bytealg.MakeNoZero"], apart := false, narrowed := true }
def EtherGroupsUptoSaid : Prop := etherGroupsUptoRow.holds Try.pinned (OpenSpec.upto etherGroupsSpec)

/-- 'exchangepointlaw04.EtherFrames', WHERE WHAT IT READS IS OF BULK AT MOST 1048576: true; the input reads as it did. -/
def etherFramesUptoRow : OpenClaim := { program := "ytndaipcfahfkkaa", sum := "95a35dfd58b9dadecfea261f0a9337015d4a93aa19ad07fefd4d51c248508180", func := "exchangepoint/exchangepointlaw04.EtherFrames", spec := "etherFrames", inPlace := ["internal/bytealg.IndexByteString", "internal/abi.NoEscape", "internal/bytealg.MakeNoZero"], apart := false, narrowed := true }
def EtherFramesUptoSaid : Prop := etherFramesUptoRow.holds Try.pinned (OpenSpec.upto etherFramesSpec)

/-- 'exchangepointlaw04.EtherBack', WHERE WHAT IT READS IS OF BULK AT MOST 1048576: true; the input reads as it did. -/
def etherBackUptoRow : OpenClaim := { program := "ytndaipcfahfkkaa", sum := "95a35dfd58b9dadecfea261f0a9337015d4a93aa19ad07fefd4d51c248508180", func := "exchangepoint/exchangepointlaw04.EtherBack", spec := "etherBack", inPlace := ["internal/bytealg.IndexByteString", "internal/abi.NoEscape", "internal/bytealg.MakeNoZero"], apart := false, narrowed := true }
def EtherBackUptoSaid : Prop := etherBackUptoRow.holds Try.pinned (OpenSpec.upto etherBackSpec)

/-- 'exchangepointlaw04.EtherTags', WHERE WHAT IT READS IS OF BULK AT MOST 1048576: true; the input reads as it did. -/
def etherTagsUptoRow : OpenClaim := { program := "ytndaipcfahfkkaa", sum := "95a35dfd58b9dadecfea261f0a9337015d4a93aa19ad07fefd4d51c248508180", func := "exchangepoint/exchangepointlaw04.EtherTags", spec := "etherTags", inPlace := ["internal/bytealg.IndexByteString", "internal/abi.NoEscape", "internal/bytealg.MakeNoZero"], apart := false, narrowed := true }
def EtherTagsUptoSaid : Prop := etherTagsUptoRow.holds Try.pinned (OpenSpec.upto etherTagsSpec)

end Rows
end Go.Proofs.Ytndaipcfahfkkaa
