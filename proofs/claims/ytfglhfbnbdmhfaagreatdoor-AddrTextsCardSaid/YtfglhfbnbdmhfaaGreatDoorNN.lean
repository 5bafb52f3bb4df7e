/- Names for the functions as they are read. -/
import Derived.Test.YtfglhfbnbdmhfaaGreatDoorNT
namespace Go.Proofs.YtfglhfbnbdmhfaaGreatDoor
open Go.VM
set_option maxRecDepth 100000
noncomputable def n11 (N : Nat) (x : List UInt8) : Option (List UInt8) := nfN TN N 11 x
noncomputable def n15 (N : Nat) (x : ((List (List UInt8)) × (List UInt8))) : Option (List UInt8) := nfN TN N 15 x
noncomputable def n16 (N : Nat) (x : ((List UInt8) × (List UInt8) × (List UInt8) × Int)) : Option (List UInt8) := nfN TN N 16 x
noncomputable def n18 (N : Nat) (x : Int) : Option (List UInt8) := nfN TN N 18 x
noncomputable def n23 (N : Nat) (x : ((List UInt8) × (List UInt8))) : Option (Bool) := nfN TN N 23 x
noncomputable def n32 (N : Nat) (x : ((List UInt8) × (List UInt8))) : Option (Bool) := nfN TN N 32 x
noncomputable def n37 (N : Nat) (x : ((List UInt8) × (List UInt8))) : Option (Int) := nfN TN N 37 x
noncomputable def n52 (N : Nat) (x : ((List UInt8) × (List UInt8))) : Option (List (List UInt8)) := nfN TN N 52 x
noncomputable def n53 (N : Nat) (x : List UInt8) : Option ((Int × Bool)) := nfN TN N 53 x
noncomputable def n54 (N : Nat) (x : ((List UInt8) × (List UInt8))) : Option (((List UInt8) × (List UInt8) × Bool)) := nfN TN N 54 x
noncomputable def n84 (N : Nat) (x : Int) : Option (Int) := nfN TN N 84 x
noncomputable def n94 (N : Nat) (x : ((List UInt8) × Int)) : Option (Int) := nfN TN N 94 x
noncomputable def n3 (N : Nat) (x : ((List UInt8) × (Bool × Int × Int) × (List (Int)) × Int × Int)) : Option (Bool) := nfN TN N 3 x
noncomputable def n4 (N : Nat) (x : Unit) : Option (Bool) := nfN TN N 4 x
noncomputable def n5 (N : Nat) (x : List (Int)) : Option (((List (Int)) × Int)) := nfN TN N 5 x
noncomputable def n6 (N : Nat) (x : ((List (Int)) × Int)) : Option (((Bool × Int × Int) × ((List (Int)) × Int))) := nfN TN N 6 x
noncomputable def n7 (N : Nat) (x : ((List (Int)) × Int)) : Option (((List UInt8) × ((List (Int)) × Int))) := nfN TN N 7 x
noncomputable def n8 (N : Nat) (x : (Bool × Int × Int)) : Option (List UInt8) := nfN TN N 8 x
noncomputable def n9 (N : Nat) (x : (Bool × Int × Int)) : Option (List UInt8) := nfN TN N 9 x
noncomputable def n10 (N : Nat) (x : ((List (Int)) × Int × Int)) : Option (List (Int)) := nfN TN N 10 x
noncomputable def n12 (N : Nat) (x : List UInt8) : Option (((Bool × Int × Int) × Int)) := nfN TN N 12 x
noncomputable def n13 (N : Nat) (x : List UInt8) : Option (((Bool × Int × Int) × Int)) := nfN TN N 13 x
noncomputable def n14 (N : Nat) (x : (((List (Int)) × Int) × Int)) : Option ((Int × ((List (Int)) × Int))) := nfN TN N 14 x
noncomputable def n17 (N : Nat) (x : (Bool × Int × Int)) : Option (List (Int)) := nfN TN N 17 x
noncomputable def n19 (N : Nat) (x : (Bool × Int × Int)) : Option ((Int × Int × Int × Int × Int × Int × Int × Int)) := nfN TN N 19 x
noncomputable def n20 (N : Nat) (x : (Int × Int × Int × Int × Int × Int × Int × Int)) : Option ((Int × Int)) := nfN TN N 20 x
noncomputable def n21 (N : Nat) (x : List (Int)) : Option (List UInt8) := nfN TN N 21 x
noncomputable def n22 (N : Nat) (x : (Bool × Int × Int)) : Option (List (Int)) := nfN TN N 22 x
noncomputable def n24 (N : Nat) (x : (Int × Int)) : Option (List UInt8) := nfN TN N 24 x
noncomputable def n25 (N : Nat) (x : (Int × Int)) : Option (Int) := nfN TN N 25 x
noncomputable def n33 (N : Nat) (x : List UInt8) : Option (((Bool × Int × Int) × Bool)) := nfN TN N 33 x
noncomputable def n34 (N : Nat) (x : List UInt8) : Option (((List (Int)) × Bool)) := nfN TN N 34 x
noncomputable def n35 (N : Nat) (x : List UInt8) : Option (((List (Int)) × Bool)) := nfN TN N 35 x
noncomputable def n36 (N : Nat) (x : List (Int)) : Option (((Bool × Int × Int) × Int)) := nfN TN N 36 x
noncomputable def n38 (N : Nat) (x : List UInt8) : Option (((List (Int)) × Bool)) := nfN TN N 38 x
noncomputable def n41 (N : Nat) (x : (Bool × Int × Int)) : Option (Bool) := nfN TN N 41 x
noncomputable def n43 (N : Nat) (x : (Bool × Int × Int)) : Option (Bool) := nfN TN N 43 x
noncomputable def n45 (N : Nat) (x : (Int × Int)) : Option (List UInt8) := nfN TN N 45 x
noncomputable def n55 (N : Nat) (x : ((List UInt8) × Bool)) : Option (((List (Int)) × Bool)) := nfN TN N 55 x
noncomputable def n56 (N : Nat) (x : List UInt8) : Option ((Int × Bool)) := nfN TN N 56 x
noncomputable def n58 (N : Nat) (x : Int) : Option (Int) := nfN TN N 58 x
noncomputable def n66 (N : Nat) (x : ((List (Int)) × Int × Int × Bool × Bool)) : Option (((List (Int)) × (List UInt8))) := nfN TN N 66 x
noncomputable def n75 (N : Nat) (x : List UInt8) : Option ((Int × Bool)) := nfN TN N 75 x
noncomputable def n83 (N : Nat) (x : Int) : Option (Bool) := nfN TN N 83 x
theorem e11 (N : Nat) (x) : n11 (N + 1) x = (qF gUpper ⟨[.d .str], [(.str, [])], none⟩) x := rfl
theorem e15 (N : Nat) (x) : n15 (N + 1) x = qJoin x := rfl
theorem e16 (N : Nat) (x) : n16 (N + 1) x = (qF gReplace ⟨[.d .str, .d .str, .d .str, .d (.int .i64)], [(.str, [])], none⟩) x := rfl
theorem e18 (N : Nat) (x) : n18 (N + 1) x = (qF gItoa ⟨[.d (.int .i64)], [(.str, [])], none⟩) x := rfl
theorem e23 (N : Nat) (x) : n23 (N + 1) x = (qF gHasSuffix ⟨[.d .str, .d .str], [(.bool, [])], none⟩) x := rfl
theorem e32 (N : Nat) (x) : n32 (N + 1) x = (qF gContains ⟨[.d .str, .d .str], [(.bool, [])], none⟩) x := rfl
theorem e37 (N : Nat) (x) : n37 (N + 1) x = (qF gIndex ⟨[.d .str, .d .str], [(.int .i64, [])], none⟩) x := rfl
theorem e52 (N : Nat) (x) : n52 (N + 1) x = (qF gSplit ⟨[.d .str, .d .str], [(.sl .str, [])], none⟩) x := rfl
theorem e53 (N : Nat) (x) : n53 (N + 1) x = (qF (gAtoi 128) ⟨[.d .str], [(.int .i64, []), (.err, [])], none⟩) x := rfl
theorem e54 (N : Nat) (x) : n54 (N + 1) x = (qF gCut ⟨[.d .str, .d .str], [(.str, []), (.str, []), (.bool, [])], none⟩) x := rfl
theorem e84 (N : Nat) (x) : n84 (N + 1) x = (qF gTZ ⟨[.d (.int .u64)], [(.int .i64, [])], none⟩) x := rfl
theorem e94 (N : Nat) (x) : n94 (N + 1) x = qIndexByte x := rfl
end Go.Proofs.YtfglhfbnbdmhfaaGreatDoor
