/- Names for the functions as they are read. -/
import Derived.Test.YtgajbpiclnekkaaDoorNT
namespace Go.Proofs.YtgajbpiclnekkaaDoor
open Go.VM
set_option maxRecDepth 100000
noncomputable def n10 (N : Nat) (x : Int) : Option (List UInt8) := nfN TN N 10 x
noncomputable def n11 (N : Nat) (x : ((List (List UInt8)) × (List UInt8))) : Option (List UInt8) := nfN TN N 11 x
noncomputable def n12 (N : Nat) (x : ((List UInt8) × (List UInt8))) : Option (List (List UInt8)) := nfN TN N 12 x
noncomputable def n13 (N : Nat) (x : ((List UInt8) × Int × Int)) : Option ((Int × Bool)) := nfN TN N 13 x
noncomputable def n14 (N : Nat) (x : (Int × Int)) : Option (List UInt8) := nfN TN N 14 x
noncomputable def n3 (N : Nat) (x : ((Int × Int × Int × Int) × (List UInt8) × Int × Int)) : Option (Bool) := nfN TN N 3 x
noncomputable def n4 (N : Nat) (x : Unit) : Option (Bool) := nfN TN N 4 x
noncomputable def n5 (N : Nat) (x : (Int × Int × Int × Int)) : Option (List UInt8) := nfN TN N 5 x
noncomputable def n6 (N : Nat) (x : (Int × Int × Int × Int)) : Option (List UInt8) := nfN TN N 6 x
noncomputable def n7 (N : Nat) (x : (Int × Int)) : Option (Int) := nfN TN N 7 x
noncomputable def n8 (N : Nat) (x : List UInt8) : Option (((Int × Int × Int × Int) × Int)) := nfN TN N 8 x
noncomputable def n9 (N : Nat) (x : List UInt8) : Option (((Int × Int × Int × Int) × Int)) := nfN TN N 9 x
theorem e10 (N : Nat) (x) : n10 (N + 1) x = (qF gItoa ⟨[.d (.int .i64)], [(.str, [])], none⟩) x := rfl
theorem e11 (N : Nat) (x) : n11 (N + 1) x = qJoin x := rfl
theorem e12 (N : Nat) (x) : n12 (N + 1) x = (qF gSplit ⟨[.d .str, .d .str], [(.sl .str, [])], none⟩) x := rfl
theorem e13 (N : Nat) (x) : n13 (N + 1) x = (qF (gParseInt 60) ⟨[.d .str, .d (.int .i64), .d (.int .i64)], [(.int .i64, []), (.err, [])], none⟩) x := rfl
theorem e14 (N : Nat) (x) : n14 (N + 1) x = (qF gFormatInt ⟨[.d (.int .i64), .d (.int .i64)], [(.str, [])], none⟩) x := rfl
end Go.Proofs.YtgajbpiclnekkaaDoor
