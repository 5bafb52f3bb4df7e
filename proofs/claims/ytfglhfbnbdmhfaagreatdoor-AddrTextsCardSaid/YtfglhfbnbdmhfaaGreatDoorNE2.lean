/- The functions as they are read. -/
import Derived.Test.YtfglhfbnbdmhfaaGreatDoorNN
namespace Go.Proofs.YtfglhfbnbdmhfaaGreatDoor
open Go.VM
set_option maxRecDepth 100000
theorem e24 (N : Nat) (a0 : Int) (a1 : Int) : n24 (N + 1) (a0, a1) =
 (n45 N (a0, a1)).bind fun v0 =>
 some v0 := by kernel_rfl
theorem e25 (N : Nat) (a0 : Int) (a1 : Int) : n25 (N + 1) (a0, a1) =
 (if a1 = 0 then none else some (Int.tmod a0 a1)).bind fun v0 =>
 joinK (fun (p1 : Int) =>
 some p1) fun j2 =>
 bif (decide (v0 < (0 : Int))) then (j2 (IntKind.i64.wrap (v0 + a1))) else (j2 v0) := by kernel_rfl
theorem e33 (N : Nat) (a0 : List UInt8) : n33 (N + 1) a0 =
 (n52 N (a0, ([46] : List UInt8))).bind fun v0 =>
 bif ((nLen v0) != (4 : Int)) then (some ((false, (0 : Int), (0 : Int)), false)) else (joinK (fun (p1 : ((Bool × Int × Int) × (Bool × Int × Int))) =>
 some (p1.2, true)) fun j2 =>
 loopN N (fun (p3 : ((Bool × Int × Int) × ((Bool × Int × Int) × (List (List UInt8) × (Int × Int))))) =>
 letK (decide (p3.2.2.2.2 < p3.2.2.2.1)) fun v4 =>
 bif v4 then ((nIdx p3.2.2.1 p3.2.2.2.2).bind fun v5 =>
 (n53 N v5).bind fun v6 =>
 letK (bif (true != !v6.2) then true else (decide (v6.1 < (0 : Int)))) fun v7 =>
 letK (decide (v6.1 > (255 : Int))) fun v8 =>
 (bif (!(bif v7 then true else v8)) then (n18 N v6.1) else some ([] : List UInt8)).bind fun v9 =>
 letK (bif (bif v7 then true else v8) then true else (!(v9 == v5))) fun v10 =>
 bif v10 then (leave (some ((false, (0 : Int), (0 : Int)), false))) else (letK (nShl IntKind.u64 p3.2.1.2.2 8) fun v11 =>
 letK (bits .or IntKind.u64 v11 (IntKind.u64.wrap v6.1)) fun v12 =>
 letK (IntKind.i64.wrap (p3.2.2.2.2 + (1 : Int))) fun v13 =>
 again (p3.1, (p3.2.1.1, p3.2.1.2.1, v12), p3.2.2.1, p3.2.2.2.1, v13))) else (leave (j2 (p3.1, p3.2.1)))) ((false, (0 : Int), (0 : Int)), (false, (0 : Int), (0 : Int)), v0, (nLen v0), (0 : Int))) := by kernel_rfl
theorem e34 (N : Nat) (a0 : List UInt8) : n34 (N + 1) a0 =
 (n54 N (a0, ([58, 58] : List UInt8))).bind fun v0 =>
 bif (!v0.2.2) then ((n55 N (a0, true)).bind fun v1 =>
 letK (bif v1.2 then ((nLen v1.1) == (8 : Int)) else false) fun v2 =>
 some (v1.1, v2)) else ((n55 N (v0.1, false)).bind fun v3 =>
 (n55 N (v0.2.1, true)).bind fun v4 =>
 letK (bif (!v3.2) then true else (!v4.2)) fun v5 =>
 letK (IntKind.i64.wrap ((nLen v3.1) + (nLen v4.1))) fun v6 =>
 letK (bif v5 then true else (decide (v6 > (7 : Int)))) fun v7 =>
 bif v7 then (some (([] : List (Int)), false)) else (letK (IntKind.i64.wrap ((8 : Int) - (nLen v3.1))) fun v8 =>
 letK (IntKind.i64.wrap (v8 - (nLen v4.1))) fun v9 =>
 (nAppZ 8 v3.1 v9 (0 : Int)).bind fun v10 =>
 (nApp 8 v10 v4.1).bind fun v11 =>
 some (v11, true))) := by kernel_rfl
theorem e35 (N : Nat) (a0 : List UInt8) : n35 (N + 1) a0 =
 (n52 N (a0, ([46] : List UInt8))).bind fun v0 =>
 bif ((nLen v0) != (4 : Int)) then (some (([] : List (Int)), false)) else (joinK (fun (p1 : List (Int)) =>
 some (p1, true)) fun j2 =>
 loopN N (fun (p3 : (List (Int) × (List (List UInt8) × (Int × Int)))) =>
 letK (decide (p3.2.2.2 < p3.2.2.1)) fun v4 =>
 bif v4 then ((nIdx p3.2.1 p3.2.2.2).bind fun v5 =>
 (n56 N v5).bind fun v6 =>
 letK (decide (v6.1 > (255 : Int))) fun v7 =>
 letK (bif (!v6.2) then true else v7) fun v8 =>
 (bif (!v8) then (n18 N v6.1) else some ([] : List UInt8)).bind fun v9 =>
 letK (bif v8 then true else (!(v9 == v5))) fun v10 =>
 bif v10 then (leave (some (([] : List (Int)), false))) else (letK ([(IntKind.u8.wrap v6.1)] : List (Int)) fun v11 =>
 (nApp 1 p3.1 v11).bind fun v12 =>
 letK (IntKind.i64.wrap (p3.2.2.2 + (1 : Int))) fun v13 =>
 again (v12, p3.2.1, p3.2.2.1, v13))) else (leave (j2 p3.1))) (([] : List (Int)), v0, (nLen v0), (0 : Int))) := by kernel_rfl
theorem e36 (N : Nat) (a0 : List (Int)) : n36 (N + 1) a0 =
 letK (bif ((nLen a0) != (4 : Int)) then ((nLen a0) != (16 : Int)) else false) fun v0 =>
 bif v0 then (some ((false, (0 : Int), (0 : Int)), (1 : Int))) else (joinK (fun (p1 : ((Bool × Int × Int) × (Bool × Int × Int))) =>
 some (p1.2, (0 : Int))) fun j2 =>
 loopN N (fun (p3 : ((Bool × Int × Int) × ((Bool × Int × Int) × (List (Int) × (Int × Int))))) =>
 letK (decide (p3.2.2.2.2 < p3.2.2.2.1)) fun v4 =>
 bif v4 then ((nIdx p3.2.2.1 p3.2.2.2.2).bind fun v5 =>
 letK (nShl IntKind.u64 p3.2.1.2.1 8) fun v6 =>
 letK (nShr IntKind.u64 p3.2.1.2.2 56) fun v7 =>
 letK (nShl IntKind.u64 p3.2.1.2.2 8) fun v8 =>
 letK (bits .or IntKind.u64 v8 (IntKind.u64.wrap v5)) fun v9 =>
 letK (IntKind.i64.wrap (p3.2.2.2.2 + (1 : Int))) fun v10 =>
 again (p3.1, (p3.2.1.1, (bits .or IntKind.u64 v6 v7), v9), p3.2.2.1, p3.2.2.2.1, v10)) else (leave (j2 (p3.1, p3.2.1)))) ((false, (0 : Int), (0 : Int)), (((nLen a0) == (16 : Int)), (0 : Int), (0 : Int)), a0, (nLen a0), (0 : Int))) := by kernel_rfl
theorem e38 (N : Nat) (a0 : List UInt8) : n38 (N + 1) a0 =
 bif (a0 == ([] : List UInt8)) then (some (([] : List (Int)), true)) else ((n52 N (a0, ([58] : List UInt8))).bind fun v0 =>
 joinK (fun (p1 : List (Int)) =>
 some (p1, true)) fun j2 =>
 loopN N (fun (p3 : (List (Int) × (List (List UInt8) × (List (List UInt8) × (Int × Int))))) =>
 letK (decide (p3.2.2.2.2 < p3.2.2.2.1)) fun v4 =>
 bif v4 then (joinK (fun (p5 : (List (Int) × (List (List UInt8) × (List (List UInt8) × (Int × Int))))) =>
 letK (IntKind.i64.wrap (p5.2.2.2.2 + (1 : Int))) fun v7 =>
 again (p5.1, p5.2.1, p5.2.2.1, p5.2.2.2.1, v7)) fun j6 =>
 (nIdx p3.2.2.1 p3.2.2.2.2).bind fun v8 =>
 letK (IntKind.i64.wrap ((nLen p3.2.1) - (1 : Int))) fun v9 =>
 (bif (p3.2.2.2.2 == v9) then (n32 N (v8, ([46] : List UInt8))) else some false).bind fun v10 =>
 letK (bif (p3.2.2.2.2 == v9) then v10 else false) fun v11 =>
 bif v11 then ((n35 N v8).bind fun v12 =>
 bif (!v12.2) then (leave (some (([] : List (Int)), false))) else ((nApp 1 p3.1 v12.1).bind fun v13 =>
 j6 (v13, p3.2.1, p3.2.2.1, p3.2.2.2.1, p3.2.2.2.2))) else (letK (decide ((nLen v8) < (1 : Int))) fun v14 =>
 letK (decide ((nLen v8) > (4 : Int))) fun v15 =>
 bif (bif v14 then true else v15) then (leave (some (([] : List (Int)), false))) else ((nToBytes v8).bind fun v16 =>
 joinK (fun (p17 : (List (Int) × (List (List UInt8) × (Int × (List (List UInt8) × (Int × Int)))))) =>
 letK (nShr IntKind.i64 p17.2.2.1 8) fun v19 =>
 letK ([(IntKind.u8.wrap v19), (IntKind.u8.wrap p17.2.2.1)] : List (Int)) fun v20 =>
 (nApp 1 p17.1 v20).bind fun v21 =>
 j6 (v21, p17.2.1, p17.2.2.2.1, p17.2.2.2.2.1, p17.2.2.2.2.2)) fun j18 =>
 loopN N (fun (p22 : (List (Int) × (List (List UInt8) × (Int × (List (List UInt8) × (Int × (Int × (List (Int) × (Int × Int))))))))) =>
 letK (decide (p22.2.2.2.2.2.2.2.2 < p22.2.2.2.2.2.2.2.1)) fun v23 =>
 bif v23 then ((nIdx p22.2.2.2.2.2.2.1 p22.2.2.2.2.2.2.2.2).bind fun v24 =>
 (n58 N v24).bind fun v25 =>
 bif (decide (v25 < (0 : Int))) then (leave (leave (some (([] : List (Int)), false)))) else (letK (IntKind.i64.wrap ((16 : Int) * p22.2.2.1)) fun v26 =>
 letK (IntKind.i64.wrap (v26 + v25)) fun v27 =>
 letK (IntKind.i64.wrap (p22.2.2.2.2.2.2.2.2 + (1 : Int))) fun v28 =>
 again (p22.1, p22.2.1, v27, p22.2.2.2.1, p22.2.2.2.2.1, p22.2.2.2.2.2.1, p22.2.2.2.2.2.2.1, p22.2.2.2.2.2.2.2.1, v28))) else (leave (j18 (p22.1, p22.2.1, p22.2.2.1, p22.2.2.2.1, p22.2.2.2.2.1, p22.2.2.2.2.2.1)))) (p3.1, p3.2.1, (0 : Int), p3.2.2.1, p3.2.2.2.1, p3.2.2.2.2, v16, (nLen v16), (0 : Int))))) else (leave (j2 p3.1))) (([] : List (Int)), v0, v0, (nLen v0), (0 : Int))) := by kernel_rfl
theorem e41 (N : Nat) (a0 : (Bool × Int × Int)) : n41 (N + 1) a0 =
 letK (decide (a0.2.2 < (4294967296 : Int))) fun v0 =>
 letK (bif (a0.2.1 == (0 : Int)) then v0 else false) fun v1 =>
 some (bif a0.1 then true else v1) := by kernel_rfl
theorem e43 (N : Nat) (a0 : (Bool × Int × Int)) : n43 (N + 1) a0 =
 letK (decide (a0.2.2 < (4294967296 : Int))) fun v0 =>
 letK (bif (a0.2.1 == (0 : Int)) then v0 else false) fun v1 =>
 some (bif a0.1 then true else v1) := by kernel_rfl
theorem e45 (N : Nat) (a0 : Int) (a1 : Int) : n45 (N + 1) (a0, a1) =
 bif (a1 == (10 : Int)) then (bif (decide (a0 < (100 : Int))) then (none) else (none)) else ((n66 N (([] : List (Int)), a0, a1, false, false)).bind fun v0 =>
 some v0.2) := by kernel_rfl
theorem e55 (N : Nat) (a0 : List UInt8) (a1 : Bool) : n55 (N + 1) (a0, a1) =
 bif (a0 == ([] : List UInt8)) then (some (([] : List (Int)), true)) else ((n52 N (a0, ([58] : List UInt8))).bind fun v0 =>
 joinK (fun (p1 : List (Int)) =>
 some (p1, true)) fun j2 =>
 loopN N (fun (p3 : (Bool × (List (Int) × (List (List UInt8) × (List (List UInt8) × (Int × Int)))))) =>
 letK (decide (p3.2.2.2.2.2 < p3.2.2.2.2.1)) fun v4 =>
 bif v4 then (joinK (fun (p5 : (Bool × (List (Int) × (List (List UInt8) × (List (List UInt8) × (Int × Int)))))) =>
 letK (IntKind.i64.wrap (p5.2.2.2.2.2 + (1 : Int))) fun v7 =>
 again (p5.1, p5.2.1, p5.2.2.1, p5.2.2.2.1, p5.2.2.2.2.1, v7)) fun j6 =>
 (nIdx p3.2.2.2.1 p3.2.2.2.2.2).bind fun v8 =>
 (n33 N v8).bind fun v9 =>
 letK (bif v9.2 then p3.1 else false) fun v10 =>
 letK (IntKind.i64.wrap ((nLen p3.2.2.1) - (1 : Int))) fun v11 =>
 letK (bif v10 then (p3.2.2.2.2.2 == v11) else false) fun v12 =>
 bif v12 then (letK (nShr IntKind.u64 v9.1.2.2 16) fun v13 =>
 letK (bits .and IntKind.u64 v9.1.2.2 (65535 : Int)) fun v14 =>
 (nApp 8 p3.2.1 ([v13, v14] : List (Int))).bind fun v15 =>
 j6 (p3.1, v15, p3.2.2.1, p3.2.2.2.1, p3.2.2.2.2.1, p3.2.2.2.2.2)) else ((n75 N v8).bind fun v16 =>
 bif (!v16.2) then (leave (some (([] : List (Int)), false))) else ((nApp 8 p3.2.1 ([v16.1] : List (Int))).bind fun v17 =>
 j6 (p3.1, v17, p3.2.2.1, p3.2.2.2.1, p3.2.2.2.2.1, p3.2.2.2.2.2)))) else (leave (j2 p3.2.1))) (a1, ([] : List (Int)), v0, v0, (nLen v0), (0 : Int))) := by kernel_rfl
theorem e56 (N : Nat) (a0 : List UInt8) : n56 (N + 1) a0 =
 joinK (fun (p0 : (List UInt8 × Int)) =>
 letK (!(p0.1 == ([] : List UInt8))) fun v2 =>
 letK (decide (p0.2 ≤ (1099511627776 : Int))) fun v3 =>
 some (p0.2, (bif v2 then v3 else false))) fun j1 =>
 loopN N (fun (p4 : (List UInt8 × (Int × (Int × Int)))) =>
 letK (decide (p4.2.2.2 < p4.2.2.1)) fun v5 =>
 bif v5 then ((nIdxB p4.1 p4.2.2.2).bind fun v6 =>
 (bif (!(decide (v6 < (48 : Int)))) then (nIdxB p4.1 p4.2.2.2) else some (0 : Int)).bind fun v7 =>
 letK (bif (decide (v6 < (48 : Int))) then true else (decide (v7 > (57 : Int)))) fun v8 =>
 letK (decide (p4.2.1 > (1099511627776 : Int))) fun v9 =>
 bif (bif v8 then true else v9) then (leave (some ((0 : Int), false))) else (letK (IntKind.i64.wrap ((10 : Int) * p4.2.1)) fun v10 =>
 (nIdxB p4.1 p4.2.2.2).bind fun v11 =>
 letK (IntKind.u8.wrap (v11 - (48 : Int))) fun v12 =>
 letK (IntKind.i64.wrap (v10 + (IntKind.i64.wrap v12))) fun v13 =>
 letK (IntKind.i64.wrap (p4.2.2.2 + (1 : Int))) fun v14 =>
 again (p4.1, v13, p4.2.2.1, v14))) else (leave (j1 (p4.1, p4.2.1)))) (a0, (0 : Int), (nLen a0), (0 : Int)) := by kernel_rfl
theorem e58 (N : Nat) (a0 : Int) : n58 (N + 1) a0 =
 letK (bif (decide (a0 ≥ (48 : Int))) then (decide (a0 ≤ (57 : Int))) else false) fun v0 =>
 bif v0 then (letK (IntKind.u8.wrap (a0 - (48 : Int))) fun v1 =>
 some (IntKind.i64.wrap v1)) else (letK (bif (decide (a0 ≥ (97 : Int))) then (decide (a0 ≤ (102 : Int))) else false) fun v2 =>
 bif v2 then (letK (IntKind.u8.wrap (a0 - (97 : Int))) fun v3 =>
 letK (IntKind.i64.wrap ((IntKind.i64.wrap v3) + (10 : Int))) fun v4 =>
 some v4) else (letK (bif (decide (a0 ≥ (65 : Int))) then (decide (a0 ≤ (70 : Int))) else false) fun v5 =>
 bif v5 then (letK (IntKind.u8.wrap (a0 - (65 : Int))) fun v6 =>
 letK (IntKind.i64.wrap ((IntKind.i64.wrap v6) + (10 : Int))) fun v7 =>
 some v7) else (some (-1 : Int)))) := by kernel_rfl
theorem e66 (N : Nat) (a0 : List (Int)) (a1 : Int) (a2 : Int) (a3 : Bool) (a4 : Bool) : n66 (N + 1) (a0, a1, a2, a3, a4) =
 letK (bif (decide (a2 < (2 : Int))) then true else (a2 == (10 : Int))) fun v0 =>
 letK (bif v0 then true else (decide (a2 > (36 : Int)))) fun v1 =>
 joinK (fun (p2 : (List (Int) × (Int × (Int × (Bool × (Bool × (List (Int) × List UInt8))))))) =>
 joinK (fun (p4 : (List (Int) × (Int × (Int × (Bool × (Bool × (List (Int) × (List UInt8 × (List Int × Int))))))))) =>
 (n83 N p4.2.2.1).bind fun v6 =>
 joinK (fun (p7 : (List (Int) × (Bool × (Bool × (List (Int) × (List UInt8 × (List Int × Int))))))) =>
 joinK (fun (p9 : (List (Int) × (Bool × (List (Int) × (List UInt8 × (List Int × Int)))))) =>
 bif p9.2.1 then ((nDrop p9.2.2.2.2.1 p9.2.2.2.2.2).bind fun v11 =>
 (nApp 1 p9.1 v11).bind fun v12 =>
 some (v12, p9.2.2.2.1)) else ((nDrop p9.2.2.2.2.1 p9.2.2.2.2.2).bind fun v13 =>
 some (p9.2.2.1, (nStr v13)))) fun j10 =>
 bif p7.2.1 then (letK (IntKind.i64.wrap (p7.2.2.2.2.2.2 - (1 : Int))) fun v14 =>
 (nBnd v14 65).bind fun v15 =>
 letK (p7.2.2.2.2.2.1.set v15 (45 : Int)) fun v16 =>
 j10 (p7.1, p7.2.2.1, p7.2.2.2.1, p7.2.2.2.2.1, v16, v14)) else (j10 (p7.1, p7.2.2.1, p7.2.2.2.1, p7.2.2.2.2.1, p7.2.2.2.2.2.1, p7.2.2.2.2.2.2))) fun j8 =>
 bif v6 then ((n84 N (IntKind.u64.wrap p4.2.2.1)).bind fun v17 =>
 letK (IntKind.u64.wrap ((IntKind.u64.wrap p4.2.2.1) - (1 : Int))) fun v18 =>
 joinK (fun (p19 : (List (Int) × (Int × (Bool × (Bool × (List (Int) × (List UInt8 × (List Int × Int)))))))) =>
 letK (IntKind.i64.wrap (p19.2.2.2.2.2.2.2 - (1 : Int))) fun v21 =>
 (nIdxB ([48, 49, 50, 51, 52, 53, 54, 55, 56, 57, 97, 98, 99, 100, 101, 102, 103, 104, 105, 106, 107, 108, 109, 110, 111, 112, 113, 114, 115, 116, 117, 118, 119, 120, 121, 122] : List UInt8) p19.2.1).bind fun v22 =>
 (nBnd v21 65).bind fun v23 =>
 letK (p19.2.2.2.2.2.2.1.set v23 v22) fun v24 =>
 j8 (p19.1, p19.2.2.1, p19.2.2.2.1, p19.2.2.2.2.1, p19.2.2.2.2.2.1, v24, v21)) fun j20 =>
 loopN N (fun (p25 : (List (Int) × (Int × (Bool × (Bool × (List (Int) × (List UInt8 × (List Int × (Int × (Int × (Int × Int))))))))))) =>
 letK (decide (p25.2.1 ≥ p25.2.2.2.2.2.2.2.2.2.1)) fun v26 =>
 bif v26 then (letK (IntKind.i64.wrap (p25.2.2.2.2.2.2.2.1 - (1 : Int))) fun v27 =>
 letK (bits .and IntKind.u64 p25.2.1 p25.2.2.2.2.2.2.2.2.2.2) fun v28 =>
 (nIdxB ([48, 49, 50, 51, 52, 53, 54, 55, 56, 57, 97, 98, 99, 100, 101, 102, 103, 104, 105, 106, 107, 108, 109, 110, 111, 112, 113, 114, 115, 116, 117, 118, 119, 120, 121, 122] : List UInt8) v28).bind fun v29 =>
 (nBnd v27 65).bind fun v30 =>
 letK (p25.2.2.2.2.2.2.1.set v30 v29) fun v31 =>
 (if p25.2.2.2.2.2.2.2.2.1 < 0 then none else some (nShr IntKind.u64 p25.2.1 p25.2.2.2.2.2.2.2.2.1.toNat)).bind fun v32 =>
 again (p25.1, v32, p25.2.2.1, p25.2.2.2.1, p25.2.2.2.2.1, p25.2.2.2.2.2.1, v31, v27, p25.2.2.2.2.2.2.2.2.1, p25.2.2.2.2.2.2.2.2.2.1, p25.2.2.2.2.2.2.2.2.2.2)) else (leave (j20 (p25.1, p25.2.1, p25.2.2.1, p25.2.2.2.1, p25.2.2.2.2.1, p25.2.2.2.2.2.1, p25.2.2.2.2.2.2.1, p25.2.2.2.2.2.2.2.1)))) (p4.1, p4.2.1, p4.2.2.2.1, p4.2.2.2.2.1, p4.2.2.2.2.2.1, p4.2.2.2.2.2.2.1, p4.2.2.2.2.2.2.2.1, p4.2.2.2.2.2.2.2.2, (IntKind.u64.wrap v17), (IntKind.u64.wrap p4.2.2.1), v18)) else (joinK (fun (p33 : (List (Int) × (Int × (Bool × (Bool × (List (Int) × (List UInt8 × (List Int × Int)))))))) =>
 letK (IntKind.i64.wrap (p33.2.2.2.2.2.2.2 - (1 : Int))) fun v35 =>
 (nIdxB ([48, 49, 50, 51, 52, 53, 54, 55, 56, 57, 97, 98, 99, 100, 101, 102, 103, 104, 105, 106, 107, 108, 109, 110, 111, 112, 113, 114, 115, 116, 117, 118, 119, 120, 121, 122] : List UInt8) p33.2.1).bind fun v36 =>
 (nBnd v35 65).bind fun v37 =>
 letK (p33.2.2.2.2.2.2.1.set v37 v36) fun v38 =>
 j8 (p33.1, p33.2.2.1, p33.2.2.2.1, p33.2.2.2.2.1, p33.2.2.2.2.2.1, v38, v35)) fun j34 =>
 loopN N (fun (p39 : (List (Int) × (Int × (Bool × (Bool × (List (Int) × (List UInt8 × (List Int × (Int × Int))))))))) =>
 letK (decide (p39.2.1 ≥ p39.2.2.2.2.2.2.2.2)) fun v40 =>
 bif v40 then (letK (IntKind.i64.wrap (p39.2.2.2.2.2.2.2.1 - (1 : Int))) fun v41 =>
 (if p39.2.2.2.2.2.2.2.2 = 0 then none else some (IntKind.u64.wrap (Int.tdiv p39.2.1 p39.2.2.2.2.2.2.2.2))).bind fun v42 =>
 letK (IntKind.u64.wrap (v42 * p39.2.2.2.2.2.2.2.2)) fun v43 =>
 letK (IntKind.u64.wrap (p39.2.1 - v43)) fun v44 =>
 (nIdxB ([48, 49, 50, 51, 52, 53, 54, 55, 56, 57, 97, 98, 99, 100, 101, 102, 103, 104, 105, 106, 107, 108, 109, 110, 111, 112, 113, 114, 115, 116, 117, 118, 119, 120, 121, 122] : List UInt8) v44).bind fun v45 =>
 (nBnd v41 65).bind fun v46 =>
 letK (p39.2.2.2.2.2.2.1.set v46 v45) fun v47 =>
 again (p39.1, v42, p39.2.2.1, p39.2.2.2.1, p39.2.2.2.2.1, p39.2.2.2.2.2.1, v47, v41, p39.2.2.2.2.2.2.2.2)) else (leave (j34 (p39.1, p39.2.1, p39.2.2.1, p39.2.2.2.1, p39.2.2.2.2.1, p39.2.2.2.2.2.1, p39.2.2.2.2.2.2.1, p39.2.2.2.2.2.2.2.1)))) (p4.1, p4.2.1, p4.2.2.2.1, p4.2.2.2.2.1, p4.2.2.2.2.2.1, p4.2.2.2.2.2.2.1, p4.2.2.2.2.2.2.2.1, p4.2.2.2.2.2.2.2.2, (IntKind.u64.wrap p4.2.2.1)))) fun j5 =>
 bif p2.2.2.2.1 then (letK (IntKind.u64.wrap (0 - p2.2.1)) fun v48 =>
 j5 (p2.1, v48, p2.2.2.1, p2.2.2.2.1, p2.2.2.2.2.1, p2.2.2.2.2.2.1, p2.2.2.2.2.2.2, (List.replicate 65 (0 : Int)), (65 : Int))) else (j5 (p2.1, p2.2.1, p2.2.2.1, p2.2.2.2.1, p2.2.2.2.2.1, p2.2.2.2.2.2.1, p2.2.2.2.2.2.2, (List.replicate 65 (0 : Int)), (65 : Int)))) fun j3 =>
 bif v1 then (none) else (j3 (a0, a1, a2, a3, a4, ([] : List (Int)), ([] : List UInt8))) := by kernel_rfl
theorem e75 (N : Nat) (a0 : List UInt8) : n75 (N + 1) a0 =
 letK (decide ((nLen a0) < (1 : Int))) fun v0 =>
 letK (decide ((nLen a0) > (4 : Int))) fun v1 =>
 bif (bif v0 then true else v1) then (some ((0 : Int), false)) else ((nToBytes a0).bind fun v2 =>
 joinK (fun (p3 : Int) =>
 some (p3, true)) fun j4 =>
 loopN N (fun (p5 : (Int × (List (Int) × (Int × Int)))) =>
 letK (decide (p5.2.2.2 < p5.2.2.1)) fun v6 =>
 bif v6 then ((nIdx p5.2.1 p5.2.2.2).bind fun v7 =>
 (n94 N (([48, 49, 50, 51, 52, 53, 54, 55, 56, 57, 97, 98, 99, 100, 101, 102] : List UInt8), v7)).bind fun v8 =>
 letK (bif (decide (v7 ≥ (65 : Int))) then (decide (v7 ≤ (70 : Int))) else false) fun v9 =>
 joinK (fun (p10 : (Int × (Int × (List (Int) × (Int × Int))))) =>
 letK (decide (p10.2.1 < (0 : Int))) fun v12 =>
 bif v12 then (leave (some ((0 : Int), false))) else (letK (bits .or IntKind.u64 (nShl IntKind.u64 p10.1 4) (IntKind.u64.wrap p10.2.1)) fun v13 =>
 letK (IntKind.i64.wrap (p10.2.2.2.2 + (1 : Int))) fun v14 =>
 again (v13, p10.2.2.1, p10.2.2.2.1, v14))) fun j11 =>
 bif v9 then (letK (IntKind.u8.wrap (v7 - (65 : Int))) fun v15 =>
 letK (IntKind.i64.wrap ((IntKind.i64.wrap v15) + (10 : Int))) fun v16 =>
 j11 (p5.1, v16, p5.2.1, p5.2.2.1, p5.2.2.2)) else (j11 (p5.1, v8, p5.2.1, p5.2.2.1, p5.2.2.2))) else (leave (j4 p5.1))) ((0 : Int), v2, (nLen v2), (0 : Int))) := by kernel_rfl
theorem e83 (N : Nat) (a0 : Int) : n83 (N + 1) a0 =
 letK (IntKind.i64.wrap (a0 - (1 : Int))) fun v0 =>
 letK (bits .and IntKind.i64 a0 v0) fun v1 =>
 some (v1 == (0 : Int)) := by kernel_rfl
end Go.Proofs.YtfglhfbnbdmhfaaGreatDoor
