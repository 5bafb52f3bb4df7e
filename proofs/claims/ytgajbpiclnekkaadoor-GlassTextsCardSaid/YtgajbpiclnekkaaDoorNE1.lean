/- The functions as they are read. -/
import Derived.Test.YtgajbpiclnekkaaDoorNN
namespace Go.Proofs.YtgajbpiclnekkaaDoor
open Go.VM
set_option maxRecDepth 100000
theorem e3 (N : Nat) (a0 : (Int × Int × Int × Int)) (a1 : List UInt8) (a2 : Int) (a3 : Int) : n3 (N + 1) (a0, a1, a2, a3) =
 letK (decide ((nLen a1) > (1200 : Int))) fun v0 =>
 bif v0 then ((n4 N ()).bind fun v1 =>
 some v1) else ((n5 N a0).bind fun v2 =>
 (n6 N a0).bind fun v3 =>
 bif (!(v2 == v3)) then (some false) else ((n7 N (a2, (200000 : Int))).bind fun v4 =>
 (n7 N (a3, (7 : Int))).bind fun v5 =>
 (n7 N (a2, (30 : Int))).bind fun v6 =>
 letK (IntKind.i64.wrap (v6 - (3 : Int))) fun v7 =>
 (n7 N (a3, (70000 : Int))).bind fun v8 =>
 (n6 N (v4, v5, v7, v8)).bind fun v9 =>
 (nToBytes v9).bind fun v10 =>
 (n7 N (a2, (nLen v10))).bind fun v11 =>
 (n7 N (a3, (12 : Int))).bind fun v12 =>
 (nIdxB ([48, 49, 50, 51, 52, 53, 54, 55, 56, 57, 32, 45] : List UInt8) v12).bind fun v13 =>
 (nIdx v10 v11).bind fun v14 =>
 letK (nStr (v10.set v11.toNat v13)) fun v15 =>
 (nCat v9 ([32] : List UInt8)).bind fun v16 =>
 (nCat ([32] : List UInt8) v9).bind fun v17 =>
 (nCat v9 ([32, 49] : List UInt8)).bind fun v18 =>
 letK ([a1, v9, v15, v16, v17, v18, ([49, 48, 57, 57, 53, 49, 49, 54, 50, 55, 55, 55, 54, 32, 48, 32, 48, 32, 45, 49, 48, 57, 57, 53, 49, 49, 54, 50, 55, 55, 55, 54] : List UInt8), ([49, 48, 57, 57, 53, 49, 49, 54, 50, 55, 55, 55, 55, 32, 48, 32, 48, 32, 48] : List UInt8), ([45, 48, 32, 49, 32, 50, 32, 51] : List UInt8)] : List (List UInt8)) fun v19 =>
 joinK (fun (p20 : Unit) =>
 (n4 N ()).bind fun v22 =>
 some v22) fun j21 =>
 loopN N (fun (p23 : (List (List UInt8) × (Int × Int))) =>
 bif (decide (p23.2.2 < p23.2.1)) then ((nIdx p23.1 p23.2.2).bind fun v24 =>
 (n8 N v24).bind fun v25 =>
 (n9 N v24).bind fun v26 =>
 letK (true != ((v25.1.1 == v26.1.1) && ((v25.1.2.1 == v26.1.2.1) && ((v25.1.2.2.1 == v26.1.2.2.1) && (v25.1.2.2.2 == v26.1.2.2.2))))) fun v27 =>
 letK (bif v27 then true else (v25.2 != v26.2)) fun v28 =>
 bif v28 then (leave (some false)) else (letK (IntKind.i64.wrap (p23.2.2 + (1 : Int))) fun v29 =>
 again (p23.1, p23.2.1, v29))) else (leave (j21 ()))) (v19, (nLen v19), (0 : Int)))) := by kernel_rfl
theorem e4 (N : Nat) : n4 (N + 1) () =
 (n8 N ([54, 52, 53, 48, 48, 32, 50, 32, 49, 50, 32, 48] : List UInt8)).bind fun v0 =>
 (n8 N ([54, 52, 53, 48, 48, 32, 50, 32, 48, 49, 50, 32, 48] : List UInt8)).bind fun v1 =>
 (n5 N ((64500 : Int), (2 : Int), (12 : Int), (0 : Int))).bind fun v2 =>
 letK (v2 == ([54, 52, 53, 48, 48, 32, 50, 32, 49, 50, 32, 48] : List UInt8)) fun v3 =>
 letK (bif v3 then (v0.2 == (0 : Int)) else false) fun v4 =>
 letK (false != ((v0.1.1 == (64500 : Int)) && ((v0.1.2.1 == (2 : Int)) && ((v0.1.2.2.1 == (12 : Int)) && (v0.1.2.2.2 == (0 : Int)))))) fun v5 =>
 letK (bif (bif v4 then v5 else false) then (v1.2 == (2 : Int)) else false) fun v6 =>
 some v6 := by kernel_rfl
theorem e5 (N : Nat) (a0 : (Int × Int × Int × Int)) : n5 (N + 1) a0 =
 letK ([a0.1, a0.2.1, a0.2.2.1, a0.2.2.2] : List (Int)) fun v0 =>
 joinK (fun (p1 : List (List UInt8)) =>
 (n11 N (p1, ([32] : List UInt8))).bind fun v3 =>
 some v3) fun j2 =>
 loopN N (fun (p4 : (List (List UInt8) × (List (Int) × (Int × Int)))) =>
 letK (decide (p4.2.2.2 < p4.2.2.1)) fun v5 =>
 bif v5 then ((nIdx p4.2.1 p4.2.2.2).bind fun v6 =>
 (n10 N v6).bind fun v7 =>
 (nApp 16 p4.1 ([v7] : List (List UInt8))).bind fun v8 =>
 letK (IntKind.i64.wrap (p4.2.2.2 + (1 : Int))) fun v9 =>
 again (v8, p4.2.1, p4.2.2.1, v9)) else (leave (j2 p4.1))) (([] : List (List UInt8)), v0, (nLen v0), (0 : Int)) := by kernel_rfl
theorem e6 (N : Nat) (a0 : (Int × Int × Int × Int)) : n6 (N + 1) a0 =
 (n10 N a0.1).bind fun v0 =>
 (nCat v0 ([32] : List UInt8)).bind fun v1 =>
 (n10 N a0.2.1).bind fun v2 =>
 (nCat v1 v2).bind fun v3 =>
 (nCat v3 ([32] : List UInt8)).bind fun v4 =>
 (n10 N a0.2.2.1).bind fun v5 =>
 (nCat v4 v5).bind fun v6 =>
 (nCat v6 ([32] : List UInt8)).bind fun v7 =>
 (n10 N a0.2.2.2).bind fun v8 =>
 (nCat v7 v8).bind fun v9 =>
 some v9 := by kernel_rfl
theorem e7 (N : Nat) (a0 : Int) (a1 : Int) : n7 (N + 1) (a0, a1) =
 (if a1 = 0 then none else some (Int.tmod a0 a1)).bind fun v0 =>
 joinK (fun (p1 : Int) =>
 some p1) fun j2 =>
 bif (decide (v0 < (0 : Int))) then (j2 (IntKind.i64.wrap (v0 + a1))) else (j2 v0) := by kernel_rfl
theorem e8 (N : Nat) (a0 : List UInt8) : n8 (N + 1) a0 =
 (n12 N (a0, ([32] : List UInt8))).bind fun v0 =>
 bif ((nLen v0) != (4 : Int)) then (some (((0 : Int), (0 : Int), (0 : Int), (0 : Int)), (2 : Int))) else (joinK (fun (p1 : ((Int × Int × Int × Int) × (Int × Int × Int × Int))) =>
 some ((p1.2.1, p1.2.2.1, p1.2.2.2.1, p1.2.2.2.2), (0 : Int))) fun j2 =>
 loopN N (fun (p3 : ((Int × Int × Int × Int) × ((Int × Int × Int × Int) × (List (List UInt8) × (Int × Int))))) =>
 letK (decide (p3.2.2.2.2 < p3.2.2.2.1)) fun v4 =>
 bif v4 then ((nIdx p3.2.2.1 p3.2.2.2.2).bind fun v5 =>
 (n13 N (v5, (10 : Int), (64 : Int))).bind fun v6 =>
 (bif (!(true != !v6.2)) then (n14 N (v6.1, (10 : Int))) else some ([] : List UInt8)).bind fun v7 =>
 letK (bif (true != !v6.2) then true else (!(v7 == v5))) fun v8 =>
 letK (decide (v6.1 < (-1099511627776 : Int))) fun v9 =>
 letK (decide (v6.1 > (1099511627776 : Int))) fun v10 =>
 letK (bif (bif v8 then true else v9) then true else v10) fun v11 =>
 bif v11 then (leave (some (((0 : Int), (0 : Int), (0 : Int), (0 : Int)), (2 : Int)))) else ((nBnd p3.2.2.2.2 4).bind fun v12 =>
 letK (if v12 < 1 then (v6.1, p3.2.1.2) else (p3.2.1.1, (if (v12 - 1) < 1 then (v6.1, p3.2.1.2.2) else (p3.2.1.2.1, (if ((v12 - 1) - 1) < 1 then (v6.1, p3.2.1.2.2.2) else (p3.2.1.2.2.1, v6.1)))))) fun v13 =>
 letK (IntKind.i64.wrap (p3.2.2.2.2 + (1 : Int))) fun v14 =>
 again (p3.1, v13, p3.2.2.1, p3.2.2.2.1, v14))) else (leave (j2 (p3.1, p3.2.1)))) (((0 : Int), (0 : Int), (0 : Int), (0 : Int)), ((0 : Int), (0 : Int), (0 : Int), (0 : Int)), v0, (nLen v0), (0 : Int))) := by kernel_rfl
theorem e9 (N : Nat) (a0 : List UInt8) : n9 (N + 1) a0 =
 letK (decide ((nLen a0) > (60 : Int))) fun v0 =>
 bif v0 then (some (((0 : Int), (0 : Int), (0 : Int), (0 : Int)), (2 : Int))) else (joinK (fun (p1 : (List UInt8 × ((Int × Int × Int × Int) × List (Int)))) =>
 bif ((nLen p1.2.2) != (4 : Int)) then (some (((0 : Int), (0 : Int), (0 : Int), (0 : Int)), (2 : Int))) else ((nIdx p1.2.2 (0 : Int)).bind fun v3 =>
 (nIdx p1.2.2 (1 : Int)).bind fun v4 =>
 (nIdx p1.2.2 (2 : Int)).bind fun v5 =>
 (nIdx p1.2.2 (3 : Int)).bind fun v6 =>
 (n6 N (v3, v4, v5, v6)).bind fun v7 =>
 bif (!(v7 == p1.1)) then (some (((0 : Int), (0 : Int), (0 : Int), (0 : Int)), (2 : Int))) else (some ((v3, v4, v5, v6), (0 : Int))))) fun j2 =>
 loopN N (fun (p8 : (List UInt8 × ((Int × Int × Int × Int) × (List (Int) × Int)))) =>
 letK (decide (p8.2.2.2 ≤ (nLen p8.1))) fun v9 =>
 bif v9 then (joinK (fun (p10 : (List UInt8 × ((Int × Int × Int × Int) × (List (Int) × Int)))) =>
 again (p10.1, p10.2.1, p10.2.2.1, p10.2.2.2)) fun j11 =>
 letK (decide (p8.2.2.2 < (nLen p8.1))) fun v12 =>
 (bif v12 then (nIdxB p8.1 p8.2.2.2) else some (0 : Int)).bind fun v13 =>
 letK (bif v12 then (v13 == (45 : Int)) else false) fun v14 =>
 joinK (fun (p15 : (List UInt8 × ((Int × Int × Int × Int) × (List (Int) × (Int × Int))))) =>
 joinK (fun (p17 : (List UInt8 × ((Int × Int × Int × Int) × (List (Int) × (Int × (Int × (Int × Int))))))) =>
 letK (p17.2.2.2.1 == p17.2.2.2.2.2.2) fun v19 =>
 letK (decide (p17.2.2.2.2.2.1 > (1099511627776 : Int))) fun v20 =>
 letK (decide (p17.2.2.2.1 < (nLen p17.1))) fun v21 =>
 (bif (v21 && (!(bif v19 then true else v20))) then (nIdxB p17.1 p17.2.2.2.1) else some (0 : Int)).bind fun v22 =>
 letK (bif v21 then (v22 != (32 : Int)) else false) fun v23 =>
 letK (bif (bif v19 then true else v20) then true else v23) fun v24 =>
 bif v24 then (leave (some (((0 : Int), (0 : Int), (0 : Int), (0 : Int)), (2 : Int)))) else (letK (IntKind.i64.wrap (p17.2.2.2.2.1 * p17.2.2.2.2.2.1)) fun v25 =>
 (nApp 8 p17.2.2.1 ([v25] : List (Int))).bind fun v26 =>
 letK (IntKind.i64.wrap (p17.2.2.2.1 + (1 : Int))) fun v27 =>
 j11 (p17.1, p17.2.1, v26, v27))) fun j18 =>
 loopN N (fun (p28 : (List UInt8 × ((Int × Int × Int × Int) × (List (Int) × (Int × (Int × (Int × Int))))))) =>
 letK (decide (p28.2.2.2.1 < (nLen p28.1))) fun v29 =>
 (bif v29 then (nIdxB p28.1 p28.2.2.2.1) else some (0 : Int)).bind fun v30 =>
 letK (bif v29 then (decide (v30 ≥ (48 : Int))) else false) fun v31 =>
 (bif v31 then (nIdxB p28.1 p28.2.2.2.1) else some (0 : Int)).bind fun v32 =>
 letK (bif v31 then (decide (v32 ≤ (57 : Int))) else false) fun v33 =>
 letK (IntKind.i64.wrap (p28.2.2.2.1 - p28.2.2.2.2.2.2)) fun v34 =>
 letK (bif v33 then (decide (v34 < (14 : Int))) else false) fun v35 =>
 bif v35 then (letK (IntKind.i64.wrap (p28.2.2.2.2.2.1 * (10 : Int))) fun v36 =>
 (nIdxB p28.1 p28.2.2.2.1).bind fun v37 =>
 letK (IntKind.u8.wrap (v37 - (48 : Int))) fun v38 =>
 letK (IntKind.i64.wrap (v36 + (IntKind.i64.wrap v38))) fun v39 =>
 letK (IntKind.i64.wrap (p28.2.2.2.1 + (1 : Int))) fun v40 =>
 again (p28.1, p28.2.1, p28.2.2.1, v40, p28.2.2.2.2.1, v39, p28.2.2.2.2.2.2)) else (leave (j18 (p28.1, p28.2.1, p28.2.2.1, p28.2.2.2.1, p28.2.2.2.2.1, p28.2.2.2.2.2.1, p28.2.2.2.2.2.2)))) (p15.1, p15.2.1, p15.2.2.1, p15.2.2.2.1, p15.2.2.2.2, (0 : Int), p15.2.2.2.1)) fun j16 =>
 bif v14 then (letK (IntKind.i64.wrap (p8.2.2.2 + (1 : Int))) fun v41 =>
 j16 (p8.1, p8.2.1, p8.2.2.1, v41, (-1 : Int))) else (j16 (p8.1, p8.2.1, p8.2.2.1, p8.2.2.2, (1 : Int)))) else (leave (j2 (p8.1, p8.2.1, p8.2.2.1)))) (a0, ((0 : Int), (0 : Int), (0 : Int), (0 : Int)), ([] : List (Int)), (0 : Int))) := by kernel_rfl
end Go.Proofs.YtgajbpiclnekkaaDoor
