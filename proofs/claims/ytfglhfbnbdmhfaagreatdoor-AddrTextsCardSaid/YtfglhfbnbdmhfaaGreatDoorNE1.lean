/- The functions as they are read. -/
import Derived.Test.YtfglhfbnbdmhfaaGreatDoorNN
namespace Go.Proofs.YtfglhfbnbdmhfaaGreatDoor
open Go.VM
set_option maxRecDepth 100000
theorem e3 (N : Nat) (a0 : List UInt8) (a1 : (Bool × Int × Int)) (a2 : List (Int)) (a3 : Int) (a4 : Int) : n3 (N + 1) (a0, a1, a2, a3, a4) =
 letK (decide ((nLen a0) > (600 : Int))) fun v0 =>
 bif v0 then ((n4 N ()).bind fun v1 =>
 some v1) else ((n5 N a2).bind fun v2 =>
 (n6 N v2).bind fun v3 =>
 (n7 N v3.2).bind fun v4 =>
 (n8 N a1).bind fun v5 =>
 (n9 N a1).bind fun v6 =>
 (bif (!(!(v5 == v6))) then (n8 N v3.1) else some ([] : List UInt8)).bind fun v7 =>
 (bif (!(!(v5 == v6))) then (n9 N v3.1) else some ([] : List UInt8)).bind fun v8 =>
 letK (bif (!(v5 == v6)) then true else (!(v7 == v8))) fun v9 =>
 bif v9 then (some false) else ((n9 N v3.1).bind fun v10 =>
 (n9 N v3.1).bind fun v11 =>
 (nToBytes v11).bind fun v12 =>
 (n10 N (v12, a3, a4)).bind fun v13 =>
 (n9 N v3.1).bind fun v14 =>
 (n11 N v14).bind fun v15 =>
 letK ([a0, v10, (nStr v13), v4.1, v15] : List (List UInt8)) fun v16 =>
 joinK (fun (p17 : Unit) =>
 (n4 N ()).bind fun v19 =>
 some v19) fun j18 =>
 loopN N (fun (p20 : (List (List UInt8) × (Int × Int))) =>
 bif (decide (p20.2.2 < p20.2.1)) then ((nIdx p20.1 p20.2.2).bind fun v21 =>
 (n12 N v21).bind fun v22 =>
 (n13 N v21).bind fun v23 =>
 letK (true != ((v22.1.1 == v23.1.1) && ((v22.1.2.1 == v23.1.2.1) && (v22.1.2.2 == v23.1.2.2)))) fun v24 =>
 letK (bif v24 then true else (v22.2 != v23.2)) fun v25 =>
 bif v25 then (leave (some false)) else (letK (IntKind.i64.wrap (p20.2.2 + (1 : Int))) fun v26 =>
 again (p20.1, p20.2.1, v26))) else (leave (j18 ()))) (v16, (nLen v16), (0 : Int)))) := by kernel_rfl
theorem e4 (N : Nat) : n4 (N + 1) () =
 (n12 N ([50, 48, 48, 49, 58, 68, 66, 56, 58, 48, 58, 48, 58, 49, 58, 48, 58, 48, 58, 49] : List UInt8)).bind fun v0 =>
 (n12 N ([49, 46, 50, 46, 51, 46, 48, 52] : List UInt8)).bind fun v1 =>
 (bif (v0.2 == (0 : Int)) then (n8 N v0.1) else some ([] : List UInt8)).bind fun v2 =>
 letK (v2 == ([50, 48, 48, 49, 58, 100, 98, 56, 58, 58, 49, 58, 48, 58, 48, 58, 49] : List UInt8)) fun v3 =>
 letK (bif (v0.2 == (0 : Int)) then v3 else false) fun v4 =>
 letK (bif v4 then (v1.2 == (2 : Int)) else false) fun v5 =>
 (bif v5 then (n8 N (false, (0 : Int), (3221225985 : Int))) else some ([] : List UInt8)).bind fun v6 =>
 letK (v6 == ([49, 57, 50, 46, 48, 46, 50, 46, 49] : List UInt8)) fun v7 =>
 some (bif v5 then v7 else false) := by kernel_rfl
theorem e5 (N : Nat) (a0 : List (Int)) : n5 (N + 1) a0 =
 some (a0, (0 : Int)) := by kernel_rfl
theorem e6 (N : Nat) (a0 : ((List (Int)) × Int)) : n6 (N + 1) a0 =
 (n14 N (a0, (6 : Int))).bind fun v0 =>
 bif (v0.1 == (0 : Int)) then ((n14 N (v0.2, (8 : Int))).bind fun v1 =>
 letK (IntKind.i64.wrap ((167772160 : Int) + (nShl IntKind.i64 v1.1 8))) fun v2 =>
 (n14 N (v1.2, (4 : Int))).bind fun v3 =>
 letK (IntKind.i64.wrap (v2 + v3.1)) fun v4 =>
 some ((false, (0 : Int), (IntKind.u64.wrap v4)), v3.2)) else (bif (v0.1 == (1 : Int)) then ((n14 N (v0.2, (4 : Int))).bind fun v5 =>
 letK (IntKind.u64.wrap ((2306139568115548160 : Int) + (IntKind.u64.wrap v5.1))) fun v6 =>
 (n14 N (v5.2, (8 : Int))).bind fun v7 =>
 some ((true, v6, (IntKind.u64.wrap v7.1)), v7.2)) else (bif (v0.1 == (2 : Int)) then (letK ([(0 : Int), (1 : Int), (4294967295 : Int), (2147483647 : Int), (2147483648 : Int)] : List (Int)) fun v8 =>
 (n14 N (v0.2, (5 : Int))).bind fun v9 =>
 (nIdx v8 v9.1).bind fun v10 =>
 some ((false, (0 : Int), v10), v9.2)) else (bif (v0.1 == (3 : Int)) then (letK ([(0 : Int), (1 : Int), (18446744073709551615 : Int), (9223372036854775808 : Int)] : List (Int)) fun v11 =>
 (n14 N (v0.2, (4 : Int))).bind fun v12 =>
 (nIdx v11 v12.1).bind fun v13 =>
 letK ([(0 : Int), (1 : Int), (18446744073709551615 : Int), (9223372036854775808 : Int)] : List (Int)) fun v14 =>
 (n14 N (v12.2, (4 : Int))).bind fun v15 =>
 (nIdx v14 v15.1).bind fun v16 =>
 some ((true, v13, v16), v15.2)) else (bif (v0.1 == (4 : Int)) then ((n14 N (v0.2, (1073741824 : Int))).bind fun v17 =>
 (n14 N (v17.2, (5 : Int))).bind fun v18 =>
 letK (IntKind.i64.wrap (v18.1 * (8 : Int))) fun v19 =>
 (if (IntKind.u64.wrap v19) < 0 then none else some (nShl IntKind.u64 (IntKind.u64.wrap v17.1) (IntKind.u64.wrap v19).toNat)).bind fun v20 =>
 (n14 N (v18.2, (1073741824 : Int))).bind fun v21 =>
 (n14 N (v21.2, (5 : Int))).bind fun v22 =>
 letK (IntKind.i64.wrap (v22.1 * (8 : Int))) fun v23 =>
 (if (IntKind.u64.wrap v23) < 0 then none else some (nShl IntKind.u64 (IntKind.u64.wrap v21.1) (IntKind.u64.wrap v23).toNat)).bind fun v24 =>
 some ((true, v20, v24), v22.2)) else ((n14 N (v0.2, (1073741824 : Int))).bind fun v25 =>
 some ((false, (0 : Int), (IntKind.u64.wrap v25.1)), v25.2)))))) := by kernel_rfl
theorem e7 (N : Nat) (a0 : ((List (Int)) × Int)) : n7 (N + 1) a0 =
 (n14 N (a0, (3 : Int))).bind fun v0 =>
 bif (v0.1 == (0 : Int)) then ((n14 N (v0.2, (3 : Int))).bind fun v1 =>
 letK (IntKind.i64.wrap ((3 : Int) + v1.1)) fun v2 =>
 joinK (fun (p3 : (List (List UInt8) × ((List (Int)) × Int))) =>
 (n15 N (p3.1, ([46] : List UInt8))).bind fun v5 =>
 some (v5, p3.2)) fun j4 =>
 loopN N (fun (p6 : (List (List UInt8) × (Int × (Int × ((List (Int)) × Int))))) =>
 bif (decide (p6.2.2.1 < p6.2.1)) then (letK ([([48] : List UInt8), ([49] : List UInt8), ([50, 53, 53] : List UInt8), ([50, 53, 54] : List UInt8), ([48, 49] : List UInt8), ([57] : List UInt8), ([] : List UInt8)] : List (List UInt8)) fun v7 =>
 (n14 N (p6.2.2.2, (7 : Int))).bind fun v8 =>
 (nIdx v7 v8.1).bind fun v9 =>
 (nApp 16 p6.1 ([v9] : List (List UInt8))).bind fun v10 =>
 letK (IntKind.i64.wrap (p6.2.2.1 + (1 : Int))) fun v11 =>
 again (v10, p6.2.1, v11, v8.2)) else (leave (j4 (p6.1, p6.2.2.2)))) (([] : List (List UInt8)), v2, (0 : Int), v1.2)) else ((n14 N (v0.2, (9 : Int))).bind fun v12 =>
 letK (IntKind.i64.wrap ((1 : Int) + v12.1)) fun v13 =>
 joinK (fun (p14 : (List (List UInt8) × ((List (Int)) × Int))) =>
 (n15 N (p14.1, ([58] : List UInt8))).bind fun v16 =>
 (n14 N (p14.2, (5 : Int))).bind fun v17 =>
 joinK (fun (p18 : (List UInt8 × ((List (Int)) × Int))) =>
 some (p18.1, p18.2)) fun j19 =>
 joinK (fun (p20 : (List UInt8 × ((List (Int)) × Int))) =>
 j19 (p20.1, p20.2)) fun j21 =>
 bif (v17.1 == (0 : Int)) then ((nCat ([58, 58] : List UInt8) v16).bind fun v22 =>
 j21 (v22, v17.2)) else (joinK (fun (p23 : (List UInt8 × ((List (Int)) × Int))) =>
 j21 (p23.1, p23.2)) fun j24 =>
 bif (v17.1 == (1 : Int)) then ((nCat v16 ([58, 58] : List UInt8)).bind fun v25 =>
 j24 (v25, v17.2)) else (joinK (fun (p26 : (List UInt8 × ((List (Int)) × Int))) =>
 j24 (p26.1, p26.2)) fun j27 =>
 bif (v17.1 == (2 : Int)) then ((nCat v16 ([58, 49, 46, 50, 46, 51, 46, 52] : List UInt8)).bind fun v28 =>
 j27 (v28, v17.2)) else (joinK (fun (p29 : (List UInt8 × ((List (Int)) × Int))) =>
 j27 (p29.1, p29.2)) fun j30 =>
 bif (v17.1 == (3 : Int)) then ((n16 N (v16, ([58, 48, 58] : List UInt8), ([58, 58] : List UInt8), (1 : Int))).bind fun v31 =>
 j30 (v31, v17.2)) else (j30 (v16, v17.2)))))) fun j15 =>
 loopN N (fun (p32 : (List (List UInt8) × (Int × (Int × ((List (Int)) × Int))))) =>
 letK (decide (p32.2.2.1 < p32.2.1)) fun v33 =>
 bif v33 then (letK ([([48] : List UInt8), ([49] : List UInt8), ([65, 66, 67, 68] : List UInt8), ([100, 98, 56] : List UInt8), ([48, 48, 48, 48] : List UInt8), ([48, 48, 97] : List UInt8), ([] : List UInt8), ([102, 102, 102, 102, 102] : List UInt8), ([103] : List UInt8), ([48] : List UInt8)] : List (List UInt8)) fun v34 =>
 (n14 N (p32.2.2.2, (10 : Int))).bind fun v35 =>
 (nIdx v34 v35.1).bind fun v36 =>
 (nApp 16 p32.1 ([v36] : List (List UInt8))).bind fun v37 =>
 letK (IntKind.i64.wrap (p32.2.2.1 + (1 : Int))) fun v38 =>
 again (v37, p32.2.1, v38, v35.2)) else (leave (j15 (p32.1, p32.2.2.2)))) (([] : List (List UInt8)), v13, (0 : Int), v12.2)) := by kernel_rfl
theorem e8 (N : Nat) (a0 : (Bool × Int × Int)) : n8 (N + 1) a0 =
 bif (!a0.1) then ((n17 N a0).bind fun v0 =>
 joinK (fun (p1 : List (List UInt8)) =>
 (n15 N (p1, ([46] : List UInt8))).bind fun v3 =>
 some v3) fun j2 =>
 loopN N (fun (p4 : (List (List UInt8) × (List (Int) × (Int × Int)))) =>
 letK (decide (p4.2.2.2 < p4.2.2.1)) fun v5 =>
 bif v5 then ((nIdx p4.2.1 p4.2.2.2).bind fun v6 =>
 (n18 N (IntKind.i64.wrap v6)).bind fun v7 =>
 (nApp 16 p4.1 ([v7] : List (List UInt8))).bind fun v8 =>
 letK (IntKind.i64.wrap (p4.2.2.2 + (1 : Int))) fun v9 =>
 again (v8, p4.2.1, p4.2.2.1, v9)) else (leave (j2 p4.1))) (([] : List (List UInt8)), v0, (nLen v0), (0 : Int))) else ((n19 N a0).bind fun v10 =>
 (n20 N v10).bind fun v11 =>
 bif (v11.2 == (0 : Int)) then ((some ([v10.1, v10.2.1, v10.2.2.1, v10.2.2.2.1, v10.2.2.2.2.1, v10.2.2.2.2.2.1, v10.2.2.2.2.2.2.1, v10.2.2.2.2.2.2.2] : List (Int))).bind fun v12 =>
 (n21 N v12).bind fun v13 =>
 some v13) else ((nTake ([v10.1, v10.2.1, v10.2.2.1, v10.2.2.2.1, v10.2.2.2.2.1, v10.2.2.2.2.2.1, v10.2.2.2.2.2.2.1, v10.2.2.2.2.2.2.2] : List (Int)) v11.1).bind fun v14 =>
 (n21 N v14).bind fun v15 =>
 (nCat v15 ([58, 58] : List UInt8)).bind fun v16 =>
 letK (IntKind.i64.wrap (v11.1 + v11.2)) fun v17 =>
 (nDrop ([v10.1, v10.2.1, v10.2.2.1, v10.2.2.2.1, v10.2.2.2.2.1, v10.2.2.2.2.2.1, v10.2.2.2.2.2.2.1, v10.2.2.2.2.2.2.2] : List (Int)) v17).bind fun v18 =>
 (n21 N v18).bind fun v19 =>
 (nCat v16 v19).bind fun v20 =>
 some v20)) := by kernel_rfl
theorem e9 (N : Nat) (a0 : (Bool × Int × Int)) : n9 (N + 1) a0 =
 (n22 N a0).bind fun v0 =>
 bif ((nLen v0) == (0 : Int)) then (some ([] : List UInt8)) else (bif (!a0.1) then ((nIdx v0 (0 : Int)).bind fun v1 =>
 (n18 N (IntKind.i64.wrap v1)).bind fun v2 =>
 (nCat v2 ([46] : List UInt8)).bind fun v3 =>
 (nIdx v0 (1 : Int)).bind fun v4 =>
 (n18 N (IntKind.i64.wrap v4)).bind fun v5 =>
 (nCat v3 v5).bind fun v6 =>
 (nCat v6 ([46] : List UInt8)).bind fun v7 =>
 (nIdx v0 (2 : Int)).bind fun v8 =>
 (n18 N (IntKind.i64.wrap v8)).bind fun v9 =>
 (nCat v7 v9).bind fun v10 =>
 (nCat v10 ([46] : List UInt8)).bind fun v11 =>
 (nIdx v0 (3 : Int)).bind fun v12 =>
 (n18 N (IntKind.i64.wrap v12)).bind fun v13 =>
 (nCat v11 v13).bind fun v14 =>
 some v14) else (joinK (fun (p15 : (List (Int) × (Int × Int))) =>
 joinK (fun (p17 : List UInt8) =>
 some p17) fun j18 =>
 loopN N (fun (p19 : (List (Int) × (Int × (Int × (List UInt8 × Int))))) =>
 letK (decide (p19.2.2.2.2 < (8 : Int))) fun v20 =>
 bif v20 then (joinK (fun (p21 : (List (Int) × (Int × (Int × (List UInt8 × Int))))) =>
 letK (IntKind.i64.wrap (p21.2.2.2.2 + (1 : Int))) fun v23 =>
 again (p21.1, p21.2.1, p21.2.2.1, p21.2.2.2.1, v23)) fun j22 =>
 bif (p19.2.2.2.2 == p19.2.1) then ((nCat p19.2.2.2.1 ([58, 58] : List UInt8)).bind fun v24 =>
 letK (IntKind.i64.wrap (p19.2.2.1 - (1 : Int))) fun v25 =>
 letK (IntKind.i64.wrap (p19.2.2.2.2 + v25)) fun v26 =>
 j22 (p19.1, p19.2.1, p19.2.2.1, v24, v26)) else (letK (!(p19.2.2.2.1 == ([] : List UInt8))) fun v27 =>
 (bif v27 then (n23 N (p19.2.2.2.1, ([58] : List UInt8))) else some false).bind fun v28 =>
 letK (bif v27 then (!v28) else false) fun v29 =>
 joinK (fun (p30 : (List (Int) × (Int × (Int × (List UInt8 × Int))))) =>
 letK (IntKind.i64.wrap ((2 : Int) * p30.2.2.2.2)) fun v32 =>
 (nIdx p30.1 v32).bind fun v33 =>
 letK (nShl IntKind.u64 (IntKind.u64.wrap v33) 8) fun v34 =>
 letK (IntKind.i64.wrap ((2 : Int) * p30.2.2.2.2)) fun v35 =>
 letK (IntKind.i64.wrap (v35 + (1 : Int))) fun v36 =>
 (nIdx p30.1 v36).bind fun v37 =>
 letK (bits .or IntKind.u64 v34 (IntKind.u64.wrap v37)) fun v38 =>
 (n24 N (v38, (16 : Int))).bind fun v39 =>
 (nCat p30.2.2.2.1 v39).bind fun v40 =>
 j22 (p30.1, p30.2.1, p30.2.2.1, v40, p30.2.2.2.2)) fun j31 =>
 bif v29 then ((nCat p19.2.2.2.1 ([58] : List UInt8)).bind fun v41 =>
 j31 (p19.1, p19.2.1, p19.2.2.1, v41, p19.2.2.2.2)) else (j31 (p19.1, p19.2.1, p19.2.2.1, p19.2.2.2.1, p19.2.2.2.2)))) else (leave (j18 p19.2.2.2.1))) (p15.1, p15.2.1, p15.2.2, ([] : List UInt8), (0 : Int))) fun j16 =>
 loopN N (fun (p42 : (List (Int) × (Int × (Int × Int)))) =>
 letK (decide (p42.2.2.2 < (8 : Int))) fun v43 =>
 bif v43 then (joinK (fun (p44 : (List (Int) × (Int × (Int × Int)))) =>
 letK (IntKind.i64.wrap (p44.2.2.2 + (1 : Int))) fun v46 =>
 again (p44.1, p44.2.1, p44.2.2.1, v46)) fun j45 =>
 joinK (fun (p47 : (List (Int) × (Int × (Int × (Int × (Int × Int)))))) =>
 letK (decide (p47.2.2.2.2.1 > p47.2.2.1)) fun v49 =>
 joinK (fun (p50 : (List (Int) × (Int × (Int × Int)))) =>
 j45 (p50.1, p50.2.1, p50.2.2.1, p50.2.2.2)) fun j51 =>
 bif v49 then (j51 (p47.1, p47.2.2.2.1, p47.2.2.2.2.1, p47.2.2.2.2.2)) else (j51 (p47.1, p47.2.1, p47.2.2.1, p47.2.2.2.2.2))) fun j48 =>
 loopN N (fun (p52 : (List (Int) × (Int × (Int × (Int × (Int × Int)))))) =>
 letK (IntKind.i64.wrap (p52.2.2.2.1 + p52.2.2.2.2.1)) fun v53 =>
 letK (IntKind.i64.wrap (p52.2.2.2.1 + p52.2.2.2.2.1)) fun v54 =>
 letK (IntKind.i64.wrap ((2 : Int) * v54)) fun v55 =>
 (bif (decide (v53 < (8 : Int))) then (nIdx p52.1 v55) else some (0 : Int)).bind fun v56 =>
 letK (bif (decide (v53 < (8 : Int))) then (v56 == (0 : Int)) else false) fun v57 =>
 letK (IntKind.i64.wrap (p52.2.2.2.1 + p52.2.2.2.2.1)) fun v58 =>
 letK (IntKind.i64.wrap ((2 : Int) * v58)) fun v59 =>
 letK (IntKind.i64.wrap (v59 + (1 : Int))) fun v60 =>
 (bif v57 then (nIdx p52.1 v60) else some (0 : Int)).bind fun v61 =>
 letK (bif v57 then (v61 == (0 : Int)) else false) fun v62 =>
 bif v62 then (letK (IntKind.i64.wrap (p52.2.2.2.2.1 + (1 : Int))) fun v63 =>
 again (p52.1, p52.2.1, p52.2.2.1, p52.2.2.2.1, v63, p52.2.2.2.2.2)) else (leave (j48 (p52.1, p52.2.1, p52.2.2.1, p52.2.2.2.1, p52.2.2.2.2.1, p52.2.2.2.2.2)))) (p42.1, p42.2.1, p42.2.2.1, p42.2.2.2, (0 : Int), p42.2.2.2)) else (leave (j16 (p42.1, p42.2.1, p42.2.2.1)))) (v0, (-1 : Int), (1 : Int), (0 : Int)))) := by kernel_rfl
theorem e10 (N : Nat) (a0 : List (Int)) (a1 : Int) (a2 : Int) : n10 (N + 1) (a0, a1, a2) =
 (nApp 1 ([] : List (Int)) a0).bind fun v0 =>
 bif ((nLen v0) == (0 : Int)) then (letK ([(IntKind.u8.wrap a2)] : List (Int)) fun v1 =>
 some v1) else ((n25 N (a1, (nLen v0))).bind fun v2 =>
 letK (IntKind.i64.wrap (Int.tdiv a2 (256 : Int))) fun v3 =>
 (n25 N (v3, (4 : Int))).bind fun v4 =>
 bif (v4 == (0 : Int)) then ((nIdx v0 v2).bind fun v5 =>
 letK (v0.set v2.toNat (IntKind.u8.wrap a2)) fun v6 =>
 some v6) else (bif (v4 == (1 : Int)) then ((nTake v0 v2).bind fun v7 =>
 letK (IntKind.i64.wrap (v2 + (1 : Int))) fun v8 =>
 (nDrop v0 v8).bind fun v9 =>
 (nApp 1 v7 v9).bind fun v10 =>
 some v10) else (bif (v4 == (2 : Int)) then ((nTake v0 v2).bind fun v11 =>
 (nApp 1 ([] : List (Int)) v11).bind fun v12 =>
 letK ([(IntKind.u8.wrap a2)] : List (Int)) fun v13 =>
 (nApp 1 v12 v13).bind fun v14 =>
 (nDrop v0 v2).bind fun v15 =>
 (nApp 1 v14 v15).bind fun v16 =>
 some v16) else ((nTake v0 v2).bind fun v17 =>
 some v17)))) := by kernel_rfl
theorem e12 (N : Nat) (a0 : List UInt8) : n12 (N + 1) a0 =
 (n32 N (a0, ([58] : List UInt8))).bind fun v0 =>
 bif (!v0) then ((n33 N a0).bind fun v1 =>
 bif (!v1.2) then (some ((false, (0 : Int), (0 : Int)), (2 : Int))) else (some (v1.1, (0 : Int)))) else ((n34 N a0).bind fun v2 =>
 bif (!v2.2) then (some ((false, (0 : Int), (0 : Int)), (2 : Int))) else (joinK (fun (p3 : ((Bool × Int × Int) × (Bool × Int × Int))) =>
 some (p3.2, (0 : Int))) fun j4 =>
 loopN N (fun (p5 : ((Bool × Int × Int) × ((Bool × Int × Int) × (List (Int) × (Int × Int))))) =>
 letK (decide (p5.2.2.2.2 < p5.2.2.2.1)) fun v6 =>
 bif v6 then ((nIdx p5.2.2.1 p5.2.2.2.2).bind fun v7 =>
 letK (nShl IntKind.u64 p5.2.1.2.1 16) fun v8 =>
 letK (nShr IntKind.u64 p5.2.1.2.2 48) fun v9 =>
 letK (nShl IntKind.u64 p5.2.1.2.2 16) fun v10 =>
 letK (bits .or IntKind.u64 v10 v7) fun v11 =>
 letK (IntKind.i64.wrap (p5.2.2.2.2 + (1 : Int))) fun v12 =>
 again (p5.1, (p5.2.1.1, (bits .or IntKind.u64 v8 v9), v11), p5.2.2.1, p5.2.2.2.1, v12)) else (leave (j4 (p5.1, p5.2.1)))) ((false, (0 : Int), (0 : Int)), (true, (0 : Int), (0 : Int)), v2.1, (nLen v2.1), (0 : Int)))) := by kernel_rfl
theorem e13 (N : Nat) (a0 : List UInt8) : n13 (N + 1) a0 =
 (n32 N (a0, ([58] : List UInt8))).bind fun v0 =>
 bif (!v0) then ((n35 N a0).bind fun v1 =>
 bif (!v1.2) then (some ((false, (0 : Int), (0 : Int)), (2 : Int))) else ((n36 N v1.1).bind fun v2 =>
 some (v2.1, v2.2))) else ((n37 N (a0, ([58, 58] : List UInt8))).bind fun v3 =>
 bif (decide (v3 < (0 : Int))) then ((n38 N a0).bind fun v4 =>
 letK (bif (!v4.2) then true else ((nLen v4.1) != (16 : Int))) fun v5 =>
 bif v5 then (some ((false, (0 : Int), (0 : Int)), (2 : Int))) else ((n36 N v4.1).bind fun v6 =>
 some (v6.1, v6.2))) else ((nTake a0 v3).bind fun v7 =>
 (n38 N v7).bind fun v8 =>
 letK (IntKind.i64.wrap (v3 + (2 : Int))) fun v9 =>
 (nDrop a0 v9).bind fun v10 =>
 (n38 N v10).bind fun v11 =>
 letK (bif (!v8.2) then true else (!v11.2)) fun v12 =>
 (bif (!v12) then (nTake a0 v3) else some ([] : List UInt8)).bind fun v13 =>
 (bif (!v12) then (n32 N (v13, ([46] : List UInt8))) else some false).bind fun v14 =>
 letK (IntKind.i64.wrap ((nLen v8.1) + (nLen v11.1))) fun v15 =>
 letK (bif (bif v12 then true else v14) then true else (decide (v15 > (14 : Int)))) fun v16 =>
 bif v16 then (some ((false, (0 : Int), (0 : Int)), (2 : Int))) else (joinK (fun (p17 : ((Bool × Int × Int) × (List (Int) × List (Int)))) =>
 (nApp 1 p17.2.1 p17.2.2).bind fun v19 =>
 (n36 N v19).bind fun v20 =>
 some (v20.1, v20.2)) fun j18 =>
 loopN N (fun (p21 : ((Bool × Int × Int) × (List (Int) × List (Int)))) =>
 letK (IntKind.i64.wrap ((nLen p21.2.1) + (nLen p21.2.2))) fun v22 =>
 bif (decide (v22 < (16 : Int))) then ((nApp 1 p21.2.1 ([(0 : Int)] : List (Int))).bind fun v23 =>
 again (p21.1, v23, p21.2.2)) else (leave (j18 (p21.1, p21.2.1, p21.2.2)))) ((false, (0 : Int), (0 : Int)), v8.1, v11.1)))) := by kernel_rfl
theorem e14 (N : Nat) (a0 : ((List (Int)) × Int)) (a1 : Int) : n14 (N + 1) (a0, a1) =
 letK (decide (a0.2 ≥ (nLen a0.1))) fun v0 =>
 bif v0 then (some ((0 : Int), a0)) else (letK (IntKind.i64.wrap (a0.2 + (1 : Int))) fun v1 =>
 letK (IntKind.i64.wrap (v1 - (1 : Int))) fun v2 =>
 (nIdx a0.1 v2).bind fun v3 =>
 (n25 N (v3, a1)).bind fun v4 =>
 some (v4, a0.1, v1)) := by kernel_rfl
theorem e17 (N : Nat) (a0 : (Bool × Int × Int)) : n17 (N + 1) a0 =
 (n41 N a0).bind fun v0 =>
 bif (!v0) then (some ([] : List (Int))) else (joinK (fun (p1 : ((Bool × Int × Int) × Int)) =>
 (nMake 1 (0 : Int) p1.2 p1.2).bind fun v3 =>
 letK (IntKind.i64.wrap (p1.2 - (1 : Int))) fun v4 =>
 joinK (fun (p5 : List (Int)) =>
 some p5) fun j6 =>
 loopN N (fun (p7 : ((Bool × Int × Int) × (List (Int) × Int))) =>
 letK (decide (p7.2.2 ≥ (0 : Int))) fun v8 =>
 bif v8 then ((nIdx p7.2.1 p7.2.2).bind fun v9 =>
 letK (p7.2.1.set p7.2.2.toNat (IntKind.u8.wrap p7.1.2.2)) fun v10 =>
 letK (nShr IntKind.u64 p7.1.2.2 8) fun v11 =>
 letK (nShl IntKind.u64 p7.1.2.1 56) fun v12 =>
 letK (bits .or IntKind.u64 v11 v12) fun v13 =>
 letK (nShr IntKind.u64 p7.1.2.1 8) fun v14 =>
 letK (IntKind.i64.wrap (p7.2.2 - (1 : Int))) fun v15 =>
 again ((p7.1.1, v14, v13), v10, v15)) else (leave (j6 p7.2.1))) (p1.1, v3, v4)) fun j2 =>
 bif a0.1 then (j2 (a0, (16 : Int))) else (j2 (a0, (4 : Int)))) := by kernel_rfl
theorem e19 (N : Nat) (a0 : (Bool × Int × Int)) : n19 (N + 1) a0 =
 joinK (fun (p0 : (Int × Int × Int × Int × Int × Int × Int × Int)) =>
 some p0) fun j1 =>
 loopN N (fun (p2 : ((Bool × Int × Int) × ((Int × Int × Int × Int × Int × Int × Int × Int) × Int))) =>
 letK (decide (p2.2.2 ≥ (0 : Int))) fun v3 =>
 bif v3 then (letK (bits .and IntKind.u64 p2.1.2.2 (65535 : Int)) fun v4 =>
 (nBnd p2.2.2 8).bind fun v5 =>
 letK (if v5 < 1 then (v4, p2.2.1.2) else (p2.2.1.1, (if (v5 - 1) < 1 then (v4, p2.2.1.2.2) else (p2.2.1.2.1, (if ((v5 - 1) - 1) < 1 then (v4, p2.2.1.2.2.2) else (p2.2.1.2.2.1, (if (((v5 - 1) - 1) - 1) < 1 then (v4, p2.2.1.2.2.2.2) else (p2.2.1.2.2.2.1, (if ((((v5 - 1) - 1) - 1) - 1) < 1 then (v4, p2.2.1.2.2.2.2.2) else (p2.2.1.2.2.2.2.1, (if (((((v5 - 1) - 1) - 1) - 1) - 1) < 1 then (v4, p2.2.1.2.2.2.2.2.2) else (p2.2.1.2.2.2.2.2.1, (if ((((((v5 - 1) - 1) - 1) - 1) - 1) - 1) < 1 then (v4, p2.2.1.2.2.2.2.2.2.2) else (p2.2.1.2.2.2.2.2.2.1, v4)))))))))))))) fun v6 =>
 letK (nShr IntKind.u64 p2.1.2.2 16) fun v7 =>
 letK (nShl IntKind.u64 p2.1.2.1 48) fun v8 =>
 letK (nShr IntKind.u64 p2.1.2.1 16) fun v9 =>
 letK (IntKind.i64.wrap (p2.2.2 - (1 : Int))) fun v10 =>
 again ((p2.1.1, v9, (bits .or IntKind.u64 v7 v8)), v6, v10)) else (leave (j1 p2.2.1))) (a0, ((0 : Int), (0 : Int), (0 : Int), (0 : Int), (0 : Int), (0 : Int), (0 : Int), (0 : Int)), (7 : Int)) := by kernel_rfl
theorem e20 (N : Nat) (a0 : (Int × Int × Int × Int × Int × Int × Int × Int)) : n20 (N + 1) a0 =
 joinK (fun (p0 : (Int × Int)) =>
 some (p0.1, p0.2)) fun j1 =>
 loopN N (fun (p2 : ((Int × Int × Int × Int × Int × Int × Int × Int) × (Int × (Int × Int)))) =>
 letK (decide (p2.2.2.2 < (8 : Int))) fun v3 =>
 bif v3 then (joinK (fun (p4 : ((Int × Int × Int × Int × Int × Int × Int × Int) × (Int × (Int × Int)))) =>
 letK (IntKind.i64.wrap (p4.2.2.2 + (1 : Int))) fun v6 =>
 again (p4.1, p4.2.1, p4.2.2.1, v6)) fun j5 =>
 joinK (fun (p7 : ((Int × Int × Int × Int × Int × Int × Int × Int) × (Int × (Int × (Int × Int))))) =>
 letK (IntKind.i64.wrap (p7.2.2.2.2 - p7.2.2.2.1)) fun v9 =>
 letK (mmT true p7.2.2.1 (1 : Int)) fun v10 =>
 joinK (fun (p11 : ((Int × Int × Int × Int × Int × Int × Int × Int) × (Int × (Int × Int)))) =>
 j5 (p11.1, p11.2.1, p11.2.2.1, p11.2.2.2)) fun j12 =>
 bif (decide (v9 > v10)) then (letK (IntKind.i64.wrap (p7.2.2.2.2 - p7.2.2.2.1)) fun v13 =>
 j12 (p7.1, p7.2.2.2.1, v13, p7.2.2.2.1)) else (j12 (p7.1, p7.2.1, p7.2.2.1, p7.2.2.2.1))) fun j8 =>
 loopN N (fun (p14 : ((Int × Int × Int × Int × Int × Int × Int × Int) × (Int × (Int × (Int × Int))))) =>
 letK (decide (p14.2.2.2.2 < (8 : Int))) fun v15 =>
 (bif v15 then (nBnd p14.2.2.2.2 8) else some (0 : Nat)).bind fun v16 =>
 letK (([p14.1.1, p14.1.2.1, p14.1.2.2.1, p14.1.2.2.2.1, p14.1.2.2.2.2.1, p14.1.2.2.2.2.2.1, p14.1.2.2.2.2.2.2.1, p14.1.2.2.2.2.2.2.2] : List (Int)).getD v16 (0 : Int)) fun v17 =>
 letK (bif v15 then (v17 == (0 : Int)) else false) fun v18 =>
 bif v18 then (letK (IntKind.i64.wrap (p14.2.2.2.2 + (1 : Int))) fun v19 =>
 again (p14.1, p14.2.1, p14.2.2.1, p14.2.2.2.1, v19)) else (leave (j8 (p14.1, p14.2.1, p14.2.2.1, p14.2.2.2.1, p14.2.2.2.2)))) (p2.1, p2.2.1, p2.2.2.1, p2.2.2.2, p2.2.2.2)) else (leave (j1 (p2.2.1, p2.2.2.1)))) (a0, (0 : Int), (0 : Int), (0 : Int)) := by kernel_rfl
theorem e21 (N : Nat) (a0 : List (Int)) : n21 (N + 1) a0 =
 joinK (fun (p0 : List (List UInt8)) =>
 (n15 N (p0, ([58] : List UInt8))).bind fun v2 =>
 some v2) fun j1 =>
 loopN N (fun (p3 : (List (List UInt8) × (List (Int) × (Int × Int)))) =>
 letK (decide (p3.2.2.2 < p3.2.2.1)) fun v4 =>
 bif v4 then ((nIdx p3.2.1 p3.2.2.2).bind fun v5 =>
 (n24 N (v5, (16 : Int))).bind fun v6 =>
 (nApp 16 p3.1 ([v6] : List (List UInt8))).bind fun v7 =>
 letK (IntKind.i64.wrap (p3.2.2.2 + (1 : Int))) fun v8 =>
 again (v7, p3.2.1, p3.2.2.1, v8)) else (leave (j1 p3.1))) (([] : List (List UInt8)), a0, (nLen a0), (0 : Int)) := by kernel_rfl
theorem e22 (N : Nat) (a0 : (Bool × Int × Int)) : n22 (N + 1) a0 =
 (n43 N a0).bind fun v0 =>
 bif (!v0) then (some ([] : List (Int))) else (joinK (fun (p1 : ((Bool × Int × Int) × Int)) =>
 letK (IntKind.i64.wrap (p1.2 - (1 : Int))) fun v3 =>
 joinK (fun (p4 : List (Int)) =>
 some p4) fun j5 =>
 loopN N (fun (p6 : ((Bool × Int × Int) × (List (Int) × Int))) =>
 letK (decide (p6.2.2 ≥ (0 : Int))) fun v7 =>
 bif v7 then (letK (decide (p6.2.2 ≥ (8 : Int))) fun v8 =>
 joinK (fun (p9 : ((Bool × Int × Int) × (List (Int) × (Int × Int)))) =>
 letK (Int.tmod p9.2.2.1 (8 : Int)) fun v11 =>
 letK (IntKind.u64.wrap ((8 : Int) * (IntKind.u64.wrap v11))) fun v12 =>
 (if v12 < 0 then none else some (nShr IntKind.u64 p9.2.2.2 v12.toNat)).bind fun v13 =>
 letK ([(IntKind.u8.wrap v13)] : List (Int)) fun v14 =>
 (nApp 1 p9.2.1 v14).bind fun v15 =>
 letK (IntKind.i64.wrap (p9.2.2.1 - (1 : Int))) fun v16 =>
 again (p9.1, v15, v16)) fun j10 =>
 bif v8 then (j10 (p6.1, p6.2.1, p6.2.2, p6.1.2.1)) else (j10 (p6.1, p6.2.1, p6.2.2, p6.1.2.2))) else (leave (j5 p6.2.1))) (p1.1, ([] : List (Int)), v3)) fun j2 =>
 bif a0.1 then (j2 (a0, (16 : Int))) else (j2 (a0, (4 : Int)))) := by kernel_rfl
end Go.Proofs.YtfglhfbnbdmhfaaGreatDoor
