/- The functions as they are read. -/
import Derived.Test.YtndaipcfahfkkaaNN
namespace Go.Proofs.Ytndaipcfahfkkaa
open Go.VM
set_option maxRecDepth 100000
theorem e3 (N : Nat) (a0 : (Int × Int × Int × Int × Int × Int)) (a1 : List UInt8) (a2 : (Bool × Int × Int)) (a3 : Int) (a4 : Int) : n3 (N + 1) (a0, a1, a2, a3, a4) =
 letK (decide ((nLen a1) > (600 : Int))) fun v0 =>
 bif v0 then ((n8 N ()).bind fun v1 =>
 some v1) else ((n9 N (a4, (2 : Int))).bind fun v2 =>
 (n9 N (a3, (32 : Int))).bind fun v3 =>
 (n9 N (a3, (32 : Int))).bind fun v4 =>
 letK ([a0, ((1 : Int), (128 : Int), (194 : Int), (0 : Int), (IntKind.u8.wrap v2), (IntKind.u8.wrap v3)), ((1 : Int), (128 : Int), (194 : Int), (0 : Int), (0 : Int), (IntKind.u8.wrap v4)), ((255 : Int), (255 : Int), (255 : Int), (255 : Int), (255 : Int), (IntKind.u8.wrap a4))] : List ((Int × Int × Int × Int × Int × Int))) fun v5 =>
 joinK (fun (p6 : (Bool × Int × Int)) =>
 (n21 N p6).bind fun v8 =>
 (n22 N p6).bind fun v9 =>
 letK (false != ((v8.1 == v9.1) && ((v8.2.1 == v9.2.1) && ((v8.2.2.1 == v9.2.2.1) && ((v8.2.2.2.1 == v9.2.2.2.1) && ((v8.2.2.2.2.1 == v9.2.2.2.2.1) && (v8.2.2.2.2.2 == v9.2.2.2.2.2))))))) fun v10 =>
 (bif v10 then (n8 N ()) else some false).bind fun v11 =>
 letK (bif v10 then v11 else false) fun v12 =>
 some v12) fun j7 =>
 loopN N (fun (p13 : (List UInt8 × (Int × (Int × ((Bool × Int × Int) × (List ((Int × Int × Int × Int × Int × Int)) × (Int × Int))))))) =>
 letK (decide (p13.2.2.2.2.2.2 < p13.2.2.2.2.2.1)) fun v14 =>
 bif v14 then (joinK (fun (p15 : (List UInt8 × (Int × (Int × ((Bool × Int × Int) × (List ((Int × Int × Int × Int × Int × Int)) × (Int × Int))))))) =>
 letK (IntKind.i64.wrap (p15.2.2.2.2.2.2 + (1 : Int))) fun v17 =>
 again (p15.1, p15.2.1, p15.2.2.1, p15.2.2.2.1, p15.2.2.2.2.1, p15.2.2.2.2.2.1, v17)) fun j16 =>
 (nIdx p13.2.2.2.2.1 p13.2.2.2.2.2.2).bind fun v18 =>
 (n10 N v18).bind fun v19 =>
 (n11 N v18).bind fun v20 =>
 (bif (!(!(v19 == v20))) then (n12 N v18) else some false).bind fun v21 =>
 (bif (!(!(v19 == v20))) then (n13 N v18) else some false).bind fun v22 =>
 letK (bif (!(v19 == v20)) then true else (true != (v21 == v22))) fun v23 =>
 (bif (!v23) then (n14 N v18) else some false).bind fun v24 =>
 (bif (!v23) then (n15 N v18) else some false).bind fun v25 =>
 letK (bif v23 then true else (true != (v24 == v25))) fun v26 =>
 (bif (!v26) then (n16 N ()) else some ((0 : Int), (0 : Int), (0 : Int), (0 : Int), (0 : Int), (0 : Int))).bind fun v27 =>
 letK (false != ((v27.1 == v18.1) && ((v27.2.1 == v18.2.1) && ((v27.2.2.1 == v18.2.2.1) && ((v27.2.2.2.1 == v18.2.2.2.1) && ((v27.2.2.2.2.1 == v18.2.2.2.2.1) && (v27.2.2.2.2.2 == v18.2.2.2.2.2))))))) fun v28 =>
 (bif (!v26) then (n17 N ()) else some ((0 : Int), (0 : Int), (0 : Int), (0 : Int), (0 : Int), (0 : Int))).bind fun v29 =>
 letK (false != ((v29.1 == v18.1) && ((v29.2.1 == v18.2.1) && ((v29.2.2.1 == v18.2.2.1) && ((v29.2.2.2.1 == v18.2.2.2.1) && ((v29.2.2.2.2.1 == v18.2.2.2.2.1) && (v29.2.2.2.2.2 == v18.2.2.2.2.2))))))) fun v30 =>
 letK (bif v26 then true else (true != (v28 == v30))) fun v31 =>
 bif v31 then (leave (some false)) else ((n11 N v18).bind fun v32 =>
 (n11 N v18).bind fun v33 =>
 (nToBytes v33).bind fun v34 =>
 (n18 N (v34, p13.2.1, p13.2.2.1)).bind fun v35 =>
 letK ([p13.1, v32, (nStr v35)] : List (List UInt8)) fun v36 =>
 joinK (fun (p37 : (List UInt8 × (Int × (Int × ((Bool × Int × Int) × (List ((Int × Int × Int × Int × Int × Int)) × (Int × Int))))))) =>
 j16 (p37.1, p37.2.1, p37.2.2.1, p37.2.2.2.1, p37.2.2.2.2.1, p37.2.2.2.2.2.1, p37.2.2.2.2.2.2)) fun j38 =>
 loopN N (fun (p39 : (List UInt8 × (Int × (Int × ((Bool × Int × Int) × (List ((Int × Int × Int × Int × Int × Int)) × (Int × (Int × (List (List UInt8) × (Int × Int)))))))))) =>
 letK (decide (p39.2.2.2.2.2.2.2.2.2 < p39.2.2.2.2.2.2.2.2.1)) fun v40 =>
 bif v40 then ((nIdx p39.2.2.2.2.2.2.2.1 p39.2.2.2.2.2.2.2.2.2).bind fun v41 =>
 (n19 N v41).bind fun v42 =>
 (n20 N v41).bind fun v43 =>
 letK (true != ((v42.1.1 == v43.1.1) && ((v42.1.2.1 == v43.1.2.1) && ((v42.1.2.2.1 == v43.1.2.2.1) && ((v42.1.2.2.2.1 == v43.1.2.2.2.1) && ((v42.1.2.2.2.2.1 == v43.1.2.2.2.2.1) && (v42.1.2.2.2.2.2 == v43.1.2.2.2.2.2))))))) fun v44 =>
 letK (bif v44 then true else (v42.2 != v43.2)) fun v45 =>
 bif v45 then (leave (leave (some false))) else (letK (IntKind.i64.wrap (p39.2.2.2.2.2.2.2.2.2 + (1 : Int))) fun v46 =>
 again (p39.1, p39.2.1, p39.2.2.1, p39.2.2.2.1, p39.2.2.2.2.1, p39.2.2.2.2.2.1, p39.2.2.2.2.2.2.1, p39.2.2.2.2.2.2.2.1, p39.2.2.2.2.2.2.2.2.1, v46))) else (leave (j38 (p39.1, p39.2.1, p39.2.2.1, p39.2.2.2.1, p39.2.2.2.2.1, p39.2.2.2.2.2.1, p39.2.2.2.2.2.2.1)))) (p13.1, p13.2.1, p13.2.2.1, p13.2.2.2.1, p13.2.2.2.2.1, p13.2.2.2.2.2.1, p13.2.2.2.2.2.2, v36, (nLen v36), (0 : Int)))) else (leave (j7 p13.2.2.2.1))) (a1, a3, a4, a2, v5, (nLen v5), (0 : Int))) := by kernel_rfl
theorem e4 (N : Nat) (a0 : (Bool × Int × Int)) (a1 : (Bool × Int × Int)) (a2 : Int) (a3 : Int) : n4 (N + 1) (a0, a1, a2, a3) =
 (n21 N (true, a0.2)).bind fun v0 =>
 (n21 N (true, a1.2)).bind fun v1 =>
 (n12 N v0).bind fun v2 =>
 (bif v2 then (n16 N ()) else some ((0 : Int), (0 : Int), (0 : Int), (0 : Int), (0 : Int), (0 : Int))).bind fun v3 =>
 (bif v2 then (n12 N v3) else some false).bind fun v4 =>
 (bif (bif v2 then v4 else false) then (n14 N v0) else some false).bind fun v5 =>
 letK (bif (bif v2 then v4 else false) then (!v5) else false) fun v6 =>
 (bif v6 then (n16 N ()) else some ((0 : Int), (0 : Int), (0 : Int), (0 : Int), (0 : Int), (0 : Int))).bind fun v7 =>
 (bif v6 then (n14 N v7) else some false).bind fun v8 =>
 letK (bif v6 then (!v8) else false) fun v9 =>
 (bif v9 then (n23 N a2) else some ((0 : Int), (0 : Int), (0 : Int), (0 : Int), (0 : Int), (0 : Int))).bind fun v10 =>
 (bif v9 then (n12 N v10) else some false).bind fun v11 =>
 letK (bif v9 then (!v11) else false) fun v12 =>
 letK (false != ((v0.1 == v1.1) && ((v0.2.1 == v1.2.1) && ((v0.2.2.1 == v1.2.2.1) && ((v0.2.2.2.1 == v1.2.2.2.1) && ((v0.2.2.2.2.1 == v1.2.2.2.2.1) && (v0.2.2.2.2.2 == v1.2.2.2.2.2))))))) fun v13 =>
 letK (bits .and IntKind.u64 a0.2.2 (16777215 : Int)) fun v14 =>
 letK (bits .and IntKind.u64 a1.2.2 (16777215 : Int)) fun v15 =>
 letK (false != (v13 == (v14 == v15))) fun v16 =>
 letK (bif v12 then v16 else false) fun v17 =>
 letK (bits .and IntKind.u8 a3 (15 : Int)) fun v18 =>
 (bif v17 then (n14 N ((1 : Int), (128 : Int), (194 : Int), (0 : Int), (0 : Int), v18)) else some false).bind fun v19 =>
 letK (bif v17 then v19 else false) fun v20 =>
 (bif v20 then (n21 N (false, (0 : Int), (5 : Int))) else some ((0 : Int), (0 : Int), (0 : Int), (0 : Int), (0 : Int), (0 : Int))).bind fun v21 =>
 letK (false != ((v21.1 == (0 : Int)) && ((v21.2.1 == (0 : Int)) && ((v21.2.2.1 == (0 : Int)) && ((v21.2.2.2.1 == (0 : Int)) && ((v21.2.2.2.2.1 == (0 : Int)) && (v21.2.2.2.2.2 == (0 : Int)))))))) fun v22 =>
 letK (bif v20 then v22 else false) fun v23 =>
 (bif v23 then (n8 N ()) else some false).bind fun v24 =>
 letK (bif v23 then v24 else false) fun v25 =>
 some v25 := by kernel_rfl
theorem e5 (N : Nat) (a0 : ((Int × Int × Int × Int × Int × Int) × (Int × Int × Int × Int × Int × Int) × Int × Int × (List (Int)))) (a1 : List (Int)) (a2 : List (Int)) (a3 : Int) (a4 : Int) : n5 (N + 1) (a0, a1, a2, a3, a4) =
 (n24 N a1).bind fun v0 =>
 (bif (!(!v0)) then (n24 N a0.2.2.2.2) else some false).bind fun v1 =>
 letK (bif (!v0) then true else (!v1)) fun v2 =>
 bif v2 then ((n8 N ()).bind fun v3 =>
 some v3) else ((n26 N a2).bind fun v4 =>
 (n25 N v4).bind fun v5 =>
 letK ([a0, v5.1] : List (((Int × Int × Int × Int × Int × Int) × (Int × Int × Int × Int × Int × Int) × Int × Int × (List (Int))))) fun v6 =>
 joinK (fun (p7 : (List (Int) × (Int × (Int × ((Int × Int × Int × Int × Int × Int) × (Int × Int × Int × Int × Int × Int) × Int × Int × (List (Int))))))) =>
 (n28 N p7.2.2.2).bind fun v9 =>
 (nMake 1 (0 : Int) (12 : Int) (12 : Int)).bind fun v10 =>
 letK (nShr IntKind.i64 p7.2.2.1 8) fun v11 =>
 letK ([(129 : Int), (0 : Int), (IntKind.u8.wrap p7.2.2.1), (IntKind.u8.wrap p7.2.1), (IntKind.u8.wrap v11), (0 : Int)] : List (Int)) fun v12 =>
 (nApp 1 v10 v12).bind fun v13 =>
 (nApp 1 v13 p7.1).bind fun v14 =>
 (n18 N (v9.1, p7.2.1, p7.2.2.1)).bind fun v15 =>
 letK (IntKind.i64.wrap ((nLen v9.1) + (1 : Int))) fun v16 =>
 (n9 N (p7.2.1, v16)).bind fun v17 =>
 (nTake v9.1 v17).bind fun v18 =>
 (nMake 1 (0 : Int) (12 : Int) (12 : Int)).bind fun v19 =>
 letK ([(8 : Int), (0 : Int)] : List (Int)) fun v20 =>
 (nApp 1 v19 v20).bind fun v21 =>
 letK ([p7.1, v9.1, v15, v14, v18, v21] : List (List (Int))) fun v22 =>
 joinK (fun (p23 : Unit) =>
 (n8 N ()).bind fun v25 =>
 some v25) fun j24 =>
 loopN N (fun (p26 : (List (List (Int)) × (Int × Int))) =>
 bif (decide (p26.2.2 < p26.2.1)) then ((nIdx p26.1 p26.2.2).bind fun v27 =>
 (n31 N v27).bind fun v28 =>
 (n32 N v27).bind fun v29 =>
 (n33 N (v28.1, v29.1)).bind fun v30 =>
 letK (bif (!v30) then true else (v28.2 != v29.2)) fun v31 =>
 bif v31 then (leave (some false)) else (letK (IntKind.i64.wrap (p26.2.2 + (1 : Int))) fun v32 =>
 again (p26.1, p26.2.1, v32))) else (leave (j24 ()))) (v22, (nLen v22), (0 : Int))) fun j8 =>
 loopN N (fun (p33 : (List (Int) × (Int × (Int × (((Int × Int × Int × Int × Int × Int) × (Int × Int × Int × Int × Int × Int) × Int × Int × (List (Int))) × (List (((Int × Int × Int × Int × Int × Int) × (Int × Int × Int × Int × Int × Int) × Int × Int × (List (Int)))) × (Int × Int))))))) =>
 letK (decide (p33.2.2.2.2.2.2 < p33.2.2.2.2.2.1)) fun v34 =>
 bif v34 then ((nIdx p33.2.2.2.2.1 p33.2.2.2.2.2.2).bind fun v35 =>
 (n27 N v35).bind fun v36 =>
 (n28 N v35).bind fun v37 =>
 (n29 N v35).bind fun v38 =>
 (n30 N v35).bind fun v39 =>
 letK (!((nStr v36.1) == (nStr v37.1))) fun v40 =>
 letK (bif (true != (v38 == v39)) then true else v40) fun v41 =>
 letK (bif v41 then true else (v36.2 != v37.2)) fun v42 =>
 bif v42 then (leave (some false)) else (letK (IntKind.i64.wrap (p33.2.2.2.2.2.2 + (1 : Int))) fun v43 =>
 again (p33.1, p33.2.1, p33.2.2.1, p33.2.2.2.1, p33.2.2.2.2.1, p33.2.2.2.2.2.1, v43))) else (leave (j8 (p33.1, p33.2.1, p33.2.2.1, p33.2.2.2.1)))) (a1, a3, a4, v5.1, v6, (nLen v6), (0 : Int))) := by kernel_rfl
theorem e6 (N : Nat) (a0 : (Int × Int × Int × Int × Int × Int)) (a1 : List (Int)) (a2 : List (Int)) (a3 : Int) (a4 : Int) : n6 (N + 1) (a0, a1, a2, a3, a4) =
 (n24 N a1).bind fun v0 =>
 bif (!v0) then ((n8 N ()).bind fun v1 =>
 some v1) else ((n10 N a0).bind fun v2 =>
 (n19 N v2).bind fun v3 =>
 letK (true != ((v3.1.1 == a0.1) && ((v3.1.2.1 == a0.2.1) && ((v3.1.2.2.1 == a0.2.2.1) && ((v3.1.2.2.2.1 == a0.2.2.2.1) && ((v3.1.2.2.2.2.1 == a0.2.2.2.2.1) && (v3.1.2.2.2.2.2 == a0.2.2.2.2.2))))))) fun v4 =>
 letK (bif (v3.2 != (0 : Int)) then true else v4) fun v5 =>
 bif v5 then (some false) else ((n26 N a2).bind fun v6 =>
 (n25 N v6).bind fun v7 =>
 (n29 N v7.1).bind fun v8 =>
 joinK (fun (p9 : List (Int)) =>
 (n31 N p9).bind fun v11 =>
 bif (v11.2 != (0 : Int)) then ((n8 N ()).bind fun v12 =>
 some v12) else ((n27 N v11.1).bind fun v13 =>
 letK (bif (v13.2 != (0 : Int)) then true else ((nLen v13.1) != (nLen p9))) fun v14 =>
 bif v14 then (some false) else (joinK (fun (p15 : Unit) =>
 (n8 N ()).bind fun v17 =>
 some v17) fun j16 =>
 loopN N (fun (p18 : (List (Int) × (((Int × Int × Int × Int × Int × Int) × (Int × Int × Int × Int × Int × Int) × Int × Int × (List (Int))) × (List (Int) × (Int × Int))))) =>
 letK (decide (p18.2.2.2.2 < p18.2.2.2.1)) fun v19 =>
 bif v19 then ((nIdx p18.2.2.1 p18.2.2.2.2).bind fun v20 =>
 (nIdx p18.1 p18.2.2.2.2).bind fun v21 =>
 letK (bif (p18.2.2.2.2 != (14 : Int)) then true else (p18.2.1.2.2.1 == (0 : Int))) fun v22 =>
 (bif ((!v22) && (v20 != v21)) then (nIdx p18.2.2.1 p18.2.2.2.2) else some (0 : Int)).bind fun v23 =>
 (bif ((!v22) && (v20 != v21)) then (nIdx p18.1 p18.2.2.2.2) else some (0 : Int)).bind fun v24 =>
 letK (bits .and IntKind.u8 v24 (15 : Int)) fun v25 =>
 letK (bif v22 then true else (v23 != v25)) fun v26 =>
 letK (bif (v20 != v21) then v26 else false) fun v27 =>
 bif v27 then (leave (some false)) else (letK (IntKind.i64.wrap (p18.2.2.2.2 + (1 : Int))) fun v28 =>
 again (p18.1, p18.2.1, p18.2.2.1, p18.2.2.2.1, v28))) else (leave (j16 ()))) (p9, v11.1, v13.1, (nLen p9), (0 : Int))))) fun j10 =>
 bif v8 then ((n27 N v7.1).bind fun v29 =>
 (n31 N v29.1).bind fun v30 =>
 letK (bif (v29.2 != (0 : Int)) then true else (v30.2 != (0 : Int))) fun v31 =>
 (bif (!v31) then (n33 N (v7.1, v30.1)) else some false).bind fun v32 =>
 letK (bif v31 then true else (!v32)) fun v33 =>
 bif v33 then (some false) else ((n18 N (v29.1, a3, a4)).bind fun v34 =>
 j10 v34)) else (j10 a1))) := by kernel_rfl
theorem e7 (N : Nat) (a0 : List (Int)) (a1 : Int) : n7 (N + 1) (a0, a1) =
 (n26 N a0).bind fun v0 =>
 (n25 N v0).bind fun v1 =>
 (n29 N (v1.1.1, v1.1.2.1, (0 : Int), v1.1.2.2.2)).bind fun v2 =>
 bif (!v2) then ((n8 N ()).bind fun v3 =>
 some v3) else ((n9 N (a1, (4094 : Int))).bind fun v4 =>
 letK (IntKind.i64.wrap ((1 : Int) + v4)) fun v5 =>
 (n27 N (v1.1.1, v1.1.2.1, (0 : Int), v1.1.2.2.2)).bind fun v6 =>
 (n27 N (v1.1.1, v1.1.2.1, v5, v1.1.2.2.2)).bind fun v7 =>
 letK (bif (v6.2 != (0 : Int)) then true else (v7.2 != (0 : Int))) fun v8 =>
 letK (decide ((nLen v6.1) < (14 : Int))) fun v9 =>
 letK (IntKind.i64.wrap ((nLen v6.1) + (4 : Int))) fun v10 =>
 letK (bif (bif v8 then true else v9) then true else ((nLen v7.1) != v10)) fun v11 =>
 bif v11 then (some false) else ((nTake v7.1 (12 : Int)).bind fun v12 =>
 (nApp 1 ([] : List (Int)) v12).bind fun v13 =>
 (nDrop v7.1 (16 : Int)).bind fun v14 =>
 (nApp 1 v13 v14).bind fun v15 =>
 (n31 N v15).bind fun v16 =>
 (nTake v7.1 (12 : Int)).bind fun v17 =>
 (nTake v6.1 (12 : Int)).bind fun v18 =>
 (bif ((nStr v17) == (nStr v18)) then (nDrop v7.1 (16 : Int)) else some ([] : List (Int))).bind fun v19 =>
 (bif ((nStr v17) == (nStr v18)) then (nDrop v6.1 (12 : Int)) else some ([] : List (Int))).bind fun v20 =>
 letK (bif ((nStr v17) == (nStr v18)) then ((nStr v19) == (nStr v20)) else false) fun v21 =>
 letK (bif v21 then (v16.2 == (0 : Int)) else false) fun v22 =>
 (bif v22 then (n33 N (v16.1, v1.1.1, v1.1.2.1, (0 : Int), v1.1.2.2.2)) else some false).bind fun v23 =>
 letK (bif v22 then v23 else false) fun v24 =>
 (bif v24 then (n8 N ()) else some false).bind fun v25 =>
 letK (bif v24 then v25 else false) fun v26 =>
 some v26)) := by kernel_rfl
theorem e8 (N : Nat) : n8 (N + 1) () =
 (n21 N (true, (0 : Int), (1 : Int))).bind fun v0 =>
 (n19 N ([48, 49, 58, 56, 48, 58, 99, 50, 58, 48, 48, 58, 48, 48, 58, 48, 50] : List UInt8)).bind fun v1 =>
 (n10 N v0).bind fun v2 =>
 letK (v2 == ([51, 51, 58, 51, 51, 58, 102, 102, 58, 48, 48, 58, 48, 48, 58, 48, 49] : List UInt8)) fun v3 =>
 letK (bif v3 then (v1.2 == (0 : Int)) else false) fun v4 =>
 (bif v4 then (n14 N v1.1) else some false).bind fun v5 =>
 (bif (bif v4 then v5 else false) then (n12 N v1.1) else some false).bind fun v6 =>
 letK (bif (bif v4 then v5 else false) then v6 else false) fun v7 =>
 some v7 := by kernel_rfl
theorem e9 (N : Nat) (a0 : Int) (a1 : Int) : n9 (N + 1) (a0, a1) =
 (if a1 = 0 then none else some (Int.tmod a0 a1)).bind fun v0 =>
 joinK (fun (p1 : Int) =>
 some p1) fun j2 =>
 bif (decide (v0 < (0 : Int))) then (j2 (IntKind.i64.wrap (v0 + a1))) else (j2 v0) := by kernel_rfl
theorem e10 (N : Nat) (a0 : (Int × Int × Int × Int × Int × Int)) : n10 (N + 1) a0 =
 joinK (fun (p0 : List (List UInt8)) =>
 (n34 N (p0, ([58] : List UInt8))).bind fun v2 =>
 some v2) fun j1 =>
 loopN N (fun (p3 : (List (List UInt8) × ((Int × Int × Int × Int × Int × Int) × Int))) =>
 letK (decide (p3.2.2 < (6 : Int))) fun v4 =>
 bif v4 then ((nIdx ([p3.2.1.1, p3.2.1.2.1, p3.2.1.2.2.1, p3.2.1.2.2.2.1, p3.2.1.2.2.2.2.1, p3.2.1.2.2.2.2.2] : List (Int)) p3.2.2).bind fun v5 =>
 (nIdxB ([48, 49, 50, 51, 52, 53, 54, 55, 56, 57, 97, 98, 99, 100, 101, 102] : List UInt8) (nShr IntKind.u8 v5 4)).bind fun v6 =>
 letK (bits .and IntKind.u8 v5 (15 : Int)) fun v7 =>
 (nIdxB ([48, 49, 50, 51, 52, 53, 54, 55, 56, 57, 97, 98, 99, 100, 101, 102] : List UInt8) v7).bind fun v8 =>
 letK (nStr ([v6, v8] : List (Int))) fun v9 =>
 (nApp 16 p3.1 ([v9] : List (List UInt8))).bind fun v10 =>
 letK (IntKind.i64.wrap (p3.2.2 + (1 : Int))) fun v11 =>
 again (v10, p3.2.1, v11)) else (leave (j1 p3.1))) (([] : List (List UInt8)), a0, (0 : Int)) := by kernel_rfl
theorem e11 (N : Nat) (a0 : (Int × Int × Int × Int × Int × Int)) : n11 (N + 1) a0 =
 joinK (fun (p0 : List (Int)) =>
 some (nStr p0)) fun j1 =>
 loopN N (fun (p2 : (List (Int) × ((Int × Int × Int × Int × Int × Int) × Int))) =>
 letK (decide (p2.2.2 < (6 : Int))) fun v3 =>
 bif v3 then ((nIdx ([p2.2.1.1, p2.2.1.2.1, p2.2.1.2.2.1, p2.2.1.2.2.2.1, p2.2.1.2.2.2.2.1, p2.2.1.2.2.2.2.2] : List (Int)) p2.2.2).bind fun v4 =>
 letK (decide (p2.2.2 > (0 : Int))) fun v5 =>
 joinK (fun (p6 : (List (Int) × (Int × ((Int × Int × Int × Int × Int × Int) × Int)))) =>
 (nIdxB ([48, 49, 50, 51, 52, 53, 54, 55, 56, 57, 97, 98, 99, 100, 101, 102] : List UInt8) (nShr IntKind.u8 p6.2.1 4)).bind fun v8 =>
 letK (bits .and IntKind.u8 p6.2.1 (15 : Int)) fun v9 =>
 (nIdxB ([48, 49, 50, 51, 52, 53, 54, 55, 56, 57, 97, 98, 99, 100, 101, 102] : List UInt8) v9).bind fun v10 =>
 (nApp 1 p6.1 ([v8, v10] : List (Int))).bind fun v11 =>
 letK (IntKind.i64.wrap (p6.2.2.2 + (1 : Int))) fun v12 =>
 again (v11, p6.2.2.1, v12)) fun j7 =>
 bif v5 then ((nApp 1 p2.1 ([(58 : Int)] : List (Int))).bind fun v13 =>
 j7 (v13, v4, p2.2.1, p2.2.2)) else (j7 (p2.1, v4, p2.2.1, p2.2.2))) else (leave (j1 p2.1))) (([] : List (Int)), a0, (0 : Int)) := by kernel_rfl
theorem e12 (N : Nat) (a0 : (Int × Int × Int × Int × Int × Int)) : n12 (N + 1) a0 =
 letK (bits .and IntKind.u8 a0.1 (1 : Int)) fun v0 =>
 some (v0 == (1 : Int)) := by kernel_rfl
theorem e13 (N : Nat) (a0 : (Int × Int × Int × Int × Int × Int)) : n13 (N + 1) a0 =
 letK ((Int.tmod a0.1 (2 : Int)) == (1 : Int)) fun v0 =>
 some v0 := by kernel_rfl
theorem e14 (N : Nat) (a0 : (Int × Int × Int × Int × Int × Int)) : n14 (N + 1) a0 =
 letK (false != ((a0.1 == (1 : Int)) && ((a0.2.1 == (128 : Int)) && ((a0.2.2.1 == (194 : Int)) && ((a0.2.2.2.1 == (0 : Int)) && ((a0.2.2.2.2.1 == (0 : Int)) && ((0 : Int) == (0 : Int)))))))) fun v0 =>
 letK (decide (a0.2.2.2.2.2 ≤ (15 : Int))) fun v1 =>
 some (bif v0 then v1 else false) := by kernel_rfl
theorem e15 (N : Nat) (a0 : (Int × Int × Int × Int × Int × Int)) : n15 (N + 1) a0 =
 letK (decide (a0.2.2.2.2.2 ≤ (15 : Int))) fun v0 =>
 letK (false != ((a0.1 == (1 : Int)) && ((a0.2.1 == (128 : Int)) && ((a0.2.2.1 == (194 : Int)) && ((a0.2.2.2.1 == (0 : Int)) && ((a0.2.2.2.2.1 == (0 : Int)) && (a0.2.2.2.2.2 == a0.2.2.2.2.2))))))) fun v1 =>
 some (bif v0 then v1 else false) := by kernel_rfl
theorem e16 (N : Nat) : n16 (N + 1) () =
 some ((255 : Int), (255 : Int), (255 : Int), (255 : Int), (255 : Int), (255 : Int)) := by kernel_rfl
theorem e17 (N : Nat) : n17 (N + 1) () =
 some ((255 : Int), (255 : Int), (255 : Int), (255 : Int), (255 : Int), (255 : Int)) := by kernel_rfl
theorem e18 (N : Nat) (a0 : List (Int)) (a1 : Int) (a2 : Int) : n18 (N + 1) (a0, a1, a2) =
 (nApp 1 ([] : List (Int)) a0).bind fun v0 =>
 bif ((nLen v0) == (0 : Int)) then (letK ([(IntKind.u8.wrap a2)] : List (Int)) fun v1 =>
 some v1) else ((n9 N (a1, (nLen v0))).bind fun v2 =>
 letK (IntKind.i64.wrap (Int.tdiv a2 (256 : Int))) fun v3 =>
 (n9 N (v3, (4 : Int))).bind fun v4 =>
 bif (v4 == (0 : Int)) then ((nIdx v0 v2).bind fun v5 =>
 letK (v0.set v2.toNat (IntKind.u8.wrap a2)) fun v6 =>
 some v6) else (bif (v4 == (1 : Int)) then ((nTake v0 v2).bind fun v7 =>
 letK (IntKind.i64.wrap (v2 + (1 : Int))) fun v8 =>
 (nDrop v0 v8).bind fun v9 =>
 (nApp 1 v7 v9).bind fun v10 =>
 some v10) else (bif (v4 == (2 : Int)) then ((nTake v0 v2).bind fun v11 =>
 (nApp 1 ([] : List (Int)) v11).bind fun v12 =>
 letK ([(IntKind.u8.wrap a2)] : List (Int)) fun v13 =>
 (nApp 1 v12 v13).bind fun v14 =>
 (nDrop v0 v2).bind fun v15 =>
 (nApp 1 v14 v15).bind fun v16 =>
 some v16) else ((nTake v0 v2).bind fun v17 =>
 some v17)))) := by kernel_rfl
theorem e19 (N : Nat) (a0 : List UInt8) : n19 (N + 1) a0 =
 bif ((nLen a0) != (17 : Int)) then (some (((0 : Int), (0 : Int), (0 : Int), (0 : Int), (0 : Int), (0 : Int)), (2 : Int))) else (joinK (fun (p0 : (List UInt8 × ((Int × Int × Int × Int × Int × Int) × (Int × Int × Int × Int × Int × Int)))) =>
 (n10 N p0.2.2).bind fun v2 =>
 bif (!(v2 == p0.1)) then (some (((0 : Int), (0 : Int), (0 : Int), (0 : Int), (0 : Int), (0 : Int)), (2 : Int))) else (some (p0.2.2, (0 : Int)))) fun j1 =>
 loopN N (fun (p3 : (List UInt8 × ((Int × Int × Int × Int × Int × Int) × ((Int × Int × Int × Int × Int × Int) × Int)))) =>
 letK (decide (p3.2.2.2 < (6 : Int))) fun v4 =>
 bif v4 then (letK (IntKind.i64.wrap ((3 : Int) * p3.2.2.2)) fun v5 =>
 (nIdxB p3.1 v5).bind fun v6 =>
 (n35 N (([48, 49, 50, 51, 52, 53, 54, 55, 56, 57, 97, 98, 99, 100, 101, 102] : List UInt8), v6)).bind fun v7 =>
 letK (IntKind.i64.wrap ((3 : Int) * p3.2.2.2)) fun v8 =>
 letK (IntKind.i64.wrap (v8 + (1 : Int))) fun v9 =>
 (nIdxB p3.1 v9).bind fun v10 =>
 (n35 N (([48, 49, 50, 51, 52, 53, 54, 55, 56, 57, 97, 98, 99, 100, 101, 102] : List UInt8), v10)).bind fun v11 =>
 letK (bits .and IntKind.i64 v11 (15 : Int)) fun v12 =>
 letK (bits .or IntKind.i64 (nShl IntKind.i64 v7 4) v12) fun v13 =>
 (nBnd p3.2.2.2 6).bind fun v14 =>
 letK (if v14 < 1 then ((IntKind.u8.wrap v13), p3.2.2.1.2) else (p3.2.2.1.1, (if (v14 - 1) < 1 then ((IntKind.u8.wrap v13), p3.2.2.1.2.2) else (p3.2.2.1.2.1, (if ((v14 - 1) - 1) < 1 then ((IntKind.u8.wrap v13), p3.2.2.1.2.2.2) else (p3.2.2.1.2.2.1, (if (((v14 - 1) - 1) - 1) < 1 then ((IntKind.u8.wrap v13), p3.2.2.1.2.2.2.2) else (p3.2.2.1.2.2.2.1, (if ((((v14 - 1) - 1) - 1) - 1) < 1 then ((IntKind.u8.wrap v13), p3.2.2.1.2.2.2.2.2) else (p3.2.2.1.2.2.2.2.1, (IntKind.u8.wrap v13))))))))))) fun v15 =>
 letK (IntKind.i64.wrap (p3.2.2.2 + (1 : Int))) fun v16 =>
 again (p3.1, p3.2.1, v15, v16)) else (leave (j1 (p3.1, p3.2.1, p3.2.2.1)))) (a0, ((0 : Int), (0 : Int), (0 : Int), (0 : Int), (0 : Int), (0 : Int)), ((0 : Int), (0 : Int), (0 : Int), (0 : Int), (0 : Int), (0 : Int)), (0 : Int))) := by kernel_rfl
theorem e20 (N : Nat) (a0 : List UInt8) : n20 (N + 1) a0 =
 bif ((nLen a0) != (17 : Int)) then (some (((0 : Int), (0 : Int), (0 : Int), (0 : Int), (0 : Int), (0 : Int)), (2 : Int))) else (joinK (fun (p0 : ((Int × Int × Int × Int × Int × Int) × (Int × Int × Int × Int × Int × Int))) =>
 some (p0.2, (0 : Int))) fun j1 =>
 loopN N (fun (p2 : (List UInt8 × ((Int × Int × Int × Int × Int × Int) × ((Int × Int × Int × Int × Int × Int) × Int)))) =>
 letK (decide (p2.2.2.2 < (6 : Int))) fun v3 =>
 bif v3 then (letK (IntKind.i64.wrap ((3 : Int) * p2.2.2.2)) fun v4 =>
 (nIdxB p2.1 v4).bind fun v5 =>
 (n36 N v5).bind fun v6 =>
 letK (IntKind.i64.wrap ((3 : Int) * p2.2.2.2)) fun v7 =>
 letK (IntKind.i64.wrap (v7 + (1 : Int))) fun v8 =>
 (nIdxB p2.1 v8).bind fun v9 =>
 (n36 N v9).bind fun v10 =>
 letK (bif (decide (v6 < (0 : Int))) then true else (decide (v10 < (0 : Int)))) fun v11 =>
 letK (decide (p2.2.2.2 < (5 : Int))) fun v12 =>
 letK (IntKind.i64.wrap ((3 : Int) * p2.2.2.2)) fun v13 =>
 letK (IntKind.i64.wrap (v13 + (2 : Int))) fun v14 =>
 (bif (v12 && (!v11)) then (nIdxB p2.1 v14) else some (0 : Int)).bind fun v15 =>
 letK (bif v12 then (v15 != (58 : Int)) else false) fun v16 =>
 bif (bif v11 then true else v16) then (leave (some (((0 : Int), (0 : Int), (0 : Int), (0 : Int), (0 : Int), (0 : Int)), (2 : Int)))) else (letK (IntKind.i64.wrap ((16 : Int) * v6)) fun v17 =>
 letK (IntKind.i64.wrap (v17 + v10)) fun v18 =>
 (nBnd p2.2.2.2 6).bind fun v19 =>
 letK (if v19 < 1 then ((IntKind.u8.wrap v18), p2.2.2.1.2) else (p2.2.2.1.1, (if (v19 - 1) < 1 then ((IntKind.u8.wrap v18), p2.2.2.1.2.2) else (p2.2.2.1.2.1, (if ((v19 - 1) - 1) < 1 then ((IntKind.u8.wrap v18), p2.2.2.1.2.2.2) else (p2.2.2.1.2.2.1, (if (((v19 - 1) - 1) - 1) < 1 then ((IntKind.u8.wrap v18), p2.2.2.1.2.2.2.2) else (p2.2.2.1.2.2.2.1, (if ((((v19 - 1) - 1) - 1) - 1) < 1 then ((IntKind.u8.wrap v18), p2.2.2.1.2.2.2.2.2) else (p2.2.2.1.2.2.2.2.1, (IntKind.u8.wrap v18))))))))))) fun v20 =>
 letK (IntKind.i64.wrap (p2.2.2.2 + (1 : Int))) fun v21 =>
 again (p2.1, p2.2.1, v20, v21))) else (leave (j1 (p2.2.1, p2.2.2.1)))) (a0, ((0 : Int), (0 : Int), (0 : Int), (0 : Int), (0 : Int), (0 : Int)), ((0 : Int), (0 : Int), (0 : Int), (0 : Int), (0 : Int), (0 : Int)), (0 : Int))) := by kernel_rfl
end Go.Proofs.Ytndaipcfahfkkaa
