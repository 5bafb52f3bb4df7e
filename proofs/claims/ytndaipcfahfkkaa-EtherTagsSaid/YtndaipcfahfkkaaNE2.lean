/- The functions as they are read. -/
import Derived.Test.YtndaipcfahfkkaaNN
namespace Go.Proofs.Ytndaipcfahfkkaa
open Go.VM
set_option maxRecDepth 100000
theorem e21 (N : Nat) (a0 : (Bool × Int × Int)) : n21 (N + 1) a0 =
 bif (!a0.1) then (some ((0 : Int), (0 : Int), (0 : Int), (0 : Int), (0 : Int), (0 : Int))) else (let v0 := (IntKind.u8.wrap (nShr IntKind.u64 a0.2.2 16));
 let v1 := (IntKind.u8.wrap (nShr IntKind.u64 a0.2.2 8));
 some ((51 : Int), (51 : Int), (255 : Int), v0, v1, (IntKind.u8.wrap a0.2.2))) := by kernel_rfl
theorem e22 (N : Nat) (a0 : (Bool × Int × Int)) : n22 (N + 1) a0 =
 bif (!a0.1) then (some ((0 : Int), (0 : Int), (0 : Int), (0 : Int), (0 : Int), (0 : Int))) else (let v0 := (IntKind.u8.wrap (nShr IntKind.u64 a0.2.2 16));
 let v1 := (IntKind.u8.wrap (nShr IntKind.u64 a0.2.2 8));
 some ((51 : Int), (51 : Int), (255 : Int), v0, v1, (IntKind.u8.wrap a0.2.2))) := by kernel_rfl
theorem e23 (N : Nat) (a0 : Int) : n23 (N + 1) a0 =
 let v0 := (IntKind.u8.wrap (nShr IntKind.i64 a0 24));
 let v1 := (IntKind.u8.wrap (nShr IntKind.i64 a0 16));
 let v2 := (IntKind.u8.wrap (nShr IntKind.i64 a0 8));
 some ((2 : Int), (0 : Int), v0, v1, v2, (IntKind.u8.wrap a0)) := by kernel_rfl
theorem e24 (N : Nat) (a0 : List (Int)) : n24 (N + 1) a0 =
 let v0 := (decide ((nLen a0) ≤ (600 : Int)));
 some v0 := by kernel_rfl
theorem e25 (N : Nat) (a0 : ((List (Int)) × Int)) : n25 (N + 1) a0 =
 (n37 N (a0, (300 : Int))).bind fun v0 =>
 (n23 N v0.1).bind fun v1 =>
 (n37 N (v0.2, (300 : Int))).bind fun v2 =>
 (n23 N v2.1).bind fun v3 =>
 let v4 := ([(2048 : Int), (1536 : Int), (65535 : Int), (2054 : Int), (1535 : Int), (33024 : Int)] : List (Int));
 (n37 N (v2.2, (6 : Int))).bind fun v5 =>
 (nIdx v4 v5.1).bind fun v6 =>
 (n38 N (v5.2, (30 : Int))).bind fun v7 =>
 (n37 N (v7.2, (2 : Int))).bind fun v8 =>
 joinK (fun (p9 : (((Int × Int × Int × Int × Int × Int) × (Int × Int × Int × Int × Int × Int) × Int × Int × (List (Int))) × (((Int × Int × Int × Int × Int × Int) × (Int × Int × Int × Int × Int × Int) × Int × Int × (List (Int))) × ((List (Int)) × Int)))) =>
 (n37 N (p9.2.2, (12 : Int))).bind fun v11 =>
 joinK (fun (p12 : (((Int × Int × Int × Int × Int × Int) × (Int × Int × Int × Int × Int × Int) × Int × Int × (List (Int))) × (((Int × Int × Int × Int × Int × Int) × (Int × Int × Int × Int × Int × Int) × Int × Int × (List (Int))) × ((List (Int)) × Int)))) =>
 some (p12.2.1, p12.2.2)) fun j13 =>
 bif (v11.1 == (11 : Int)) then ((n37 N (v11.2, (2 : Int))).bind fun v14 =>
 let v15 := (IntKind.i64.wrap ((1500 : Int) + v14.1));
 (nMake 1 (0 : Int) v15 v15).bind fun v16 =>
 j13 (p9.1, (p9.2.1.1, p9.2.1.2.1, p9.2.1.2.2.1, p9.2.1.2.2.2.1, v16), v14.2)) else (j13 (p9.1, p9.2.1, v11.2))) fun j10 =>
 bif (v8.1 == (1 : Int)) then (let v17 := ([(1 : Int), (4094 : Int), (4095 : Int), (100 : Int)] : List (Int));
 (n37 N (v8.2, (4 : Int))).bind fun v18 =>
 (nIdx v17 v18.1).bind fun v19 =>
 j10 ((((0 : Int), (0 : Int), (0 : Int), (0 : Int), (0 : Int), (0 : Int)), ((0 : Int), (0 : Int), (0 : Int), (0 : Int), (0 : Int), (0 : Int)), (0 : Int), (0 : Int), ([] : List (Int))), (v1, v3, v19, v6, v7.1), v18.2)) else (j10 ((((0 : Int), (0 : Int), (0 : Int), (0 : Int), (0 : Int), (0 : Int)), ((0 : Int), (0 : Int), (0 : Int), (0 : Int), (0 : Int), (0 : Int)), (0 : Int), (0 : Int), ([] : List (Int))), (v1, v3, (0 : Int), v6, v7.1), v8.2)) := by kernel_rfl
theorem e26 (N : Nat) (a0 : List (Int)) : n26 (N + 1) a0 =
 some (a0, (0 : Int)) := by kernel_rfl
theorem e27 (N : Nat) (a0 : ((Int × Int × Int × Int × Int × Int) × (Int × Int × Int × Int × Int × Int) × Int × Int × (List (Int)))) : n27 (N + 1) a0 =
 (n29 N a0).bind fun v0 =>
 bif (!v0) then (some (([] : List (Int)), (1 : Int))) else ((some ([a0.1.1, a0.1.2.1, a0.1.2.2.1, a0.1.2.2.2.1, a0.1.2.2.2.2.1, a0.1.2.2.2.2.2] : List (Int))).bind fun v1 =>
 (nApp 1 ([] : List (Int)) v1).bind fun v2 =>
 (some ([a0.2.1.1, a0.2.1.2.1, a0.2.1.2.2.1, a0.2.1.2.2.2.1, a0.2.1.2.2.2.2.1, a0.2.1.2.2.2.2.2] : List (Int))).bind fun v3 =>
 (nApp 1 v2 v3).bind fun v4 =>
 joinK (fun (p5 : (((Int × Int × Int × Int × Int × Int) × (Int × Int × Int × Int × Int × Int) × Int × Int × (List (Int))) × List (Int))) =>
 (n39 N (p5.2, p5.1.2.2.2.1)).bind fun v7 =>
 (nApp 1 v7 p5.1.2.2.2.2).bind fun v8 =>
 some (v8, (0 : Int))) fun j6 =>
 bif (a0.2.2.1 != (0 : Int)) then ((n39 N (v4, (33024 : Int))).bind fun v9 =>
 (n39 N (v9, a0.2.2.1)).bind fun v10 =>
 j6 (a0, v10)) else (j6 (a0, v4))) := by kernel_rfl
theorem e28 (N : Nat) (a0 : ((Int × Int × Int × Int × Int × Int) × (Int × Int × Int × Int × Int × Int) × Int × Int × (List (Int)))) : n28 (N + 1) a0 =
 (n30 N a0).bind fun v0 =>
 bif (!v0) then (some (([] : List (Int)), (1 : Int))) else ((some ([a0.1.1, a0.1.2.1, a0.1.2.2.1, a0.1.2.2.2.1, a0.1.2.2.2.2.1, a0.1.2.2.2.2.2] : List (Int))).bind fun v1 =>
 (nApp 1 ([] : List (Int)) v1).bind fun v2 =>
 (some ([a0.2.1.1, a0.2.1.2.1, a0.2.1.2.2.1, a0.2.1.2.2.2.1, a0.2.1.2.2.2.2.1, a0.2.1.2.2.2.2.2] : List (Int))).bind fun v3 =>
 (nApp 1 v2 v3).bind fun v4 =>
 let v5 := (decide (a0.2.2.1 > (0 : Int)));
 joinK (fun (p6 : (((Int × Int × Int × Int × Int × Int) × (Int × Int × Int × Int × Int × Int) × Int × Int × (List (Int))) × List (Int))) =>
 let v8 := (nShr IntKind.i64 p6.1.2.2.2.1 8);
 let v9 := (IntKind.u8.wrap p6.1.2.2.2.1);
 let v10 := ([(IntKind.u8.wrap v8), v9] : List (Int));
 (nApp 1 p6.2 v10).bind fun v11 =>
 (nApp 1 v11 p6.1.2.2.2.2).bind fun v12 =>
 some (v12, (0 : Int))) fun j7 =>
 bif v5 then (let v13 := (nShr IntKind.i64 a0.2.2.1 8);
 let v14 := ([(129 : Int), (0 : Int), (IntKind.u8.wrap v13), (IntKind.u8.wrap a0.2.2.1)] : List (Int));
 (nApp 1 v4 v14).bind fun v15 =>
 j7 (a0, v15)) else (j7 (a0, v4))) := by kernel_rfl
theorem e29 (N : Nat) (a0 : ((Int × Int × Int × Int × Int × Int) × (Int × Int × Int × Int × Int × Int) × Int × Int × (List (Int)))) : n29 (N + 1) a0 =
 let v0 := (decide (a0.2.2.1 ≥ (0 : Int)));
 let v1 := (decide (a0.2.2.1 ≤ (4094 : Int)));
 let v2 := (decide (a0.2.2.2.1 ≥ (1536 : Int)));
 let v3 := (bif (bif v0 then v1 else false) then v2 else false);
 let v4 := (decide (a0.2.2.2.1 ≤ (65535 : Int)));
 let v5 := (a0.2.2.2.1 != (33024 : Int));
 let v6 := (bif (bif v3 then v4 else false) then v5 else false);
 let v7 := (decide ((nLen a0.2.2.2.2) ≤ (1500 : Int)));
 some (bif v6 then v7 else false) := by kernel_rfl
theorem e30 (N : Nat) (a0 : ((Int × Int × Int × Int × Int × Int) × (Int × Int × Int × Int × Int × Int) × Int × Int × (List (Int)))) : n30 (N + 1) a0 =
 let v0 := (decide (a0.2.2.1 ≥ (0 : Int)));
 let v1 := (decide (a0.2.2.1 ≤ (4094 : Int)));
 let v2 := (decide (a0.2.2.2.1 ≥ (1536 : Int)));
 let v3 := (bif (bif v0 then v1 else false) then v2 else false);
 let v4 := (decide (a0.2.2.2.1 ≤ (65535 : Int)));
 let v5 := (a0.2.2.2.1 != (33024 : Int));
 let v6 := (bif (bif v3 then v4 else false) then v5 else false);
 let v7 := (decide ((nLen a0.2.2.2.2) ≤ (1500 : Int)));
 some (bif v6 then v7 else false) := by kernel_rfl
theorem e31 (N : Nat) (a0 : List (Int)) : n31 (N + 1) a0 =
 let v0 := (decide ((nLen a0) < (14 : Int)));
 bif v0 then (some ((((0 : Int), (0 : Int), (0 : Int), (0 : Int), (0 : Int), (0 : Int)), ((0 : Int), (0 : Int), (0 : Int), (0 : Int), (0 : Int), (0 : Int)), (0 : Int), (0 : Int), ([] : List (Int))), (4 : Int))) else ((nTake a0 (6 : Int)).bind fun v1 =>
 (if 6 ≤ v1.length then some ((((v1.take 6).take 1).headD (0 : Int)), ((((v1.take 6).drop 1).take 1).headD (0 : Int)), (((((v1.take 6).drop 1).drop 1).take 1).headD (0 : Int)), ((((((v1.take 6).drop 1).drop 1).drop 1).take 1).headD (0 : Int)), (((((((v1.take 6).drop 1).drop 1).drop 1).drop 1).take 1).headD (0 : Int)), (((((((v1.take 6).drop 1).drop 1).drop 1).drop 1).drop 1).headD (0 : Int))) else none).bind fun v2 =>
 (nCut a0 (6 : Int) (12 : Int)).bind fun v3 =>
 (if 6 ≤ v3.length then some ((((v3.take 6).take 1).headD (0 : Int)), ((((v3.take 6).drop 1).take 1).headD (0 : Int)), (((((v3.take 6).drop 1).drop 1).take 1).headD (0 : Int)), ((((((v3.take 6).drop 1).drop 1).drop 1).take 1).headD (0 : Int)), (((((((v3.take 6).drop 1).drop 1).drop 1).drop 1).take 1).headD (0 : Int)), (((((((v3.take 6).drop 1).drop 1).drop 1).drop 1).drop 1).headD (0 : Int))) else none).bind fun v4 =>
 (nDrop a0 (12 : Int)).bind fun v5 =>
 (n40 N v5).bind fun v6 =>
 joinK (fun (p7 : (((Int × Int × Int × Int × Int × Int) × (Int × Int × Int × Int × Int × Int) × Int × Int × (List (Int))) × (((Int × Int × Int × Int × Int × Int) × (Int × Int × Int × Int × Int × Int) × Int × Int × (List (Int))) × List (Int)))) =>
 (n40 N p7.2.2).bind fun v9 =>
 let v10 := (bif (decide (v9 < (1536 : Int))) then true else (v9 == (33024 : Int)));
 bif v10 then (some ((((0 : Int), (0 : Int), (0 : Int), (0 : Int), (0 : Int), (0 : Int)), ((0 : Int), (0 : Int), (0 : Int), (0 : Int), (0 : Int), (0 : Int)), (0 : Int), (0 : Int), ([] : List (Int))), (5 : Int))) else (let v11 := (IntKind.i64.wrap ((nLen p7.2.2) - (2 : Int)));
 let v12 := (decide (v11 > (1500 : Int)));
 bif v12 then (some ((((0 : Int), (0 : Int), (0 : Int), (0 : Int), (0 : Int), (0 : Int)), ((0 : Int), (0 : Int), (0 : Int), (0 : Int), (0 : Int), (0 : Int)), (0 : Int), (0 : Int), ([] : List (Int))), (3 : Int))) else ((nDrop p7.2.2 (2 : Int)).bind fun v13 =>
 (nApp 1 p7.2.1.2.2.2.2 v13).bind fun v14 =>
 some ((p7.2.1.1, p7.2.1.2.1, p7.2.1.2.2.1, v9, v14), (0 : Int))))) fun j8 =>
 bif (v6 == (33024 : Int)) then (let v15 := (decide ((nLen a0) < (18 : Int)));
 bif v15 then (some ((((0 : Int), (0 : Int), (0 : Int), (0 : Int), (0 : Int), (0 : Int)), ((0 : Int), (0 : Int), (0 : Int), (0 : Int), (0 : Int), (0 : Int)), (0 : Int), (0 : Int), ([] : List (Int))), (4 : Int))) else ((nDrop v5 (2 : Int)).bind fun v16 =>
 (n40 N v16).bind fun v17 =>
 let v18 := (bits .and IntKind.i64 v17 (4095 : Int));
 (nDrop v5 (4 : Int)).bind fun v19 =>
 let v20 := (decide (v18 > (4094 : Int)));
 let v21 := (bif (v18 == (0 : Int)) then true else v20);
 bif v21 then (some ((((0 : Int), (0 : Int), (0 : Int), (0 : Int), (0 : Int), (0 : Int)), ((0 : Int), (0 : Int), (0 : Int), (0 : Int), (0 : Int), (0 : Int)), (0 : Int), (0 : Int), ([] : List (Int))), (5 : Int))) else (j8 ((((0 : Int), (0 : Int), (0 : Int), (0 : Int), (0 : Int), (0 : Int)), ((0 : Int), (0 : Int), (0 : Int), (0 : Int), (0 : Int), (0 : Int)), (0 : Int), (0 : Int), ([] : List (Int))), (v2, v4, v18, (0 : Int), ([] : List (Int))), v19)))) else (j8 ((((0 : Int), (0 : Int), (0 : Int), (0 : Int), (0 : Int), (0 : Int)), ((0 : Int), (0 : Int), (0 : Int), (0 : Int), (0 : Int), (0 : Int)), (0 : Int), (0 : Int), ([] : List (Int))), (v2, v4, (0 : Int), (0 : Int), ([] : List (Int))), v5))) := by kernel_rfl
theorem e32 (N : Nat) (a0 : List (Int)) : n32 (N + 1) a0 =
 let v0 := (decide ((nLen a0) < (14 : Int)));
 bif v0 then (some ((((0 : Int), (0 : Int), (0 : Int), (0 : Int), (0 : Int), (0 : Int)), ((0 : Int), (0 : Int), (0 : Int), (0 : Int), (0 : Int), (0 : Int)), (0 : Int), (0 : Int), ([] : List (Int))), (4 : Int))) else ((nTake a0 (6 : Int)).bind fun v1 =>
 (if 6 ≤ v1.length then some ((((v1.take 6).take 1).headD (0 : Int)), ((((v1.take 6).drop 1).take 1).headD (0 : Int)), (((((v1.take 6).drop 1).drop 1).take 1).headD (0 : Int)), ((((((v1.take 6).drop 1).drop 1).drop 1).take 1).headD (0 : Int)), (((((((v1.take 6).drop 1).drop 1).drop 1).drop 1).take 1).headD (0 : Int)), (((((((v1.take 6).drop 1).drop 1).drop 1).drop 1).drop 1).headD (0 : Int))) else none).bind fun v2 =>
 (nCut a0 (6 : Int) (12 : Int)).bind fun v3 =>
 (if 6 ≤ v3.length then some ((((v3.take 6).take 1).headD (0 : Int)), ((((v3.take 6).drop 1).take 1).headD (0 : Int)), (((((v3.take 6).drop 1).drop 1).take 1).headD (0 : Int)), ((((((v3.take 6).drop 1).drop 1).drop 1).take 1).headD (0 : Int)), (((((((v3.take 6).drop 1).drop 1).drop 1).drop 1).take 1).headD (0 : Int)), (((((((v3.take 6).drop 1).drop 1).drop 1).drop 1).drop 1).headD (0 : Int))) else none).bind fun v4 =>
 (nDrop a0 (12 : Int)).bind fun v5 =>
 (nIdx v5 (0 : Int)).bind fun v6 =>
 (bif (v6 == (129 : Int)) then (nIdx v5 (1 : Int)) else some (0 : Int)).bind fun v7 =>
 let v8 := (bif (v6 == (129 : Int)) then (v7 == (0 : Int)) else false);
 joinK (fun (p9 : (((Int × Int × Int × Int × Int × Int) × (Int × Int × Int × Int × Int × Int) × Int × Int × (List (Int))) × (((Int × Int × Int × Int × Int × Int) × (Int × Int × Int × Int × Int × Int) × Int × Int × (List (Int))) × List (Int)))) =>
 (nIdx p9.2.2 (0 : Int)).bind fun v11 =>
 let v12 := (nShl IntKind.i64 (IntKind.i64.wrap v11) 8);
 (nIdx p9.2.2 (1 : Int)).bind fun v13 =>
 let v14 := (bits .or IntKind.i64 v12 (IntKind.i64.wrap v13));
 (nDrop p9.2.2 (2 : Int)).bind fun v15 =>
 (nApp 1 ([] : List (Int)) v15).bind fun v16 =>
 let v17 := (decide (v14 < (1536 : Int)));
 let v18 := (bif v17 then true else (v14 == (33024 : Int)));
 bif v18 then (some ((((0 : Int), (0 : Int), (0 : Int), (0 : Int), (0 : Int), (0 : Int)), ((0 : Int), (0 : Int), (0 : Int), (0 : Int), (0 : Int), (0 : Int)), (0 : Int), (0 : Int), ([] : List (Int))), (5 : Int))) else (let v19 := (decide ((nLen v16) > (1500 : Int)));
 bif v19 then (some ((((0 : Int), (0 : Int), (0 : Int), (0 : Int), (0 : Int), (0 : Int)), ((0 : Int), (0 : Int), (0 : Int), (0 : Int), (0 : Int), (0 : Int)), (0 : Int), (0 : Int), ([] : List (Int))), (3 : Int))) else (some ((p9.2.1.1, p9.2.1.2.1, p9.2.1.2.2.1, v14, v16), (0 : Int))))) fun j10 =>
 bif v8 then (let v20 := (decide ((nLen a0) < (18 : Int)));
 bif v20 then (some ((((0 : Int), (0 : Int), (0 : Int), (0 : Int), (0 : Int), (0 : Int)), ((0 : Int), (0 : Int), (0 : Int), (0 : Int), (0 : Int), (0 : Int)), (0 : Int), (0 : Int), ([] : List (Int))), (4 : Int))) else ((nIdx v5 (2 : Int)).bind fun v21 =>
 let v22 := (bits .and IntKind.u8 v21 (15 : Int));
 let v23 := (nShl IntKind.i64 (IntKind.i64.wrap v22) 8);
 (nIdx v5 (3 : Int)).bind fun v24 =>
 let v25 := (bits .or IntKind.i64 v23 (IntKind.i64.wrap v24));
 let v26 := (decide (v25 > (4094 : Int)));
 let v27 := (bif (v25 == (0 : Int)) then true else v26);
 bif v27 then (some ((((0 : Int), (0 : Int), (0 : Int), (0 : Int), (0 : Int), (0 : Int)), ((0 : Int), (0 : Int), (0 : Int), (0 : Int), (0 : Int), (0 : Int)), (0 : Int), (0 : Int), ([] : List (Int))), (5 : Int))) else ((nDrop v5 (4 : Int)).bind fun v28 =>
 j10 ((((0 : Int), (0 : Int), (0 : Int), (0 : Int), (0 : Int), (0 : Int)), ((0 : Int), (0 : Int), (0 : Int), (0 : Int), (0 : Int), (0 : Int)), (0 : Int), (0 : Int), ([] : List (Int))), (v2, v4, v25, (0 : Int), ([] : List (Int))), v28)))) else (j10 ((((0 : Int), (0 : Int), (0 : Int), (0 : Int), (0 : Int), (0 : Int)), ((0 : Int), (0 : Int), (0 : Int), (0 : Int), (0 : Int), (0 : Int)), (0 : Int), (0 : Int), ([] : List (Int))), (v2, v4, (0 : Int), (0 : Int), ([] : List (Int))), v5))) := by kernel_rfl
theorem e33 (N : Nat) (a0 : ((Int × Int × Int × Int × Int × Int) × (Int × Int × Int × Int × Int × Int) × Int × Int × (List (Int)))) (a1 : ((Int × Int × Int × Int × Int × Int) × (Int × Int × Int × Int × Int × Int) × Int × Int × (List (Int)))) : n33 (N + 1) (a0, a1) =
 let v0 := (false != ((a0.1.1 == a1.1.1) && ((a0.1.2.1 == a1.1.2.1) && ((a0.1.2.2.1 == a1.1.2.2.1) && ((a0.1.2.2.2.1 == a1.1.2.2.2.1) && ((a0.1.2.2.2.2.1 == a1.1.2.2.2.2.1) && (a0.1.2.2.2.2.2 == a1.1.2.2.2.2.2)))))));
 let v1 := (false != ((a0.2.1.1 == a1.2.1.1) && ((a0.2.1.2.1 == a1.2.1.2.1) && ((a0.2.1.2.2.1 == a1.2.1.2.2.1) && ((a0.2.1.2.2.2.1 == a1.2.1.2.2.2.1) && ((a0.2.1.2.2.2.2.1 == a1.2.1.2.2.2.2.1) && (a0.2.1.2.2.2.2.2 == a1.2.1.2.2.2.2.2)))))));
 let v2 := (bif (bif v0 then v1 else false) then (a0.2.2.1 == a1.2.2.1) else false);
 let v3 := (bif v2 then (a0.2.2.2.1 == a1.2.2.2.1) else false);
 let v4 := ((nStr a0.2.2.2.2) == (nStr a1.2.2.2.2));
 some (bif v3 then v4 else false) := by kernel_rfl
theorem e36 (N : Nat) (a0 : Int) : n36 (N + 1) a0 =
 let v0 := (bif (decide (a0 ≥ (48 : Int))) then (decide (a0 ≤ (57 : Int))) else false);
 bif v0 then (let v1 := (IntKind.u8.wrap (a0 - (48 : Int)));
 some (IntKind.i64.wrap v1)) else (let v2 := (bif (decide (a0 ≥ (97 : Int))) then (decide (a0 ≤ (102 : Int))) else false);
 bif v2 then (let v3 := (IntKind.u8.wrap (a0 - (97 : Int)));
 let v4 := (IntKind.i64.wrap ((IntKind.i64.wrap v3) + (10 : Int)));
 some v4) else (some (-1 : Int))) := by kernel_rfl
theorem e37 (N : Nat) (a0 : ((List (Int)) × Int)) (a1 : Int) : n37 (N + 1) (a0, a1) =
 let v0 := (decide (a0.2 ≥ (nLen a0.1)));
 bif v0 then (some ((0 : Int), a0)) else (let v1 := (IntKind.i64.wrap (a0.2 + (1 : Int)));
 let v2 := (IntKind.i64.wrap (v1 - (1 : Int)));
 (nIdx a0.1 v2).bind fun v3 =>
 (n9 N (v3, a1)).bind fun v4 =>
 some (v4, a0.1, v1)) := by kernel_rfl
theorem e38 (N : Nat) (a0 : ((List (Int)) × Int)) (a1 : Int) : n38 (N + 1) (a0, a1) =
 let v0 := (IntKind.i64.wrap (a1 + (1 : Int)));
 (n37 N (a0, v0)).bind fun v1 =>
 joinK (fun (p2 : (List (Int) × ((List (Int)) × Int))) =>
 some (p2.1, p2.2)) fun j3 =>
 loopN N (fun (p4 : (List (Int) × (Int × ((List (Int)) × Int)))) =>
 let v5 := (decide (p4.2.1 > (0 : Int)));
 bif v5 then ((n37 N (p4.2.2, (256 : Int))).bind fun v6 =>
 let v7 := ([(IntKind.u8.wrap v6.1)] : List (Int));
 (nApp 1 p4.1 v7).bind fun v8 =>
 let v9 := (IntKind.i64.wrap (p4.2.1 - (1 : Int)));
 again (v8, v9, v6.2)) else (leave (j3 (p4.1, p4.2.2)))) (([] : List (Int)), v1.1, v1.2) := by kernel_rfl
theorem e39 (N : Nat) (a0 : List (Int)) (a1 : Int) : n39 (N + 1) (a0, a1) =
 let v0 := (IntKind.u8.wrap (nShr IntKind.i64 a1 8));
 let v1 := ([v0, (IntKind.u8.wrap a1)] : List (Int));
 (nApp 1 a0 v1).bind fun v2 =>
 some v2 := by kernel_rfl
theorem e40 (N : Nat) (a0 : List (Int)) : n40 (N + 1) a0 =
 (nIdx a0 (0 : Int)).bind fun v0 =>
 let v1 := (nShl IntKind.i64 (IntKind.i64.wrap v0) 8);
 (nIdx a0 (1 : Int)).bind fun v2 =>
 let v3 := (bits .or IntKind.i64 v1 (IntKind.i64.wrap v2));
 some v3 := by kernel_rfl
end Go.Proofs.Ytndaipcfahfkkaa
