/- The functions as they are read. -/
import Derived.Test.YtndaipcfahfkkaaNN
namespace Go.Proofs.Ytndaipcfahfkkaa
open Go.VM
set_option maxRecDepth 100000
theorem e21 (N : Nat) (a0 : (Bool × Int × Int)) : n21 (N + 1) a0 =
 bif (!a0.1) then (some ((0 : Int), (0 : Int), (0 : Int), (0 : Int), (0 : Int), (0 : Int))) else (letK (IntKind.u8.wrap (nShr IntKind.u64 a0.2.2 16)) fun v0 =>
 letK (IntKind.u8.wrap (nShr IntKind.u64 a0.2.2 8)) fun v1 =>
 some ((51 : Int), (51 : Int), (255 : Int), v0, v1, (IntKind.u8.wrap a0.2.2))) := by kernel_rfl
theorem e22 (N : Nat) (a0 : (Bool × Int × Int)) : n22 (N + 1) a0 =
 bif (!a0.1) then (some ((0 : Int), (0 : Int), (0 : Int), (0 : Int), (0 : Int), (0 : Int))) else (letK (IntKind.u8.wrap (nShr IntKind.u64 a0.2.2 16)) fun v0 =>
 letK (IntKind.u8.wrap (nShr IntKind.u64 a0.2.2 8)) fun v1 =>
 some ((51 : Int), (51 : Int), (255 : Int), v0, v1, (IntKind.u8.wrap a0.2.2))) := by kernel_rfl
theorem e23 (N : Nat) (a0 : Int) : n23 (N + 1) a0 =
 letK (IntKind.u8.wrap (nShr IntKind.i64 a0 24)) fun v0 =>
 letK (IntKind.u8.wrap (nShr IntKind.i64 a0 16)) fun v1 =>
 letK (IntKind.u8.wrap (nShr IntKind.i64 a0 8)) fun v2 =>
 some ((2 : Int), (0 : Int), v0, v1, v2, (IntKind.u8.wrap a0)) := by kernel_rfl
theorem e24 (N : Nat) (a0 : List (Int)) : n24 (N + 1) a0 =
 letK (decide ((nLen a0) ≤ (600 : Int))) fun v0 =>
 some v0 := by kernel_rfl
theorem e25 (N : Nat) (a0 : ((List (Int)) × Int)) : n25 (N + 1) a0 =
 (n37 N (a0, (300 : Int))).bind fun v0 =>
 (n23 N v0.1).bind fun v1 =>
 (n37 N (v0.2, (300 : Int))).bind fun v2 =>
 (n23 N v2.1).bind fun v3 =>
 letK ([(2048 : Int), (1536 : Int), (65535 : Int), (2054 : Int), (1535 : Int), (33024 : Int)] : List (Int)) fun v4 =>
 (n37 N (v2.2, (6 : Int))).bind fun v5 =>
 (nIdx v4 v5.1).bind fun v6 =>
 (n38 N (v5.2, (30 : Int))).bind fun v7 =>
 (n37 N (v7.2, (2 : Int))).bind fun v8 =>
 joinK (fun (p9 : (((Int × Int × Int × Int × Int × Int) × (Int × Int × Int × Int × Int × Int) × Int × Int × (List (Int))) × (((Int × Int × Int × Int × Int × Int) × (Int × Int × Int × Int × Int × Int) × Int × Int × (List (Int))) × ((List (Int)) × Int)))) =>
 (n37 N (p9.2.2, (12 : Int))).bind fun v11 =>
 joinK (fun (p12 : (((Int × Int × Int × Int × Int × Int) × (Int × Int × Int × Int × Int × Int) × Int × Int × (List (Int))) × (((Int × Int × Int × Int × Int × Int) × (Int × Int × Int × Int × Int × Int) × Int × Int × (List (Int))) × ((List (Int)) × Int)))) =>
 some (p12.2.1, p12.2.2)) fun j13 =>
 bif (v11.1 == (11 : Int)) then ((n37 N (v11.2, (2 : Int))).bind fun v14 =>
 letK (IntKind.i64.wrap ((1500 : Int) + v14.1)) fun v15 =>
 (nMake 1 (0 : Int) v15 v15).bind fun v16 =>
 j13 (p9.1, (p9.2.1.1, p9.2.1.2.1, p9.2.1.2.2.1, p9.2.1.2.2.2.1, v16), v14.2)) else (j13 (p9.1, p9.2.1, v11.2))) fun j10 =>
 bif (v8.1 == (1 : Int)) then (letK ([(1 : Int), (4094 : Int), (4095 : Int), (100 : Int)] : List (Int)) fun v17 =>
 (n37 N (v8.2, (4 : Int))).bind fun v18 =>
 (nIdx v17 v18.1).bind fun v19 =>
 j10 ((((0 : Int), (0 : Int), (0 : Int), (0 : Int), (0 : Int), (0 : Int)), ((0 : Int), (0 : Int), (0 : Int), (0 : Int), (0 : Int), (0 : Int)), (0 : Int), (0 : Int), ([] : List (Int))), (v1, v3, v19, v6, v7.1), v18.2)) else (j10 ((((0 : Int), (0 : Int), (0 : Int), (0 : Int), (0 : Int), (0 : Int)), ((0 : Int), (0 : Int), (0 : Int), (0 : Int), (0 : Int), (0 : Int)), (0 : Int), (0 : Int), ([] : List (Int))), (v1, v3, (0 : Int), v6, v7.1), v8.2)) := by kernel_rfl
theorem e26 (N : Nat) (a0 : List (Int)) : n26 (N + 1) a0 =
 some (a0, (0 : Int)) := by kernel_rfl
theorem e27 (N : Nat) (a0 : ((Int × Int × Int × Int × Int × Int) × (Int × Int × Int × Int × Int × Int) × Int × Int × (List (Int)))) : n27 (N + 1) a0 =
 (n29 N a0).bind fun v0 =>
 bif (!v0) then (some (([] : List (Int)), (1 : Int))) else ((some ([a0.1.1, a0.1.2.1, a0.1.2.2.1, a0.1.2.2.2.1, a0.1.2.2.2.2.1, a0.1.2.2.2.2.2] : List (Int))).bind fun v1 =>
 (nApp 1 ([] : List (Int)) v1).bind fun v2 =>
 (some ([a0.2.1.1, a0.2.1.2.1, a0.2.1.2.2.1, a0.2.1.2.2.2.1, a0.2.1.2.2.2.2.1, a0.2.1.2.2.2.2.2] : List (Int))).bind fun v3 =>
 (nApp 1 v2 v3).bind fun v4 =>
 joinK (fun (p5 : (((Int × Int × Int × Int × Int × Int) × (Int × Int × Int × Int × Int × Int) × Int × Int × (List (Int))) × List (Int))) =>
 (n39 N (p5.2, p5.1.2.2.2.1)).bind fun v7 =>
 (nApp 1 v7 p5.1.2.2.2.2).bind fun v8 =>
 some (v8, (0 : Int))) fun j6 =>
 bif (a0.2.2.1 != (0 : Int)) then ((n39 N (v4, (33024 : Int))).bind fun v9 =>
 (n39 N (v9, a0.2.2.1)).bind fun v10 =>
 j6 (a0, v10)) else (j6 (a0, v4))) := by kernel_rfl
theorem e28 (N : Nat) (a0 : ((Int × Int × Int × Int × Int × Int) × (Int × Int × Int × Int × Int × Int) × Int × Int × (List (Int)))) : n28 (N + 1) a0 =
 (n30 N a0).bind fun v0 =>
 bif (!v0) then (some (([] : List (Int)), (1 : Int))) else ((some ([a0.1.1, a0.1.2.1, a0.1.2.2.1, a0.1.2.2.2.1, a0.1.2.2.2.2.1, a0.1.2.2.2.2.2] : List (Int))).bind fun v1 =>
 (nApp 1 ([] : List (Int)) v1).bind fun v2 =>
 (some ([a0.2.1.1, a0.2.1.2.1, a0.2.1.2.2.1, a0.2.1.2.2.2.1, a0.2.1.2.2.2.2.1, a0.2.1.2.2.2.2.2] : List (Int))).bind fun v3 =>
 (nApp 1 v2 v3).bind fun v4 =>
 letK (decide (a0.2.2.1 > (0 : Int))) fun v5 =>
 joinK (fun (p6 : (((Int × Int × Int × Int × Int × Int) × (Int × Int × Int × Int × Int × Int) × Int × Int × (List (Int))) × List (Int))) =>
 letK (nShr IntKind.i64 p6.1.2.2.2.1 8) fun v8 =>
 letK (IntKind.u8.wrap p6.1.2.2.2.1) fun v9 =>
 letK ([(IntKind.u8.wrap v8), v9] : List (Int)) fun v10 =>
 (nApp 1 p6.2 v10).bind fun v11 =>
 (nApp 1 v11 p6.1.2.2.2.2).bind fun v12 =>
 some (v12, (0 : Int))) fun j7 =>
 bif v5 then (letK (nShr IntKind.i64 a0.2.2.1 8) fun v13 =>
 letK ([(129 : Int), (0 : Int), (IntKind.u8.wrap v13), (IntKind.u8.wrap a0.2.2.1)] : List (Int)) fun v14 =>
 (nApp 1 v4 v14).bind fun v15 =>
 j7 (a0, v15)) else (j7 (a0, v4))) := by kernel_rfl
theorem e29 (N : Nat) (a0 : ((Int × Int × Int × Int × Int × Int) × (Int × Int × Int × Int × Int × Int) × Int × Int × (List (Int)))) : n29 (N + 1) a0 =
 letK (decide (a0.2.2.1 ≥ (0 : Int))) fun v0 =>
 letK (decide (a0.2.2.1 ≤ (4094 : Int))) fun v1 =>
 letK (decide (a0.2.2.2.1 ≥ (1536 : Int))) fun v2 =>
 letK (bif (bif v0 then v1 else false) then v2 else false) fun v3 =>
 letK (decide (a0.2.2.2.1 ≤ (65535 : Int))) fun v4 =>
 letK (a0.2.2.2.1 != (33024 : Int)) fun v5 =>
 letK (bif (bif v3 then v4 else false) then v5 else false) fun v6 =>
 letK (decide ((nLen a0.2.2.2.2) ≤ (1500 : Int))) fun v7 =>
 some (bif v6 then v7 else false) := by kernel_rfl
theorem e30 (N : Nat) (a0 : ((Int × Int × Int × Int × Int × Int) × (Int × Int × Int × Int × Int × Int) × Int × Int × (List (Int)))) : n30 (N + 1) a0 =
 letK (decide (a0.2.2.1 ≥ (0 : Int))) fun v0 =>
 letK (decide (a0.2.2.1 ≤ (4094 : Int))) fun v1 =>
 letK (decide (a0.2.2.2.1 ≥ (1536 : Int))) fun v2 =>
 letK (bif (bif v0 then v1 else false) then v2 else false) fun v3 =>
 letK (decide (a0.2.2.2.1 ≤ (65535 : Int))) fun v4 =>
 letK (a0.2.2.2.1 != (33024 : Int)) fun v5 =>
 letK (bif (bif v3 then v4 else false) then v5 else false) fun v6 =>
 letK (decide ((nLen a0.2.2.2.2) ≤ (1500 : Int))) fun v7 =>
 some (bif v6 then v7 else false) := by kernel_rfl
theorem e31 (N : Nat) (a0 : List (Int)) : n31 (N + 1) a0 =
 letK (decide ((nLen a0) < (14 : Int))) fun v0 =>
 bif v0 then (some ((((0 : Int), (0 : Int), (0 : Int), (0 : Int), (0 : Int), (0 : Int)), ((0 : Int), (0 : Int), (0 : Int), (0 : Int), (0 : Int), (0 : Int)), (0 : Int), (0 : Int), ([] : List (Int))), (4 : Int))) else ((nTake a0 (6 : Int)).bind fun v1 =>
 (if 6 ≤ v1.length then some ((((v1.take 6).take 1).headD (0 : Int)), ((((v1.take 6).drop 1).take 1).headD (0 : Int)), (((((v1.take 6).drop 1).drop 1).take 1).headD (0 : Int)), ((((((v1.take 6).drop 1).drop 1).drop 1).take 1).headD (0 : Int)), (((((((v1.take 6).drop 1).drop 1).drop 1).drop 1).take 1).headD (0 : Int)), (((((((v1.take 6).drop 1).drop 1).drop 1).drop 1).drop 1).headD (0 : Int))) else none).bind fun v2 =>
 (nCut a0 (6 : Int) (12 : Int)).bind fun v3 =>
 (if 6 ≤ v3.length then some ((((v3.take 6).take 1).headD (0 : Int)), ((((v3.take 6).drop 1).take 1).headD (0 : Int)), (((((v3.take 6).drop 1).drop 1).take 1).headD (0 : Int)), ((((((v3.take 6).drop 1).drop 1).drop 1).take 1).headD (0 : Int)), (((((((v3.take 6).drop 1).drop 1).drop 1).drop 1).take 1).headD (0 : Int)), (((((((v3.take 6).drop 1).drop 1).drop 1).drop 1).drop 1).headD (0 : Int))) else none).bind fun v4 =>
 (nDrop a0 (12 : Int)).bind fun v5 =>
 (n40 N v5).bind fun v6 =>
 joinK (fun (p7 : (((Int × Int × Int × Int × Int × Int) × (Int × Int × Int × Int × Int × Int) × Int × Int × (List (Int))) × (((Int × Int × Int × Int × Int × Int) × (Int × Int × Int × Int × Int × Int) × Int × Int × (List (Int))) × List (Int)))) =>
 (n40 N p7.2.2).bind fun v9 =>
 letK (bif (decide (v9 < (1536 : Int))) then true else (v9 == (33024 : Int))) fun v10 =>
 bif v10 then (some ((((0 : Int), (0 : Int), (0 : Int), (0 : Int), (0 : Int), (0 : Int)), ((0 : Int), (0 : Int), (0 : Int), (0 : Int), (0 : Int), (0 : Int)), (0 : Int), (0 : Int), ([] : List (Int))), (5 : Int))) else (letK (IntKind.i64.wrap ((nLen p7.2.2) - (2 : Int))) fun v11 =>
 letK (decide (v11 > (1500 : Int))) fun v12 =>
 bif v12 then (some ((((0 : Int), (0 : Int), (0 : Int), (0 : Int), (0 : Int), (0 : Int)), ((0 : Int), (0 : Int), (0 : Int), (0 : Int), (0 : Int), (0 : Int)), (0 : Int), (0 : Int), ([] : List (Int))), (3 : Int))) else ((nDrop p7.2.2 (2 : Int)).bind fun v13 =>
 (nApp 1 p7.2.1.2.2.2.2 v13).bind fun v14 =>
 some ((p7.2.1.1, p7.2.1.2.1, p7.2.1.2.2.1, v9, v14), (0 : Int))))) fun j8 =>
 bif (v6 == (33024 : Int)) then (letK (decide ((nLen a0) < (18 : Int))) fun v15 =>
 bif v15 then (some ((((0 : Int), (0 : Int), (0 : Int), (0 : Int), (0 : Int), (0 : Int)), ((0 : Int), (0 : Int), (0 : Int), (0 : Int), (0 : Int), (0 : Int)), (0 : Int), (0 : Int), ([] : List (Int))), (4 : Int))) else ((nDrop v5 (2 : Int)).bind fun v16 =>
 (n40 N v16).bind fun v17 =>
 letK (bits .and IntKind.i64 v17 (4095 : Int)) fun v18 =>
 (nDrop v5 (4 : Int)).bind fun v19 =>
 letK (decide (v18 > (4094 : Int))) fun v20 =>
 letK (bif (v18 == (0 : Int)) then true else v20) fun v21 =>
 bif v21 then (some ((((0 : Int), (0 : Int), (0 : Int), (0 : Int), (0 : Int), (0 : Int)), ((0 : Int), (0 : Int), (0 : Int), (0 : Int), (0 : Int), (0 : Int)), (0 : Int), (0 : Int), ([] : List (Int))), (5 : Int))) else (j8 ((((0 : Int), (0 : Int), (0 : Int), (0 : Int), (0 : Int), (0 : Int)), ((0 : Int), (0 : Int), (0 : Int), (0 : Int), (0 : Int), (0 : Int)), (0 : Int), (0 : Int), ([] : List (Int))), (v2, v4, v18, (0 : Int), ([] : List (Int))), v19)))) else (j8 ((((0 : Int), (0 : Int), (0 : Int), (0 : Int), (0 : Int), (0 : Int)), ((0 : Int), (0 : Int), (0 : Int), (0 : Int), (0 : Int), (0 : Int)), (0 : Int), (0 : Int), ([] : List (Int))), (v2, v4, (0 : Int), (0 : Int), ([] : List (Int))), v5))) := by kernel_rfl
theorem e32 (N : Nat) (a0 : List (Int)) : n32 (N + 1) a0 =
 letK (decide ((nLen a0) < (14 : Int))) fun v0 =>
 bif v0 then (some ((((0 : Int), (0 : Int), (0 : Int), (0 : Int), (0 : Int), (0 : Int)), ((0 : Int), (0 : Int), (0 : Int), (0 : Int), (0 : Int), (0 : Int)), (0 : Int), (0 : Int), ([] : List (Int))), (4 : Int))) else ((nTake a0 (6 : Int)).bind fun v1 =>
 (if 6 ≤ v1.length then some ((((v1.take 6).take 1).headD (0 : Int)), ((((v1.take 6).drop 1).take 1).headD (0 : Int)), (((((v1.take 6).drop 1).drop 1).take 1).headD (0 : Int)), ((((((v1.take 6).drop 1).drop 1).drop 1).take 1).headD (0 : Int)), (((((((v1.take 6).drop 1).drop 1).drop 1).drop 1).take 1).headD (0 : Int)), (((((((v1.take 6).drop 1).drop 1).drop 1).drop 1).drop 1).headD (0 : Int))) else none).bind fun v2 =>
 (nCut a0 (6 : Int) (12 : Int)).bind fun v3 =>
 (if 6 ≤ v3.length then some ((((v3.take 6).take 1).headD (0 : Int)), ((((v3.take 6).drop 1).take 1).headD (0 : Int)), (((((v3.take 6).drop 1).drop 1).take 1).headD (0 : Int)), ((((((v3.take 6).drop 1).drop 1).drop 1).take 1).headD (0 : Int)), (((((((v3.take 6).drop 1).drop 1).drop 1).drop 1).take 1).headD (0 : Int)), (((((((v3.take 6).drop 1).drop 1).drop 1).drop 1).drop 1).headD (0 : Int))) else none).bind fun v4 =>
 (nDrop a0 (12 : Int)).bind fun v5 =>
 (nIdx v5 (0 : Int)).bind fun v6 =>
 (bif (v6 == (129 : Int)) then (nIdx v5 (1 : Int)) else some (0 : Int)).bind fun v7 =>
 letK (bif (v6 == (129 : Int)) then (v7 == (0 : Int)) else false) fun v8 =>
 joinK (fun (p9 : (((Int × Int × Int × Int × Int × Int) × (Int × Int × Int × Int × Int × Int) × Int × Int × (List (Int))) × (((Int × Int × Int × Int × Int × Int) × (Int × Int × Int × Int × Int × Int) × Int × Int × (List (Int))) × List (Int)))) =>
 (nIdx p9.2.2 (0 : Int)).bind fun v11 =>
 letK (nShl IntKind.i64 (IntKind.i64.wrap v11) 8) fun v12 =>
 (nIdx p9.2.2 (1 : Int)).bind fun v13 =>
 letK (bits .or IntKind.i64 v12 (IntKind.i64.wrap v13)) fun v14 =>
 (nDrop p9.2.2 (2 : Int)).bind fun v15 =>
 (nApp 1 ([] : List (Int)) v15).bind fun v16 =>
 letK (decide (v14 < (1536 : Int))) fun v17 =>
 letK (bif v17 then true else (v14 == (33024 : Int))) fun v18 =>
 bif v18 then (some ((((0 : Int), (0 : Int), (0 : Int), (0 : Int), (0 : Int), (0 : Int)), ((0 : Int), (0 : Int), (0 : Int), (0 : Int), (0 : Int), (0 : Int)), (0 : Int), (0 : Int), ([] : List (Int))), (5 : Int))) else (letK (decide ((nLen v16) > (1500 : Int))) fun v19 =>
 bif v19 then (some ((((0 : Int), (0 : Int), (0 : Int), (0 : Int), (0 : Int), (0 : Int)), ((0 : Int), (0 : Int), (0 : Int), (0 : Int), (0 : Int), (0 : Int)), (0 : Int), (0 : Int), ([] : List (Int))), (3 : Int))) else (some ((p9.2.1.1, p9.2.1.2.1, p9.2.1.2.2.1, v14, v16), (0 : Int))))) fun j10 =>
 bif v8 then (letK (decide ((nLen a0) < (18 : Int))) fun v20 =>
 bif v20 then (some ((((0 : Int), (0 : Int), (0 : Int), (0 : Int), (0 : Int), (0 : Int)), ((0 : Int), (0 : Int), (0 : Int), (0 : Int), (0 : Int), (0 : Int)), (0 : Int), (0 : Int), ([] : List (Int))), (4 : Int))) else ((nIdx v5 (2 : Int)).bind fun v21 =>
 letK (bits .and IntKind.u8 v21 (15 : Int)) fun v22 =>
 letK (nShl IntKind.i64 (IntKind.i64.wrap v22) 8) fun v23 =>
 (nIdx v5 (3 : Int)).bind fun v24 =>
 letK (bits .or IntKind.i64 v23 (IntKind.i64.wrap v24)) fun v25 =>
 letK (decide (v25 > (4094 : Int))) fun v26 =>
 letK (bif (v25 == (0 : Int)) then true else v26) fun v27 =>
 bif v27 then (some ((((0 : Int), (0 : Int), (0 : Int), (0 : Int), (0 : Int), (0 : Int)), ((0 : Int), (0 : Int), (0 : Int), (0 : Int), (0 : Int), (0 : Int)), (0 : Int), (0 : Int), ([] : List (Int))), (5 : Int))) else ((nDrop v5 (4 : Int)).bind fun v28 =>
 j10 ((((0 : Int), (0 : Int), (0 : Int), (0 : Int), (0 : Int), (0 : Int)), ((0 : Int), (0 : Int), (0 : Int), (0 : Int), (0 : Int), (0 : Int)), (0 : Int), (0 : Int), ([] : List (Int))), (v2, v4, v25, (0 : Int), ([] : List (Int))), v28)))) else (j10 ((((0 : Int), (0 : Int), (0 : Int), (0 : Int), (0 : Int), (0 : Int)), ((0 : Int), (0 : Int), (0 : Int), (0 : Int), (0 : Int), (0 : Int)), (0 : Int), (0 : Int), ([] : List (Int))), (v2, v4, (0 : Int), (0 : Int), ([] : List (Int))), v5))) := by kernel_rfl
theorem e33 (N : Nat) (a0 : ((Int × Int × Int × Int × Int × Int) × (Int × Int × Int × Int × Int × Int) × Int × Int × (List (Int)))) (a1 : ((Int × Int × Int × Int × Int × Int) × (Int × Int × Int × Int × Int × Int) × Int × Int × (List (Int)))) : n33 (N + 1) (a0, a1) =
 letK (false != ((a0.1.1 == a1.1.1) && ((a0.1.2.1 == a1.1.2.1) && ((a0.1.2.2.1 == a1.1.2.2.1) && ((a0.1.2.2.2.1 == a1.1.2.2.2.1) && ((a0.1.2.2.2.2.1 == a1.1.2.2.2.2.1) && (a0.1.2.2.2.2.2 == a1.1.2.2.2.2.2))))))) fun v0 =>
 letK (false != ((a0.2.1.1 == a1.2.1.1) && ((a0.2.1.2.1 == a1.2.1.2.1) && ((a0.2.1.2.2.1 == a1.2.1.2.2.1) && ((a0.2.1.2.2.2.1 == a1.2.1.2.2.2.1) && ((a0.2.1.2.2.2.2.1 == a1.2.1.2.2.2.2.1) && (a0.2.1.2.2.2.2.2 == a1.2.1.2.2.2.2.2))))))) fun v1 =>
 letK (bif (bif v0 then v1 else false) then (a0.2.2.1 == a1.2.2.1) else false) fun v2 =>
 letK (bif v2 then (a0.2.2.2.1 == a1.2.2.2.1) else false) fun v3 =>
 letK ((nStr a0.2.2.2.2) == (nStr a1.2.2.2.2)) fun v4 =>
 some (bif v3 then v4 else false) := by kernel_rfl
theorem e36 (N : Nat) (a0 : Int) : n36 (N + 1) a0 =
 letK (bif (decide (a0 ≥ (48 : Int))) then (decide (a0 ≤ (57 : Int))) else false) fun v0 =>
 bif v0 then (letK (IntKind.u8.wrap (a0 - (48 : Int))) fun v1 =>
 some (IntKind.i64.wrap v1)) else (letK (bif (decide (a0 ≥ (97 : Int))) then (decide (a0 ≤ (102 : Int))) else false) fun v2 =>
 bif v2 then (letK (IntKind.u8.wrap (a0 - (97 : Int))) fun v3 =>
 letK (IntKind.i64.wrap ((IntKind.i64.wrap v3) + (10 : Int))) fun v4 =>
 some v4) else (some (-1 : Int))) := by kernel_rfl
theorem e37 (N : Nat) (a0 : ((List (Int)) × Int)) (a1 : Int) : n37 (N + 1) (a0, a1) =
 letK (decide (a0.2 ≥ (nLen a0.1))) fun v0 =>
 bif v0 then (some ((0 : Int), a0)) else (letK (IntKind.i64.wrap (a0.2 + (1 : Int))) fun v1 =>
 letK (IntKind.i64.wrap (v1 - (1 : Int))) fun v2 =>
 (nIdx a0.1 v2).bind fun v3 =>
 (n9 N (v3, a1)).bind fun v4 =>
 some (v4, a0.1, v1)) := by kernel_rfl
theorem e38 (N : Nat) (a0 : ((List (Int)) × Int)) (a1 : Int) : n38 (N + 1) (a0, a1) =
 letK (IntKind.i64.wrap (a1 + (1 : Int))) fun v0 =>
 (n37 N (a0, v0)).bind fun v1 =>
 joinK (fun (p2 : (List (Int) × ((List (Int)) × Int))) =>
 some (p2.1, p2.2)) fun j3 =>
 loopN N (fun (p4 : (List (Int) × (Int × ((List (Int)) × Int)))) =>
 letK (decide (p4.2.1 > (0 : Int))) fun v5 =>
 bif v5 then ((n37 N (p4.2.2, (256 : Int))).bind fun v6 =>
 letK ([(IntKind.u8.wrap v6.1)] : List (Int)) fun v7 =>
 (nApp 1 p4.1 v7).bind fun v8 =>
 letK (IntKind.i64.wrap (p4.2.1 - (1 : Int))) fun v9 =>
 again (v8, v9, v6.2)) else (leave (j3 (p4.1, p4.2.2)))) (([] : List (Int)), v1.1, v1.2) := by kernel_rfl
theorem e39 (N : Nat) (a0 : List (Int)) (a1 : Int) : n39 (N + 1) (a0, a1) =
 letK (IntKind.u8.wrap (nShr IntKind.i64 a1 8)) fun v0 =>
 letK ([v0, (IntKind.u8.wrap a1)] : List (Int)) fun v1 =>
 (nApp 1 a0 v1).bind fun v2 =>
 some v2 := by kernel_rfl
theorem e40 (N : Nat) (a0 : List (Int)) : n40 (N + 1) a0 =
 (nIdx a0 (0 : Int)).bind fun v0 =>
 letK (nShl IntKind.i64 (IntKind.i64.wrap v0) 8) fun v1 =>
 (nIdx a0 (1 : Int)).bind fun v2 =>
 letK (bits .or IntKind.i64 v1 (IntKind.i64.wrap v2)) fun v3 =>
 some v3 := by kernel_rfl
end Go.Proofs.Ytndaipcfahfkkaa
