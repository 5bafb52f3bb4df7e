/- The functions as they are read. -/
import Derived.Test.YtlgnmgbnbomckaaGreatDoorNN
namespace Go.Proofs.YtlgnmgbnbomckaaGreatDoor
open Go.VM
set_option maxRecDepth 100000
theorem e11 (N:Nat) (a0:List (Int)):n11 (N+1) a0 =
 some (a0,(0:Int)):=by kernel_rfl
theorem e12 (N:Nat) (a0:((List (Int))×Int)):n12 (N+1) a0 =
 (n16 N a0).bind fun v0 =>
 aBJ (fun (p1:(((Bool×Int×Int)×Int)×((Bool×Int×Int)×(Int×((List (Int))×Int))))) =>
 (n27 N (p1.2.2.2,(4:Int))).bind fun v3 =>
 aBJ (fun (p4:(((Bool×Int×Int)×Int)×((Bool×Int×Int)×(Int×((List (Int))×Int))))) =>
 (n26 N (p4.2.1,p4.2.2.1)).bind fun v6 =>
 some (v6.1,p4.2.2.2)) fun j5 =>
 aBJ (fun (p7:(((Bool×Int×Int)×Int)×((Bool×Int×Int)×(Int×((List (Int))×Int))))) =>
 j5 (p7.1,p7.2.1,p7.2.2.1,p7.2.2.2)) fun j8 =>
 bif (v3.1==(0:Int)) then (aJy (IntKind.i64.wrap (p1.2.2.1+(1:Int))) fun v9 =>
 (n27 N (v3.2,v9)).bind fun v10 =>
 j8 (p1.1,p1.2.1,v10.1,v10.2)) else (aBJ (fun (p11:(((Bool×Int×Int)×Int)×((Bool×Int×Int)×(Int×((List (Int))×Int))))) =>
 j8 (p11.1,p11.2.1,p11.2.2.1,p11.2.2.2)) fun j12 =>
 bif (v3.1==(1:Int)) then ((n27 N (v3.2,(9:Int))).bind fun v13 =>
 aJy (IntKind.i64.wrap (p1.2.2.1 - v13.1)) fun v14 =>
 j12 (p1.1,p1.2.1,v14,v13.2)) else (aBJ (fun (p15:(((Bool×Int×Int)×Int)×((Bool×Int×Int)×(Int×((List (Int))×Int))))) =>
 j12 (p15.1,p15.2.1,p15.2.2.1,p15.2.2.2)) fun j16 =>
 bif (v3.1==(2:Int)) then (aJy ([(8:Int),(22:Int),(23:Int),(24:Int),(16:Int)]:List (Int)) fun v17 =>
 (n27 N (v3.2,(5:Int))).bind fun v18 =>
 (aEU v17 v18.1).bind fun v19 =>
 j16 (p1.1,p1.2.1,v19,v18.2)) else (j16 (p1.1,p1.2.1,p1.2.2.1,v3.2))))) fun j2 =>
 bif v0.1.1 then (j2 (((false,(0:Int),(0:Int)),(0:Int)),v0.1,(128:Int),v0.2)) else (j2 (((false,(0:Int),(0:Int)),(0:Int)),v0.1,(32:Int),v0.2)):=by kernel_rfl
theorem e16 (N:Nat) (a0:((List (Int))×Int)):n16 (N+1) a0 =
 (n27 N (a0,(6:Int))).bind fun v0 =>
 bif (v0.1==(0:Int)) then ((n27 N (v0.2,(8:Int))).bind fun v1 =>
 aJy (IntKind.i64.wrap ((167772160:Int)+(aIc IntKind.i64 v1.1 8))) fun v2 =>
 (n27 N (v1.2,(4:Int))).bind fun v3 =>
 aJy (IntKind.i64.wrap (v2+v3.1)) fun v4 =>
 some ((false,(0:Int),(IntKind.u64.wrap v4)),v3.2)) else (bif (v0.1==(1:Int)) then ((n27 N (v0.2,(4:Int))).bind fun v5 =>
 aJy (IntKind.u64.wrap ((2306139568115548160:Int)+(IntKind.u64.wrap v5.1))) fun v6 =>
 (n27 N (v5.2,(8:Int))).bind fun v7 =>
 some ((true,v6,(IntKind.u64.wrap v7.1)),v7.2)) else (bif (v0.1==(2:Int)) then (aJy ([(0:Int),(1:Int),(4294967295:Int),(2147483647:Int),(2147483648:Int)]:List (Int)) fun v8 =>
 (n27 N (v0.2,(5:Int))).bind fun v9 =>
 (aEU v8 v9.1).bind fun v10 =>
 some ((false,(0:Int),v10),v9.2)) else (bif (v0.1==(3:Int)) then (aJy ([(0:Int),(1:Int),(18446744073709551615:Int),(9223372036854775808:Int)]:List (Int)) fun v11 =>
 (n27 N (v0.2,(4:Int))).bind fun v12 =>
 (aEU v11 v12.1).bind fun v13 =>
 aJy ([(0:Int),(1:Int),(18446744073709551615:Int),(9223372036854775808:Int)]:List (Int)) fun v14 =>
 (n27 N (v12.2,(4:Int))).bind fun v15 =>
 (aEU v14 v15.1).bind fun v16 =>
 some ((true,v13,v16),v15.2)) else (bif (v0.1==(4:Int)) then ((n27 N (v0.2,(1073741824:Int))).bind fun v17 =>
 (n27 N (v17.2,(5:Int))).bind fun v18 =>
 aJy (IntKind.i64.wrap (v18.1 * (8:Int))) fun v19 =>
 (if (IntKind.u64.wrap v19) < 0 then none else some (aIc IntKind.u64 (IntKind.u64.wrap v17.1) (IntKind.u64.wrap v19).toNat)).bind fun v20 =>
 (n27 N (v18.2,(1073741824:Int))).bind fun v21 =>
 (n27 N (v21.2,(5:Int))).bind fun v22 =>
 aJy (IntKind.i64.wrap (v22.1 * (8:Int))) fun v23 =>
 (if (IntKind.u64.wrap v23) < 0 then none else some (aIc IntKind.u64 (IntKind.u64.wrap v21.1) (IntKind.u64.wrap v23).toNat)).bind fun v24 =>
 some ((true,v20,v24),v22.2)) else ((n27 N (v0.2,(1073741824:Int))).bind fun v25 =>
 some ((false,(0:Int),(IntKind.u64.wrap v25.1)),v25.2)))))):=by kernel_rfl
theorem e17 (N:Nat) (a0:((Bool×Int×Int)×Int)):n17 (N+1) a0 =
 (n38 N a0).bind fun v0 =>
 bif (!v0) then (some (false,(0:Int),(0:Int))) else ((n46 N a0.1).bind fun v1 =>
 aJy (IntKind.i64.wrap (v1 - a0.2)) fun v2 =>
 (n49 N v2).bind fun v3 =>
 aJy (bits .or IntKind.u64 a0.1.2.1 v3.1) fun v4 =>
 aJy (bits .or IntKind.u64 a0.1.2.2 v3.2) fun v5 =>
 some (a0.1.1,v4,v5)):=by kernel_rfl
theorem e18 (N:Nat) (a0:(Bool×Int×Int)) (a1:(Bool×Int×Int)):n18 (N+1) (a0,a1) =
 aJy (false != ((a0.1==a1.1)&&((a0.2.1==a1.2.1)&&(a0.2.2==a1.2.2)))) fun v0 =>
 bif v0 then (some (0:Int)) else (bif (true != (a0.1==a1.1)) then (bif a1.1 then (some (-1:Int)) else (some (1:Int))) else (aJy (bif (a0.2.1==a1.2.1) then (decide (a0.2.2 < a1.2.2)) else false) fun v1 =>
 aJy (bif (decide (a0.2.1 < a1.2.1)) then true else v1) fun v2 =>
 bif v2 then (some (-1:Int)) else (some (1:Int)))):=by kernel_rfl
theorem e19 (N:Nat) (a0:((Bool×Int×Int)×Int)) (a1:(Bool×Int×Int)):n19 (N+1) (a0,a1) =
 aJy (bif (false != (a0.1.1==a1.1)) then (decide (a0.2≥(0:Int))) else false) fun v0 =>
 (bif v0 then (n46 N a1) else some (0:Int)).bind fun v1 =>
 aJy (bif v0 then (decide (a0.2≤v1)) else false) fun v2 =>
 (bif v2 then (n50 N (a1,a0.2)) else some (false,(0:Int),(0:Int))).bind fun v3 =>
 aJy (false != ((v3.1==a0.1.1)&&((v3.2.1==a0.1.2.1)&&(v3.2.2==a0.1.2.2)))) fun v4 =>
 some (bif v2 then v4 else false):=by kernel_rfl
theorem e20 (N:Nat) (a0:(Bool×Int×Int)):n20 (N+1) a0 =
 aJy (IntKind.u64.wrap (a0.2.2+(1:Int))) fun v0 =>
 aBJ (fun (p1:((Bool×Int×Int)×(Bool×Int×Int))) =>
 aJy (bif p1.1.1 then (p1.1.2.1==(0:Int)) else false) fun v3 =>
 aJy (bif v3 then (p1.1.2.2==(0:Int)) else false) fun v4 =>
 aJy (decide (p1.1.2.2≥(4294967296:Int))) fun v5 =>
 aJy (bif (!p1.1.1) then v5 else false) fun v6 =>
 bif (bif v4 then true else v6) then (some ((false,(0:Int),(0:Int)),false)) else (some (p1.1,true))) fun j2 =>
 bif (v0==(0:Int)) then (aJy (IntKind.u64.wrap (a0.2.1+(1:Int))) fun v7 =>
 j2 ((a0.1,v7,v0),false,(0:Int),(0:Int))) else (j2 ((a0.1,a0.2.1,v0),false,(0:Int),(0:Int))):=by kernel_rfl
theorem e24 (N:Nat) (a0:Int) (a1:Int):n24 (N+1) (a0,a1) =
 (if a1=0 then none else some (Int.tmod a0 a1)).bind fun v0 =>
 aBJ (fun (p1:Int) =>
 some p1) fun j2 =>
 bif (decide (v0 < (0:Int))) then (j2 (IntKind.i64.wrap (v0+a1))) else (j2 v0):=by kernel_rfl
theorem e26 (N:Nat) (a0:(Bool×Int×Int)) (a1:Int):n26 (N+1) (a0,a1) =
 (n57 N a0).bind fun v0 =>
 bif (!v0) then (some (((false,(0:Int),(0:Int)),(0:Int)),(1:Int))) else ((bif (!(decide (a1 < (0:Int)))) then (n58 N a0) else some (0:Int)).bind fun v1 =>
 aJy (bif (decide (a1 < (0:Int))) then true else (decide (a1 > v1))) fun v2 =>
 bif v2 then (some (((false,(0:Int),(0:Int)),(0:Int)),(9:Int))) else ((n51 N a0).bind fun v3 =>
 aBJ (fun (p4:(Int×(((Bool×Int×Int)×Int)×List (Int)))) =>
 (n59 N p4.2.2).bind fun v6 =>
 some ((v6.1,p4.1),(0:Int))) fun j5 =>
 eG N (fun (p7:(Int×(((Bool×Int×Int)×Int)×(List (Int)×Int)))) =>
 aJy (IntKind.i64.wrap ((8:Int) * (aJO p7.2.2.1))) fun v8 =>
 bif (decide (p7.2.2.2 < v8)) then (aJy (IntKind.i64.wrap (Int.tdiv p7.2.2.2 (8:Int))) fun v9 =>
 (aEU p7.2.2.1 v9).bind fun v10 =>
 aJy (Int.tmod p7.2.2.2 (8:Int)) fun v11 =>
 (if (IntKind.u64.wrap v11) < 0 then none else some (aJP IntKind.u8 (128:Int) (IntKind.u64.wrap v11).toNat)).bind fun v12 =>
 aJy (bits .andNot IntKind.u8 v10 v12) fun v13 =>
 (aEU p7.2.2.1 v9).bind fun v14 =>
 aJy (IntKind.i64.wrap (p7.2.2.2+(1:Int))) fun v15 =>
 tN (p7.1,p7.2.1,(p7.2.2.1.set v9.toNat v13),v15)) else (lJ (j5 (p7.1,p7.2.1,p7.2.2.1)))) (a1,((false,(0:Int),(0:Int)),(0:Int)),v3,a1))):=by kernel_rfl
theorem e27 (N:Nat) (a0:((List (Int))×Int)) (a1:Int):n27 (N+1) (a0,a1) =
 aJy (decide (a0.2≥(aJO a0.1))) fun v0 =>
 bif v0 then (some ((0:Int),a0)) else (aJy (IntKind.i64.wrap (a0.2+(1:Int))) fun v1 =>
 aJy (IntKind.i64.wrap (v1 - (1:Int))) fun v2 =>
 (aEU a0.1 v2).bind fun v3 =>
 (n24 N (v3,a1)).bind fun v4 =>
 some (v4,a0.1,v1)):=by kernel_rfl
theorem e28 (N:Nat) (a0:((Bool×Int×Int)×Int)) (a1:(Bool×Int×Int)):n28 (N+1) (a0,a1) =
 (n26 N (a1,a0.2)).bind fun v0 =>
 aJy (false != (((v0.1.1.1==a0.1.1)&&((v0.1.1.2.1==a0.1.2.1)&&(v0.1.1.2.2==a0.1.2.2)))&&(v0.1.2==a0.2))) fun v1 =>
 aJy (bif (v0.2==(0:Int)) then v1 else false) fun v2 =>
 some v2:=by kernel_rfl
theorem e29 (N:Nat) (a0:((Bool×Int×Int)×Int)):n29 (N+1) a0 =
 (n51 N a0.1).bind fun v0 =>
 aBJ (fun (p1:((Bool×Int×Int)×List (Int))) =>
 (n59 N p1.2).bind fun v3 =>
 some v3.1) fun j2 =>
 eG N (fun (p4:((Bool×Int×Int)×(List (Int)×Int))) =>
 aJy (IntKind.i64.wrap ((8:Int) * (aJO p4.2.1))) fun v5 =>
 bif (decide (p4.2.2 < v5)) then (aJy (IntKind.i64.wrap (Int.tdiv p4.2.2 (8:Int))) fun v6 =>
 (aEU p4.2.1 v6).bind fun v7 =>
 aJy (IntKind.u64.wrap (Int.tmod p4.2.2 (8:Int))) fun v8 =>
 (if v8 < 0 then none else some (aJP IntKind.u8 (128:Int) v8.toNat)).bind fun v9 =>
 (aEU p4.2.1 v6).bind fun v10 =>
 aJy (p4.2.1.set v6.toNat (bits .or IntKind.u8 v7 v9)) fun v11 =>
 aJy (IntKind.i64.wrap (p4.2.2+(1:Int))) fun v12 =>
 tN (p4.1,v11,v12)) else (lJ (j2 (p4.1,p4.2.1)))) ((false,(0:Int),(0:Int)),v0,(mmT true (0:Int) a0.2)):=by kernel_rfl
theorem e30 (N:Nat) (a0:((Bool×Int×Int)×Int)) (a1:((Bool×Int×Int)×Int)):n30 (N+1) (a0,a1) =
 (bif (decide (a1.2≥a0.2)) then (n19 N (a0,a1.1)) else some false).bind fun v0 =>
 aJy (bif (decide (a1.2≥a0.2)) then v0 else false) fun v1 =>
 some v1:=by kernel_rfl
theorem e31 (N:Nat) (a0:((Bool×Int×Int)×Int)) (a1:((Bool×Int×Int)×Int)):n31 (N+1) (a0,a1) =
 (bif (decide (a1.2≥a0.2)) then (n28 N (a0,a1.1)) else some false).bind fun v0 =>
 aJy (bif (decide (a1.2≥a0.2)) then v0 else false) fun v1 =>
 some v1:=by kernel_rfl
theorem e32 (N:Nat) (a0:((Bool×Int×Int)×Int)):n32 (N+1) a0 =
 (n38 N a0).bind fun v0 =>
 bif (!v0) then (some (((false,(0:Int),(0:Int)),(0:Int)),((false,(0:Int),(0:Int)),(0:Int)),(1:Int))) else ((n46 N a0.1).bind fun v1 =>
 bif (a0.2==v1) then (some (((false,(0:Int),(0:Int)),(0:Int)),((false,(0:Int),(0:Int)),(0:Int)),(9:Int))) else (aJy (IntKind.i64.wrap (a0.2+(1:Int))) fun v2 =>
 aJy (IntKind.i64.wrap (v2 - (1:Int))) fun v3 =>
 (n17 N (a0.1,v3)).bind fun v4 =>
 (n50 N (v4,v2)).bind fun v5 =>
 some ((a0.1,v2),(v5,v2),(0:Int)))):=by kernel_rfl
theorem e33 (N:Nat) (a0:((Bool×Int×Int)×Int)):n33 (N+1) a0 =
 (n39 N a0).bind fun v0 =>
 bif (!v0) then (some (((false,(0:Int),(0:Int)),(0:Int)),((false,(0:Int),(0:Int)),(0:Int)),(1:Int))) else ((n58 N a0.1).bind fun v1 =>
 bif (a0.2==v1) then (some (((false,(0:Int),(0:Int)),(0:Int)),((false,(0:Int),(0:Int)),(0:Int)),(9:Int))) else ((n51 N a0.1).bind fun v2 =>
 aJy (IntKind.i64.wrap (Int.tdiv a0.2 (8:Int))) fun v3 =>
 (aEU v2 v3).bind fun v4 =>
 aJy (IntKind.u64.wrap (Int.tmod a0.2 (8:Int))) fun v5 =>
 (if v5 < 0 then none else some (aJP IntKind.u8 (128:Int) v5.toNat)).bind fun v6 =>
 (aEU v2 v3).bind fun v7 =>
 aJy (v2.set v3.toNat (bits .or IntKind.u8 v4 v6)) fun v8 =>
 (n59 N v8).bind fun v9 =>
 aJy (IntKind.i64.wrap (a0.2+(1:Int))) fun v10 =>
 aJy (IntKind.i64.wrap (a0.2+(1:Int))) fun v11 =>
 some ((a0.1,v10),(v9.1,v11),(0:Int)))):=by kernel_rfl
theorem e34 (N:Nat) (a0:((Bool×Int×Int)×Int)) (a1:((Bool×Int×Int)×Int)):n34 (N+1) (a0,a1) =
 (n38 N a0).bind fun v0 =>
 (bif (!(!v0)) then (n38 N a1) else some false).bind fun v1 =>
 aJy (bif (!v0) then true else (!v1)) fun v2 =>
 bif v2 then (some (((false,(0:Int),(0:Int)),(0:Int)),(1:Int))) else (bif (true != (a0.1.1==a1.1.1)) then (some (((false,(0:Int),(0:Int)),(0:Int)),(9:Int))) else (aJy (bits .xor IntKind.u64 a0.1.2.1 a1.1.2.1) fun v3 =>
 (n60 N v3).bind fun v4 =>
 aBJ (fun (p5:(((Bool×Int×Int)×Int)×(((Bool×Int×Int)×Int)×(((Bool×Int×Int)×Int)×Int)))) =>
 aJy (IntKind.i64.wrap (p5.2.2.2 - (128:Int))) fun v7 =>
 (n46 N p5.1.1).bind fun v8 =>
 aJy (mmT false (mmT false (IntKind.i64.wrap (v7+v8)) p5.1.2) p5.2.1.2) fun v9 =>
 (n50 N (p5.1.1,v9)).bind fun v10 =>
 some ((v10,v9),(0:Int))) fun j6 =>
 bif (v4==(64:Int)) then (aJy (bits .xor IntKind.u64 a0.1.2.2 a1.1.2.2) fun v11 =>
 (n60 N v11).bind fun v12 =>
 aJy (IntKind.i64.wrap (v4+v12)) fun v13 =>
 j6 (a0,a1,((false,(0:Int),(0:Int)),(0:Int)),v13)) else (j6 (a0,a1,((false,(0:Int),(0:Int)),(0:Int)),v4)))):=by kernel_rfl
theorem e35 (N:Nat) (a0:((Bool×Int×Int)×Int)) (a1:((Bool×Int×Int)×Int)):n35 (N+1) (a0,a1) =
 (n39 N a0).bind fun v0 =>
 (bif (!(!v0)) then (n39 N a1) else some false).bind fun v1 =>
 aJy (bif (!v0) then true else (!v1)) fun v2 =>
 bif v2 then (some (((false,(0:Int),(0:Int)),(0:Int)),(1:Int))) else (bif (true != (a0.1.1==a1.1.1)) then (some (((false,(0:Int),(0:Int)),(0:Int)),(9:Int))) else (aBJ (fun (p3:(((Bool×Int×Int)×Int)×(((Bool×Int×Int)×Int)×Int))) =>
 (n26 N (p3.1.1,p3.2.2)).bind fun v5 =>
 some (v5.1,v5.2)) fun j4 =>
 eG N (fun (p6:(((Bool×Int×Int)×Int)×(((Bool×Int×Int)×Int)×(((Bool×Int×Int)×Int)×Int)))) =>
 aJy (decide (p6.2.2.2 < p6.2.1.2)) fun v7 =>
 aJy (bif (decide (p6.2.2.2 < p6.1.2)) then v7 else false) fun v8 =>
 (bif v8 then (n40 N (p6.1.1,p6.2.2.2)) else some (0:Int)).bind fun v9 =>
 (bif v8 then (n40 N (p6.2.1.1,p6.2.2.2)) else some (0:Int)).bind fun v10 =>
 aJy (bif v8 then (v9==v10) else false) fun v11 =>
 bif v11 then (aJy (IntKind.i64.wrap (p6.2.2.2+(1:Int))) fun v12 =>
 tN (p6.1,p6.2.1,p6.2.2.1,v12)) else (lJ (j4 (p6.1,p6.2.2.1,p6.2.2.2)))) (a0,a1,((false,(0:Int),(0:Int)),(0:Int)),(0:Int)))):=by kernel_rfl
theorem e36 (N:Nat) (a0:(Bool×Int×Int)) (a1:Int):n36 (N+1) (a0,a1) =
 (n61 N a0).bind fun v0 =>
 bif (!v0) then (some (((false,(0:Int),(0:Int)),(0:Int)),(1:Int))) else ((bif (!(decide (a1 < (0:Int)))) then (n46 N a0) else some (0:Int)).bind fun v1 =>
 aJy (bif (decide (a1 < (0:Int))) then true else (decide (a1 > v1))) fun v2 =>
 bif v2 then (some (((false,(0:Int),(0:Int)),(0:Int)),(9:Int))) else ((n50 N (a0,a1)).bind fun v3 =>
 some ((v3,a1),(0:Int)))):=by kernel_rfl
theorem e37 (N:Nat) (a0:(Bool×Int×Int)) (a1:Int):n37 (N+1) (a0,a1) =
 (n46 N a0).bind fun v0 =>
 aJy (IntKind.i64.wrap (v0 - (1:Int))) fun v1 =>
 aJy (decide ((IntKind.i64.wrap (v1 - a1)) < (0:Int))) fun v2 =>
 aJy (bif (decide (a1 < (0:Int))) then true else v2) fun v3 =>
 bif v3 then (some (0:Int)) else (aJy (decide ((IntKind.i64.wrap (v1 - a1))≥(64:Int))) fun v4 =>
 bif v4 then (aJy (IntKind.i64.wrap ((IntKind.i64.wrap (v1 - a1)) - (64:Int))) fun v5 =>
 (if (IntKind.u64.wrap v5) < 0 then none else some (aJP IntKind.u64 a0.2.1 (IntKind.u64.wrap v5).toNat)).bind fun v6 =>
 aJy (bits .and IntKind.u64 v6 (1:Int)) fun v7 =>
 some (IntKind.i64.wrap v7)) else (aJy (IntKind.u64.wrap (IntKind.i64.wrap (v1 - a1))) fun v8 =>
 (if v8 < 0 then none else some (aJP IntKind.u64 a0.2.2 v8.toNat)).bind fun v9 =>
 aJy (bits .and IntKind.u64 v9 (1:Int)) fun v10 =>
 some (IntKind.i64.wrap v10))):=by kernel_rfl
theorem e38 (N:Nat) (a0:((Bool×Int×Int)×Int)):n38 (N+1) a0 =
 (n61 N a0.1).bind fun v0 =>
 aJy (bif v0 then (decide (a0.2≥(0:Int))) else false) fun v1 =>
 (bif v1 then (n46 N a0.1) else some (0:Int)).bind fun v2 =>
 aJy (bif v1 then (decide (a0.2≤v2)) else false) fun v3 =>
 (bif v3 then (n50 N (a0.1,a0.2)) else some (false,(0:Int),(0:Int))).bind fun v4 =>
 aJy (false != ((v4.1==a0.1.1)&&((v4.2.1==a0.1.2.1)&&(v4.2.2==a0.1.2.2)))) fun v5 =>
 some (bif v3 then v5 else false):=by kernel_rfl
theorem e39 (N:Nat) (a0:((Bool×Int×Int)×Int)):n39 (N+1) a0 =
 (n26 N (a0.1,a0.2)).bind fun v0 =>
 aJy (false != (((a0.1.1==v0.1.1.1)&&((a0.1.2.1==v0.1.1.2.1)&&(a0.1.2.2==v0.1.1.2.2)))&&(a0.2==v0.1.2))) fun v1 =>
 aJy (bif (v0.2==(0:Int)) then v1 else false) fun v2 =>
 some v2:=by kernel_rfl
theorem e40 (N:Nat) (a0:(Bool×Int×Int)) (a1:Int):n40 (N+1) (a0,a1) =
 (n51 N a0).bind fun v0 =>
 aJy (IntKind.i64.wrap ((8:Int) * (aJO v0))) fun v1 =>
 aJy (bif (decide (a1 < (0:Int))) then true else (decide (a1≥v1))) fun v2 =>
 bif v2 then (some (0:Int)) else (aJy (IntKind.i64.wrap (Int.tdiv a1 (8:Int))) fun v3 =>
 (aEU v0 v3).bind fun v4 =>
 aJy (IntKind.u64.wrap (Int.tmod a1 (8:Int))) fun v5 =>
 aJy (IntKind.u64.wrap ((7:Int) - v5)) fun v6 =>
 (if v6 < 0 then none else some (aJP IntKind.u8 v4 v6.toNat)).bind fun v7 =>
 aJy (bits .and IntKind.i64 (IntKind.i64.wrap v7) (1:Int)) fun v8 =>
 some v8):=by kernel_rfl
theorem e41 (N:Nat) (a0:((Bool×Int×Int)×Int)) (a1:((Bool×Int×Int)×Int)):n41 (N+1) (a0,a1) =
 (n63 N (a0.1,a1.1)).bind fun v0 =>
 (n64 N (a0.2,a1.2)).bind fun v1 =>
 (n62 N ([v0,v1]:List (Int))).bind fun v2 =>
 some v2:=by kernel_rfl
theorem e42 (N:Nat) (a0:((Bool×Int×Int)×Int)) (a1:((Bool×Int×Int)×Int)):n42 (N+1) (a0,a1) =
 (n18 N (a0.1,a1.1)).bind fun v0 =>
 bif (v0 != (0:Int)) then (some v0) else (bif (decide (a0.2 < a1.2)) then (some (-1:Int)) else (bif (decide (a0.2 > a1.2)) then (some (1:Int)) else (some (0:Int)))):=by kernel_rfl
theorem e46 (N:Nat) (a0:(Bool×Int×Int)):n46 (N+1) a0 =
 bif a0.1 then (some (128:Int)) else (some (32:Int)):=by kernel_rfl
theorem e49 (N:Nat) (a0:Int):n49 (N+1) a0 =
 bif (decide (a0 > (64:Int))) then (aJy (IntKind.i64.wrap (a0 - (64:Int))) fun v0 =>
 (if (IntKind.u64.wrap v0) < 0 then none else some (aIc IntKind.u64 (1:Int) (IntKind.u64.wrap v0).toNat)).bind fun v1 =>
 aJy (IntKind.u64.wrap (v1 - (1:Int))) fun v2 =>
 some (v2,(18446744073709551615:Int))) else ((if (IntKind.u64.wrap a0) < 0 then none else some (aIc IntKind.u64 (1:Int) (IntKind.u64.wrap a0).toNat)).bind fun v3 =>
 aJy (IntKind.u64.wrap (v3 - (1:Int))) fun v4 =>
 some ((0:Int),v4)):=by kernel_rfl
theorem e50 (N:Nat) (a0:(Bool×Int×Int)) (a1:Int):n50 (N+1) (a0,a1) =
 (n46 N a0).bind fun v0 =>
 (n49 N (IntKind.i64.wrap (v0 - a1))).bind fun v1 =>
 aJy (bits .andNot IntKind.u64 a0.2.1 v1.1) fun v2 =>
 aJy (bits .andNot IntKind.u64 a0.2.2 v1.2) fun v3 =>
 some (a0.1,v2,v3):=by kernel_rfl
theorem e51 (N:Nat) (a0:(Bool×Int×Int)):n51 (N+1) a0 =
 (n57 N a0).bind fun v0 =>
 bif (!v0) then (some ([]:List (Int))) else (aBJ (fun (p1:((Bool×Int×Int)×Int)) =>
 aJy (IntKind.i64.wrap (p1.2 - (1:Int))) fun v3 =>
 aBJ (fun (p4:List (Int)) =>
 some p4) fun j5 =>
 eG N (fun (p6:((Bool×Int×Int)×(List (Int)×Int))) =>
 aJy (decide (p6.2.2≥(0:Int))) fun v7 =>
 bif v7 then (aJy (decide (p6.2.2≥(8:Int))) fun v8 =>
 aBJ (fun (p9:((Bool×Int×Int)×(List (Int)×(Int×Int)))) =>
 aJy (Int.tmod p9.2.2.1 (8:Int)) fun v11 =>
 aJy (IntKind.u64.wrap ((8:Int) * (IntKind.u64.wrap v11))) fun v12 =>
 (if v12 < 0 then none else some (aJP IntKind.u64 p9.2.2.2 v12.toNat)).bind fun v13 =>
 aJy ([(IntKind.u8.wrap v13)]:List (Int)) fun v14 =>
 (aH3 1 p9.2.1 v14).bind fun v15 =>
 aJy (IntKind.i64.wrap (p9.2.2.1 - (1:Int))) fun v16 =>
 tN (p9.1,v15,v16)) fun j10 =>
 bif v8 then (j10 (p6.1,p6.2.1,p6.2.2,p6.1.2.1)) else (j10 (p6.1,p6.2.1,p6.2.2,p6.1.2.2))) else (lJ (j5 p6.2.1))) (p1.1,([]:List (Int)),v3)) fun j2 =>
 bif a0.1 then (j2 (a0,(16:Int))) else (j2 (a0,(4:Int)))):=by kernel_rfl
theorem e57 (N:Nat) (a0:(Bool×Int×Int)):n57 (N+1) a0 =
 aJy (decide (a0.2.2 < (4294967296:Int))) fun v0 =>
 aJy (bif (a0.2.1==(0:Int)) then v0 else false) fun v1 =>
 some (bif a0.1 then true else v1):=by kernel_rfl
theorem e58 (N:Nat) (a0:(Bool×Int×Int)):n58 (N+1) a0 =
 bif a0.1 then (some (128:Int)) else (some (32:Int)):=by kernel_rfl
theorem e59 (N:Nat) (a0:List (Int)):n59 (N+1) a0 =
 aJy (bif ((aJO a0) != (4:Int)) then ((aJO a0) != (16:Int)) else false) fun v0 =>
 bif v0 then (some ((false,(0:Int),(0:Int)),(1:Int))) else (aBJ (fun (p1:((Bool×Int×Int)×(Bool×Int×Int))) =>
 some (p1.2,(0:Int))) fun j2 =>
 eG N (fun (p3:((Bool×Int×Int)×((Bool×Int×Int)×(List (Int)×(Int×Int))))) =>
 aJy (decide (p3.2.2.2.2 < p3.2.2.2.1)) fun v4 =>
 bif v4 then ((aEU p3.2.2.1 p3.2.2.2.2).bind fun v5 =>
 aJy (aIc IntKind.u64 p3.2.1.2.1 8) fun v6 =>
 aJy (aJP IntKind.u64 p3.2.1.2.2 56) fun v7 =>
 aJy (aIc IntKind.u64 p3.2.1.2.2 8) fun v8 =>
 aJy (bits .or IntKind.u64 v8 (IntKind.u64.wrap v5)) fun v9 =>
 aJy (IntKind.i64.wrap (p3.2.2.2.2+(1:Int))) fun v10 =>
 tN (p3.1,(p3.2.1.1,(bits .or IntKind.u64 v6 v7),v9),p3.2.2.1,p3.2.2.2.1,v10)) else (lJ (j2 (p3.1,p3.2.1)))) ((false,(0:Int),(0:Int)),(((aJO a0)==(16:Int)),(0:Int),(0:Int)),a0,(aJO a0),(0:Int))):=by kernel_rfl
theorem e61 (N:Nat) (a0:(Bool×Int×Int)):n61 (N+1) a0 =
 aJy (decide (a0.2.2 < (4294967296:Int))) fun v0 =>
 aJy (bif (a0.2.1==(0:Int)) then v0 else false) fun v1 =>
 some (bif a0.1 then true else v1):=by kernel_rfl
theorem e62 (N:Nat) (a0:List (Int)):n62 (N+1) a0 =
 aBJ (fun (p0:Int) =>
 some p0) fun j1 =>
 eG N (fun (p2:(Int×(List (Int)×(Int×Int)))) =>
 aJy (decide (p2.2.2.2 < p2.2.2.1)) fun v3 =>
 bif v3 then ((aEU p2.2.1 p2.2.2.2).bind fun v4 =>
 bif (v4 != p2.1) then (lJ (some v4)) else (aJy (IntKind.i64.wrap (p2.2.2.2+(1:Int))) fun v5 =>
 tN (p2.1,p2.2.1,p2.2.2.1,v5))) else (lJ (j1 p2.1))) ((0:Int),a0,(aJO a0),(0:Int)):=by kernel_rfl
theorem e63 (N:Nat) (a0:(Bool×Int×Int)) (a1:(Bool×Int×Int)):n63 (N+1) (a0,a1) =
 (n84 N a0).bind fun v0 =>
 (n84 N a1).bind fun v1 =>
 (n64 N (v0,v1)).bind fun v2 =>
 (n85 N (a0.2.1,a1.2.1)).bind fun v3 =>
 (n85 N (a0.2.2,a1.2.2)).bind fun v4 =>
 (n62 N ([v2,v3,v4]:List (Int))).bind fun v5 =>
 some v5:=by kernel_rfl
theorem e64 (N:Nat) (a0:Int) (a1:Int):n64 (N+1) (a0,a1) =
 (n86 N a0).bind fun v0 =>
 (n86 N a1).bind fun v1 =>
 bif v0 then (bif v1 then (some (0:Int)) else (some (-1:Int))) else (bif v1 then (some (1:Int)) else (bif (decide (a0 < a1)) then (some (-1:Int)) else (bif (decide (a0 > a1)) then (some (1:Int)) else (some (0:Int))))):=by kernel_rfl
theorem e71 (N:Nat) (a0:(Bool×Int×Int)):n71 (N+1) a0 =
 (n61 N a0).bind fun v0 =>
 bif (!v0) then (some ([]:List (Int))) else (aBJ (fun (p1:((Bool×Int×Int)×Int)) =>
 (aIb 1 (0:Int) p1.2 p1.2).bind fun v3 =>
 aJy (IntKind.i64.wrap (p1.2 - (1:Int))) fun v4 =>
 aBJ (fun (p5:List (Int)) =>
 some p5) fun j6 =>
 eG N (fun (p7:((Bool×Int×Int)×(List (Int)×Int))) =>
 aJy (decide (p7.2.2≥(0:Int))) fun v8 =>
 bif v8 then ((aEU p7.2.1 p7.2.2).bind fun v9 =>
 aJy (p7.2.1.set p7.2.2.toNat (IntKind.u8.wrap p7.1.2.2)) fun v10 =>
 aJy (aJP IntKind.u64 p7.1.2.2 8) fun v11 =>
 aJy (aIc IntKind.u64 p7.1.2.1 56) fun v12 =>
 aJy (bits .or IntKind.u64 v11 v12) fun v13 =>
 aJy (aJP IntKind.u64 p7.1.2.1 8) fun v14 =>
 aJy (IntKind.i64.wrap (p7.2.2 - (1:Int))) fun v15 =>
 tN ((p7.1.1,v14,v13),v10,v15)) else (lJ (j6 p7.2.1))) (p1.1,v3,v4)) fun j2 =>
 bif a0.1 then (j2 (a0,(16:Int))) else (j2 (a0,(4:Int)))):=by kernel_rfl
theorem e84 (N:Nat) (a0:(Bool×Int×Int)):n84 (N+1) a0 =
 bif a0.1 then (some (1:Int)) else (some (0:Int)):=by kernel_rfl
theorem e85 (N:Nat) (a0:Int) (a1:Int):n85 (N+1) (a0,a1) =
 (n109 N a0).bind fun v0 =>
 (n109 N a1).bind fun v1 =>
 bif v0 then (bif v1 then (some (0:Int)) else (some (-1:Int))) else (bif v1 then (some (1:Int)) else (bif (decide (a0 < a1)) then (some (-1:Int)) else (bif (decide (a0 > a1)) then (some (1:Int)) else (some (0:Int))))):=by kernel_rfl
theorem e86 (N:Nat) (a0:Int):n86 (N+1) a0 =
 some (a0 != a0):=by kernel_rfl
theorem e109 (N:Nat) (a0:Int):n109 (N+1) a0 =
 some (a0 != a0):=by kernel_rfl
end Go.Proofs.YtlgnmgbnbomckaaGreatDoor
