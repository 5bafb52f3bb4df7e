/- The functions as they are read. -/
import Derived.Test.YtajoneenakjifaaGreatDoorNN
namespace Go.Proofs.YtajoneenakjifaaGreatDoor
open Go.VM
set_option maxRecDepth 100000
theorem e4 (N:Nat) (a0:List ((Bool×(List (Int))))):n4 (N+1) a0 =
 aBJ (fun (p0:List ((Bool×(List (Int))))) =>
 aJy (decide ((aJO p0)≤(20:Int))) fun v2 =>
 some v2) fun j1 =>
 eG N (fun (p3:(List ((Bool×(List (Int))))×(List ((Bool×(List (Int))))×(Int×Int)))) =>
 aJy (decide (p3.2.2.2 < p3.2.2.1)) fun v4 =>
 bif v4 then ((aEU p3.2.1 p3.2.2.2).bind fun v5 =>
 aJy (decide ((aJO v5.2) > (80:Int))) fun v6 =>
 bif v6 then (lJ (some false)) else (aJy (IntKind.i64.wrap (p3.2.2.2+(1:Int))) fun v7 =>
 tN (p3.1,p3.2.1,p3.2.2.1,v7))) else (lJ (j1 p3.1))) (a0,a0,(aJO a0),(0:Int)):=by kernel_rfl
theorem e5 (N:Nat):n5 (N+1) () =
 (n11 N ([54,53,48,48,49,32,54,53,48,48,50,32,123,55,44,57,125]:List UInt8)).bind fun v0 =>
 (n14 N v0.1).bind fun v1 =>
 (n15 N v0.1).bind fun v2 =>
 (bif (v0.2==(0:Int)) then (n16 N v0.1) else some (0:Int)).bind fun v3 =>
 aJy (bif (v0.2==(0:Int)) then (v3==(3:Int)) else false) fun v4 =>
 aJy (bif v4 then v1.2 else false) fun v5 =>
 aJy (bif v5 then (v1.1==(65001:Int)) else false) fun v6 =>
 aJy (bif v6 then (!v2.2) else false) fun v7 =>
 aJy (bif v7 then ((aJO v0.1)==(2:Int)) else false) fun v8 =>
 some v8:=by kernel_rfl
theorem e6 (N:Nat) (a0:List (Int)):n6 (N+1) a0 =
 some (a0,(0:Int)):=by kernel_rfl
theorem e7 (N:Nat) (a0:((List (Int))×Int)):n7 (N+1) a0 =
 (n17 N (a0,(4:Int))).bind fun v0 =>
 aBJ (fun (p1:(List ((Bool×(List (Int))))×((List (Int))×Int))) =>
 some (p1.1,p1.2)) fun j2 =>
 eG N (fun (p3:(List ((Bool×(List (Int))))×(Int×((List (Int))×Int)))) =>
 aJy (decide (p3.2.1 > (0:Int))) fun v4 =>
 bif v4 then (aBJ (fun (p5:(List ((Bool×(List (Int))))×(Int×((List (Int))×Int)))) =>
 aJy (IntKind.i64.wrap (p5.2.1 - (1:Int))) fun v7 =>
 tN (p5.1,v7,p5.2.2)) fun j6 =>
 aJy (decide ((aJO p3.1) > (0:Int))) fun v8 =>
 aJy (IntKind.i64.wrap ((aJO p3.1) - (1:Int))) fun v9 =>
 (bif v8 then (aEU p3.1 v9) else some (false,([]:List (Int)))).bind fun v10 =>
 aJy (bif v8 then (!v10.1) else false) fun v11 =>
 (bif (!v11) then (n17 N (p3.2.2,(5:Int))) else some ((0:Int),p3.2.2)).bind fun v12 =>
 aJy (bif v11 then true else (v12.1==(4:Int))) fun v13 =>
 (n17 N (v12.2,(4:Int))).bind fun v14 =>
 aJy (IntKind.i64.wrap ((1:Int)+v14.1)) fun v15 =>
 aBJ (fun (p16:(List ((Bool×(List (Int))))×(Int×((Bool×(List (Int)))×((List (Int))×Int))))) =>
 aJy ([p16.2.2.1]:List ((Bool×(List (Int))))) fun v18 =>
 (aH3 32 p16.1 v18).bind fun v19 =>
 (n19 N v19).bind fun v20 =>
 aBJ (fun (p21:(List ((Bool×(List (Int))))×(Int×((List (Int))×Int)))) =>
 j6 (p21.1,p21.2.1,p21.2.2)) fun j22 =>
 bif (!v20) then (aJy (IntKind.i64.wrap ((aJO v19) - (1:Int))) fun v23 =>
 (aEV v19 v23).bind fun v24 =>
 j22 (v24,p16.2.1,p16.2.2.2)) else (j22 (v19,p16.2.1,p16.2.2.2))) fun j17 =>
 eG N (fun (p25:(List ((Bool×(List (Int))))×(Int×(Bool×((Bool×(List (Int)))×(Int×((List (Int))×Int))))))) =>
 aJy (decide (p25.2.2.2.2.1 > (0:Int))) fun v26 =>
 bif v26 then (aBJ (fun (p27:(List ((Bool×(List (Int))))×(Int×(Bool×((Bool×(List (Int)))×(Int×((List (Int))×Int))))))) =>
 aJy (IntKind.i64.wrap (p27.2.2.2.2.1 - (1:Int))) fun v29 =>
 tN (p27.1,p27.2.1,p27.2.2.1,p27.2.2.2.1,v29,p27.2.2.2.2.2)) fun j28 =>
 (n18 N p25.2.2.2.2.2).bind fun v30 =>
 bif (!p25.2.2.1) then ((aH3 8 p25.2.2.2.1.2 ([v30.1]:List (Int))).bind fun v31 =>
 j28 (p25.1,p25.2.1,p25.2.2.1,(p25.2.2.2.1.1,v31),p25.2.2.2.2.1,v30.2)) else (aBJ (fun (p32:(List ((Bool×(List (Int))))×(Int×(Bool×((Bool×(List (Int)))×(Int×(Int×(Int×((List (Int))×Int))))))))) =>
 aJy (p32.2.2.2.2.2.2.1==(aJO p32.2.2.2.1.2)) fun v34 =>
 (bif (!v34) then (aEU p32.2.2.2.1.2 p32.2.2.2.2.2.2.1) else some (0:Int)).bind fun v35 =>
 aJy (bif v34 then true else (v35 != p32.2.2.2.2.2.1)) fun v36 =>
 aBJ (fun (p37:(List ((Bool×(List (Int))))×(Int×(Bool×((Bool×(List (Int)))×(Int×((List (Int))×Int))))))) =>
 j28 (p37.1,p37.2.1,p37.2.2.1,p37.2.2.2.1,p37.2.2.2.2.1,p37.2.2.2.2.2)) fun j38 =>
 bif v36 then ((aEV p32.2.2.2.1.2 p32.2.2.2.2.2.2.1).bind fun v39 =>
 (aH3 8 ([]:List (Int)) v39).bind fun v40 =>
 aJy ([p32.2.2.2.2.2.1]:List (Int)) fun v41 =>
 (aH3 8 v40 v41).bind fun v42 =>
 (aEW p32.2.2.2.1.2 p32.2.2.2.2.2.2.1).bind fun v43 =>
 (aH3 8 v42 v43).bind fun v44 =>
 j38 (p32.1,p32.2.1,p32.2.2.1,(p32.2.2.2.1.1,v44),p32.2.2.2.2.1,p32.2.2.2.2.2.2.2)) else (j38 (p32.1,p32.2.1,p32.2.2.1,p32.2.2.2.1,p32.2.2.2.2.1,p32.2.2.2.2.2.2.2))) fun j33 =>
 eG N (fun (p45:(List ((Bool×(List (Int))))×(Int×(Bool×((Bool×(List (Int)))×(Int×(Int×(Int×((List (Int))×Int))))))))) =>
 aJy (decide (p45.2.2.2.2.2.2.1 < (aJO p45.2.2.2.1.2))) fun v46 =>
 (bif v46 then (aEU p45.2.2.2.1.2 p45.2.2.2.2.2.2.1) else some (0:Int)).bind fun v47 =>
 aJy (decide (v47 < p45.2.2.2.2.2.1)) fun v48 =>
 aJy (bif v46 then v48 else false) fun v49 =>
 bif v49 then (aJy (IntKind.i64.wrap (p45.2.2.2.2.2.2.1+(1:Int))) fun v50 =>
 tN (p45.1,p45.2.1,p45.2.2.1,p45.2.2.2.1,p45.2.2.2.2.1,p45.2.2.2.2.2.1,v50,p45.2.2.2.2.2.2.2)) else (lJ (j33 (p45.1,p45.2.1,p45.2.2.1,p45.2.2.2.1,p45.2.2.2.2.1,p45.2.2.2.2.2.1,p45.2.2.2.2.2.2.1,p45.2.2.2.2.2.2.2)))) (p25.1,p25.2.1,p25.2.2.1,p25.2.2.2.1,p25.2.2.2.2.1,v30.1,(0:Int),v30.2))) else (lJ (j17 (p25.1,p25.2.1,p25.2.2.2.1,p25.2.2.2.2.2)))) (p3.1,p3.2.1,v13,(v13,([]:List (Int))),v15,v14.2)) else (lJ (j2 (p3.1,p3.2.2)))) (([]:List ((Bool×(List (Int))))),v0.1,v0.2):=by kernel_rfl
theorem e8 (N:Nat) (a0:List ((Bool×(List (Int))))):n8 (N+1) a0 =
 (n19 N a0).bind fun v0 =>
 bif (!v0) then (some ([]:List UInt8)) else (aBJ (fun (p1:List (List UInt8)) =>
 (n21 N (p1,([32]:List UInt8))).bind fun v3 =>
 some v3) fun j2 =>
 eG N (fun (p4:(List (List UInt8)×(List ((Bool×(List (Int))))×(Int×Int)))) =>
 aJy (decide (p4.2.2.2 < p4.2.2.1)) fun v5 =>
 bif v5 then (aBJ (fun (p6:(List (List UInt8)×(List ((Bool×(List (Int))))×(Int×Int)))) =>
 aJy (IntKind.i64.wrap (p6.2.2.2+(1:Int))) fun v8 =>
 tN (p6.1,p6.2.1,p6.2.2.1,v8)) fun j7 =>
 (aEU p4.2.1 p4.2.2.2).bind fun v9 =>
 aBJ (fun (p10:(List (List UInt8)×(List ((Bool×(List (Int))))×(Int×Int)))) =>
 j7 (p10.1,p10.2.1,p10.2.2.1,p10.2.2.2)) fun j11 =>
 bif v9.1 then ((n20 N (v9.2,([44]:List UInt8))).bind fun v12 =>
 (aJt ([123]:List UInt8) v12).bind fun v13 =>
 (aJt v13 ([125]:List UInt8)).bind fun v14 =>
 (aH3 16 p4.1 ([v14]:List (List UInt8))).bind fun v15 =>
 j11 (v15,p4.2.1,p4.2.2.1,p4.2.2.2)) else ((n20 N (v9.2,([32]:List UInt8))).bind fun v16 =>
 (aH3 16 p4.1 ([v16]:List (List UInt8))).bind fun v17 =>
 j11 (v17,p4.2.1,p4.2.2.1,p4.2.2.2))) else (lJ (j2 p4.1))) (([]:List (List UInt8)),a0,(aJO a0),(0:Int))):=by kernel_rfl
theorem e9 (N:Nat) (a0:List ((Bool×(List (Int))))):n9 (N+1) a0 =
 (n22 N a0).bind fun v0 =>
 bif (!v0) then (some ([]:List UInt8)) else (aBJ (fun (p1:List (List UInt8)) =>
 (n21 N (p1,([32]:List UInt8))).bind fun v3 =>
 some v3) fun j2 =>
 eG N (fun (p4:(List (List UInt8)×(List ((Bool×(List (Int))))×(Int×Int)))) =>
 aJy (decide (p4.2.2.2 < p4.2.2.1)) fun v5 =>
 bif v5 then (aBJ (fun (p6:(List (List UInt8)×(List ((Bool×(List (Int))))×(Int×Int)))) =>
 aJy (IntKind.i64.wrap (p6.2.2.2+(1:Int))) fun v8 =>
 tN (p6.1,p6.2.1,p6.2.2.1,v8)) fun j7 =>
 (aEU p4.2.1 p4.2.2.2).bind fun v9 =>
 aBJ (fun (p10:(List (List UInt8)×(List ((Bool×(List (Int))))×(Int×Int)))) =>
 j7 (p10.1,p10.2.1,p10.2.2.1,p10.2.2.2)) fun j11 =>
 bif v9.1 then ((n23 N (v9.2,([44]:List UInt8))).bind fun v12 =>
 (aJt ([123]:List UInt8) v12).bind fun v13 =>
 (aJt v13 ([125]:List UInt8)).bind fun v14 =>
 (aH3 16 p4.1 ([v14]:List (List UInt8))).bind fun v15 =>
 j11 (v15,p4.2.1,p4.2.2.1,p4.2.2.2)) else ((n23 N (v9.2,([32]:List UInt8))).bind fun v16 =>
 (aH3 16 p4.1 ([v16]:List (List UInt8))).bind fun v17 =>
 j11 (v17,p4.2.1,p4.2.2.1,p4.2.2.2))) else (lJ (j2 p4.1))) (([]:List (List UInt8)),a0,(aJO a0),(0:Int))):=by kernel_rfl
theorem e10 (N:Nat) (a0:List (Int)) (a1:Int) (a2:Int):n10 (N+1) (a0,a1,a2) =
 (aH3 1 ([]:List (Int)) a0).bind fun v0 =>
 bif ((aJO v0)==(0:Int)) then (aJy ([(IntKind.u8.wrap a2)]:List (Int)) fun v1 =>
 some v1) else ((n24 N (a1,(aJO v0))).bind fun v2 =>
 aJy (IntKind.i64.wrap (Int.tdiv a2 (256:Int))) fun v3 =>
 (n24 N (v3,(4:Int))).bind fun v4 =>
 bif (v4==(0:Int)) then ((aEU v0 v2).bind fun v5 =>
 aJy (v0.set v2.toNat (IntKind.u8.wrap a2)) fun v6 =>
 some v6) else (bif (v4==(1:Int)) then ((aEV v0 v2).bind fun v7 =>
 aJy (IntKind.i64.wrap (v2+(1:Int))) fun v8 =>
 (aEW v0 v8).bind fun v9 =>
 (aH3 1 v7 v9).bind fun v10 =>
 some v10) else (bif (v4==(2:Int)) then ((aEV v0 v2).bind fun v11 =>
 (aH3 1 ([]:List (Int)) v11).bind fun v12 =>
 aJy ([(IntKind.u8.wrap a2)]:List (Int)) fun v13 =>
 (aH3 1 v12 v13).bind fun v14 =>
 (aEW v0 v2).bind fun v15 =>
 (aH3 1 v14 v15).bind fun v16 =>
 some v16) else ((aEV v0 v2).bind fun v17 =>
 some v17)))):=by kernel_rfl
theorem e13 (N:Nat) (a0:List ((Bool×(List (Int))))) (a1:List ((Bool×(List (Int))))):n13 (N+1) (a0,a1) =
 bif ((aJO a0) != (aJO a1)) then (some false) else (aBJ (fun (p0:Unit) =>
 some true) fun j1 =>
 eG N (fun (p2:(List ((Bool×(List (Int))))×(List ((Bool×(List (Int))))×(Int×Int)))) =>
 aJy (decide (p2.2.2.2 < p2.2.2.1)) fun v3 =>
 bif v3 then (aBJ (fun (p4:(List ((Bool×(List (Int))))×(List ((Bool×(List (Int))))×(Int×Int)))) =>
 aJy (IntKind.i64.wrap (p4.2.2.2+(1:Int))) fun v6 =>
 tN (p4.1,p4.2.1,p4.2.2.1,v6)) fun j5 =>
 (aEU p2.2.1 p2.2.2.2).bind fun v7 =>
 (aEU p2.1 p2.2.2.2).bind fun v8 =>
 (bif (!(true != (v7.1==v8.1))) then (aEU p2.1 p2.2.2.2) else some (false,([]:List (Int)))).bind fun v9 =>
 aJy (bif (true != (v7.1==v8.1)) then true else ((aJO v7.2) != (aJO v9.2))) fun v10 =>
 bif v10 then (lJ (some false)) else (aBJ (fun (p11:(List ((Bool×(List (Int))))×(List ((Bool×(List (Int))))×(Int×Int)))) =>
 j5 (p11.1,p11.2.1,p11.2.2.1,p11.2.2.2)) fun j12 =>
 eG N (fun (p13:(List ((Bool×(List (Int))))×(Int×(List ((Bool×(List (Int))))×(Int×(Int×(List (Int)×(Int×Int)))))))) =>
 aJy (decide (p13.2.2.2.2.2.2.2 < p13.2.2.2.2.2.2.1)) fun v14 =>
 bif v14 then ((aEU p13.2.2.2.2.2.1 p13.2.2.2.2.2.2.2).bind fun v15 =>
 (aEU p13.1 p13.2.1).bind fun v16 =>
 (aEU v16.2 p13.2.2.2.2.2.2.2).bind fun v17 =>
 bif (v17 != v15) then (lJ (lJ (some false))) else (aJy (IntKind.i64.wrap (p13.2.2.2.2.2.2.2+(1:Int))) fun v18 =>
 tN (p13.1,p13.2.1,p13.2.2.1,p13.2.2.2.1,p13.2.2.2.2.1,p13.2.2.2.2.2.1,p13.2.2.2.2.2.2.1,v18))) else (lJ (j12 (p13.1,p13.2.2.1,p13.2.2.2.1,p13.2.2.2.2.1)))) (p2.1,p2.2.2.2,p2.2.1,p2.2.2.1,p2.2.2.2,v7.2,(aJO v7.2),(0:Int)))) else (lJ (j1 ()))) (a1,a0,(aJO a0),(0:Int))):=by kernel_rfl
theorem e14 (N:Nat) (a0:List ((Bool×(List (Int))))):n14 (N+1) a0 =
 (bif (!((aJO a0)==(0:Int))) then (n22 N a0) else some false).bind fun v0 =>
 aJy (bif ((aJO a0)==(0:Int)) then true else (!v0)) fun v1 =>
 (bif (!v1) then (aEU a0 (0:Int)) else some (false,([]:List (Int)))).bind fun v2 =>
 bif (bif v1 then true else v2.1) then (some ((0:Int),false)) else ((aEU a0 (0:Int)).bind fun v3 =>
 (aEU v3.2 (0:Int)).bind fun v4 =>
 some (v4,true)):=by kernel_rfl
theorem e15 (N:Nat) (a0:List ((Bool×(List (Int))))):n15 (N+1) a0 =
 (bif (!((aJO a0)==(0:Int))) then (n22 N a0) else some false).bind fun v0 =>
 aJy (bif ((aJO a0)==(0:Int)) then true else (!v0)) fun v1 =>
 aJy (IntKind.i64.wrap ((aJO a0) - (1:Int))) fun v2 =>
 (bif (!v1) then (aEU a0 v2) else some (false,([]:List (Int)))).bind fun v3 =>
 bif (bif v1 then true else v3.1) then (some ((0:Int),false)) else (aJy (IntKind.i64.wrap ((aJO a0) - (1:Int))) fun v4 =>
 (aEU a0 v4).bind fun v5 =>
 aJy (IntKind.i64.wrap ((aJO v5.2) - (1:Int))) fun v6 =>
 (aEU v5.2 v6).bind fun v7 =>
 some (v7,true)):=by kernel_rfl
theorem e16 (N:Nat) (a0:List ((Bool×(List (Int))))):n16 (N+1) a0 =
 aBJ (fun (p0:Int) =>
 some p0) fun j1 =>
 eG N (fun (p2:(Int×(List ((Bool×(List (Int))))×(Int×Int)))) =>
 aJy (decide (p2.2.2.2 < p2.2.2.1)) fun v3 =>
 bif v3 then (aBJ (fun (p4:(Int×(List ((Bool×(List (Int))))×(Int×Int)))) =>
 aJy (IntKind.i64.wrap (p4.2.2.2+(1:Int))) fun v6 =>
 tN (p4.1,p4.2.1,p4.2.2.1,v6)) fun j5 =>
 (aEU p2.2.1 p2.2.2.2).bind fun v7 =>
 aBJ (fun (p8:(Int×(List ((Bool×(List (Int))))×(Int×Int)))) =>
 j5 (p8.1,p8.2.1,p8.2.2.1,p8.2.2.2)) fun j9 =>
 bif v7.1 then (aJy (IntKind.i64.wrap (p2.1+(1:Int))) fun v10 =>
 j9 (v10,p2.2.1,p2.2.2.1,p2.2.2.2)) else (aJy (IntKind.i64.wrap (p2.1+(aJO v7.2))) fun v11 =>
 j9 (v11,p2.2.1,p2.2.2.1,p2.2.2.2))) else (lJ (j1 p2.1))) ((0:Int),a0,(aJO a0),(0:Int)):=by kernel_rfl
theorem e17 (N:Nat) (a0:((List (Int))×Int)) (a1:Int):n17 (N+1) (a0,a1) =
 aJy (decide (a0.2≥(aJO a0.1))) fun v0 =>
 bif v0 then (some ((0:Int),a0)) else (aJy (IntKind.i64.wrap (a0.2+(1:Int))) fun v1 =>
 aJy (IntKind.i64.wrap (v1 - (1:Int))) fun v2 =>
 (aEU a0.1 v2).bind fun v3 =>
 (n24 N (v3,a1)).bind fun v4 =>
 some (v4,a0.1,v1)):=by kernel_rfl
theorem e18 (N:Nat) (a0:((List (Int))×Int)):n18 (N+1) a0 =
 (n17 N (a0,(9:Int))).bind fun v0 =>
 aJy (IntKind.i64.wrap ((1:Int)+v0.1)) fun v1 =>
 (n17 N (v0.2,(3:Int))).bind fun v2 =>
 aJy (IntKind.i64.wrap ((64512:Int)+v2.1)) fun v3 =>
 aJy ([(1:Int),(7:Int),(3:Int),(65001:Int),(4294967295:Int),v1,v3]:List (Int)) fun v4 =>
 (n17 N (v2.2,(7:Int))).bind fun v5 =>
 (aEU v4 v5.1).bind fun v6 =>
 some (v6,v5.2):=by kernel_rfl
theorem e19 (N:Nat) (a0:List ((Bool×(List (Int))))):n19 (N+1) a0 =
 aBJ (fun (p0:Int) =>
 some (decide (p0≤(64:Int)))) fun j1 =>
 eG N (fun (p2:(List ((Bool×(List (Int))))×(Int×(List ((Bool×(List (Int))))×(Int×Int))))) =>
 aJy (decide (p2.2.2.2.2 < p2.2.2.2.1)) fun v3 =>
 bif v3 then (aBJ (fun (p4:(List ((Bool×(List (Int))))×(Int×(List ((Bool×(List (Int))))×(Int×Int))))) =>
 aJy (IntKind.i64.wrap (p4.2.2.2.2+(1:Int))) fun v6 =>
 tN (p4.1,p4.2.1,p4.2.2.1,p4.2.2.2.1,v6)) fun j5 =>
 (aEU p2.2.2.1 p2.2.2.2.2).bind fun v7 =>
 aJy (decide (p2.2.2.2.2 > (0:Int))) fun v8 =>
 aJy (bif v8 then (!v7.1) else false) fun v9 =>
 aJy (IntKind.i64.wrap (p2.2.2.2.2 - (1:Int))) fun v10 =>
 (bif (v9&&(!((aJO v7.2)==(0:Int)))) then (aEU p2.1 v10) else some (false,([]:List (Int)))).bind fun v11 =>
 aJy (bif v9 then (!v11.1) else false) fun v12 =>
 aJy (bif ((aJO v7.2)==(0:Int)) then true else v12) fun v13 =>
 bif v13 then (lJ (some false)) else (aBJ (fun (p14:(List ((Bool×(List (Int))))×(Int×((Bool×(List (Int)))×(List ((Bool×(List (Int))))×(Int×Int)))))) =>
 aJy (IntKind.i64.wrap (p14.2.1+(aJO p14.2.2.1.2))) fun v16 =>
 j5 (p14.1,v16,p14.2.2.2.1,p14.2.2.2.2.1,p14.2.2.2.2.2)) fun j15 =>
 eG N (fun (p17:(List ((Bool×(List (Int))))×(Int×((Bool×(List (Int)))×(List ((Bool×(List (Int))))×(Int×(Int×(List (Int)×(Int×Int))))))))) =>
 aJy (decide (p17.2.2.2.2.2.2.2.2 < p17.2.2.2.2.2.2.2.1)) fun v18 =>
 bif v18 then ((aEU p17.2.2.2.2.2.2.1 p17.2.2.2.2.2.2.2.2).bind fun v19 =>
 aJy (decide (v19 > (4294967295:Int))) fun v20 =>
 aJy (bif (decide (v19 < (1:Int))) then true else v20) fun v21 =>
 aJy (decide (p17.2.2.2.2.2.2.2.2 > (0:Int))) fun v22 =>
 aJy (bif p17.2.2.1.1 then v22 else false) fun v23 =>
 aJy (IntKind.i64.wrap (p17.2.2.2.2.2.2.2.2 - (1:Int))) fun v24 =>
 (bif (v23&&(!v21)) then (aEU p17.2.2.1.2 v24) else some (0:Int)).bind fun v25 =>
 aJy (bif v23 then (decide (v25≥v19)) else false) fun v26 =>
 bif (bif v21 then true else v26) then (lJ (lJ (some false))) else (aJy (IntKind.i64.wrap (p17.2.2.2.2.2.2.2.2+(1:Int))) fun v27 =>
 tN (p17.1,p17.2.1,p17.2.2.1,p17.2.2.2.1,p17.2.2.2.2.1,p17.2.2.2.2.2.1,p17.2.2.2.2.2.2.1,p17.2.2.2.2.2.2.2.1,v27))) else (lJ (j15 (p17.1,p17.2.1,p17.2.2.1,p17.2.2.2.1,p17.2.2.2.2.1,p17.2.2.2.2.2.1)))) (p2.1,p2.2.1,v7,p2.2.2.1,p2.2.2.2.1,p2.2.2.2.2,v7.2,(aJO v7.2),(0:Int)))) else (lJ (j1 p2.2.1))) (a0,(0:Int),a0,(aJO a0),(0:Int)):=by kernel_rfl
theorem e20 (N:Nat) (a0:List (Int)) (a1:List UInt8):n20 (N+1) (a0,a1) =
 aBJ (fun (p0:(List UInt8×List (List UInt8))) =>
 (n21 N (p0.2,p0.1)).bind fun v2 =>
 some v2) fun j1 =>
 eG N (fun (p3:(List UInt8×(List (List UInt8)×(List (Int)×(Int×Int))))) =>
 aJy (decide (p3.2.2.2.2 < p3.2.2.2.1)) fun v4 =>
 bif v4 then ((aEU p3.2.2.1 p3.2.2.2.2).bind fun v5 =>
 (n31 N v5).bind fun v6 =>
 (aH3 16 p3.2.1 ([v6]:List (List UInt8))).bind fun v7 =>
 aJy (IntKind.i64.wrap (p3.2.2.2.2+(1:Int))) fun v8 =>
 tN (p3.1,v7,p3.2.2.1,p3.2.2.2.1,v8)) else (lJ (j1 (p3.1,p3.2.1)))) (a1,([]:List (List UInt8)),a0,(aJO a0),(0:Int)):=by kernel_rfl
theorem e22 (N:Nat) (a0:List ((Bool×(List (Int))))):n22 (N+1) a0 =
 aBJ (fun (p0:Int) =>
 some (decide (p0≤(64:Int)))) fun j1 =>
 eG N (fun (p2:(List ((Bool×(List (Int))))×(Int×(List ((Bool×(List (Int))))×(Int×Int))))) =>
 aJy (decide (p2.2.2.2.2 < p2.2.2.2.1)) fun v3 =>
 bif v3 then (aBJ (fun (p4:(List ((Bool×(List (Int))))×(Int×(List ((Bool×(List (Int))))×(Int×Int))))) =>
 aJy (IntKind.i64.wrap (p4.2.2.2.2+(1:Int))) fun v6 =>
 tN (p4.1,p4.2.1,p4.2.2.1,p4.2.2.2.1,v6)) fun j5 =>
 (aEU p2.2.2.1 p2.2.2.2.2).bind fun v7 =>
 aJy (decide (p2.2.2.2.2 > (0:Int))) fun v8 =>
 aJy (bif v8 then (!v7.1) else false) fun v9 =>
 aJy (IntKind.i64.wrap (p2.2.2.2.2 - (1:Int))) fun v10 =>
 (bif (v9&&(!((aJO v7.2)==(0:Int)))) then (aEU p2.1 v10) else some (false,([]:List (Int)))).bind fun v11 =>
 aJy (bif v9 then (!v11.1) else false) fun v12 =>
 aJy (bif ((aJO v7.2)==(0:Int)) then true else v12) fun v13 =>
 bif v13 then (lJ (some false)) else (aBJ (fun (p14:(List ((Bool×(List (Int))))×(Int×((Bool×(List (Int)))×(List ((Bool×(List (Int))))×(Int×Int)))))) =>
 aJy (IntKind.i64.wrap (p14.2.1+(aJO p14.2.2.1.2))) fun v16 =>
 j5 (p14.1,v16,p14.2.2.2.1,p14.2.2.2.2.1,p14.2.2.2.2.2)) fun j15 =>
 eG N (fun (p17:(List ((Bool×(List (Int))))×(Int×((Bool×(List (Int)))×(List ((Bool×(List (Int))))×(Int×(Int×(List (Int)×(Int×Int))))))))) =>
 aJy (decide (p17.2.2.2.2.2.2.2.2 < p17.2.2.2.2.2.2.2.1)) fun v18 =>
 bif v18 then ((aEU p17.2.2.2.2.2.2.1 p17.2.2.2.2.2.2.2.2).bind fun v19 =>
 (n35 N v19).bind fun v20 =>
 aJy (decide (p17.2.2.2.2.2.2.2.2 > (0:Int))) fun v21 =>
 aJy (bif p17.2.2.1.1 then v21 else false) fun v22 =>
 aJy (IntKind.i64.wrap (p17.2.2.2.2.2.2.2.2 - (1:Int))) fun v23 =>
 (bif (v22&&(!(!v20))) then (aEU p17.2.2.1.2 v23) else some (0:Int)).bind fun v24 =>
 aJy (bif v22 then (decide (v24≥v19)) else false) fun v25 =>
 aJy (bif (!v20) then true else v25) fun v26 =>
 bif v26 then (lJ (lJ (some false))) else (aJy (IntKind.i64.wrap (p17.2.2.2.2.2.2.2.2+(1:Int))) fun v27 =>
 tN (p17.1,p17.2.1,p17.2.2.1,p17.2.2.2.1,p17.2.2.2.2.1,p17.2.2.2.2.2.1,p17.2.2.2.2.2.2.1,p17.2.2.2.2.2.2.2.1,v27))) else (lJ (j15 (p17.1,p17.2.1,p17.2.2.1,p17.2.2.2.1,p17.2.2.2.2.1,p17.2.2.2.2.2.1)))) (p2.1,p2.2.1,v7,p2.2.2.1,p2.2.2.2.1,p2.2.2.2.2,v7.2,(aJO v7.2),(0:Int)))) else (lJ (j1 p2.2.1))) (a0,(0:Int),a0,(aJO a0),(0:Int)):=by kernel_rfl
theorem e23 (N:Nat) (a0:List (Int)) (a1:List UInt8):n23 (N+1) (a0,a1) =
 aBJ (fun (p0:(List UInt8×List (List UInt8))) =>
 (n21 N (p0.2,p0.1)).bind fun v2 =>
 some v2) fun j1 =>
 eG N (fun (p3:(List UInt8×(List (List UInt8)×(List (Int)×(Int×Int))))) =>
 aJy (decide (p3.2.2.2.2 < p3.2.2.2.1)) fun v4 =>
 bif v4 then ((aEU p3.2.2.1 p3.2.2.2.2).bind fun v5 =>
 (n31 N v5).bind fun v6 =>
 (aH3 16 p3.2.1 ([v6]:List (List UInt8))).bind fun v7 =>
 aJy (IntKind.i64.wrap (p3.2.2.2.2+(1:Int))) fun v8 =>
 tN (p3.1,v7,p3.2.2.1,p3.2.2.2.1,v8)) else (lJ (j1 (p3.1,p3.2.1)))) (a1,([]:List (List UInt8)),a0,(aJO a0),(0:Int)):=by kernel_rfl
theorem e24 (N:Nat) (a0:Int) (a1:Int):n24 (N+1) (a0,a1) =
 (if a1=0 then none else some (Int.tmod a0 a1)).bind fun v0 =>
 aBJ (fun (p1:Int) =>
 some p1) fun j2 =>
 bif (decide (v0 < (0:Int))) then (j2 (IntKind.i64.wrap (v0+a1))) else (j2 v0):=by kernel_rfl
theorem e35 (N:Nat) (a0:Int):n35 (N+1) a0 =
 aJy (decide (a0≤(4294967295:Int))) fun v0 =>
 aJy (bif (decide (a0≥(1:Int))) then v0 else false) fun v1 =>
 some v1:=by kernel_rfl
end Go.Proofs.YtajoneenakjifaaGreatDoor
