/- The functions as they are read. -/
import Derived.Test.YtajoneenakjifaaDoorZN
namespace Go.Proofs.YtajoneenakjifaaDoor.Z
open Go.VM
set_option maxRecDepth 100000
theorem e11 (N:Nat) (a0:List ((Bool×(List (Int))))):n11 (N+1) a0 =
 (n17 N a0).bind fun v0 =>
 bif (!v0) then (some ([]:List UInt8)) else (aBJ (fun (p1:List (List UInt8)) =>
 (n38 N (p1,([32]:List UInt8))).bind fun v3 =>
 some v3) fun j2 =>
 eG N (fun (p4:(List (List UInt8)×(List ((Bool×(List (Int))))×(Int×Int)))) =>
 aJy (decide (p4.2.2.2 < p4.2.2.1)) fun v5 =>
 bif v5 then (aBJ (fun (p6:(List (List UInt8)×(List ((Bool×(List (Int))))×(Int×Int)))) =>
 aJy (IntKind.i64.wrap (p6.2.2.2+(1:Int))) fun v8 =>
 tN (p6.1,p6.2.1,p6.2.2.1,v8)) fun j7 =>
 (aEU p4.2.1 p4.2.2.2).bind fun v9 =>
 aBJ (fun (p10:(List (List UInt8)×(List ((Bool×(List (Int))))×(Int×Int)))) =>
 j7 (p10.1,p10.2.1,p10.2.2.1,p10.2.2.2)) fun j11 =>
 bif v9.1 then ((n37 N (v9.2,([44]:List UInt8))).bind fun v12 =>
 (aJt ([123]:List UInt8) v12).bind fun v13 =>
 (aJt v13 ([125]:List UInt8)).bind fun v14 =>
 (aH3 16 p4.1 ([v14]:List (List UInt8))).bind fun v15 =>
 j11 (v15,p4.2.1,p4.2.2.1,p4.2.2.2)) else ((n37 N (v9.2,([32]:List UInt8))).bind fun v16 =>
 (aH3 16 p4.1 ([v16]:List (List UInt8))).bind fun v17 =>
 j11 (v17,p4.2.1,p4.2.2.1,p4.2.2.2))) else (lJ (j2 p4.1))) (([]:List (List UInt8)),a0,(aJO a0),(0:Int))):=by kernel_rfl
theorem e14 (N:Nat) (a0:List ((Bool×(List (Int))))):n14 (N+1) a0 =
 aBJ (fun (p0:List (Int)) =>
 some p0) fun j1 =>
 eG N (fun (p2:(List (Int)×(List ((Bool×(List (Int))))×(Int×Int)))) =>
 aJy (decide (p2.2.2.2 < p2.2.2.1)) fun v3 =>
 bif v3 then ((aEU p2.2.1 p2.2.2.2).bind fun v4 =>
 (aH3 8 p2.1 v4.2).bind fun v5 =>
 aJy (IntKind.i64.wrap (p2.2.2.2+(1:Int))) fun v6 =>
 tN (v5,p2.2.1,p2.2.2.1,v6)) else (lJ (j1 p2.1))) (([]:List (Int)),a0,(aJO a0),(0:Int)):=by kernel_rfl
theorem e17 (N:Nat) (a0:List ((Bool×(List (Int))))):n17 (N+1) a0 =
 aBJ (fun (p0:Int) =>
 some (decide (p0≤(64:Int)))) fun j1 =>
 eG N (fun (p2:(List ((Bool×(List (Int))))×(Int×(List ((Bool×(List (Int))))×(Int×Int))))) =>
 aJy (decide (p2.2.2.2.2 < p2.2.2.2.1)) fun v3 =>
 bif v3 then (aBJ (fun (p4:(List ((Bool×(List (Int))))×(Int×(List ((Bool×(List (Int))))×(Int×Int))))) =>
 aJy (IntKind.i64.wrap (p4.2.2.2.2+(1:Int))) fun v6 =>
 tN (p4.1,p4.2.1,p4.2.2.1,p4.2.2.2.1,v6)) fun j5 =>
 (aEU p2.2.2.1 p2.2.2.2.2).bind fun v7 =>
 aJy (decide (p2.2.2.2.2 > (0:Int))) fun v8 =>
 aJy (bif v8 then (!v7.1) else false) fun v9 =>
 aJy (IntKind.i64.wrap (p2.2.2.2.2 - (1:Int))) fun v10 =>
 (bif (v9&&(!((aJO v7.2)==(0:Int)))) then (aEU p2.1 v10) else some (false,([]:List (Int)))).bind fun v11 =>
 aJy (bif v9 then (!v11.1) else false) fun v12 =>
 aJy (bif ((aJO v7.2)==(0:Int)) then true else v12) fun v13 =>
 bif v13 then (lJ (some false)) else (aBJ (fun (p14:(List ((Bool×(List (Int))))×(Int×((Bool×(List (Int)))×(List ((Bool×(List (Int))))×(Int×Int)))))) =>
 aJy (IntKind.i64.wrap (p14.2.1+(aJO p14.2.2.1.2))) fun v16 =>
 j5 (p14.1,v16,p14.2.2.2.1,p14.2.2.2.2.1,p14.2.2.2.2.2)) fun j15 =>
 eG N (fun (p17:(List ((Bool×(List (Int))))×(Int×((Bool×(List (Int)))×(List ((Bool×(List (Int))))×(Int×(Int×(List (Int)×(Int×Int))))))))) =>
 aJy (decide (p17.2.2.2.2.2.2.2.2 < p17.2.2.2.2.2.2.2.1)) fun v18 =>
 bif v18 then ((aEU p17.2.2.2.2.2.2.1 p17.2.2.2.2.2.2.2.2).bind fun v19 =>
 (n40 N v19).bind fun v20 =>
 aJy (decide (p17.2.2.2.2.2.2.2.2 > (0:Int))) fun v21 =>
 aJy (bif p17.2.2.1.1 then v21 else false) fun v22 =>
 aJy (IntKind.i64.wrap (p17.2.2.2.2.2.2.2.2 - (1:Int))) fun v23 =>
 (bif (v22&&(!(!v20))) then (aEU p17.2.2.1.2 v23) else some (0:Int)).bind fun v24 =>
 aJy (bif v22 then (decide (v24≥v19)) else false) fun v25 =>
 aJy (bif (!v20) then true else v25) fun v26 =>
 bif v26 then (lJ (lJ (some false))) else (aJy (IntKind.i64.wrap (p17.2.2.2.2.2.2.2.2+(1:Int))) fun v27 =>
 tN (p17.1,p17.2.1,p17.2.2.1,p17.2.2.2.1,p17.2.2.2.2.1,p17.2.2.2.2.2.1,p17.2.2.2.2.2.2.1,p17.2.2.2.2.2.2.2.1,v27))) else (lJ (j15 (p17.1,p17.2.1,p17.2.2.1,p17.2.2.2.1,p17.2.2.2.2.1,p17.2.2.2.2.2.1)))) (p2.1,p2.2.1,v7,p2.2.2.1,p2.2.2.2.1,p2.2.2.2.2,v7.2,(aJO v7.2),(0:Int)))) else (lJ (j1 p2.2.1))) (a0,(0:Int),a0,(aJO a0),(0:Int)):=by kernel_rfl
theorem e27 (N:Nat) (a0:Int) (a1:Int):n27 (N+1) (a0,a1) =
 (if a1=0 then none else some (Int.tmod a0 a1)).bind fun v0 =>
 aBJ (fun (p1:Int) =>
 some p1) fun j2 =>
 bif (decide (v0 < (0:Int))) then (j2 (IntKind.i64.wrap (v0+a1))) else (j2 v0):=by kernel_rfl
theorem e36 (N:Nat) (a0:List UInt8):n36 (N+1) a0 =
 aJy (decide ((aJO a0) > (2:Int))) fun v0 =>
 (bif v0 then (aKH a0 (0:Int)) else some (0:Int)).bind fun v1 =>
 aJy (bif v0 then (v1==(123:Int)) else false) fun v2 =>
 aJy (IntKind.i64.wrap ((aJO a0) - (1:Int))) fun v3 =>
 (bif v2 then (aKH a0 v3) else some (0:Int)).bind fun v4 =>
 aJy (bif v2 then (v4==(125:Int)) else false) fun v5 =>
 aBJ (fun (p6:(List UInt8×((Bool×(List (Int)))×(Bool×(List (Int)))))) =>
 (n47 N (p6.1,([44]:List UInt8))).bind fun v8 =>
 aBJ (fun (p9:((Bool×(List (Int)))×(Bool×(List (Int))))) =>
 aJy (bif p9.2.1 then true else ((aJO p9.2.2)==(1:Int))) fun v11 =>
 some (p9.2,v11)) fun j10 =>
 eG N (fun (p12:((Bool×(List (Int)))×((Bool×(List (Int)))×(List (List UInt8)×(Int×Int))))) =>
 aJy (decide (p12.2.2.2.2 < p12.2.2.2.1)) fun v13 =>
 bif v13 then ((aEU p12.2.2.1 p12.2.2.2.2).bind fun v14 =>
 (n48 N v14).bind fun v15 =>
 bif (true != !v15.2) then (lJ (some (p12.2.1,false))) else ((aH3 8 p12.2.1.2 ([v15.1]:List (Int))).bind fun v16 =>
 aJy (IntKind.i64.wrap (p12.2.2.2.2+(1:Int))) fun v17 =>
 tN (p12.1,(p12.2.1.1,v16),p12.2.2.1,p12.2.2.2.1,v17))) else (lJ (j10 (p12.1,p12.2.1)))) (p6.2.1,p6.2.2,v8,(aJO v8),(0:Int))) fun j7 =>
 bif v5 then (aJy (IntKind.i64.wrap ((aJO a0) - (1:Int))) fun v18 =>
 (aI9 a0 (1:Int) v18).bind fun v19 =>
 j7 (v19,(false,([]:List (Int))),true,([]:List (Int)))) else (j7 (a0,(false,([]:List (Int))),false,([]:List (Int)))):=by kernel_rfl
theorem e37 (N:Nat) (a0:List (Int)) (a1:List UInt8):n37 (N+1) (a0,a1) =
 aBJ (fun (p0:(List UInt8×List (List UInt8))) =>
 (n38 N (p0.2,p0.1)).bind fun v2 =>
 some v2) fun j1 =>
 eG N (fun (p3:(List UInt8×(List (List UInt8)×(List (Int)×(Int×Int))))) =>
 aJy (decide (p3.2.2.2.2 < p3.2.2.2.1)) fun v4 =>
 bif v4 then ((aEU p3.2.2.1 p3.2.2.2.2).bind fun v5 =>
 (n49 N v5).bind fun v6 =>
 (aH3 16 p3.2.1 ([v6]:List (List UInt8))).bind fun v7 =>
 aJy (IntKind.i64.wrap (p3.2.2.2.2+(1:Int))) fun v8 =>
 tN (p3.1,v7,p3.2.2.1,p3.2.2.2.1,v8)) else (lJ (j1 (p3.1,p3.2.1)))) (a1,([]:List (List UInt8)),a0,(aJO a0),(0:Int)):=by kernel_rfl
theorem e40 (N:Nat) (a0:Int):n40 (N+1) a0 =
 aJy (decide (a0≤(4294967295:Int))) fun v0 =>
 aJy (bif (decide (a0≥(1:Int))) then v0 else false) fun v1 =>
 some v1:=by kernel_rfl
end Go.Proofs.YtajoneenakjifaaDoor.Z
