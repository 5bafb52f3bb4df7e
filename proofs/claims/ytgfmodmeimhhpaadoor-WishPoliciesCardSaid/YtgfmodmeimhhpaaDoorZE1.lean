/- The functions as they are read. -/
import Derived.Test.YtgfmodmeimhhpaaDoorZN
namespace Go.Proofs.YtgfmodmeimhhpaaDoor.Z
open Go.VM
set_option maxRecDepth 100000
theorem e9 (N:Nat) (a0:Int) (a1:Int):n9 (N+1) (a0,a1) =
 (if a1=0 then none else some (Int.tmod a0 a1)).bind fun v0 =>
 aBJ (fun (p1:Int) =>
 some p1) fun j2 =>
 bif (decide (v0 < (0:Int))) then (j2 (IntKind.i64.wrap (v0+a1))) else (j2 v0):=by kernel_rfl
theorem e13 (N:Nat) (a0:((List (Int))×Int)) (a1:Int):n13 (N+1) (a0,a1) =
 aJy (decide (a0.2≥(aJO a0.1))) fun v0 =>
 bif v0 then (some ((0:Int),a0)) else (aJy (IntKind.i64.wrap (a0.2+(1:Int))) fun v1 =>
 aJy (IntKind.i64.wrap (v1 - (1:Int))) fun v2 =>
 (aEU a0.1 v2).bind fun v3 =>
 (n9 N (v3,a1)).bind fun v4 =>
 some (v4,a0.1,v1)):=by kernel_rfl
theorem e38 (N:Nat) (a0:List ((Bool×(List (Int))))):n38 (N+1) a0 =
 aBJ (fun (p0:Int) =>
 some (decide (p0≤(64:Int)))) fun j1 =>
 eG N (fun (p2:(List ((Bool×(List (Int))))×(Int×(List ((Bool×(List (Int))))×(Int×Int))))) =>
 aJy (decide (p2.2.2.2.2 < p2.2.2.2.1)) fun v3 =>
 bif v3 then (aBJ (fun (p4:(List ((Bool×(List (Int))))×(Int×(List ((Bool×(List (Int))))×(Int×Int))))) =>
 aJy (IntKind.i64.wrap (p4.2.2.2.2+(1:Int))) fun v6 =>
 tN (p4.1,p4.2.1,p4.2.2.1,p4.2.2.2.1,v6)) fun j5 =>
 (aEU p2.2.2.1 p2.2.2.2.2).bind fun v7 =>
 aJy (decide (p2.2.2.2.2 > (0:Int))) fun v8 =>
 aJy (bif v8 then (!v7.1) else false) fun v9 =>
 aJy (IntKind.i64.wrap (p2.2.2.2.2 - (1:Int))) fun v10 =>
 (bif (v9&&(!((aJO v7.2)==(0:Int)))) then (aEU p2.1 v10) else some (false,([]:List (Int)))).bind fun v11 =>
 aJy (bif v9 then (!v11.1) else false) fun v12 =>
 aJy (bif ((aJO v7.2)==(0:Int)) then true else v12) fun v13 =>
 bif v13 then (lJ (some false)) else (aBJ (fun (p14:(List ((Bool×(List (Int))))×(Int×((Bool×(List (Int)))×(List ((Bool×(List (Int))))×(Int×Int)))))) =>
 aJy (IntKind.i64.wrap (p14.2.1+(aJO p14.2.2.1.2))) fun v16 =>
 j5 (p14.1,v16,p14.2.2.2.1,p14.2.2.2.2.1,p14.2.2.2.2.2)) fun j15 =>
 eG N (fun (p17:(List ((Bool×(List (Int))))×(Int×((Bool×(List (Int)))×(List ((Bool×(List (Int))))×(Int×(Int×(List (Int)×(Int×Int))))))))) =>
 aJy (decide (p17.2.2.2.2.2.2.2.2 < p17.2.2.2.2.2.2.2.1)) fun v18 =>
 bif v18 then ((aEU p17.2.2.2.2.2.2.1 p17.2.2.2.2.2.2.2.2).bind fun v19 =>
 (n39 N v19).bind fun v20 =>
 aJy (decide (p17.2.2.2.2.2.2.2.2 > (0:Int))) fun v21 =>
 aJy (bif p17.2.2.1.1 then v21 else false) fun v22 =>
 aJy (IntKind.i64.wrap (p17.2.2.2.2.2.2.2.2 - (1:Int))) fun v23 =>
 (bif (v22&&(!(!v20))) then (aEU p17.2.2.1.2 v23) else some (0:Int)).bind fun v24 =>
 aJy (bif v22 then (decide (v24≥v19)) else false) fun v25 =>
 aJy (bif (!v20) then true else v25) fun v26 =>
 bif v26 then (lJ (lJ (some false))) else (aJy (IntKind.i64.wrap (p17.2.2.2.2.2.2.2.2+(1:Int))) fun v27 =>
 tN (p17.1,p17.2.1,p17.2.2.1,p17.2.2.2.1,p17.2.2.2.2.1,p17.2.2.2.2.2.1,p17.2.2.2.2.2.2.1,p17.2.2.2.2.2.2.2.1,v27))) else (lJ (j15 (p17.1,p17.2.1,p17.2.2.1,p17.2.2.2.1,p17.2.2.2.2.1,p17.2.2.2.2.2.1)))) (p2.1,p2.2.1,v7,p2.2.2.1,p2.2.2.2.1,p2.2.2.2.2,v7.2,(aJO v7.2),(0:Int)))) else (lJ (j1 p2.2.1))) (a0,(0:Int),a0,(aJO a0),(0:Int)):=by kernel_rfl
theorem e39 (N:Nat) (a0:Int):n39 (N+1) a0 =
 aJy (decide (a0≤(4294967295:Int))) fun v0 =>
 aJy (bif (decide (a0≥(1:Int))) then v0 else false) fun v1 =>
 some v1:=by kernel_rfl
theorem e48 (N:Nat) (a0:List ((Bool×(List (Int))))):n48 (N+1) a0 =
 aBJ (fun (p0:List (Int)) =>
 some p0) fun j1 =>
 eG N (fun (p2:(List (Int)×(List ((Bool×(List (Int))))×(Int×Int)))) =>
 aJy (decide (p2.2.2.2 < p2.2.2.1)) fun v3 =>
 bif v3 then ((aEU p2.2.1 p2.2.2.2).bind fun v4 =>
 (aH3 8 p2.1 v4.2).bind fun v5 =>
 aJy (IntKind.i64.wrap (p2.2.2.2+(1:Int))) fun v6 =>
 tN (v5,p2.2.1,p2.2.2.1,v6)) else (lJ (j1 p2.1))) (([]:List (Int)),a0,(aJO a0),(0:Int)):=by kernel_rfl
theorem e52 (N:Nat) (a0:(Int×(List ((Bool×(List (Int)))))×(Bool×Int×Int)×Int×Int×Int×(List ((Int×Int)))×(List ((Int×Int×Int)))×(List ((Int×Int×(List (Int))))))):n52 (N+1) a0 =
 aJy ([]:List ((Bool×(List (Int))))) fun v0 =>
 aJy ([]:List ((Int×Int×(List (Int))))) fun v1 =>
 aBJ (fun (p2:((Int×(List ((Bool×(List (Int)))))×(Bool×Int×Int)×Int×Int×Int×(List ((Int×Int)))×(List ((Int×Int×Int)))×(List ((Int×Int×(List (Int))))))×((Int×(List ((Bool×(List (Int)))))×(Bool×Int×Int)×Int×Int×Int×(List ((Int×Int)))×(List ((Int×Int×Int)))×(List ((Int×Int×(List (Int))))))×List ((Int×Int×(List (Int))))))) =>
 aBJ (fun (p4:((Int×(List ((Bool×(List (Int)))))×(Bool×Int×Int)×Int×Int×Int×(List ((Int×Int)))×(List ((Int×Int×Int)))×(List ((Int×Int×(List (Int))))))×(Int×(List ((Bool×(List (Int)))))×(Bool×Int×Int)×Int×Int×Int×(List ((Int×Int)))×(List ((Int×Int×Int)))×(List ((Int×Int×(List (Int)))))))) =>
 (n80 N p4.1.2.2.2.2.2.2.1).bind fun v6 =>
 (n81 N p4.1.2.2.2.2.2.2.2.1).bind fun v7 =>
 some (p4.1.1,p4.1.2.1,p4.1.2.2.1,p4.1.2.2.2.1,p4.1.2.2.2.2.1,p4.1.2.2.2.2.2.1,v6,v7,p4.1.2.2.2.2.2.2.2.2)) fun j5 =>
 eG N (fun (p8:((Int×(List ((Bool×(List (Int)))))×(Bool×Int×Int)×Int×Int×Int×(List ((Int×Int)))×(List ((Int×Int×Int)))×(List ((Int×Int×(List (Int))))))×((Int×(List ((Bool×(List (Int)))))×(Bool×Int×Int)×Int×Int×Int×(List ((Int×Int)))×(List ((Int×Int×Int)))×(List ((Int×Int×(List (Int))))))×(List ((Int×Int×(List (Int))))×(Int×Int))))) =>
 aJy (decide (p8.2.2.2.2 < p8.2.2.2.1)) fun v9 =>
 bif v9 then ((aEU p8.2.2.1 p8.2.2.2.2).bind fun v10 =>
 (n79 N v10.2.2).bind fun v11 =>
 aJy ([(v10.1,v10.2.1,v11)]:List ((Int×Int×(List (Int))))) fun v12 =>
 (aH3 40 p8.1.2.2.2.2.2.2.2.2 v12).bind fun v13 =>
 aJy (IntKind.i64.wrap (p8.2.2.2.2+(1:Int))) fun v14 =>
 tN ((p8.1.1,p8.1.2.1,p8.1.2.2.1,p8.1.2.2.2.1,p8.1.2.2.2.2.1,p8.1.2.2.2.2.2.1,p8.1.2.2.2.2.2.2.1,p8.1.2.2.2.2.2.2.2.1,v13),p8.2.1,p8.2.2.1,p8.2.2.2.1,v14)) else (lJ (j5 (p8.1,p8.2.1)))) (p2.1,p2.2.1,p2.2.2,(aJO p2.2.2),(0:Int))) fun j3 =>
 eG N (fun (p15:((Int×(List ((Bool×(List (Int)))))×(Bool×Int×Int)×Int×Int×Int×(List ((Int×Int)))×(List ((Int×Int×Int)))×(List ((Int×Int×(List (Int))))))×((Int×(List ((Bool×(List (Int)))))×(Bool×Int×Int)×Int×Int×Int×(List ((Int×Int)))×(List ((Int×Int×Int)))×(List ((Int×Int×(List (Int))))))×(List ((Int×Int×(List (Int))))×(List ((Bool×(List (Int))))×(Int×Int)))))) =>
 aJy (decide (p15.2.2.2.2.2 < p15.2.2.2.2.1)) fun v16 =>
 bif v16 then ((aEU p15.2.2.2.1 p15.2.2.2.2.2).bind fun v17 =>
 (n78 N v17.2).bind fun v18 =>
 aJy ([(v17.1,v18)]:List ((Bool×(List (Int))))) fun v19 =>
 (aH3 32 p15.1.2.1 v19).bind fun v20 =>
 aJy (IntKind.i64.wrap (p15.2.2.2.2.2+(1:Int))) fun v21 =>
 tN ((p15.1.1,v20,p15.1.2.2),p15.2.1,p15.2.2.1,p15.2.2.2.1,p15.2.2.2.2.1,v21)) else (lJ (j3 (p15.1,p15.2.1,p15.2.2.1)))) ((a0.1,v0,a0.2.2.1,a0.2.2.2.1,a0.2.2.2.2.1,a0.2.2.2.2.2.1,a0.2.2.2.2.2.2.1,a0.2.2.2.2.2.2.2.1,v1),((0:Int),([]:List ((Bool×(List (Int))))),(false,(0:Int),(0:Int)),(0:Int),(0:Int),(0:Int),([]:List ((Int×Int))),([]:List ((Int×Int×Int))),([]:List ((Int×Int×(List (Int)))))),a0.2.2.2.2.2.2.2.2,a0.2.1,(aJO a0.2.1),(0:Int)):=by kernel_rfl
theorem e78 (N:Nat) (a0:List (Int)):n78 (N+1) a0 =
 (aH3 8 ([]:List (Int)) a0).bind fun v0 =>
 some v0:=by kernel_rfl
theorem e79 (N:Nat) (a0:List (Int)):n79 (N+1) a0 =
 (aH3 1 ([]:List (Int)) a0).bind fun v0 =>
 some v0:=by kernel_rfl
theorem e80 (N:Nat) (a0:List ((Int×Int))):n80 (N+1) a0 =
 (aH3 16 ([]:List ((Int×Int))) a0).bind fun v0 =>
 some v0:=by kernel_rfl
theorem e81 (N:Nat) (a0:List ((Int×Int×Int))):n81 (N+1) a0 =
 (aH3 24 ([]:List ((Int×Int×Int))) a0).bind fun v0 =>
 some v0:=by kernel_rfl
end Go.Proofs.YtgfmodmeimhhpaaDoor.Z
