/- The functions as they are read. -/
import Derived.Test.YtghpknbkecolnaaGreatDoorZN
namespace Go.Proofs.YtghpknbkecolnaaGreatDoor.Z
open Go.VM
set_option maxRecDepth 100000
theorem e44 (N:Nat) (a0:(Int×Int)) (a1:(Int×Int)):n44 (N+1) (a0,a1) =
 (n69 N (a0.1,a1.1)).bind fun v0 =>
 (n69 N (a0.2,a1.2)).bind fun v1 =>
 (n68 N ([v0,v1]:List (Int))).bind fun v2 =>
 some v2:=by kernel_rfl
theorem e52 (N:Nat) (a0:(Int×Int×Int)) (a1:(Int×Int×Int)):n52 (N+1) (a0,a1) =
 (n69 N (a0.1,a1.1)).bind fun v0 =>
 (n69 N (a0.2.1,a1.2.1)).bind fun v1 =>
 (n69 N (a0.2.2,a1.2.2)).bind fun v2 =>
 (n68 N ([v0,v1,v2]:List (Int))).bind fun v3 =>
 some v3:=by kernel_rfl
theorem e68 (N:Nat) (a0:List (Int)):n68 (N+1) a0 =
 aBJ (fun (p0:Int) =>
 some p0) fun j1 =>
 eG N (fun (p2:(Int×(List (Int)×(Int×Int)))) =>
 aJy (decide (p2.2.2.2 < p2.2.2.1)) fun v3 =>
 bif v3 then ((aEU p2.2.1 p2.2.2.2).bind fun v4 =>
 bif (v4 != p2.1) then (lJ (some v4)) else (aJy (IntKind.i64.wrap (p2.2.2.2+(1:Int))) fun v5 =>
 tN (p2.1,p2.2.1,p2.2.2.1,v5))) else (lJ (j1 p2.1))) ((0:Int),a0,(aJO a0),(0:Int)):=by kernel_rfl
theorem e69 (N:Nat) (a0:Int) (a1:Int):n69 (N+1) (a0,a1) =
 (n96 N a0).bind fun v0 =>
 (n96 N a1).bind fun v1 =>
 bif v0 then (bif v1 then (some (0:Int)) else (some (-1:Int))) else (bif v1 then (some (1:Int)) else (bif (decide (a0 < a1)) then (some (-1:Int)) else (bif (decide (a0 > a1)) then (some (1:Int)) else (some (0:Int))))):=by kernel_rfl
theorem e70 (N:Nat) (a0:List ((Int×Int))) (a1:(Int×Int)) (a2:Unit):n70 (N+1) (a0,a1,a2) =
 aBJ (fun (p0:(List ((Int×Int))×((Int×Int)×(Int×Int)))) =>
 aJy (decide (p0.2.2.2 < p0.2.2.1)) fun v2 =>
 (bif v2 then (aEU p0.1 p0.2.2.2) else some ((0:Int),(0:Int))).bind fun v3 =>
 (bif v2 then (n44 N (v3,p0.2.1)) else some (0:Int)).bind fun v4 =>
 aJy (bif v2 then (v4==(0:Int)) else false) fun v5 =>
 some (p0.2.2.2,v5)) fun j1 =>
 eG N (fun (p6:(List ((Int×Int))×((Int×Int)×(Int×(Int×Int))))) =>
 aJy (decide (p6.2.2.2.1 < p6.2.2.2.2)) fun v7 =>
 bif v7 then (aBJ (fun (p8:(List ((Int×Int))×((Int×Int)×(Int×(Int×Int))))) =>
 tN (p8.1,p8.2.1,p8.2.2.1,p8.2.2.2.1,p8.2.2.2.2)) fun j9 =>
 aJy (IntKind.i64.wrap (p6.2.2.2.1+p6.2.2.2.2)) fun v10 =>
 aJy (aJP IntKind.u64 (IntKind.u64.wrap v10) 1) fun v11 =>
 (aEU p6.1 (IntKind.i64.wrap v11)).bind fun v12 =>
 (n44 N (v12,p6.2.1)).bind fun v13 =>
 aBJ (fun (p14:(List ((Int×Int))×((Int×Int)×(Int×(Int×Int))))) =>
 j9 (p14.1,p14.2.1,p14.2.2.1,p14.2.2.2.1,p14.2.2.2.2)) fun j15 =>
 bif (decide (v13 < (0:Int))) then (aJy (IntKind.i64.wrap ((IntKind.i64.wrap v11)+(1:Int))) fun v16 =>
 j15 (p6.1,p6.2.1,p6.2.2.1,v16,p6.2.2.2.2)) else (j15 (p6.1,p6.2.1,p6.2.2.1,p6.2.2.2.1,(IntKind.i64.wrap v11)))) else (lJ (j1 (p6.1,p6.2.1,p6.2.2.1,p6.2.2.2.1)))) (a0,a1,(aJO a0),(0:Int),(aJO a0)):=by kernel_rfl
theorem e76 (N:Nat) (a0:List ((Int×Int×Int))) (a1:(Int×Int×Int)) (a2:Unit):n76 (N+1) (a0,a1,a2) =
 aBJ (fun (p0:(List ((Int×Int×Int))×((Int×Int×Int)×(Int×Int)))) =>
 aJy (decide (p0.2.2.2 < p0.2.2.1)) fun v2 =>
 (bif v2 then (aEU p0.1 p0.2.2.2) else some ((0:Int),(0:Int),(0:Int))).bind fun v3 =>
 (bif v2 then (n52 N (v3,p0.2.1)) else some (0:Int)).bind fun v4 =>
 aJy (bif v2 then (v4==(0:Int)) else false) fun v5 =>
 some (p0.2.2.2,v5)) fun j1 =>
 eG N (fun (p6:(List ((Int×Int×Int))×((Int×Int×Int)×(Int×(Int×Int))))) =>
 aJy (decide (p6.2.2.2.1 < p6.2.2.2.2)) fun v7 =>
 bif v7 then (aBJ (fun (p8:(List ((Int×Int×Int))×((Int×Int×Int)×(Int×(Int×Int))))) =>
 tN (p8.1,p8.2.1,p8.2.2.1,p8.2.2.2.1,p8.2.2.2.2)) fun j9 =>
 aJy (IntKind.i64.wrap (p6.2.2.2.1+p6.2.2.2.2)) fun v10 =>
 aJy (aJP IntKind.u64 (IntKind.u64.wrap v10) 1) fun v11 =>
 (aEU p6.1 (IntKind.i64.wrap v11)).bind fun v12 =>
 (n52 N (v12,p6.2.1)).bind fun v13 =>
 aBJ (fun (p14:(List ((Int×Int×Int))×((Int×Int×Int)×(Int×(Int×Int))))) =>
 j9 (p14.1,p14.2.1,p14.2.2.1,p14.2.2.2.1,p14.2.2.2.2)) fun j15 =>
 bif (decide (v13 < (0:Int))) then (aJy (IntKind.i64.wrap ((IntKind.i64.wrap v11)+(1:Int))) fun v16 =>
 j15 (p6.1,p6.2.1,p6.2.2.1,v16,p6.2.2.2.2)) else (j15 (p6.1,p6.2.1,p6.2.2.1,p6.2.2.2.1,(IntKind.i64.wrap v11)))) else (lJ (j1 (p6.1,p6.2.1,p6.2.2.1,p6.2.2.2.1)))) (a0,a1,(aJO a0),(0:Int),(aJO a0)):=by kernel_rfl
theorem e96 (N:Nat) (a0:Int):n96 (N+1) a0 =
 some (a0 != a0):=by kernel_rfl
end Go.Proofs.YtghpknbkecolnaaGreatDoor.Z
