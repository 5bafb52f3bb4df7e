/- The functions as they are read. -/
import Derived.Test.YtghpknbkecolnaaDoorNN
namespace Go.Proofs.YtghpknbkecolnaaDoor
open Go.VM
set_option maxRecDepth 100000
theorem e4 (N:Nat):n4 (N+1) () =
 (n9 N ([54,53,48,48,48,58,49,32,54,53,53,51,53,58,54,54,54,32,54,53,48,48,48,58,49,58,50]:List UInt8)).bind fun v0 =>
 aJy (bif (v0.2.2==(0:Int)) then ((aJO v0.1)==(2:Int)) else false) fun v1 =>
 aJy (bif v1 then ((aJO v0.2.1)==(1:Int)) else false) fun v2 =>
 (bif v2 then (aEU v0.2.1 (0:Int)) else some ((0:Int),(0:Int),(0:Int))).bind fun v3 =>
 aJy (false != ((v3.1==(65000:Int))&&((v3.2.1==(1:Int))&&(v3.2.2==(2:Int))))) fun v4 =>
 (bif (bif v2 then v4 else false) then (n10 N (v0.1,(65535:Int),(666:Int))) else some false).bind fun v5 =>
 aJy (bif (bif v2 then v4 else false) then v5 else false) fun v6 =>
 some v6:=by kernel_rfl
theorem e5 (N:Nat) (a0:List ((Int×Int))) (a1:(Int×Int)):n5 (N+1) (a0,a1) =
 (n7 N a0).bind fun v0 =>
 (bif (!(!v0)) then (n11 N a1) else some false).bind fun v1 =>
 aJy (bif (!v0) then true else (!v1)) fun v2 =>
 bif v2 then (some (([]:List ((Int×Int))),(1:Int))) else ((n12 N (a0,a1,())).bind fun v3 =>
 some (v3.1,v3.2)):=by kernel_rfl
theorem e6 (N:Nat) (a0:Int) (a1:Int):n6 (N+1) (a0,a1) =
 (if a1=0 then none else some (Int.tmod a0 a1)).bind fun v0 =>
 aBJ (fun (p1:Int) =>
 some p1) fun j2 =>
 bif (decide (v0 < (0:Int))) then (j2 (IntKind.i64.wrap (v0+a1))) else (j2 v0):=by kernel_rfl
theorem e7 (N:Nat) (a0:List ((Int×Int))):n7 (N+1) a0 =
 (n14 N (a0,(),())).bind fun v0 =>
 some v0:=by kernel_rfl
theorem e8 (N:Nat) (a0:List ((Int×Int))) (a1:List ((Int×Int))):n8 (N+1) (a0,a1) =
 bif ((aJO a0) != (aJO a1)) then (some false) else (aBJ (fun (p0:Unit) =>
 some true) fun j1 =>
 eG N (fun (p2:(List ((Int×Int))×(List ((Int×Int))×(Int×Int)))) =>
 aJy (decide (p2.2.2.2 < p2.2.2.1)) fun v3 =>
 bif v3 then ((aEU p2.2.1 p2.2.2.2).bind fun v4 =>
 (aEU p2.1 p2.2.2.2).bind fun v5 =>
 aJy (true != ((v5.1==v4.1)&&(v5.2==v4.2))) fun v6 =>
 bif v6 then (lJ (some false)) else (aJy (IntKind.i64.wrap (p2.2.2.2+(1:Int))) fun v7 =>
 tN (p2.1,p2.2.1,p2.2.2.1,v7))) else (lJ (j1 ()))) (a1,a0,(aJO a0),(0:Int))):=by kernel_rfl
theorem e11 (N:Nat) (a0:(Int×Int)):n11 (N+1) a0 =
 (n21 N ((65535:Int),([a0.1,a0.2]:List (Int)))).bind fun v0 =>
 some v0:=by kernel_rfl
theorem e13 (N:Nat) (a0:(Int×Int)) (a1:(Int×Int)):n13 (N+1) (a0,a1) =
 (n26 N (a0.1,a1.1)).bind fun v0 =>
 (n26 N (a0.2,a1.2)).bind fun v1 =>
 (n25 N ([v0,v1]:List (Int))).bind fun v2 =>
 some v2:=by kernel_rfl
theorem e14 (N:Nat) (a0:List ((Int×Int))) (a1:Unit) (a2:Unit):n14 (N+1) (a0,a1,a2) =
 aBJ (fun (p0:List ((Int×Int))) =>
 aJy (decide ((aJO p0)≤(64:Int))) fun v2 =>
 some v2) fun j1 =>
 eG N (fun (p3:(List ((Int×Int))×(List ((Int×Int))×(Int×Int)))) =>
 aJy (decide (p3.2.2.2 < p3.2.2.1)) fun v4 =>
 bif v4 then ((aEU p3.2.1 p3.2.2.2).bind fun v5 =>
 (n11 N v5).bind fun v6 =>
 aJy (decide (p3.2.2.2 > (0:Int))) fun v7 =>
 aJy (IntKind.i64.wrap (p3.2.2.2 - (1:Int))) fun v8 =>
 (bif (v7&&(!(!v6))) then (aEU p3.1 v8) else some ((0:Int),(0:Int))).bind fun v9 =>
 (bif (v7&&(!(!v6))) then (n13 N (v9,v5)) else some (0:Int)).bind fun v10 =>
 aJy (bif v7 then (decide (v10≥(0:Int))) else false) fun v11 =>
 aJy (bif (!v6) then true else v11) fun v12 =>
 bif v12 then (lJ (some false)) else (aJy (IntKind.i64.wrap (p3.2.2.2+(1:Int))) fun v13 =>
 tN (p3.1,p3.2.1,p3.2.2.1,v13))) else (lJ (j1 p3.1))) (a0,a0,(aJO a0),(0:Int)):=by kernel_rfl
theorem e21 (N:Nat) (a0:Int) (a1:List (Int)):n21 (N+1) (a0,a1) =
 (n38 N a1).bind fun v0 =>
 (bif (decide (v0≥(0:Int))) then (n39 N a1) else some (0:Int)).bind fun v1 =>
 aJy (bif (decide (v0≥(0:Int))) then (decide (v1≤a0)) else false) fun v2 =>
 some v2:=by kernel_rfl
theorem e25 (N:Nat) (a0:List (Int)):n25 (N+1) a0 =
 aBJ (fun (p0:Int) =>
 some p0) fun j1 =>
 eG N (fun (p2:(Int×(List (Int)×(Int×Int)))) =>
 aJy (decide (p2.2.2.2 < p2.2.2.1)) fun v3 =>
 bif v3 then ((aEU p2.2.1 p2.2.2.2).bind fun v4 =>
 bif (v4 != p2.1) then (lJ (some v4)) else (aJy (IntKind.i64.wrap (p2.2.2.2+(1:Int))) fun v5 =>
 tN (p2.1,p2.2.1,p2.2.2.1,v5))) else (lJ (j1 p2.1))) ((0:Int),a0,(aJO a0),(0:Int)):=by kernel_rfl
theorem e26 (N:Nat) (a0:Int) (a1:Int):n26 (N+1) (a0,a1) =
 (n42 N a0).bind fun v0 =>
 (n42 N a1).bind fun v1 =>
 bif v0 then (bif v1 then (some (0:Int)) else (some (-1:Int))) else (bif v1 then (some (1:Int)) else (bif (decide (a0 < a1)) then (some (-1:Int)) else (bif (decide (a0 > a1)) then (some (1:Int)) else (some (0:Int))))):=by kernel_rfl
theorem e38 (N:Nat) (a0:List (Int)):n38 (N+1) a0 =
 aJy (decide ((aJO a0) < (1:Int))) fun v0 =>
 aBJ (fun (p1:List (Int)) =>
 (aEU p1 (0:Int)).bind fun v3 =>
 aBJ (fun (p4:Int) =>
 some p4) fun j5 =>
 eG N (fun (p6:(List (Int)×(Int×Int))) =>
 aJy (decide (p6.2.2 < (aJO p6.1))) fun v7 =>
 bif v7 then ((aEU p6.1 p6.2.2).bind fun v8 =>
 aJy (IntKind.i64.wrap (p6.2.2+(1:Int))) fun v9 =>
 tN (p6.1,(mmT false p6.2.1 v8),v9)) else (lJ (j5 p6.2.1))) (p1,v3,(1:Int))) fun j2 =>
 bif v0 then (none) else (j2 a0):=by kernel_rfl
theorem e39 (N:Nat) (a0:List (Int)):n39 (N+1) a0 =
 aJy (decide ((aJO a0) < (1:Int))) fun v0 =>
 aBJ (fun (p1:List (Int)) =>
 (aEU p1 (0:Int)).bind fun v3 =>
 aBJ (fun (p4:Int) =>
 some p4) fun j5 =>
 eG N (fun (p6:(List (Int)×(Int×Int))) =>
 aJy (decide (p6.2.2 < (aJO p6.1))) fun v7 =>
 bif v7 then ((aEU p6.1 p6.2.2).bind fun v8 =>
 aJy (IntKind.i64.wrap (p6.2.2+(1:Int))) fun v9 =>
 tN (p6.1,(mmT true p6.2.1 v8),v9)) else (lJ (j5 p6.2.1))) (p1,v3,(1:Int))) fun j2 =>
 bif v0 then (none) else (j2 a0):=by kernel_rfl
theorem e42 (N:Nat) (a0:Int):n42 (N+1) a0 =
 some (a0 != a0):=by kernel_rfl
end Go.Proofs.YtghpknbkecolnaaDoor
