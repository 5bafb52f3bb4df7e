/- The functions as they are read. -/
import Derived.Test.YtbpocjclcbjggaaGreatDoorZN
namespace Go.Proofs.YtbpocjclcbjggaaGreatDoor.Z
open Go.VM
set_option maxRecDepth 100000
abbrev Zq0:=Int×Int×Int×(List (Int×Int×Int×Int×Int×Int))×(Bool×Int×Int)×(Bool×Int×Int)
abbrev Zq1:=Int×(List UInt8)×(List UInt8)×Int×Int×(List Zq0)
abbrev Zq2:=((Bool×Int×Int)×Int)×((Bool×Int×Int)×Int)×(List (Int×(List UInt8)×(List UInt8)×Int×Int×(List Zq0)))×(List (Int×(List UInt8)×(List UInt8)×Int×Int×(List Zq0)))
theorem e39(N:Nat)(a0:((Bool×Int×Int)×(Int×Int×Int×Int×Int×Int)×Int))(a1:((Bool×Int×Int)×(Int×Int×Int×Int×Int×Int)×Int)):n39 (N+1) (a0,a1)=
 (n40 N (a0.1,a1.1)).bind fun v0=>
 some v0:=by kernel_rfl
theorem e40(N:Nat)(a0:(Bool×Int×Int))(a1:(Bool×Int×Int)):n40 (N+1) (a0,a1)=
 (n65 N a0).bind fun v0=>
 (n65 N a1).bind fun v1=>
 (n62 N (v0,v1)).bind fun v2=>
 (n66 N (a0.2.1,a1.2.1)).bind fun v3=>
 (n66 N (a0.2.2,a1.2.2)).bind fun v4=>
 (n64 N ([v2,v3,v4]:List Int)).bind fun v5=>
 some v5:=by kernel_rfl
theorem e49(N:Nat)(a0:Zq2):n49 (N+1) a0=
 (aH3 80 ([]:List Zq1) a0.2.2.1).bind fun v0=>
 (aH3 80 v0 a0.2.2.2).bind fun v1=>
 some v1:=by kernel_rfl
theorem e59(N:Nat)(a0:Zq2):n59 (N+1) a0=
 (n71 N a0).bind fun v0=>
 aBJ (fun(p1:List Zq0)=>
 some p1) fun j2=>
 eG N (fun(p3:(List Zq0×(List Zq1×(Int×Int))))=>
 aJy (decide (p3.2.2.2<p3.2.2.1)) fun v4=>
 bif v4 then((aEU p3.2.1 p3.2.2.2).bind fun v5=>
 (aH3 96 p3.1 v5.2.2.2.2.2).bind fun v6=>
 aJy (IntKind.i64.wrap (p3.2.2.2+1)) fun v7=>
 tN (v6,p3.2.1,p3.2.2.1,v7))else(lJ (j2 p3.1))) (([]:List Zq0),v0,(aJO v0),0):=by kernel_rfl
theorem e61(N:Nat)(a0:Zq0)(a1:Zq0):n61 (N+1) (a0,a1)=
 (n62 N (a0.1,a1.1)).bind fun v0=>
 some v0:=by kernel_rfl
theorem e62(N:Nat)(a0:Int)(a1:Int):n62 (N+1) (a0,a1)=
 (n93 N a0).bind fun v0=>
 (n93 N a1).bind fun v1=>
 bif v0 then(bif v1 then(some 0)else(some (-1)))else(bif v1 then(some 1)else(bif (decide (a0<a1))then(some (-1))else(bif (decide (a0>a1))then(some 1)else(some 0)))):=by kernel_rfl
theorem e64(N:Nat)(a0:List Int):n64 (N+1) a0=
 aBJ (fun(p0:Int)=>
 some p0) fun j1=>
 eG N (fun(p2:(Int×(List Int×(Int×Int))))=>
 aJy (decide (p2.2.2.2<p2.2.2.1)) fun v3=>
 bif v3 then((aEU p2.2.1 p2.2.2.2).bind fun v4=>
 bif (v4 != p2.1)then(lJ (some v4))else(aJy (IntKind.i64.wrap (p2.2.2.2+1)) fun v5=>
 tN (p2.1,p2.2.1,p2.2.2.1,v5)))else(lJ (j1 p2.1))) (0,a0,(aJO a0),0):=by kernel_rfl
theorem e65(N:Nat)(a0:(Bool×Int×Int)):n65 (N+1) a0=
 bif a0.1 then(some 1)else(some 0):=by kernel_rfl
theorem e66(N:Nat)(a0:Int)(a1:Int):n66 (N+1) (a0,a1)=
 (n96 N a0).bind fun v0=>
 (n96 N a1).bind fun v1=>
 bif v0 then(bif v1 then(some 0)else(some (-1)))else(bif v1 then(some 1)else(bif (decide (a0<a1))then(some (-1))else(bif (decide (a0>a1))then(some 1)else(some 0)))):=by kernel_rfl
theorem e71(N:Nat)(a0:Zq2):n71 (N+1) a0=
 aJy ([a0.2.2.1,a0.2.2.2]:List (List Zq1)) fun v0=>
 (n110 N v0).bind fun v1=>
 some v1:=by kernel_rfl
theorem e93(N:Nat)(a0:Int):n93 (N+1) a0=
 some (a0 != a0):=by kernel_rfl
theorem e96(N:Nat)(a0:Int):n96 (N+1) a0=
 some (a0 != a0):=by kernel_rfl
theorem e115(N:Nat)(a0:(Bool×Int×Int)):n115 (N+1) a0=
 aJy (false != ((a0.1==false)&&((a0.2.1==0)&&(a0.2.2==0)))) fun v0=>
 some v0:=by kernel_rfl
end Go.Proofs.YtbpocjclcbjggaaGreatDoor.Z
