/- The functions as they are read. -/
import Derived.Test.YtajoneenakjifaaGreatDoorNN
namespace Go.Proofs.YtajoneenakjifaaGreatDoor
open Go.VM
set_option maxRecDepth 100000
theorem e3 (N:Nat) (a0:List UInt8) (a1:List ((Bool×(List (Int))))) (a2:List (Int)) (a3:Int) (a4:Int):n3 (N+1) (a0,a1,a2,a3,a4) =
 aJy (decide ((aJO a0) > (600:Int))) fun v0 =>
 (bif (!v0) then (n4 N a1) else some false).bind fun v1 =>
 aJy (bif v0 then true else (!v1)) fun v2 =>
 bif v2 then ((n5 N ()).bind fun v3 =>
 some v3) else ((n6 N a2).bind fun v4 =>
 (n7 N v4).bind fun v5 =>
 (n8 N v5.1).bind fun v6 =>
 (n9 N a1).bind fun v7 =>
 (n8 N a1).bind fun v8 =>
 (bif (!(!(v7==v8))) then (n9 N v5.1) else some ([]:List UInt8)).bind fun v9 =>
 aJy (bif (!(v7==v8)) then true else (!(v9==v6))) fun v10 =>
 bif v10 then (some false) else ((aBq v6).bind fun v11 =>
 (n10 N (v11,a3,a4)).bind fun v12 =>
 (aJt v6 ([32,55]:List UInt8)).bind fun v13 =>
 (aJt v6 ([32,123,49,125]:List UInt8)).bind fun v14 =>
 (aJt ([123]:List UInt8) v6).bind fun v15 =>
 (aJt v15 ([125]:List UInt8)).bind fun v16 =>
 aJy ([a0,v6,(aD8 v12),v13,v14,v16,([49,32,123,51,44,50,125]:List UInt8),([48,49]:List UInt8)]:List (List UInt8)) fun v17 =>
 aBJ (fun (p18:Unit) =>
 (n5 N ()).bind fun v20 =>
 some v20) fun j19 =>
 eG N (fun (p21:(List (List UInt8)×(Int×Int))) =>
 bif (decide (p21.2.2 < p21.2.1)) then ((aEU p21.1 p21.2.2).bind fun v22 =>
 (n11 N v22).bind fun v23 =>
 (n12 N v22).bind fun v24 =>
 (n13 N (v23.1,v24.1)).bind fun v25 =>
 aJy (bif (!v25) then true else (v23.2 != v24.2)) fun v26 =>
 bif v26 then (lJ (some false)) else (aJy (IntKind.i64.wrap (p21.2.2+(1:Int))) fun v27 =>
 tN (p21.1,p21.2.1,v27))) else (lJ (j19 ()))) (v17,(aJO v17),(0:Int)))):=by kernel_rfl
end Go.Proofs.YtajoneenakjifaaGreatDoor
