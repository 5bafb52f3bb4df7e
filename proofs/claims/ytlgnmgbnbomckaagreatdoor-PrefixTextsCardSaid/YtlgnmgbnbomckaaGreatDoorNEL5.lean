/- The functions as they are read. -/
import Derived.Test.YtlgnmgbnbomckaaGreatDoorNN
namespace Go.Proofs.YtlgnmgbnbomckaaGreatDoor
open Go.VM
set_option maxRecDepth 100000
theorem e5 (N:Nat) (a0:List UInt8) (a1:((Bool×Int×Int)×Int)) (a2:List (Int)) (a3:Int) (a4:Int):n5 (N+1) (a0,a1,a2,a3,a4) =
 aJy (decide ((aJO a0) > (600:Int))) fun v0 =>
 bif v0 then ((n15 N ()).bind fun v1 =>
 some v1) else ((n11 N a2).bind fun v2 =>
 (n12 N v2).bind fun v3 =>
 (n21 N v3.1).bind fun v4 =>
 (n14 N a1).bind fun v5 =>
 (n21 N a1).bind fun v6 =>
 (bif (!(!(v5==v6))) then (n14 N v3.1) else some ([]:List UInt8)).bind fun v7 =>
 aJy (bif (!(v5==v6)) then true else (!(v7==v4))) fun v8 =>
 bif v8 then (some false) else ((aBq v4).bind fun v9 =>
 (n22 N (v9,a3,a4)).bind fun v10 =>
 (aJt v4 ([48]:List UInt8)).bind fun v11 =>
 (n23 N v3.1.1).bind fun v12 =>
 (n23 N v3.1.1).bind fun v13 =>
 (aJt v13 ([47]:List UInt8)).bind fun v14 =>
 aJy ([([48]:List UInt8),([56]:List UInt8),([48,56]:List UInt8),([51,50]:List UInt8),([51,51]:List UInt8),([49,50,56]:List UInt8),([49,50,57]:List UInt8),([]:List UInt8),([57,57,57,57,57,57,57,57,57,57,57,57,57,57,57,57,57,57,57,57]:List UInt8)]:List (List UInt8)) fun v15 =>
 (n24 N (a3,(9:Int))).bind fun v16 =>
 (aEU v15 v16).bind fun v17 =>
 (aJt v14 v17).bind fun v18 =>
 aJy ([a0,v4,(aD8 v10),v11,v12,v18]:List (List UInt8)) fun v19 =>
 aBJ (fun (p20:Unit) =>
 (n15 N ()).bind fun v22 =>
 some v22) fun j21 =>
 eG N (fun (p23:(List (List UInt8)×(Int×Int))) =>
 bif (decide (p23.2.2 < p23.2.1)) then ((aEU p23.1 p23.2.2).bind fun v24 =>
 (n13 N v24).bind fun v25 =>
 (n25 N v24).bind fun v26 =>
 aJy (true != (((v25.1.1.1==v26.1.1.1)&&((v25.1.1.2.1==v26.1.1.2.1)&&(v25.1.1.2.2==v26.1.1.2.2)))&&(v25.1.2==v26.1.2))) fun v27 =>
 aJy (bif v27 then true else (v25.2 != v26.2)) fun v28 =>
 bif v28 then (lJ (some false)) else (aJy (IntKind.i64.wrap (p23.2.2+(1:Int))) fun v29 =>
 tN (p23.1,p23.2.1,v29))) else (lJ (j21 ()))) (v19,(aJO v19),(0:Int)))):=by kernel_rfl
end Go.Proofs.YtlgnmgbnbomckaaGreatDoor
