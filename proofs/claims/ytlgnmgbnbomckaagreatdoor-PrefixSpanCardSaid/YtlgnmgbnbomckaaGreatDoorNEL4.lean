/- The functions as they are read. -/
import Derived.Test.YtlgnmgbnbomckaaGreatDoorNN
namespace Go.Proofs.YtlgnmgbnbomckaaGreatDoor
open Go.VM
set_option maxRecDepth 100000
theorem e4 (N:Nat) (a0:List (Int)):n4 (N+1) a0 =
 (n11 N a0).bind fun v0 =>
 (n12 N v0).bind fun v1 =>
 (n16 N v1.2).bind fun v2 =>
 (n17 N v1.1).bind fun v3 =>
 aJy ([v2.1,v1.1.1,v3]:List ((Bool×Int×Int))) fun v4 =>
 aBJ (fun (p5:Unit) =>
 (n15 N ()).bind fun v7 =>
 some v7) fun j6 =>
 eG N (fun (p8:(((Bool×Int×Int)×Int)×((Bool×Int×Int)×(List ((Bool×Int×Int))×(Int×Int))))) =>
 aJy (decide (p8.2.2.2.2 < p8.2.2.2.1)) fun v9 =>
 bif v9 then ((aEU p8.2.2.1 p8.2.2.2.2).bind fun v10 =>
 aJy (false != (v10.1==p8.1.1.1)) fun v11 =>
 (bif v11 then (n18 N (p8.1.1,v10)) else some (0:Int)).bind fun v12 =>
 aJy (bif v11 then (decide (v12≤(0:Int))) else false) fun v13 =>
 (bif v13 then (n18 N (v10,p8.2.1)) else some (0:Int)).bind fun v14 =>
 aJy (bif v13 then (decide (v14≤(0:Int))) else false) fun v15 =>
 (n19 N (p8.1,v10)).bind fun v16 =>
 bif (true != (v16==v15)) then (lJ (some false)) else ((n20 N v10).bind fun v17 =>
 aJy (false != ((v10.1==p8.2.1.1)&&((v10.2.1==p8.2.1.2.1)&&(v10.2.2==p8.2.1.2.2)))) fun v18 =>
 aJy (bif v17.2 then v18 else false) fun v19 =>
 (bif v19 then (n19 N (p8.1,v17.1)) else some false).bind fun v20 =>
 aJy (bif v19 then v20 else false) fun v21 =>
 bif v21 then (lJ (some false)) else (aJy (IntKind.i64.wrap (p8.2.2.2.2+(1:Int))) fun v22 =>
 tN (p8.1,p8.2.1,p8.2.2.1,p8.2.2.2.1,v22)))) else (lJ (j6 ()))) (v1.1,v3,v4,(aJO v4),(0:Int)):=by kernel_rfl
end Go.Proofs.YtlgnmgbnbomckaaGreatDoor
