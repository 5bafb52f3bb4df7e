/- The functions as they are read. -/
import Derived.Test.YtlgnmgbnbomckaaGreatDoorNN
namespace Go.Proofs.YtlgnmgbnbomckaaGreatDoor
open Go.VM
set_option maxRecDepth 100000
theorem e7 (N:Nat) (a0:List (Int)) (a1:Int):n7 (N+1) (a0,a1) =
 (n11 N a0).bind fun v0 =>
 (n16 N v0).bind fun v1 =>
 aBJ (fun (p2:(Int×((Bool×Int×Int)×Int))) =>
 aJy (IntKind.i64.wrap (p2.2.2+(1:Int))) fun v4 =>
 (n24 N (p2.1,v4)).bind fun v5 =>
 (n36 N (p2.2.1,v5)).bind fun v6 =>
 aJy (bif (v6.2 != (0:Int)) then true else (v6.1.2 != v5)) fun v7 =>
 (bif (!v7) then (n19 N (v6.1,p2.2.1)) else some false).bind fun v8 =>
 aJy (bif v7 then true else (!v8)) fun v9 =>
 bif v9 then (some false) else (aBJ (fun (p10:((Bool×Int×Int)×Int)) =>
 (n38 N p10).bind fun v12 =>
 (bif v12 then (n15 N ()) else some false).bind fun v13 =>
 aJy (bif v12 then v13 else false) fun v14 =>
 some v14) fun j11 =>
 eG N (fun (p15:(Int×((Bool×Int×Int)×(((Bool×Int×Int)×Int)×(Int×Int))))) =>
 aJy (decide (p15.2.2.2.2 < p15.2.2.2.1)) fun v16 =>
 bif v16 then (aJy (decide (p15.2.2.2.2 < p15.1)) fun v17 =>
 (bif v17 then (n37 N (p15.2.2.1.1,p15.2.2.2.2)) else some (0:Int)).bind fun v18 =>
 (bif v17 then (n37 N (p15.2.1,p15.2.2.2.2)) else some (0:Int)).bind fun v19 =>
 aJy (bif v17 then (v18 != v19) else false) fun v20 =>
 aJy (decide (p15.2.2.2.2≥p15.1)) fun v21 =>
 (bif (v21&&(!v20)) then (n37 N (p15.2.2.1.1,p15.2.2.2.2)) else some (0:Int)).bind fun v22 =>
 aJy (bif v21 then (v22 != (0:Int)) else false) fun v23 =>
 aJy (decide (p15.2.2.2.2≥p15.1)) fun v24 =>
 (bif (v24&&(!(bif v20 then true else v23))) then (n17 N p15.2.2.1) else some (false,(0:Int),(0:Int))).bind fun v25 =>
 (bif (v24&&(!(bif v20 then true else v23))) then (n37 N (v25,p15.2.2.2.2)) else some (0:Int)).bind fun v26 =>
 aJy (bif v24 then (v26 != (1:Int)) else false) fun v27 =>
 aJy (bif (bif v20 then true else v23) then true else v27) fun v28 =>
 bif v28 then (lJ (some false)) else (aJy (IntKind.i64.wrap (p15.2.2.2.2+(1:Int))) fun v29 =>
 tN (p15.1,p15.2.1,p15.2.2.1,p15.2.2.2.1,v29))) else (lJ (j11 p15.2.2.1))) (v5,p2.2.1,v6.1,p2.2.2,(0:Int)))) fun j3 =>
 bif v1.1.1 then (j3 (a1,v1.1,(128:Int))) else (j3 (a1,v1.1,(32:Int))):=by kernel_rfl
end Go.Proofs.YtlgnmgbnbomckaaGreatDoor
