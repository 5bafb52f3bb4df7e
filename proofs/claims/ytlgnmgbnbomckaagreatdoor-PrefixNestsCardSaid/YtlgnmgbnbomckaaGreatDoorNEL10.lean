/- The functions as they are read. -/
import Derived.Test.YtlgnmgbnbomckaaGreatDoorNN
namespace Go.Proofs.YtlgnmgbnbomckaaGreatDoor
open Go.VM
set_option maxRecDepth 100000
theorem e10 (N:Nat) (a0:List (Int)):n10 (N+1) a0 =
 (n11 N a0).bind fun v0 =>
 (n12 N v0).bind fun v1 =>
 (n12 N v1.2).bind fun v2 =>
 (n34 N (v1.1,v2.1)).bind fun v3 =>
 aJy (true != (v1.1.1.1==v2.1.1.1)) fun v4 =>
 bif v4 then ((bif (v3.2==(9:Int)) then (n15 N ()) else some false).bind fun v5 =>
 aJy (bif (v3.2==(9:Int)) then v5 else false) fun v6 =>
 some v6) else ((bif (!(v3.2 != (0:Int))) then (n30 N (v3.1,v1.1)) else some false).bind fun v7 =>
 aJy (bif (v3.2 != (0:Int)) then true else (!v7)) fun v8 =>
 (bif (!v8) then (n30 N (v3.1,v2.1)) else some false).bind fun v9 =>
 aJy (bif v8 then true else (!v9)) fun v10 =>
 bif v10 then (some false) else ((n32 N v3.1).bind fun v11 =>
 (bif (v11.2.2==(0:Int)) then (n30 N (v11.1,v1.1)) else some false).bind fun v12 =>
 (bif (v12&&(v11.2.2==(0:Int))) then (n30 N (v11.1,v2.1)) else some false).bind fun v13 =>
 aJy (bif v12 then v13 else false) fun v14 =>
 (bif ((!v14)&&(v11.2.2==(0:Int))) then (n30 N (v11.2.1,v1.1)) else some false).bind fun v15 =>
 (bif (v15&&((!v14)&&(v11.2.2==(0:Int)))) then (n30 N (v11.2.1,v2.1)) else some false).bind fun v16 =>
 aJy (bif v15 then v16 else false) fun v17 =>
 aJy (bif (v11.2.2==(0:Int)) then (bif v14 then true else v17) else false) fun v18 =>
 bif v18 then (some false) else (aJy (false != (((v3.1.1.1==v1.1.1.1)&&((v3.1.1.2.1==v1.1.1.2.1)&&(v3.1.1.2.2==v1.1.1.2.2)))&&(v3.1.2==v1.1.2))) fun v19 =>
 (n30 N (v1.1,v2.1)).bind fun v20 =>
 aJy (false != (((v3.1.1.1==v2.1.1.1)&&((v3.1.1.2.1==v2.1.1.2.1)&&(v3.1.1.2.2==v2.1.1.2.2)))&&(v3.1.2==v2.1.2))) fun v21 =>
 (bif (false != (v19==v20)) then (n30 N (v2.1,v1.1)) else some false).bind fun v22 =>
 aJy (bif (false != (v19==v20)) then (false != (v21==v22)) else false) fun v23 =>
 (bif v23 then (n41 N (v3.1,v1.1)) else some (0:Int)).bind fun v24 =>
 aJy (bif v23 then (decide (v24≤(0:Int))) else false) fun v25 =>
 (bif v25 then (n15 N ()) else some false).bind fun v26 =>
 aJy (bif v25 then v26 else false) fun v27 =>
 some v27))):=by kernel_rfl
end Go.Proofs.YtlgnmgbnbomckaaGreatDoor
