/- The functions as they are read. -/
import Derived.Test.YtlgnmgbnbomckaaGreatDoorNN
namespace Go.Proofs.YtlgnmgbnbomckaaGreatDoor
open Go.VM
set_option maxRecDepth 100000
theorem e9 (N:Nat) (a0:List (Int)):n9 (N+1) a0 =
 (n11 N a0).bind fun v0 =>
 (n12 N v0).bind fun v1 =>
 (n12 N v1.2).bind fun v2 =>
 (n16 N v2.2).bind fun v3 =>
 (n19 N (v1.1,v3.1)).bind fun v4 =>
 (bif v4 then (n19 N (v2.1,v3.1)) else some false).bind fun v5 =>
 (bif (bif v4 then v5 else false) then (n30 N (v1.1,v2.1)) else some false).bind fun v6 =>
 aJy (bif (bif v4 then v5 else false) then (!v6) else false) fun v7 =>
 (bif v7 then (n30 N (v2.1,v1.1)) else some false).bind fun v8 =>
 aJy (bif v7 then (!v8) else false) fun v9 =>
 bif v9 then (some false) else ((n30 N (v1.1,v2.1)).bind fun v10 =>
 (bif v10 then (n19 N (v1.1,v2.1.1)) else some false).bind fun v11 =>
 (bif ((!(!v11))&&v10) then (n17 N v2.1) else some (false,(0:Int),(0:Int))).bind fun v12 =>
 (bif ((!(!v11))&&v10) then (n19 N (v1.1,v12)) else some false).bind fun v13 =>
 aJy (bif (!v11) then true else (!v13)) fun v14 =>
 (bif ((!v14)&&v10) then (n19 N (v2.1,v3.1)) else some false).bind fun v15 =>
 (bif (v15&&((!v14)&&v10)) then (n19 N (v1.1,v3.1)) else some false).bind fun v16 =>
 aJy (bif v15 then (!v16) else false) fun v17 =>
 aJy (bif v10 then (bif v14 then true else v17) else false) fun v18 =>
 bif v18 then (some false) else ((n32 N v1.1).bind fun v19 =>
 bif (v19.2.2 != (0:Int)) then ((bif (v19.2.2==(9:Int)) then (n17 N v1.1) else some (false,(0:Int),(0:Int))).bind fun v20 =>
 aJy (false != ((v20.1==v1.1.1.1)&&((v20.2.1==v1.1.1.2.1)&&(v20.2.2==v1.1.1.2.2)))) fun v21 =>
 aJy (bif (v19.2.2==(9:Int)) then v21 else false) fun v22 =>
 (bif v22 then (n15 N ()) else some false).bind fun v23 =>
 aJy (bif v22 then v23 else false) fun v24 =>
 some v24) else ((n30 N (v19.1,v19.2.1)).bind fun v25 =>
 (bif (!v25) then (n30 N (v19.2.1,v19.1)) else some false).bind fun v26 =>
 (bif (!(bif v25 then true else v26)) then (n30 N (v1.1,v19.1)) else some false).bind fun v27 =>
 aJy (bif (bif v25 then true else v26) then true else (!v27)) fun v28 =>
 (bif (!v28) then (n30 N (v1.1,v19.2.1)) else some false).bind fun v29 =>
 aJy (bif v28 then true else (!v29)) fun v30 =>
 (bif (!v30) then (n41 N (v19.1,v19.2.1)) else some (0:Int)).bind fun v31 =>
 aJy (bif v30 then true else (decide (v31≥(0:Int)))) fun v32 =>
 bif v32 then (some false) else ((n17 N v19.1).bind fun v33 =>
 (n20 N v33).bind fun v34 =>
 aJy (false != ((v34.1.1==v19.2.1.1.1)&&((v34.1.2.1==v19.2.1.1.2.1)&&(v34.1.2.2==v19.2.1.1.2.2)))) fun v35 =>
 aJy (bif v34.2 then v35 else false) fun v36 =>
 (bif v36 then (n17 N v19.2.1) else some (false,(0:Int),(0:Int))).bind fun v37 =>
 (bif v36 then (n17 N v1.1) else some (false,(0:Int),(0:Int))).bind fun v38 =>
 aJy (false != ((v37.1==v38.1)&&((v37.2.1==v38.2.1)&&(v37.2.2==v38.2.2)))) fun v39 =>
 aJy (bif v36 then v39 else false) fun v40 =>
 aJy (false != ((v19.1.1.1==v1.1.1.1)&&((v19.1.1.2.1==v1.1.1.2.1)&&(v19.1.1.2.2==v1.1.1.2.2)))) fun v41 =>
 aJy (bif v40 then v41 else false) fun v42 =>
 (bif v42 then (n19 N (v1.1,v3.1)) else some false).bind fun v43 =>
 (bif v42 then (n19 N (v19.1,v3.1)) else some false).bind fun v44 =>
 (bif ((!v44)&&v42) then (n19 N (v19.2.1,v3.1)) else some false).bind fun v45 =>
 aJy (false != (v43==(bif v44 then true else v45))) fun v46 =>
 aJy (bif v42 then v46 else false) fun v47 =>
 (bif v47 then (n15 N ()) else some false).bind fun v48 =>
 aJy (bif v47 then v48 else false) fun v49 =>
 some v49)))):=by kernel_rfl
end Go.Proofs.YtlgnmgbnbomckaaGreatDoor
