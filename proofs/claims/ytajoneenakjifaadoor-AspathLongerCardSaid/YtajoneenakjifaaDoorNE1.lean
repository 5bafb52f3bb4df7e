/- The functions as they are read. -/
import Derived.Test.YtajoneenakjifaaDoorNN
namespace Go.Proofs.YtajoneenakjifaaDoor
open Go.VM
set_option maxRecDepth 100000
theorem e7 (N:Nat) (a0:List (Int)) (a1:Int) (a2:Int):n7 (N+1) (a0,a1,a2) =
 (n8 N a0).bind fun v0 =>
 (n9 N v0).bind fun v1 =>
 (n27 N (a1,(4294967295:Int))).bind fun v2 =>
 aJy (IntKind.i64.wrap ((1:Int)+v2)) fun v3 =>
 (n27 N (a2,(9:Int))).bind fun v4 =>
 aJy (IntKind.i64.wrap ((1:Int)+v4)) fun v5 =>
 (n31 N (v1.1,v3,v5)).bind fun v6 =>
 bif (v6.2 != (0:Int)) then (some false) else ((n20 N v6.1).bind fun v7 =>
 (n22 N v1.1).bind fun v8 =>
 (n22 N v6.1).bind fun v9 =>
 bif ((aJO v1.1)==(0:Int)) then (aJy (bif v9.2 then (v9.1==v3) else false) fun v10 =>
 (bif v10 then (n16 N v6.1) else some (0:Int)).bind fun v11 =>
 aJy (bif v10 then (v11==v5) else false) fun v12 =>
 (bif v12 then (n13 N ()) else some false).bind fun v13 =>
 aJy (bif v12 then v13 else false) fun v14 =>
 some v14) else ((n17 N v6.1).bind fun v15 =>
 aJy (bif v15 then v7.2 else false) fun v16 =>
 aJy (bif v16 then (v7.1==v3) else false) fun v17 =>
 (bif v17 then (n15 N (v6.1,v3)) else some false).bind fun v18 =>
 aJy (bif v17 then v18 else false) fun v19 =>
 (bif v19 then (n16 N v6.1) else some (0:Int)).bind fun v20 =>
 (bif v19 then (n16 N v1.1) else some (0:Int)).bind fun v21 =>
 aJy (IntKind.i64.wrap (v21+v5)) fun v22 =>
 aJy (bif v19 then (v20==v22) else false) fun v23 =>
 aJy (bif v23 then (false != (v8.2==v9.2)) else false) fun v24 =>
 aJy (bif v24 then (v8.1==v9.1) else false) fun v25 =>
 (bif v25 then (n14 N v6.1) else some ([]:List (Int))).bind fun v26 =>
 (bif v25 then (n14 N v1.1) else some ([]:List (Int))).bind fun v27 =>
 aJy (IntKind.i64.wrap ((aJO v27)+v5)) fun v28 =>
 aJy (bif v25 then ((aJO v26)==v28) else false) fun v29 =>
 (bif v29 then (n13 N ()) else some false).bind fun v30 =>
 aJy (bif v29 then v30 else false) fun v31 =>
 some v31)):=by kernel_rfl
end Go.Proofs.YtajoneenakjifaaDoor
