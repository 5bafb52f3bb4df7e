/- The functions as they are read. -/
import Derived.Test.YtajoneenakjifaaDoorNN
namespace Go.Proofs.YtajoneenakjifaaDoor
open Go.VM
set_option maxRecDepth 100000
theorem e5 (N:Nat) (a0:List ((Bool×(List (Int))))) (a1:List (Int)) (a2:Int) (a3:Int) (a4:Int):n5 (N+1) (a0,a1,a2,a3,a4) =
 (n18 N a0).bind fun v0 =>
 bif (!v0) then ((n13 N ()).bind fun v1 =>
 some v1) else ((n8 N a1).bind fun v2 =>
 (n9 N v2).bind fun v3 =>
 (n19 N (v3.1,a3,a4)).bind fun v4 =>
 aJy ([a0,v3.1,v4]:List (List ((Bool×(List (Int)))))) fun v5 =>
 aBJ (fun (p6:(Int×Int)) =>
 aJy ([(0:Int),(1:Int),(23455:Int),(23456:Int),(23457:Int),(64495:Int),(64496:Int),(131071:Int),(131072:Int),(4199999999:Int),(4200000000:Int),(4294967295:Int),(4294967296:Int),(-1:Int)]:List (Int)) fun v8 =>
 (n27 N (p6.2,(14:Int))).bind fun v9 =>
 (aEU v8 v9).bind fun v10 =>
 (n29 N p6.1).bind fun v11 =>
 (n30 N p6.1).bind fun v12 =>
 (bif (false != (v11==v12)) then (n29 N v10) else some false).bind fun v13 =>
 (bif (false != (v11==v12)) then (n30 N v10) else some false).bind fun v14 =>
 aJy (bif (false != (v11==v12)) then (false != (v13==v14)) else false) fun v15 =>
 (bif v15 then (n13 N ()) else some false).bind fun v16 =>
 aJy (bif v15 then v16 else false) fun v17 =>
 some v17) fun j7 =>
 eG N (fun (p18:(Int×(Int×(List (List ((Bool×(List (Int)))))×(Int×Int))))) =>
 aJy (decide (p18.2.2.2.2 < p18.2.2.2.1)) fun v19 =>
 bif v19 then (aBJ (fun (p20:(Int×(Int×(List (List ((Bool×(List (Int)))))×(Int×Int))))) =>
 aJy (IntKind.i64.wrap (p20.2.2.2.2+(1:Int))) fun v22 =>
 tN (p20.1,p20.2.1,p20.2.2.1,p20.2.2.2.1,v22)) fun j21 =>
 (aEU p18.2.2.1 p18.2.2.2.2).bind fun v23 =>
 (n20 N v23).bind fun v24 =>
 (n21 N v23).bind fun v25 =>
 (n22 N v23).bind fun v26 =>
 (n23 N v23).bind fun v27 =>
 (n17 N v23).bind fun v28 =>
 (n24 N v23).bind fun v29 =>
 (bif (!(true != (v28==v29))) then (n16 N v23) else some (0:Int)).bind fun v30 =>
 (bif (!(true != (v28==v29))) then (n25 N v23) else some (0:Int)).bind fun v31 =>
 aJy (bif (true != (v28==v29)) then true else (v30 != v31)) fun v32 =>
 aJy (bif v32 then true else (v24.1 != v25.1)) fun v33 =>
 aJy (bif v33 then true else (true != (v24.2==v25.2))) fun v34 =>
 aJy (bif v34 then true else (v26.1 != v27.1)) fun v35 =>
 aJy (bif v35 then true else (true != (v26.2==v27.2))) fun v36 =>
 bif v36 then (lJ (some false)) else ((n14 N v23).bind fun v37 =>
 (n26 N v23).bind fun v38 =>
 bif ((aJO v37) != (aJO v38)) then (lJ (some false)) else (aBJ (fun (p39:(Int×(Int×(List ((Bool×(List (Int))))×(List (List ((Bool×(List (Int)))))×(Int×Int)))))) =>
 (n27 N (p39.1,(12:Int))).bind fun v41 =>
 aJy ([p39.1,(7:Int),v41]:List (Int)) fun v42 =>
 aBJ (fun (p43:(Int×(Int×(List (List ((Bool×(List (Int)))))×(Int×Int))))) =>
 j21 (p43.1,p43.2.1,p43.2.2.1,p43.2.2.2.1,p43.2.2.2.2)) fun j44 =>
 eG N (fun (p45:(Int×(Int×(List ((Bool×(List (Int))))×(List (List ((Bool×(List (Int)))))×(Int×(Int×(List (Int)×(Int×Int))))))))) =>
 aJy (decide (p45.2.2.2.2.2.2.2.2 < p45.2.2.2.2.2.2.2.1)) fun v46 =>
 bif v46 then ((aEU p45.2.2.2.2.2.2.1 p45.2.2.2.2.2.2.2.2).bind fun v47 =>
 (n15 N (p45.2.2.1,v47)).bind fun v48 =>
 (n28 N (p45.2.2.1,v47)).bind fun v49 =>
 bif (true != (v48==v49)) then (lJ (lJ (some false))) else (aJy (IntKind.i64.wrap (p45.2.2.2.2.2.2.2.2+(1:Int))) fun v50 =>
 tN (p45.1,p45.2.1,p45.2.2.1,p45.2.2.2.1,p45.2.2.2.2.1,p45.2.2.2.2.2.1,p45.2.2.2.2.2.2.1,p45.2.2.2.2.2.2.2.1,v50))) else (lJ (j44 (p45.1,p45.2.1,p45.2.2.2.1,p45.2.2.2.2.1,p45.2.2.2.2.2.1)))) (p39.1,p39.2.1,p39.2.2.1,p39.2.2.2.1,p39.2.2.2.2.1,p39.2.2.2.2.2,v42,(aJO v42),(0:Int))) fun j40 =>
 eG N (fun (p51:(Int×(Int×(List ((Bool×(List (Int))))×(List (Int)×(List (Int)×(List (List ((Bool×(List (Int)))))×(Int×(Int×(Int×Int)))))))))) =>
 aJy (decide (p51.2.2.2.2.2.2.2.2.2 < p51.2.2.2.2.2.2.2.2.1)) fun v52 =>
 bif v52 then ((aEU p51.2.2.2.1 p51.2.2.2.2.2.2.2.2.2).bind fun v53 =>
 (aEU p51.2.2.2.2.1 p51.2.2.2.2.2.2.2.2.2).bind fun v54 =>
 bif (v53 != v54) then (lJ (lJ (some false))) else (aJy (IntKind.i64.wrap (p51.2.2.2.2.2.2.2.2.2+(1:Int))) fun v55 =>
 tN (p51.1,p51.2.1,p51.2.2.1,p51.2.2.2.1,p51.2.2.2.2.1,p51.2.2.2.2.2.1,p51.2.2.2.2.2.2.1,p51.2.2.2.2.2.2.2.1,p51.2.2.2.2.2.2.2.2.1,v55))) else (lJ (j40 (p51.1,p51.2.1,p51.2.2.1,p51.2.2.2.2.2.1,p51.2.2.2.2.2.2.1,p51.2.2.2.2.2.2.2.1)))) (p18.1,p18.2.1,v23,v37,v38,p18.2.2.1,p18.2.2.2.1,p18.2.2.2.2,(aJO v37),(0:Int))))) else (lJ (j7 (p18.1,p18.2.1)))) (a2,a4,v5,(aJO v5),(0:Int))):=by kernel_rfl
end Go.Proofs.YtajoneenakjifaaDoor
