/- The functions as they are read. -/
import Derived.Test.YtlgnmgbnbomckaaGreatDoorNN
namespace Go.Proofs.YtlgnmgbnbomckaaGreatDoor
open Go.VM
set_option maxRecDepth 100000
theorem e8 (N:Nat) (a0:((Bool×Int×Int)×Int)) (a1:(Bool×Int×Int)) (a2:List (Int)) (a3:Int):n8 (N+1) (a0,a1,a2,a3) =
 (n11 N a2).bind fun v0 =>
 (n12 N v0).bind fun v1 =>
 (n12 N v1.2).bind fun v2 =>
 (n16 N v2.2).bind fun v3 =>
 (n24 N (a3,(5:Int))).bind fun v4 =>
 aJy (IntKind.i64.wrap (v4 - (2:Int))) fun v5 =>
 aJy (IntKind.i64.wrap (v1.1.2+v5)) fun v6 =>
 aJy ([a0,v1.1,(v1.1.1,v6)]:List (((Bool×Int×Int)×Int))) fun v7 =>
 aBJ (fun (p8:(Int×((Bool×Int×Int)×(((Bool×Int×Int)×Int)×(((Bool×Int×Int)×Int)×(Bool×Int×Int)))))) =>
 (n24 N (p8.1,(132:Int))).bind fun v10 =>
 aJy (IntKind.i64.wrap (v10 - (2:Int))) fun v11 =>
 (n24 N (p8.1,(36:Int))).bind fun v12 =>
 aJy (IntKind.i64.wrap (v12 - (2:Int))) fun v13 =>
 aJy ([p8.1,v11,v13]:List (Int)) fun v14 =>
 aBJ (fun (p15:(((Bool×Int×Int)×Int)×((Bool×Int×Int)×Int))) =>
 (n41 N (p15.1,p15.2)).bind fun v17 =>
 (n42 N (p15.1,p15.2)).bind fun v18 =>
 (bif (v17==v18) then (n41 N (p15.2,p15.1)) else some (0:Int)).bind fun v19 =>
 (bif (v17==v18) then (n42 N (p15.2,p15.1)) else some (0:Int)).bind fun v20 =>
 aJy (bif (v17==v18) then (v19==v20) else false) fun v21 =>
 (bif v21 then (n41 N (p15.1,p15.1)) else some (0:Int)).bind fun v22 =>
 aJy (bif v21 then (v22==(0:Int)) else false) fun v23 =>
 (bif v23 then (n15 N ()) else some false).bind fun v24 =>
 aJy (bif v23 then v24 else false) fun v25 =>
 some v25) fun j16 =>
 eG N (fun (p26:((Bool×Int×Int)×(((Bool×Int×Int)×Int)×(((Bool×Int×Int)×Int)×((Bool×Int×Int)×(List (Int)×(Int×Int))))))) =>
 aJy (decide (p26.2.2.2.2.2.2 < p26.2.2.2.2.2.1)) fun v27 =>
 bif v27 then (aBJ (fun (p28:((Bool×Int×Int)×(((Bool×Int×Int)×Int)×(((Bool×Int×Int)×Int)×((Bool×Int×Int)×(List (Int)×(Int×Int))))))) =>
 aJy (IntKind.i64.wrap (p28.2.2.2.2.2.2+(1:Int))) fun v30 =>
 tN (p28.1,p28.2.1,p28.2.2.1,p28.2.2.2.1,p28.2.2.2.2.1,p28.2.2.2.2.2.1,v30)) fun j29 =>
 (aEU p26.2.2.2.2.1 p26.2.2.2.2.2.2).bind fun v31 =>
 aJy ([p26.1,p26.2.2.2.1]:List ((Bool×Int×Int))) fun v32 =>
 aBJ (fun (p33:((Bool×Int×Int)×(((Bool×Int×Int)×Int)×(((Bool×Int×Int)×Int)×((Bool×Int×Int)×(Int×(List (Int)×(Int×Int)))))))) =>
 (n37 N (p33.2.2.2.1,p33.2.2.2.2.1)).bind fun v35 =>
 (n40 N (p33.2.2.2.1,p33.2.2.2.2.1)).bind fun v36 =>
 bif (v35 != v36) then (lJ (some false)) else (j29 (p33.1,p33.2.1,p33.2.2.1,p33.2.2.2.1,p33.2.2.2.2.2.1,p33.2.2.2.2.2.2.1,p33.2.2.2.2.2.2.2))) fun j34 =>
 eG N (fun (p37:((Bool×Int×Int)×(((Bool×Int×Int)×Int)×(((Bool×Int×Int)×Int)×((Bool×Int×Int)×(Int×(List (Int)×(Int×(Int×(List ((Bool×Int×Int))×(Int×Int))))))))))) =>
 aJy (decide (p37.2.2.2.2.2.2.2.2.2.2 < p37.2.2.2.2.2.2.2.2.2.1)) fun v38 =>
 bif v38 then ((aEU p37.2.2.2.2.2.2.2.2.1 p37.2.2.2.2.2.2.2.2.2.2).bind fun v39 =>
 (n36 N (v39,p37.2.2.2.2.1)).bind fun v40 =>
 (n26 N (v39,p37.2.2.2.2.1)).bind fun v41 =>
 aJy (true != (((v40.1.1.1==v41.1.1.1)&&((v40.1.1.2.1==v41.1.1.2.1)&&(v40.1.1.2.2==v41.1.1.2.2)))&&(v40.1.2==v41.1.2))) fun v42 =>
 aJy (bif v42 then true else (v40.2 != v41.2)) fun v43 =>
 bif v43 then (lJ (lJ (some false))) else (aJy (IntKind.i64.wrap (p37.2.2.2.2.2.2.2.2.2.2+(1:Int))) fun v44 =>
 tN (p37.1,p37.2.1,p37.2.2.1,p37.2.2.2.1,p37.2.2.2.2.1,p37.2.2.2.2.2.1,p37.2.2.2.2.2.2.1,p37.2.2.2.2.2.2.2.1,p37.2.2.2.2.2.2.2.2.1,p37.2.2.2.2.2.2.2.2.2.1,v44))) else (lJ (j34 (p37.1,p37.2.1,p37.2.2.1,p37.2.2.2.1,p37.2.2.2.2.1,p37.2.2.2.2.2.1,p37.2.2.2.2.2.2.1,p37.2.2.2.2.2.2.2.1)))) (p26.1,p26.2.1,p26.2.2.1,p26.2.2.2.1,v31,p26.2.2.2.2.1,p26.2.2.2.2.2.1,p26.2.2.2.2.2.2,v32,(aJO v32),(0:Int))) else (lJ (j16 (p26.2.1,p26.2.2.1)))) (p8.2.1,p8.2.2.1,p8.2.2.2.1,p8.2.2.2.2,v14,(aJO v14),(0:Int))) fun j9 =>
 eG N (fun (p45:(Int×((Bool×Int×Int)×(((Bool×Int×Int)×Int)×(((Bool×Int×Int)×Int)×((Bool×Int×Int)×(List (((Bool×Int×Int)×Int))×(Int×Int)))))))) =>
 aJy (decide (p45.2.2.2.2.2.2.2 < p45.2.2.2.2.2.2.1)) fun v46 =>
 bif v46 then ((aEU p45.2.2.2.2.2.1 p45.2.2.2.2.2.2.2).bind fun v47 =>
 (n38 N v47).bind fun v48 =>
 (n39 N v47).bind fun v49 =>
 bif (true != (v48==v49)) then (lJ (some false)) else (aJy (IntKind.i64.wrap (p45.2.2.2.2.2.2.2+(1:Int))) fun v50 =>
 tN (p45.1,p45.2.1,p45.2.2.1,p45.2.2.2.1,p45.2.2.2.2.1,p45.2.2.2.2.2.1,p45.2.2.2.2.2.2.1,v50))) else (lJ (j9 (p45.1,p45.2.1,p45.2.2.1,p45.2.2.2.1,p45.2.2.2.2.1)))) (a3,a1,v1.1,v2.1,v3.1,v7,(aJO v7),(0:Int)):=by kernel_rfl
end Go.Proofs.YtlgnmgbnbomckaaGreatDoor
