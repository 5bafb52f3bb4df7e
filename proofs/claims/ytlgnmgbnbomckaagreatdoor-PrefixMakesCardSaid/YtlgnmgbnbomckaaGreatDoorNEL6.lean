/- The functions as they are read. -/
import Derived.Test.YtlgnmgbnbomckaaGreatDoorNN
namespace Go.Proofs.YtlgnmgbnbomckaaGreatDoor
open Go.VM
set_option maxRecDepth 100000
theorem e6 (N:Nat) (a0:((Bool×Int×Int)×Int)) (a1:((Bool×Int×Int)×Int)) (a2:List (Int)):n6 (N+1) (a0,a1,a2) =
 (n11 N a2).bind fun v0 =>
 (n12 N v0).bind fun v1 =>
 (n12 N v1.2).bind fun v2 =>
 (n16 N v2.2).bind fun v3 =>
 (n27 N (v3.2,(9:Int))).bind fun v4 =>
 aJy (IntKind.i64.wrap (v1.1.2 - v4.1)) fun v5 =>
 (n26 N (v1.1.1,(mmT true (0:Int) v5))).bind fun v6 =>
 (n19 N (v1.1,v3.1)).bind fun v7 =>
 (n28 N (v1.1,v3.1)).bind fun v8 =>
 (bif (!(true != (v7==v8))) then (n17 N v1.1) else some (false,(0:Int),(0:Int))).bind fun v9 =>
 (bif (!(true != (v7==v8))) then (n29 N v1.1) else some (false,(0:Int),(0:Int))).bind fun v10 =>
 aJy (true != ((v9.1==v10.1)&&((v9.2.1==v10.2.1)&&(v9.2.2==v10.2.2)))) fun v11 =>
 aJy (bif (true != (v7==v8)) then true else v11) fun v12 =>
 bif v12 then (some false) else (aJy ([(v1.1,v2.1),(v6.1,v1.1),(v1.1,v6.1),(v1.1,v1.1)]:List ((((Bool×Int×Int)×Int)×((Bool×Int×Int)×Int)))) fun v13 =>
 aBJ (fun (p14:(((Bool×Int×Int)×Int)×(((Bool×Int×Int)×Int)×(((Bool×Int×Int)×Int)×(((Bool×Int×Int)×Int)×((Bool×Int×Int)×Int)))))) =>
 aJy ([p14.1,p14.2.2.1,p14.2.2.2.2]:List (((Bool×Int×Int)×Int))) fun v16 =>
 aBJ (fun (p17:Unit) =>
 (n15 N ()).bind fun v19 =>
 some v19) fun j18 =>
 eG N (fun (p20:(((Bool×Int×Int)×Int)×(((Bool×Int×Int)×Int)×(((Bool×Int×Int)×Int)×(List (((Bool×Int×Int)×Int))×(Int×Int)))))) =>
 aJy (decide (p20.2.2.2.2.2 < p20.2.2.2.2.1)) fun v21 =>
 bif v21 then (aBJ (fun (p22:(((Bool×Int×Int)×Int)×(((Bool×Int×Int)×Int)×(((Bool×Int×Int)×Int)×(List (((Bool×Int×Int)×Int))×(Int×Int)))))) =>
 aJy (IntKind.i64.wrap (p22.2.2.2.2.2+(1:Int))) fun v24 =>
 tN (p22.1,p22.2.1,p22.2.2.1,p22.2.2.2.1,p22.2.2.2.2.1,v24)) fun j23 =>
 (aEU p20.2.2.2.1 p20.2.2.2.2.2).bind fun v25 =>
 (n32 N v25).bind fun v26 =>
 (n33 N v25).bind fun v27 =>
 aJy (true != (((v26.1.1.1==v27.1.1.1)&&((v26.1.1.2.1==v27.1.1.2.1)&&(v26.1.1.2.2==v27.1.1.2.2)))&&(v26.1.2==v27.1.2))) fun v28 =>
 aJy (true != (((v26.2.1.1.1==v27.2.1.1.1)&&((v26.2.1.1.2.1==v27.2.1.1.2.1)&&(v26.2.1.1.2.2==v27.2.1.1.2.2)))&&(v26.2.1.2==v27.2.1.2))) fun v29 =>
 aJy (bif (bif v28 then true else v29) then true else (v26.2.2 != v27.2.2)) fun v30 =>
 bif v30 then (lJ (some false)) else (aJy ([p20.1,p20.2.1,p20.2.2.1]:List (((Bool×Int×Int)×Int))) fun v31 =>
 aBJ (fun (p32:(((Bool×Int×Int)×Int)×(((Bool×Int×Int)×Int)×(((Bool×Int×Int)×Int)×(List (((Bool×Int×Int)×Int))×(Int×Int)))))) =>
 j23 (p32.1,p32.2.1,p32.2.2.1,p32.2.2.2.1,p32.2.2.2.2.1,p32.2.2.2.2.2)) fun j33 =>
 eG N (fun (p34:(((Bool×Int×Int)×Int)×(((Bool×Int×Int)×Int)×(((Bool×Int×Int)×Int)×(((Bool×Int×Int)×Int)×(List (((Bool×Int×Int)×Int))×(Int×(Int×(List (((Bool×Int×Int)×Int))×(Int×Int)))))))))) =>
 aJy (decide (p34.2.2.2.2.2.2.2.2.2 < p34.2.2.2.2.2.2.2.2.1)) fun v35 =>
 bif v35 then ((aEU p34.2.2.2.2.2.2.2.1 p34.2.2.2.2.2.2.2.2.2).bind fun v36 =>
 (n34 N (p34.2.2.2.1,v36)).bind fun v37 =>
 (n35 N (p34.2.2.2.1,v36)).bind fun v38 =>
 aJy (true != (((v37.1.1.1==v38.1.1.1)&&((v37.1.1.2.1==v38.1.1.2.1)&&(v37.1.1.2.2==v38.1.1.2.2)))&&(v37.1.2==v38.1.2))) fun v39 =>
 aJy (bif v39 then true else (v37.2 != v38.2)) fun v40 =>
 bif v40 then (lJ (lJ (some false))) else (aJy (IntKind.i64.wrap (p34.2.2.2.2.2.2.2.2.2+(1:Int))) fun v41 =>
 tN (p34.1,p34.2.1,p34.2.2.1,p34.2.2.2.1,p34.2.2.2.2.1,p34.2.2.2.2.2.1,p34.2.2.2.2.2.2.1,p34.2.2.2.2.2.2.2.1,p34.2.2.2.2.2.2.2.2.1,v41))) else (lJ (j33 (p34.1,p34.2.1,p34.2.2.1,p34.2.2.2.2.1,p34.2.2.2.2.2.1,p34.2.2.2.2.2.2.1)))) (p20.1,p20.2.1,p20.2.2.1,v25,p20.2.2.2.1,p20.2.2.2.2.1,p20.2.2.2.2.2,v31,(aJO v31),(0:Int)))) else (lJ (j18 ()))) (p14.2.1,p14.2.2.2.1,p14.2.2.2.2,v16,(aJO v16),(0:Int))) fun j15 =>
 eG N (fun (p42:(((Bool×Int×Int)×Int)×(((Bool×Int×Int)×Int)×(((Bool×Int×Int)×Int)×(((Bool×Int×Int)×Int)×(((Bool×Int×Int)×Int)×(List ((((Bool×Int×Int)×Int)×((Bool×Int×Int)×Int)))×(Int×Int)))))))) =>
 aJy (decide (p42.2.2.2.2.2.2.2 < p42.2.2.2.2.2.2.1)) fun v43 =>
 bif v43 then ((aEU p42.2.2.2.2.2.1 p42.2.2.2.2.2.2.2).bind fun v44 =>
 (n30 N (v44.1,v44.2)).bind fun v45 =>
 (n31 N (v44.1,v44.2)).bind fun v46 =>
 (bif (!(true != (v45==v46))) then (n19 N (v44.1,v44.2.1)) else some false).bind fun v47 =>
 (bif (!(true != (v45==v46))) then (n28 N (v44.1,v44.2.1)) else some false).bind fun v48 =>
 aJy (bif (true != (v45==v46)) then true else (true != (v47==v48))) fun v49 =>
 bif v49 then (lJ (some false)) else (aJy (IntKind.i64.wrap (p42.2.2.2.2.2.2.2+(1:Int))) fun v50 =>
 tN (p42.1,p42.2.1,p42.2.2.1,p42.2.2.2.1,p42.2.2.2.2.1,p42.2.2.2.2.2.1,p42.2.2.2.2.2.2.1,v50))) else (lJ (j15 (p42.1,p42.2.1,p42.2.2.1,p42.2.2.2.1,p42.2.2.2.2.1)))) (a0,a1,v1.1,v2.1,v6.1,v13,(aJO v13),(0:Int))):=by kernel_rfl
end Go.Proofs.YtlgnmgbnbomckaaGreatDoor
