/- The functions as they are read. -/
import Derived.Test.YtghpknbkecolnaaGreatDoorNN
namespace Go.Proofs.YtghpknbkecolnaaGreatDoor
open Go.VM
set_option maxRecDepth 100000
theorem e6 (N:Nat) (a0:List (Int)) (a1:Int) (a2:Int):n6 (N+1) (a0,a1,a2) =
 aJy (decide ((aJO a0) > (40:Int))) fun v0 =>
 bif v0 then ((n7 N ()).bind fun v1 =>
 some v1) else (aBJ (fun (p2:(Int×(List ((Int×Int))×(List ((Int×Int))×(List ((Int×Int×Int))×List ((Int×Int×Int))))))) =>
 (n15 N (p2.2.1,p2.2.2.1)).bind fun v4 =>
 (bif (!(!v4)) then (n16 N (p2.2.2.2.1,p2.2.2.2.2)) else some false).bind fun v5 =>
 aJy (bif (!v4) then true else (!v5)) fun v6 =>
 (bif (!v6) then (n18 N p2.2.1) else some false).bind fun v7 =>
 aJy (bif v6 then true else (!v7)) fun v8 =>
 (bif (!v8) then (n26 N p2.2.2.2.1) else some false).bind fun v9 =>
 aJy (bif v8 then true else (!v9)) fun v10 =>
 bif v10 then (some false) else ((n17 N (p2.1,(65536:Int))).bind fun v11 =>
 (n20 N (p2.2.1,(9:Int),v11)).bind fun v12 =>
 (n11 N (p2.2.1,p2.2.2.2.1)).bind fun v13 =>
 (n13 N v13).bind fun v14 =>
 (bif (v12.2==(0:Int)) then (n24 N (v12.1,(9:Int),v11)) else some false).bind fun v15 =>
 aJy (bif (v12.2==(0:Int)) then v15 else false) fun v16 =>
 (bif v16 then (n22 N (v12.1,(9:Int),v11)) else some ([]:List ((Int×Int)))).bind fun v17 =>
 (bif v16 then (n15 N (v17,p2.2.1)) else some false).bind fun v18 =>
 aJy (bif v16 then v18 else false) fun v19 =>
 aJy (bif v19 then (v14.2.2==(0:Int)) else false) fun v20 =>
 (bif v20 then (n15 N (v14.1,p2.2.1)) else some false).bind fun v21 =>
 aJy (bif v20 then v21 else false) fun v22 =>
 (bif v22 then (n16 N (v14.2.1,p2.2.2.2.1)) else some false).bind fun v23 =>
 aJy (bif v22 then v23 else false) fun v24 =>
 (bif v24 then (n7 N ()) else some false).bind fun v25 =>
 aJy (bif v24 then v25 else false) fun v26 =>
 some v26)) fun j3 =>
 eG N (fun (p27:(List (Int)×(Int×(Int×(List ((Int×Int))×(List ((Int×Int))×(List ((Int×Int×Int))×(List ((Int×Int×Int))×(Int×Int))))))))) =>
 aJy (decide (p27.2.2.2.2.2.2.2.2 < p27.2.2.2.2.2.2.2.1)) fun v28 =>
 bif v28 then ((aEU p27.1 p27.2.2.2.2.2.2.2.2).bind fun v29 =>
 (n17 N (v29,(40:Int))).bind fun v30 =>
 (n17 N (p27.2.1,(aJO p27.1))).bind fun v31 =>
 aJy (IntKind.i64.wrap (p27.2.2.2.2.2.2.2.2+v31)) fun v32 =>
 (if (aJO p27.1)=0 then none else some (Int.tmod v32 (aJO p27.1))).bind fun v33 =>
 (aEU p27.1 v33).bind fun v34 =>
 (n17 N (v34,(40:Int))).bind fun v35 =>
 (n20 N (p27.2.2.2.1,(Int.tmod v30 (4:Int)),v30)).bind fun v36 =>
 (n20 N (p27.2.2.2.2.1,(Int.tmod v35 (4:Int)),v35)).bind fun v37 =>
 (n28 N (p27.2.2.2.2.2.1,(Int.tmod v30 (2:Int)),(Int.tmod v30 (3:Int)),v30)).bind fun v38 =>
 (n28 N (p27.2.2.2.2.2.2.1,(Int.tmod v35 (2:Int)),(Int.tmod v35 (3:Int)),v35)).bind fun v39 =>
 aJy (IntKind.i64.wrap (p27.2.2.2.2.2.2.2.2+(1:Int))) fun v40 =>
 tN (p27.1,p27.2.1,p27.2.2.1,v36.1,v37.1,v38.1,v39.1,p27.2.2.2.2.2.2.2.1,v40)) else (lJ (j3 (p27.2.2.1,p27.2.2.2.1,p27.2.2.2.2.1,p27.2.2.2.2.2.1,p27.2.2.2.2.2.2.1)))) (a0,a1,a2,([]:List ((Int×Int))),([]:List ((Int×Int))),([]:List ((Int×Int×Int))),([]:List ((Int×Int×Int))),(aJO a0),(0:Int))):=by kernel_rfl
end Go.Proofs.YtghpknbkecolnaaGreatDoor
