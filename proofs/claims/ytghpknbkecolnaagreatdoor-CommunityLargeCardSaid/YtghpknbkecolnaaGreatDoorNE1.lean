/- The functions as they are read. -/
import Derived.Test.YtghpknbkecolnaaGreatDoorNN
namespace Go.Proofs.YtghpknbkecolnaaGreatDoor
open Go.VM
set_option maxRecDepth 100000
theorem e5 (N:Nat) (a0:List ((Int×Int×Int))) (a1:(Int×Int×Int)) (a2:List (Int)) (a3:Int) (a4:Bool):n5 (N+1) (a0,a1,a2,a3,a4) =
 aJy (decide ((aJO a0) > (80:Int))) fun v0 =>
 bif v0 then ((n7 N ()).bind fun v1 =>
 some v1) else ((n8 N a2).bind fun v2 =>
 (n9 N v2).bind fun v3 =>
 aBJ (fun (p4:(List ((Int×Int×Int))×(Int×((Int×Int×Int)×List ((Int×Int×Int)))))) =>
 aJy ([(0:Int),(1:Int),(2:Int),(3:Int),(65000:Int),(4294967295:Int),(4294967296:Int),(-1:Int)]:List (Int)) fun v6 =>
 (n17 N (p4.2.1,(8:Int))).bind fun v7 =>
 (aEU v6 v7).bind fun v8 =>
 aJy (IntKind.i64.wrap (Int.tdiv p4.2.1 (8:Int))) fun v9 =>
 (n17 N (v9,(8:Int))).bind fun v10 =>
 (aEU v6 v10).bind fun v11 =>
 aJy (IntKind.i64.wrap (Int.tdiv p4.2.1 (64:Int))) fun v12 =>
 (n17 N (v12,(8:Int))).bind fun v13 =>
 (aEU v6 v13).bind fun v14 =>
 (aH3 24 ([]:List ((Int×Int×Int))) p4.2.2.2).bind fun v15 =>
 aJy ([(v8,v11,v14)]:List ((Int×Int×Int))) fun v16 =>
 (aH3 24 v15 v16).bind fun v17 =>
 aJy ([p4.1,p4.2.2.2,v17]:List (List ((Int×Int×Int)))) fun v18 =>
 aBJ (fun (p19:Unit) =>
 (n7 N ()).bind fun v21 =>
 some v21) fun j20 =>
 eG N (fun (p22:((Int×Int×Int)×((Int×Int×Int)×(List (List ((Int×Int×Int)))×(Int×Int))))) =>
 aJy (decide (p22.2.2.2.2 < p22.2.2.2.1)) fun v23 =>
 bif v23 then (aBJ (fun (p24:((Int×Int×Int)×((Int×Int×Int)×(List (List ((Int×Int×Int)))×(Int×Int))))) =>
 aJy (IntKind.i64.wrap (p24.2.2.2.2+(1:Int))) fun v26 =>
 tN (p24.1,p24.2.1,p24.2.2.1,p24.2.2.2.1,v26)) fun j25 =>
 (aEU p22.2.2.1 p22.2.2.2.2).bind fun v27 =>
 (n26 N v27).bind fun v28 =>
 (n27 N v27).bind fun v29 =>
 bif (true != (v28==v29)) then (lJ (some false)) else (aJy ([p22.1,p22.2.1]:List ((Int×Int×Int))) fun v30 =>
 aBJ (fun (p31:((Int×Int×Int)×((Int×Int×Int)×(List (List ((Int×Int×Int)))×(Int×Int))))) =>
 j25 (p31.1,p31.2.1,p31.2.2.1,p31.2.2.2.1,p31.2.2.2.2)) fun j32 =>
 eG N (fun (p33:((Int×Int×Int)×((Int×Int×Int)×(List ((Int×Int×Int))×(List (List ((Int×Int×Int)))×(Int×(Int×(List ((Int×Int×Int))×(Int×Int))))))))) =>
 aJy (decide (p33.2.2.2.2.2.2.2.2 < p33.2.2.2.2.2.2.2.1)) fun v34 =>
 bif v34 then ((aEU p33.2.2.2.2.2.2.1 p33.2.2.2.2.2.2.2.2).bind fun v35 =>
 (n28 N (p33.2.2.1,v35)).bind fun v36 =>
 (n29 N (p33.2.2.1,v35)).bind fun v37 =>
 (n16 N (v36.1,v37.1)).bind fun v38 =>
 aJy (bif (!v38) then true else (v36.2 != v37.2)) fun v39 =>
 (bif (!v39) then (n30 N (p33.2.2.1,v35)) else some ([]:List ((Int×Int×Int)))).bind fun v40 =>
 (bif (!v39) then (n31 N (p33.2.2.1,v35)) else some ([]:List ((Int×Int×Int)))).bind fun v41 =>
 (bif (!v39) then (n16 N (v40,v41)) else some false).bind fun v42 =>
 aJy (bif v39 then true else (!v42)) fun v43 =>
 (bif (!v43) then (n32 N (p33.2.2.1,v35)) else some false).bind fun v44 =>
 (bif (!v43) then (n33 N (p33.2.2.1,v35)) else some false).bind fun v45 =>
 aJy (bif v43 then true else (true != (v44==v45))) fun v46 =>
 bif v46 then (lJ (lJ (some false))) else (aJy (IntKind.i64.wrap (p33.2.2.2.2.2.2.2.2+(1:Int))) fun v47 =>
 tN (p33.1,p33.2.1,p33.2.2.1,p33.2.2.2.1,p33.2.2.2.2.1,p33.2.2.2.2.2.1,p33.2.2.2.2.2.2.1,p33.2.2.2.2.2.2.2.1,v47))) else (lJ (j32 (p33.1,p33.2.1,p33.2.2.2.1,p33.2.2.2.2.1,p33.2.2.2.2.2.1)))) (p22.1,p22.2.1,v27,p22.2.2.1,p22.2.2.2.1,p22.2.2.2.2,v30,(aJO v30),(0:Int)))) else (lJ (j20 ()))) (p4.2.2.1,(v8,v11,v14),v18,(aJO v18),(0:Int))) fun j5 =>
 bif a4 then (aBJ (fun (p48:(List ((Int×Int×Int))×(Int×((Int×Int×Int)×List ((Int×Int×Int)))))) =>
 j5 (p48.1,p48.2.1,p48.2.2.1,p48.2.2.2)) fun j49 =>
 eG N (fun (p50:(List ((Int×Int×Int))×(Int×((Int×Int×Int)×(List ((Int×Int×Int))×Int))))) =>
 aJy (decide (p50.2.2.2.2 < (64:Int))) fun v51 =>
 bif v51 then (aJy (IntKind.i64.wrap (Int.tdiv p50.2.2.2.2 (8:Int))) fun v52 =>
 aJy (IntKind.i64.wrap ((2:Int) * p50.2.2.2.2)) fun v53 =>
 aJy ([((1:Int),v52,v53)]:List ((Int×Int×Int))) fun v54 =>
 (aH3 24 p50.2.2.2.1 v54).bind fun v55 =>
 aJy (IntKind.i64.wrap (p50.2.2.2.2+(1:Int))) fun v56 =>
 tN (p50.1,p50.2.1,p50.2.2.1,v55,v56)) else (lJ (j49 (p50.1,p50.2.1,p50.2.2.1,p50.2.2.2.1)))) (a0,a3,a1,([]:List ((Int×Int×Int))),(0:Int))) else (j5 (a0,a3,a1,v3.2.1))):=by kernel_rfl
end Go.Proofs.YtghpknbkecolnaaGreatDoor
