/- The functions as they are read. -/
import Derived.Test.YtghpknbkecolnaaGreatDoorNN
namespace Go.Proofs.YtghpknbkecolnaaGreatDoor
open Go.VM
set_option maxRecDepth 100000
theorem e4 (N:Nat) (a0:List ((Int×Int))) (a1:(Int×Int)) (a2:List (Int)) (a3:Int) (a4:Bool):n4 (N+1) (a0,a1,a2,a3,a4) =
 aJy (decide ((aJO a0) > (80:Int))) fun v0 =>
 bif v0 then ((n7 N ()).bind fun v1 =>
 some v1) else ((n8 N a2).bind fun v2 =>
 (n9 N v2).bind fun v3 =>
 aBJ (fun (p4:(List ((Int×Int))×(Int×((Int×Int)×List ((Int×Int)))))) =>
 aJy ([(1:Int),(65000:Int),(65535:Int),(65536:Int),(-1:Int),(0:Int)]:List (Int)) fun v6 =>
 (n17 N (p4.2.1,(6:Int))).bind fun v7 =>
 (aEU v6 v7).bind fun v8 =>
 aJy ([(0:Int),(3:Int),(666:Int),(65535:Int),(65536:Int),(-1:Int),(1:Int)]:List (Int)) fun v9 =>
 aJy (IntKind.i64.wrap (Int.tdiv p4.2.1 (6:Int))) fun v10 =>
 (n17 N (v10,(7:Int))).bind fun v11 =>
 (aEU v9 v11).bind fun v12 =>
 (aH3 16 ([]:List ((Int×Int))) p4.2.2.2).bind fun v13 =>
 aJy ([(v8,v12)]:List ((Int×Int))) fun v14 =>
 (aH3 16 v13 v14).bind fun v15 =>
 aJy ([p4.1,p4.2.2.2,v15]:List (List ((Int×Int)))) fun v16 =>
 aBJ (fun (p17:Unit) =>
 (n7 N ()).bind fun v19 =>
 some v19) fun j18 =>
 eG N (fun (p20:((Int×Int)×((Int×Int)×(List (List ((Int×Int)))×(Int×Int))))) =>
 aJy (decide (p20.2.2.2.2 < p20.2.2.2.1)) fun v21 =>
 bif v21 then (aBJ (fun (p22:((Int×Int)×((Int×Int)×(List (List ((Int×Int)))×(Int×Int))))) =>
 aJy (IntKind.i64.wrap (p22.2.2.2.2+(1:Int))) fun v24 =>
 tN (p22.1,p22.2.1,p22.2.2.1,p22.2.2.2.1,v24)) fun j23 =>
 (aEU p20.2.2.1 p20.2.2.2.2).bind fun v25 =>
 (n18 N v25).bind fun v26 =>
 (n19 N v25).bind fun v27 =>
 bif (true != (v26==v27)) then (lJ (some false)) else (aJy ([p20.1,p20.2.1]:List ((Int×Int))) fun v28 =>
 aBJ (fun (p29:((Int×Int)×((Int×Int)×(List (List ((Int×Int)))×(Int×Int))))) =>
 j23 (p29.1,p29.2.1,p29.2.2.1,p29.2.2.2.1,p29.2.2.2.2)) fun j30 =>
 eG N (fun (p31:((Int×Int)×((Int×Int)×(List ((Int×Int))×(List (List ((Int×Int)))×(Int×(Int×(List ((Int×Int))×(Int×Int))))))))) =>
 aJy (decide (p31.2.2.2.2.2.2.2.2 < p31.2.2.2.2.2.2.2.1)) fun v32 =>
 bif v32 then ((aEU p31.2.2.2.2.2.2.1 p31.2.2.2.2.2.2.2.2).bind fun v33 =>
 (n20 N (p31.2.2.1,v33)).bind fun v34 =>
 (n21 N (p31.2.2.1,v33)).bind fun v35 =>
 (n15 N (v34.1,v35.1)).bind fun v36 =>
 aJy (bif (!v36) then true else (v34.2 != v35.2)) fun v37 =>
 (bif (!v37) then (n22 N (p31.2.2.1,v33)) else some ([]:List ((Int×Int)))).bind fun v38 =>
 (bif (!v37) then (n23 N (p31.2.2.1,v33)) else some ([]:List ((Int×Int)))).bind fun v39 =>
 (bif (!v37) then (n15 N (v38,v39)) else some false).bind fun v40 =>
 aJy (bif v37 then true else (!v40)) fun v41 =>
 (bif (!v41) then (n24 N (p31.2.2.1,v33)) else some false).bind fun v42 =>
 (bif (!v41) then (n25 N (p31.2.2.1,v33)) else some false).bind fun v43 =>
 aJy (bif v41 then true else (true != (v42==v43))) fun v44 =>
 bif v44 then (lJ (lJ (some false))) else (aJy (IntKind.i64.wrap (p31.2.2.2.2.2.2.2.2+(1:Int))) fun v45 =>
 tN (p31.1,p31.2.1,p31.2.2.1,p31.2.2.2.1,p31.2.2.2.2.1,p31.2.2.2.2.2.1,p31.2.2.2.2.2.2.1,p31.2.2.2.2.2.2.2.1,v45))) else (lJ (j30 (p31.1,p31.2.1,p31.2.2.2.1,p31.2.2.2.2.1,p31.2.2.2.2.2.1)))) (p20.1,p20.2.1,v25,p20.2.2.1,p20.2.2.2.1,p20.2.2.2.2,v28,(aJO v28),(0:Int)))) else (lJ (j18 ()))) (p4.2.2.1,(v8,v12),v16,(aJO v16),(0:Int))) fun j5 =>
 bif a4 then (aBJ (fun (p46:(List ((Int×Int))×(Int×((Int×Int)×List ((Int×Int)))))) =>
 j5 (p46.1,p46.2.1,p46.2.2.1,p46.2.2.2)) fun j47 =>
 eG N (fun (p48:(List ((Int×Int))×(Int×((Int×Int)×(List ((Int×Int))×Int))))) =>
 aJy (decide (p48.2.2.2.2 < (64:Int))) fun v49 =>
 bif v49 then (aJy (IntKind.i64.wrap ((2:Int) * p48.2.2.2.2)) fun v50 =>
 aJy ([((1:Int),v50)]:List ((Int×Int))) fun v51 =>
 (aH3 16 p48.2.2.2.1 v51).bind fun v52 =>
 aJy (IntKind.i64.wrap (p48.2.2.2.2+(1:Int))) fun v53 =>
 tN (p48.1,p48.2.1,p48.2.2.1,v52,v53)) else (lJ (j47 (p48.1,p48.2.1,p48.2.2.1,p48.2.2.2.1)))) (a0,a3,a1,([]:List ((Int×Int))),(0:Int))) else (j5 (a0,a3,a1,v3.1))):=by kernel_rfl
end Go.Proofs.YtghpknbkecolnaaGreatDoor
