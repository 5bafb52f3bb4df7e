/- The functions as they are read. -/
import Derived.Test.YtghpknbkecolnaaDoorNN
namespace Go.Proofs.YtghpknbkecolnaaDoor
open Go.VM
set_option maxRecDepth 100000
theorem e3 (N:Nat) (a0:List (Int)) (a1:Int):n3 (N+1) (a0,a1) =
 aJy (decide ((aJO a0) > (200:Int))) fun v0 =>
 bif v0 then ((n4 N ()).bind fun v1 =>
 some v1) else (aBJ (fun (p2:(Int×List ((Int×Int)))) =>
 aBJ (fun (p4:(Int×List ((Int×Int)))) =>
 bif ((aJO p4.2) != (64:Int)) then (some false) else ((n6 N (p4.1,(65536:Int))).bind fun v6 =>
 (n5 N (p4.2,(65535:Int),v6)).bind fun v7 =>
 (n6 N (p4.1,(aJO p4.2))).bind fun v8 =>
 (aEU p4.2 v8).bind fun v9 =>
 (n5 N (p4.2,v9)).bind fun v10 =>
 (n7 N p4.2).bind fun v11 =>
 aJy (bif v11 then (v7.2==(3:Int)) else false) fun v12 =>
 aJy (bif v12 then (v10.2==(0:Int)) else false) fun v13 =>
 (bif v13 then (n8 N (v10.1,p4.2)) else some false).bind fun v14 =>
 aJy (bif v13 then v14 else false) fun v15 =>
 (bif v15 then (n4 N ()) else some false).bind fun v16 =>
 aJy (bif v15 then v16 else false) fun v17 =>
 some v17)) fun j5 =>
 eG N (fun (p18:(Int×(List ((Int×Int))×Int))) =>
 aJy (decide (p18.2.2 < (64:Int))) fun v19 =>
 bif v19 then (aJy (IntKind.i64.wrap ((100:Int)+p18.2.2)) fun v20 =>
 (n5 N (p18.2.1,v20,(2:Int))).bind fun v21 =>
 bif (v21.2 != (0:Int)) then (lJ (some false)) else (aJy (IntKind.i64.wrap (p18.2.2+(1:Int))) fun v22 =>
 tN (p18.1,v21.1,v22))) else (lJ (j5 (p18.1,p18.2.1)))) (p2.1,p2.2,(aJO p2.2))) fun j3 =>
 eG N (fun (p23:(Int×(List ((Int×Int))×(List (Int)×(Int×Int))))) =>
 aJy (decide (p23.2.2.2.2 < p23.2.2.2.1)) fun v24 =>
 bif v24 then (aBJ (fun (p25:(Int×(List ((Int×Int))×(List (Int)×(Int×Int))))) =>
 aJy (IntKind.i64.wrap (p25.2.2.2.2+(1:Int))) fun v27 =>
 tN (p25.1,p25.2.1,p25.2.2.1,p25.2.2.2.1,v27)) fun j26 =>
 (aEU p23.2.2.1 p23.2.2.2.2).bind fun v28 =>
 (n6 N (v28,(70:Int))).bind fun v29 =>
 (n5 N (p23.2.1,v29,(1:Int))).bind fun v30 =>
 aBJ (fun (p31:(Int×(List ((Int×Int))×(List (Int)×(Int×Int))))) =>
 j26 (p31.1,p31.2.1,p31.2.2.1,p31.2.2.2.1,p31.2.2.2.2)) fun j32 =>
 bif (v30.2==(0:Int)) then (j32 (p23.1,v30.1,p23.2.2.1,p23.2.2.2.1,p23.2.2.2.2)) else (aJy ((aJO p23.2.1) != (64:Int)) fun v33 =>
 aJy (bif (v30.2 != (3:Int)) then true else v33) fun v34 =>
 bif v34 then (lJ (some false)) else (j32 (p23.1,p23.2.1,p23.2.2.1,p23.2.2.2.1,p23.2.2.2.2)))) else (lJ (j3 (p23.1,p23.2.1)))) (a1,([]:List ((Int×Int))),a0,(aJO a0),(0:Int))):=by kernel_rfl
end Go.Proofs.YtghpknbkecolnaaDoor
