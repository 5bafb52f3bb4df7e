/- The functions as they are read. -/
import Derived.Test.YtajoneenakjifaaDoorNN
namespace Go.Proofs.YtajoneenakjifaaDoor
open Go.VM
set_option maxRecDepth 100000
theorem e4 (N:Nat) (a0:List (Int)):n4 (N+1) a0 =
 (n8 N a0).bind fun v0 =>
 (n9 N v0).bind fun v1 =>
 (n14 N v1.1).bind fun v2 =>
 aBJ (fun (p3:(List ((Bool×(List (Int))))×Int)) =>
 (n14 N p3.1).bind fun v5 =>
 aBJ (fun (p6:(List ((Bool×(List (Int))))×Int)) =>
 (n16 N p6.1).bind fun v8 =>
 (bif (v8==p6.2) then (n17 N p6.1) else some false).bind fun v9 =>
 aJy (bif (v8==p6.2) then v9 else false) fun v10 =>
 (bif v10 then (n15 N (p6.1,(0:Int))) else some false).bind fun v11 =>
 aJy (bif v10 then (!v11) else false) fun v12 =>
 (bif v12 then (n13 N ()) else some false).bind fun v13 =>
 aJy (bif v12 then v13 else false) fun v14 =>
 some v14) fun j7 =>
 eG N (fun (p15:(List ((Bool×(List (Int))))×(Int×(List (Int)×(Int×Int))))) =>
 aJy (decide (p15.2.2.2.2 < p15.2.2.2.1)) fun v16 =>
 bif v16 then ((aEU p15.2.2.1 p15.2.2.2.2).bind fun v17 =>
 (n15 N (p15.1,v17)).bind fun v18 =>
 bif (!v18) then (lJ (some false)) else (aJy (IntKind.i64.wrap (p15.2.2.2.2+(1:Int))) fun v19 =>
 tN (p15.1,p15.2.1,p15.2.2.1,p15.2.2.2.1,v19))) else (lJ (j7 (p15.1,p15.2.1)))) (p3.1,p3.2,v5,(aJO v5),(0:Int))) fun j4 =>
 eG N (fun (p20:(List ((Bool×(List (Int))))×(Int×(List ((Bool×(List (Int))))×(Int×Int))))) =>
 aJy (decide (p20.2.2.2.2 < p20.2.2.2.1)) fun v21 =>
 bif v21 then (aBJ (fun (p22:(List ((Bool×(List (Int))))×(Int×(List ((Bool×(List (Int))))×(Int×Int))))) =>
 aJy (IntKind.i64.wrap (p22.2.2.2.2+(1:Int))) fun v24 =>
 tN (p22.1,p22.2.1,p22.2.2.1,p22.2.2.2.1,v24)) fun j23 =>
 (aEU p20.2.2.1 p20.2.2.2.2).bind fun v25 =>
 aBJ (fun (p26:(List ((Bool×(List (Int))))×(Int×(List ((Bool×(List (Int))))×(Int×Int))))) =>
 j23 (p26.1,p26.2.1,p26.2.2.1,p26.2.2.2.1,p26.2.2.2.2)) fun j27 =>
 bif v25.1 then (aJy (IntKind.i64.wrap ((aJO v25.2) - (1:Int))) fun v28 =>
 aJy (IntKind.i64.wrap (p20.2.1 - v28)) fun v29 =>
 j27 (p20.1,v29,p20.2.2.1,p20.2.2.2.1,p20.2.2.2.2)) else (j27 (p20.1,p20.2.1,p20.2.2.1,p20.2.2.2.1,p20.2.2.2.2))) else (lJ (j4 (p20.1,p20.2.1)))) (v1.1,(aJO v2),v1.1,(aJO v1.1),(0:Int)):=by kernel_rfl
end Go.Proofs.YtajoneenakjifaaDoor
