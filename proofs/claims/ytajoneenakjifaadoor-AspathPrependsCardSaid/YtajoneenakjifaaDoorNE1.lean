/- The functions as they are read. -/
import Derived.Test.YtajoneenakjifaaDoorNN
namespace Go.Proofs.YtajoneenakjifaaDoor
open Go.VM
set_option maxRecDepth 100000
theorem e6 (N:Nat) (a0:List ((Bool×(List (Int))))) (a1:List (Int)) (a2:Int) (a3:Int) (a4:Int) (a5:Int):n6 (N+1) (a0,a1,a2,a3,a4,a5) =
 (n18 N a0).bind fun v0 =>
 bif (!v0) then ((n13 N ()).bind fun v1 =>
 some v1) else ((n8 N a1).bind fun v2 =>
 (n9 N v2).bind fun v3 =>
 (n19 N (v3.1,a4,a5)).bind fun v4 =>
 aJy ([a0,v3.1,v4]:List (List ((Bool×(List (Int)))))) fun v5 =>
 aBJ (fun (p6:Unit) =>
 (n13 N ()).bind fun v8 =>
 some v8) fun j7 =>
 eG N (fun (p9:(Int×(Int×(List (List ((Bool×(List (Int)))))×(Int×Int))))) =>
 aJy (decide (p9.2.2.2.2 < p9.2.2.2.1)) fun v10 =>
 bif v10 then (aBJ (fun (p11:(Int×(Int×(List (List ((Bool×(List (Int)))))×(Int×Int))))) =>
 aJy (IntKind.i64.wrap (p11.2.2.2.2+(1:Int))) fun v13 =>
 tN (p11.1,p11.2.1,p11.2.2.1,p11.2.2.2.1,v13)) fun j12 =>
 (aEU p9.2.2.1 p9.2.2.2.2).bind fun v14 =>
 (n27 N (p9.1,(9:Int))).bind fun v15 =>
 aJy (IntKind.i64.wrap ((1:Int)+v15)) fun v16 =>
 (n27 N (p9.2.1,(5:Int))).bind fun v17 =>
 (n27 N (p9.2.1,(20:Int))).bind fun v18 =>
 aJy (IntKind.i64.wrap ((64:Int) - v18)) fun v19 =>
 (n27 N (p9.1,(3:Int))).bind fun v20 =>
 aJy (IntKind.i64.wrap (v20 - (1:Int))) fun v21 =>
 aJy ([(p9.1,p9.2.1),(v16,v17),((4294967295:Int),v19),(v21,(1:Int))]:List ((Int×Int))) fun v22 =>
 aBJ (fun (p23:(Int×(Int×(List (List ((Bool×(List (Int)))))×(Int×Int))))) =>
 j12 (p23.1,p23.2.1,p23.2.2.1,p23.2.2.2.1,p23.2.2.2.2)) fun j24 =>
 eG N (fun (p25:(Int×(Int×(List ((Bool×(List (Int))))×(List (List ((Bool×(List (Int)))))×(Int×(Int×(List ((Int×Int))×(Int×Int))))))))) =>
 aJy (decide (p25.2.2.2.2.2.2.2.2 < p25.2.2.2.2.2.2.2.1)) fun v26 =>
 bif v26 then ((aEU p25.2.2.2.2.2.2.1 p25.2.2.2.2.2.2.2.2).bind fun v27 =>
 (n31 N (p25.2.2.1,v27.1,v27.2)).bind fun v28 =>
 (n32 N (p25.2.2.1,v27.1,v27.2)).bind fun v29 =>
 (n12 N (v28.1,v29.1)).bind fun v30 =>
 aJy (bif (!v30) then true else (v28.2 != v29.2)) fun v31 =>
 bif v31 then (lJ (lJ (some false))) else (aJy (IntKind.i64.wrap (p25.2.2.2.2.2.2.2.2+(1:Int))) fun v32 =>
 tN (p25.1,p25.2.1,p25.2.2.1,p25.2.2.2.1,p25.2.2.2.2.1,p25.2.2.2.2.2.1,p25.2.2.2.2.2.2.1,p25.2.2.2.2.2.2.2.1,v32))) else (lJ (j24 (p25.1,p25.2.1,p25.2.2.2.1,p25.2.2.2.2.1,p25.2.2.2.2.2.1)))) (p9.1,p9.2.1,v14,p9.2.2.1,p9.2.2.2.1,p9.2.2.2.2,v22,(aJO v22),(0:Int))) else (lJ (j7 ()))) (a2,a3,v5,(aJO v5),(0:Int))):=by kernel_rfl
end Go.Proofs.YtajoneenakjifaaDoor
