/- The functions as they are read. -/
import Derived.Test.YtajoneenakjifaaDoorNN
namespace Go.Proofs.YtajoneenakjifaaDoor
open Go.VM
set_option maxRecDepth 100000
theorem e3 (N:Nat) (a0:List (Int)) (a1:List (Int)):n3 (N+1) (a0,a1) =
 (n8 N a0).bind fun v0 =>
 (n9 N v0).bind fun v1 =>
 (n8 N a1).bind fun v2 =>
 (n9 N v2).bind fun v3 =>
 (n11 N v1.1).bind fun v4 =>
 (n10 N v4).bind fun v5 =>
 (bif (v5.2==(0:Int)) then (n12 N (v5.1,v1.1)) else some false).bind fun v6 =>
 aJy (bif (v5.2==(0:Int)) then v6 else false) fun v7 =>
 (bif v7 then (n11 N v1.1) else some ([]:List UInt8)).bind fun v8 =>
 (bif v7 then (n11 N v3.1) else some ([]:List UInt8)).bind fun v9 =>
 (bif v7 then (n12 N (v1.1,v3.1)) else some false).bind fun v10 =>
 aJy (false != ((v8==v9)==v10)) fun v11 =>
 (bif (bif v7 then v11 else false) then (n13 N ()) else some false).bind fun v12 =>
 aJy (bif (bif v7 then v11 else false) then v12 else false) fun v13 =>
 some v13:=by kernel_rfl
end Go.Proofs.YtajoneenakjifaaDoor
