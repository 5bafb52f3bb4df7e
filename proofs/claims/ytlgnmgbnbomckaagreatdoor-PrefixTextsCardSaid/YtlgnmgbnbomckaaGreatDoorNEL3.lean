/- The functions as they are read. -/
import Derived.Test.YtlgnmgbnbomckaaGreatDoorNN
namespace Go.Proofs.YtlgnmgbnbomckaaGreatDoor
open Go.VM
set_option maxRecDepth 100000
theorem e3 (N:Nat) (a0:List (Int)):n3 (N+1) a0 =
 (n11 N a0).bind fun v0 =>
 (n12 N v0).bind fun v1 =>
 (n12 N v1.2).bind fun v2 =>
 (n14 N v1.1).bind fun v3 =>
 (n13 N v3).bind fun v4 =>
 aJy (false != (((v4.1.1.1==v1.1.1.1)&&((v4.1.1.2.1==v1.1.1.2.1)&&(v4.1.1.2.2==v1.1.1.2.2)))&&(v4.1.2==v1.1.2))) fun v5 =>
 aJy (bif (v4.2==(0:Int)) then v5 else false) fun v6 =>
 (bif v6 then (n14 N v1.1) else some ([]:List UInt8)).bind fun v7 =>
 (bif v6 then (n14 N v2.1) else some ([]:List UInt8)).bind fun v8 =>
 aJy (false != (((v1.1.1.1==v2.1.1.1)&&((v1.1.1.2.1==v2.1.1.2.1)&&(v1.1.1.2.2==v2.1.1.2.2)))&&(v1.1.2==v2.1.2))) fun v9 =>
 aJy (false != ((v7==v8)==v9)) fun v10 =>
 (bif (bif v6 then v10 else false) then (n15 N ()) else some false).bind fun v11 =>
 aJy (bif (bif v6 then v10 else false) then v11 else false) fun v12 =>
 some v12:=by kernel_rfl
end Go.Proofs.YtlgnmgbnbomckaaGreatDoor
