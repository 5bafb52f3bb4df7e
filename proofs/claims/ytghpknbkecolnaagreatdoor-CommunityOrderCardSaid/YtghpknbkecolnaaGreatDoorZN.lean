/- Names for the functions as they are read. -/
import Derived.Test.YtghpknbkecolnaaGreatDoorZT
namespace Go.Proofs.YtghpknbkecolnaaGreatDoor.Z
open Go.VM
set_option maxRecDepth 100000
noncomputable def n44 (N:Nat) (x:((Int×Int)×(Int×Int))):Option (Int):=nfN TN N 44 x
noncomputable def n52 (N:Nat) (x:((Int×Int×Int)×(Int×Int×Int))):Option (Int):=nfN TN N 52 x
noncomputable def n68 (N:Nat) (x:List (Int)):Option (Int):=nfN TN N 68 x
noncomputable def n69 (N:Nat) (x:(Int×Int)):Option (Int):=nfN TN N 69 x
noncomputable def n70 (N:Nat) (x:((List ((Int×Int)))×(Int×Int)×Unit)):Option ((Int×Bool)):=nfN TN N 70 x
noncomputable def n76 (N:Nat) (x:((List ((Int×Int×Int)))×(Int×Int×Int)×Unit)):Option ((Int×Bool)):=nfN TN N 76 x
noncomputable def n96 (N:Nat) (x:Int):Option (Bool):=nfN TN N 96 x
end Go.Proofs.YtghpknbkecolnaaGreatDoor.Z
