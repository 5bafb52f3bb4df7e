/- Names for the functions as they are read. -/
import Derived.Test.YtgfmodmeimhhpaaGreatDoorZT
namespace Go.Proofs.YtgfmodmeimhhpaaGreatDoor.Z
open Go.VM
set_option maxRecDepth 100000
noncomputable def n8(N:Nat)(x:(((List (Int))×Int)×Int)):Option ((Int×((List (Int))×Int))):=nfN TN N 8 x
noncomputable def n10(N:Nat)(x:(Int×Int)):Option (Int):=nfN TN N 10 x
noncomputable def n39(N:Nat)(x:(Int×(List ((Bool×(List (Int)))))×(Bool×Int×Int)×Int×Int×Int×(List ((Int×Int)))×(List ((Int×Int×Int)))×(List ((Int×Int×(List (Int))))))):Option ((Int×(List ((Bool×(List (Int)))))×(Bool×Int×Int)×Int×Int×Int×(List ((Int×Int)))×(List ((Int×Int×Int)))×(List ((Int×Int×(List (Int))))))):=nfN TN N 39 x
noncomputable def n63(N:Nat)(x:Unit):Option ((Int×(List ((Bool×(List (Int)))))×(Bool×Int×Int)×Int×Int×Int×(List ((Int×Int)))×(List ((Int×Int×Int)))×(List ((Int×Int×(List (Int))))))):=nfN TN N 63 x
noncomputable def n64(N:Nat)(x:(Int×Bool)):Option ((Bool×Int×Int)):=nfN TN N 64 x
noncomputable def n65(N:Nat)(x:((List (Int))×Int)):Option (((List ((Int×Int)))×((List (Int))×Int))):=nfN TN N 65 x
noncomputable def n66(N:Nat)(x:((List (Int))×Int)):Option (((List ((Int×Int×Int)))×((List (Int))×Int))):=nfN TN N 66 x
noncomputable def n72(N:Nat)(x:List ((Bool×(List (Int))))):Option (List (Int)):=nfN TN N 72 x
noncomputable def n73(N:Nat)(x:List (Int)):Option (List (Int)):=nfN TN N 73 x
noncomputable def n74(N:Nat)(x:List (Int)):Option (List (Int)):=nfN TN N 74 x
noncomputable def n75(N:Nat)(x:List ((Int×Int))):Option (List ((Int×Int))):=nfN TN N 75 x
noncomputable def n76(N:Nat)(x:List ((Int×Int×Int))):Option (List ((Int×Int×Int))):=nfN TN N 76 x
noncomputable def n83(N:Nat)(x:List ((Bool×(List (Int))))):Option (Bool):=nfN TN N 83 x
noncomputable def n84(N:Nat)(x:Int):Option (Bool):=nfN TN N 84 x
end Go.Proofs.YtgfmodmeimhhpaaGreatDoor.Z
