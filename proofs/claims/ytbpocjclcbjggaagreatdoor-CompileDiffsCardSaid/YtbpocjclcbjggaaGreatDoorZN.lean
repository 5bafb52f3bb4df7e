/- Names for the functions as they are read. -/
import Derived.Test.YtbpocjclcbjggaaGreatDoorZT
namespace Go.Proofs.YtbpocjclcbjggaaGreatDoor.Z
open Go.VM
set_option maxRecDepth 100000
noncomputable def n110(N:Nat)(x:List (List ((Int×(List UInt8)×(List UInt8)×Int×Int×(List ((Int×Int×Int×(List ((Int×Int×Int×Int×Int×Int)))×(Bool×Int×Int)×(Bool×Int×Int)))))))):Option (List ((Int×(List UInt8)×(List UInt8)×Int×Int×(List ((Int×Int×Int×(List ((Int×Int×Int×Int×Int×Int)))×(Bool×Int×Int)×(Bool×Int×Int))))))):=nfN TN N 110 x
noncomputable def n39(N:Nat)(x:(((Bool×Int×Int)×(Int×Int×Int×Int×Int×Int)×Int)×((Bool×Int×Int)×(Int×Int×Int×Int×Int×Int)×Int))):Option (Int):=nfN TN N 39 x
noncomputable def n40(N:Nat)(x:((Bool×Int×Int)×(Bool×Int×Int))):Option (Int):=nfN TN N 40 x
noncomputable def n49(N:Nat)(x:(((Bool×Int×Int)×Int)×((Bool×Int×Int)×Int)×(List ((Int×(List UInt8)×(List UInt8)×Int×Int×(List ((Int×Int×Int×(List ((Int×Int×Int×Int×Int×Int)))×(Bool×Int×Int)×(Bool×Int×Int)))))))×(List ((Int×(List UInt8)×(List UInt8)×Int×Int×(List ((Int×Int×Int×(List ((Int×Int×Int×Int×Int×Int)))×(Bool×Int×Int)×(Bool×Int×Int))))))))):Option (List ((Int×(List UInt8)×(List UInt8)×Int×Int×(List ((Int×Int×Int×(List ((Int×Int×Int×Int×Int×Int)))×(Bool×Int×Int)×(Bool×Int×Int))))))):=nfN TN N 49 x
noncomputable def n59(N:Nat)(x:(((Bool×Int×Int)×Int)×((Bool×Int×Int)×Int)×(List ((Int×(List UInt8)×(List UInt8)×Int×Int×(List ((Int×Int×Int×(List ((Int×Int×Int×Int×Int×Int)))×(Bool×Int×Int)×(Bool×Int×Int)))))))×(List ((Int×(List UInt8)×(List UInt8)×Int×Int×(List ((Int×Int×Int×(List ((Int×Int×Int×Int×Int×Int)))×(Bool×Int×Int)×(Bool×Int×Int))))))))):Option (List ((Int×Int×Int×(List ((Int×Int×Int×Int×Int×Int)))×(Bool×Int×Int)×(Bool×Int×Int)))):=nfN TN N 59 x
noncomputable def n61(N:Nat)(x:((Int×Int×Int×(List ((Int×Int×Int×Int×Int×Int)))×(Bool×Int×Int)×(Bool×Int×Int))×(Int×Int×Int×(List ((Int×Int×Int×Int×Int×Int)))×(Bool×Int×Int)×(Bool×Int×Int)))):Option (Int):=nfN TN N 61 x
noncomputable def n62(N:Nat)(x:(Int×Int)):Option (Int):=nfN TN N 62 x
noncomputable def n64(N:Nat)(x:List (Int)):Option (Int):=nfN TN N 64 x
noncomputable def n65(N:Nat)(x:(Bool×Int×Int)):Option (Int):=nfN TN N 65 x
noncomputable def n66(N:Nat)(x:(Int×Int)):Option (Int):=nfN TN N 66 x
noncomputable def n71(N:Nat)(x:(((Bool×Int×Int)×Int)×((Bool×Int×Int)×Int)×(List ((Int×(List UInt8)×(List UInt8)×Int×Int×(List ((Int×Int×Int×(List ((Int×Int×Int×Int×Int×Int)))×(Bool×Int×Int)×(Bool×Int×Int)))))))×(List ((Int×(List UInt8)×(List UInt8)×Int×Int×(List ((Int×Int×Int×(List ((Int×Int×Int×Int×Int×Int)))×(Bool×Int×Int)×(Bool×Int×Int))))))))):Option (List ((Int×(List UInt8)×(List UInt8)×Int×Int×(List ((Int×Int×Int×(List ((Int×Int×Int×Int×Int×Int)))×(Bool×Int×Int)×(Bool×Int×Int))))))):=nfN TN N 71 x
noncomputable def n93(N:Nat)(x:Int):Option (Bool):=nfN TN N 93 x
noncomputable def n96(N:Nat)(x:Int):Option (Bool):=nfN TN N 96 x
noncomputable def n115(N:Nat)(x:(Bool×Int×Int)):Option (Bool):=nfN TN N 115 x
theorem e110(N:Nat)(x):n110 (N+1) x=gCat x:=rfl
end Go.Proofs.YtbpocjclcbjggaaGreatDoor.Z
