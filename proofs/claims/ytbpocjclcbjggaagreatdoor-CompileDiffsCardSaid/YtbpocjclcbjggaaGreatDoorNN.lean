/- Names for the functions as they are read. -/
import Derived.Test.YtbpocjclcbjggaaGreatDoorNT
namespace Go.Proofs.YtbpocjclcbjggaaGreatDoor
open Go.VM
set_option maxRecDepth 100000
noncomputable def n75(N:Nat)(x:(((Bool×Int×Int)×Int)×((Bool×Int×Int)×Int)×(List ((Int×(List UInt8)×(List UInt8)×Int×Int×(List ((Int×Int×Int×(List ((Int×Int×Int×Int×Int×Int)))×(Bool×Int×Int)×(Bool×Int×Int)))))))×(List ((Int×(List UInt8)×(List UInt8)×Int×Int×(List ((Int×Int×Int×(List ((Int×Int×Int×Int×Int×Int)))×(Bool×Int×Int)×(Bool×Int×Int))))))))):Option (Bool):=nfN TN N 75 x
noncomputable def n76(N:Nat)(x:List ((Int×Int×Int×Int×Int×Int))):Option (List ((Int×Int×Int×Int×Int×Int))):=nfN TN N 76 x
noncomputable def n77(N:Nat)(x:List ((Bool×Int×Int))):Option (List ((Bool×Int×Int))):=nfN TN N 77 x
noncomputable def n110(N:Nat)(x:List (List ((Int×(List UInt8)×(List UInt8)×Int×Int×(List ((Int×Int×Int×(List ((Int×Int×Int×Int×Int×Int)))×(Bool×Int×Int)×(Bool×Int×Int)))))))):Option (List ((Int×(List UInt8)×(List UInt8)×Int×Int×(List ((Int×Int×Int×(List ((Int×Int×Int×Int×Int×Int)))×(Bool×Int×Int)×(Bool×Int×Int))))))):=nfN TN N 110 x
noncomputable def n6(N:Nat)(x:((List (Int))×(List (Int))×Int)):Option (Bool):=nfN TN N 6 x
noncomputable def n8(N:Nat)(x:List (Int)):Option (((List (Int))×Int)):=nfN TN N 8 x
noncomputable def n9(N:Nat)(x:((List (Int))×Int)):Option (((((Bool×Int×Int)×Int)×((Bool×Int×Int)×Int)×(List ((Int×(List UInt8)×(List UInt8)×Int×Int×(List ((Int×Int×Int×(List ((Int×Int×Int×Int×Int×Int)))×(Bool×Int×Int)×(Bool×Int×Int)))))))×(List ((Int×(List UInt8)×(List UInt8)×Int×Int×(List ((Int×Int×Int×(List ((Int×Int×Int×Int×Int×Int)))×(Bool×Int×Int)×(Bool×Int×Int))))))))×((List (Int))×Int))):=nfN TN N 9 x
noncomputable def n13(N:Nat)(x:(Int×Int)):Option (Int):=nfN TN N 13 x
noncomputable def n15(N:Nat)(x:((((Bool×Int×Int)×Int)×((Bool×Int×Int)×Int)×(List ((Int×(List UInt8)×(List UInt8)×Int×Int×(List ((Int×Int×Int×(List ((Int×Int×Int×Int×Int×Int)))×(Bool×Int×Int)×(Bool×Int×Int)))))))×(List ((Int×(List UInt8)×(List UInt8)×Int×Int×(List ((Int×Int×Int×(List ((Int×Int×Int×Int×Int×Int)))×(Bool×Int×Int)×(Bool×Int×Int))))))))×Int×Int)):Option (((List ((Int×Int×Int×(List ((Int×Int×Int×Int×Int×Int)))×(List ((Bool×Int×Int)))×(List ((Bool×Int×Int)))×Int×Int)))×Int)):=nfN TN N 15 x
noncomputable def n16(N:Nat)(x:((List ((Int×Int×Int×(List ((Int×Int×Int×Int×Int×Int)))×(List ((Bool×Int×Int)))×(List ((Bool×Int×Int)))×Int×Int)))×(List ((Int×Int×Int×(List ((Int×Int×Int×Int×Int×Int)))×(List ((Bool×Int×Int)))×(List ((Bool×Int×Int)))×Int×Int))))):Option (Bool):=nfN TN N 16 x
noncomputable def n17(N:Nat)(x:Unit):Option (Bool):=nfN TN N 17 x
noncomputable def n18(N:Nat)(x:((List ((Int×Int×Int×(List ((Int×Int×Int×Int×Int×Int)))×(List ((Bool×Int×Int)))×(List ((Bool×Int×Int)))×Int×Int)))×Int)):Option (((Int×Int×Int×(List ((Int×Int×Int×Int×Int×Int)))×(List ((Bool×Int×Int)))×(List ((Bool×Int×Int)))×Int×Int)×Bool)):=nfN TN N 18 x
noncomputable def n19(N:Nat)(x:((List ((Int×Int×Int×(List ((Int×Int×Int×Int×Int×Int)))×(List ((Bool×Int×Int)))×(List ((Bool×Int×Int)))×Int×Int)))×Int)):Option (((Int×Int×Int×(List ((Int×Int×Int×Int×Int×Int)))×(List ((Bool×Int×Int)))×(List ((Bool×Int×Int)))×Int×Int)×Bool)):=nfN TN N 19 x
noncomputable def n20(N:Nat)(x:((Int×Int×Int×(List ((Int×Int×Int×Int×Int×Int)))×(List ((Bool×Int×Int)))×(List ((Bool×Int×Int)))×Int×Int)×(Int×Int×Int×(List ((Int×Int×Int×Int×Int×Int)))×(List ((Bool×Int×Int)))×(List ((Bool×Int×Int)))×Int×Int))):Option (Bool):=nfN TN N 20 x
noncomputable def n21(N:Nat)(x:Int):Option ((Int×Int×Int×Int×Int×Int)):=nfN TN N 21 x
noncomputable def n26(N:Nat)(x:(((Bool×Int×Int)×Int)×((Bool×Int×Int)×Int)×(List ((Int×(List UInt8)×(List UInt8)×Int×Int×(List ((Int×Int×Int×(List ((Int×Int×Int×Int×Int×Int)))×(Bool×Int×Int)×(Bool×Int×Int)))))))×(List ((Int×(List UInt8)×(List UInt8)×Int×Int×(List ((Int×Int×Int×(List ((Int×Int×Int×Int×Int×Int)))×(Bool×Int×Int)×(Bool×Int×Int))))))))):Option (List ((Int×Int×Int×(List ((Int×Int×Int×Int×Int×Int)))×(Bool×Int×Int)×(Bool×Int×Int)))):=nfN TN N 26 x
noncomputable def n27(N:Nat)(x:((((Bool×Int×Int)×Int)×((Bool×Int×Int)×Int)×(List ((Int×(List UInt8)×(List UInt8)×Int×Int×(List ((Int×Int×Int×(List ((Int×Int×Int×Int×Int×Int)))×(Bool×Int×Int)×(Bool×Int×Int)))))))×(List ((Int×(List UInt8)×(List UInt8)×Int×Int×(List ((Int×Int×Int×(List ((Int×Int×Int×Int×Int×Int)))×(Bool×Int×Int)×(Bool×Int×Int))))))))×Int)):Option ((Int×Bool)):=nfN TN N 27 x
noncomputable def n28(N:Nat)(x:((List ((Int×Int×Int×(List ((Int×Int×Int×Int×Int×Int)))×(List ((Bool×Int×Int)))×(List ((Bool×Int×Int)))×Int×Int)))×(List ((Int×Int×Int×(List ((Int×Int×Int×Int×Int×Int)))×(List ((Bool×Int×Int)))×(List ((Bool×Int×Int)))×Int×Int))))):Option (((List (Int))×(List (Int))×(List (Int)))):=nfN TN N 28 x
noncomputable def n29(N:Nat)(x:((List ((Int×Int×Int×(List ((Int×Int×Int×Int×Int×Int)))×(List ((Bool×Int×Int)))×(List ((Bool×Int×Int)))×Int×Int)))×(List ((Int×Int×Int×(List ((Int×Int×Int×Int×Int×Int)))×(List ((Bool×Int×Int)))×(List ((Bool×Int×Int)))×Int×Int))))):Option (((List (Int))×(List (Int))×(List (Int)))):=nfN TN N 29 x
noncomputable def n32(N:Nat)(x:Unit):Option (((Bool×Int×Int)×Int)):=nfN TN N 32 x
noncomputable def n33(N:Nat)(x:Unit):Option (((Bool×Int×Int)×Int)):=nfN TN N 33 x
noncomputable def n34(N:Nat)(x:(((List (Int))×Int)×Int)):Option ((Int×((List (Int))×Int))):=nfN TN N 34 x
noncomputable def n35(N:Nat)(x:(((List (Int))×Int)×Int×(List UInt8)×Int)):Option (((Int×(List UInt8)×(List UInt8)×Int×Int×(List ((Int×Int×Int×(List ((Int×Int×Int×Int×Int×Int)))×(Bool×Int×Int)×(Bool×Int×Int)))))×((List (Int))×Int)×Int)):=nfN TN N 35 x
noncomputable def n39(N:Nat)(x:(((Bool×Int×Int)×(Int×Int×Int×Int×Int×Int)×Int)×((Bool×Int×Int)×(Int×Int×Int×Int×Int×Int)×Int))):Option (Int):=nfN TN N 39 x
noncomputable def n40(N:Nat)(x:((Bool×Int×Int)×(Bool×Int×Int))):Option (Int):=nfN TN N 40 x
noncomputable def n44(N:Nat)(x:(((Bool×Int×Int)×Int)×((Bool×Int×Int)×Int)×(List ((Int×(List UInt8)×(List UInt8)×Int×Int×(List ((Int×Int×Int×(List ((Int×Int×Int×Int×Int×Int)))×(Bool×Int×Int)×(Bool×Int×Int)))))))×(List ((Int×(List UInt8)×(List UInt8)×Int×Int×(List ((Int×Int×Int×(List ((Int×Int×Int×Int×Int×Int)))×(Bool×Int×Int)×(Bool×Int×Int))))))))):Option (Int):=nfN TN N 44 x
noncomputable def n45(N:Nat)(x:(Int×Int×Int×(List ((Int×Int×Int×Int×Int×Int)))×(List ((Bool×Int×Int)))×(List ((Bool×Int×Int)))×Int×Int)):Option ((Int×Int×Int×(List ((Int×Int×Int×Int×Int×Int)))×(List ((Bool×Int×Int)))×(List ((Bool×Int×Int)))×Int×Int)):=nfN TN N 45 x
noncomputable def n46(N:Nat)(x:(Int×Int×Int×(List ((Int×Int×Int×Int×Int×Int)))×(List ((Bool×Int×Int)))×(List ((Bool×Int×Int)))×Int×Int)):Option ((Int×Int×Int×(List ((Int×Int×Int×Int×Int×Int)))×(List ((Bool×Int×Int)))×(List ((Bool×Int×Int)))×Int×Int)):=nfN TN N 46 x
noncomputable def n47(N:Nat)(x:((List ((Bool×Int×Int)))×(List ((Bool×Int×Int))))):Option (Bool):=nfN TN N 47 x
noncomputable def n49(N:Nat)(x:(((Bool×Int×Int)×Int)×((Bool×Int×Int)×Int)×(List ((Int×(List UInt8)×(List UInt8)×Int×Int×(List ((Int×Int×Int×(List ((Int×Int×Int×Int×Int×Int)))×(Bool×Int×Int)×(Bool×Int×Int)))))))×(List ((Int×(List UInt8)×(List UInt8)×Int×Int×(List ((Int×Int×Int×(List ((Int×Int×Int×Int×Int×Int)))×(Bool×Int×Int)×(Bool×Int×Int))))))))):Option (List ((Int×(List UInt8)×(List UInt8)×Int×Int×(List ((Int×Int×Int×(List ((Int×Int×Int×Int×Int×Int)))×(Bool×Int×Int)×(Bool×Int×Int))))))):=nfN TN N 49 x
noncomputable def n50(N:Nat)(x:(Int×Int×Int×(List ((Int×Int×Int×Int×Int×Int)))×(Bool×Int×Int)×(Bool×Int×Int))):Option ((Int×Int×Int×(List ((Int×Int×Int×Int×Int×Int)))×(Bool×Int×Int)×(Bool×Int×Int))):=nfN TN N 50 x
noncomputable def n51(N:Nat)(x:((Int×Int×Int×(List ((Int×Int×Int×Int×Int×Int)))×(List ((Bool×Int×Int)))×(List ((Bool×Int×Int)))×Int×Int)×(Int×Int×Int×(List ((Int×Int×Int×Int×Int×Int)))×(List ((Bool×Int×Int)))×(List ((Bool×Int×Int)))×Int×Int))):Option (Bool):=nfN TN N 51 x
noncomputable def n56(N:Nat)(x:Int):Option ((Bool×Int×Int)):=nfN TN N 56 x
noncomputable def n57(N:Nat)(x:Int):Option ((Bool×Int×Int)):=nfN TN N 57 x
noncomputable def n59(N:Nat)(x:(((Bool×Int×Int)×Int)×((Bool×Int×Int)×Int)×(List ((Int×(List UInt8)×(List UInt8)×Int×Int×(List ((Int×Int×Int×(List ((Int×Int×Int×Int×Int×Int)))×(Bool×Int×Int)×(Bool×Int×Int)))))))×(List ((Int×(List UInt8)×(List UInt8)×Int×Int×(List ((Int×Int×Int×(List ((Int×Int×Int×Int×Int×Int)))×(Bool×Int×Int)×(Bool×Int×Int))))))))):Option (List ((Int×Int×Int×(List ((Int×Int×Int×Int×Int×Int)))×(Bool×Int×Int)×(Bool×Int×Int)))):=nfN TN N 59 x
noncomputable def n61(N:Nat)(x:((Int×Int×Int×(List ((Int×Int×Int×Int×Int×Int)))×(Bool×Int×Int)×(Bool×Int×Int))×(Int×Int×Int×(List ((Int×Int×Int×Int×Int×Int)))×(Bool×Int×Int)×(Bool×Int×Int)))):Option (Int):=nfN TN N 61 x
noncomputable def n62(N:Nat)(x:(Int×Int)):Option (Int):=nfN TN N 62 x
noncomputable def n64(N:Nat)(x:List (Int)):Option (Int):=nfN TN N 64 x
noncomputable def n65(N:Nat)(x:(Bool×Int×Int)):Option (Int):=nfN TN N 65 x
noncomputable def n66(N:Nat)(x:(Int×Int)):Option (Int):=nfN TN N 66 x
noncomputable def n71(N:Nat)(x:(((Bool×Int×Int)×Int)×((Bool×Int×Int)×Int)×(List ((Int×(List UInt8)×(List UInt8)×Int×Int×(List ((Int×Int×Int×(List ((Int×Int×Int×Int×Int×Int)))×(Bool×Int×Int)×(Bool×Int×Int)))))))×(List ((Int×(List UInt8)×(List UInt8)×Int×Int×(List ((Int×Int×Int×(List ((Int×Int×Int×Int×Int×Int)))×(Bool×Int×Int)×(Bool×Int×Int))))))))):Option (List ((Int×(List UInt8)×(List UInt8)×Int×Int×(List ((Int×Int×Int×(List ((Int×Int×Int×Int×Int×Int)))×(Bool×Int×Int)×(Bool×Int×Int))))))):=nfN TN N 71 x
noncomputable def n72(N:Nat)(x:(((Bool×Int×Int)×Int)×((Bool×Int×Int)×Int)×(List ((Int×(List UInt8)×(List UInt8)×Int×Int×(List ((Int×Int×Int×(List ((Int×Int×Int×Int×Int×Int)))×(Bool×Int×Int)×(Bool×Int×Int)))))))×(List ((Int×(List UInt8)×(List UInt8)×Int×Int×(List ((Int×Int×Int×(List ((Int×Int×Int×Int×Int×Int)))×(Bool×Int×Int)×(Bool×Int×Int))))))))):Option (Bool):=nfN TN N 72 x
noncomputable def n73(N:Nat)(x:(((Bool×Int×Int)×Int)×((Bool×Int×Int)×Int)×(List ((Int×(List UInt8)×(List UInt8)×Int×Int×(List ((Int×Int×Int×(List ((Int×Int×Int×Int×Int×Int)))×(Bool×Int×Int)×(Bool×Int×Int)))))))×(List ((Int×(List UInt8)×(List UInt8)×Int×Int×(List ((Int×Int×Int×(List ((Int×Int×Int×Int×Int×Int)))×(Bool×Int×Int)×(Bool×Int×Int))))))))):Option (Bool):=nfN TN N 73 x
noncomputable def n74(N:Nat)(x:(((Bool×Int×Int)×Int)×((Bool×Int×Int)×Int)×(List ((Int×(List UInt8)×(List UInt8)×Int×Int×(List ((Int×Int×Int×(List ((Int×Int×Int×Int×Int×Int)))×(Bool×Int×Int)×(Bool×Int×Int)))))))×(List ((Int×(List UInt8)×(List UInt8)×Int×Int×(List ((Int×Int×Int×(List ((Int×Int×Int×Int×Int×Int)))×(Bool×Int×Int)×(Bool×Int×Int))))))))):Option (Bool):=nfN TN N 74 x
noncomputable def n79(N:Nat)(x:((List ((Int×Int×Int×Int×Int×Int)))×(List ((Int×Int×Int×Int×Int×Int))))):Option (Bool):=nfN TN N 79 x
noncomputable def n80(N:Nat)(x:((List ((Bool×Int×Int)))×(List ((Bool×Int×Int))))):Option (Bool):=nfN TN N 80 x
noncomputable def n93(N:Nat)(x:Int):Option (Bool):=nfN TN N 93 x
noncomputable def n96(N:Nat)(x:Int):Option (Bool):=nfN TN N 96 x
noncomputable def n111(N:Nat)(x:(Int×Int×Int)):Option (Bool):=nfN TN N 111 x
noncomputable def n112(N:Nat)(x:((Bool×Int×Int)×Int)):Option (Bool):=nfN TN N 112 x
noncomputable def n113(N:Nat)(x:List UInt8):Option (Bool):=nfN TN N 113 x
noncomputable def n114(N:Nat)(x:(Int×Int×Int×(List ((Int×Int×Int×Int×Int×Int)))×(Bool×Int×Int)×(Bool×Int×Int))):Option (Bool):=nfN TN N 114 x
noncomputable def n115(N:Nat)(x:(Bool×Int×Int)):Option (Bool):=nfN TN N 115 x
noncomputable def n116(N:Nat)(x:(((Bool×Int×Int)×Int)×(Bool×Int×Int))):Option (Bool):=nfN TN N 116 x
noncomputable def n117(N:Nat)(x:((Bool×Int×Int)×Int)):Option ((Bool×Int×Int)):=nfN TN N 117 x
noncomputable def n139(N:Nat)(x:(Int×Int×Int×Int×Int×Int)):Option (Bool):=nfN TN N 139 x
noncomputable def n140(N:Nat)(x:(Bool×Int×Int)):Option (Bool):=nfN TN N 140 x
theorem e75(N:Nat)(x):n75 (N+1) x=gTw x:=rfl
theorem e76(N:Nat)(x):n76 (N+1) x=gCl x:=rfl
theorem e77(N:Nat)(x):n77 (N+1) x=gCl x:=rfl
theorem e110(N:Nat)(x):n110 (N+1) x=gCat x:=rfl
end Go.Proofs.YtbpocjclcbjggaaGreatDoor
