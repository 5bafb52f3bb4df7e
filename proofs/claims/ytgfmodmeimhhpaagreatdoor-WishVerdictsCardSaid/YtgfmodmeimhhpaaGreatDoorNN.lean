/- Names for the functions as they are read. -/
import Derived.Test.YtgfmodmeimhhpaaGreatDoorNT
namespace Go.Proofs.YtgfmodmeimhhpaaGreatDoor
open Go.VM
set_option maxRecDepth 100000
noncomputable def n16(N:Nat)(x:(Int×(Int×(List ((Bool×(List (Int)))))×(Bool×Int×Int)×Int×Int×Int×(List ((Int×Int)))×(List ((Int×Int×Int)))×(List ((Int×Int×(List (Int)))))))):Option ((Int×(List ((Bool×(List (Int)))))×(Bool×Int×Int)×Int×Int×Int×(List ((Int×Int)))×(List ((Int×Int×Int)))×(List ((Int×Int×(List (Int))))))):=nfN TN N 16 x
noncomputable def n28(N:Nat)(x:(((List (Int))×Int)×Int×Bool)):Option (((Int×(List ((Bool×(List (Int)))))×(Bool×Int×Int)×Int×Int×Int×(List ((Int×Int)))×(List ((Int×Int×Int)))×(List ((Int×Int×(List (Int))))))×((List (Int))×Int))):=nfN TN N 28 x
noncomputable def n3(N:Nat)(x:((List (Int))×Int)):Option (Bool):=nfN TN N 3 x
noncomputable def n6(N:Nat)(x:List (Int)):Option (((List (Int))×Int)):=nfN TN N 6 x
noncomputable def n7(N:Nat)(x:(((List (Int))×Int)×Int)):Option (((((Bool×Int×Int)×Int)×Int×(Int×(List ((Bool×(List (Int)))))×(Bool×Int×Int)×Int×Int×Int×(List ((Int×Int)))×(List ((Int×Int×Int)))×(List ((Int×Int×(List (Int)))))))×((List (Int))×Int))):=nfN TN N 7 x
noncomputable def n8(N:Nat)(x:(((List (Int))×Int)×Int)):Option ((Int×((List (Int))×Int))):=nfN TN N 8 x
noncomputable def n9(N:Nat)(x:(((List (Int))×Int)×Int)):Option (((Int×Bool×Bool×Bool×Int×(List (Int))×(List ((Int×Int))))×((List (Int))×Int))):=nfN TN N 9 x
noncomputable def n10(N:Nat)(x:(Int×Int)):Option (Int):=nfN TN N 10 x
noncomputable def n11(N:Nat)(x:(Int×(((Bool×Int×Int)×Int)×Int×(Int×(List ((Bool×(List (Int)))))×(Bool×Int×Int)×Int×Int×Int×(List ((Int×Int)))×(List ((Int×Int×Int)))×(List ((Int×Int×(List (Int)))))))×(Int×Bool×Bool×Bool×Int×(List (Int))×(List ((Int×Int)))))):Option (Int):=nfN TN N 11 x
noncomputable def n12(N:Nat)(x:(Int×(((Bool×Int×Int)×Int)×Int×(Int×(List ((Bool×(List (Int)))))×(Bool×Int×Int)×Int×Int×Int×(List ((Int×Int)))×(List ((Int×Int×Int)))×(List ((Int×Int×(List (Int)))))))×(Int×Bool×Bool×Bool×Int×(List (Int))×(List ((Int×Int)))))):Option (Int):=nfN TN N 12 x
noncomputable def n13(N:Nat)(x:(Int×(Int×(List ((Bool×(List (Int)))))×(Bool×Int×Int)×Int×Int×Int×(List ((Int×Int)))×(List ((Int×Int×Int)))×(List ((Int×Int×(List (Int))))))×Int)):Option (Int):=nfN TN N 13 x
noncomputable def n14(N:Nat)(x:(Int×(Int×(List ((Bool×(List (Int)))))×(Bool×Int×Int)×Int×Int×Int×(List ((Int×Int)))×(List ((Int×Int×Int)))×(List ((Int×Int×(List (Int))))))×Int)):Option (Int):=nfN TN N 14 x
noncomputable def n15(N:Nat)(x:((Int×(List ((Bool×(List (Int)))))×(Bool×Int×Int)×Int×Int×Int×(List ((Int×Int)))×(List ((Int×Int×Int)))×(List ((Int×Int×(List (Int))))))×(Int×(List ((Bool×(List (Int)))))×(Bool×Int×Int)×Int×Int×Int×(List ((Int×Int)))×(List ((Int×Int×Int)))×(List ((Int×Int×(List (Int)))))))):Option (Bool):=nfN TN N 15 x
noncomputable def n17(N:Nat)(x:(Int×(Int×(List ((Bool×(List (Int)))))×(Bool×Int×Int)×Int×Int×Int×(List ((Int×Int)))×(List ((Int×Int×Int)))×(List ((Int×Int×(List (Int)))))))):Option ((Int×(List ((Bool×(List (Int)))))×(Bool×Int×Int)×Int×Int×Int×(List ((Int×Int)))×(List ((Int×Int×Int)))×(List ((Int×Int×(List (Int))))))):=nfN TN N 17 x
noncomputable def n18(N:Nat)(x:Unit):Option (Bool):=nfN TN N 18 x
noncomputable def n24(N:Nat)(x:List ((Bool×(List (Int))))):Option (Int):=nfN TN N 24 x
noncomputable def n26(N:Nat)(x:((List ((Bool×(List (Int)))))×Int)):Option (Bool):=nfN TN N 26 x
noncomputable def n27(N:Nat)(x:((List (Int))×Int)):Option ((((Bool×Int×Int)×Int)×((List (Int))×Int))):=nfN TN N 27 x
noncomputable def n29(N:Nat)(x:(Int×(Int×(List ((Bool×(List (Int)))))×(Bool×Int×Int)×Int×Int×Int×(List ((Int×Int)))×(List ((Int×Int×Int)))×(List ((Int×Int×(List (Int))))))×Int)):Option ((Bool×Bool×Bool×Bool×Int)):=nfN TN N 29 x
noncomputable def n30(N:Nat)(x:((List (Int))×Int)):Option (Bool):=nfN TN N 30 x
noncomputable def n31(N:Nat)(x:(Int×(List ((Bool×(List (Int)))))×(Bool×Int×Int)×Int×Int×Int×(List ((Int×Int)))×(List ((Int×Int×Int)))×(List ((Int×Int×(List (Int))))))):Option (Bool):=nfN TN N 31 x
noncomputable def n32(N:Nat)(x:List ((Bool×(List (Int))))):Option (Int):=nfN TN N 32 x
noncomputable def n33(N:Nat)(x:((List ((Bool×(List (Int)))))×Int)):Option (Bool):=nfN TN N 33 x
noncomputable def n34(N:Nat)(x:((List ((Int×Int)))×(Int×Int))):Option (Bool):=nfN TN N 34 x
noncomputable def n35(N:Nat)(x:(Int×(Int×(List ((Bool×(List (Int)))))×(Bool×Int×Int)×Int×Int×Int×(List ((Int×Int)))×(List ((Int×Int×Int)))×(List ((Int×Int×(List (Int))))))×Int×Int×Int×Int)):Option (Bool):=nfN TN N 35 x
noncomputable def n36(N:Nat)(x:(Int×(List ((Bool×(List (Int)))))×(Bool×Int×Int)×Int×Int×Int×(List ((Int×Int)))×(List ((Int×Int×Int)))×(List ((Int×Int×(List (Int))))))):Option (Bool):=nfN TN N 36 x
noncomputable def n37(N:Nat)(x:((List ((Int×Int×Int)))×(Int×Int×Int))):Option (Bool):=nfN TN N 37 x
noncomputable def n38(N:Nat)(x:((List (Int))×(List (Int)))):Option (Bool):=nfN TN N 38 x
noncomputable def n39(N:Nat)(x:(Int×(List ((Bool×(List (Int)))))×(Bool×Int×Int)×Int×Int×Int×(List ((Int×Int)))×(List ((Int×Int×Int)))×(List ((Int×Int×(List (Int))))))):Option ((Int×(List ((Bool×(List (Int)))))×(Bool×Int×Int)×Int×Int×Int×(List ((Int×Int)))×(List ((Int×Int×Int)))×(List ((Int×Int×(List (Int))))))):=nfN TN N 39 x
noncomputable def n44(N:Nat)(x:(Int×(List ((Bool×(List (Int)))))×(Bool×Int×Int)×Int×Int×Int×(List ((Int×Int)))×(List ((Int×Int×Int)))×(List ((Int×Int×(List (Int))))))):Option ((Int×(List ((Bool×(List (Int)))))×(Bool×Int×Int)×Int×Int×Int×(List ((Int×Int)))×(List ((Int×Int×Int)))×(List ((Int×Int×(List (Int))))))):=nfN TN N 44 x
noncomputable def n45(N:Nat)(x:Int):Option (Bool):=nfN TN N 45 x
noncomputable def n48(N:Nat)(x:(Int×Bool×Bool×Bool×Int×(List (Int))×(List ((Int×Int))))):Option (Int):=nfN TN N 48 x
noncomputable def n61(N:Nat)(x:List ((Bool×(List (Int))))):Option (List (Int)):=nfN TN N 61 x
noncomputable def n62(N:Nat)(x:Int):Option (((Bool×Int×Int)×Int)):=nfN TN N 62 x
noncomputable def n67(N:Nat)(x:(Int×Int×(Int×(List ((Bool×(List (Int)))))×(Bool×Int×Int)×Int×Int×Int×(List ((Int×Int)))×(List ((Int×Int×Int)))×(List ((Int×Int×(List (Int)))))))):Option ((Bool×(Int×(List ((Bool×(List (Int)))))×(Bool×Int×Int)×Int×Int×Int×(List ((Int×Int)))×(List ((Int×Int×Int)))×(List ((Int×Int×(List (Int)))))))):=nfN TN N 67 x
noncomputable def n68(N:Nat)(x:((List ((Int×Int)))×(Int×Int))):Option (Bool):=nfN TN N 68 x
noncomputable def n69(N:Nat)(x:(Int×Int×(Int×(List ((Bool×(List (Int)))))×(Bool×Int×Int)×Int×Int×Int×(List ((Int×Int)))×(List ((Int×Int×Int)))×(List ((Int×Int×(List (Int))))))×Int)):Option ((Bool×(Int×(List ((Bool×(List (Int)))))×(Bool×Int×Int)×Int×Int×Int×(List ((Int×Int)))×(List ((Int×Int×Int)))×(List ((Int×Int×(List (Int))))))×Int)):=nfN TN N 69 x
noncomputable def n70(N:Nat)(x:((List ((Int×Int×Int)))×(Int×Int×Int))):Option (Bool):=nfN TN N 70 x
noncomputable def n71(N:Nat)(x:((List (Int))×Int)):Option (Int):=nfN TN N 71 x
noncomputable def n72(N:Nat)(x:List ((Bool×(List (Int))))):Option (List (Int)):=nfN TN N 72 x
noncomputable def n73(N:Nat)(x:List (Int)):Option (List (Int)):=nfN TN N 73 x
noncomputable def n74(N:Nat)(x:List (Int)):Option (List (Int)):=nfN TN N 74 x
noncomputable def n75(N:Nat)(x:List ((Int×Int))):Option (List ((Int×Int))):=nfN TN N 75 x
noncomputable def n76(N:Nat)(x:List ((Int×Int×Int))):Option (List ((Int×Int×Int))):=nfN TN N 76 x
noncomputable def n83(N:Nat)(x:List ((Bool×(List (Int))))):Option (Bool):=nfN TN N 83 x
noncomputable def n84(N:Nat)(x:Int):Option (Bool):=nfN TN N 84 x
noncomputable def n101(N:Nat)(x:((List ((Int×Int)))×(Int×Int))):Option (Bool):=nfN TN N 101 x
noncomputable def n102(N:Nat)(x:((List ((Int×Int×Int)))×(Int×Int×Int))):Option (Bool):=nfN TN N 102 x
noncomputable def n121(N:Nat)(x:((List ((Int×Int)))×(Int×Int))):Option (Int):=nfN TN N 121 x
noncomputable def n122(N:Nat)(x:((List ((Int×Int×Int)))×(Int×Int×Int))):Option (Int):=nfN TN N 122 x
theorem e16(N:Nat)(x):n16 (N+1) x=gStrip x:=rfl
theorem e28(N:Nat)(x):n28 (N+1) x=gAttrs x:=rfl
end Go.Proofs.YtgfmodmeimhhpaaGreatDoor
