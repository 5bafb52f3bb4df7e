/- Names for the functions as they are read. -/
import Derived.Test.YtgfmodmeimhhpaaDoorNT
noncomputable section
namespace Go.Proofs.YtgfmodmeimhhpaaDoor
open Go.VM
set_option maxRecDepth 100000
def n20(N:Nat)(x:(((List (Int))×Int)×Int×Bool)):Option (((Int×(List ((Bool×(List (Int)))))×(Bool×Int×Int)×Int×Int×Int×(List ((Int×Int)))×(List ((Int×Int×Int)))×(List ((Int×Int×(List (Int))))))×((List (Int))×Int))):=nfN TN N 20 x
def n24(N:Nat)(x:((List ((Bool×(List (Int)))))×Int×Int)):Option (((List ((Bool×(List (Int)))))×Int)):=nfN TN N 24 x
def n26(N:Nat)(x:(Int×(Int×(List ((Bool×(List (Int)))))×(Bool×Int×Int)×Int×Int×Int×(List ((Int×Int)))×(List ((Int×Int×Int)))×(List ((Int×Int×(List (Int)))))))):Option ((Int×(List ((Bool×(List (Int)))))×(Bool×Int×Int)×Int×Int×Int×(List ((Int×Int)))×(List ((Int×Int×Int)))×(List ((Int×Int×(List (Int))))))):=nfN TN N 26 x
def n67(N:Nat)(x:Int):Option (Bool):=nfN TN N 67 x
def n4(N:Nat)(x:((List (Int))×Int×Int)):Option (Bool):=nfN TN N 4 x
def n5(N:Nat)(x:Unit):Option (Bool):=nfN TN N 5 x
def n6(N:Nat)(x:List (Int)):Option (((List (Int))×Int)):=nfN TN N 6 x
def n7(N:Nat)(x:(((List (Int))×Int)×Int)):Option (((Int×Bool×Bool×Bool×Int×(List (Int))×(List ((Int×Int))))×((List (Int))×Int))):=nfN TN N 7 x
def n9(N:Nat)(x:(Int×Int)):Option (Int):=nfN TN N 9 x
def n10(N:Nat)(x:(Int×Bool×Bool×Bool×Int×(List (Int))×(List ((Int×Int))))):Option (Int):=nfN TN N 10 x
def n12(N:Nat)(x:(((List (Int))×Int)×Int)):Option (((((Bool×Int×Int)×Int)×Int×(Int×(List ((Bool×(List (Int)))))×(Bool×Int×Int)×Int×Int×Int×(List ((Int×Int)))×(List ((Int×Int×Int)))×(List ((Int×Int×(List (Int)))))))×((List (Int))×Int))):=nfN TN N 12 x
def n13(N:Nat)(x:(((List (Int))×Int)×Int)):Option ((Int×((List (Int))×Int))):=nfN TN N 13 x
def n14(N:Nat)(x:(Int×(List ((Bool×(List (Int)))))×(Bool×Int×Int)×Int×Int×Int×(List ((Int×Int)))×(List ((Int×Int×Int)))×(List ((Int×Int×(List (Int))))))):Option ((Int×(List ((Bool×(List (Int)))))×(Bool×Int×Int)×Int×Int×Int×(List ((Int×Int)))×(List ((Int×Int×Int)))×(List ((Int×Int×(List (Int))))))):=nfN TN N 14 x
def n15(N:Nat)(x:(Int×(((Bool×Int×Int)×Int)×Int×(Int×(List ((Bool×(List (Int)))))×(Bool×Int×Int)×Int×Int×Int×(List ((Int×Int)))×(List ((Int×Int×Int)))×(List ((Int×Int×(List (Int)))))))×(Int×Bool×Bool×Bool×Int×(List (Int))×(List ((Int×Int)))))):Option (((((Bool×Int×Int)×Int)×Int×(Int×(List ((Bool×(List (Int)))))×(Bool×Int×Int)×Int×Int×Int×(List ((Int×Int)))×(List ((Int×Int×Int)))×(List ((Int×Int×(List (Int)))))))×Int×Int)):=nfN TN N 15 x
def n16(N:Nat)(x:((((Bool×Int×Int)×Int)×Int×(Int×(List ((Bool×(List (Int)))))×(Bool×Int×Int)×Int×Int×Int×(List ((Int×Int)))×(List ((Int×Int×Int)))×(List ((Int×Int×(List (Int)))))))×(((Bool×Int×Int)×Int)×Int×(Int×(List ((Bool×(List (Int)))))×(Bool×Int×Int)×Int×Int×Int×(List ((Int×Int)))×(List ((Int×Int×Int)))×(List ((Int×Int×(List (Int))))))))):Option (Bool):=nfN TN N 16 x
def n17(N:Nat)(x:Int):Option (Bool):=nfN TN N 17 x
def n19(N:Nat)(x:((List (Int))×Int)):Option ((((Bool×Int×Int)×Int)×((List (Int))×Int))):=nfN TN N 19 x
def n21(N:Nat)(x:((Bool×Int×Int)×Int)):Option (Bool):=nfN TN N 21 x
def n22(N:Nat)(x:(Int×(List ((Bool×(List (Int)))))×(Bool×Int×Int)×Int×Int×Int×(List ((Int×Int)))×(List ((Int×Int×Int)))×(List ((Int×Int×(List (Int))))))):Option (Bool):=nfN TN N 22 x
def n23(N:Nat)(x:(Int×(((Bool×Int×Int)×Int)×Int×(Int×(List ((Bool×(List (Int)))))×(Bool×Int×Int)×Int×Int×Int×(List ((Int×Int)))×(List ((Int×Int×Int)))×(List ((Int×Int×(List (Int)))))))×(Int×Bool×Bool×Bool×Int×(List (Int))×(List ((Int×Int)))))):Option (Int):=nfN TN N 23 x
def n25(N:Nat)(x:(Int×(Int×(List ((Bool×(List (Int)))))×(Bool×Int×Int)×Int×Int×Int×(List ((Int×Int)))×(List ((Int×Int×Int)))×(List ((Int×Int×(List (Int))))))×Int)):Option (Int):=nfN TN N 25 x
def n27(N:Nat)(x:(Int×Int×(Int×(List ((Bool×(List (Int)))))×(Bool×Int×Int)×Int×Int×Int×(List ((Int×Int)))×(List ((Int×Int×Int)))×(List ((Int×Int×(List (Int)))))))):Option (((Int×(List ((Bool×(List (Int)))))×(Bool×Int×Int)×Int×Int×Int×(List ((Int×Int)))×(List ((Int×Int×Int)))×(List ((Int×Int×(List (Int))))))×Int)):=nfN TN N 27 x
def n28(N:Nat)(x:((Int×(List ((Bool×(List (Int)))))×(Bool×Int×Int)×Int×Int×Int×(List ((Int×Int)))×(List ((Int×Int×Int)))×(List ((Int×Int×(List (Int))))))×(Int×(List ((Bool×(List (Int)))))×(Bool×Int×Int)×Int×Int×Int×(List ((Int×Int)))×(List ((Int×Int×Int)))×(List ((Int×Int×(List (Int)))))))):Option (Bool):=nfN TN N 28 x
def n29(N:Nat)(x:Int):Option (((Bool×Int×Int)×Int)):=nfN TN N 29 x
def n34(N:Nat)(x:(Bool×Int×Int)):Option (Bool):=nfN TN N 34 x
def n35(N:Nat)(x:(Bool×Int×Int)):Option (Int):=nfN TN N 35 x
def n36(N:Nat)(x:((Bool×Int×Int)×Int)):Option ((Bool×Int×Int)):=nfN TN N 36 x
def n37(N:Nat)(x:(Int×Int×Int)):Option (Bool):=nfN TN N 37 x
def n38(N:Nat)(x:List ((Bool×(List (Int))))):Option (Bool):=nfN TN N 38 x
def n39(N:Nat)(x:Int):Option (Bool):=nfN TN N 39 x
def n40(N:Nat)(x:List ((Int×Int))):Option (Bool):=nfN TN N 40 x
def n41(N:Nat)(x:List ((Int×Int×Int))):Option (Bool):=nfN TN N 41 x
def n42(N:Nat)(x:List ((Int×Int×(List (Int))))):Option (Bool):=nfN TN N 42 x
def n43(N:Nat)(x:(Int×(Int×(List ((Bool×(List (Int)))))×(Bool×Int×Int)×Int×Int×Int×(List ((Int×Int)))×(List ((Int×Int×Int)))×(List ((Int×Int×(List (Int))))))×Int)):Option ((Bool×Bool×Bool×Bool×Int)):=nfN TN N 43 x
def n44(N:Nat)(x:((List (Int))×Int)):Option (Bool):=nfN TN N 44 x
def n45(N:Nat)(x:(Int×(List ((Bool×(List (Int)))))×(Bool×Int×Int)×Int×Int×Int×(List ((Int×Int)))×(List ((Int×Int×Int)))×(List ((Int×Int×(List (Int))))))):Option (Bool):=nfN TN N 45 x
def n46(N:Nat)(x:List ((Bool×(List (Int))))):Option (Int):=nfN TN N 46 x
def n47(N:Nat)(x:((List ((Bool×(List (Int)))))×Int)):Option (Bool):=nfN TN N 47 x
def n48(N:Nat)(x:List ((Bool×(List (Int))))):Option (List (Int)):=nfN TN N 48 x
def n52(N:Nat)(x:(Int×(List ((Bool×(List (Int)))))×(Bool×Int×Int)×Int×Int×Int×(List ((Int×Int)))×(List ((Int×Int×Int)))×(List ((Int×Int×(List (Int))))))):Option ((Int×(List ((Bool×(List (Int)))))×(Bool×Int×Int)×Int×Int×Int×(List ((Int×Int)))×(List ((Int×Int×Int)))×(List ((Int×Int×(List (Int))))))):=nfN TN N 52 x
def n57(N:Nat)(x:Int):Option (Bool):=nfN TN N 57 x
def n58(N:Nat)(x:Int):Option (Bool):=nfN TN N 58 x
def n59(N:Nat)(x:((List (Int))×(List (Int)))):Option (Bool):=nfN TN N 59 x
def n60(N:Nat)(x:Int):Option ((Int×Int)):=nfN TN N 60 x
def n61(N:Nat)(x:((List ((Int×Int)))×Unit×Unit)):Option (Bool):=nfN TN N 61 x
def n62(N:Nat)(x:(Int×Int)):Option (Bool):=nfN TN N 62 x
def n63(N:Nat)(x:((Int×Int)×(Int×Int))):Option (Int):=nfN TN N 63 x
def n64(N:Nat)(x:((List ((Int×Int×Int)))×Unit×Unit)):Option (Bool):=nfN TN N 64 x
def n65(N:Nat)(x:(Int×Int×Int)):Option (Bool):=nfN TN N 65 x
def n66(N:Nat)(x:((Int×Int×Int)×(Int×Int×Int))):Option (Int):=nfN TN N 66 x
def n68(N:Nat)(x:(Int×Int×(Int×(List ((Bool×(List (Int)))))×(Bool×Int×Int)×Int×Int×Int×(List ((Int×Int)))×(List ((Int×Int×Int)))×(List ((Int×Int×(List (Int)))))))):Option ((Bool×(Int×(List ((Bool×(List (Int)))))×(Bool×Int×Int)×Int×Int×Int×(List ((Int×Int)))×(List ((Int×Int×Int)))×(List ((Int×Int×(List (Int)))))))):=nfN TN N 68 x
def n69(N:Nat)(x:((List ((Int×Int)))×(Int×Int))):Option (Bool):=nfN TN N 69 x
def n70(N:Nat)(x:(Int×Int×(Int×(List ((Bool×(List (Int)))))×(Bool×Int×Int)×Int×Int×Int×(List ((Int×Int)))×(List ((Int×Int×Int)))×(List ((Int×Int×(List (Int))))))×Int)):Option ((Bool×(Int×(List ((Bool×(List (Int)))))×(Bool×Int×Int)×Int×Int×Int×(List ((Int×Int)))×(List ((Int×Int×Int)))×(List ((Int×Int×(List (Int))))))×Int)):=nfN TN N 70 x
def n71(N:Nat)(x:((List ((Int×Int×Int)))×(Int×Int×Int))):Option (Bool):=nfN TN N 71 x
def n72(N:Nat)(x:((List (Int))×Int)):Option (Int):=nfN TN N 72 x
def n78(N:Nat)(x:List (Int)):Option (List (Int)):=nfN TN N 78 x
def n79(N:Nat)(x:List (Int)):Option (List (Int)):=nfN TN N 79 x
def n80(N:Nat)(x:List ((Int×Int))):Option (List ((Int×Int))):=nfN TN N 80 x
def n81(N:Nat)(x:List ((Int×Int×Int))):Option (List ((Int×Int×Int))):=nfN TN N 81 x
def n84(N:Nat)(x:Unit):Option ((Int×Int×Int×Int×Int)):=nfN TN N 84 x
def n88(N:Nat)(x:((List ((Int×Int)))×(Int×Int))):Option (Bool):=nfN TN N 88 x
def n89(N:Nat)(x:((List ((Int×Int×Int)))×(Int×Int×Int))):Option (Bool):=nfN TN N 89 x
def n96(N:Nat)(x:((List ((Int×Int)))×(Int×Int))):Option (Int):=nfN TN N 96 x
def n97(N:Nat)(x:((List ((Int×Int×Int)))×(Int×Int×Int))):Option (Int):=nfN TN N 97 x
theorem e20(N:Nat)(x):n20 (N+1) x=gAttrs x:=rfl
theorem e24(N:Nat)(x):n24 (N+1) x=gPrepD x:=rfl
theorem e26(N:Nat)(x):n26 (N+1) x=gStrip x:=rfl
theorem e67(N:Nat)(x):n67 (N+1) x=gUnkn x:=rfl
end Go.Proofs.YtgfmodmeimhhpaaDoor
end
