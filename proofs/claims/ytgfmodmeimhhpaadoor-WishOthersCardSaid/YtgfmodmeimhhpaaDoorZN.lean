/- Names for the functions as they are read. -/
import Derived.Test.YtgfmodmeimhhpaaDoorZT
noncomputable section
namespace Go.Proofs.YtgfmodmeimhhpaaDoor.Z
open Go.VM
set_option maxRecDepth 100000
def n9(N:Nat)(x:(Int×Int)):Option (Int):=nfN TN N 9 x
def n13(N:Nat)(x:(((List (Int))×Int)×Int)):Option ((Int×((List (Int))×Int))):=nfN TN N 13 x
def n30(N:Nat)(x:Unit):Option ((Int×(List ((Bool×(List (Int)))))×(Bool×Int×Int)×Int×Int×Int×(List ((Int×Int)))×(List ((Int×Int×Int)))×(List ((Int×Int×(List (Int))))))):=nfN TN N 30 x
def n31(N:Nat)(x:(Int×Bool)):Option ((Bool×Int×Int)):=nfN TN N 31 x
def n32(N:Nat)(x:((List (Int))×Int)):Option (((List ((Int×Int)))×((List (Int))×Int))):=nfN TN N 32 x
def n33(N:Nat)(x:((List (Int))×Int)):Option (((List ((Int×Int×Int)))×((List (Int))×Int))):=nfN TN N 33 x
def n38(N:Nat)(x:List ((Bool×(List (Int))))):Option (Bool):=nfN TN N 38 x
def n39(N:Nat)(x:Int):Option (Bool):=nfN TN N 39 x
def n48(N:Nat)(x:List ((Bool×(List (Int))))):Option (List (Int)):=nfN TN N 48 x
def n52(N:Nat)(x:(Int×(List ((Bool×(List (Int)))))×(Bool×Int×Int)×Int×Int×Int×(List ((Int×Int)))×(List ((Int×Int×Int)))×(List ((Int×Int×(List (Int))))))):Option ((Int×(List ((Bool×(List (Int)))))×(Bool×Int×Int)×Int×Int×Int×(List ((Int×Int)))×(List ((Int×Int×Int)))×(List ((Int×Int×(List (Int))))))):=nfN TN N 52 x
def n78(N:Nat)(x:List (Int)):Option (List (Int)):=nfN TN N 78 x
def n79(N:Nat)(x:List (Int)):Option (List (Int)):=nfN TN N 79 x
def n80(N:Nat)(x:List ((Int×Int))):Option (List ((Int×Int))):=nfN TN N 80 x
def n81(N:Nat)(x:List ((Int×Int×Int))):Option (List ((Int×Int×Int))):=nfN TN N 81 x
end Go.Proofs.YtgfmodmeimhhpaaDoor.Z
end
