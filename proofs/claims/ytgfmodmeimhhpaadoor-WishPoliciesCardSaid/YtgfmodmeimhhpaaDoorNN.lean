/- Names for the functions as they are read. -/
import Derived.Test.YtgfmodmeimhhpaaDoorNT
namespace Go.Proofs.YtgfmodmeimhhpaaDoor
open Go.VM
set_option maxRecDepth 100000
noncomputable def n3 (N:Nat) (x:((Int×Bool×Bool×Bool×Int×(List (Int))×(List ((Int×Int))))×(List (Int))×Int×Int)):Option (Bool):=nfN TN N 3 x
noncomputable def n5 (N:Nat) (x:Unit):Option (Bool):=nfN TN N 5 x
noncomputable def n6 (N:Nat) (x:List (Int)):Option (((List (Int))×Int)):=nfN TN N 6 x
noncomputable def n7 (N:Nat) (x:(((List (Int))×Int)×Int)):Option (((Int×Bool×Bool×Bool×Int×(List (Int))×(List ((Int×Int))))×((List (Int))×Int))):=nfN TN N 7 x
noncomputable def n8 (N:Nat) (x:(Int×Bool×Bool×Bool×Int×(List (Int))×(List ((Int×Int))))):Option ((Int×Bool×Bool×Bool×Int×(List (Int))×(List ((Int×Int))))):=nfN TN N 8 x
noncomputable def n9 (N:Nat) (x:(Int×Int)):Option (Int):=nfN TN N 9 x
noncomputable def n10 (N:Nat) (x:(Int×Bool×Bool×Bool×Int×(List (Int))×(List ((Int×Int))))):Option (Int):=nfN TN N 10 x
noncomputable def n11 (N:Nat) (x:(Int×Bool×Bool×Bool×Int×(List (Int))×(List ((Int×Int))))):Option (Int):=nfN TN N 11 x
noncomputable def n13 (N:Nat) (x:(((List (Int))×Int)×Int)):Option ((Int×((List (Int))×Int))):=nfN TN N 13 x
noncomputable def n15 (N:Nat) (x:(Int×(((Bool×Int×Int)×Int)×Int×(Int×(List ((Bool×(List (Int)))))×(Bool×Int×Int)×Int×Int×Int×(List ((Int×Int)))×(List ((Int×Int×Int)))×(List ((Int×Int×(List (Int)))))))×(Int×Bool×Bool×Bool×Int×(List (Int))×(List ((Int×Int)))))):Option (((((Bool×Int×Int)×Int)×Int×(Int×(List ((Bool×(List (Int)))))×(Bool×Int×Int)×Int×Int×Int×(List ((Int×Int)))×(List ((Int×Int×Int)))×(List ((Int×Int×(List (Int)))))))×Int×Int)):=nfN TN N 15 x
noncomputable def n17 (N:Nat) (x:Int):Option (Bool):=nfN TN N 17 x
noncomputable def n18 (N:Nat) (x:Int):Option (Bool):=nfN TN N 18 x
noncomputable def n38 (N:Nat) (x:List ((Bool×(List (Int))))):Option (Bool):=nfN TN N 38 x
noncomputable def n39 (N:Nat) (x:Int):Option (Bool):=nfN TN N 39 x
noncomputable def n48 (N:Nat) (x:List ((Bool×(List (Int))))):Option (List (Int)):=nfN TN N 48 x
noncomputable def n52 (N:Nat) (x:(Int×(List ((Bool×(List (Int)))))×(Bool×Int×Int)×Int×Int×Int×(List ((Int×Int)))×(List ((Int×Int×Int)))×(List ((Int×Int×(List (Int))))))):Option ((Int×(List ((Bool×(List (Int)))))×(Bool×Int×Int)×Int×Int×Int×(List ((Int×Int)))×(List ((Int×Int×Int)))×(List ((Int×Int×(List (Int))))))):=nfN TN N 52 x
noncomputable def n78 (N:Nat) (x:List (Int)):Option (List (Int)):=nfN TN N 78 x
noncomputable def n79 (N:Nat) (x:List (Int)):Option (List (Int)):=nfN TN N 79 x
noncomputable def n80 (N:Nat) (x:List ((Int×Int))):Option (List ((Int×Int))):=nfN TN N 80 x
noncomputable def n81 (N:Nat) (x:List ((Int×Int×Int))):Option (List ((Int×Int×Int))):=nfN TN N 81 x
end Go.Proofs.YtgfmodmeimhhpaaDoor
