/- Names for the functions as they are read. -/
import Derived.Test.YtghpknbkecolnaaDoorNT
namespace Go.Proofs.YtghpknbkecolnaaDoor
open Go.VM
set_option maxRecDepth 100000
noncomputable def n12 (N:Nat) (x:((List ((Int×Int)))×(Int×Int)×Unit)):Option (((List ((Int×Int)))×Int)):=nfN TN N 12 x
noncomputable def n3 (N:Nat) (x:((List (Int))×Int)):Option (Bool):=nfN TN N 3 x
noncomputable def n4 (N:Nat) (x:Unit):Option (Bool):=nfN TN N 4 x
noncomputable def n5 (N:Nat) (x:((List ((Int×Int)))×(Int×Int))):Option (((List ((Int×Int)))×Int)):=nfN TN N 5 x
noncomputable def n6 (N:Nat) (x:(Int×Int)):Option (Int):=nfN TN N 6 x
noncomputable def n7 (N:Nat) (x:List ((Int×Int))):Option (Bool):=nfN TN N 7 x
noncomputable def n8 (N:Nat) (x:((List ((Int×Int)))×(List ((Int×Int))))):Option (Bool):=nfN TN N 8 x
noncomputable def n9 (N:Nat) (x:List UInt8):Option (((List ((Int×Int)))×(List ((Int×Int×Int)))×Int)):=nfN TN N 9 x
noncomputable def n10 (N:Nat) (x:((List ((Int×Int)))×(Int×Int))):Option (Bool):=nfN TN N 10 x
noncomputable def n11 (N:Nat) (x:(Int×Int)):Option (Bool):=nfN TN N 11 x
noncomputable def n13 (N:Nat) (x:((Int×Int)×(Int×Int))):Option (Int):=nfN TN N 13 x
noncomputable def n14 (N:Nat) (x:((List ((Int×Int)))×Unit×Unit)):Option (Bool):=nfN TN N 14 x
noncomputable def n21 (N:Nat) (x:(Int×(List (Int)))):Option (Bool):=nfN TN N 21 x
noncomputable def n25 (N:Nat) (x:List (Int)):Option (Int):=nfN TN N 25 x
noncomputable def n26 (N:Nat) (x:(Int×Int)):Option (Int):=nfN TN N 26 x
noncomputable def n38 (N:Nat) (x:List (Int)):Option (Int):=nfN TN N 38 x
noncomputable def n39 (N:Nat) (x:List (Int)):Option (Int):=nfN TN N 39 x
noncomputable def n42 (N:Nat) (x:Int):Option (Bool):=nfN TN N 42 x
theorem e12 (N:Nat) (x):n12 (N+1) x=(gAdd Z.lesC) x:=rfl
end Go.Proofs.YtghpknbkecolnaaDoor
