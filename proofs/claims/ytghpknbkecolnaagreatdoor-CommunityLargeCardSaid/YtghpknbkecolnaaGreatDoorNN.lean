/- Names for the functions as they are read. -/
import Derived.Test.YtghpknbkecolnaaGreatDoorNT
namespace Go.Proofs.YtghpknbkecolnaaGreatDoor
open Go.VM
set_option maxRecDepth 100000
noncomputable def n55 (N:Nat) (x:((List ((Int×Int×Int)))×(Int×Int×Int)×Unit)):Option (((List ((Int×Int×Int)))×Int)):=nfN TN N 55 x
noncomputable def n56 (N:Nat) (x:((List ((Int×Int×Int)))×(Int×Int×Int))):Option (List ((Int×Int×Int))):=nfN TN N 56 x
noncomputable def n5 (N:Nat) (x:((List ((Int×Int×Int)))×(Int×Int×Int)×(List (Int))×Int×Bool)):Option (Bool):=nfN TN N 5 x
noncomputable def n7 (N:Nat) (x:Unit):Option (Bool):=nfN TN N 7 x
noncomputable def n8 (N:Nat) (x:List (Int)):Option (((List (Int))×Int)):=nfN TN N 8 x
noncomputable def n9 (N:Nat) (x:((List (Int))×Int)):Option (((List ((Int×Int)))×(List ((Int×Int×Int)))×((List (Int))×Int))):=nfN TN N 9 x
noncomputable def n13 (N:Nat) (x:List UInt8):Option (((List ((Int×Int)))×(List ((Int×Int×Int)))×Int)):=nfN TN N 13 x
noncomputable def n16 (N:Nat) (x:((List ((Int×Int×Int)))×(List ((Int×Int×Int))))):Option (Bool):=nfN TN N 16 x
noncomputable def n17 (N:Nat) (x:(Int×Int)):Option (Int):=nfN TN N 17 x
noncomputable def n19 (N:Nat) (x:List ((Int×Int))):Option (Bool):=nfN TN N 19 x
noncomputable def n21 (N:Nat) (x:((List ((Int×Int)))×(Int×Int))):Option (((List ((Int×Int)))×Int)):=nfN TN N 21 x
noncomputable def n24 (N:Nat) (x:((List ((Int×Int)))×(Int×Int))):Option (Bool):=nfN TN N 24 x
noncomputable def n25 (N:Nat) (x:((List ((Int×Int)))×(Int×Int))):Option (Bool):=nfN TN N 25 x
noncomputable def n26 (N:Nat) (x:List ((Int×Int×Int))):Option (Bool):=nfN TN N 26 x
noncomputable def n27 (N:Nat) (x:List ((Int×Int×Int))):Option (Bool):=nfN TN N 27 x
noncomputable def n28 (N:Nat) (x:((List ((Int×Int×Int)))×(Int×Int×Int))):Option (((List ((Int×Int×Int)))×Int)):=nfN TN N 28 x
noncomputable def n29 (N:Nat) (x:((List ((Int×Int×Int)))×(Int×Int×Int))):Option (((List ((Int×Int×Int)))×Int)):=nfN TN N 29 x
noncomputable def n30 (N:Nat) (x:((List ((Int×Int×Int)))×(Int×Int×Int))):Option (List ((Int×Int×Int))):=nfN TN N 30 x
noncomputable def n31 (N:Nat) (x:((List ((Int×Int×Int)))×(Int×Int×Int))):Option (List ((Int×Int×Int))):=nfN TN N 31 x
noncomputable def n32 (N:Nat) (x:((List ((Int×Int×Int)))×(Int×Int×Int))):Option (Bool):=nfN TN N 32 x
noncomputable def n33 (N:Nat) (x:((List ((Int×Int×Int)))×(Int×Int×Int))):Option (Bool):=nfN TN N 33 x
noncomputable def n34 (N:Nat) (x:(((List (Int))×Int)×Int)):Option ((Int×((List (Int))×Int))):=nfN TN N 34 x
noncomputable def n44 (N:Nat) (x:((Int×Int)×(Int×Int))):Option (Int):=nfN TN N 44 x
noncomputable def n45 (N:Nat) (x:(Int×Int)):Option (Bool):=nfN TN N 45 x
noncomputable def n46 (N:Nat) (x:((Int×Int)×(Int×Int))):Option (Bool):=nfN TN N 46 x
noncomputable def n50 (N:Nat) (x:((List ((Int×Int×Int)))×Unit×Unit)):Option (Bool):=nfN TN N 50 x
noncomputable def n51 (N:Nat) (x:(Int×Int×Int)):Option (Bool):=nfN TN N 51 x
noncomputable def n52 (N:Nat) (x:((Int×Int×Int)×(Int×Int×Int))):Option (Int):=nfN TN N 52 x
noncomputable def n53 (N:Nat) (x:(Int×Int×Int)):Option (Bool):=nfN TN N 53 x
noncomputable def n54 (N:Nat) (x:((Int×Int×Int)×(Int×Int×Int))):Option (Bool):=nfN TN N 54 x
noncomputable def n57 (N:Nat) (x:((List ((Int×Int×Int)))×(Int×Int×Int))):Option (Bool):=nfN TN N 57 x
noncomputable def n67 (N:Nat) (x:(Int×(List (Int)))):Option (Bool):=nfN TN N 67 x
noncomputable def n68 (N:Nat) (x:List (Int)):Option (Int):=nfN TN N 68 x
noncomputable def n69 (N:Nat) (x:(Int×Int)):Option (Int):=nfN TN N 69 x
noncomputable def n81 (N:Nat) (x:((List ((Int×Int×Int)))×(Int×Int×Int))):Option (Int):=nfN TN N 81 x
noncomputable def n94 (N:Nat) (x:List (Int)):Option (Int):=nfN TN N 94 x
noncomputable def n95 (N:Nat) (x:List (Int)):Option (Int):=nfN TN N 95 x
noncomputable def n96 (N:Nat) (x:Int):Option (Bool):=nfN TN N 96 x
theorem e55 (N:Nat) (x):n55 (N+1) x=(gAdd Z.lesL) x:=rfl
theorem e56 (N:Nat) (x):n56 (N+1) x=gWithout x:=rfl
end Go.Proofs.YtghpknbkecolnaaGreatDoor
