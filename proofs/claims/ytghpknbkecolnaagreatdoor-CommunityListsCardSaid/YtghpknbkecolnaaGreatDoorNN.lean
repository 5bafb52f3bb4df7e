/- Names for the functions as they are read. -/
import Derived.Test.YtghpknbkecolnaaGreatDoorNT
namespace Go.Proofs.YtghpknbkecolnaaGreatDoor
open Go.VM
set_option maxRecDepth 100000
noncomputable def n47 (N:Nat) (x:((List ((Int×Int)))×(Int×Int)×Unit)):Option (((List ((Int×Int)))×Int)):=nfN TN N 47 x
noncomputable def n48 (N:Nat) (x:((List ((Int×Int)))×(Int×Int))):Option (List ((Int×Int))):=nfN TN N 48 x
noncomputable def n4 (N:Nat) (x:((List ((Int×Int)))×(Int×Int)×(List (Int))×Int×Bool)):Option (Bool):=nfN TN N 4 x
noncomputable def n7 (N:Nat) (x:Unit):Option (Bool):=nfN TN N 7 x
noncomputable def n8 (N:Nat) (x:List (Int)):Option (((List (Int))×Int)):=nfN TN N 8 x
noncomputable def n9 (N:Nat) (x:((List (Int))×Int)):Option (((List ((Int×Int)))×(List ((Int×Int×Int)))×((List (Int))×Int))):=nfN TN N 9 x
noncomputable def n13 (N:Nat) (x:List UInt8):Option (((List ((Int×Int)))×(List ((Int×Int×Int)))×Int)):=nfN TN N 13 x
noncomputable def n15 (N:Nat) (x:((List ((Int×Int)))×(List ((Int×Int))))):Option (Bool):=nfN TN N 15 x
noncomputable def n17 (N:Nat) (x:(Int×Int)):Option (Int):=nfN TN N 17 x
noncomputable def n18 (N:Nat) (x:List ((Int×Int))):Option (Bool):=nfN TN N 18 x
noncomputable def n19 (N:Nat) (x:List ((Int×Int))):Option (Bool):=nfN TN N 19 x
noncomputable def n20 (N:Nat) (x:((List ((Int×Int)))×(Int×Int))):Option (((List ((Int×Int)))×Int)):=nfN TN N 20 x
noncomputable def n21 (N:Nat) (x:((List ((Int×Int)))×(Int×Int))):Option (((List ((Int×Int)))×Int)):=nfN TN N 21 x
noncomputable def n22 (N:Nat) (x:((List ((Int×Int)))×(Int×Int))):Option (List ((Int×Int))):=nfN TN N 22 x
noncomputable def n23 (N:Nat) (x:((List ((Int×Int)))×(Int×Int))):Option (List ((Int×Int))):=nfN TN N 23 x
noncomputable def n24 (N:Nat) (x:((List ((Int×Int)))×(Int×Int))):Option (Bool):=nfN TN N 24 x
noncomputable def n25 (N:Nat) (x:((List ((Int×Int)))×(Int×Int))):Option (Bool):=nfN TN N 25 x
noncomputable def n27 (N:Nat) (x:List ((Int×Int×Int))):Option (Bool):=nfN TN N 27 x
noncomputable def n29 (N:Nat) (x:((List ((Int×Int×Int)))×(Int×Int×Int))):Option (((List ((Int×Int×Int)))×Int)):=nfN TN N 29 x
noncomputable def n33 (N:Nat) (x:((List ((Int×Int×Int)))×(Int×Int×Int))):Option (Bool):=nfN TN N 33 x
noncomputable def n34 (N:Nat) (x:(((List (Int))×Int)×Int)):Option ((Int×((List (Int))×Int))):=nfN TN N 34 x
noncomputable def n42 (N:Nat) (x:((List ((Int×Int)))×Unit×Unit)):Option (Bool):=nfN TN N 42 x
noncomputable def n43 (N:Nat) (x:(Int×Int)):Option (Bool):=nfN TN N 43 x
noncomputable def n44 (N:Nat) (x:((Int×Int)×(Int×Int))):Option (Int):=nfN TN N 44 x
noncomputable def n45 (N:Nat) (x:(Int×Int)):Option (Bool):=nfN TN N 45 x
noncomputable def n46 (N:Nat) (x:((Int×Int)×(Int×Int))):Option (Bool):=nfN TN N 46 x
noncomputable def n49 (N:Nat) (x:((List ((Int×Int)))×(Int×Int))):Option (Bool):=nfN TN N 49 x
noncomputable def n52 (N:Nat) (x:((Int×Int×Int)×(Int×Int×Int))):Option (Int):=nfN TN N 52 x
noncomputable def n53 (N:Nat) (x:(Int×Int×Int)):Option (Bool):=nfN TN N 53 x
noncomputable def n54 (N:Nat) (x:((Int×Int×Int)×(Int×Int×Int))):Option (Bool):=nfN TN N 54 x
noncomputable def n67 (N:Nat) (x:(Int×(List (Int)))):Option (Bool):=nfN TN N 67 x
noncomputable def n68 (N:Nat) (x:List (Int)):Option (Int):=nfN TN N 68 x
noncomputable def n69 (N:Nat) (x:(Int×Int)):Option (Int):=nfN TN N 69 x
noncomputable def n75 (N:Nat) (x:((List ((Int×Int)))×(Int×Int))):Option (Int):=nfN TN N 75 x
noncomputable def n94 (N:Nat) (x:List (Int)):Option (Int):=nfN TN N 94 x
noncomputable def n95 (N:Nat) (x:List (Int)):Option (Int):=nfN TN N 95 x
noncomputable def n96 (N:Nat) (x:Int):Option (Bool):=nfN TN N 96 x
theorem e47 (N:Nat) (x):n47 (N+1) x=(gAdd Z.lesC) x:=rfl
theorem e48 (N:Nat) (x):n48 (N+1) x=gWithout x:=rfl
end Go.Proofs.YtghpknbkecolnaaGreatDoor
