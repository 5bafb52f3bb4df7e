/- Names for the functions as they are read. -/
import Derived.Test.YtajoneenakjifaaGreatDoorNT
namespace Go.Proofs.YtajoneenakjifaaGreatDoor
open Go.VM
set_option maxRecDepth 100000
noncomputable def n11 (N:Nat) (x:List UInt8):Option (((List ((Bool×(List (Int)))))×Int)):=nfN TN N 11 x
noncomputable def n12 (N:Nat) (x:List UInt8):Option (((List ((Bool×(List (Int)))))×Int)):=nfN TN N 12 x
noncomputable def n21 (N:Nat) (x:((List (List UInt8))×(List UInt8))):Option (List UInt8):=nfN TN N 21 x
noncomputable def n31 (N:Nat) (x:Int):Option (List UInt8):=nfN TN N 31 x
noncomputable def n3 (N:Nat) (x:((List UInt8)×(List ((Bool×(List (Int)))))×(List (Int))×Int×Int)):Option (Bool):=nfN TN N 3 x
noncomputable def n4 (N:Nat) (x:List ((Bool×(List (Int))))):Option (Bool):=nfN TN N 4 x
noncomputable def n5 (N:Nat) (x:Unit):Option (Bool):=nfN TN N 5 x
noncomputable def n6 (N:Nat) (x:List (Int)):Option (((List (Int))×Int)):=nfN TN N 6 x
noncomputable def n7 (N:Nat) (x:((List (Int))×Int)):Option (((List ((Bool×(List (Int)))))×((List (Int))×Int))):=nfN TN N 7 x
noncomputable def n8 (N:Nat) (x:List ((Bool×(List (Int))))):Option (List UInt8):=nfN TN N 8 x
noncomputable def n9 (N:Nat) (x:List ((Bool×(List (Int))))):Option (List UInt8):=nfN TN N 9 x
noncomputable def n10 (N:Nat) (x:((List (Int))×Int×Int)):Option (List (Int)):=nfN TN N 10 x
noncomputable def n13 (N:Nat) (x:((List ((Bool×(List (Int)))))×(List ((Bool×(List (Int))))))):Option (Bool):=nfN TN N 13 x
noncomputable def n14 (N:Nat) (x:List ((Bool×(List (Int))))):Option ((Int×Bool)):=nfN TN N 14 x
noncomputable def n15 (N:Nat) (x:List ((Bool×(List (Int))))):Option ((Int×Bool)):=nfN TN N 15 x
noncomputable def n16 (N:Nat) (x:List ((Bool×(List (Int))))):Option (Int):=nfN TN N 16 x
noncomputable def n17 (N:Nat) (x:(((List (Int))×Int)×Int)):Option ((Int×((List (Int))×Int))):=nfN TN N 17 x
noncomputable def n18 (N:Nat) (x:((List (Int))×Int)):Option ((Int×((List (Int))×Int))):=nfN TN N 18 x
noncomputable def n19 (N:Nat) (x:List ((Bool×(List (Int))))):Option (Bool):=nfN TN N 19 x
noncomputable def n20 (N:Nat) (x:((List (Int))×(List UInt8))):Option (List UInt8):=nfN TN N 20 x
noncomputable def n22 (N:Nat) (x:List ((Bool×(List (Int))))):Option (Bool):=nfN TN N 22 x
noncomputable def n23 (N:Nat) (x:((List (Int))×(List UInt8))):Option (List UInt8):=nfN TN N 23 x
noncomputable def n24 (N:Nat) (x:(Int×Int)):Option (Int):=nfN TN N 24 x
noncomputable def n35 (N:Nat) (x:Int):Option (Bool):=nfN TN N 35 x
theorem e11 (N:Nat) (x):n11 (N+1) x=gParse x:=rfl
theorem e12 (N:Nat) (x):n12 (N+1) x=gRef x:=rfl
theorem e21 (N:Nat) (x):n21 (N+1) x=aIs x:=rfl
theorem e31 (N:Nat) (x):n31 (N+1) x=(qF aH1 ⟨[.d (.int .i64)],[(.str,[])],none⟩) x:=rfl
end Go.Proofs.YtajoneenakjifaaGreatDoor
