/- Names for the functions as they are read. -/
import Derived.Test.YtajoneenakjifaaDoorNT
namespace Go.Proofs.YtajoneenakjifaaDoor
open Go.VM
set_option maxRecDepth 100000
noncomputable def n10 (N:Nat) (x:List UInt8):Option (((List ((Bool×(List (Int)))))×Int)):=nfN TN N 10 x
noncomputable def n19 (N:Nat) (x:((List ((Bool×(List (Int)))))×Int×Int)):Option (List ((Bool×(List (Int))))):=nfN TN N 19 x
noncomputable def n31 (N:Nat) (x:((List ((Bool×(List (Int)))))×Int×Int)):Option (((List ((Bool×(List (Int)))))×Int)):=nfN TN N 31 x
noncomputable def n38 (N:Nat) (x:((List (List UInt8))×(List UInt8))):Option (List UInt8):=nfN TN N 38 x
noncomputable def n49 (N:Nat) (x:Int):Option (List UInt8):=nfN TN N 49 x
noncomputable def n6 (N:Nat) (x:((List ((Bool×(List (Int)))))×(List (Int))×Int×Int×Int×Int)):Option (Bool):=nfN TN N 6 x
noncomputable def n8 (N:Nat) (x:List (Int)):Option (((List (Int))×Int)):=nfN TN N 8 x
noncomputable def n9 (N:Nat) (x:((List (Int))×Int)):Option (((List ((Bool×(List (Int)))))×((List (Int))×Int))):=nfN TN N 9 x
noncomputable def n11 (N:Nat) (x:List ((Bool×(List (Int))))):Option (List UInt8):=nfN TN N 11 x
noncomputable def n12 (N:Nat) (x:((List ((Bool×(List (Int)))))×(List ((Bool×(List (Int))))))):Option (Bool):=nfN TN N 12 x
noncomputable def n13 (N:Nat) (x:Unit):Option (Bool):=nfN TN N 13 x
noncomputable def n14 (N:Nat) (x:List ((Bool×(List (Int))))):Option (List (Int)):=nfN TN N 14 x
noncomputable def n16 (N:Nat) (x:List ((Bool×(List (Int))))):Option (Int):=nfN TN N 16 x
noncomputable def n17 (N:Nat) (x:List ((Bool×(List (Int))))):Option (Bool):=nfN TN N 17 x
noncomputable def n18 (N:Nat) (x:List ((Bool×(List (Int))))):Option (Bool):=nfN TN N 18 x
noncomputable def n20 (N:Nat) (x:List ((Bool×(List (Int))))):Option ((Int×Bool)):=nfN TN N 20 x
noncomputable def n22 (N:Nat) (x:List ((Bool×(List (Int))))):Option ((Int×Bool)):=nfN TN N 22 x
noncomputable def n24 (N:Nat) (x:List ((Bool×(List (Int))))):Option (Bool):=nfN TN N 24 x
noncomputable def n26 (N:Nat) (x:List ((Bool×(List (Int))))):Option (List (Int)):=nfN TN N 26 x
noncomputable def n27 (N:Nat) (x:(Int×Int)):Option (Int):=nfN TN N 27 x
noncomputable def n32 (N:Nat) (x:((List ((Bool×(List (Int)))))×Int×Int)):Option (((List ((Bool×(List (Int)))))×Int)):=nfN TN N 32 x
noncomputable def n33 (N:Nat) (x:(((List (Int))×Int)×Int)):Option ((Int×((List (Int))×Int))):=nfN TN N 33 x
noncomputable def n34 (N:Nat) (x:((List (Int))×Int)):Option ((Int×((List (Int))×Int))):=nfN TN N 34 x
noncomputable def n37 (N:Nat) (x:((List (Int))×(List UInt8))):Option (List UInt8):=nfN TN N 37 x
noncomputable def n40 (N:Nat) (x:Int):Option (Bool):=nfN TN N 40 x
noncomputable def n41 (N:Nat) (x:List ((Bool×(List (Int))))):Option (List ((Bool×(List (Int))))):=nfN TN N 41 x
theorem e10 (N:Nat) (x):n10 (N+1) x=gParse x:=rfl
theorem e19 (N:Nat) (x):n19 (N+1) x=gNear x:=rfl
theorem e31 (N:Nat) (x):n31 (N+1) x=gPrep x:=rfl
theorem e38 (N:Nat) (x):n38 (N+1) x=aIs x:=rfl
theorem e49 (N:Nat) (x):n49 (N+1) x=(qF aH1 ⟨[.d (.int .i64)],[(.str,[])],none⟩) x:=rfl
end Go.Proofs.YtajoneenakjifaaDoor
