/- Names for the functions as they are read. -/
import Derived.Test.YtajoneenakjifaaGreatDoorZT
namespace Go.Proofs.YtajoneenakjifaaGreatDoor.Z
open Go.VM
set_option maxRecDepth 100000
noncomputable def n21 (N:Nat) (x:((List (List UInt8))×(List UInt8))):Option (List UInt8):=nfN TN N 21 x
noncomputable def n27 (N:Nat) (x:((List UInt8)×(List UInt8))):Option (List (List UInt8)):=nfN TN N 27 x
noncomputable def n31 (N:Nat) (x:Int):Option (List UInt8):=nfN TN N 31 x
noncomputable def n38 (N:Nat) (x:List UInt8):Option ((Int×Bool)):=nfN TN N 38 x
noncomputable def n8 (N:Nat) (x:List ((Bool×(List (Int))))):Option (List UInt8):=nfN TN N 8 x
noncomputable def n9 (N:Nat) (x:List ((Bool×(List (Int))))):Option (List UInt8):=nfN TN N 9 x
noncomputable def n19 (N:Nat) (x:List ((Bool×(List (Int))))):Option (Bool):=nfN TN N 19 x
noncomputable def n20 (N:Nat) (x:((List (Int))×(List UInt8))):Option (List UInt8):=nfN TN N 20 x
noncomputable def n22 (N:Nat) (x:List ((Bool×(List (Int))))):Option (Bool):=nfN TN N 22 x
noncomputable def n23 (N:Nat) (x:((List (Int))×(List UInt8))):Option (List UInt8):=nfN TN N 23 x
noncomputable def n26 (N:Nat) (x:List UInt8):Option (((Bool×(List (Int)))×Bool)):=nfN TN N 26 x
noncomputable def n30 (N:Nat) (x:List UInt8):Option ((Int×Bool)):=nfN TN N 30 x
noncomputable def n35 (N:Nat) (x:Int):Option (Bool):=nfN TN N 35 x
theorem e21 (N:Nat) (x):n21 (N+1) x=aIs x:=rfl
theorem e27 (N:Nat) (x):n27 (N+1) x=(qF aEQ ⟨[.d .str,.d .str],[(.sl .str,[])],none⟩) x:=rfl
theorem e31 (N:Nat) (x):n31 (N+1) x=(qF aH1 ⟨[.d (.int .i64)],[(.str,[])],none⟩) x:=rfl
theorem e38 (N:Nat) (x):n38 (N+1) x=(qF (aET 111) ⟨[.d .str],[(.int .i64,[]),(.err,[])],none⟩) x:=rfl
end Go.Proofs.YtajoneenakjifaaGreatDoor.Z
