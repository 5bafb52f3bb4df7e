/- Names for the functions as they are read. -/
import Derived.Test.YtajoneenakjifaaDoorZT
namespace Go.Proofs.YtajoneenakjifaaDoor.Z
open Go.VM
set_option maxRecDepth 100000
noncomputable def n38 (N:Nat) (x:((List (List UInt8))×(List UInt8))):Option (List UInt8):=nfN TN N 38 x
noncomputable def n47 (N:Nat) (x:((List UInt8)×(List UInt8))):Option (List (List UInt8)):=nfN TN N 47 x
noncomputable def n48 (N:Nat) (x:List UInt8):Option ((Int×Bool)):=nfN TN N 48 x
noncomputable def n49 (N:Nat) (x:Int):Option (List UInt8):=nfN TN N 49 x
noncomputable def n11 (N:Nat) (x:List ((Bool×(List (Int))))):Option (List UInt8):=nfN TN N 11 x
noncomputable def n14 (N:Nat) (x:List ((Bool×(List (Int))))):Option (List (Int)):=nfN TN N 14 x
noncomputable def n17 (N:Nat) (x:List ((Bool×(List (Int))))):Option (Bool):=nfN TN N 17 x
noncomputable def n27 (N:Nat) (x:(Int×Int)):Option (Int):=nfN TN N 27 x
noncomputable def n36 (N:Nat) (x:List UInt8):Option (((Bool×(List (Int)))×Bool)):=nfN TN N 36 x
noncomputable def n37 (N:Nat) (x:((List (Int))×(List UInt8))):Option (List UInt8):=nfN TN N 37 x
noncomputable def n40 (N:Nat) (x:Int):Option (Bool):=nfN TN N 40 x
theorem e38 (N:Nat) (x):n38 (N+1) x=aIs x:=rfl
theorem e47 (N:Nat) (x):n47 (N+1) x=(qF aEQ ⟨[.d .str,.d .str],[(.sl .str,[])],none⟩) x:=rfl
theorem e48 (N:Nat) (x):n48 (N+1) x=(qF (aET 119) ⟨[.d .str],[(.int .i64,[]),(.err,[])],none⟩) x:=rfl
theorem e49 (N:Nat) (x):n49 (N+1) x=(qF aH1 ⟨[.d (.int .i64)],[(.str,[])],none⟩) x:=rfl
end Go.Proofs.YtajoneenakjifaaDoor.Z
