/- Names for the functions as they are read. -/
import Derived.Test.YtghpknbkecolnaaGreatDoorNT
namespace Go.Proofs.YtghpknbkecolnaaGreatDoor
open Go.VM
set_option maxRecDepth 100000
noncomputable def n35 (N:Nat) (x:Int):Option (List UInt8):=nfN TN N 35 x
noncomputable def n36 (N:Nat) (x:((List (List UInt8))×(List UInt8))):Option (List UInt8):=nfN TN N 36 x
noncomputable def n38 (N:Nat) (x:List UInt8):Option (List (List UInt8)):=nfN TN N 38 x
noncomputable def n39 (N:Nat) (x:((List UInt8)×(List UInt8))):Option (List (List UInt8)):=nfN TN N 39 x
noncomputable def n40 (N:Nat) (x:List UInt8):Option ((Int×Bool)):=nfN TN N 40 x
noncomputable def n47 (N:Nat) (x:((List ((Int×Int)))×(Int×Int)×Unit)):Option (((List ((Int×Int)))×Int)):=nfN TN N 47 x
noncomputable def n48 (N:Nat) (x:((List ((Int×Int)))×(Int×Int))):Option (List ((Int×Int))):=nfN TN N 48 x
noncomputable def n55 (N:Nat) (x:((List ((Int×Int×Int)))×(Int×Int×Int)×Unit)):Option (((List ((Int×Int×Int)))×Int)):=nfN TN N 55 x
noncomputable def n6 (N:Nat) (x:((List (Int))×Int×Int)):Option (Bool):=nfN TN N 6 x
noncomputable def n7 (N:Nat) (x:Unit):Option (Bool):=nfN TN N 7 x
noncomputable def n11 (N:Nat) (x:((List ((Int×Int)))×(List ((Int×Int×Int))))):Option (List UInt8):=nfN TN N 11 x
noncomputable def n13 (N:Nat) (x:List UInt8):Option (((List ((Int×Int)))×(List ((Int×Int×Int)))×Int)):=nfN TN N 13 x
noncomputable def n15 (N:Nat) (x:((List ((Int×Int)))×(List ((Int×Int))))):Option (Bool):=nfN TN N 15 x
noncomputable def n16 (N:Nat) (x:((List ((Int×Int×Int)))×(List ((Int×Int×Int))))):Option (Bool):=nfN TN N 16 x
noncomputable def n17 (N:Nat) (x:(Int×Int)):Option (Int):=nfN TN N 17 x
noncomputable def n18 (N:Nat) (x:List ((Int×Int))):Option (Bool):=nfN TN N 18 x
noncomputable def n20 (N:Nat) (x:((List ((Int×Int)))×(Int×Int))):Option (((List ((Int×Int)))×Int)):=nfN TN N 20 x
noncomputable def n22 (N:Nat) (x:((List ((Int×Int)))×(Int×Int))):Option (List ((Int×Int))):=nfN TN N 22 x
noncomputable def n24 (N:Nat) (x:((List ((Int×Int)))×(Int×Int))):Option (Bool):=nfN TN N 24 x
noncomputable def n26 (N:Nat) (x:List ((Int×Int×Int))):Option (Bool):=nfN TN N 26 x
noncomputable def n28 (N:Nat) (x:((List ((Int×Int×Int)))×(Int×Int×Int))):Option (((List ((Int×Int×Int)))×Int)):=nfN TN N 28 x
noncomputable def n37 (N:Nat) (x:List (Int)):Option (List UInt8):=nfN TN N 37 x
noncomputable def n42 (N:Nat) (x:((List ((Int×Int)))×Unit×Unit)):Option (Bool):=nfN TN N 42 x
noncomputable def n43 (N:Nat) (x:(Int×Int)):Option (Bool):=nfN TN N 43 x
noncomputable def n44 (N:Nat) (x:((Int×Int)×(Int×Int))):Option (Int):=nfN TN N 44 x
noncomputable def n49 (N:Nat) (x:((List ((Int×Int)))×(Int×Int))):Option (Bool):=nfN TN N 49 x
noncomputable def n50 (N:Nat) (x:((List ((Int×Int×Int)))×Unit×Unit)):Option (Bool):=nfN TN N 50 x
noncomputable def n51 (N:Nat) (x:(Int×Int×Int)):Option (Bool):=nfN TN N 51 x
noncomputable def n52 (N:Nat) (x:((Int×Int×Int)×(Int×Int×Int))):Option (Int):=nfN TN N 52 x
noncomputable def n67 (N:Nat) (x:(Int×(List (Int)))):Option (Bool):=nfN TN N 67 x
noncomputable def n68 (N:Nat) (x:List (Int)):Option (Int):=nfN TN N 68 x
noncomputable def n69 (N:Nat) (x:(Int×Int)):Option (Int):=nfN TN N 69 x
noncomputable def n75 (N:Nat) (x:((List ((Int×Int)))×(Int×Int))):Option (Int):=nfN TN N 75 x
noncomputable def n94 (N:Nat) (x:List (Int)):Option (Int):=nfN TN N 94 x
noncomputable def n95 (N:Nat) (x:List (Int)):Option (Int):=nfN TN N 95 x
noncomputable def n96 (N:Nat) (x:Int):Option (Bool):=nfN TN N 96 x
theorem e35 (N:Nat) (x):n35 (N+1) x=(qF aH1 ⟨[.d (.int .i64)],[(.str,[])],none⟩) x:=rfl
theorem e36 (N:Nat) (x):n36 (N+1) x=aIs x:=rfl
theorem e38 (N:Nat) (x):n38 (N+1) x=(qF gFields ⟨[.d .str],[(.sl .str,[])],none⟩) x:=rfl
theorem e39 (N:Nat) (x):n39 (N+1) x=(qF aEQ ⟨[.d .str,.d .str],[(.sl .str,[])],none⟩) x:=rfl
theorem e40 (N:Nat) (x):n40 (N+1) x=(qF (aET 119) ⟨[.d .str],[(.int .i64,[]),(.err,[])],none⟩) x:=rfl
theorem e47 (N:Nat) (x):n47 (N+1) x=(gAdd Z.lesC) x:=rfl
theorem e48 (N:Nat) (x):n48 (N+1) x=gWithout x:=rfl
theorem e55 (N:Nat) (x):n55 (N+1) x=(gAdd Z.lesL) x:=rfl
end Go.Proofs.YtghpknbkecolnaaGreatDoor
