/- Names for the functions as they are read. -/
import Derived.Test.YtlgnmgbnbomckaaGreatDoorNT
namespace Go.Proofs.YtlgnmgbnbomckaaGreatDoor
open Go.VM
set_option maxRecDepth 100000
noncomputable def n43 (N:Nat) (x:((List UInt8)×(List UInt8))):Option (((List UInt8)×(List UInt8)×Bool)):=nfN TN N 43 x
noncomputable def n48 (N:Nat) (x:Int):Option (List UInt8):=nfN TN N 48 x
noncomputable def n52 (N:Nat) (x:((List UInt8)×(List UInt8))):Option (Bool):=nfN TN N 52 x
noncomputable def n54 (N:Nat) (x:((List UInt8)×Int)):Option (Int):=nfN TN N 54 x
noncomputable def n60 (N:Nat) (x:Int):Option (Int):=nfN TN N 60 x
noncomputable def n66 (N:Nat) (x:((List UInt8)×(List UInt8))):Option (Bool):=nfN TN N 66 x
noncomputable def n69 (N:Nat) (x:((List UInt8)×(List UInt8))):Option (List UInt8):=nfN TN N 69 x
noncomputable def n70 (N:Nat) (x:List UInt8):Option ((Int×Bool)):=nfN TN N 70 x
noncomputable def n72 (N:Nat) (x:((List (List UInt8))×(List UInt8))):Option (List UInt8):=nfN TN N 72 x
noncomputable def n81 (N:Nat) (x:((List UInt8)×(List UInt8))):Option (Int):=nfN TN N 81 x
noncomputable def n88 (N:Nat) (x:((List UInt8)×(List UInt8))):Option (List (List UInt8)):=nfN TN N 88 x
noncomputable def n130 (N:Nat) (x:Int):Option (Int):=nfN TN N 130 x
noncomputable def n135 (N:Nat) (x:((List UInt8)×Int)):Option (Int):=nfN TN N 135 x
noncomputable def n3 (N:Nat) (x:List (Int)):Option (Bool):=nfN TN N 3 x
noncomputable def n5 (N:Nat) (x:((List UInt8)×((Bool×Int×Int)×Int)×(List (Int))×Int×Int)):Option (Bool):=nfN TN N 5 x
noncomputable def n11 (N:Nat) (x:List (Int)):Option (((List (Int))×Int)):=nfN TN N 11 x
noncomputable def n12 (N:Nat) (x:((List (Int))×Int)):Option ((((Bool×Int×Int)×Int)×((List (Int))×Int))):=nfN TN N 12 x
noncomputable def n13 (N:Nat) (x:List UInt8):Option ((((Bool×Int×Int)×Int)×Int)):=nfN TN N 13 x
noncomputable def n14 (N:Nat) (x:((Bool×Int×Int)×Int)):Option (List UInt8):=nfN TN N 14 x
noncomputable def n15 (N:Nat) (x:Unit):Option (Bool):=nfN TN N 15 x
noncomputable def n16 (N:Nat) (x:((List (Int))×Int)):Option (((Bool×Int×Int)×((List (Int))×Int))):=nfN TN N 16 x
noncomputable def n21 (N:Nat) (x:((Bool×Int×Int)×Int)):Option (List UInt8):=nfN TN N 21 x
noncomputable def n22 (N:Nat) (x:((List (Int))×Int×Int)):Option (List (Int)):=nfN TN N 22 x
noncomputable def n23 (N:Nat) (x:(Bool×Int×Int)):Option (List UInt8):=nfN TN N 23 x
noncomputable def n24 (N:Nat) (x:(Int×Int)):Option (Int):=nfN TN N 24 x
noncomputable def n25 (N:Nat) (x:List UInt8):Option ((((Bool×Int×Int)×Int)×Int)):=nfN TN N 25 x
noncomputable def n26 (N:Nat) (x:((Bool×Int×Int)×Int)):Option ((((Bool×Int×Int)×Int)×Int)):=nfN TN N 26 x
noncomputable def n27 (N:Nat) (x:(((List (Int))×Int)×Int)):Option ((Int×((List (Int))×Int))):=nfN TN N 27 x
noncomputable def n34 (N:Nat) (x:(((Bool×Int×Int)×Int)×((Bool×Int×Int)×Int))):Option ((((Bool×Int×Int)×Int)×Int)):=nfN TN N 34 x
noncomputable def n38 (N:Nat) (x:((Bool×Int×Int)×Int)):Option (Bool):=nfN TN N 38 x
noncomputable def n39 (N:Nat) (x:((Bool×Int×Int)×Int)):Option (Bool):=nfN TN N 39 x
noncomputable def n44 (N:Nat) (x:List UInt8):Option (((Bool×Int×Int)×Int)):=nfN TN N 44 x
noncomputable def n45 (N:Nat) (x:List UInt8):Option ((Int×Bool)):=nfN TN N 45 x
noncomputable def n46 (N:Nat) (x:(Bool×Int×Int)):Option (Int):=nfN TN N 46 x
noncomputable def n47 (N:Nat) (x:(Bool×Int×Int)):Option (List UInt8):=nfN TN N 47 x
noncomputable def n49 (N:Nat) (x:Int):Option ((Int×Int)):=nfN TN N 49 x
noncomputable def n50 (N:Nat) (x:((Bool×Int×Int)×Int)):Option ((Bool×Int×Int)):=nfN TN N 50 x
noncomputable def n51 (N:Nat) (x:(Bool×Int×Int)):Option (List (Int)):=nfN TN N 51 x
noncomputable def n53 (N:Nat) (x:(Int×Int)):Option (List UInt8):=nfN TN N 53 x
noncomputable def n55 (N:Nat) (x:List UInt8):Option (Bool):=nfN TN N 55 x
noncomputable def n56 (N:Nat) (x:List UInt8):Option (((Bool×Int×Int)×Int)):=nfN TN N 56 x
noncomputable def n57 (N:Nat) (x:(Bool×Int×Int)):Option (Bool):=nfN TN N 57 x
noncomputable def n58 (N:Nat) (x:(Bool×Int×Int)):Option (Int):=nfN TN N 58 x
noncomputable def n59 (N:Nat) (x:List (Int)):Option (((Bool×Int×Int)×Int)):=nfN TN N 59 x
noncomputable def n61 (N:Nat) (x:(Bool×Int×Int)):Option (Bool):=nfN TN N 61 x
noncomputable def n67 (N:Nat) (x:List UInt8):Option (((Bool×Int×Int)×Bool)):=nfN TN N 67 x
noncomputable def n68 (N:Nat) (x:List UInt8):Option (((List (Int))×Bool)):=nfN TN N 68 x
noncomputable def n71 (N:Nat) (x:(Bool×Int×Int)):Option (List (Int)):=nfN TN N 71 x
noncomputable def n73 (N:Nat) (x:(Bool×Int×Int)):Option ((Int×Int×Int×Int×Int×Int×Int×Int)):=nfN TN N 73 x
noncomputable def n74 (N:Nat) (x:(Int×Int×Int×Int×Int×Int×Int×Int)):Option ((Int×Int)):=nfN TN N 74 x
noncomputable def n75 (N:Nat) (x:List (Int)):Option (List UInt8):=nfN TN N 75 x
noncomputable def n78 (N:Nat) (x:(Int×Int)):Option (List UInt8):=nfN TN N 78 x
noncomputable def n80 (N:Nat) (x:List UInt8):Option (((List (Int))×Bool)):=nfN TN N 80 x
noncomputable def n82 (N:Nat) (x:List UInt8):Option (((List (Int))×Bool)):=nfN TN N 82 x
noncomputable def n89 (N:Nat) (x:((List UInt8)×Bool)):Option (((List (Int))×Bool)):=nfN TN N 89 x
noncomputable def n106 (N:Nat) (x:((List (Int))×Int×Int×Bool×Bool)):Option (((List (Int))×(List UInt8))):=nfN TN N 106 x
noncomputable def n107 (N:Nat) (x:List UInt8):Option ((Int×Bool)):=nfN TN N 107 x
noncomputable def n108 (N:Nat) (x:Int):Option (Int):=nfN TN N 108 x
noncomputable def n115 (N:Nat) (x:List UInt8):Option ((Int×Bool)):=nfN TN N 115 x
noncomputable def n129 (N:Nat) (x:Int):Option (Bool):=nfN TN N 129 x
theorem e43 (N:Nat) (x):n43 (N+1) x=(qF aJd ⟨[.d .str,.d .str],[(.str,[]),(.str,[]),(.bool,[])],none⟩) x:=rfl
theorem e48 (N:Nat) (x):n48 (N+1) x=(qF aH1 ⟨[.d (.int .i64)],[(.str,[])],none⟩) x:=rfl
theorem e52 (N:Nat) (x):n52 (N+1) x=(qF oK ⟨[.d .str,.d .str],[(.bool,[])],none⟩) x:=rfl
theorem e54 (N:Nat) (x):n54 (N+1) x=(qF iA ⟨[.d .str,.d (.int .u8)],[(.int .i64,[])],none⟩) x:=rfl
theorem e60 (N:Nat) (x):n60 (N+1) x=(qF gLZ ⟨[.d (.int .u64)],[(.int .i64,[])],none⟩) x:=rfl
theorem e66 (N:Nat) (x):n66 (N+1) x=(qF rQ ⟨[.d .str,.d .str],[(.bool,[])],none⟩) x:=rfl
theorem e69 (N:Nat) (x):n69 (N+1) x=(qF aH0 ⟨[.d .str,.d .str],[(.str,[])],none⟩) x:=rfl
theorem e70 (N:Nat) (x):n70 (N+1) x=(qF (aET 140) ⟨[.d .str],[(.int .i64,[]),(.err,[])],none⟩) x:=rfl
theorem e72 (N:Nat) (x):n72 (N+1) x=aIs x:=rfl
theorem e81 (N:Nat) (x):n81 (N+1) x=(qF aEO ⟨[.d .str,.d .str],[(.int .i64,[])],none⟩) x:=rfl
theorem e88 (N:Nat) (x):n88 (N+1) x=(qF aEQ ⟨[.d .str,.d .str],[(.sl .str,[])],none⟩) x:=rfl
theorem e130 (N:Nat) (x):n130 (N+1) x=(qF gTZ ⟨[.d (.int .u64)],[(.int .i64,[])],none⟩) x:=rfl
theorem e135 (N:Nat) (x):n135 (N+1) x=aD2 x:=rfl
end Go.Proofs.YtlgnmgbnbomckaaGreatDoor
