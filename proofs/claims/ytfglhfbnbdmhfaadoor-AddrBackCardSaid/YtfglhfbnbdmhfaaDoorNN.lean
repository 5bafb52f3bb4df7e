/- Names for the functions as they are read. -/
import Derived.Test.YtfglhfbnbdmhfaaDoorNT
namespace Go.Proofs.YtfglhfbnbdmhfaaDoor
open Go.VM
set_option maxRecDepth 100000
noncomputable def n12 (N:Nat) (x:((List UInt8)×(List UInt8))):Option (Int):=nfN TN N 12 x
noncomputable def n13 (N:Nat) (x:((List UInt8)×(List UInt8))):Option (Bool):=nfN TN N 13 x
noncomputable def n14 (N:Nat) (x:((List UInt8)×(List UInt8))):Option (List (List UInt8)):=nfN TN N 14 x
noncomputable def n29 (N:Nat) (x:List UInt8):Option (List UInt8):=nfN TN N 29 x
noncomputable def n31 (N:Nat) (x:Int):Option (List UInt8):=nfN TN N 31 x
noncomputable def n32 (N:Nat) (x:((List (List UInt8))×(List UInt8))):Option (List UInt8):=nfN TN N 32 x
noncomputable def n46 (N:Nat) (x:((List UInt8)×(List UInt8)×(List UInt8)×Int)):Option (List UInt8):=nfN TN N 46 x
noncomputable def n59 (N:Nat) (x:List UInt8):Option ((Int×Bool)):=nfN TN N 59 x
noncomputable def n60 (N:Nat) (x:((List UInt8)×(List UInt8))):Option (((List UInt8)×(List UInt8)×Bool)):=nfN TN N 60 x
noncomputable def n95 (N:Nat) (x:((List UInt8)×Int)):Option (Int):=nfN TN N 95 x
noncomputable def n103 (N:Nat) (x:Int):Option (Int):=nfN TN N 103 x
noncomputable def n3 (N:Nat) (x:List (Int)):Option (Bool):=nfN TN N 3 x
noncomputable def n4 (N:Nat) (x:((List (Int))×Int)):Option (Bool):=nfN TN N 4 x
noncomputable def n5 (N:Nat) (x:List (Int)):Option (Bool):=nfN TN N 5 x
noncomputable def n6 (N:Nat) (x:((Bool×Int×Int)×(List (Int))×(List (Int)))):Option (Bool):=nfN TN N 6 x
noncomputable def n7 (N:Nat) (x:((List (Int))×(List UInt8))):Option (Bool):=nfN TN N 7 x
noncomputable def n8 (N:Nat) (x:List (Int)):Option (((List (Int))×Int)):=nfN TN N 8 x
noncomputable def n9 (N:Nat) (x:((List (Int))×Int)):Option (((Bool×Int×Int)×((List (Int))×Int))):=nfN TN N 9 x
noncomputable def n10 (N:Nat) (x:(Bool×Int×Int)):Option (List UInt8):=nfN TN N 10 x
noncomputable def n11 (N:Nat) (x:(Bool×Int×Int)):Option (List (Int)):=nfN TN N 11 x
noncomputable def n15 (N:Nat) (x:Unit):Option (Bool):=nfN TN N 15 x
noncomputable def n16 (N:Nat) (x:(Int×Int)):Option (Int):=nfN TN N 16 x
noncomputable def n17 (N:Nat) (x:(Bool×Int×Int)):Option (((Bool×Int×Int)×Bool)):=nfN TN N 17 x
noncomputable def n18 (N:Nat) (x:((Bool×Int×Int)×(Bool×Int×Int))):Option (Int):=nfN TN N 18 x
noncomputable def n19 (N:Nat) (x:List (Int)):Option (Bool):=nfN TN N 19 x
noncomputable def n20 (N:Nat) (x:(Bool×Int×Int)):Option (Bool):=nfN TN N 20 x
noncomputable def n21 (N:Nat) (x:(Bool×Int×Int)):Option (Bool):=nfN TN N 21 x
noncomputable def n22 (N:Nat) (x:(Bool×Int×Int)):Option (List (Int)):=nfN TN N 22 x
noncomputable def n23 (N:Nat) (x:(Bool×Int×Int)):Option (((Bool×Int×Int)×Bool)):=nfN TN N 23 x
noncomputable def n24 (N:Nat) (x:((Bool×Int×Int)×(Bool×Int×Int))):Option (Int):=nfN TN N 24 x
noncomputable def n25 (N:Nat) (x:List (Int)):Option (((Bool×Int×Int)×Int)):=nfN TN N 25 x
noncomputable def n26 (N:Nat) (x:List (Int)):Option (((Bool×Int×Int)×Int)):=nfN TN N 26 x
noncomputable def n27 (N:Nat) (x:List UInt8):Option (((Bool×Int×Int)×Int)):=nfN TN N 27 x
noncomputable def n28 (N:Nat) (x:((List (Int))×Int)):Option (((List UInt8)×((List (Int))×Int))):=nfN TN N 28 x
noncomputable def n30 (N:Nat) (x:(((List (Int))×Int)×Int)):Option ((Int×((List (Int))×Int))):=nfN TN N 30 x
noncomputable def n33 (N:Nat) (x:(Bool×Int×Int)):Option ((Int×Int×Int×Int×Int×Int×Int×Int)):=nfN TN N 33 x
noncomputable def n34 (N:Nat) (x:(Int×Int×Int×Int×Int×Int×Int×Int)):Option ((Int×Int)):=nfN TN N 34 x
noncomputable def n35 (N:Nat) (x:List (Int)):Option (List UInt8):=nfN TN N 35 x
noncomputable def n40 (N:Nat) (x:List (Int)):Option (Int):=nfN TN N 40 x
noncomputable def n41 (N:Nat) (x:(Int×Int)):Option (Int):=nfN TN N 41 x
noncomputable def n42 (N:Nat) (x:(Bool×Int×Int)):Option (Int):=nfN TN N 42 x
noncomputable def n43 (N:Nat) (x:(Int×Int)):Option (Int):=nfN TN N 43 x
noncomputable def n44 (N:Nat) (x:List UInt8):Option (((Bool×Int×Int)×Bool)):=nfN TN N 44 x
noncomputable def n45 (N:Nat) (x:List UInt8):Option (((List (Int))×Bool)):=nfN TN N 45 x
noncomputable def n54 (N:Nat) (x:(Int×Int)):Option (List UInt8):=nfN TN N 54 x
noncomputable def n57 (N:Nat) (x:Int):Option (Bool):=nfN TN N 57 x
noncomputable def n58 (N:Nat) (x:Int):Option (Bool):=nfN TN N 58 x
noncomputable def n61 (N:Nat) (x:((List UInt8)×Bool)):Option (((List (Int))×Bool)):=nfN TN N 61 x
noncomputable def n70 (N:Nat) (x:(Int×Int)):Option (List UInt8):=nfN TN N 70 x
noncomputable def n78 (N:Nat) (x:List UInt8):Option ((Int×Bool)):=nfN TN N 78 x
noncomputable def n87 (N:Nat) (x:((List (Int))×Int×Int×Bool×Bool)):Option (((List (Int))×(List UInt8))):=nfN TN N 87 x
noncomputable def n102 (N:Nat) (x:Int):Option (Bool):=nfN TN N 102 x
theorem e12 (N:Nat) (x):n12 (N+1) x=(qF gCount ⟨[.d .str,.d .str],[(.int .i64,[])],none⟩) x:=rfl
theorem e13 (N:Nat) (x):n13 (N+1) x=(qF gContains ⟨[.d .str,.d .str],[(.bool,[])],none⟩) x:=rfl
theorem e14 (N:Nat) (x):n14 (N+1) x=(qF gSplit ⟨[.d .str,.d .str],[(.sl .str,[])],none⟩) x:=rfl
theorem e29 (N:Nat) (x):n29 (N+1) x=(qF gLower ⟨[.d .str],[(.str,[])],none⟩) x:=rfl
theorem e31 (N:Nat) (x):n31 (N+1) x=(qF gItoa ⟨[.d (.int .i64)],[(.str,[])],none⟩) x:=rfl
theorem e32 (N:Nat) (x):n32 (N+1) x=qJoin x:=rfl
theorem e46 (N:Nat) (x):n46 (N+1) x=(qF gReplace ⟨[.d .str,.d .str,.d .str,.d (.int .i64)],[(.str,[])],none⟩) x:=rfl
theorem e59 (N:Nat) (x):n59 (N+1) x=(qF (gAtoi 126) ⟨[.d .str],[(.int .i64,[]),(.err,[])],none⟩) x:=rfl
theorem e60 (N:Nat) (x):n60 (N+1) x=(qF gCut ⟨[.d .str,.d .str],[(.str,[]),(.str,[]),(.bool,[])],none⟩) x:=rfl
theorem e95 (N:Nat) (x):n95 (N+1) x=qIndexByte x:=rfl
theorem e103 (N:Nat) (x):n103 (N+1) x=(qF gTZ ⟨[.d (.int .u64)],[(.int .i64,[])],none⟩) x:=rfl
end Go.Proofs.YtfglhfbnbdmhfaaDoor
