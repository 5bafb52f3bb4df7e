/- The functions as they are read. -/
import Derived.Test.YtgfmodmeimhhpaaDoorZN
namespace Go.Proofs.YtgfmodmeimhhpaaDoor.Z
open Go.VM
set_option maxRecDepth 100000
abbrev Zq1:=Bool×(List Int)
abbrev Zq5:=Int×Int
abbrev Zq4:=Int×Int×(List Int)
abbrev Zq0:=Int×(List Zq1)×(Bool×Int×Int)×Int×Int×Int×(List Zq5)×(List (Int×Int×Int))×(List Zq4)
abbrev Zq2:=List (Int×Int×Int)×(Int×(List (Int×Int×Int)×(Int×(Int×((List Int)×Int)))))
abbrev Zq3:=List Zq5×(Int×(List Zq5×(Int×(Int×((List Int)×Int)))))
theorem e9(N:Nat)(a0:Int)(a1:Int):n9 (N+1) (a0,a1)=
 (if a1=0 then none else some (Int.tmod a0 a1)).bind fun v0=>
 aBJ (fun(p1:Int)=>
 some p1) fun j2=>
 bif (decide (v0<0))then(j2 (IntKind.i64.wrap (v0+a1)))else(j2 v0):=by kernel_rfl
theorem e13(N:Nat)(a0:((List Int)×Int))(a1:Int):n13 (N+1) (a0,a1)=
 aJy (decide (a0.2>=(aJO a0.1))) fun v0=>
 bif v0 then(some (0,a0))else(aJy (IntKind.i64.wrap (a0.2+1)) fun v1=>
 aJy (IntKind.i64.wrap (v1-1)) fun v2=>
 (aEU a0.1 v2).bind fun v3=>
 (n9 N (v3,a1)).bind fun v4=>
 some (v4,a0.1,v1)):=by kernel_rfl
theorem e30(N:Nat):n30 (N+1) ()=
 aJy ([]:List Zq1) fun v0=>
 aJy ([]:List (Int×Int×Int)) fun v1=>
 aJy ([]:List Zq4) fun v2=>
 some ((-1),v0,(false,0,0),(-1),(-1),(-1),([]:List Zq5),v1,v2):=by kernel_rfl
theorem e31(N:Nat)(a0:Int)(a1:Bool):n31 (N+1) (a0,a1)=
 bif a1 then(some (true,2306139568115613695,(IntKind.u64.wrap a0)))else(aJy (IntKind.i64.wrap ((Int.tmod a0 250)+1)) fun v0=>
 aJy (bits .or IntKind.u64 3221225984 (IntKind.u64.wrap v0)) fun v1=>
 some (false,0,v1)):=by kernel_rfl
theorem e32(N:Nat)(a0:((List Int)×Int)):n32 (N+1) a0=
 aJy ([(0,99),(0,101),(0,102),(99,101),(99,103),(500,1),(65535,666),(65535,65282)]:List Zq5) fun v0=>
 (n13 N (a0,65536)).bind fun v1=>
 aBJ (fun(p2:(List Zq5×((List Int)×Int)))=>
 some (p2.1,p2.2)) fun j3=>
 eG N (fun(p4:Zq3)=>
 aJy (decide (p4.2.2.2.2.1<p4.2.2.2.1)) fun v5=>
 bif v5 then(aBJ (fun(p6:Zq3)=>
 aJy (IntKind.i64.wrap (p6.2.2.2.2.1+1)) fun v8=>
 tN (p6.1,p6.2.1,p6.2.2.1,p6.2.2.2.1,v8,p6.2.2.2.2.2)) fun j7=>
 (aEU p4.2.2.1 p4.2.2.2.2.1).bind fun v9=>
 aJy (IntKind.i64.wrap (2*p4.2.2.2.2.1)) fun v10=>
 (if(IntKind.u64.wrap v10)<0 then none else some (aJP IntKind.i64 p4.2.1 (IntKind.u64.wrap v10).toNat)).bind fun v11=>
 aJy (bits .and IntKind.i64 v11 3) fun v12=>
 aJy (decide (p4.2.2.2.2.1<6)) fun v13=>
 (bif ((!v13)&&(v12==3))then(n13 N (p4.2.2.2.2.2,2))else some (0,p4.2.2.2.2.2)).bind fun v14=>
 aJy (bif v13 then true else(v14.1==0)) fun v15=>
 aJy (bif (v12==3)then v15 else false) fun v16=>
 aBJ (fun(p17:Zq3)=>
 j7 (p17.1,p17.2.1,p17.2.2.1,p17.2.2.2.1,p17.2.2.2.2.1,p17.2.2.2.2.2)) fun j18=>
 bif v16 then((aH3 16 p4.1 ([v9]:List Zq5)).bind fun v19=>
 j18 (v19,p4.2.1,p4.2.2.1,p4.2.2.2.1,p4.2.2.2.2.1,v14.2))else(j18 (p4.1,p4.2.1,p4.2.2.1,p4.2.2.2.1,p4.2.2.2.2.1,v14.2)))else(lJ (j3 (p4.1,p4.2.2.2.2.2)))) (([]:List Zq5),v1.1,v0,(aJO v0),0,v1.2):=by kernel_rfl
theorem e33(N:Nat)(a0:((List Int)×Int)):n33 (N+1) a0=
 aJy ([(5,5,5),(99,0,0),(99,0,103),(99,1,102),(99,101,0),(99,102,104),(99,103,101)]:List (Int×Int×Int)) fun v0=>
 (n13 N (a0,16384)).bind fun v1=>
 aBJ (fun(p2:(List (Int×Int×Int)×((List Int)×Int)))=>
 some (p2.1,p2.2)) fun j3=>
 eG N (fun(p4:Zq2)=>
 aJy (decide (p4.2.2.2.2.1<p4.2.2.2.1)) fun v5=>
 bif v5 then(aBJ (fun(p6:Zq2)=>
 aJy (IntKind.i64.wrap (p6.2.2.2.2.1+1)) fun v8=>
 tN (p6.1,p6.2.1,p6.2.2.1,p6.2.2.2.1,v8,p6.2.2.2.2.2)) fun j7=>
 (aEU p4.2.2.1 p4.2.2.2.2.1).bind fun v9=>
 aJy (IntKind.i64.wrap (2*p4.2.2.2.2.1)) fun v10=>
 (if(IntKind.u64.wrap v10)<0 then none else some (aJP IntKind.i64 p4.2.1 (IntKind.u64.wrap v10).toNat)).bind fun v11=>
 aJy (bits .and IntKind.i64 v11 3) fun v12=>
 aBJ (fun(p13:Zq2)=>
 j7 (p13.1,p13.2.1,p13.2.2.1,p13.2.2.2.1,p13.2.2.2.2.1,p13.2.2.2.2.2)) fun j14=>
 bif (v12==3)then(aJy ([v9]:List (Int×Int×Int)) fun v15=>
 (aH3 24 p4.1 v15).bind fun v16=>
 j14 (v16,p4.2.1,p4.2.2.1,p4.2.2.2.1,p4.2.2.2.2.1,p4.2.2.2.2.2))else(j14 (p4.1,p4.2.1,p4.2.2.1,p4.2.2.2.1,p4.2.2.2.2.1,p4.2.2.2.2.2)))else(lJ (j3 (p4.1,p4.2.2.2.2.2)))) (([]:List (Int×Int×Int)),v1.1,v0,(aJO v0),0,v1.2):=by kernel_rfl
theorem e38(N:Nat)(a0:List Zq1):n38 (N+1) a0=
 aBJ (fun(p0:Int)=>
 some (decide (p0<=64))) fun j1=>
 eG N (fun(p2:(List Zq1×(Int×(List Zq1×Zq5))))=>
 aJy (decide (p2.2.2.2.2<p2.2.2.2.1)) fun v3=>
 bif v3 then(aBJ (fun(p4:(List Zq1×(Int×(List Zq1×Zq5))))=>
 aJy (IntKind.i64.wrap (p4.2.2.2.2+1)) fun v6=>
 tN (p4.1,p4.2.1,p4.2.2.1,p4.2.2.2.1,v6)) fun j5=>
 (aEU p2.2.2.1 p2.2.2.2.2).bind fun v7=>
 aJy (decide (p2.2.2.2.2>0)) fun v8=>
 aJy (bif v8 then(!v7.1)else false) fun v9=>
 aJy (IntKind.i64.wrap (p2.2.2.2.2-1)) fun v10=>
 (bif (v9&&(!((aJO v7.2)==0)))then(aEU p2.1 v10)else some (false,([]:List Int))).bind fun v11=>
 aJy (bif v9 then(!v11.1)else false) fun v12=>
 aJy (bif ((aJO v7.2)==0)then true else v12) fun v13=>
 bif v13 then(lJ (some false))else(aBJ (fun(p14:(List Zq1×(Int×(Zq1×(List Zq1×Zq5)))))=>
 aJy (IntKind.i64.wrap (p14.2.1+(aJO p14.2.2.1.2))) fun v16=>
 j5 (p14.1,v16,p14.2.2.2.1,p14.2.2.2.2.1,p14.2.2.2.2.2)) fun j15=>
 eG N (fun(p17:(List Zq1×(Int×(Zq1×(List Zq1×(Int×(Int×(List Int×Zq5))))))))=>
 aJy (decide (p17.2.2.2.2.2.2.2.2<p17.2.2.2.2.2.2.2.1)) fun v18=>
 bif v18 then((aEU p17.2.2.2.2.2.2.1 p17.2.2.2.2.2.2.2.2).bind fun v19=>
 (n39 N v19).bind fun v20=>
 aJy (decide (p17.2.2.2.2.2.2.2.2>0)) fun v21=>
 aJy (bif p17.2.2.1.1 then v21 else false) fun v22=>
 aJy (IntKind.i64.wrap (p17.2.2.2.2.2.2.2.2-1)) fun v23=>
 (bif (v22&&(!(!v20)))then(aEU p17.2.2.1.2 v23)else some 0).bind fun v24=>
 aJy (bif v22 then(decide (v24>=v19))else false) fun v25=>
 aJy (bif (!v20)then true else v25) fun v26=>
 bif v26 then(lJ (lJ (some false)))else(aJy (IntKind.i64.wrap (p17.2.2.2.2.2.2.2.2+1)) fun v27=>
 tN (p17.1,p17.2.1,p17.2.2.1,p17.2.2.2.1,p17.2.2.2.2.1,p17.2.2.2.2.2.1,p17.2.2.2.2.2.2.1,p17.2.2.2.2.2.2.2.1,v27)))else(lJ (j15 (p17.1,p17.2.1,p17.2.2.1,p17.2.2.2.1,p17.2.2.2.2.1,p17.2.2.2.2.2.1)))) (p2.1,p2.2.1,v7,p2.2.2.1,p2.2.2.2.1,p2.2.2.2.2,v7.2,(aJO v7.2),0)))else(lJ (j1 p2.2.1))) (a0,0,a0,(aJO a0),0):=by kernel_rfl
theorem e39(N:Nat)(a0:Int):n39 (N+1) a0=
 aJy (decide (a0<=4294967295)) fun v0=>
 aJy (bif (decide (a0>=1))then v0 else false) fun v1=>
 some v1:=by kernel_rfl
theorem e48(N:Nat)(a0:List Zq1):n48 (N+1) a0=
 aBJ (fun(p0:List Int)=>
 some p0) fun j1=>
 eG N (fun(p2:(List Int×(List Zq1×Zq5)))=>
 aJy (decide (p2.2.2.2<p2.2.2.1)) fun v3=>
 bif v3 then((aEU p2.2.1 p2.2.2.2).bind fun v4=>
 (aH3 8 p2.1 v4.2).bind fun v5=>
 aJy (IntKind.i64.wrap (p2.2.2.2+1)) fun v6=>
 tN (v5,p2.2.1,p2.2.2.1,v6))else(lJ (j1 p2.1))) (([]:List Int),a0,(aJO a0),0):=by kernel_rfl
theorem e52(N:Nat)(a0:Zq0):n52 (N+1) a0=
 aJy ([]:List Zq1) fun v0=>
 aJy ([]:List Zq4) fun v1=>
 aBJ (fun(p2:(Zq0×(Zq0×List Zq4)))=>
 aBJ (fun(p4:(Zq0×Zq0))=>
 (n80 N p4.1.2.2.2.2.2.2.1).bind fun v6=>
 (n81 N p4.1.2.2.2.2.2.2.2.1).bind fun v7=>
 some (p4.1.1,p4.1.2.1,p4.1.2.2.1,p4.1.2.2.2.1,p4.1.2.2.2.2.1,p4.1.2.2.2.2.2.1,v6,v7,p4.1.2.2.2.2.2.2.2.2)) fun j5=>
 eG N (fun(p8:(Zq0×(Zq0×(List Zq4×Zq5))))=>
 aJy (decide (p8.2.2.2.2<p8.2.2.2.1)) fun v9=>
 bif v9 then((aEU p8.2.2.1 p8.2.2.2.2).bind fun v10=>
 (n79 N v10.2.2).bind fun v11=>
 aJy ([(v10.1,v10.2.1,v11)]:List Zq4) fun v12=>
 (aH3 40 p8.1.2.2.2.2.2.2.2.2 v12).bind fun v13=>
 aJy (IntKind.i64.wrap (p8.2.2.2.2+1)) fun v14=>
 tN ((p8.1.1,p8.1.2.1,p8.1.2.2.1,p8.1.2.2.2.1,p8.1.2.2.2.2.1,p8.1.2.2.2.2.2.1,p8.1.2.2.2.2.2.2.1,p8.1.2.2.2.2.2.2.2.1,v13),p8.2.1,p8.2.2.1,p8.2.2.2.1,v14))else(lJ (j5 (p8.1,p8.2.1)))) (p2.1,p2.2.1,p2.2.2,(aJO p2.2.2),0)) fun j3=>
 eG N (fun(p15:(Zq0×(Zq0×(List Zq4×(List Zq1×Zq5)))))=>
 aJy (decide (p15.2.2.2.2.2<p15.2.2.2.2.1)) fun v16=>
 bif v16 then((aEU p15.2.2.2.1 p15.2.2.2.2.2).bind fun v17=>
 (n78 N v17.2).bind fun v18=>
 aJy ([(v17.1,v18)]:List Zq1) fun v19=>
 (aH3 32 p15.1.2.1 v19).bind fun v20=>
 aJy (IntKind.i64.wrap (p15.2.2.2.2.2+1)) fun v21=>
 tN ((p15.1.1,v20,p15.1.2.2),p15.2.1,p15.2.2.1,p15.2.2.2.1,p15.2.2.2.2.1,v21))else(lJ (j3 (p15.1,p15.2.1,p15.2.2.1)))) ((a0.1,v0,a0.2.2.1,a0.2.2.2.1,a0.2.2.2.2.1,a0.2.2.2.2.2.1,a0.2.2.2.2.2.2.1,a0.2.2.2.2.2.2.2.1,v1),(0,([]:List Zq1),(false,0,0),0,0,0,([]:List Zq5),([]:List (Int×Int×Int)),([]:List Zq4)),a0.2.2.2.2.2.2.2.2,a0.2.1,(aJO a0.2.1),0):=by kernel_rfl
theorem e78(N:Nat)(a0:List Int):n78 (N+1) a0=
 (aH3 8 ([]:List Int) a0).bind fun v0=>
 some v0:=by kernel_rfl
theorem e79(N:Nat)(a0:List Int):n79 (N+1) a0=
 (aH3 1 ([]:List Int) a0).bind fun v0=>
 some v0:=by kernel_rfl
theorem e80(N:Nat)(a0:List Zq5):n80 (N+1) a0=
 (aH3 16 ([]:List Zq5) a0).bind fun v0=>
 some v0:=by kernel_rfl
theorem e81(N:Nat)(a0:List (Int×Int×Int)):n81 (N+1) a0=
 (aH3 24 ([]:List (Int×Int×Int)) a0).bind fun v0=>
 some v0:=by kernel_rfl
end Go.Proofs.YtgfmodmeimhhpaaDoor.Z
