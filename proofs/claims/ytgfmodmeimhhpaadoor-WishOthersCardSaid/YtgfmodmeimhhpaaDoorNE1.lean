/- The functions as they are read. -/
import Derived.Test.YtgfmodmeimhhpaaDoorNN
namespace Go.Proofs.YtgfmodmeimhhpaaDoor
open Go.VM
set_option maxRecDepth 100000
abbrev Y1q3:=Bool×(List Int)
abbrev Y1q5:=Int×Int
abbrev Y1q7:=Int×Int×Int
abbrev Y1q4:=Int×Int×(List Int)
abbrev Y1q0:=Int×(List Y1q3)×(Bool×Int×Int)×Int×Int×Int×(List Y1q5)×(List Y1q7)×(List Y1q4)
abbrev Y1q1:=Int×Bool×Bool×Bool×Int×(List Int)×(List Y1q5)
abbrev Y1q2:=((Bool×Int×Int)×Int)×Int×Y1q0
abbrev Y1q6:=Bool×Bool×Bool×Bool×Int
abbrev Y1q10:=(List Int)×Int
abbrev Y1q8:=((Bool×Int×Int)×Int)×(((Bool×Int×Int)×Int)×Y1q10)
abbrev Y1q9:=List Int×(Int×(Int×(Int×Y1q0)))
abbrev Y1q11:=List Y1q3×Y1q5
abbrev Y1q12:=(((Bool×Int×Int)×Int)×Int×Y1q0)×(Y1q1×(Int×((((Bool×Int×Int)×Int)×Int×Y1q0)×(List Y1q7×Y1q5))))
abbrev Y1q13:=(((Bool×Int×Int)×Int)×Int×Y1q0)×(Y1q1×(Int×((((Bool×Int×Int)×Int)×Int×Y1q0)×(List Y1q5×Y1q5))))
theorem e4(N:Nat)(a0:List Int)(a1:Int)(a2:Int):n4 (N+1) (a0,a1,a2)=
 (n6 N a0).bind fun v0=>
 (n13 N (v0,4)).bind fun v1=>
 aJy (IntKind.i64.wrap (101+v1.1)) fun v2=>
 (n12 N (v1.2,v2)).bind fun v3=>
 (n9 N (a1,4)).bind fun v4=>
 aJy (IntKind.i64.wrap (101+v4)) fun v5=>
 (n7 N (v3.2,v5)).bind fun v6=>
 aJy (IntKind.i64.wrap (a1+1)) fun v7=>
 (n9 N (a2,3)).bind fun v8=>
 (n9 N ((IntKind.i64.wrap (v7+v8)),4)).bind fun v9=>
 aJy (IntKind.i64.wrap (101+v9)) fun v10=>
 (n14 N v3.1.2.2).bind fun v11=>
 aJy ([]:List Y1q7) fun v12=>
 aJy (aJO v3.1.2.2.2.2.2.2.2.2.1) fun v13=>
 aBJ (fun(p14:(Y1q2×(Y1q1×(Int×Y1q2))))=>
 aJy (aJO p14.1.2.2.2.2.2.2.2.2.2.1) fun v16=>
 aBJ (fun(p17:(Y1q2×(Y1q1×Y1q2)))=>
 (n15 N (99,p17.1,p17.2.1)).bind fun v19=>
 (n15 N (99,p17.2.2,p17.2.1)).bind fun v20=>
 aJy (bif (v19.2.2==v20.2.2)then(v19.2.1==v20.2.1)else false) fun v21=>
 (bif v21 then(n16 N (v19.1,v20.1))else some false).bind fun v22=>
 aJy (bif v21 then v22 else false) fun v23=>
 (bif v23 then(n5 N ())else some false).bind fun v24=>
 aJy (bif v23 then v24 else false) fun v25=>
 some v25) fun j18=>
 eG N (fun(p26:Y1q12)=>
 aJy (decide (p26.2.2.2.2.2.2<p26.2.2.2.2.2.1)) fun v27=>
 bif v27 then(aBJ (fun(p28:Y1q12)=>
 aJy (IntKind.i64.wrap (p28.2.2.2.2.2.2+1)) fun v30=>
 tN (p28.1,p28.2.1,p28.2.2.1,p28.2.2.2.1,p28.2.2.2.2.1,p28.2.2.2.2.2.1,v30)) fun j29=>
 (aEU p26.2.2.2.2.1 p26.2.2.2.2.2.2).bind fun v31=>
 aJy (bif (v31.1 != 99)then true else(v31.2.2 != p26.2.2.1)) fun v32=>
 aBJ (fun(p33:Y1q12)=>
 j29 (p33.1,p33.2.1,p33.2.2.1,p33.2.2.2.1,p33.2.2.2.2.1,p33.2.2.2.2.2.1,p33.2.2.2.2.2.2)) fun j34=>
 bif v32 then(aJy p26.2.2.2.1.2.2.2.2.2.2.2.2.2.1 fun v35=>
 aJy ([v31]:List Y1q7) fun v36=>
 (aH3 24 v35 v36).bind fun v37=>
 aJy p26.2.2.2.1.2.2.2.2.2.2.2.2.1 fun v38=>
 aJy p26.2.2.2.1.2.2.2.2.2.2.2.2.2.2 fun v39=>
 j34 (p26.1,p26.2.1,p26.2.2.1,(p26.2.2.2.1.1,p26.2.2.2.1.2.1,p26.2.2.2.1.2.2.1,p26.2.2.2.1.2.2.2.1,p26.2.2.2.1.2.2.2.2.1,p26.2.2.2.1.2.2.2.2.2.1,p26.2.2.2.1.2.2.2.2.2.2.1,p26.2.2.2.1.2.2.2.2.2.2.2.1,v38,v37,v39),p26.2.2.2.2.1,p26.2.2.2.2.2.1,p26.2.2.2.2.2.2))else(j34 (p26.1,p26.2.1,p26.2.2.1,p26.2.2.2.1,p26.2.2.2.2.1,p26.2.2.2.2.2.1,p26.2.2.2.2.2.2)))else(lJ (j18 (p26.1,p26.2.1,p26.2.2.2.1)))) (p14.1,p14.2.1,p14.2.2.1,p14.2.2.2,p14.1.2.2.2.2.2.2.2.2.2.1,v16,0)) fun j15=>
 eG N (fun(p40:Y1q13)=>
 aJy (decide (p40.2.2.2.2.2.2<p40.2.2.2.2.2.1)) fun v41=>
 bif v41 then(aBJ (fun(p42:Y1q13)=>
 aJy (IntKind.i64.wrap (p42.2.2.2.2.2.2+1)) fun v44=>
 tN (p42.1,p42.2.1,p42.2.2.1,p42.2.2.2.1,p42.2.2.2.2.1,p42.2.2.2.2.2.1,v44)) fun j43=>
 (aEU p40.2.2.2.2.1 p40.2.2.2.2.2.2).bind fun v45=>
 aJy (bif (v45.1 != 0)then(v45.1 != 99)else false) fun v46=>
 aJy (bif (v45.2 != p40.2.2.1)then true else v46) fun v47=>
 aBJ (fun(p48:Y1q13)=>
 j43 (p48.1,p48.2.1,p48.2.2.1,p48.2.2.2.1,p48.2.2.2.2.1,p48.2.2.2.2.2.1,p48.2.2.2.2.2.2)) fun j49=>
 bif v47 then(aJy p40.2.2.2.1.2.2.2.2.2.2.2.2.1 fun v50=>
 (aH3 16 v50 ([v45]:List Y1q5)).bind fun v51=>
 aJy p40.2.2.2.1.2.2.2.2.2.2.2.2.2 fun v52=>
 j49 (p40.1,p40.2.1,p40.2.2.1,(p40.2.2.2.1.1,p40.2.2.2.1.2.1,p40.2.2.2.1.2.2.1,p40.2.2.2.1.2.2.2.1,p40.2.2.2.1.2.2.2.2.1,p40.2.2.2.1.2.2.2.2.2.1,p40.2.2.2.1.2.2.2.2.2.2.1,p40.2.2.2.1.2.2.2.2.2.2.2.1,v51,v52),p40.2.2.2.2.1,p40.2.2.2.2.2.1,p40.2.2.2.2.2.2))else(j49 (p40.1,p40.2.1,p40.2.2.1,p40.2.2.2.1,p40.2.2.2.2.1,p40.2.2.2.2.2.1,p40.2.2.2.2.2.2)))else(lJ (j15 (p40.1,p40.2.1,p40.2.2.1,p40.2.2.2.1)))) (v3.1,v6.1,v10,(v3.1.1,v3.1.2.1,v11.1,v11.2.1,v11.2.2.1,v11.2.2.2.1,v11.2.2.2.2.1,v11.2.2.2.2.2.1,([]:List Y1q5),v12,v11.2.2.2.2.2.2.2.2),v3.1.2.2.2.2.2.2.2.2.1,v13,0):=by kernel_rfl
theorem e5(N:Nat):n5 (N+1) ()=
 aJy ([(false,([101]:List Int))]:List Y1q3) fun v0=>
 aJy ([(0,102),(5,5)]:List Y1q5) fun v1=>
 aJy ([]:List Y1q7) fun v2=>
 aJy ([]:List Y1q4) fun v3=>
 (n15 N (99,(((false,0,0),8),101,0,v0,(false,0,0),(-1),7,(-1),v1,v2,v3),103,false,false,false,0,([]:List Int),([]:List Y1q5))).bind fun v4=>
 (n15 N (99,(((false,0,0),8),101,0,v0,(false,0,0),(-1),7,(-1),v1,v2,v3),102,false,false,false,0,([]:List Int),([]:List Y1q5))).bind fun v5=>
 aJy (bif (v4.2.2==0)then(v5.2.2==0)else false) fun v6=>
 aJy (bif v6 then(v4.2.1==0)else false) fun v7=>
 aJy (bif v7 then(v5.2.1==3)else false) fun v8=>
 aJy (v4.1.2.2.2.2.2.2.2.1==99) fun v9=>
 aJy (v4.1.2.2.2.2.2.2.1==(-1)) fun v10=>
 aJy (bif (bif v8 then v9 else false)then v10 else false) fun v11=>
 aJy (aJO v4.1.2.2.2.2.2.2.2.2.1) fun v12=>
 aJy (bif v11 then(v12==1)else false) fun v13=>
 some v13:=by kernel_rfl
theorem e6(N:Nat)(a0:List Int):n6 (N+1) a0=
 some (a0,0):=by kernel_rfl
theorem e7(N:Nat)(a0:Y1q10)(a1:Int):n7 (N+1) (a0,a1)=
 (n13 N (a0,2)).bind fun v0=>
 (n13 N (v0.2,8)).bind fun v1=>
 aBJ (fun(p2:(Y1q1×(Y1q1×Y1q10)))=>
 aBJ (fun(p4:(Y1q1×(Y1q1×Y1q10)))=>
 some (p4.2.1,p4.2.2)) fun j5=>
 eG N (fun(p6:(Y1q1×(Y1q1×(Int×Y1q10))))=>
 aJy (decide (p6.2.2.1<5)) fun v7=>
 bif v7 then(aBJ (fun(p8:(Y1q1×(Y1q1×(Int×Y1q10))))=>
 aJy (IntKind.i64.wrap (p8.2.2.1+1)) fun v10=>
 tN (p8.1,p8.2.1,v10,p8.2.2.2)) fun j9=>
 (n13 N (p6.2.2.2,4)).bind fun v11=>
 aBJ (fun(p12:(Y1q1×(Y1q1×(Int×Y1q10))))=>
 j9 (p12.1,p12.2.1,p12.2.2.1,p12.2.2.2)) fun j13=>
 bif (v11.1==0)then(aJy (IntKind.i64.wrap (101+p6.2.2.1)) fun v14=>
 (n13 N (v11.2,5)).bind fun v15=>
 aJy (IntKind.i64.wrap (v15.1-2)) fun v16=>
 aJy ([(v14,v16)]:List Y1q5) fun v17=>
 (aH3 16 p6.2.1.2.2.2.2.2.2 v17).bind fun v18=>
 j13 (p6.1,(p6.2.1.1,p6.2.1.2.1,p6.2.1.2.2.1,p6.2.1.2.2.2.1,p6.2.1.2.2.2.2.1,p6.2.1.2.2.2.2.2.1,v18),p6.2.2.1,v15.2))else(j13 (p6.1,p6.2.1,p6.2.2.1,v11.2)))else(lJ (j5 (p6.1,p6.2.1,p6.2.2.2)))) (p2.1,p2.2.1,0,p2.2.2)) fun j3=>
 aBJ (fun(p19:(Y1q1×(Y1q1×Y1q10)))=>
 j3 (p19.1,p19.2.1,p19.2.2)) fun j20=>
 bif (v1.1==0)then(j20 ((0,false,false,false,0,([]:List Int),([]:List Y1q5)),(a1,true,false,(v0.1==0),0,([]:List Int),([]:List Y1q5)),v1.2))else(aBJ (fun(p21:(Y1q1×(Y1q1×Y1q10)))=>
 j20 (p21.1,p21.2.1,p21.2.2)) fun j22=>
 bif (v1.1==1)then(j22 ((0,false,false,false,0,([]:List Int),([]:List Y1q5)),(a1,false,true,(v0.1==0),0,([]:List Int),([]:List Y1q5)),v1.2))else(aBJ (fun(p23:(Y1q1×(Y1q1×Y1q10)))=>
 j22 (p23.1,p23.2.1,p23.2.2)) fun j24=>
 bif (v1.1==2)then((n13 N (v1.2,4)).bind fun v25=>
 aJy (IntKind.i64.wrap (1+v25.1)) fun v26=>
 j24 ((0,false,false,false,0,([]:List Int),([]:List Y1q5)),(a1,false,false,(v0.1==0),v26,([]:List Int),([]:List Y1q5)),v25.2))else(aBJ (fun(p27:(Y1q1×(Y1q1×Y1q10)))=>
 j24 (p27.1,p27.2.1,p27.2.2)) fun j28=>
 bif (v1.1==3)then((n13 N (v1.2,4)).bind fun v29=>
 aJy (IntKind.i64.wrap (101+v29.1)) fun v30=>
 j28 ((0,false,false,false,0,([]:List Int),([]:List Y1q5)),(a1,false,false,(v0.1==0),0,([v30]:List Int),([]:List Y1q5)),v29.2))else(j28 ((0,false,false,false,0,([]:List Int),([]:List Y1q5)),(a1,false,false,(v0.1==0),0,([]:List Int),([]:List Y1q5)),v1.2))))):=by kernel_rfl
theorem e9(N:Nat)(a0:Int)(a1:Int):n9 (N+1) (a0,a1)=
 (if a1=0 then none else some (Int.tmod a0 a1)).bind fun v0=>
 aBJ (fun(p1:Int)=>
 some p1) fun j2=>
 bif (decide (v0<0))then(j2 (IntKind.i64.wrap (v0+a1)))else(j2 v0):=by kernel_rfl
theorem e10(N:Nat)(a0:Y1q1):n10 (N+1) a0=
 (n17 N a0.1).bind fun v0=>
 aJy (decide (a0.2.2.2.2.1<0)) fun v1=>
 aJy (bif (!v0)then true else v1) fun v2=>
 aJy (decide (a0.2.2.2.2.1>60)) fun v3=>
 aJy (decide ((aJO a0.2.2.2.2.2.1)>64)) fun v4=>
 aJy (bif (bif v2 then true else v3)then true else v4) fun v5=>
 aJy (decide ((aJO a0.2.2.2.2.2.2)>64)) fun v6=>
 bif (bif v5 then true else v6)then(some 33)else(aBJ (fun(p7:Y1q1)=>
 aBJ (fun(p9:Unit)=>
 some 0) fun j10=>
 eG N (fun(p11:(Y1q1×(List Y1q5×Y1q5)))=>
 aJy (decide (p11.2.2.2<p11.2.2.1)) fun v12=>
 bif v12 then((aEU p11.2.1 p11.2.2.2).bind fun v13=>
 (n17 N v13.1).bind fun v14=>
 aJy (decide (p11.2.2.2>0)) fun v15=>
 aJy (IntKind.i64.wrap (p11.2.2.2-1)) fun v16=>
 (bif (v15&&(!(!v14)))then(aEU p11.1.2.2.2.2.2.2 v16)else some (0,0)).bind fun v17=>
 aJy (bif v15 then(decide (v17.1>=v13.1))else false) fun v18=>
 aJy (bif (!v14)then true else v18) fun v19=>
 aJy (decide (v13.2<(-1000))) fun v20=>
 aJy (decide (v13.2>1000)) fun v21=>
 aJy (bif (bif v19 then true else v20)then true else v21) fun v22=>
 bif v22 then(lJ (some 33))else(aJy (IntKind.i64.wrap (p11.2.2.2+1)) fun v23=>
 tN (p11.1,p11.2.1,p11.2.2.1,v23)))else(lJ (j10 ()))) (p7,p7.2.2.2.2.2.2,(aJO p7.2.2.2.2.2.2),0)) fun j8=>
 eG N (fun(p24:(Y1q1×(List Int×Y1q5)))=>
 aJy (decide (p24.2.2.2<p24.2.2.1)) fun v25=>
 bif v25 then((aEU p24.2.1 p24.2.2.2).bind fun v26=>
 (n17 N v26).bind fun v27=>
 aJy (decide (p24.2.2.2>0)) fun v28=>
 aJy (IntKind.i64.wrap (p24.2.2.2-1)) fun v29=>
 (bif (v28&&(!(!v27)))then(aEU p24.1.2.2.2.2.2.1 v29)else some 0).bind fun v30=>
 aJy (bif v28 then(decide (v30>=v26))else false) fun v31=>
 aJy (bif (!v27)then true else v31) fun v32=>
 bif v32 then(lJ (some 33))else(aJy (IntKind.i64.wrap (p24.2.2.2+1)) fun v33=>
 tN (p24.1,p24.2.1,p24.2.2.1,v33)))else(lJ (j8 p24.1))) (a0,a0.2.2.2.2.2.1,(aJO a0.2.2.2.2.2.1),0)):=by kernel_rfl
theorem e12(N:Nat)(a0:Y1q10)(a1:Int):n12 (N+1) (a0,a1)=
 (n19 N a0).bind fun v0=>
 (n20 N (v0.2,a1,v0.1.1.1)).bind fun v1=>
 some ((v0.1,a1,v1.1),v1.2):=by kernel_rfl
theorem e13(N:Nat)(a0:Y1q10)(a1:Int):n13 (N+1) (a0,a1)=
 aJy (decide (a0.2>=(aJO a0.1))) fun v0=>
 bif v0 then(some (0,a0))else(aJy (IntKind.i64.wrap (a0.2+1)) fun v1=>
 aJy (IntKind.i64.wrap (v1-1)) fun v2=>
 (aEU a0.1 v2).bind fun v3=>
 (n9 N (v3,a1)).bind fun v4=>
 some (v4,a0.1,v1)):=by kernel_rfl
theorem e14(N:Nat)(a0:Y1q0):n14 (N+1) a0=
 aJy ([]:List Y1q3) fun v0=>
 aJy ([]:List Y1q4) fun v1=>
 aBJ (fun(p2:(Y1q0×(Y1q0×Y1q0)))=>
 (aH3 16 ([]:List Y1q5) p2.1.2.2.2.2.2.2.1).bind fun v4=>
 (aH3 24 ([]:List Y1q7) p2.1.2.2.2.2.2.2.2.1).bind fun v5=>
 aBJ (fun(p6:(Y1q0×Y1q0))=>
 some p6.2) fun j7=>
 eG N (fun(p8:(Y1q0×(Y1q0×(List Y1q4×Y1q5))))=>
 aJy (decide (p8.2.2.2.2<p8.2.2.2.1)) fun v9=>
 bif v9 then((aEU p8.2.2.1 p8.2.2.2.2).bind fun v10=>
 (aH3 1 ([]:List Int) v10.2.2).bind fun v11=>
 aJy ([(v10.1,v10.2.1,v11)]:List Y1q4) fun v12=>
 (aH3 40 p8.2.1.2.2.2.2.2.2.2.2 v12).bind fun v13=>
 aJy (IntKind.i64.wrap (p8.2.2.2.2+1)) fun v14=>
 tN (p8.1,(p8.2.1.1,p8.2.1.2.1,p8.2.1.2.2.1,p8.2.1.2.2.2.1,p8.2.1.2.2.2.2.1,p8.2.1.2.2.2.2.2.1,p8.2.1.2.2.2.2.2.2.1,p8.2.1.2.2.2.2.2.2.2.1,v13),p8.2.2.1,p8.2.2.2.1,v14))else(lJ (j7 (p8.1,p8.2.1)))) (p2.2.1,(p2.2.2.1,p2.2.2.2.1,p2.2.2.2.2.1,p2.2.2.2.2.2.1,p2.2.2.2.2.2.2.1,p2.2.2.2.2.2.2.2.1,v4,v5,p2.2.2.2.2.2.2.2.2.2.2),p2.1.2.2.2.2.2.2.2.2,(aJO p2.1.2.2.2.2.2.2.2.2),0)) fun j3=>
 eG N (fun(p15:(Y1q0×(Y1q0×(Y1q0×Y1q11))))=>
 aJy (decide (p15.2.2.2.2.2<p15.2.2.2.2.1)) fun v16=>
 bif v16 then((aEU p15.2.2.2.1 p15.2.2.2.2.2).bind fun v17=>
 (aH3 8 ([]:List Int) v17.2).bind fun v18=>
 aJy ([(v17.1,v18)]:List Y1q3) fun v19=>
 (aH3 32 p15.2.2.1.2.1 v19).bind fun v20=>
 aJy (IntKind.i64.wrap (p15.2.2.2.2.2+1)) fun v21=>
 tN (p15.1,p15.2.1,(p15.2.2.1.1,v20,p15.2.2.1.2.2),p15.2.2.2.1,p15.2.2.2.2.1,v21))else(lJ (j3 (p15.1,p15.2.1,p15.2.2.1)))) (a0,(0,([]:List Y1q3),(false,0,0),0,0,0,([]:List Y1q5),([]:List Y1q7),([]:List Y1q4)),(a0.1,v0,a0.2.2.1,a0.2.2.2.1,a0.2.2.2.2.1,a0.2.2.2.2.2.1,a0.2.2.2.2.2.2.1,a0.2.2.2.2.2.2.2.1,v1),a0.2.1,(aJO a0.2.1),0):=by kernel_rfl
theorem e15(N:Nat)(a0:Int)(a1:Y1q2)(a2:Y1q1):n15 (N+1) (a0,a1,a2)=
 (n17 N a0).bind fun v0=>
 (bif (!(!v0))then(n17 N a1.2.1)else some false).bind fun v1=>
 aJy (bif (!v0)then true else(!v1)) fun v2=>
 (bif (!v2)then(n21 N a1.1)else some false).bind fun v3=>
 aJy (bif v2 then true else(!v3)) fun v4=>
 (bif (!v4)then(n22 N a1.2.2)else some false).bind fun v5=>
 aJy (bif v4 then true else(!v5)) fun v6=>
 bif v6 then(aJy ([]:List Y1q3) fun v7=>
 aJy ([]:List Y1q7) fun v8=>
 aJy ([]:List Y1q4) fun v9=>
 some ((((false,0,0),0),0,0,v7,(false,0,0),0,0,0,([]:List Y1q5),v8,v9),0,1))else((n10 N a2).bind fun v10=>
 bif (v10 != 0)then(aJy ([]:List Y1q3) fun v11=>
 aJy ([]:List Y1q7) fun v12=>
 aJy ([]:List Y1q4) fun v13=>
 some ((((false,0,0),0),0,0,v11,(false,0,0),0,0,0,([]:List Y1q5),v12,v13),0,v10))else((n23 N (a0,a1,a2)).bind fun v14=>
 bif (v14 != 0)then(aJy ([]:List Y1q3) fun v15=>
 aJy ([]:List Y1q7) fun v16=>
 aJy ([]:List Y1q4) fun v17=>
 some ((((false,0,0),0),0,0,v15,(false,0,0),0,0,0,([]:List Y1q5),v16,v17),v14,0))else((n25 N (a0,a1.2.2,a2.1)).bind fun v18=>
 (n24 N (a1.2.2.2.1,a1.2.1,v18)).bind fun v19=>
 bif (v19.2 != 0)then(aJy ([]:List Y1q3) fun v20=>
 aJy ([]:List Y1q7) fun v21=>
 aJy ([]:List Y1q4) fun v22=>
 some ((((false,0,0),0),0,0,v20,(false,0,0),0,0,0,([]:List Y1q5),v21,v22),0,v19.2))else((n26 N (a0,a1.2.2)).bind fun v23=>
 (n27 N (1,a0,v23.1,v19.1,v23.2.2.1,v23.2.2.2.1,(-1),v23.2.2.2.2.2)).bind fun v24=>
 bif (v24.2 != 0)then(aJy ([]:List Y1q3) fun v25=>
 aJy ([]:List Y1q7) fun v26=>
 aJy ([]:List Y1q4) fun v27=>
 some ((((false,0,0),0),0,0,v25,(false,0,0),0,0,0,([]:List Y1q5),v26,v27),0,v24.2))else(some ((a1.1,a1.2.1,v24.1),0,0)))))):=by kernel_rfl
theorem e16(N:Nat)(a0:Y1q2)(a1:Y1q2):n16 (N+1) (a0,a1)=
 aJy (false != (((a0.1.1.1==a1.1.1.1)&&((a0.1.1.2.1==a1.1.1.2.1)&&(a0.1.1.2.2==a1.1.1.2.2)))&&(a0.1.2==a1.1.2))) fun v0=>
 aJy (bif v0 then(a0.2.1==a1.2.1)else false) fun v1=>
 (bif v1 then(n28 N (a0.2.2,a1.2.2))else some false).bind fun v2=>
 some (bif v1 then v2 else false):=by kernel_rfl
theorem e17(N:Nat)(a0:Int):n17 (N+1) a0=
 aJy (decide (a0<=4294967295)) fun v0=>
 aJy (bif (decide (a0>=1))then v0 else false) fun v1=>
 some v1:=by kernel_rfl
theorem e19(N:Nat)(a0:Y1q10):n19 (N+1) a0=
 (n13 N (a0,8)).bind fun v0=>
 (n29 N v0.1).bind fun v1=>
 (n13 N (v0.2,8)).bind fun v2=>
 aBJ (fun(p3:Y1q8)=>
 some (p3.2.1,p3.2.2)) fun j4=>
 aBJ (fun(p5:Y1q8)=>
 j4 (p5.1,p5.2.1,p5.2.2)) fun j6=>
 bif (v2.1==6)then(aBJ (fun(p7:Y1q8)=>
 j6 (p7.1,p7.2.1,p7.2.2)) fun j8=>
 bif v1.1.1 then(j8 (((false,0,0),0),(v1.1,64),v2.2))else(j8 (((false,0,0),0),(v1.1,24),v2.2)))else(aBJ (fun(p9:Y1q8)=>
 j6 (p9.1,p9.2.1,p9.2.2)) fun j10=>
 bif (v2.1==7)then(aBJ (fun(p11:Y1q8)=>
 (n13 N (p11.2.2,3)).bind fun v13=>
 aJy (IntKind.u64.wrap (p11.2.1.1.2.2+(IntKind.u64.wrap v13.1))) fun v14=>
 j10 (p11.1,((p11.2.1.1.1,p11.2.1.1.2.1,v14),p11.2.1.2),v13.2)) fun j12=>
 bif v1.1.1 then(j12 (((false,0,0),0),(v1.1,128),v2.2))else(j12 (((false,0,0),0),(v1.1,32),v2.2)))else(j10 (((false,0,0),0),v1,v2.2))):=by kernel_rfl
theorem e21(N:Nat)(a0:((Bool×Int×Int)×Int)):n21 (N+1) a0=
 (n34 N a0.1).bind fun v0=>
 aJy (bif v0 then(decide (a0.2>=0))else false) fun v1=>
 (bif v1 then(n35 N a0.1)else some 0).bind fun v2=>
 aJy (bif v1 then(decide (a0.2<=v2))else false) fun v3=>
 (bif v3 then(n36 N (a0.1,a0.2))else some (false,0,0)).bind fun v4=>
 aJy (false != ((v4.1==a0.1.1)&&((v4.2.1==a0.1.2.1)&&(v4.2.2==a0.1.2.2)))) fun v5=>
 some (bif v3 then v5 else false):=by kernel_rfl
theorem e22(N:Nat)(a0:Y1q0):n22 (N+1) a0=
 (n37 N (a0.1,(-1),2)).bind fun v0=>
 (bif v0 then(n38 N a0.2.1)else some false).bind fun v1=>
 (bif (bif v0 then v1 else false)then(n34 N a0.2.2.1)else some false).bind fun v2=>
 aJy (bif (bif v0 then v1 else false)then v2 else false) fun v3=>
 (bif v3 then(n37 N (a0.2.2.2.1,(-1),4294967295))else some false).bind fun v4=>
 (bif (bif v3 then v4 else false)then(n37 N (a0.2.2.2.2.1,(-1),4294967295))else some false).bind fun v5=>
 aJy (bif (bif v3 then v4 else false)then v5 else false) fun v6=>
 aJy (a0.2.2.2.2.2.1==(-1)) fun v7=>
 (bif ((!v7)&&v6)then(n39 N a0.2.2.2.2.2.1)else some false).bind fun v8=>
 aJy (bif v6 then(bif v7 then true else v8)else false) fun v9=>
 (bif v9 then(n40 N a0.2.2.2.2.2.2.1)else some false).bind fun v10=>
 (bif (bif v9 then v10 else false)then(n41 N a0.2.2.2.2.2.2.2.1)else some false).bind fun v11=>
 aJy (bif (bif v9 then v10 else false)then v11 else false) fun v12=>
 (bif v12 then(n42 N a0.2.2.2.2.2.2.2.2)else some false).bind fun v13=>
 aJy (bif v12 then v13 else false) fun v14=>
 some v14:=by kernel_rfl
theorem e23(N:Nat)(a0:Int)(a1:Y1q2)(a2:Y1q1):n23 (N+1) (a0,a1,a2)=
 (n43 N (a0,a1.2.2,a2.1)).bind fun v0=>
 bif (a1.2.1==a2.1)then(some 1)else(bif v0.1 then(some 2)else(bif v0.2.1 then(some 3)else(aJy (bif v0.2.2.1 then(!v0.2.2.2.1)else false) fun v1=>
 bif v1 then(some 4)else(aJy (bif a2.2.2.1 then a1.1.1.1 else false) fun v2=>
 aBJ (fun(p3:(Y1q2×(Y1q1×(Y1q6×Bool))))=>
 bif p3.2.2.2 then(some 5)else((n44 N (p3.2.1.2.2.2.2.2.1,p3.1.2.1)).bind fun v5=>
 bif v5 then(some 6)else((n45 N p3.1.2.2).bind fun v6=>
 aJy (bif v6 then(!p3.2.1.2.2.2.1)else false) fun v7=>
 bif v7 then(some 7)else(aJy (p3.2.1.2.2.2.2.1 != 0) fun v8=>
 (bif v8 then(n46 N p3.1.2.2.2.1)else some 0).bind fun v9=>
 aJy (IntKind.i64.wrap (v9+p3.2.2.1.2.2.2.2)) fun v10=>
 aJy (decide (v10>p3.2.1.2.2.2.2.1)) fun v11=>
 bif (bif v8 then v11 else false)then(some 8)else((n47 N (p3.1.2.2.2.1,p3.2.1.1)).bind fun v12=>
 bif v12 then(some 9)else(some 0)))))) fun j4=>
 bif v2 then(j4 (a1,a2,v0,v2))else(aJy (bif a2.2.1 then(!a1.1.1.1)else false) fun v13=>
 j4 (a1,a2,v0,v13)))))):=by kernel_rfl
theorem e25(N:Nat)(a0:Int)(a1:Y1q0)(a2:Int):n25 (N+1) (a0,a1,a2)=
 (n43 N (a0,a1,a2)).bind fun v0=>
 some v0.2.2.2.2:=by kernel_rfl
theorem e27(N:Nat)(a0:Int)(a1:Int)(a2:Y1q0):n27 (N+1) (a0,a1,a2)=
 (n57 N a0).bind fun v0=>
 (bif (!(!v0))then(n58 N a1)else some false).bind fun v1=>
 aJy (bif (!v0)then true else(!v1)) fun v2=>
 bif v2 then(aJy ([]:List Y1q3) fun v3=>
 aJy ([]:List Y1q7) fun v4=>
 aJy ([]:List Y1q4) fun v5=>
 some ((0,v3,(false,0,0),0,0,0,([]:List Y1q5),v4,v5),1))else(aJy (a2.2.2.2.2.2.1 != (-1)) fun v6=>
 aJy (bif (a0==0)then true else(a0==1)) fun v7=>
 aJy (bif v6 then(!v7)else false) fun v8=>
 bif v8 then(aJy ([]:List Y1q3) fun v9=>
 aJy ([]:List Y1q7) fun v10=>
 aJy ([]:List Y1q4) fun v11=>
 some ((0,v9,(false,0,0),0,0,0,([]:List Y1q5),v10,v11),30))else((n52 N a2).bind fun v12=>
 aJy (bif v7 then true else(a0==4)) fun v13=>
 aJy (bif (!v6)then v13 else false) fun v14=>
 aBJ (fun(p15:(Y1q0×Y1q0))=>
 some (p15.2,0)) fun j16=>
 bif v14 then(j16 ((0,([]:List Y1q3),(false,0,0),0,0,0,([]:List Y1q5),([]:List Y1q7),([]:List Y1q4)),v12.1,v12.2.1,v12.2.2.1,v12.2.2.2.1,v12.2.2.2.2.1,a1,v12.2.2.2.2.2.2))else(j16 ((0,([]:List Y1q3),(false,0,0),0,0,0,([]:List Y1q5),([]:List Y1q7),([]:List Y1q4)),v12)))):=by kernel_rfl
theorem e28(N:Nat)(a0:Y1q0)(a1:Y1q0):n28 (N+1) (a0,a1)=
 aJy (true != ((a0.2.2.1.1==a1.2.2.1.1)&&((a0.2.2.1.2.1==a1.2.2.1.2.1)&&(a0.2.2.1.2.2==a1.2.2.1.2.2)))) fun v0=>
 aJy (bif (a0.1 != a1.1)then true else v0) fun v1=>
 aJy (bif v1 then true else(a0.2.2.2.1 != a1.2.2.2.1)) fun v2=>
 aJy (a0.2.2.2.2.1 != a1.2.2.2.2.1) fun v3=>
 aJy (a0.2.2.2.2.2.1 != a1.2.2.2.2.2.1) fun v4=>
 aJy (bif (bif v2 then true else v3)then true else v4) fun v5=>
 aJy ((aJO a0.2.1) != (aJO a1.2.1)) fun v6=>
 aJy ((aJO a0.2.2.2.2.2.2.1) != (aJO a1.2.2.2.2.2.2.1)) fun v7=>
 aJy (bif (bif v5 then true else v6)then true else v7) fun v8=>
 aJy ((aJO a0.2.2.2.2.2.2.2.1) != (aJO a1.2.2.2.2.2.2.2.1)) fun v9=>
 aJy ((aJO a0.2.2.2.2.2.2.2.2) != (aJO a1.2.2.2.2.2.2.2.2)) fun v10=>
 aJy (bif (bif v8 then true else v9)then true else v10) fun v11=>
 bif v11 then(some false)else(aBJ (fun(p12:(Y1q0×Y1q0))=>
 aBJ (fun(p14:(Y1q0×Y1q0))=>
 aBJ (fun(p16:(Y1q0×Y1q0))=>
 aBJ (fun(p18:Unit)=>
 some true) fun j19=>
 eG N (fun(p20:(Y1q0×(Y1q0×Y1q5)))=>
 aJy (decide (p20.2.2.2<p20.2.2.1)) fun v21=>
 bif v21 then((aEU p20.1.2.2.2.2.2.2.2.2 p20.2.2.2).bind fun v22=>
 (aEU p20.2.1.2.2.2.2.2.2.2.2 p20.2.2.2).bind fun v23=>
 (bif (!(v22.1 != v23.1))then(aEU p20.1.2.2.2.2.2.2.2.2 p20.2.2.2)else some (0,0,([]:List Int))).bind fun v24=>
 (bif (!(v22.1 != v23.1))then(aEU p20.2.1.2.2.2.2.2.2.2.2 p20.2.2.2)else some (0,0,([]:List Int))).bind fun v25=>
 aJy (bif (v22.1 != v23.1)then true else(v24.2.1 != v25.2.1)) fun v26=>
 (bif (!v26)then(aEU p20.1.2.2.2.2.2.2.2.2 p20.2.2.2)else some (0,0,([]:List Int))).bind fun v27=>
 (bif (!v26)then(aEU p20.2.1.2.2.2.2.2.2.2.2 p20.2.2.2)else some (0,0,([]:List Int))).bind fun v28=>
 aJy (!((aD8 v27.2.2)==(aD8 v28.2.2))) fun v29=>
 bif (bif v26 then true else v29)then(lJ (some false))else(aJy (IntKind.i64.wrap (p20.2.2.2+1)) fun v30=>
 tN (p20.1,p20.2.1,p20.2.2.1,v30)))else(lJ (j19 ()))) (p16.1,p16.2,(aJO p16.1.2.2.2.2.2.2.2.2),0)) fun j17=>
 eG N (fun(p31:(Y1q0×(Y1q0×Y1q5)))=>
 aJy (decide (p31.2.2.2<p31.2.2.1)) fun v32=>
 bif v32 then((aEU p31.1.2.2.2.2.2.2.2.1 p31.2.2.2).bind fun v33=>
 (aEU p31.2.1.2.2.2.2.2.2.2.1 p31.2.2.2).bind fun v34=>
 aJy (true != ((v33.1==v34.1)&&((v33.2.1==v34.2.1)&&(v33.2.2==v34.2.2)))) fun v35=>
 bif v35 then(lJ (some false))else(aJy (IntKind.i64.wrap (p31.2.2.2+1)) fun v36=>
 tN (p31.1,p31.2.1,p31.2.2.1,v36)))else(lJ (j17 (p31.1,p31.2.1)))) (p14.1,p14.2,(aJO p14.1.2.2.2.2.2.2.2.1),0)) fun j15=>
 eG N (fun(p37:(Y1q0×(Y1q0×Y1q5)))=>
 aJy (decide (p37.2.2.2<p37.2.2.1)) fun v38=>
 bif v38 then((aEU p37.1.2.2.2.2.2.2.1 p37.2.2.2).bind fun v39=>
 (aEU p37.2.1.2.2.2.2.2.2.1 p37.2.2.2).bind fun v40=>
 aJy (true != ((v39.1==v40.1)&&(v39.2==v40.2))) fun v41=>
 bif v41 then(lJ (some false))else(aJy (IntKind.i64.wrap (p37.2.2.2+1)) fun v42=>
 tN (p37.1,p37.2.1,p37.2.2.1,v42)))else(lJ (j15 (p37.1,p37.2.1)))) (p12.1,p12.2,(aJO p12.1.2.2.2.2.2.2.1),0)) fun j13=>
 eG N (fun(p43:(Y1q0×(Y1q0×Y1q5)))=>
 aJy (decide (p43.2.2.2<p43.2.2.1)) fun v44=>
 bif v44 then((aEU p43.1.2.1 p43.2.2.2).bind fun v45=>
 (aEU p43.2.1.2.1 p43.2.2.2).bind fun v46=>
 (bif (!(true != (v45.1==v46.1)))then(aEU p43.1.2.1 p43.2.2.2)else some (false,([]:List Int))).bind fun v47=>
 (bif (!(true != (v45.1==v46.1)))then(aEU p43.2.1.2.1 p43.2.2.2)else some (false,([]:List Int))).bind fun v48=>
 (bif (!(true != (v45.1==v46.1)))then(n59 N (v47.2,v48.2))else some false).bind fun v49=>
 aJy (bif (true != (v45.1==v46.1))then true else(!v49)) fun v50=>
 bif v50 then(lJ (some false))else(aJy (IntKind.i64.wrap (p43.2.2.2+1)) fun v51=>
 tN (p43.1,p43.2.1,p43.2.2.1,v51)))else(lJ (j13 (p43.1,p43.2.1)))) (a0,a1,(aJO a0.2.1),0)):=by kernel_rfl
theorem e29(N:Nat)(a0:Int):n29 (N+1) a0=
 bif (decide (a0>=6))then(aJy (aIc IntKind.u64 (IntKind.u64.wrap a0) 16) fun v0=>
 aJy (bits .or IntKind.u64 2306139568115548160 v0) fun v1=>
 some ((true,v1,0),48))else(aJy (aIc IntKind.u64 (IntKind.u64.wrap a0) 16) fun v2=>
 aJy (bits .or IntKind.u64 167772160 v2) fun v3=>
 some ((false,0,v3),16)):=by kernel_rfl
theorem e34(N:Nat)(a0:(Bool×Int×Int)):n34 (N+1) a0=
 aJy (decide (a0.2.2<4294967296)) fun v0=>
 aJy (bif (a0.2.1==0)then v0 else false) fun v1=>
 some (bif a0.1 then true else v1):=by kernel_rfl
theorem e35(N:Nat)(a0:(Bool×Int×Int)):n35 (N+1) a0=
 bif a0.1 then(some 128)else(some 32):=by kernel_rfl
theorem e36(N:Nat)(a0:(Bool×Int×Int))(a1:Int):n36 (N+1) (a0,a1)=
 (n35 N a0).bind fun v0=>
 (n60 N (IntKind.i64.wrap (v0-a1))).bind fun v1=>
 aJy (bits .andNot IntKind.u64 a0.2.1 v1.1) fun v2=>
 aJy (bits .andNot IntKind.u64 a0.2.2 v1.2) fun v3=>
 some (a0.1,v2,v3):=by kernel_rfl
theorem e37(N:Nat)(a0:Int)(a1:Int)(a2:Int):n37 (N+1) (a0,a1,a2)=
 aJy (bif (decide (a0>=a1))then(decide (a0<=a2))else false) fun v0=>
 some v0:=by kernel_rfl
theorem e38(N:Nat)(a0:List Y1q3):n38 (N+1) a0=
 aBJ (fun(p0:Int)=>
 some (decide (p0<=64))) fun j1=>
 eG N (fun(p2:(List Y1q3×(Int×Y1q11)))=>
 aJy (decide (p2.2.2.2.2<p2.2.2.2.1)) fun v3=>
 bif v3 then(aBJ (fun(p4:(List Y1q3×(Int×Y1q11)))=>
 aJy (IntKind.i64.wrap (p4.2.2.2.2+1)) fun v6=>
 tN (p4.1,p4.2.1,p4.2.2.1,p4.2.2.2.1,v6)) fun j5=>
 (aEU p2.2.2.1 p2.2.2.2.2).bind fun v7=>
 aJy (decide (p2.2.2.2.2>0)) fun v8=>
 aJy (bif v8 then(!v7.1)else false) fun v9=>
 aJy (IntKind.i64.wrap (p2.2.2.2.2-1)) fun v10=>
 (bif (v9&&(!((aJO v7.2)==0)))then(aEU p2.1 v10)else some (false,([]:List Int))).bind fun v11=>
 aJy (bif v9 then(!v11.1)else false) fun v12=>
 aJy (bif ((aJO v7.2)==0)then true else v12) fun v13=>
 bif v13 then(lJ (some false))else(aBJ (fun(p14:(List Y1q3×(Int×(Y1q3×Y1q11))))=>
 aJy (IntKind.i64.wrap (p14.2.1+(aJO p14.2.2.1.2))) fun v16=>
 j5 (p14.1,v16,p14.2.2.2.1,p14.2.2.2.2.1,p14.2.2.2.2.2)) fun j15=>
 eG N (fun(p17:(List Y1q3×(Int×(Y1q3×(List Y1q3×(Int×(Int×(List Int×Y1q5))))))))=>
 aJy (decide (p17.2.2.2.2.2.2.2.2<p17.2.2.2.2.2.2.2.1)) fun v18=>
 bif v18 then((aEU p17.2.2.2.2.2.2.1 p17.2.2.2.2.2.2.2.2).bind fun v19=>
 (n39 N v19).bind fun v20=>
 aJy (decide (p17.2.2.2.2.2.2.2.2>0)) fun v21=>
 aJy (bif p17.2.2.1.1 then v21 else false) fun v22=>
 aJy (IntKind.i64.wrap (p17.2.2.2.2.2.2.2.2-1)) fun v23=>
 (bif (v22&&(!(!v20)))then(aEU p17.2.2.1.2 v23)else some 0).bind fun v24=>
 aJy (bif v22 then(decide (v24>=v19))else false) fun v25=>
 aJy (bif (!v20)then true else v25) fun v26=>
 bif v26 then(lJ (lJ (some false)))else(aJy (IntKind.i64.wrap (p17.2.2.2.2.2.2.2.2+1)) fun v27=>
 tN (p17.1,p17.2.1,p17.2.2.1,p17.2.2.2.1,p17.2.2.2.2.1,p17.2.2.2.2.2.1,p17.2.2.2.2.2.2.1,p17.2.2.2.2.2.2.2.1,v27)))else(lJ (j15 (p17.1,p17.2.1,p17.2.2.1,p17.2.2.2.1,p17.2.2.2.2.1,p17.2.2.2.2.2.1)))) (p2.1,p2.2.1,v7,p2.2.2.1,p2.2.2.2.1,p2.2.2.2.2,v7.2,(aJO v7.2),0)))else(lJ (j1 p2.2.1))) (a0,0,a0,(aJO a0),0):=by kernel_rfl
theorem e39(N:Nat)(a0:Int):n39 (N+1) a0=
 aJy (decide (a0<=4294967295)) fun v0=>
 aJy (bif (decide (a0>=1))then v0 else false) fun v1=>
 some v1:=by kernel_rfl
theorem e40(N:Nat)(a0:List Y1q5):n40 (N+1) a0=
 (n61 N (a0,(),())).bind fun v0=>
 some v0:=by kernel_rfl
theorem e41(N:Nat)(a0:List Y1q7):n41 (N+1) a0=
 (n64 N (a0,(),())).bind fun v0=>
 some v0:=by kernel_rfl
theorem e42(N:Nat)(a0:List Y1q4):n42 (N+1) a0=
 aBJ (fun(p0:List Y1q4)=>
 aJy (decide ((aJO p0)<=8)) fun v2=>
 some v2) fun j1=>
 eG N (fun(p3:(List Y1q4×(List Y1q4×Y1q5)))=>
 aJy (decide (p3.2.2.2<p3.2.2.1)) fun v4=>
 bif v4 then((aEU p3.2.1 p3.2.2.2).bind fun v5=>
 (n67 N v5.2.1).bind fun v6=>
 (bif (!(!v6))then(n37 N (v5.2.1,1,255))else some false).bind fun v7=>
 aJy (bif (!v6)then true else(!v7)) fun v8=>
 aJy (bif v8 then true else(v5.1 != 224)) fun v9=>
 aJy (decide ((aJO v5.2.2)>255)) fun v10=>
 aJy (decide (p3.2.2.2>0)) fun v11=>
 aJy (IntKind.i64.wrap (p3.2.2.2-1)) fun v12=>
 (bif (v11&&(!(bif v9 then true else v10)))then(aEU p3.1 v12)else some (0,0,([]:List Int))).bind fun v13=>
 aJy (bif v11 then(decide (v13.2.1>=v5.2.1))else false) fun v14=>
 aJy (bif (bif v9 then true else v10)then true else v14) fun v15=>
 bif v15 then(lJ (some false))else(aJy (IntKind.i64.wrap (p3.2.2.2+1)) fun v16=>
 tN (p3.1,p3.2.1,p3.2.2.1,v16)))else(lJ (j1 p3.1))) (a0,a0,(aJO a0),0):=by kernel_rfl
theorem e43(N:Nat)(a0:Int)(a1:Y1q0)(a2:Int):n43 (N+1) (a0,a1,a2)=
 (n68 N (65535,65282,a1)).bind fun v0=>
 (n68 N (0,a2,v0.2)).bind fun v1=>
 (bif (!v1.1)then(n70 N (0,a2,v1.2,a0))else some (false,v1.2,a0)).bind fun v2=>
 aJy (bif v1.1 then true else v2.1) fun v3=>
 (n68 N (0,v2.2.2,v2.2.1)).bind fun v4=>
 (bif (!v4.1)then(n70 N (0,0,v4.2,v2.2.2))else some (false,v4.2,v2.2.2)).bind fun v5=>
 aJy (bif v4.1 then true else v5.1) fun v6=>
 (n68 N (v5.2.2,a2,v5.2.1)).bind fun v7=>
 (bif (!v7.1)then(n70 N (1,a2,v7.2,v5.2.2))else some (false,v7.2,v5.2.2)).bind fun v8=>
 aJy (bif v7.1 then true else v8.1) fun v9=>
 aJy ([a2,0]:List Int) fun v10=>
 aBJ (fun(p11:(Y1q6×Y1q6))=>
 some p11.2) fun j12=>
 eG N (fun(p13:(Y1q6×(Y1q6×Y1q9)))=>
 aJy (decide (p13.2.2.2.2.1<p13.2.2.2.1)) fun v14=>
 bif v14 then(aBJ (fun(p15:(Y1q6×(Y1q6×Y1q9)))=>
 aJy (IntKind.i64.wrap (p15.2.2.2.2.1+1)) fun v17=>
 tN (p15.1,p15.2.1,p15.2.2.1,p15.2.2.2.1,v17,p15.2.2.2.2.2.1,p15.2.2.2.2.2.2)) fun j16=>
 (aEU p13.2.2.1 p13.2.2.2.2.1).bind fun v18=>
 aBJ (fun(p19:(Y1q6×(Y1q6×Y1q9)))=>
 j16 (p19.1,p19.2.1,p19.2.2.1,p19.2.2.2.1,p19.2.2.2.2.1,p19.2.2.2.2.2.1,p19.2.2.2.2.2.2)) fun j20=>
 eG N (fun(p21:(Y1q6×(Y1q6×(Int×(Int×Y1q9)))))=>
 aJy (decide (p21.2.2.2.1>0)) fun v22=>
 aJy (p21.2.1.2.2.2.2==0) fun v23=>
 aJy (bif v22 then v23 else false) fun v24=>
 bif v24 then(aBJ (fun(p25:(Y1q6×(Y1q6×(Int×(Int×Y1q9)))))=>
 aJy (IntKind.i64.wrap (p25.2.2.2.1-1)) fun v27=>
 tN (p25.1,p25.2.1,p25.2.2.1,v27,p25.2.2.2.2.1,p25.2.2.2.2.2.1,p25.2.2.2.2.2.2.1,p25.2.2.2.2.2.2.2.1,p25.2.2.2.2.2.2.2.2)) fun j26=>
 aJy (IntKind.i64.wrap (100+p21.2.2.2.1)) fun v28=>
 (n70 N (v28,p21.2.2.1,p21.2.2.2.2.2.2.2.2,p21.2.2.2.2.2.2.2.1)).bind fun v29=>
 aBJ (fun(p30:(Y1q6×(Y1q6×(Int×(Int×Y1q9)))))=>
 j26 (p30.1,p30.2.1,p30.2.2.1,p30.2.2.2.1,p30.2.2.2.2.1,p30.2.2.2.2.2.1,p30.2.2.2.2.2.2.1,p30.2.2.2.2.2.2.2.1,p30.2.2.2.2.2.2.2.2)) fun j31=>
 bif v29.1 then(j31 (p21.1,(p21.2.1.1,p21.2.1.2.1,p21.2.1.2.2.1,p21.2.1.2.2.2.1,p21.2.2.2.1),p21.2.2.1,p21.2.2.2.1,p21.2.2.2.2.1,p21.2.2.2.2.2.1,p21.2.2.2.2.2.2.1,v29.2.2,v29.2.1))else(j31 (p21.1,p21.2.1,p21.2.2.1,p21.2.2.2.1,p21.2.2.2.2.1,p21.2.2.2.2.2.1,p21.2.2.2.2.2.2.1,v29.2.2,v29.2.1)))else(lJ (j20 (p21.1,p21.2.1,p21.2.2.2.2.1,p21.2.2.2.2.2.1,p21.2.2.2.2.2.2.1,p21.2.2.2.2.2.2.2.1,p21.2.2.2.2.2.2.2.2)))) (p13.1,p13.2.1,v18,3,p13.2.2.1,p13.2.2.2.1,p13.2.2.2.2.1,p13.2.2.2.2.2.1,p13.2.2.2.2.2.2))else(lJ (j12 (p13.1,p13.2.1)))) ((false,false,false,false,0),(v0.1,v3,v6,v9,0),v10,(aJO v10),0,v8.2.2,v8.2.1):=by kernel_rfl
theorem e44(N:Nat)(a0:List Int)(a1:Int):n44 (N+1) (a0,a1)=
 (n72 N (a0,a1)).bind fun v0=>
 some (decide (v0>=0)):=by kernel_rfl
theorem e45(N:Nat)(a0:Y1q0):n45 (N+1) a0=
 (n69 N (a0.2.2.2.2.2.2.1,65535,666)).bind fun v0=>
 some v0:=by kernel_rfl
theorem e46(N:Nat)(a0:List Y1q3):n46 (N+1) a0=
 aBJ (fun(p0:Int)=>
 some p0) fun j1=>
 eG N (fun(p2:(Int×Y1q11))=>
 aJy (decide (p2.2.2.2<p2.2.2.1)) fun v3=>
 bif v3 then(aBJ (fun(p4:(Int×Y1q11))=>
 aJy (IntKind.i64.wrap (p4.2.2.2+1)) fun v6=>
 tN (p4.1,p4.2.1,p4.2.2.1,v6)) fun j5=>
 (aEU p2.2.1 p2.2.2.2).bind fun v7=>
 aBJ (fun(p8:(Int×Y1q11))=>
 j5 (p8.1,p8.2.1,p8.2.2.1,p8.2.2.2)) fun j9=>
 bif v7.1 then(aJy (IntKind.i64.wrap (p2.1+1)) fun v10=>
 j9 (v10,p2.2.1,p2.2.2.1,p2.2.2.2))else(aJy (IntKind.i64.wrap (p2.1+(aJO v7.2))) fun v11=>
 j9 (v11,p2.2.1,p2.2.2.1,p2.2.2.2)))else(lJ (j1 p2.1))) (0,a0,(aJO a0),0):=by kernel_rfl
theorem e47(N:Nat)(a0:List Y1q3)(a1:Int):n47 (N+1) (a0,a1)=
 (n48 N a0).bind fun v0=>
 (n44 N (v0,a1)).bind fun v1=>
 some v1:=by kernel_rfl
theorem e48(N:Nat)(a0:List Y1q3):n48 (N+1) a0=
 aBJ (fun(p0:List Int)=>
 some p0) fun j1=>
 eG N (fun(p2:(List Int×Y1q11))=>
 aJy (decide (p2.2.2.2<p2.2.2.1)) fun v3=>
 bif v3 then((aEU p2.2.1 p2.2.2.2).bind fun v4=>
 (aH3 8 p2.1 v4.2).bind fun v5=>
 aJy (IntKind.i64.wrap (p2.2.2.2+1)) fun v6=>
 tN (v5,p2.2.1,p2.2.2.1,v6))else(lJ (j1 p2.1))) (([]:List Int),a0,(aJO a0),0):=by kernel_rfl
theorem e52(N:Nat)(a0:Y1q0):n52 (N+1) a0=
 aJy ([]:List Y1q3) fun v0=>
 aJy ([]:List Y1q4) fun v1=>
 aBJ (fun(p2:(Y1q0×(Y1q0×List Y1q4)))=>
 aBJ (fun(p4:(Y1q0×Y1q0))=>
 (n80 N p4.1.2.2.2.2.2.2.1).bind fun v6=>
 (n81 N p4.1.2.2.2.2.2.2.2.1).bind fun v7=>
 some (p4.1.1,p4.1.2.1,p4.1.2.2.1,p4.1.2.2.2.1,p4.1.2.2.2.2.1,p4.1.2.2.2.2.2.1,v6,v7,p4.1.2.2.2.2.2.2.2.2)) fun j5=>
 eG N (fun(p8:(Y1q0×(Y1q0×(List Y1q4×Y1q5))))=>
 aJy (decide (p8.2.2.2.2<p8.2.2.2.1)) fun v9=>
 bif v9 then((aEU p8.2.2.1 p8.2.2.2.2).bind fun v10=>
 (n79 N v10.2.2).bind fun v11=>
 aJy ([(v10.1,v10.2.1,v11)]:List Y1q4) fun v12=>
 (aH3 40 p8.1.2.2.2.2.2.2.2.2 v12).bind fun v13=>
 aJy (IntKind.i64.wrap (p8.2.2.2.2+1)) fun v14=>
 tN ((p8.1.1,p8.1.2.1,p8.1.2.2.1,p8.1.2.2.2.1,p8.1.2.2.2.2.1,p8.1.2.2.2.2.2.1,p8.1.2.2.2.2.2.2.1,p8.1.2.2.2.2.2.2.2.1,v13),p8.2.1,p8.2.2.1,p8.2.2.2.1,v14))else(lJ (j5 (p8.1,p8.2.1)))) (p2.1,p2.2.1,p2.2.2,(aJO p2.2.2),0)) fun j3=>
 eG N (fun(p15:(Y1q0×(Y1q0×(List Y1q4×Y1q11))))=>
 aJy (decide (p15.2.2.2.2.2<p15.2.2.2.2.1)) fun v16=>
 bif v16 then((aEU p15.2.2.2.1 p15.2.2.2.2.2).bind fun v17=>
 (n78 N v17.2).bind fun v18=>
 aJy ([(v17.1,v18)]:List Y1q3) fun v19=>
 (aH3 32 p15.1.2.1 v19).bind fun v20=>
 aJy (IntKind.i64.wrap (p15.2.2.2.2.2+1)) fun v21=>
 tN ((p15.1.1,v20,p15.1.2.2),p15.2.1,p15.2.2.1,p15.2.2.2.1,p15.2.2.2.2.1,v21))else(lJ (j3 (p15.1,p15.2.1,p15.2.2.1)))) ((a0.1,v0,a0.2.2.1,a0.2.2.2.1,a0.2.2.2.2.1,a0.2.2.2.2.2.1,a0.2.2.2.2.2.2.1,a0.2.2.2.2.2.2.2.1,v1),(0,([]:List Y1q3),(false,0,0),0,0,0,([]:List Y1q5),([]:List Y1q7),([]:List Y1q4)),a0.2.2.2.2.2.2.2.2,a0.2.1,(aJO a0.2.1),0):=by kernel_rfl
theorem e57(N:Nat)(a0:Int):n57 (N+1) a0=
 (bif (decide (a0>=0))then(n84 N ())else some (0,0,0,0,0)).bind fun v0=>
 aJy (bif (decide (a0>=0))then(decide (a0<5))else false) fun v1=>
 some v1:=by kernel_rfl
theorem e58(N:Nat)(a0:Int):n58 (N+1) a0=
 aJy (decide (a0<=4294967295)) fun v0=>
 aJy (bif (decide (a0>=1))then v0 else false) fun v1=>
 some v1:=by kernel_rfl
theorem e59(N:Nat)(a0:List Int)(a1:List Int):n59 (N+1) (a0,a1)=
 bif ((aJO a0) != (aJO a1))then(some false)else(aBJ (fun(p0:Unit)=>
 some true) fun j1=>
 eG N (fun(p2:(List Int×(List Int×Y1q5)))=>
 aJy (decide (p2.2.2.2<p2.2.2.1)) fun v3=>
 bif v3 then((aEU p2.1 p2.2.2.2).bind fun v4=>
 (aEU p2.2.1 p2.2.2.2).bind fun v5=>
 bif (v4 != v5)then(lJ (some false))else(aJy (IntKind.i64.wrap (p2.2.2.2+1)) fun v6=>
 tN (p2.1,p2.2.1,p2.2.2.1,v6)))else(lJ (j1 ()))) (a0,a1,(aJO a0),0)):=by kernel_rfl
theorem e60(N:Nat)(a0:Int):n60 (N+1) a0=
 bif (decide (a0>64))then(aJy (IntKind.i64.wrap (a0-64)) fun v0=>
 (if(IntKind.u64.wrap v0)<0 then none else some (aIc IntKind.u64 1 (IntKind.u64.wrap v0).toNat)).bind fun v1=>
 aJy (IntKind.u64.wrap (v1-1)) fun v2=>
 some (v2,18446744073709551615))else((if(IntKind.u64.wrap a0)<0 then none else some (aIc IntKind.u64 1 (IntKind.u64.wrap a0).toNat)).bind fun v3=>
 aJy (IntKind.u64.wrap (v3-1)) fun v4=>
 some (0,v4)):=by kernel_rfl
theorem e61(N:Nat)(a0:List Y1q5)(a1:Unit)(a2:Unit):n61 (N+1) (a0,a1,a2)=
 aBJ (fun(p0:List Y1q5)=>
 aJy (decide ((aJO p0)<=64)) fun v2=>
 some v2) fun j1=>
 eG N (fun(p3:(List Y1q5×(List Y1q5×Y1q5)))=>
 aJy (decide (p3.2.2.2<p3.2.2.1)) fun v4=>
 bif v4 then((aEU p3.2.1 p3.2.2.2).bind fun v5=>
 (n62 N v5).bind fun v6=>
 aJy (decide (p3.2.2.2>0)) fun v7=>
 aJy (IntKind.i64.wrap (p3.2.2.2-1)) fun v8=>
 (bif (v7&&(!(!v6)))then(aEU p3.1 v8)else some (0,0)).bind fun v9=>
 (bif (v7&&(!(!v6)))then(n63 N (v9,v5))else some 0).bind fun v10=>
 aJy (bif v7 then(decide (v10>=0))else false) fun v11=>
 aJy (bif (!v6)then true else v11) fun v12=>
 bif v12 then(lJ (some false))else(aJy (IntKind.i64.wrap (p3.2.2.2+1)) fun v13=>
 tN (p3.1,p3.2.1,p3.2.2.1,v13)))else(lJ (j1 p3.1))) (a0,a0,(aJO a0),0):=by kernel_rfl
theorem e64(N:Nat)(a0:List Y1q7)(a1:Unit)(a2:Unit):n64 (N+1) (a0,a1,a2)=
 aBJ (fun(p0:List Y1q7)=>
 aJy (decide ((aJO p0)<=64)) fun v2=>
 some v2) fun j1=>
 eG N (fun(p3:(List Y1q7×(List Y1q7×Y1q5)))=>
 aJy (decide (p3.2.2.2<p3.2.2.1)) fun v4=>
 bif v4 then((aEU p3.2.1 p3.2.2.2).bind fun v5=>
 (n65 N v5).bind fun v6=>
 aJy (decide (p3.2.2.2>0)) fun v7=>
 aJy (IntKind.i64.wrap (p3.2.2.2-1)) fun v8=>
 (bif (v7&&(!(!v6)))then(aEU p3.1 v8)else some (0,0,0)).bind fun v9=>
 (bif (v7&&(!(!v6)))then(n66 N (v9,v5))else some 0).bind fun v10=>
 aJy (bif v7 then(decide (v10>=0))else false) fun v11=>
 aJy (bif (!v6)then true else v11) fun v12=>
 bif v12 then(lJ (some false))else(aJy (IntKind.i64.wrap (p3.2.2.2+1)) fun v13=>
 tN (p3.1,p3.2.1,p3.2.2.1,v13)))else(lJ (j1 p3.1))) (a0,a0,(aJO a0),0):=by kernel_rfl
theorem e68(N:Nat)(a0:Int)(a1:Int)(a2:Y1q0):n68 (N+1) (a0,a1,a2)=
 (n69 N (a2.2.2.2.2.2.2.1,a0,a1)).bind fun v0=>
 some (v0,a2):=by kernel_rfl
theorem e69(N:Nat)(a0:List Y1q5)(a1:Y1q5):n69 (N+1) (a0,a1)=
 (n88 N (a0,a1)).bind fun v0=>
 some v0:=by kernel_rfl
theorem e70(N:Nat)(a0:Int)(a1:Int)(a2:Y1q0)(a3:Int):n70 (N+1) (a0,a1,a2,a3)=
 (n71 N (a2.2.2.2.2.2.2.2.1,a3,a0,a1)).bind fun v0=>
 some (v0,a2,a3):=by kernel_rfl
theorem e71(N:Nat)(a0:List Y1q7)(a1:Y1q7):n71 (N+1) (a0,a1)=
 (n89 N (a0,a1)).bind fun v0=>
 some v0:=by kernel_rfl
theorem e72(N:Nat)(a0:List Int)(a1:Int):n72 (N+1) (a0,a1)=
 aBJ (fun(p0:Unit)=>
 some (-1)) fun j1=>
 eG N (fun(p2:(List Int×(Int×Y1q5)))=>
 aJy (decide (p2.2.2.2<p2.2.2.1)) fun v3=>
 bif v3 then((aEU p2.1 p2.2.2.2).bind fun v4=>
 bif (p2.2.1==v4)then(lJ (some p2.2.2.2))else(aJy (IntKind.i64.wrap (p2.2.2.2+1)) fun v5=>
 tN (p2.1,p2.2.1,p2.2.2.1,v5)))else(lJ (j1 ()))) (a0,a1,(aJO a0),0):=by kernel_rfl
theorem e78(N:Nat)(a0:List Int):n78 (N+1) a0=
 (aH3 8 ([]:List Int) a0).bind fun v0=>
 some v0:=by kernel_rfl
theorem e79(N:Nat)(a0:List Int):n79 (N+1) a0=
 (aH3 1 ([]:List Int) a0).bind fun v0=>
 some v0:=by kernel_rfl
theorem e80(N:Nat)(a0:List Y1q5):n80 (N+1) a0=
 (aH3 16 ([]:List Y1q5) a0).bind fun v0=>
 some v0:=by kernel_rfl
theorem e81(N:Nat)(a0:List Y1q7):n81 (N+1) a0=
 (aH3 24 ([]:List Y1q7) a0).bind fun v0=>
 some v0:=by kernel_rfl
theorem e84(N:Nat):n84 (N+1) ()=
 some (3,2,1,0,4):=by kernel_rfl
theorem e88(N:Nat)(a0:List Y1q5)(a1:Y1q5):n88 (N+1) (a0,a1)=
 (n96 N (a0,a1)).bind fun v0=>
 some (decide (v0>=0)):=by kernel_rfl
theorem e89(N:Nat)(a0:List Y1q7)(a1:Y1q7):n89 (N+1) (a0,a1)=
 (n97 N (a0,a1)).bind fun v0=>
 some (decide (v0>=0)):=by kernel_rfl
theorem e96(N:Nat)(a0:List Y1q5)(a1:Y1q5):n96 (N+1) (a0,a1)=
 aBJ (fun(p0:Unit)=>
 some (-1)) fun j1=>
 eG N (fun(p2:(List Y1q5×(Y1q5×Y1q5)))=>
 aJy (decide (p2.2.2.2<p2.2.2.1)) fun v3=>
 bif v3 then((aEU p2.1 p2.2.2.2).bind fun v4=>
 aJy (false != ((p2.2.1.1==v4.1)&&(p2.2.1.2==v4.2))) fun v5=>
 bif v5 then(lJ (some p2.2.2.2))else(aJy (IntKind.i64.wrap (p2.2.2.2+1)) fun v6=>
 tN (p2.1,p2.2.1,p2.2.2.1,v6)))else(lJ (j1 ()))) (a0,a1,(aJO a0),0):=by kernel_rfl
theorem e97(N:Nat)(a0:List Y1q7)(a1:Y1q7):n97 (N+1) (a0,a1)=
 aBJ (fun(p0:Unit)=>
 some (-1)) fun j1=>
 eG N (fun(p2:(List Y1q7×(Y1q7×Y1q5)))=>
 aJy (decide (p2.2.2.2<p2.2.2.1)) fun v3=>
 bif v3 then((aEU p2.1 p2.2.2.2).bind fun v4=>
 aJy (false != ((p2.2.1.1==v4.1)&&((p2.2.1.2.1==v4.2.1)&&(p2.2.1.2.2==v4.2.2)))) fun v5=>
 bif v5 then(lJ (some p2.2.2.2))else(aJy (IntKind.i64.wrap (p2.2.2.2+1)) fun v6=>
 tN (p2.1,p2.2.1,p2.2.2.1,v6)))else(lJ (j1 ()))) (a0,a1,(aJO a0),0):=by kernel_rfl
end Go.Proofs.YtgfmodmeimhhpaaDoor
