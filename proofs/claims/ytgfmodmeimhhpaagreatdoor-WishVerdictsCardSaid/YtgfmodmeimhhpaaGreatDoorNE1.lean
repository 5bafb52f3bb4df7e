/- The functions as they are read. -/
import Derived.Test.YtgfmodmeimhhpaaGreatDoorNN
namespace Go.Proofs.YtgfmodmeimhhpaaGreatDoor
open Go.VM
set_option maxRecDepth 100000
abbrev Y1q2:=Bool×(List Int)
abbrev Y1q3:=Int×Int
abbrev Y1q6:=Int×Int×Int
abbrev Y1q7:=Int×Int×(List Int)
abbrev Y1q0:=Int×(List Y1q2)×(Bool×Int×Int)×Int×Int×Int×(List Y1q3)×(List Y1q6)×(List Y1q7)
abbrev Y1q1:=Int×Bool×Bool×Bool×Int×(List Int)×(List Y1q3)
abbrev Y1q4:=Bool×Bool×Bool×Bool×Int
abbrev Y1q9:=(List Int)×Int
abbrev Y1q5:=((Bool×Int×Int)×Int)×(((Bool×Int×Int)×Int)×Y1q9)
abbrev Y1q8:=List Int×(Int×(Int×(Int×Y1q0)))
abbrev Y1q10:=List Y1q2×Y1q3
abbrev Y1q11:=((Bool×Int×Int)×Int)×Int×Y1q0
abbrev Y1q12:=List Int×Y1q3
abbrev Y1q13:=Int×(Y1q0×(Y1q0×(Y1q0×(List Y1q3×Y1q3))))
theorem e3(N:Nat)(a0:List Int)(a1:Int):n3 (N+1) (a0,a1)=
 (n6 N a0).bind fun v0=>
 aBJ (fun(p1:Unit)=>
 (n18 N ()).bind fun v3=>
 some v3) fun j2=>
 eG N (fun(p4:(Int×(Int×Y1q9)))=>
 aJy (decide (p4.2.1<6)) fun v5=>
 bif v5 then((n8 N (p4.2.2,4)).bind fun v6=>
 aJy (IntKind.i64.wrap (101+v6.1)) fun v7=>
 (n7 N (v6.2,v7)).bind fun v8=>
 (n8 N (v8.2,5)).bind fun v9=>
 aJy (IntKind.i64.wrap (101+v9.1)) fun v10=>
 (n9 N (v9.2,v10)).bind fun v11=>
 aJy ([99,99,70000,500]:List Int) fun v12=>
 (n8 N (v11.2,4)).bind fun v13=>
 (aEU v12 v13.1).bind fun v14=>
 (n10 N (p4.1,4294967295)).bind fun v15=>
 aJy (IntKind.i64.wrap (1+v15)) fun v16=>
 aJy ([v11.1.1,v16]:List Int) fun v17=>
 (n8 N (v13.2,2)).bind fun v18=>
 (aEU v17 v18.1).bind fun v19=>
 (n11 N (v14,v8.1,v11.1)).bind fun v20=>
 (n12 N (v14,v8.1,v11.1)).bind fun v21=>
 (bif (!(v20 != v21))then(n13 N (v14,v8.1.2.2,v19))else some 0).bind fun v22=>
 (bif (!(v20 != v21))then(n14 N (v14,v8.1.2.2,v19))else some 0).bind fun v23=>
 aJy (bif (v20 != v21)then true else(v22 != v23)) fun v24=>
 (bif (!v24)then(n16 N (v14,v8.1.2.2))else some (0,([]:List Y1q2),(false,0,0),0,0,0,([]:List Y1q3),([]:List Y1q6),([]:List Y1q7))).bind fun v25=>
 (bif (!v24)then(n17 N (v14,v8.1.2.2))else some (0,([]:List Y1q2),(false,0,0),0,0,0,([]:List Y1q3),([]:List Y1q6),([]:List Y1q7))).bind fun v26=>
 (bif (!v24)then(n15 N (v25,v26))else some false).bind fun v27=>
 aJy (bif v24 then true else(!v27)) fun v28=>
 bif v28 then(lJ (some false))else(aJy (IntKind.i64.wrap (p4.2.1+1)) fun v29=>
 tN (p4.1,v29,v18.2)))else(lJ (j2 ()))) (a1,0,v0):=by kernel_rfl
theorem e6(N:Nat)(a0:List Int):n6 (N+1) a0=
 some (a0,0):=by kernel_rfl
theorem e7(N:Nat)(a0:Y1q9)(a1:Int):n7 (N+1) (a0,a1)=
 (n27 N a0).bind fun v0=>
 (n28 N (v0.2,a1,v0.1.1.1)).bind fun v1=>
 some ((v0.1,a1,v1.1),v1.2):=by kernel_rfl
theorem e8(N:Nat)(a0:Y1q9)(a1:Int):n8 (N+1) (a0,a1)=
 aJy (decide (a0.2>=(aJO a0.1))) fun v0=>
 bif v0 then(some (0,a0))else(aJy (IntKind.i64.wrap (a0.2+1)) fun v1=>
 aJy (IntKind.i64.wrap (v1-1)) fun v2=>
 (aEU a0.1 v2).bind fun v3=>
 (n10 N (v3,a1)).bind fun v4=>
 some (v4,a0.1,v1)):=by kernel_rfl
theorem e9(N:Nat)(a0:Y1q9)(a1:Int):n9 (N+1) (a0,a1)=
 (n8 N (a0,2)).bind fun v0=>
 (n8 N (v0.2,8)).bind fun v1=>
 aBJ (fun(p2:(Y1q1×(Y1q1×Y1q9)))=>
 aBJ (fun(p4:(Y1q1×(Y1q1×Y1q9)))=>
 some (p4.2.1,p4.2.2)) fun j5=>
 eG N (fun(p6:(Y1q1×(Y1q1×(Int×Y1q9))))=>
 aJy (decide (p6.2.2.1<5)) fun v7=>
 bif v7 then(aBJ (fun(p8:(Y1q1×(Y1q1×(Int×Y1q9))))=>
 aJy (IntKind.i64.wrap (p8.2.2.1+1)) fun v10=>
 tN (p8.1,p8.2.1,v10,p8.2.2.2)) fun j9=>
 (n8 N (p6.2.2.2,4)).bind fun v11=>
 aBJ (fun(p12:(Y1q1×(Y1q1×(Int×Y1q9))))=>
 j9 (p12.1,p12.2.1,p12.2.2.1,p12.2.2.2)) fun j13=>
 bif (v11.1==0)then(aJy (IntKind.i64.wrap (101+p6.2.2.1)) fun v14=>
 (n8 N (v11.2,5)).bind fun v15=>
 aJy (IntKind.i64.wrap (v15.1-2)) fun v16=>
 aJy ([(v14,v16)]:List Y1q3) fun v17=>
 (aH3 16 p6.2.1.2.2.2.2.2.2 v17).bind fun v18=>
 j13 (p6.1,(p6.2.1.1,p6.2.1.2.1,p6.2.1.2.2.1,p6.2.1.2.2.2.1,p6.2.1.2.2.2.2.1,p6.2.1.2.2.2.2.2.1,v18),p6.2.2.1,v15.2))else(j13 (p6.1,p6.2.1,p6.2.2.1,v11.2)))else(lJ (j5 (p6.1,p6.2.1,p6.2.2.2)))) (p2.1,p2.2.1,0,p2.2.2)) fun j3=>
 aBJ (fun(p19:(Y1q1×(Y1q1×Y1q9)))=>
 j3 (p19.1,p19.2.1,p19.2.2)) fun j20=>
 bif (v1.1==0)then(j20 ((0,false,false,false,0,([]:List Int),([]:List Y1q3)),(a1,true,false,(v0.1==0),0,([]:List Int),([]:List Y1q3)),v1.2))else(aBJ (fun(p21:(Y1q1×(Y1q1×Y1q9)))=>
 j20 (p21.1,p21.2.1,p21.2.2)) fun j22=>
 bif (v1.1==1)then(j22 ((0,false,false,false,0,([]:List Int),([]:List Y1q3)),(a1,false,true,(v0.1==0),0,([]:List Int),([]:List Y1q3)),v1.2))else(aBJ (fun(p23:(Y1q1×(Y1q1×Y1q9)))=>
 j22 (p23.1,p23.2.1,p23.2.2)) fun j24=>
 bif (v1.1==2)then((n8 N (v1.2,4)).bind fun v25=>
 aJy (IntKind.i64.wrap (1+v25.1)) fun v26=>
 j24 ((0,false,false,false,0,([]:List Int),([]:List Y1q3)),(a1,false,false,(v0.1==0),v26,([]:List Int),([]:List Y1q3)),v25.2))else(aBJ (fun(p27:(Y1q1×(Y1q1×Y1q9)))=>
 j24 (p27.1,p27.2.1,p27.2.2)) fun j28=>
 bif (v1.1==3)then((n8 N (v1.2,4)).bind fun v29=>
 aJy (IntKind.i64.wrap (101+v29.1)) fun v30=>
 j28 ((0,false,false,false,0,([]:List Int),([]:List Y1q3)),(a1,false,false,(v0.1==0),0,([v30]:List Int),([]:List Y1q3)),v29.2))else(j28 ((0,false,false,false,0,([]:List Int),([]:List Y1q3)),(a1,false,false,(v0.1==0),0,([]:List Int),([]:List Y1q3)),v1.2))))):=by kernel_rfl
theorem e10(N:Nat)(a0:Int)(a1:Int):n10 (N+1) (a0,a1)=
 (if a1=0 then none else some (Int.tmod a0 a1)).bind fun v0=>
 aBJ (fun(p1:Int)=>
 some p1) fun j2=>
 bif (decide (v0<0))then(j2 (IntKind.i64.wrap (v0+a1)))else(j2 v0):=by kernel_rfl
theorem e11(N:Nat)(a0:Int)(a1:Y1q11)(a2:Y1q1):n11 (N+1) (a0,a1,a2)=
 (n29 N (a0,a1.2.2,a2.1)).bind fun v0=>
 bif (a1.2.1==a2.1)then(some 1)else(bif v0.1 then(some 2)else(bif v0.2.1 then(some 3)else(aJy (bif v0.2.2.1 then(!v0.2.2.2.1)else false) fun v1=>
 bif v1 then(some 4)else(aJy (bif a2.2.2.1 then a1.1.1.1 else false) fun v2=>
 aBJ (fun(p3:(Y1q11×(Y1q1×(Y1q4×Bool))))=>
 bif p3.2.2.2 then(some 5)else((n30 N (p3.2.1.2.2.2.2.2.1,p3.1.2.1)).bind fun v5=>
 bif v5 then(some 6)else((n31 N p3.1.2.2).bind fun v6=>
 aJy (bif v6 then(!p3.2.1.2.2.2.1)else false) fun v7=>
 bif v7 then(some 7)else(aJy (p3.2.1.2.2.2.2.1 != 0) fun v8=>
 (bif v8 then(n32 N p3.1.2.2.2.1)else some 0).bind fun v9=>
 aJy (IntKind.i64.wrap (v9+p3.2.2.1.2.2.2.2)) fun v10=>
 aJy (decide (v10>p3.2.1.2.2.2.2.1)) fun v11=>
 bif (bif v8 then v11 else false)then(some 8)else((n33 N (p3.1.2.2.2.1,p3.2.1.1)).bind fun v12=>
 bif v12 then(some 9)else(some 0)))))) fun j4=>
 bif v2 then(j4 (a1,a2,v0,v2))else(aJy (bif a2.2.1 then(!a1.1.1.1)else false) fun v13=>
 j4 (a1,a2,v0,v13)))))):=by kernel_rfl
theorem e12(N:Nat)(a0:Int)(a1:Y1q11)(a2:Y1q1):n12 (N+1) (a0,a1,a2)=
 aBJ (fun(p0:(Int×(Y1q11×(Y1q1×(Y1q0×Bool)))))=>
 bif (p0.2.1.2.1==p0.2.2.1.1)then(some 1)else((n34 N (p0.2.2.2.1.2.2.2.2.2.2.1,65535,65282)).bind fun v2=>
 bif v2 then(some 2)else((n35 N (p0.1,p0.2.2.2.1,0,p0.2.2.1.1,0,p0.2.2.1.1)).bind fun v3=>
 bif v3 then(some 3)else((n35 N (p0.1,p0.2.2.2.1,0,p0.1,0,0)).bind fun v4=>
 (bif v4 then(n35 N (p0.1,p0.2.2.2.1,p0.1,p0.2.2.1.1,1,p0.2.2.1.1))else some false).bind fun v5=>
 aJy (bif v4 then(!v5)else false) fun v6=>
 bif v6 then(some 4)else(aJy (bif p0.2.1.1.1.1 then p0.2.2.1.2.2.1 else false) fun v7=>
 aJy (bif (!p0.2.1.1.1.1)then p0.2.2.1.2.1 else false) fun v8=>
 bif (bif v7 then true else v8)then(some 5)else(bif p0.2.2.2.2 then(some 6)else((n36 N p0.2.2.2.1).bind fun v9=>
 aJy (bif v9 then(!p0.2.2.1.2.2.2.1)else false) fun v10=>
 bif v10 then(some 7)else(aJy (p0.2.2.1.2.2.2.2.1 != 0) fun v11=>
 (bif v11 then(n24 N p0.2.2.2.1.2.1)else some 0).bind fun v12=>
 (bif v11 then(n14 N (p0.1,p0.2.2.2.1,p0.2.2.1.1))else some 0).bind fun v13=>
 aJy (IntKind.i64.wrap (v12+v13)) fun v14=>
 aJy (decide (v14>p0.2.2.1.2.2.2.2.1)) fun v15=>
 aJy (bif v11 then v15 else false) fun v16=>
 bif v16 then(some 8)else((n26 N (p0.2.2.2.1.2.1,p0.2.2.1.1)).bind fun v17=>
 bif v17 then(some 9)else(some 0)))))))))) fun j1=>
 eG N (fun(p18:(Int×(Y1q11×(Y1q1×(Y1q0×(Bool×Y1q12))))))=>
 aJy (decide (p18.2.2.2.2.2.2.2<p18.2.2.2.2.2.2.1)) fun v19=>
 bif v19 then((aEU p18.2.2.2.2.2.1 p18.2.2.2.2.2.2.2).bind fun v20=>
 aJy (bif p18.2.2.2.2.1 then true else(v20==p18.2.1.2.1)) fun v21=>
 aJy (IntKind.i64.wrap (p18.2.2.2.2.2.2.2+1)) fun v22=>
 tN (p18.1,p18.2.1,p18.2.2.1,p18.2.2.2.1,v21,p18.2.2.2.2.2.1,p18.2.2.2.2.2.2.1,v22))else(lJ (j1 (p18.1,p18.2.1,p18.2.2.1,p18.2.2.2.1,p18.2.2.2.2.1)))) (a0,a1,a2,a1.2.2,false,a2.2.2.2.2.2.1,(aJO a2.2.2.2.2.2.1),0):=by kernel_rfl
theorem e13(N:Nat)(a0:Int)(a1:Y1q0)(a2:Int):n13 (N+1) (a0,a1,a2)=
 (n29 N (a0,a1,a2)).bind fun v0=>
 some v0.2.2.2.2:=by kernel_rfl
theorem e14(N:Nat)(a0:Int)(a1:Y1q0)(a2:Int):n14 (N+1) (a0,a1,a2)=
 aJy ([a2,0]:List Int) fun v0=>
 aBJ (fun(p1:Unit)=>
 some 0) fun j2=>
 eG N (fun(p3:(Int×(Y1q0×Y1q12)))=>
 aJy (decide (p3.2.2.2.2<p3.2.2.2.1)) fun v4=>
 bif v4 then(aBJ (fun(p5:(Int×(Y1q0×Y1q12)))=>
 aJy (IntKind.i64.wrap (p5.2.2.2.2+1)) fun v7=>
 tN (p5.1,p5.2.1,p5.2.2.1,p5.2.2.2.1,v7)) fun j6=>
 (aEU p3.2.2.1 p3.2.2.2.2).bind fun v8=>
 aBJ (fun(p9:(Int×(Y1q0×Y1q12)))=>
 j6 (p9.1,p9.2.1,p9.2.2.1,p9.2.2.2.1,p9.2.2.2.2)) fun j10=>
 eG N (fun(p11:(Int×(Y1q0×(Int×(Int×Y1q12)))))=>
 aJy (decide (p11.2.2.2.1>0)) fun v12=>
 bif v12 then(aJy (IntKind.i64.wrap (100+p11.2.2.2.1)) fun v13=>
 (n37 N (p11.2.1.2.2.2.2.2.2.2.1,p11.1,v13,p11.2.2.1)).bind fun v14=>
 bif v14 then(lJ (lJ (some p11.2.2.2.1)))else(aJy (IntKind.i64.wrap (p11.2.2.2.1-1)) fun v15=>
 tN (p11.1,p11.2.1,p11.2.2.1,v15,p11.2.2.2.2.1,p11.2.2.2.2.2.1,p11.2.2.2.2.2.2)))else(lJ (j10 (p11.1,p11.2.1,p11.2.2.2.2.1,p11.2.2.2.2.2.1,p11.2.2.2.2.2.2)))) (p3.1,p3.2.1,v8,3,p3.2.2.1,p3.2.2.2.1,p3.2.2.2.2))else(lJ (j2 ()))) (a0,a1,v0,(aJO v0),0):=by kernel_rfl
theorem e15(N:Nat)(a0:Y1q0)(a1:Y1q0):n15 (N+1) (a0,a1)=
 aJy (true != ((a0.2.2.1.1==a1.2.2.1.1)&&((a0.2.2.1.2.1==a1.2.2.1.2.1)&&(a0.2.2.1.2.2==a1.2.2.1.2.2)))) fun v0=>
 aJy (bif (a0.1 != a1.1)then true else v0) fun v1=>
 aJy (bif v1 then true else(a0.2.2.2.1 != a1.2.2.2.1)) fun v2=>
 aJy (a0.2.2.2.2.1 != a1.2.2.2.2.1) fun v3=>
 aJy (a0.2.2.2.2.2.1 != a1.2.2.2.2.2.1) fun v4=>
 aJy (bif (bif v2 then true else v3)then true else v4) fun v5=>
 aJy ((aJO a0.2.1) != (aJO a1.2.1)) fun v6=>
 aJy ((aJO a0.2.2.2.2.2.2.1) != (aJO a1.2.2.2.2.2.2.1)) fun v7=>
 aJy (bif (bif v5 then true else v6)then true else v7) fun v8=>
 aJy ((aJO a0.2.2.2.2.2.2.2.1) != (aJO a1.2.2.2.2.2.2.2.1)) fun v9=>
 aJy ((aJO a0.2.2.2.2.2.2.2.2) != (aJO a1.2.2.2.2.2.2.2.2)) fun v10=>
 aJy (bif (bif v8 then true else v9)then true else v10) fun v11=>
 bif v11 then(some false)else(aBJ (fun(p12:(Y1q0×Y1q0))=>
 aBJ (fun(p14:(Y1q0×Y1q0))=>
 aBJ (fun(p16:(Y1q0×Y1q0))=>
 aBJ (fun(p18:Unit)=>
 some true) fun j19=>
 eG N (fun(p20:(Y1q0×(Y1q0×Y1q3)))=>
 aJy (decide (p20.2.2.2<p20.2.2.1)) fun v21=>
 bif v21 then((aEU p20.1.2.2.2.2.2.2.2.2 p20.2.2.2).bind fun v22=>
 (aEU p20.2.1.2.2.2.2.2.2.2.2 p20.2.2.2).bind fun v23=>
 (bif (!(v22.1 != v23.1))then(aEU p20.1.2.2.2.2.2.2.2.2 p20.2.2.2)else some (0,0,([]:List Int))).bind fun v24=>
 (bif (!(v22.1 != v23.1))then(aEU p20.2.1.2.2.2.2.2.2.2.2 p20.2.2.2)else some (0,0,([]:List Int))).bind fun v25=>
 aJy (bif (v22.1 != v23.1)then true else(v24.2.1 != v25.2.1)) fun v26=>
 (bif (!v26)then(aEU p20.1.2.2.2.2.2.2.2.2 p20.2.2.2)else some (0,0,([]:List Int))).bind fun v27=>
 (bif (!v26)then(aEU p20.2.1.2.2.2.2.2.2.2.2 p20.2.2.2)else some (0,0,([]:List Int))).bind fun v28=>
 aJy (!((aD8 v27.2.2)==(aD8 v28.2.2))) fun v29=>
 bif (bif v26 then true else v29)then(lJ (some false))else(aJy (IntKind.i64.wrap (p20.2.2.2+1)) fun v30=>
 tN (p20.1,p20.2.1,p20.2.2.1,v30)))else(lJ (j19 ()))) (p16.1,p16.2,(aJO p16.1.2.2.2.2.2.2.2.2),0)) fun j17=>
 eG N (fun(p31:(Y1q0×(Y1q0×Y1q3)))=>
 aJy (decide (p31.2.2.2<p31.2.2.1)) fun v32=>
 bif v32 then((aEU p31.1.2.2.2.2.2.2.2.1 p31.2.2.2).bind fun v33=>
 (aEU p31.2.1.2.2.2.2.2.2.2.1 p31.2.2.2).bind fun v34=>
 aJy (true != ((v33.1==v34.1)&&((v33.2.1==v34.2.1)&&(v33.2.2==v34.2.2)))) fun v35=>
 bif v35 then(lJ (some false))else(aJy (IntKind.i64.wrap (p31.2.2.2+1)) fun v36=>
 tN (p31.1,p31.2.1,p31.2.2.1,v36)))else(lJ (j17 (p31.1,p31.2.1)))) (p14.1,p14.2,(aJO p14.1.2.2.2.2.2.2.2.1),0)) fun j15=>
 eG N (fun(p37:(Y1q0×(Y1q0×Y1q3)))=>
 aJy (decide (p37.2.2.2<p37.2.2.1)) fun v38=>
 bif v38 then((aEU p37.1.2.2.2.2.2.2.1 p37.2.2.2).bind fun v39=>
 (aEU p37.2.1.2.2.2.2.2.2.1 p37.2.2.2).bind fun v40=>
 aJy (true != ((v39.1==v40.1)&&(v39.2==v40.2))) fun v41=>
 bif v41 then(lJ (some false))else(aJy (IntKind.i64.wrap (p37.2.2.2+1)) fun v42=>
 tN (p37.1,p37.2.1,p37.2.2.1,v42)))else(lJ (j15 (p37.1,p37.2.1)))) (p12.1,p12.2,(aJO p12.1.2.2.2.2.2.2.1),0)) fun j13=>
 eG N (fun(p43:(Y1q0×(Y1q0×Y1q3)))=>
 aJy (decide (p43.2.2.2<p43.2.2.1)) fun v44=>
 bif v44 then((aEU p43.1.2.1 p43.2.2.2).bind fun v45=>
 (aEU p43.2.1.2.1 p43.2.2.2).bind fun v46=>
 (bif (!(true != (v45.1==v46.1)))then(aEU p43.1.2.1 p43.2.2.2)else some (false,([]:List Int))).bind fun v47=>
 (bif (!(true != (v45.1==v46.1)))then(aEU p43.2.1.2.1 p43.2.2.2)else some (false,([]:List Int))).bind fun v48=>
 (bif (!(true != (v45.1==v46.1)))then(n38 N (v47.2,v48.2))else some false).bind fun v49=>
 aJy (bif (true != (v45.1==v46.1))then true else(!v49)) fun v50=>
 bif v50 then(lJ (some false))else(aJy (IntKind.i64.wrap (p43.2.2.2+1)) fun v51=>
 tN (p43.1,p43.2.1,p43.2.2.1,v51)))else(lJ (j13 (p43.1,p43.2.1)))) (a0,a1,(aJO a0.2.1),0)):=by kernel_rfl
theorem e17(N:Nat)(a0:Int)(a1:Y1q0):n17 (N+1) (a0,a1)=
 (n44 N a1).bind fun v0=>
 aJy ([]:List Y1q6) fun v1=>
 aBJ (fun(p2:(Int×(Y1q0×(Y1q0×Y1q0))))=>
 aJy (aJO p2.2.1.2.2.2.2.2.2.2.1) fun v4=>
 aBJ (fun(p5:(Y1q0×Y1q0))=>
 some p5.2) fun j6=>
 eG N (fun(p7:(Int×(Y1q0×(Y1q0×(List Y1q6×Y1q3)))))=>
 aJy (decide (p7.2.2.2.2.2<p7.2.2.2.2.1)) fun v8=>
 bif v8 then(aBJ (fun(p9:(Int×(Y1q0×(Y1q0×(List Y1q6×Y1q3)))))=>
 aJy (IntKind.i64.wrap (p9.2.2.2.2.2+1)) fun v11=>
 tN (p9.1,p9.2.1,p9.2.2.1,p9.2.2.2.1,p9.2.2.2.2.1,v11)) fun j10=>
 (aEU p7.2.2.2.1 p7.2.2.2.2.2).bind fun v12=>
 aBJ (fun(p13:(Int×(Y1q0×(Y1q0×(List Y1q6×Y1q3)))))=>
 j10 (p13.1,p13.2.1,p13.2.2.1,p13.2.2.2.1,p13.2.2.2.2.1,p13.2.2.2.2.2)) fun j14=>
 bif (v12.1 != p7.1)then(aJy ([v12]:List Y1q6) fun v15=>
 (aH3 24 p7.2.2.1.2.2.2.2.2.2.2.1 v15).bind fun v16=>
 j14 (p7.1,p7.2.1,(p7.2.2.1.1,p7.2.2.1.2.1,p7.2.2.1.2.2.1,p7.2.2.1.2.2.2.1,p7.2.2.1.2.2.2.2.1,p7.2.2.1.2.2.2.2.2.1,p7.2.2.1.2.2.2.2.2.2.1,v16,p7.2.2.1.2.2.2.2.2.2.2.2),p7.2.2.2.1,p7.2.2.2.2.1,p7.2.2.2.2.2))else(j14 (p7.1,p7.2.1,p7.2.2.1,p7.2.2.2.1,p7.2.2.2.2.1,p7.2.2.2.2.2)))else(lJ (j6 (p7.2.1,p7.2.2.1)))) (p2.1,p2.2.2.1,p2.2.2.2,p2.2.1.2.2.2.2.2.2.2.1,v4,0)) fun j3=>
 eG N (fun(p17:Y1q13)=>
 aJy (decide (p17.2.2.2.2.2.2<p17.2.2.2.2.2.1)) fun v18=>
 bif v18 then(aBJ (fun(p19:Y1q13)=>
 aJy (IntKind.i64.wrap (p19.2.2.2.2.2.2+1)) fun v21=>
 tN (p19.1,p19.2.1,p19.2.2.1,p19.2.2.2.1,p19.2.2.2.2.1,p19.2.2.2.2.2.1,v21)) fun j20=>
 (aEU p17.2.2.2.2.1 p17.2.2.2.2.2.2).bind fun v22=>
 aJy (bif (v22.1 != 0)then(v22.1 != p17.1)else false) fun v23=>
 aBJ (fun(p24:Y1q13)=>
 j20 (p24.1,p24.2.1,p24.2.2.1,p24.2.2.2.1,p24.2.2.2.2.1,p24.2.2.2.2.2.1,p24.2.2.2.2.2.2)) fun j25=>
 bif v23 then((aH3 16 p17.2.2.2.1.2.2.2.2.2.2.1 ([v22]:List Y1q3)).bind fun v26=>
 j25 (p17.1,p17.2.1,p17.2.2.1,(p17.2.2.2.1.1,p17.2.2.2.1.2.1,p17.2.2.2.1.2.2.1,p17.2.2.2.1.2.2.2.1,p17.2.2.2.1.2.2.2.2.1,p17.2.2.2.1.2.2.2.2.2.1,v26,p17.2.2.2.1.2.2.2.2.2.2.2),p17.2.2.2.2.1,p17.2.2.2.2.2.1,p17.2.2.2.2.2.2))else(j25 (p17.1,p17.2.1,p17.2.2.1,p17.2.2.2.1,p17.2.2.2.2.1,p17.2.2.2.2.2.1,p17.2.2.2.2.2.2)))else(lJ (j3 (p17.1,p17.2.1,p17.2.2.1,p17.2.2.2.1)))) (a0,a1,(0,([]:List Y1q2),(false,0,0),0,0,0,([]:List Y1q3),([]:List Y1q6),([]:List Y1q7)),(v0.1,v0.2.1,v0.2.2.1,v0.2.2.2.1,v0.2.2.2.2.1,v0.2.2.2.2.2.1,([]:List Y1q3),v1,v0.2.2.2.2.2.2.2.2),a1.2.2.2.2.2.2.1,(aJO a1.2.2.2.2.2.2.1),0):=by kernel_rfl
theorem e24(N:Nat)(a0:List Y1q2):n24 (N+1) a0=
 aBJ (fun(p0:Int)=>
 some p0) fun j1=>
 eG N (fun(p2:(Int×Y1q10))=>
 aJy (decide (p2.2.2.2<p2.2.2.1)) fun v3=>
 bif v3 then(aBJ (fun(p4:(Int×Y1q10))=>
 aJy (IntKind.i64.wrap (p4.2.2.2+1)) fun v6=>
 tN (p4.1,p4.2.1,p4.2.2.1,v6)) fun j5=>
 (aEU p2.2.1 p2.2.2.2).bind fun v7=>
 aBJ (fun(p8:(Int×Y1q10))=>
 j5 (p8.1,p8.2.1,p8.2.2.1,p8.2.2.2)) fun j9=>
 bif v7.1 then(aJy (IntKind.i64.wrap (p2.1+1)) fun v10=>
 j9 (v10,p2.2.1,p2.2.2.1,p2.2.2.2))else(aJy (IntKind.i64.wrap (p2.1+(aJO v7.2))) fun v11=>
 j9 (v11,p2.2.1,p2.2.2.1,p2.2.2.2)))else(lJ (j1 p2.1))) (0,a0,(aJO a0),0):=by kernel_rfl
theorem e26(N:Nat)(a0:List Y1q2)(a1:Int):n26 (N+1) (a0,a1)=
 (n61 N a0).bind fun v0=>
 aBJ (fun(p1:Unit)=>
 some false) fun j2=>
 eG N (fun(p3:(Int×Y1q12))=>
 aJy (decide (p3.2.2.2<p3.2.2.1)) fun v4=>
 bif v4 then((aEU p3.2.1 p3.2.2.2).bind fun v5=>
 bif (v5==p3.1)then(lJ (some true))else(aJy (IntKind.i64.wrap (p3.2.2.2+1)) fun v6=>
 tN (p3.1,p3.2.1,p3.2.2.1,v6)))else(lJ (j2 ()))) (a1,v0,(aJO v0),0):=by kernel_rfl
theorem e27(N:Nat)(a0:Y1q9):n27 (N+1) a0=
 (n8 N (a0,8)).bind fun v0=>
 (n62 N v0.1).bind fun v1=>
 (n8 N (v0.2,8)).bind fun v2=>
 aBJ (fun(p3:Y1q5)=>
 some (p3.2.1,p3.2.2)) fun j4=>
 aBJ (fun(p5:Y1q5)=>
 j4 (p5.1,p5.2.1,p5.2.2)) fun j6=>
 bif (v2.1==6)then(aBJ (fun(p7:Y1q5)=>
 j6 (p7.1,p7.2.1,p7.2.2)) fun j8=>
 bif v1.1.1 then(j8 (((false,0,0),0),(v1.1,64),v2.2))else(j8 (((false,0,0),0),(v1.1,24),v2.2)))else(aBJ (fun(p9:Y1q5)=>
 j6 (p9.1,p9.2.1,p9.2.2)) fun j10=>
 bif (v2.1==7)then(aBJ (fun(p11:Y1q5)=>
 (n8 N (p11.2.2,3)).bind fun v13=>
 aJy (IntKind.u64.wrap (p11.2.1.1.2.2+(IntKind.u64.wrap v13.1))) fun v14=>
 j10 (p11.1,((p11.2.1.1.1,p11.2.1.1.2.1,v14),p11.2.1.2),v13.2)) fun j12=>
 bif v1.1.1 then(j12 (((false,0,0),0),(v1.1,128),v2.2))else(j12 (((false,0,0),0),(v1.1,32),v2.2)))else(j10 (((false,0,0),0),v1,v2.2))):=by kernel_rfl
theorem e29(N:Nat)(a0:Int)(a1:Y1q0)(a2:Int):n29 (N+1) (a0,a1,a2)=
 (n67 N (65535,65282,a1)).bind fun v0=>
 (n67 N (0,a2,v0.2)).bind fun v1=>
 (bif (!v1.1)then(n69 N (0,a2,v1.2,a0))else some (false,v1.2,a0)).bind fun v2=>
 aJy (bif v1.1 then true else v2.1) fun v3=>
 (n67 N (0,v2.2.2,v2.2.1)).bind fun v4=>
 (bif (!v4.1)then(n69 N (0,0,v4.2,v2.2.2))else some (false,v4.2,v2.2.2)).bind fun v5=>
 aJy (bif v4.1 then true else v5.1) fun v6=>
 (n67 N (v5.2.2,a2,v5.2.1)).bind fun v7=>
 (bif (!v7.1)then(n69 N (1,a2,v7.2,v5.2.2))else some (false,v7.2,v5.2.2)).bind fun v8=>
 aJy (bif v7.1 then true else v8.1) fun v9=>
 aJy ([a2,0]:List Int) fun v10=>
 aBJ (fun(p11:(Y1q4×Y1q4))=>
 some p11.2) fun j12=>
 eG N (fun(p13:(Y1q4×(Y1q4×Y1q8)))=>
 aJy (decide (p13.2.2.2.2.1<p13.2.2.2.1)) fun v14=>
 bif v14 then(aBJ (fun(p15:(Y1q4×(Y1q4×Y1q8)))=>
 aJy (IntKind.i64.wrap (p15.2.2.2.2.1+1)) fun v17=>
 tN (p15.1,p15.2.1,p15.2.2.1,p15.2.2.2.1,v17,p15.2.2.2.2.2.1,p15.2.2.2.2.2.2)) fun j16=>
 (aEU p13.2.2.1 p13.2.2.2.2.1).bind fun v18=>
 aBJ (fun(p19:(Y1q4×(Y1q4×Y1q8)))=>
 j16 (p19.1,p19.2.1,p19.2.2.1,p19.2.2.2.1,p19.2.2.2.2.1,p19.2.2.2.2.2.1,p19.2.2.2.2.2.2)) fun j20=>
 eG N (fun(p21:(Y1q4×(Y1q4×(Int×(Int×Y1q8)))))=>
 aJy (decide (p21.2.2.2.1>0)) fun v22=>
 aJy (p21.2.1.2.2.2.2==0) fun v23=>
 aJy (bif v22 then v23 else false) fun v24=>
 bif v24 then(aBJ (fun(p25:(Y1q4×(Y1q4×(Int×(Int×Y1q8)))))=>
 aJy (IntKind.i64.wrap (p25.2.2.2.1-1)) fun v27=>
 tN (p25.1,p25.2.1,p25.2.2.1,v27,p25.2.2.2.2.1,p25.2.2.2.2.2.1,p25.2.2.2.2.2.2.1,p25.2.2.2.2.2.2.2.1,p25.2.2.2.2.2.2.2.2)) fun j26=>
 aJy (IntKind.i64.wrap (100+p21.2.2.2.1)) fun v28=>
 (n69 N (v28,p21.2.2.1,p21.2.2.2.2.2.2.2.2,p21.2.2.2.2.2.2.2.1)).bind fun v29=>
 aBJ (fun(p30:(Y1q4×(Y1q4×(Int×(Int×Y1q8)))))=>
 j26 (p30.1,p30.2.1,p30.2.2.1,p30.2.2.2.1,p30.2.2.2.2.1,p30.2.2.2.2.2.1,p30.2.2.2.2.2.2.1,p30.2.2.2.2.2.2.2.1,p30.2.2.2.2.2.2.2.2)) fun j31=>
 bif v29.1 then(j31 (p21.1,(p21.2.1.1,p21.2.1.2.1,p21.2.1.2.2.1,p21.2.1.2.2.2.1,p21.2.2.2.1),p21.2.2.1,p21.2.2.2.1,p21.2.2.2.2.1,p21.2.2.2.2.2.1,p21.2.2.2.2.2.2.1,v29.2.2,v29.2.1))else(j31 (p21.1,p21.2.1,p21.2.2.1,p21.2.2.2.1,p21.2.2.2.2.1,p21.2.2.2.2.2.1,p21.2.2.2.2.2.2.1,v29.2.2,v29.2.1)))else(lJ (j20 (p21.1,p21.2.1,p21.2.2.2.2.1,p21.2.2.2.2.2.1,p21.2.2.2.2.2.2.1,p21.2.2.2.2.2.2.2.1,p21.2.2.2.2.2.2.2.2)))) (p13.1,p13.2.1,v18,3,p13.2.2.1,p13.2.2.2.1,p13.2.2.2.2.1,p13.2.2.2.2.2.1,p13.2.2.2.2.2.2))else(lJ (j12 (p13.1,p13.2.1)))) ((false,false,false,false,0),(v0.1,v3,v6,v9,0),v10,(aJO v10),0,v8.2.2,v8.2.1):=by kernel_rfl
theorem e30(N:Nat)(a0:List Int)(a1:Int):n30 (N+1) (a0,a1)=
 (n71 N (a0,a1)).bind fun v0=>
 some (decide (v0>=0)):=by kernel_rfl
theorem e31(N:Nat)(a0:Y1q0):n31 (N+1) a0=
 (n68 N (a0.2.2.2.2.2.2.1,65535,666)).bind fun v0=>
 some v0:=by kernel_rfl
theorem e32(N:Nat)(a0:List Y1q2):n32 (N+1) a0=
 aBJ (fun(p0:Int)=>
 some p0) fun j1=>
 eG N (fun(p2:(Int×Y1q10))=>
 aJy (decide (p2.2.2.2<p2.2.2.1)) fun v3=>
 bif v3 then(aBJ (fun(p4:(Int×Y1q10))=>
 aJy (IntKind.i64.wrap (p4.2.2.2+1)) fun v6=>
 tN (p4.1,p4.2.1,p4.2.2.1,v6)) fun j5=>
 (aEU p2.2.1 p2.2.2.2).bind fun v7=>
 aBJ (fun(p8:(Int×Y1q10))=>
 j5 (p8.1,p8.2.1,p8.2.2.1,p8.2.2.2)) fun j9=>
 bif v7.1 then(aJy (IntKind.i64.wrap (p2.1+1)) fun v10=>
 j9 (v10,p2.2.1,p2.2.2.1,p2.2.2.2))else(aJy (IntKind.i64.wrap (p2.1+(aJO v7.2))) fun v11=>
 j9 (v11,p2.2.1,p2.2.2.1,p2.2.2.2)))else(lJ (j1 p2.1))) (0,a0,(aJO a0),0):=by kernel_rfl
theorem e33(N:Nat)(a0:List Y1q2)(a1:Int):n33 (N+1) (a0,a1)=
 (n72 N a0).bind fun v0=>
 (n30 N (v0,a1)).bind fun v1=>
 some v1:=by kernel_rfl
theorem e34(N:Nat)(a0:List Y1q3)(a1:Y1q3):n34 (N+1) (a0,a1)=
 aBJ (fun(p0:Unit)=>
 some false) fun j1=>
 eG N (fun(p2:(Y1q3×(List Y1q3×Y1q3)))=>
 aJy (decide (p2.2.2.2<p2.2.2.1)) fun v3=>
 bif v3 then((aEU p2.2.1 p2.2.2.2).bind fun v4=>
 aJy (false != ((v4.1==p2.1.1)&&(v4.2==p2.1.2))) fun v5=>
 bif v5 then(lJ (some true))else(aJy (IntKind.i64.wrap (p2.2.2.2+1)) fun v6=>
 tN (p2.1,p2.2.1,p2.2.2.1,v6)))else(lJ (j1 ()))) (a1,a0,(aJO a0),0):=by kernel_rfl
theorem e35(N:Nat)(a0:Int)(a1:Y1q0)(a2:Int)(a3:Int)(a4:Int)(a5:Int):n35 (N+1) (a0,a1,a2,a3,a4,a5)=
 aJy (decide (a2<=65535)) fun v0=>
 aJy (decide (a3<=65535)) fun v1=>
 (bif (bif v0 then v1 else false)then(n34 N (a1.2.2.2.2.2.2.1,a2,a3))else some false).bind fun v2=>
 aJy (bif (bif v0 then v1 else false)then v2 else false) fun v3=>
 (bif (!v3)then(n37 N (a1.2.2.2.2.2.2.2.1,a0,a4,a5))else some false).bind fun v4=>
 some (bif v3 then true else v4):=by kernel_rfl
theorem e36(N:Nat)(a0:Y1q0):n36 (N+1) a0=
 (n34 N (a0.2.2.2.2.2.2.1,65535,666)).bind fun v0=>
 some v0:=by kernel_rfl
theorem e37(N:Nat)(a0:List Y1q6)(a1:Y1q6):n37 (N+1) (a0,a1)=
 aBJ (fun(p0:Unit)=>
 some false) fun j1=>
 eG N (fun(p2:(Y1q6×(List Y1q6×Y1q3)))=>
 aJy (decide (p2.2.2.2<p2.2.2.1)) fun v3=>
 bif v3 then((aEU p2.2.1 p2.2.2.2).bind fun v4=>
 aJy (false != ((v4.1==p2.1.1)&&((v4.2.1==p2.1.2.1)&&(v4.2.2==p2.1.2.2)))) fun v5=>
 bif v5 then(lJ (some true))else(aJy (IntKind.i64.wrap (p2.2.2.2+1)) fun v6=>
 tN (p2.1,p2.2.1,p2.2.2.1,v6)))else(lJ (j1 ()))) (a1,a0,(aJO a0),0):=by kernel_rfl
theorem e38(N:Nat)(a0:List Int)(a1:List Int):n38 (N+1) (a0,a1)=
 bif ((aJO a0) != (aJO a1))then(some false)else(aBJ (fun(p0:Unit)=>
 some true) fun j1=>
 eG N (fun(p2:(List Int×Y1q12))=>
 aJy (decide (p2.2.2.2<p2.2.2.1)) fun v3=>
 bif v3 then((aEU p2.1 p2.2.2.2).bind fun v4=>
 (aEU p2.2.1 p2.2.2.2).bind fun v5=>
 bif (v4 != v5)then(lJ (some false))else(aJy (IntKind.i64.wrap (p2.2.2.2+1)) fun v6=>
 tN (p2.1,p2.2.1,p2.2.2.1,v6)))else(lJ (j1 ()))) (a0,a1,(aJO a0),0)):=by kernel_rfl
theorem e39(N:Nat)(a0:Y1q0):n39 (N+1) a0=
 aJy ([]:List Y1q2) fun v0=>
 aJy ([]:List Y1q7) fun v1=>
 aBJ (fun(p2:(Y1q0×(Y1q0×List Y1q7)))=>
 aBJ (fun(p4:(Y1q0×Y1q0))=>
 (n75 N p4.1.2.2.2.2.2.2.1).bind fun v6=>
 (n76 N p4.1.2.2.2.2.2.2.2.1).bind fun v7=>
 some (p4.1.1,p4.1.2.1,p4.1.2.2.1,p4.1.2.2.2.1,p4.1.2.2.2.2.1,p4.1.2.2.2.2.2.1,v6,v7,p4.1.2.2.2.2.2.2.2.2)) fun j5=>
 eG N (fun(p8:(Y1q0×(Y1q0×(List Y1q7×Y1q3))))=>
 aJy (decide (p8.2.2.2.2<p8.2.2.2.1)) fun v9=>
 bif v9 then((aEU p8.2.2.1 p8.2.2.2.2).bind fun v10=>
 (n74 N v10.2.2).bind fun v11=>
 aJy ([(v10.1,v10.2.1,v11)]:List Y1q7) fun v12=>
 (aH3 40 p8.1.2.2.2.2.2.2.2.2 v12).bind fun v13=>
 aJy (IntKind.i64.wrap (p8.2.2.2.2+1)) fun v14=>
 tN ((p8.1.1,p8.1.2.1,p8.1.2.2.1,p8.1.2.2.2.1,p8.1.2.2.2.2.1,p8.1.2.2.2.2.2.1,p8.1.2.2.2.2.2.2.1,p8.1.2.2.2.2.2.2.2.1,v13),p8.2.1,p8.2.2.1,p8.2.2.2.1,v14))else(lJ (j5 (p8.1,p8.2.1)))) (p2.1,p2.2.1,p2.2.2,(aJO p2.2.2),0)) fun j3=>
 eG N (fun(p15:(Y1q0×(Y1q0×(List Y1q7×Y1q10))))=>
 aJy (decide (p15.2.2.2.2.2<p15.2.2.2.2.1)) fun v16=>
 bif v16 then((aEU p15.2.2.2.1 p15.2.2.2.2.2).bind fun v17=>
 (n73 N v17.2).bind fun v18=>
 aJy ([(v17.1,v18)]:List Y1q2) fun v19=>
 (aH3 32 p15.1.2.1 v19).bind fun v20=>
 aJy (IntKind.i64.wrap (p15.2.2.2.2.2+1)) fun v21=>
 tN ((p15.1.1,v20,p15.1.2.2),p15.2.1,p15.2.2.1,p15.2.2.2.1,p15.2.2.2.2.1,v21))else(lJ (j3 (p15.1,p15.2.1,p15.2.2.1)))) ((a0.1,v0,a0.2.2.1,a0.2.2.2.1,a0.2.2.2.2.1,a0.2.2.2.2.2.1,a0.2.2.2.2.2.2.1,a0.2.2.2.2.2.2.2.1,v1),(0,([]:List Y1q2),(false,0,0),0,0,0,([]:List Y1q3),([]:List Y1q6),([]:List Y1q7)),a0.2.2.2.2.2.2.2.2,a0.2.1,(aJO a0.2.1),0):=by kernel_rfl
theorem e44(N:Nat)(a0:Y1q0):n44 (N+1) a0=
 aJy ([]:List Y1q2) fun v0=>
 aJy ([]:List Y1q7) fun v1=>
 aBJ (fun(p2:(Y1q0×(Y1q0×Y1q0)))=>
 (aH3 16 ([]:List Y1q3) p2.1.2.2.2.2.2.2.1).bind fun v4=>
 (aH3 24 ([]:List Y1q6) p2.1.2.2.2.2.2.2.2.1).bind fun v5=>
 aBJ (fun(p6:(Y1q0×Y1q0))=>
 some p6.2) fun j7=>
 eG N (fun(p8:(Y1q0×(Y1q0×(List Y1q7×Y1q3))))=>
 aJy (decide (p8.2.2.2.2<p8.2.2.2.1)) fun v9=>
 bif v9 then((aEU p8.2.2.1 p8.2.2.2.2).bind fun v10=>
 (aH3 1 ([]:List Int) v10.2.2).bind fun v11=>
 aJy ([(v10.1,v10.2.1,v11)]:List Y1q7) fun v12=>
 (aH3 40 p8.2.1.2.2.2.2.2.2.2.2 v12).bind fun v13=>
 aJy (IntKind.i64.wrap (p8.2.2.2.2+1)) fun v14=>
 tN (p8.1,(p8.2.1.1,p8.2.1.2.1,p8.2.1.2.2.1,p8.2.1.2.2.2.1,p8.2.1.2.2.2.2.1,p8.2.1.2.2.2.2.2.1,p8.2.1.2.2.2.2.2.2.1,p8.2.1.2.2.2.2.2.2.2.1,v13),p8.2.2.1,p8.2.2.2.1,v14))else(lJ (j7 (p8.1,p8.2.1)))) (p2.2.1,(p2.2.2.1,p2.2.2.2.1,p2.2.2.2.2.1,p2.2.2.2.2.2.1,p2.2.2.2.2.2.2.1,p2.2.2.2.2.2.2.2.1,v4,v5,p2.2.2.2.2.2.2.2.2.2.2),p2.1.2.2.2.2.2.2.2.2,(aJO p2.1.2.2.2.2.2.2.2.2),0)) fun j3=>
 eG N (fun(p15:(Y1q0×(Y1q0×(Y1q0×Y1q10))))=>
 aJy (decide (p15.2.2.2.2.2<p15.2.2.2.2.1)) fun v16=>
 bif v16 then((aEU p15.2.2.2.1 p15.2.2.2.2.2).bind fun v17=>
 (aH3 8 ([]:List Int) v17.2).bind fun v18=>
 aJy ([(v17.1,v18)]:List Y1q2) fun v19=>
 (aH3 32 p15.2.2.1.2.1 v19).bind fun v20=>
 aJy (IntKind.i64.wrap (p15.2.2.2.2.2+1)) fun v21=>
 tN (p15.1,p15.2.1,(p15.2.2.1.1,v20,p15.2.2.1.2.2),p15.2.2.2.1,p15.2.2.2.2.1,v21))else(lJ (j3 (p15.1,p15.2.1,p15.2.2.1)))) (a0,(0,([]:List Y1q2),(false,0,0),0,0,0,([]:List Y1q3),([]:List Y1q6),([]:List Y1q7)),(a0.1,v0,a0.2.2.1,a0.2.2.2.1,a0.2.2.2.2.1,a0.2.2.2.2.2.1,a0.2.2.2.2.2.2.1,a0.2.2.2.2.2.2.2.1,v1),a0.2.1,(aJO a0.2.1),0):=by kernel_rfl
theorem e48(N:Nat)(a0:Y1q1):n48 (N+1) a0=
 (n45 N a0.1).bind fun v0=>
 aJy (decide (a0.2.2.2.2.1<0)) fun v1=>
 aJy (bif (!v0)then true else v1) fun v2=>
 aJy (decide (a0.2.2.2.2.1>60)) fun v3=>
 aJy (decide ((aJO a0.2.2.2.2.2.1)>64)) fun v4=>
 aJy (bif (bif v2 then true else v3)then true else v4) fun v5=>
 aJy (decide ((aJO a0.2.2.2.2.2.2)>64)) fun v6=>
 bif (bif v5 then true else v6)then(some 33)else(aBJ (fun(p7:Y1q1)=>
 aBJ (fun(p9:Unit)=>
 some 0) fun j10=>
 eG N (fun(p11:(Y1q1×(List Y1q3×Y1q3)))=>
 aJy (decide (p11.2.2.2<p11.2.2.1)) fun v12=>
 bif v12 then((aEU p11.2.1 p11.2.2.2).bind fun v13=>
 (n45 N v13.1).bind fun v14=>
 aJy (decide (p11.2.2.2>0)) fun v15=>
 aJy (IntKind.i64.wrap (p11.2.2.2-1)) fun v16=>
 (bif (v15&&(!(!v14)))then(aEU p11.1.2.2.2.2.2.2 v16)else some (0,0)).bind fun v17=>
 aJy (bif v15 then(decide (v17.1>=v13.1))else false) fun v18=>
 aJy (bif (!v14)then true else v18) fun v19=>
 aJy (decide (v13.2<(-1000))) fun v20=>
 aJy (decide (v13.2>1000)) fun v21=>
 aJy (bif (bif v19 then true else v20)then true else v21) fun v22=>
 bif v22 then(lJ (some 33))else(aJy (IntKind.i64.wrap (p11.2.2.2+1)) fun v23=>
 tN (p11.1,p11.2.1,p11.2.2.1,v23)))else(lJ (j10 ()))) (p7,p7.2.2.2.2.2.2,(aJO p7.2.2.2.2.2.2),0)) fun j8=>
 eG N (fun(p24:(Y1q1×Y1q12))=>
 aJy (decide (p24.2.2.2<p24.2.2.1)) fun v25=>
 bif v25 then((aEU p24.2.1 p24.2.2.2).bind fun v26=>
 (n45 N v26).bind fun v27=>
 aJy (decide (p24.2.2.2>0)) fun v28=>
 aJy (IntKind.i64.wrap (p24.2.2.2-1)) fun v29=>
 (bif (v28&&(!(!v27)))then(aEU p24.1.2.2.2.2.2.1 v29)else some 0).bind fun v30=>
 aJy (bif v28 then(decide (v30>=v26))else false) fun v31=>
 aJy (bif (!v27)then true else v31) fun v32=>
 bif v32 then(lJ (some 33))else(aJy (IntKind.i64.wrap (p24.2.2.2+1)) fun v33=>
 tN (p24.1,p24.2.1,p24.2.2.1,v33)))else(lJ (j8 p24.1))) (a0,a0.2.2.2.2.2.1,(aJO a0.2.2.2.2.2.1),0)):=by kernel_rfl
theorem e61(N:Nat)(a0:List Y1q2):n61 (N+1) a0=
 aBJ (fun(p0:List Int)=>
 some p0) fun j1=>
 eG N (fun(p2:(List Int×Y1q10))=>
 aJy (decide (p2.2.2.2<p2.2.2.1)) fun v3=>
 bif v3 then((aEU p2.2.1 p2.2.2.2).bind fun v4=>
 (aH3 8 p2.1 v4.2).bind fun v5=>
 aJy (IntKind.i64.wrap (p2.2.2.2+1)) fun v6=>
 tN (v5,p2.2.1,p2.2.2.1,v6))else(lJ (j1 p2.1))) (([]:List Int),a0,(aJO a0),0):=by kernel_rfl
theorem e62(N:Nat)(a0:Int):n62 (N+1) a0=
 bif (decide (a0>=6))then(aJy (aIc IntKind.u64 (IntKind.u64.wrap a0) 16) fun v0=>
 aJy (bits .or IntKind.u64 2306139568115548160 v0) fun v1=>
 some ((true,v1,0),48))else(aJy (aIc IntKind.u64 (IntKind.u64.wrap a0) 16) fun v2=>
 aJy (bits .or IntKind.u64 167772160 v2) fun v3=>
 some ((false,0,v3),16)):=by kernel_rfl
theorem e67(N:Nat)(a0:Int)(a1:Int)(a2:Y1q0):n67 (N+1) (a0,a1,a2)=
 (n68 N (a2.2.2.2.2.2.2.1,a0,a1)).bind fun v0=>
 some (v0,a2):=by kernel_rfl
theorem e68(N:Nat)(a0:List Y1q3)(a1:Y1q3):n68 (N+1) (a0,a1)=
 (n101 N (a0,a1)).bind fun v0=>
 some v0:=by kernel_rfl
theorem e69(N:Nat)(a0:Int)(a1:Int)(a2:Y1q0)(a3:Int):n69 (N+1) (a0,a1,a2,a3)=
 (n70 N (a2.2.2.2.2.2.2.2.1,a3,a0,a1)).bind fun v0=>
 some (v0,a2,a3):=by kernel_rfl
theorem e70(N:Nat)(a0:List Y1q6)(a1:Y1q6):n70 (N+1) (a0,a1)=
 (n102 N (a0,a1)).bind fun v0=>
 some v0:=by kernel_rfl
theorem e71(N:Nat)(a0:List Int)(a1:Int):n71 (N+1) (a0,a1)=
 aBJ (fun(p0:Unit)=>
 some (-1)) fun j1=>
 eG N (fun(p2:(List Int×(Int×Y1q3)))=>
 aJy (decide (p2.2.2.2<p2.2.2.1)) fun v3=>
 bif v3 then((aEU p2.1 p2.2.2.2).bind fun v4=>
 bif (p2.2.1==v4)then(lJ (some p2.2.2.2))else(aJy (IntKind.i64.wrap (p2.2.2.2+1)) fun v5=>
 tN (p2.1,p2.2.1,p2.2.2.1,v5)))else(lJ (j1 ()))) (a0,a1,(aJO a0),0):=by kernel_rfl
theorem e72(N:Nat)(a0:List Y1q2):n72 (N+1) a0=
 aBJ (fun(p0:List Int)=>
 some p0) fun j1=>
 eG N (fun(p2:(List Int×Y1q10))=>
 aJy (decide (p2.2.2.2<p2.2.2.1)) fun v3=>
 bif v3 then((aEU p2.2.1 p2.2.2.2).bind fun v4=>
 (aH3 8 p2.1 v4.2).bind fun v5=>
 aJy (IntKind.i64.wrap (p2.2.2.2+1)) fun v6=>
 tN (v5,p2.2.1,p2.2.2.1,v6))else(lJ (j1 p2.1))) (([]:List Int),a0,(aJO a0),0):=by kernel_rfl
theorem e73(N:Nat)(a0:List Int):n73 (N+1) a0=
 (aH3 8 ([]:List Int) a0).bind fun v0=>
 some v0:=by kernel_rfl
theorem e74(N:Nat)(a0:List Int):n74 (N+1) a0=
 (aH3 1 ([]:List Int) a0).bind fun v0=>
 some v0:=by kernel_rfl
theorem e75(N:Nat)(a0:List Y1q3):n75 (N+1) a0=
 (aH3 16 ([]:List Y1q3) a0).bind fun v0=>
 some v0:=by kernel_rfl
theorem e76(N:Nat)(a0:List Y1q6):n76 (N+1) a0=
 (aH3 24 ([]:List Y1q6) a0).bind fun v0=>
 some v0:=by kernel_rfl
theorem e83(N:Nat)(a0:List Y1q2):n83 (N+1) a0=
 aBJ (fun(p0:Int)=>
 some (decide (p0<=64))) fun j1=>
 eG N (fun(p2:(List Y1q2×(Int×Y1q10)))=>
 aJy (decide (p2.2.2.2.2<p2.2.2.2.1)) fun v3=>
 bif v3 then(aBJ (fun(p4:(List Y1q2×(Int×Y1q10)))=>
 aJy (IntKind.i64.wrap (p4.2.2.2.2+1)) fun v6=>
 tN (p4.1,p4.2.1,p4.2.2.1,p4.2.2.2.1,v6)) fun j5=>
 (aEU p2.2.2.1 p2.2.2.2.2).bind fun v7=>
 aJy (decide (p2.2.2.2.2>0)) fun v8=>
 aJy (bif v8 then(!v7.1)else false) fun v9=>
 aJy (IntKind.i64.wrap (p2.2.2.2.2-1)) fun v10=>
 (bif (v9&&(!((aJO v7.2)==0)))then(aEU p2.1 v10)else some (false,([]:List Int))).bind fun v11=>
 aJy (bif v9 then(!v11.1)else false) fun v12=>
 aJy (bif ((aJO v7.2)==0)then true else v12) fun v13=>
 bif v13 then(lJ (some false))else(aBJ (fun(p14:(List Y1q2×(Int×(Y1q2×Y1q10))))=>
 aJy (IntKind.i64.wrap (p14.2.1+(aJO p14.2.2.1.2))) fun v16=>
 j5 (p14.1,v16,p14.2.2.2.1,p14.2.2.2.2.1,p14.2.2.2.2.2)) fun j15=>
 eG N (fun(p17:(List Y1q2×(Int×(Y1q2×(List Y1q2×(Int×(Int×Y1q12)))))))=>
 aJy (decide (p17.2.2.2.2.2.2.2.2<p17.2.2.2.2.2.2.2.1)) fun v18=>
 bif v18 then((aEU p17.2.2.2.2.2.2.1 p17.2.2.2.2.2.2.2.2).bind fun v19=>
 (n84 N v19).bind fun v20=>
 aJy (decide (p17.2.2.2.2.2.2.2.2>0)) fun v21=>
 aJy (bif p17.2.2.1.1 then v21 else false) fun v22=>
 aJy (IntKind.i64.wrap (p17.2.2.2.2.2.2.2.2-1)) fun v23=>
 (bif (v22&&(!(!v20)))then(aEU p17.2.2.1.2 v23)else some 0).bind fun v24=>
 aJy (bif v22 then(decide (v24>=v19))else false) fun v25=>
 aJy (bif (!v20)then true else v25) fun v26=>
 bif v26 then(lJ (lJ (some false)))else(aJy (IntKind.i64.wrap (p17.2.2.2.2.2.2.2.2+1)) fun v27=>
 tN (p17.1,p17.2.1,p17.2.2.1,p17.2.2.2.1,p17.2.2.2.2.1,p17.2.2.2.2.2.1,p17.2.2.2.2.2.2.1,p17.2.2.2.2.2.2.2.1,v27)))else(lJ (j15 (p17.1,p17.2.1,p17.2.2.1,p17.2.2.2.1,p17.2.2.2.2.1,p17.2.2.2.2.2.1)))) (p2.1,p2.2.1,v7,p2.2.2.1,p2.2.2.2.1,p2.2.2.2.2,v7.2,(aJO v7.2),0)))else(lJ (j1 p2.2.1))) (a0,0,a0,(aJO a0),0):=by kernel_rfl
theorem e84(N:Nat)(a0:Int):n84 (N+1) a0=
 aJy (decide (a0<=4294967295)) fun v0=>
 aJy (bif (decide (a0>=1))then v0 else false) fun v1=>
 some v1:=by kernel_rfl
theorem e101(N:Nat)(a0:List Y1q3)(a1:Y1q3):n101 (N+1) (a0,a1)=
 (n121 N (a0,a1)).bind fun v0=>
 some (decide (v0>=0)):=by kernel_rfl
theorem e102(N:Nat)(a0:List Y1q6)(a1:Y1q6):n102 (N+1) (a0,a1)=
 (n122 N (a0,a1)).bind fun v0=>
 some (decide (v0>=0)):=by kernel_rfl
theorem e121(N:Nat)(a0:List Y1q3)(a1:Y1q3):n121 (N+1) (a0,a1)=
 aBJ (fun(p0:Unit)=>
 some (-1)) fun j1=>
 eG N (fun(p2:(List Y1q3×(Y1q3×Y1q3)))=>
 aJy (decide (p2.2.2.2<p2.2.2.1)) fun v3=>
 bif v3 then((aEU p2.1 p2.2.2.2).bind fun v4=>
 aJy (false != ((p2.2.1.1==v4.1)&&(p2.2.1.2==v4.2))) fun v5=>
 bif v5 then(lJ (some p2.2.2.2))else(aJy (IntKind.i64.wrap (p2.2.2.2+1)) fun v6=>
 tN (p2.1,p2.2.1,p2.2.2.1,v6)))else(lJ (j1 ()))) (a0,a1,(aJO a0),0):=by kernel_rfl
theorem e122(N:Nat)(a0:List Y1q6)(a1:Y1q6):n122 (N+1) (a0,a1)=
 aBJ (fun(p0:Unit)=>
 some (-1)) fun j1=>
 eG N (fun(p2:(List Y1q6×(Y1q6×Y1q3)))=>
 aJy (decide (p2.2.2.2<p2.2.2.1)) fun v3=>
 bif v3 then((aEU p2.1 p2.2.2.2).bind fun v4=>
 aJy (false != ((p2.2.1.1==v4.1)&&((p2.2.1.2.1==v4.2.1)&&(p2.2.1.2.2==v4.2.2)))) fun v5=>
 bif v5 then(lJ (some p2.2.2.2))else(aJy (IntKind.i64.wrap (p2.2.2.2+1)) fun v6=>
 tN (p2.1,p2.2.1,p2.2.2.1,v6)))else(lJ (j1 ()))) (a0,a1,(aJO a0),0):=by kernel_rfl
end Go.Proofs.YtgfmodmeimhhpaaGreatDoor
