/- The functions as they are read. -/
import Derived.Test.YtgfmodmeimhhpaaDoorNN
namespace Go.Proofs.YtgfmodmeimhhpaaDoor
open Go.VM
set_option maxRecDepth 100000
theorem e3 (N:Nat) (a0:(Int×Bool×Bool×Bool×Int×(List (Int))×(List ((Int×Int))))) (a1:List (Int)) (a2:Int) (a3:Int):n3 (N+1) (a0,a1,a2,a3) =
 aJy (decide ((aJO a0.2.2.2.2.2.1) > (100:Int))) fun v0 =>
 aJy (decide ((aJO a0.2.2.2.2.2.2) > (100:Int))) fun v1 =>
 bif (bif v0 then true else v1) then ((n5 N ()).bind fun v2 =>
 some v2) else ((n6 N a1).bind fun v3 =>
 (n7 N (v3,(101:Int))).bind fun v4 =>
 (n8 N v4.1).bind fun v5 =>
 (n9 N (a2,(6:Int))).bind fun v6 =>
 aBJ (fun (p7:((Int×Bool×Bool×Bool×Int×(List (Int))×(List ((Int×Int))))×((Int×Bool×Bool×Bool×Int×(List (Int))×(List ((Int×Int))))×(Int×Bool×Bool×Bool×Int×(List (Int))×(List ((Int×Int))))))) =>
 aJy ([p7.1,p7.2.1,p7.2.2]:List ((Int×Bool×Bool×Bool×Int×(List (Int))×(List ((Int×Int)))))) fun v9 =>
 aBJ (fun (p10:Unit) =>
 (n5 N ()).bind fun v12 =>
 some v12) fun j11 =>
 eG N (fun (p13:(List ((Int×Bool×Bool×Bool×Int×(List (Int))×(List ((Int×Int)))))×(Int×Int))) =>
 bif (decide (p13.2.2 < p13.2.1)) then ((aEU p13.1 p13.2.2).bind fun v14 =>
 (n10 N v14).bind fun v15 =>
 (n11 N v14).bind fun v16 =>
 bif (v15 != v16) then (lJ (some false)) else (aJy (IntKind.i64.wrap (p13.2.2+(1:Int))) fun v17 =>
 tN (p13.1,p13.2.1,v17))) else (lJ (j11 ()))) (v9,(aJO v9),(0:Int))) fun j8 =>
 aBJ (fun (p18:((Int×Bool×Bool×Bool×Int×(List (Int))×(List ((Int×Int))))×((Int×Bool×Bool×Bool×Int×(List (Int))×(List ((Int×Int))))×(Int×Bool×Bool×Bool×Int×(List (Int))×(List ((Int×Int))))))) =>
 j8 (p18.1,p18.2.1,p18.2.2)) fun j19 =>
 bif (v6==(0:Int)) then (j19 (a0,v4.1,a3,v5.2)) else (aBJ (fun (p20:((Int×Bool×Bool×Bool×Int×(List (Int))×(List ((Int×Int))))×((Int×Bool×Bool×Bool×Int×(List (Int))×(List ((Int×Int))))×(Int×Bool×Bool×Bool×Int×(List (Int))×(List ((Int×Int))))))) =>
 j19 (p20.1,p20.2.1,p20.2.2)) fun j21 =>
 bif (v6==(1:Int)) then ((n9 N (a3,(64:Int))).bind fun v22 =>
 aJy (IntKind.i64.wrap (v22 - (2:Int))) fun v23 =>
 j21 (a0,v4.1,v5.1,v5.2.1,v5.2.2.1,v5.2.2.2.1,v23,v5.2.2.2.2.2)) else (aBJ (fun (p24:((Int×Bool×Bool×Bool×Int×(List (Int))×(List ((Int×Int))))×((Int×Bool×Bool×Bool×Int×(List (Int))×(List ((Int×Int))))×(Int×Bool×Bool×Bool×Int×(List (Int))×(List ((Int×Int))))))) =>
 j21 (p24.1,p24.2.1,p24.2.2)) fun j25 =>
 bif (v6==(2:Int)) then ((n9 N (a3,(120:Int))).bind fun v26 =>
 aJy ([v26,(103:Int)]:List (Int)) fun v27 =>
 (aH3 8 v5.2.2.2.2.2.1 v27).bind fun v28 =>
 j25 (a0,v4.1,v5.1,v5.2.1,v5.2.2.1,v5.2.2.2.1,v5.2.2.2.2.1,v28,v5.2.2.2.2.2.2)) else (aBJ (fun (p29:((Int×Bool×Bool×Bool×Int×(List (Int))×(List ((Int×Int))))×((Int×Bool×Bool×Bool×Int×(List (Int))×(List ((Int×Int))))×(Int×Bool×Bool×Bool×Int×(List (Int))×(List ((Int×Int))))))) =>
 j25 (p29.1,p29.2.1,p29.2.2)) fun j30 =>
 bif (v6==(3:Int)) then ((n9 N (a3,(2004:Int))).bind fun v31 =>
 aJy (IntKind.i64.wrap (v31 - (1002:Int))) fun v32 =>
 aJy ([((106:Int),v32)]:List ((Int×Int))) fun v33 =>
 (aH3 16 v5.2.2.2.2.2.2 v33).bind fun v34 =>
 j30 (a0,v4.1,v5.1,v5.2.1,v5.2.2.1,v5.2.2.2.1,v5.2.2.2.2.1,v5.2.2.2.2.2.1,v34)) else (aBJ (fun (p35:((Int×Bool×Bool×Bool×Int×(List (Int))×(List ((Int×Int))))×((Int×Bool×Bool×Bool×Int×(List (Int))×(List ((Int×Int))))×(Int×Bool×Bool×Bool×Int×(List (Int))×(List ((Int×Int))))))) =>
 j30 (p35.1,p35.2.1,p35.2.2)) fun j36 =>
 bif (v6==(4:Int)) then ((n9 N (a3,(120:Int))).bind fun v37 =>
 aJy ([(v37,(0:Int))]:List ((Int×Int))) fun v38 =>
 (aH3 16 v5.2.2.2.2.2.2 v38).bind fun v39 =>
 j36 (a0,v4.1,v5.1,v5.2.1,v5.2.2.1,v5.2.2.2.1,v5.2.2.2.2.1,v5.2.2.2.2.2.1,v39)) else (j36 (a0,v4.1,v5))))))):=by kernel_rfl
theorem e5 (N:Nat):n5 (N+1) () =
 aJy ([(false,([(101:Int)]:List (Int)))]:List ((Bool×(List (Int))))) fun v0 =>
 aJy ([((0:Int),(102:Int)),((5:Int),(5:Int))]:List ((Int×Int))) fun v1 =>
 aJy ([]:List ((Int×Int×Int))) fun v2 =>
 aJy ([]:List ((Int×Int×(List (Int))))) fun v3 =>
 (n15 N ((99:Int),(((false,(0:Int),(0:Int)),(8:Int)),(101:Int),(0:Int),v0,(false,(0:Int),(0:Int)),(-1:Int),(7:Int),(-1:Int),v1,v2,v3),(103:Int),false,false,false,(0:Int),([]:List (Int)),([]:List ((Int×Int))))).bind fun v4 =>
 (n15 N ((99:Int),(((false,(0:Int),(0:Int)),(8:Int)),(101:Int),(0:Int),v0,(false,(0:Int),(0:Int)),(-1:Int),(7:Int),(-1:Int),v1,v2,v3),(102:Int),false,false,false,(0:Int),([]:List (Int)),([]:List ((Int×Int))))).bind fun v5 =>
 aJy (bif (v4.2.2==(0:Int)) then (v5.2.2==(0:Int)) else false) fun v6 =>
 aJy (bif v6 then (v4.2.1==(0:Int)) else false) fun v7 =>
 aJy (bif v7 then (v5.2.1==(3:Int)) else false) fun v8 =>
 aJy (v4.1.2.2.2.2.2.2.2.1==(99:Int)) fun v9 =>
 aJy (v4.1.2.2.2.2.2.2.1==(-1:Int)) fun v10 =>
 aJy (bif (bif v8 then v9 else false) then v10 else false) fun v11 =>
 aJy (aJO v4.1.2.2.2.2.2.2.2.2.1) fun v12 =>
 aJy (bif v11 then (v12==(1:Int)) else false) fun v13 =>
 some v13:=by kernel_rfl
theorem e6 (N:Nat) (a0:List (Int)):n6 (N+1) a0 =
 some (a0,(0:Int)):=by kernel_rfl
theorem e7 (N:Nat) (a0:((List (Int))×Int)) (a1:Int):n7 (N+1) (a0,a1) =
 (n13 N (a0,(2:Int))).bind fun v0 =>
 (n13 N (v0.2,(8:Int))).bind fun v1 =>
 aBJ (fun (p2:((Int×Bool×Bool×Bool×Int×(List (Int))×(List ((Int×Int))))×((Int×Bool×Bool×Bool×Int×(List (Int))×(List ((Int×Int))))×((List (Int))×Int)))) =>
 aBJ (fun (p4:((Int×Bool×Bool×Bool×Int×(List (Int))×(List ((Int×Int))))×((Int×Bool×Bool×Bool×Int×(List (Int))×(List ((Int×Int))))×((List (Int))×Int)))) =>
 some (p4.2.1,p4.2.2)) fun j5 =>
 eG N (fun (p6:((Int×Bool×Bool×Bool×Int×(List (Int))×(List ((Int×Int))))×((Int×Bool×Bool×Bool×Int×(List (Int))×(List ((Int×Int))))×(Int×((List (Int))×Int))))) =>
 aJy (decide (p6.2.2.1 < (5:Int))) fun v7 =>
 bif v7 then (aBJ (fun (p8:((Int×Bool×Bool×Bool×Int×(List (Int))×(List ((Int×Int))))×((Int×Bool×Bool×Bool×Int×(List (Int))×(List ((Int×Int))))×(Int×((List (Int))×Int))))) =>
 aJy (IntKind.i64.wrap (p8.2.2.1+(1:Int))) fun v10 =>
 tN (p8.1,p8.2.1,v10,p8.2.2.2)) fun j9 =>
 (n13 N (p6.2.2.2,(4:Int))).bind fun v11 =>
 aBJ (fun (p12:((Int×Bool×Bool×Bool×Int×(List (Int))×(List ((Int×Int))))×((Int×Bool×Bool×Bool×Int×(List (Int))×(List ((Int×Int))))×(Int×((List (Int))×Int))))) =>
 j9 (p12.1,p12.2.1,p12.2.2.1,p12.2.2.2)) fun j13 =>
 bif (v11.1==(0:Int)) then (aJy (IntKind.i64.wrap ((101:Int)+p6.2.2.1)) fun v14 =>
 (n13 N (v11.2,(5:Int))).bind fun v15 =>
 aJy (IntKind.i64.wrap (v15.1 - (2:Int))) fun v16 =>
 aJy ([(v14,v16)]:List ((Int×Int))) fun v17 =>
 (aH3 16 p6.2.1.2.2.2.2.2.2 v17).bind fun v18 =>
 j13 (p6.1,(p6.2.1.1,p6.2.1.2.1,p6.2.1.2.2.1,p6.2.1.2.2.2.1,p6.2.1.2.2.2.2.1,p6.2.1.2.2.2.2.2.1,v18),p6.2.2.1,v15.2)) else (j13 (p6.1,p6.2.1,p6.2.2.1,v11.2))) else (lJ (j5 (p6.1,p6.2.1,p6.2.2.2)))) (p2.1,p2.2.1,(0:Int),p2.2.2)) fun j3 =>
 aBJ (fun (p19:((Int×Bool×Bool×Bool×Int×(List (Int))×(List ((Int×Int))))×((Int×Bool×Bool×Bool×Int×(List (Int))×(List ((Int×Int))))×((List (Int))×Int)))) =>
 j3 (p19.1,p19.2.1,p19.2.2)) fun j20 =>
 bif (v1.1==(0:Int)) then (j20 (((0:Int),false,false,false,(0:Int),([]:List (Int)),([]:List ((Int×Int)))),(a1,true,false,(v0.1==(0:Int)),(0:Int),([]:List (Int)),([]:List ((Int×Int)))),v1.2)) else (aBJ (fun (p21:((Int×Bool×Bool×Bool×Int×(List (Int))×(List ((Int×Int))))×((Int×Bool×Bool×Bool×Int×(List (Int))×(List ((Int×Int))))×((List (Int))×Int)))) =>
 j20 (p21.1,p21.2.1,p21.2.2)) fun j22 =>
 bif (v1.1==(1:Int)) then (j22 (((0:Int),false,false,false,(0:Int),([]:List (Int)),([]:List ((Int×Int)))),(a1,false,true,(v0.1==(0:Int)),(0:Int),([]:List (Int)),([]:List ((Int×Int)))),v1.2)) else (aBJ (fun (p23:((Int×Bool×Bool×Bool×Int×(List (Int))×(List ((Int×Int))))×((Int×Bool×Bool×Bool×Int×(List (Int))×(List ((Int×Int))))×((List (Int))×Int)))) =>
 j22 (p23.1,p23.2.1,p23.2.2)) fun j24 =>
 bif (v1.1==(2:Int)) then ((n13 N (v1.2,(4:Int))).bind fun v25 =>
 aJy (IntKind.i64.wrap ((1:Int)+v25.1)) fun v26 =>
 j24 (((0:Int),false,false,false,(0:Int),([]:List (Int)),([]:List ((Int×Int)))),(a1,false,false,(v0.1==(0:Int)),v26,([]:List (Int)),([]:List ((Int×Int)))),v25.2)) else (aBJ (fun (p27:((Int×Bool×Bool×Bool×Int×(List (Int))×(List ((Int×Int))))×((Int×Bool×Bool×Bool×Int×(List (Int))×(List ((Int×Int))))×((List (Int))×Int)))) =>
 j24 (p27.1,p27.2.1,p27.2.2)) fun j28 =>
 bif (v1.1==(3:Int)) then ((n13 N (v1.2,(4:Int))).bind fun v29 =>
 aJy (IntKind.i64.wrap ((101:Int)+v29.1)) fun v30 =>
 j28 (((0:Int),false,false,false,(0:Int),([]:List (Int)),([]:List ((Int×Int)))),(a1,false,false,(v0.1==(0:Int)),(0:Int),([v30]:List (Int)),([]:List ((Int×Int)))),v29.2)) else (j28 (((0:Int),false,false,false,(0:Int),([]:List (Int)),([]:List ((Int×Int)))),(a1,false,false,(v0.1==(0:Int)),(0:Int),([]:List (Int)),([]:List ((Int×Int)))),v1.2))))):=by kernel_rfl
theorem e8 (N:Nat) (a0:(Int×Bool×Bool×Bool×Int×(List (Int))×(List ((Int×Int))))):n8 (N+1) a0 =
 (aH3 8 ([]:List (Int)) a0.2.2.2.2.2.1).bind fun v0 =>
 (aH3 16 ([]:List ((Int×Int))) a0.2.2.2.2.2.2).bind fun v1 =>
 some (a0.1,a0.2.1,a0.2.2.1,a0.2.2.2.1,a0.2.2.2.2.1,v0,v1):=by kernel_rfl
theorem e9 (N:Nat) (a0:Int) (a1:Int):n9 (N+1) (a0,a1) =
 (if a1=0 then none else some (Int.tmod a0 a1)).bind fun v0 =>
 aBJ (fun (p1:Int) =>
 some p1) fun j2 =>
 bif (decide (v0 < (0:Int))) then (j2 (IntKind.i64.wrap (v0+a1))) else (j2 v0):=by kernel_rfl
theorem e10 (N:Nat) (a0:(Int×Bool×Bool×Bool×Int×(List (Int))×(List ((Int×Int))))):n10 (N+1) a0 =
 (n17 N a0.1).bind fun v0 =>
 aJy (decide (a0.2.2.2.2.1 < (0:Int))) fun v1 =>
 aJy (bif (!v0) then true else v1) fun v2 =>
 aJy (decide (a0.2.2.2.2.1 > (60:Int))) fun v3 =>
 aJy (decide ((aJO a0.2.2.2.2.2.1) > (64:Int))) fun v4 =>
 aJy (bif (bif v2 then true else v3) then true else v4) fun v5 =>
 aJy (decide ((aJO a0.2.2.2.2.2.2) > (64:Int))) fun v6 =>
 bif (bif v5 then true else v6) then (some (33:Int)) else (aBJ (fun (p7:(Int×Bool×Bool×Bool×Int×(List (Int))×(List ((Int×Int))))) =>
 aBJ (fun (p9:Unit) =>
 some (0:Int)) fun j10 =>
 eG N (fun (p11:((Int×Bool×Bool×Bool×Int×(List (Int))×(List ((Int×Int))))×(List ((Int×Int))×(Int×Int)))) =>
 aJy (decide (p11.2.2.2 < p11.2.2.1)) fun v12 =>
 bif v12 then ((aEU p11.2.1 p11.2.2.2).bind fun v13 =>
 (n17 N v13.1).bind fun v14 =>
 aJy (decide (p11.2.2.2 > (0:Int))) fun v15 =>
 aJy (IntKind.i64.wrap (p11.2.2.2 - (1:Int))) fun v16 =>
 (bif (v15&&(!(!v14))) then (aEU p11.1.2.2.2.2.2.2 v16) else some ((0:Int),(0:Int))).bind fun v17 =>
 aJy (bif v15 then (decide (v17.1≥v13.1)) else false) fun v18 =>
 aJy (bif (!v14) then true else v18) fun v19 =>
 aJy (decide (v13.2 < (-1000:Int))) fun v20 =>
 aJy (decide (v13.2 > (1000:Int))) fun v21 =>
 aJy (bif (bif v19 then true else v20) then true else v21) fun v22 =>
 bif v22 then (lJ (some (33:Int))) else (aJy (IntKind.i64.wrap (p11.2.2.2+(1:Int))) fun v23 =>
 tN (p11.1,p11.2.1,p11.2.2.1,v23))) else (lJ (j10 ()))) (p7,p7.2.2.2.2.2.2,(aJO p7.2.2.2.2.2.2),(0:Int))) fun j8 =>
 eG N (fun (p24:((Int×Bool×Bool×Bool×Int×(List (Int))×(List ((Int×Int))))×(List (Int)×(Int×Int)))) =>
 aJy (decide (p24.2.2.2 < p24.2.2.1)) fun v25 =>
 bif v25 then ((aEU p24.2.1 p24.2.2.2).bind fun v26 =>
 (n17 N v26).bind fun v27 =>
 aJy (decide (p24.2.2.2 > (0:Int))) fun v28 =>
 aJy (IntKind.i64.wrap (p24.2.2.2 - (1:Int))) fun v29 =>
 (bif (v28&&(!(!v27))) then (aEU p24.1.2.2.2.2.2.1 v29) else some (0:Int)).bind fun v30 =>
 aJy (bif v28 then (decide (v30≥v26)) else false) fun v31 =>
 aJy (bif (!v27) then true else v31) fun v32 =>
 bif v32 then (lJ (some (33:Int))) else (aJy (IntKind.i64.wrap (p24.2.2.2+(1:Int))) fun v33 =>
 tN (p24.1,p24.2.1,p24.2.2.1,v33))) else (lJ (j8 p24.1))) (a0,a0.2.2.2.2.2.1,(aJO a0.2.2.2.2.2.1),(0:Int))):=by kernel_rfl
theorem e11 (N:Nat) (a0:(Int×Bool×Bool×Bool×Int×(List (Int))×(List ((Int×Int))))):n11 (N+1) a0 =
 (n18 N a0.1).bind fun v0 =>
 aJy (decide (a0.2.2.2.2.1≥(0:Int))) fun v1 =>
 aJy (decide (a0.2.2.2.2.1≤(60:Int))) fun v2 =>
 aJy (bif (bif v0 then v1 else false) then v2 else false) fun v3 =>
 aJy (decide ((aJO a0.2.2.2.2.2.1)≤(64:Int))) fun v4 =>
 aJy (decide ((aJO a0.2.2.2.2.2.2)≤(64:Int))) fun v5 =>
 aJy (bif (bif v3 then v4 else false) then v5 else false) fun v6 =>
 aBJ (fun (p7:((Int×Bool×Bool×Bool×Int×(List (Int))×(List ((Int×Int))))×Bool)) =>
 aBJ (fun (p9:Bool) =>
 bif (!p9) then (some (33:Int)) else (some (0:Int))) fun j10 =>
 eG N (fun (p11:((Int×Bool×Bool×Bool×Int×(List (Int))×(List ((Int×Int))))×(Bool×(List ((Int×Int))×(Int×Int))))) =>
 aJy (decide (p11.2.2.2.2 < p11.2.2.2.1)) fun v12 =>
 bif v12 then ((aEU p11.2.2.1 p11.2.2.2.2).bind fun v13 =>
 (bif p11.2.1 then (n18 N v13.1) else some false).bind fun v14 =>
 aJy (bif p11.2.1 then v14 else false) fun v15 =>
 aJy (IntKind.i64.wrap (p11.2.2.2.2 - (1:Int))) fun v16 =>
 (bif ((!(p11.2.2.2.2==(0:Int)))&&v15) then (aEU p11.1.2.2.2.2.2.2 v16) else some ((0:Int),(0:Int))).bind fun v17 =>
 aJy (bif (p11.2.2.2.2==(0:Int)) then true else (decide (v17.1 < v13.1))) fun v18 =>
 aJy (bif v15 then v18 else false) fun v19 =>
 aJy (decide (v13.2≥(-1000:Int))) fun v20 =>
 aJy (bif v19 then v20 else false) fun v21 =>
 aJy (decide (v13.2≤(1000:Int))) fun v22 =>
 aJy (bif v21 then v22 else false) fun v23 =>
 aJy (IntKind.i64.wrap (p11.2.2.2.2+(1:Int))) fun v24 =>
 tN (p11.1,v23,p11.2.2.1,p11.2.2.2.1,v24)) else (lJ (j10 p11.2.1))) (p7.1,p7.2,p7.1.2.2.2.2.2.2,(aJO p7.1.2.2.2.2.2.2),(0:Int))) fun j8 =>
 eG N (fun (p25:((Int×Bool×Bool×Bool×Int×(List (Int))×(List ((Int×Int))))×(Bool×(List (Int)×(Int×Int))))) =>
 aJy (decide (p25.2.2.2.2 < p25.2.2.2.1)) fun v26 =>
 bif v26 then ((aEU p25.2.2.1 p25.2.2.2.2).bind fun v27 =>
 (bif p25.2.1 then (n18 N v27) else some false).bind fun v28 =>
 aJy (bif p25.2.1 then v28 else false) fun v29 =>
 aJy (IntKind.i64.wrap (p25.2.2.2.2 - (1:Int))) fun v30 =>
 (bif ((!(p25.2.2.2.2==(0:Int)))&&v29) then (aEU p25.1.2.2.2.2.2.1 v30) else some (0:Int)).bind fun v31 =>
 aJy (bif (p25.2.2.2.2==(0:Int)) then true else (decide (v31 < v27))) fun v32 =>
 aJy (bif v29 then v32 else false) fun v33 =>
 aJy (IntKind.i64.wrap (p25.2.2.2.2+(1:Int))) fun v34 =>
 tN (p25.1,v33,p25.2.2.1,p25.2.2.2.1,v34)) else (lJ (j8 (p25.1,p25.2.1)))) (a0,v6,a0.2.2.2.2.2.1,(aJO a0.2.2.2.2.2.1),(0:Int)):=by kernel_rfl
theorem e13 (N:Nat) (a0:((List (Int))×Int)) (a1:Int):n13 (N+1) (a0,a1) =
 aJy (decide (a0.2≥(aJO a0.1))) fun v0 =>
 bif v0 then (some ((0:Int),a0)) else (aJy (IntKind.i64.wrap (a0.2+(1:Int))) fun v1 =>
 aJy (IntKind.i64.wrap (v1 - (1:Int))) fun v2 =>
 (aEU a0.1 v2).bind fun v3 =>
 (n9 N (v3,a1)).bind fun v4 =>
 some (v4,a0.1,v1)):=by kernel_rfl
theorem e17 (N:Nat) (a0:Int):n17 (N+1) a0 =
 aJy (decide (a0≤(4294967295:Int))) fun v0 =>
 aJy (bif (decide (a0≥(1:Int))) then v0 else false) fun v1 =>
 some v1:=by kernel_rfl
theorem e18 (N:Nat) (a0:Int):n18 (N+1) a0 =
 aJy (decide (a0≤(4294967295:Int))) fun v0 =>
 aJy (bif (decide (a0≥(1:Int))) then v0 else false) fun v1 =>
 some v1:=by kernel_rfl
theorem e38 (N:Nat) (a0:List ((Bool×(List (Int))))):n38 (N+1) a0 =
 aBJ (fun (p0:Int) =>
 some (decide (p0≤(64:Int)))) fun j1 =>
 eG N (fun (p2:(List ((Bool×(List (Int))))×(Int×(List ((Bool×(List (Int))))×(Int×Int))))) =>
 aJy (decide (p2.2.2.2.2 < p2.2.2.2.1)) fun v3 =>
 bif v3 then (aBJ (fun (p4:(List ((Bool×(List (Int))))×(Int×(List ((Bool×(List (Int))))×(Int×Int))))) =>
 aJy (IntKind.i64.wrap (p4.2.2.2.2+(1:Int))) fun v6 =>
 tN (p4.1,p4.2.1,p4.2.2.1,p4.2.2.2.1,v6)) fun j5 =>
 (aEU p2.2.2.1 p2.2.2.2.2).bind fun v7 =>
 aJy (decide (p2.2.2.2.2 > (0:Int))) fun v8 =>
 aJy (bif v8 then (!v7.1) else false) fun v9 =>
 aJy (IntKind.i64.wrap (p2.2.2.2.2 - (1:Int))) fun v10 =>
 (bif (v9&&(!((aJO v7.2)==(0:Int)))) then (aEU p2.1 v10) else some (false,([]:List (Int)))).bind fun v11 =>
 aJy (bif v9 then (!v11.1) else false) fun v12 =>
 aJy (bif ((aJO v7.2)==(0:Int)) then true else v12) fun v13 =>
 bif v13 then (lJ (some false)) else (aBJ (fun (p14:(List ((Bool×(List (Int))))×(Int×((Bool×(List (Int)))×(List ((Bool×(List (Int))))×(Int×Int)))))) =>
 aJy (IntKind.i64.wrap (p14.2.1+(aJO p14.2.2.1.2))) fun v16 =>
 j5 (p14.1,v16,p14.2.2.2.1,p14.2.2.2.2.1,p14.2.2.2.2.2)) fun j15 =>
 eG N (fun (p17:(List ((Bool×(List (Int))))×(Int×((Bool×(List (Int)))×(List ((Bool×(List (Int))))×(Int×(Int×(List (Int)×(Int×Int))))))))) =>
 aJy (decide (p17.2.2.2.2.2.2.2.2 < p17.2.2.2.2.2.2.2.1)) fun v18 =>
 bif v18 then ((aEU p17.2.2.2.2.2.2.1 p17.2.2.2.2.2.2.2.2).bind fun v19 =>
 (n39 N v19).bind fun v20 =>
 aJy (decide (p17.2.2.2.2.2.2.2.2 > (0:Int))) fun v21 =>
 aJy (bif p17.2.2.1.1 then v21 else false) fun v22 =>
 aJy (IntKind.i64.wrap (p17.2.2.2.2.2.2.2.2 - (1:Int))) fun v23 =>
 (bif (v22&&(!(!v20))) then (aEU p17.2.2.1.2 v23) else some (0:Int)).bind fun v24 =>
 aJy (bif v22 then (decide (v24≥v19)) else false) fun v25 =>
 aJy (bif (!v20) then true else v25) fun v26 =>
 bif v26 then (lJ (lJ (some false))) else (aJy (IntKind.i64.wrap (p17.2.2.2.2.2.2.2.2+(1:Int))) fun v27 =>
 tN (p17.1,p17.2.1,p17.2.2.1,p17.2.2.2.1,p17.2.2.2.2.1,p17.2.2.2.2.2.1,p17.2.2.2.2.2.2.1,p17.2.2.2.2.2.2.2.1,v27))) else (lJ (j15 (p17.1,p17.2.1,p17.2.2.1,p17.2.2.2.1,p17.2.2.2.2.1,p17.2.2.2.2.2.1)))) (p2.1,p2.2.1,v7,p2.2.2.1,p2.2.2.2.1,p2.2.2.2.2,v7.2,(aJO v7.2),(0:Int)))) else (lJ (j1 p2.2.1))) (a0,(0:Int),a0,(aJO a0),(0:Int)):=by kernel_rfl
theorem e39 (N:Nat) (a0:Int):n39 (N+1) a0 =
 aJy (decide (a0≤(4294967295:Int))) fun v0 =>
 aJy (bif (decide (a0≥(1:Int))) then v0 else false) fun v1 =>
 some v1:=by kernel_rfl
theorem e48 (N:Nat) (a0:List ((Bool×(List (Int))))):n48 (N+1) a0 =
 aBJ (fun (p0:List (Int)) =>
 some p0) fun j1 =>
 eG N (fun (p2:(List (Int)×(List ((Bool×(List (Int))))×(Int×Int)))) =>
 aJy (decide (p2.2.2.2 < p2.2.2.1)) fun v3 =>
 bif v3 then ((aEU p2.2.1 p2.2.2.2).bind fun v4 =>
 (aH3 8 p2.1 v4.2).bind fun v5 =>
 aJy (IntKind.i64.wrap (p2.2.2.2+(1:Int))) fun v6 =>
 tN (v5,p2.2.1,p2.2.2.1,v6)) else (lJ (j1 p2.1))) (([]:List (Int)),a0,(aJO a0),(0:Int)):=by kernel_rfl
theorem e52 (N:Nat) (a0:(Int×(List ((Bool×(List (Int)))))×(Bool×Int×Int)×Int×Int×Int×(List ((Int×Int)))×(List ((Int×Int×Int)))×(List ((Int×Int×(List (Int))))))):n52 (N+1) a0 =
 aJy ([]:List ((Bool×(List (Int))))) fun v0 =>
 aJy ([]:List ((Int×Int×(List (Int))))) fun v1 =>
 aBJ (fun (p2:((Int×(List ((Bool×(List (Int)))))×(Bool×Int×Int)×Int×Int×Int×(List ((Int×Int)))×(List ((Int×Int×Int)))×(List ((Int×Int×(List (Int))))))×((Int×(List ((Bool×(List (Int)))))×(Bool×Int×Int)×Int×Int×Int×(List ((Int×Int)))×(List ((Int×Int×Int)))×(List ((Int×Int×(List (Int))))))×List ((Int×Int×(List (Int))))))) =>
 aBJ (fun (p4:((Int×(List ((Bool×(List (Int)))))×(Bool×Int×Int)×Int×Int×Int×(List ((Int×Int)))×(List ((Int×Int×Int)))×(List ((Int×Int×(List (Int))))))×(Int×(List ((Bool×(List (Int)))))×(Bool×Int×Int)×Int×Int×Int×(List ((Int×Int)))×(List ((Int×Int×Int)))×(List ((Int×Int×(List (Int)))))))) =>
 (n80 N p4.1.2.2.2.2.2.2.1).bind fun v6 =>
 (n81 N p4.1.2.2.2.2.2.2.2.1).bind fun v7 =>
 some (p4.1.1,p4.1.2.1,p4.1.2.2.1,p4.1.2.2.2.1,p4.1.2.2.2.2.1,p4.1.2.2.2.2.2.1,v6,v7,p4.1.2.2.2.2.2.2.2.2)) fun j5 =>
 eG N (fun (p8:((Int×(List ((Bool×(List (Int)))))×(Bool×Int×Int)×Int×Int×Int×(List ((Int×Int)))×(List ((Int×Int×Int)))×(List ((Int×Int×(List (Int))))))×((Int×(List ((Bool×(List (Int)))))×(Bool×Int×Int)×Int×Int×Int×(List ((Int×Int)))×(List ((Int×Int×Int)))×(List ((Int×Int×(List (Int))))))×(List ((Int×Int×(List (Int))))×(Int×Int))))) =>
 aJy (decide (p8.2.2.2.2 < p8.2.2.2.1)) fun v9 =>
 bif v9 then ((aEU p8.2.2.1 p8.2.2.2.2).bind fun v10 =>
 (n79 N v10.2.2).bind fun v11 =>
 aJy ([(v10.1,v10.2.1,v11)]:List ((Int×Int×(List (Int))))) fun v12 =>
 (aH3 40 p8.1.2.2.2.2.2.2.2.2 v12).bind fun v13 =>
 aJy (IntKind.i64.wrap (p8.2.2.2.2+(1:Int))) fun v14 =>
 tN ((p8.1.1,p8.1.2.1,p8.1.2.2.1,p8.1.2.2.2.1,p8.1.2.2.2.2.1,p8.1.2.2.2.2.2.1,p8.1.2.2.2.2.2.2.1,p8.1.2.2.2.2.2.2.2.1,v13),p8.2.1,p8.2.2.1,p8.2.2.2.1,v14)) else (lJ (j5 (p8.1,p8.2.1)))) (p2.1,p2.2.1,p2.2.2,(aJO p2.2.2),(0:Int))) fun j3 =>
 eG N (fun (p15:((Int×(List ((Bool×(List (Int)))))×(Bool×Int×Int)×Int×Int×Int×(List ((Int×Int)))×(List ((Int×Int×Int)))×(List ((Int×Int×(List (Int))))))×((Int×(List ((Bool×(List (Int)))))×(Bool×Int×Int)×Int×Int×Int×(List ((Int×Int)))×(List ((Int×Int×Int)))×(List ((Int×Int×(List (Int))))))×(List ((Int×Int×(List (Int))))×(List ((Bool×(List (Int))))×(Int×Int)))))) =>
 aJy (decide (p15.2.2.2.2.2 < p15.2.2.2.2.1)) fun v16 =>
 bif v16 then ((aEU p15.2.2.2.1 p15.2.2.2.2.2).bind fun v17 =>
 (n78 N v17.2).bind fun v18 =>
 aJy ([(v17.1,v18)]:List ((Bool×(List (Int))))) fun v19 =>
 (aH3 32 p15.1.2.1 v19).bind fun v20 =>
 aJy (IntKind.i64.wrap (p15.2.2.2.2.2+(1:Int))) fun v21 =>
 tN ((p15.1.1,v20,p15.1.2.2),p15.2.1,p15.2.2.1,p15.2.2.2.1,p15.2.2.2.2.1,v21)) else (lJ (j3 (p15.1,p15.2.1,p15.2.2.1)))) ((a0.1,v0,a0.2.2.1,a0.2.2.2.1,a0.2.2.2.2.1,a0.2.2.2.2.2.1,a0.2.2.2.2.2.2.1,a0.2.2.2.2.2.2.2.1,v1),((0:Int),([]:List ((Bool×(List (Int))))),(false,(0:Int),(0:Int)),(0:Int),(0:Int),(0:Int),([]:List ((Int×Int))),([]:List ((Int×Int×Int))),([]:List ((Int×Int×(List (Int)))))),a0.2.2.2.2.2.2.2.2,a0.2.1,(aJO a0.2.1),(0:Int)):=by kernel_rfl
theorem e78 (N:Nat) (a0:List (Int)):n78 (N+1) a0 =
 (aH3 8 ([]:List (Int)) a0).bind fun v0 =>
 some v0:=by kernel_rfl
theorem e79 (N:Nat) (a0:List (Int)):n79 (N+1) a0 =
 (aH3 1 ([]:List (Int)) a0).bind fun v0 =>
 some v0:=by kernel_rfl
theorem e80 (N:Nat) (a0:List ((Int×Int))):n80 (N+1) a0 =
 (aH3 16 ([]:List ((Int×Int))) a0).bind fun v0 =>
 some v0:=by kernel_rfl
theorem e81 (N:Nat) (a0:List ((Int×Int×Int))):n81 (N+1) a0 =
 (aH3 24 ([]:List ((Int×Int×Int))) a0).bind fun v0 =>
 some v0:=by kernel_rfl
end Go.Proofs.YtgfmodmeimhhpaaDoor
