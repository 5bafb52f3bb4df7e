/- The functions as they are read. -/
import Derived.Test.YtfglhfbnbdmhfaaDoorNN
namespace Go.Proofs.YtfglhfbnbdmhfaaDoor
open Go.VM
set_option maxRecDepth 100000
theorem e3 (N:Nat) (a0:List (Int)):n3 (N+1) a0 =
 (n8 N a0).bind fun v0 =>
 (n9 N v0).bind fun v1 =>
 (n10 N (true,v1.1.2)).bind fun v2 =>
 (n11 N (true,v1.1.2)).bind fun v3 =>
 (bif (!((nLen v3) != (16:Int))) then (n12 N (v2,([58,58]:List UInt8))) else some (0:Int)).bind fun v4 =>
 letK (bif ((nLen v3) != (16:Int)) then true else (decide (v4 > (1:Int)))) fun v5 =>
 (bif (!v5) then (n13 N (v2,([58,58,58]:List UInt8))) else some false).bind fun v6 =>
 bif (bif v5 then true else v6) then (some false) else (joinK (fun (p7:(List UInt8×Int)) =>
 (n14 N (p7.1,([58]:List UInt8))).bind fun v9 =>
 joinK (fun (p10:(List UInt8×(Int×Int))) =>
 letK (decide (p10.2.1 < (2:Int))) fun v12 =>
 bif v12 then ((bif (p10.2.2==(8:Int)) then (n13 N (p10.1,([58,58]:List UInt8))) else some false).bind fun v13 =>
 letK (bif (p10.2.2==(8:Int)) then (!v13) else false) fun v14 =>
 (bif v14 then (n15 N ()) else some false).bind fun v15 =>
 letK (bif v14 then v15 else false) fun v16 =>
 some v16) else (letK (IntKind.i64.wrap ((8:Int) - p10.2.1)) fun v17 =>
 (bif (p10.2.2==v17) then (n13 N (p10.1,([58,58]:List UInt8))) else some false).bind fun v18 =>
 letK (bif (p10.2.2==v17) then v18 else false) fun v19 =>
 (bif v19 then (n15 N ()) else some false).bind fun v20 =>
 letK (bif v19 then v20 else false) fun v21 =>
 some v21)) fun j11 =>
 loopN N (fun (p22:(List UInt8×(Int×(Int×(List (List UInt8)×(Int×Int)))))) =>
 letK (decide (p22.2.2.2.2.2 < p22.2.2.2.2.1)) fun v23 =>
 bif v23 then (joinK (fun (p24:(List UInt8×(Int×(Int×(List (List UInt8)×(Int×Int)))))) =>
 letK (IntKind.i64.wrap (p24.2.2.2.2.2+(1:Int))) fun v26 =>
 again (p24.1,p24.2.1,p24.2.2.1,p24.2.2.2.1,p24.2.2.2.2.1,v26)) fun j25 =>
 (nIdx p22.2.2.2.1 p22.2.2.2.2.2).bind fun v27 =>
 letK (!(v27==([]:List UInt8))) fun v28 =>
 joinK (fun (p29:(List UInt8×(Int×(Int×(List (List UInt8)×(Int×Int)))))) =>
 j25 (p29.1,p29.2.1,p29.2.2.1,p29.2.2.2.1,p29.2.2.2.2.1,p29.2.2.2.2.2)) fun j30 =>
 bif v28 then (letK (IntKind.i64.wrap (p22.2.2.1+(1:Int))) fun v31 =>
 j30 (p22.1,p22.2.1,v31,p22.2.2.2.1,p22.2.2.2.2.1,p22.2.2.2.2.2)) else (j30 (p22.1,p22.2.1,p22.2.2.1,p22.2.2.2.1,p22.2.2.2.2.1,p22.2.2.2.2.2))) else (leave (j11 (p22.1,p22.2.1,p22.2.2.1)))) (p7.1,p7.2,(0:Int),v9,(nLen v9),(0:Int))) fun j8 =>
 loopN N (fun (p32:(List UInt8×(List (Int)×(Int×(Int×Int))))) =>
 letK (decide (p32.2.2.2.2 < (8:Int))) fun v33 =>
 bif v33 then (letK (IntKind.i64.wrap ((2:Int) * p32.2.2.2.2)) fun v34 =>
 (nIdx p32.2.1 v34).bind fun v35 =>
 letK (IntKind.i64.wrap ((2:Int) * p32.2.2.2.2)) fun v36 =>
 letK (IntKind.i64.wrap (v36+(1:Int))) fun v37 =>
 (bif (v35==(0:Int)) then (nIdx p32.2.1 v37) else some (0:Int)).bind fun v38 =>
 letK (bif (v35==(0:Int)) then (v38==(0:Int)) else false) fun v39 =>
 joinK (fun (p40:(List UInt8×(List (Int)×(Int×(Int×Int))))) =>
 letK (mmT true p40.2.2.2.1 p40.2.2.1) fun v42 =>
 letK (IntKind.i64.wrap (p40.2.2.2.2+(1:Int))) fun v43 =>
 again (p40.1,p40.2.1,p40.2.2.1,v42,v43)) fun j41 =>
 bif v39 then (letK (IntKind.i64.wrap (p32.2.2.1+(1:Int))) fun v44 =>
 j41 (p32.1,p32.2.1,v44,p32.2.2.2.1,p32.2.2.2.2)) else (j41 (p32.1,p32.2.1,(0:Int),p32.2.2.2.1,p32.2.2.2.2))) else (leave (j8 (p32.1,p32.2.2.2.1)))) (v2,v3,(0:Int),(0:Int),(0:Int))):=by kernel_rfl
theorem e4 (N:Nat) (a0:List (Int)) (a1:Int):n4 (N+1) (a0,a1) =
 (n8 N a0).bind fun v0 =>
 (n9 N v0).bind fun v1 =>
 (n16 N (a1,(30:Int))).bind fun v2 =>
 joinK (fun (p3:((Bool×Int×Int)×((Bool×Int×Int)×Int))) =>
 letK (IntKind.u64.wrap (p3.1.2.2+(IntKind.u64.wrap p3.2.2))) fun v5 =>
 joinK (fun (p6:((Bool×Int×Int)×((Bool×Int×Int)×(Int×Int)))) =>
 letK (IntKind.u64.wrap (p6.1.2.1+p6.2.2.2)) fun v8 =>
 letK (false != ((p6.2.1.1==p6.1.1)&&((p6.2.1.2.1==v8)&&(p6.2.1.2.2==p6.2.2.1)))) fun v9 =>
 (bif v9 then (n15 N ()) else some false).bind fun v10 =>
 some (bif v9 then v10 else false)) fun j7 =>
 bif (decide (v5 < p3.1.2.2)) then (j7 (p3.1,p3.2.1,v5,(1:Int))) else (j7 (p3.1,p3.2.1,v5,(0:Int)))) fun j4 =>
 loopN N (fun (p11:((Bool×Int×Int)×((Bool×Int×Int)×(Int×(Int×Int))))) =>
 letK (decide (p11.2.2.2.2 < p11.2.2.2.1)) fun v12 =>
 bif v12 then ((n17 N p11.2.1).bind fun v13 =>
 bif (!v13.2) then (letK (p11.2.1.2.1==(18446744073709551615:Int)) fun v14 =>
 letK (bif p11.2.1.1 then v14 else false) fun v15 =>
 letK (p11.2.1.2.2==(18446744073709551615:Int)) fun v16 =>
 letK (bif v15 then v16 else false) fun v17 =>
 letK (p11.2.1.2.2==(4294967295:Int)) fun v18 =>
 letK (bif (!p11.2.1.1) then v18 else false) fun v19 =>
 (bif (bif v17 then true else v19) then (n15 N ()) else some false).bind fun v20 =>
 letK (bif (bif v17 then true else v19) then v20 else false) fun v21 =>
 leave (some v21)) else (letK (IntKind.i64.wrap (p11.2.2.2.2+(1:Int))) fun v22 =>
 again (p11.1,v13.1,p11.2.2.1,p11.2.2.2.1,v22))) else (leave (j4 (p11.1,p11.2.1,p11.2.2.1)))) (v1.1,v1.1,v2,v2,(0:Int)):=by kernel_rfl
theorem e5 (N:Nat) (a0:List (Int)):n5 (N+1) a0 =
 (n8 N a0).bind fun v0 =>
 (n9 N v0).bind fun v1 =>
 (n9 N v1.2).bind fun v2 =>
 (n9 N v2.2).bind fun v3 =>
 (n18 N (v1.1,v2.1)).bind fun v4 =>
 (n18 N (v2.1,v1.1)).bind fun v5 =>
 letK (v4 != (IntKind.i64.wrap (0 - v5))) fun v6 =>
 (bif (!v6) then (n18 N (v1.1,v2.1)) else some (0:Int)).bind fun v7 =>
 letK (false != ((v1.1.1==v2.1.1)&&((v1.1.2.1==v2.1.2.1)&&(v1.1.2.2==v2.1.2.2)))) fun v8 =>
 letK (true != ((v7==(0:Int))==v8)) fun v9 =>
 (bif (!(bif v6 then true else v9)) then (n18 N (v1.1,v2.1)) else some (0:Int)).bind fun v10 =>
 (bif ((decide (v10 < (0:Int)))&&(!(bif v6 then true else v9))) then (n18 N (v2.1,v3.1)) else some (0:Int)).bind fun v11 =>
 letK (bif (decide (v10 < (0:Int))) then (decide (v11 < (0:Int))) else false) fun v12 =>
 (bif (v12&&(!(bif v6 then true else v9))) then (n18 N (v1.1,v3.1)) else some (0:Int)).bind fun v13 =>
 letK (bif v12 then (decide (v13≥(0:Int))) else false) fun v14 =>
 letK (bif (bif v6 then true else v9) then true else v14) fun v15 =>
 bif v15 then (some false) else (letK (false != (v1.1.1==v2.1.1)) fun v16 =>
 (bif v16 then (n18 N (v1.1,v2.1)) else some (0:Int)).bind fun v17 =>
 (bif v16 then (n11 N v1.1) else some ([]:List (Int))).bind fun v18 =>
 (bif v16 then (n11 N v2.1) else some ([]:List (Int))).bind fun v19 =>
 letK (Op.bytesLess (nStr v18) (nStr v19)) fun v20 =>
 letK (true != ((decide (v17 < (0:Int)))==v20)) fun v21 =>
 letK (bif v16 then v21 else false) fun v22 =>
 letK (bif (!v1.1.1) then v2.1.1 else false) fun v23 =>
 (bif (v23&&(!v22)) then (n18 N (v1.1,v2.1)) else some (0:Int)).bind fun v24 =>
 letK (bif v23 then (decide (v24≥(0:Int))) else false) fun v25 =>
 bif (bif v22 then true else v25) then (some false) else ((n17 N v1.1).bind fun v26 =>
 bif (!v26.2) then (letK (false != ((v26.1.1==false)&&((v26.1.2.1==(0:Int))&&(v26.1.2.2==(0:Int))))) fun v27 =>
 (bif ((!(true != (v1.1.1==v2.1.1)))&&v27) then (n18 N (v2.1,v1.1)) else some (0:Int)).bind fun v28 =>
 letK (bif (true != (v1.1.1==v2.1.1)) then true else (decide (v28≤(0:Int)))) fun v29 =>
 letK (bif v27 then v29 else false) fun v30 =>
 (bif v30 then (n15 N ()) else some false).bind fun v31 =>
 letK (bif v30 then v31 else false) fun v32 =>
 some v32) else (letK (false != (v26.1.1==v1.1.1)) fun v33 =>
 (bif v33 then (n18 N (v1.1,v26.1)) else some (0:Int)).bind fun v34 =>
 letK (bif v33 then (decide (v34 < (0:Int))) else false) fun v35 =>
 (bif v35 then (n18 N (v2.1,v1.1)) else some (0:Int)).bind fun v36 =>
 (bif ((!(decide (v36≤(0:Int))))&&v35) then (n18 N (v2.1,v26.1)) else some (0:Int)).bind fun v37 =>
 letK (bif (decide (v36≤(0:Int))) then true else (decide (v37≥(0:Int)))) fun v38 =>
 letK (bif v35 then v38 else false) fun v39 =>
 (bif v39 then (n15 N ()) else some false).bind fun v40 =>
 letK (bif v39 then v40 else false) fun v41 =>
 some v41))):=by kernel_rfl
theorem e6 (N:Nat) (a0:(Bool×Int×Int)) (a1:List (Int)) (a2:List (Int)):n6 (N+1) (a0,a1,a2) =
 (n19 N a1).bind fun v0 =>
 bif (!v0) then ((n15 N ()).bind fun v1 =>
 some v1) else ((n8 N a2).bind fun v2 =>
 (n9 N v2).bind fun v3 =>
 (n9 N v3.2).bind fun v4 =>
 (n20 N a0).bind fun v5 =>
 (n21 N a0).bind fun v6 =>
 (bif (!(true != (v5==v6))) then (n11 N a0) else some ([]:List (Int))).bind fun v7 =>
 (bif (!(true != (v5==v6))) then (n22 N a0) else some ([]:List (Int))).bind fun v8 =>
 letK (bif (true != (v5==v6)) then true else (!((nStr v7)==(nStr v8)))) fun v9 =>
 bif v9 then (some false) else (letK ([(v3.1,v4.1),(v4.1,v3.1),(v3.1,v3.1)]:List (((Bool×Int×Int)×(Bool×Int×Int)))) fun v10 =>
 joinK (fun (p11:(List (Int)×((Bool×Int×Int)×(Bool×Int×Int)))) =>
 (n22 N p11.2.1).bind fun v13 =>
 (n22 N p11.2.2).bind fun v14 =>
 (nApp 1 v14 ([(1:Int)]:List (Int))).bind fun v15 =>
 letK (mmT false (4:Int) (nLen p11.1)) fun v16 =>
 (nTake p11.1 v16).bind fun v17 =>
 letK (mmT false (16:Int) (nLen p11.1)) fun v18 =>
 (nTake p11.1 v18).bind fun v19 =>
 letK ([p11.1,v13,v15,v17,v19]:List (List (Int))) fun v20 =>
 joinK (fun (p21:Unit) =>
 (n15 N ()).bind fun v23 =>
 some v23) fun j22 =>
 loopN N (fun (p24:(List (List (Int))×(Int×Int))) =>
 bif (decide (p24.2.2 < p24.2.1)) then ((nIdx p24.1 p24.2.2).bind fun v25 =>
 (n25 N v25).bind fun v26 =>
 (n26 N v25).bind fun v27 =>
 letK (true != ((v26.1.1==v27.1.1)&&((v26.1.2.1==v27.1.2.1)&&(v26.1.2.2==v27.1.2.2)))) fun v28 =>
 letK (bif v28 then true else (v26.2 != v27.2)) fun v29 =>
 bif v29 then (leave (some false)) else (letK (IntKind.i64.wrap (p24.2.2+(1:Int))) fun v30 =>
 again (p24.1,p24.2.1,v30))) else (leave (j22 ()))) (v20,(nLen v20),(0:Int))) fun j12 =>
 loopN N (fun (p31:(List (Int)×((Bool×Int×Int)×((Bool×Int×Int)×(List (((Bool×Int×Int)×(Bool×Int×Int)))×(Int×Int)))))) =>
 letK (decide (p31.2.2.2.2.2 < p31.2.2.2.2.1)) fun v32 =>
 bif v32 then ((nIdx p31.2.2.2.1 p31.2.2.2.2.2).bind fun v33 =>
 (n17 N v33.1).bind fun v34 =>
 (n23 N v33.1).bind fun v35 =>
 (n18 N (v33.1,v33.2)).bind fun v36 =>
 (n24 N (v33.1,v33.2)).bind fun v37 =>
 letK (true != ((v34.1.1==v35.1.1)&&((v34.1.2.1==v35.1.2.1)&&(v34.1.2.2==v35.1.2.2)))) fun v38 =>
 letK (bif (v36 != v37) then true else v38) fun v39 =>
 letK (bif v39 then true else (true != (v34.2==v35.2))) fun v40 =>
 (bif (!v40) then (n11 N v33.1) else some ([]:List (Int))).bind fun v41 =>
 (bif (!v40) then (n22 N v33.1) else some ([]:List (Int))).bind fun v42 =>
 letK (!((nStr v41)==(nStr v42))) fun v43 =>
 bif (bif v40 then true else v43) then (leave (some false)) else (letK (IntKind.i64.wrap (p31.2.2.2.2.2+(1:Int))) fun v44 =>
 again (p31.1,p31.2.1,p31.2.2.1,p31.2.2.2.1,p31.2.2.2.2.1,v44))) else (leave (j12 (p31.1,p31.2.1,p31.2.2.1)))) (a1,v3.1,v4.1,v10,(nLen v10),(0:Int)))):=by kernel_rfl
theorem e7 (N:Nat) (a0:List (Int)) (a1:List UInt8):n7 (N+1) (a0,a1) =
 letK (decide ((nLen a1) > (600:Int))) fun v0 =>
 bif v0 then ((n15 N ()).bind fun v1 =>
 some v1) else ((n8 N a0).bind fun v2 =>
 (n9 N v2).bind fun v3 =>
 (n9 N v3.2).bind fun v4 =>
 (n10 N v3.1).bind fun v5 =>
 (n27 N v5).bind fun v6 =>
 (n11 N v3.1).bind fun v7 =>
 (n25 N v7).bind fun v8 =>
 letK (bif (v6.2 != (0:Int)) then true else (v8.2 != (0:Int))) fun v9 =>
 letK (true != ((v6.1.1==v3.1.1)&&((v6.1.2.1==v3.1.2.1)&&(v6.1.2.2==v3.1.2.2)))) fun v10 =>
 letK (true != ((v8.1.1==v3.1.1)&&((v8.1.2.1==v3.1.2.1)&&(v8.1.2.2==v3.1.2.2)))) fun v11 =>
 letK (bif (bif v9 then true else v10) then true else v11) fun v12 =>
 (bif (!v12) then (n10 N v3.1) else some ([]:List UInt8)).bind fun v13 =>
 (bif (!v12) then (n10 N v4.1) else some ([]:List UInt8)).bind fun v14 =>
 letK (false != ((v3.1.1==v4.1.1)&&((v3.1.2.1==v4.1.2.1)&&(v3.1.2.2==v4.1.2.2)))) fun v15 =>
 letK (true != ((v13==v14)==v15)) fun v16 =>
 bif (bif v12 then true else v16) then (some false) else ((n28 N v4.2).bind fun v17 =>
 letK ([a1,v17.1]:List (List UInt8)) fun v18 =>
 joinK (fun (p19:Unit) =>
 (n15 N ()).bind fun v21 =>
 some v21) fun j20 =>
 loopN N (fun (p22:(List (List UInt8)×(Int×Int))) =>
 bif (decide (p22.2.2 < p22.2.1)) then (joinK (fun (p23:(List (List UInt8)×(Int×Int))) =>
 letK (IntKind.i64.wrap (p23.2.2+(1:Int))) fun v25 =>
 again (p23.1,p23.2.1,v25)) fun j24 =>
 (nIdx p22.1 p22.2.2).bind fun v26 =>
 (n27 N v26).bind fun v27 =>
 bif (v27.2 != (0:Int)) then (j24 (p22.1,p22.2.1,p22.2.2)) else ((n10 N v27.1).bind fun v28 =>
 (n27 N v28).bind fun v29 =>
 letK (true != ((v29.1.1==v27.1.1)&&((v29.1.2.1==v27.1.2.1)&&(v29.1.2.2==v27.1.2.2)))) fun v30 =>
 letK (bif (v29.2 != (0:Int)) then true else v30) fun v31 =>
 (bif (!v31) then (n10 N v27.1) else some ([]:List UInt8)).bind fun v32 =>
 letK (decide ((nLen v32) > (39:Int))) fun v33 =>
 (bif (!(bif v31 then true else v33)) then (n10 N v27.1) else some ([]:List UInt8)).bind fun v34 =>
 (bif (!(bif v31 then true else v33)) then (n29 N v34) else some ([]:List UInt8)).bind fun v35 =>
 (bif (!(bif v31 then true else v33)) then (n10 N v27.1) else some ([]:List UInt8)).bind fun v36 =>
 letK (bif (bif v31 then true else v33) then true else (!(v35==v36))) fun v37 =>
 bif v37 then (leave (some false)) else (j24 (p22.1,p22.2.1,p22.2.2)))) else (leave (j20 ()))) (v18,(nLen v18),(0:Int)))):=by kernel_rfl
theorem e8 (N:Nat) (a0:List (Int)):n8 (N+1) a0 =
 some (a0,(0:Int)):=by kernel_rfl
theorem e9 (N:Nat) (a0:((List (Int))×Int)):n9 (N+1) a0 =
 (n30 N (a0,(6:Int))).bind fun v0 =>
 bif (v0.1==(0:Int)) then ((n30 N (v0.2,(8:Int))).bind fun v1 =>
 letK (IntKind.i64.wrap ((167772160:Int)+(nShl IntKind.i64 v1.1 8))) fun v2 =>
 (n30 N (v1.2,(4:Int))).bind fun v3 =>
 letK (IntKind.i64.wrap (v2+v3.1)) fun v4 =>
 some ((false,(0:Int),(IntKind.u64.wrap v4)),v3.2)) else (bif (v0.1==(1:Int)) then ((n30 N (v0.2,(4:Int))).bind fun v5 =>
 letK (IntKind.u64.wrap ((2306139568115548160:Int)+(IntKind.u64.wrap v5.1))) fun v6 =>
 (n30 N (v5.2,(8:Int))).bind fun v7 =>
 some ((true,v6,(IntKind.u64.wrap v7.1)),v7.2)) else (bif (v0.1==(2:Int)) then (letK ([(0:Int),(1:Int),(4294967295:Int),(2147483647:Int),(2147483648:Int)]:List (Int)) fun v8 =>
 (n30 N (v0.2,(5:Int))).bind fun v9 =>
 (nIdx v8 v9.1).bind fun v10 =>
 some ((false,(0:Int),v10),v9.2)) else (bif (v0.1==(3:Int)) then (letK ([(0:Int),(1:Int),(18446744073709551615:Int),(9223372036854775808:Int)]:List (Int)) fun v11 =>
 (n30 N (v0.2,(4:Int))).bind fun v12 =>
 (nIdx v11 v12.1).bind fun v13 =>
 letK ([(0:Int),(1:Int),(18446744073709551615:Int),(9223372036854775808:Int)]:List (Int)) fun v14 =>
 (n30 N (v12.2,(4:Int))).bind fun v15 =>
 (nIdx v14 v15.1).bind fun v16 =>
 some ((true,v13,v16),v15.2)) else (bif (v0.1==(4:Int)) then ((n30 N (v0.2,(1073741824:Int))).bind fun v17 =>
 (n30 N (v17.2,(5:Int))).bind fun v18 =>
 letK (IntKind.i64.wrap (v18.1 * (8:Int))) fun v19 =>
 (if (IntKind.u64.wrap v19) < 0 then none else some (nShl IntKind.u64 (IntKind.u64.wrap v17.1) (IntKind.u64.wrap v19).toNat)).bind fun v20 =>
 (n30 N (v18.2,(1073741824:Int))).bind fun v21 =>
 (n30 N (v21.2,(5:Int))).bind fun v22 =>
 letK (IntKind.i64.wrap (v22.1 * (8:Int))) fun v23 =>
 (if (IntKind.u64.wrap v23) < 0 then none else some (nShl IntKind.u64 (IntKind.u64.wrap v21.1) (IntKind.u64.wrap v23).toNat)).bind fun v24 =>
 some ((true,v20,v24),v22.2)) else ((n30 N (v0.2,(1073741824:Int))).bind fun v25 =>
 some ((false,(0:Int),(IntKind.u64.wrap v25.1)),v25.2)))))):=by kernel_rfl
theorem e10 (N:Nat) (a0:(Bool×Int×Int)):n10 (N+1) a0 =
 bif (!a0.1) then ((n11 N a0).bind fun v0 =>
 joinK (fun (p1:List (List UInt8)) =>
 (n32 N (p1,([46]:List UInt8))).bind fun v3 =>
 some v3) fun j2 =>
 loopN N (fun (p4:(List (List UInt8)×(List (Int)×(Int×Int)))) =>
 letK (decide (p4.2.2.2 < p4.2.2.1)) fun v5 =>
 bif v5 then ((nIdx p4.2.1 p4.2.2.2).bind fun v6 =>
 (n31 N (IntKind.i64.wrap v6)).bind fun v7 =>
 (nApp 16 p4.1 ([v7]:List (List UInt8))).bind fun v8 =>
 letK (IntKind.i64.wrap (p4.2.2.2+(1:Int))) fun v9 =>
 again (v8,p4.2.1,p4.2.2.1,v9)) else (leave (j2 p4.1))) (([]:List (List UInt8)),v0,(nLen v0),(0:Int))) else ((n33 N a0).bind fun v10 =>
 (n34 N v10).bind fun v11 =>
 bif (v11.2==(0:Int)) then ((some ([v10.1,v10.2.1,v10.2.2.1,v10.2.2.2.1,v10.2.2.2.2.1,v10.2.2.2.2.2.1,v10.2.2.2.2.2.2.1,v10.2.2.2.2.2.2.2]:List (Int))).bind fun v12 =>
 (n35 N v12).bind fun v13 =>
 some v13) else ((nTake ([v10.1,v10.2.1,v10.2.2.1,v10.2.2.2.1,v10.2.2.2.2.1,v10.2.2.2.2.2.1,v10.2.2.2.2.2.2.1,v10.2.2.2.2.2.2.2]:List (Int)) v11.1).bind fun v14 =>
 (n35 N v14).bind fun v15 =>
 (nCat v15 ([58,58]:List UInt8)).bind fun v16 =>
 letK (IntKind.i64.wrap (v11.1+v11.2)) fun v17 =>
 (nDrop ([v10.1,v10.2.1,v10.2.2.1,v10.2.2.2.1,v10.2.2.2.2.1,v10.2.2.2.2.2.1,v10.2.2.2.2.2.2.1,v10.2.2.2.2.2.2.2]:List (Int)) v17).bind fun v18 =>
 (n35 N v18).bind fun v19 =>
 (nCat v16 v19).bind fun v20 =>
 some v20)):=by kernel_rfl
theorem e11 (N:Nat) (a0:(Bool×Int×Int)):n11 (N+1) a0 =
 (n20 N a0).bind fun v0 =>
 bif (!v0) then (some ([]:List (Int))) else (joinK (fun (p1:((Bool×Int×Int)×Int)) =>
 (nMake 1 (0:Int) p1.2 p1.2).bind fun v3 =>
 letK (IntKind.i64.wrap (p1.2 - (1:Int))) fun v4 =>
 joinK (fun (p5:List (Int)) =>
 some p5) fun j6 =>
 loopN N (fun (p7:((Bool×Int×Int)×(List (Int)×Int))) =>
 letK (decide (p7.2.2≥(0:Int))) fun v8 =>
 bif v8 then ((nIdx p7.2.1 p7.2.2).bind fun v9 =>
 letK (p7.2.1.set p7.2.2.toNat (IntKind.u8.wrap p7.1.2.2)) fun v10 =>
 letK (nShr IntKind.u64 p7.1.2.2 8) fun v11 =>
 letK (nShl IntKind.u64 p7.1.2.1 56) fun v12 =>
 letK (bits .or IntKind.u64 v11 v12) fun v13 =>
 letK (nShr IntKind.u64 p7.1.2.1 8) fun v14 =>
 letK (IntKind.i64.wrap (p7.2.2 - (1:Int))) fun v15 =>
 again ((p7.1.1,v14,v13),v10,v15)) else (leave (j6 p7.2.1))) (p1.1,v3,v4)) fun j2 =>
 bif a0.1 then (j2 (a0,(16:Int))) else (j2 (a0,(4:Int)))):=by kernel_rfl
theorem e15 (N:Nat):n15 (N+1) () =
 (n27 N ([50,48,48,49,58,68,66,56,58,48,58,48,58,49,58,48,58,48,58,49]:List UInt8)).bind fun v0 =>
 (n27 N ([49,46,50,46,51,46,48,52]:List UInt8)).bind fun v1 =>
 (bif (v0.2==(0:Int)) then (n10 N v0.1) else some ([]:List UInt8)).bind fun v2 =>
 letK (v2==([50,48,48,49,58,100,98,56,58,58,49,58,48,58,48,58,49]:List UInt8)) fun v3 =>
 letK (bif (v0.2==(0:Int)) then v3 else false) fun v4 =>
 letK (bif v4 then (v1.2==(2:Int)) else false) fun v5 =>
 (bif v5 then (n10 N (false,(0:Int),(3221225985:Int))) else some ([]:List UInt8)).bind fun v6 =>
 letK (v6==([49,57,50,46,48,46,50,46,49]:List UInt8)) fun v7 =>
 some (bif v5 then v7 else false):=by kernel_rfl
theorem e16 (N:Nat) (a0:Int) (a1:Int):n16 (N+1) (a0,a1) =
 (if a1=0 then none else some (Int.tmod a0 a1)).bind fun v0 =>
 joinK (fun (p1:Int) =>
 some p1) fun j2 =>
 bif (decide (v0 < (0:Int))) then (j2 (IntKind.i64.wrap (v0+a1))) else (j2 v0):=by kernel_rfl
theorem e17 (N:Nat) (a0:(Bool×Int×Int)):n17 (N+1) a0 =
 letK (IntKind.u64.wrap (a0.2.2+(1:Int))) fun v0 =>
 letK (bif a0.1 then (v0==(0:Int)) else false) fun v1 =>
 joinK (fun (p2:((Bool×Int×Int)×(Bool×Int×Int))) =>
 letK (bif p2.1.1 then (p2.1.2.1==(0:Int)) else false) fun v4 =>
 letK (bif v4 then (p2.1.2.2==(0:Int)) else false) fun v5 =>
 (bif (!v5) then (n20 N p2.1) else some false).bind fun v6 =>
 letK (bif v5 then true else (!v6)) fun v7 =>
 bif v7 then (some ((false,(0:Int),(0:Int)),false)) else (some (p2.1,true))) fun j3 =>
 bif v1 then (letK (IntKind.u64.wrap (a0.2.1+(1:Int))) fun v8 =>
 j3 ((a0.1,v8,v0),false,(0:Int),(0:Int))) else (j3 ((a0.1,a0.2.1,v0),false,(0:Int),(0:Int))):=by kernel_rfl
theorem e18 (N:Nat) (a0:(Bool×Int×Int)) (a1:(Bool×Int×Int)):n18 (N+1) (a0,a1) =
 (n42 N a0).bind fun v0 =>
 (n42 N a1).bind fun v1 =>
 (n41 N (v0,v1)).bind fun v2 =>
 (n43 N (a0.2.1,a1.2.1)).bind fun v3 =>
 (n43 N (a0.2.2,a1.2.2)).bind fun v4 =>
 (n40 N ([v2,v3,v4]:List (Int))).bind fun v5 =>
 some v5:=by kernel_rfl
theorem e19 (N:Nat) (a0:List (Int)):n19 (N+1) a0 =
 letK (decide ((nLen a0)≤(600:Int))) fun v0 =>
 some v0:=by kernel_rfl
theorem e20 (N:Nat) (a0:(Bool×Int×Int)):n20 (N+1) a0 =
 letK (decide (a0.2.2 < (4294967296:Int))) fun v0 =>
 letK (bif (a0.2.1==(0:Int)) then v0 else false) fun v1 =>
 some (bif a0.1 then true else v1):=by kernel_rfl
theorem e21 (N:Nat) (a0:(Bool×Int×Int)):n21 (N+1) a0 =
 letK (decide (a0.2.2 < (4294967296:Int))) fun v0 =>
 letK (bif (a0.2.1==(0:Int)) then v0 else false) fun v1 =>
 some (bif a0.1 then true else v1):=by kernel_rfl
theorem e22 (N:Nat) (a0:(Bool×Int×Int)):n22 (N+1) a0 =
 (n21 N a0).bind fun v0 =>
 bif (!v0) then (some ([]:List (Int))) else (joinK (fun (p1:((Bool×Int×Int)×Int)) =>
 letK (IntKind.i64.wrap (p1.2 - (1:Int))) fun v3 =>
 joinK (fun (p4:List (Int)) =>
 some p4) fun j5 =>
 loopN N (fun (p6:((Bool×Int×Int)×(List (Int)×Int))) =>
 letK (decide (p6.2.2≥(0:Int))) fun v7 =>
 bif v7 then (letK (decide (p6.2.2≥(8:Int))) fun v8 =>
 joinK (fun (p9:((Bool×Int×Int)×(List (Int)×(Int×Int)))) =>
 letK (Int.tmod p9.2.2.1 (8:Int)) fun v11 =>
 letK (IntKind.u64.wrap ((8:Int) * (IntKind.u64.wrap v11))) fun v12 =>
 (if v12 < 0 then none else some (nShr IntKind.u64 p9.2.2.2 v12.toNat)).bind fun v13 =>
 letK ([(IntKind.u8.wrap v13)]:List (Int)) fun v14 =>
 (nApp 1 p9.2.1 v14).bind fun v15 =>
 letK (IntKind.i64.wrap (p9.2.2.1 - (1:Int))) fun v16 =>
 again (p9.1,v15,v16)) fun j10 =>
 bif v8 then (j10 (p6.1,p6.2.1,p6.2.2,p6.1.2.1)) else (j10 (p6.1,p6.2.1,p6.2.2,p6.1.2.2))) else (leave (j5 p6.2.1))) (p1.1,([]:List (Int)),v3)) fun j2 =>
 bif a0.1 then (j2 (a0,(16:Int))) else (j2 (a0,(4:Int)))):=by kernel_rfl
theorem e23 (N:Nat) (a0:(Bool×Int×Int)):n23 (N+1) a0 =
 letK (IntKind.u64.wrap (a0.2.2+(1:Int))) fun v0 =>
 joinK (fun (p1:((Bool×Int×Int)×(Bool×Int×Int))) =>
 letK (bif p1.1.1 then (p1.1.2.1==(0:Int)) else false) fun v3 =>
 letK (bif v3 then (p1.1.2.2==(0:Int)) else false) fun v4 =>
 letK (decide (p1.1.2.2≥(4294967296:Int))) fun v5 =>
 letK (bif (!p1.1.1) then v5 else false) fun v6 =>
 bif (bif v4 then true else v6) then (some ((false,(0:Int),(0:Int)),false)) else (some (p1.1,true))) fun j2 =>
 bif (v0==(0:Int)) then (letK (IntKind.u64.wrap (a0.2.1+(1:Int))) fun v7 =>
 j2 ((a0.1,v7,v0),false,(0:Int),(0:Int))) else (j2 ((a0.1,a0.2.1,v0),false,(0:Int),(0:Int))):=by kernel_rfl
theorem e24 (N:Nat) (a0:(Bool×Int×Int)) (a1:(Bool×Int×Int)):n24 (N+1) (a0,a1) =
 letK (false != ((a0.1==a1.1)&&((a0.2.1==a1.2.1)&&(a0.2.2==a1.2.2)))) fun v0 =>
 bif v0 then (some (0:Int)) else (bif (true != (a0.1==a1.1)) then (bif a1.1 then (some (-1:Int)) else (some (1:Int))) else (letK (bif (a0.2.1==a1.2.1) then (decide (a0.2.2 < a1.2.2)) else false) fun v1 =>
 letK (bif (decide (a0.2.1 < a1.2.1)) then true else v1) fun v2 =>
 bif v2 then (some (-1:Int)) else (some (1:Int)))):=by kernel_rfl
theorem e25 (N:Nat) (a0:List (Int)):n25 (N+1) a0 =
 letK (bif ((nLen a0) != (4:Int)) then ((nLen a0) != (16:Int)) else false) fun v0 =>
 bif v0 then (some ((false,(0:Int),(0:Int)),(1:Int))) else (joinK (fun (p1:((Bool×Int×Int)×(Bool×Int×Int))) =>
 some (p1.2,(0:Int))) fun j2 =>
 loopN N (fun (p3:((Bool×Int×Int)×((Bool×Int×Int)×(List (Int)×(Int×Int))))) =>
 letK (decide (p3.2.2.2.2 < p3.2.2.2.1)) fun v4 =>
 bif v4 then ((nIdx p3.2.2.1 p3.2.2.2.2).bind fun v5 =>
 letK (nShl IntKind.u64 p3.2.1.2.1 8) fun v6 =>
 letK (nShr IntKind.u64 p3.2.1.2.2 56) fun v7 =>
 letK (nShl IntKind.u64 p3.2.1.2.2 8) fun v8 =>
 letK (bits .or IntKind.u64 v8 (IntKind.u64.wrap v5)) fun v9 =>
 letK (IntKind.i64.wrap (p3.2.2.2.2+(1:Int))) fun v10 =>
 again (p3.1,(p3.2.1.1,(bits .or IntKind.u64 v6 v7),v9),p3.2.2.1,p3.2.2.2.1,v10)) else (leave (j2 (p3.1,p3.2.1)))) ((false,(0:Int),(0:Int)),(((nLen a0)==(16:Int)),(0:Int),(0:Int)),a0,(nLen a0),(0:Int))):=by kernel_rfl
theorem e26 (N:Nat) (a0:List (Int)):n26 (N+1) a0 =
 letK (bif ((nLen a0) != (4:Int)) then ((nLen a0) != (16:Int)) else false) fun v0 =>
 bif v0 then (some ((false,(0:Int),(0:Int)),(1:Int))) else (joinK (fun (p1:((Bool×Int×Int)×(Bool×Int×Int))) =>
 some (p1.2,(0:Int))) fun j2 =>
 loopN N (fun (p3:((Bool×Int×Int)×((Bool×Int×Int)×(List (Int)×(Int×Int))))) =>
 letK (decide (p3.2.2.2.2 < p3.2.2.2.1)) fun v4 =>
 bif v4 then ((nIdx p3.2.2.1 p3.2.2.2.2).bind fun v5 =>
 letK (nShl IntKind.u64 p3.2.1.2.1 8) fun v6 =>
 letK (nShr IntKind.u64 p3.2.1.2.2 56) fun v7 =>
 letK (nShl IntKind.u64 p3.2.1.2.2 8) fun v8 =>
 letK (bits .or IntKind.u64 v8 (IntKind.u64.wrap v5)) fun v9 =>
 letK (IntKind.i64.wrap (p3.2.2.2.2+(1:Int))) fun v10 =>
 again (p3.1,(p3.2.1.1,(bits .or IntKind.u64 v6 v7),v9),p3.2.2.1,p3.2.2.2.1,v10)) else (leave (j2 (p3.1,p3.2.1)))) ((false,(0:Int),(0:Int)),(((nLen a0)==(16:Int)),(0:Int),(0:Int)),a0,(nLen a0),(0:Int))):=by kernel_rfl
end Go.Proofs.YtfglhfbnbdmhfaaDoor
