/- Walked by hand: slices.Repeat of one number. -/
import Derived.Test.YtgfmodmeimhhpaaDoorHOW
import Derived.Test.YtgfmodmeimhhpaaDoorShelf
open Nat(zero_add)
namespace Go.Proofs.YtgfmodmeimhhpaaDoor
open Go.RowKit Go.Lib Go.VM
def repRow(k:Int)(n m:Nat):Array Value:=(List.replicate m (Value.int .i64 k)++List.replicate (n-m) (Value.int .i64 0)).toArray
theorem repRow_size{k:Int}{n m:Nat}(h:m<=n):(repRow k n m).size=n:=by simp[repRow];omega
theorem repRow_copy{k:Int}{n m q:Nat}(h:m<=n)(hq:q<=n-m):((repRow k n m).toList.take m++List.replicate q (Value.int .i64 k)++(repRow k n m).toList.drop (m+(List.replicate q (Value.int .i64 k)).length)).toArray=repRow k n (m+q):=by unfold repRow;congr 1;simp only[List.toList_toArray,List.length_replicate];rw[List.take_left' (by simp),List.drop_append,List.length_replicate,List.drop_of_length_le (by simp),List.nil_append,List.drop_replicate,List.replicate_append_replicate];congr 2;omega
theorem repRow_made(k:Int)(n:Nat):madeCells (Value.int .i64 0).cells (n*1)=repRow k n 0:=by apply Array.ext';show(madeCells #[Value.int .i64 0] (n*1)).toList=_;rw[toList_madeCells_one];simp[repRow]
structure RepInv(k:Int)(n:Nat)(w:World)(g:Nat)(wr:World)(m:Nat):Prop where
 row:wr.heap[g]?=some (.cells (repRow k n m) 3 (0,0))
 hm:0<m/\m<=n
 lo:w.heap.size<=g
 bel:Below w.heap.size w wr
set_option maxHeartbeats 4000000 in
set_option maxRecDepth 100000 in
theorem repeat_ok(k:Int)(n b:Nat)(w:World)(hn:0<n)(hn2:n<=100000)(hb:w.heap[b]?=some (.cells #[.int .i64 k] 3 (0,0))) :
  Calls Tryd.prog 51 #[.slice (some ⟨b,0,none⟩) 1 1,.int .i64 n] w fun r w'=>∃v',r=.returned v'/\w'.ownsRow w.heap.size 3 1 v' n (intC (List.replicate n k))/\Below w.heap.size w w':=by
 have e77:∀args w,(callFunc 77 args).run Tryd.prog w=.ok (.enter 77 args) w:=fun args w=>by kernel_rfl
 have hMul:=fun W=>Tryd.bits_Mul 1 n (by decide) (by omega) W
 have hd0:1*n / 18446744073709551616=0:=by omega
 have hm0:1*n%18446744073709551616=n:=by omega
 have hlo:¬(n:Int)<0:=by omega
 have hbig:¬(n:Int)>9223372036854775807:=by omega
 have hw1:IntKind.u64.wrap (n:Int)=n:=by rw[IntKind.wrap_u64];omega
 have hw2:IntKind.i64.wrap (n:Int)=n:=by rw[IntKind.wrap_i64];omega
 simp only[hd0,hm0]at hMul;obtain⟨i0,hi0,hz0,hzs,hzb⟩:=info_parts info_i;have hcell:∀(W:World) (b:Nat) (xs:Array Value) (t:TypeId),W.heap[b]?=some (.cells xs t (0,0))->∀j,W.cell? ⟨b,j,none⟩=xs[j]?:=fun W b xs t h j=>by simp[World.cell?,h]
 have hbw:b<w.heap.size:=(Array.getElem?_eq_some_iff.1 hb).1;have hmk:∀W:World,(Instr.makeSlice 22 (.int .i64 n) (.int .i64 n)).run Tryd.prog W=.ok (.slice (some ⟨W.heap.size,0,none⟩) n n) (W.alloc (.cells (repRow k n 0) 3)):=fun W=>by have hr:=run_make (P:=Tryd.prog) W 22 3 i0 (.int .i64 0) Tryd.underlying22 hi0 hz0 .i64 .i64 n n (by omega) (Int.le_refl _) (by rw[hzb];omega) (by omega);simp only[Int.toNat_natCast,hzs]at hr;rw[hr];rw[repRow_made k n]
 have hsz1:(Tryd.prog.info? 3).map (·.size)=some 1:=by rw[hi0];simp[hzs]
 have hcp0:∀ty dc sc,(Builtin.copy_ #[22,22] ty #[.slice (some ⟨w.heap.size,0,none⟩) n dc,.slice (some ⟨b,0,none⟩) 1 sc]).run Tryd.prog (w.alloc (.cells (repRow k n 0) 3))=.ok (goInt 1) ((w.alloc (.cells (repRow k n 0) 3)).setRow w.heap.size (repRow k n 1)):=fun ty dc sc=>by
  have:=run_copy_z (P:=Tryd.prog) (w.alloc (.cells (repRow k n 0) 3)) 22 22 ty 3 1 w.heap.size 0 n dc ⟨b,0,none⟩ 1 sc (repRow k n 0) 3 [.int .i64 k] Tryd.underlying22 hsz1 (heap_alloc_new w _)
   (by simp only[Nat.min_def];split<;>simp<;>omega) (fun j v hj=>by rw[Addr.add_lit,hcell _ b #[.int .i64 k] 3 (by rw[Go.heap_alloc_old w _ hbw];exact hb),zero_add];simpa using hj) (by rw[repRow_size (by omega)];simp;omega) (fun v hv=>by simp at hv;subst hv;rfl)
  rw[this];have hmin:Nat.min 1 n=1:=by simp only[Nat.min_def];split<;>omega
  rw[hmin];have:=repRow_copy (k:=k) (n:=n) (m:=0) (q:=1) (Nat.zero_le _) (by omega);simp only[List.replicate_one,zero_add]at this;rw[zero_add,this];rfl
 have hcp:∀g (wr:World) m q,RepInv k n w g wr m->Nat.min m (n-m)=q->∀ty dc sc,(Builtin.copy_ #[22,22] ty #[.slice (some ⟨g,m,none⟩) (n-m) dc,.slice (some ⟨g,0,none⟩) m sc]).run Tryd.prog wr.drew=.ok (goInt q) (wr.drew.setRow g (repRow k n (m+q))):=fun g wr m q I hq ty dc sc=>by
  have hq1:q<=m:=by rw[<-hq];exact Nat.min_le_left _ _
  have hq2:q<=n-m:=by rw[<-hq];exact Nat.min_le_right _ _
  have h1:=run_copy_z (P:=Tryd.prog) wr.drew 22 22 ty 3 1 g m (n-m) dc ⟨g,0,none⟩ m sc (repRow k n m) 3 (List.replicate q (.int .i64 k)) Tryd.underlying22 hsz1 I.row
   (by rw[hq];simp) (fun j v hj=>by
    rw[Addr.add_lit,hcell wr.drew g (repRow k n m) 3 I.row,zero_add];rw[List.getElem?_replicate]at hj;split at hj
    .cases hj;have:j<m:=by omega
     simp[repRow,List.getElem?_append,this]
    .cases hj) (by rw[repRow_size I.hm.2];simp;have:=I.hm;omega) (fun v hv=>by rw[(List.mem_replicate.1 hv).2];rfl)
  rw[repRow_copy I.hm.2 hq2,hq]at h1;exact h1
 have hstep:∀g (wr:World) m q,RepInv k n w g wr m->m<n->Nat.min m (n-m)=q->0<q/\q<=n-m/\RepInv k n w g (wr.drew.setRow g (repRow k n (m+q))) (m+q):=fun g wr m q I hlt hq=>by
  have hq1:q<=m:=by rw[<-hq];exact Nat.min_le_left _ _
  have hq2:q<=n-m:=by rw[<-hq];exact Nat.min_le_right _ _
  have hm:=I.hm;have hq0:0<q:=by rw[<-hq];simp only[Nat.min_def];split<;>omega
  have hs:=setRow_grown wr.drew g (repRow k n (m+q));exact⟨hq0,hq2,setRow_heap _ _ _ _ 3 (0,0) I.row,by omega,I.lo,(show Below w.heap.size w wr.drew from⟨I.bel.os,I.bel.tape,I.bel.output,I.bel.size,I.bel.block⟩).grown hs I.bel.size (fun j hj=>by cases hj;exact I.lo)⟩
 have hst:RepInv k n w w.heap.size ((w.alloc (.cells (repRow k n 0) 3)).setRow w.heap.size (repRow k n 1)) 1:=by have hs:=setRow_grown (w.alloc (.cells (repRow k n 0) 3)) w.heap.size (repRow k n 1);exact⟨setRow_heap _ _ _ _ 3 (0,0) (heap_alloc_new w _),by omega,Nat.le_refl _,((Below.refl _ w).alloc (Nat.le_refl _) _).grown hs (by show _<=(w.heap.push _).size;simp) (fun j hj=>by cases hj;exact Nat.le_refl _)⟩
 have hend:∀g (wr:World),RepInv k n w g wr n->wr.ownsRow w.heap.size 3 1 (.slice (some ⟨g,0,none⟩) n n) n (intC (List.replicate n k)):=fun g wr I=>by refine⟨by simp[intC],.inr ⟨g,n,repRow k n n,rfl,I.lo,I.row,Nat.le_refl _,by unfold maxLen;omega,by rw[repRow_size (Nat.le_refl _)];simp,?_⟩⟩;simp[repRow,intC]
 have HS:Aside _:=hst;have HC:Aside _:=hcp;have HT:Aside _:=hstep;have HE:Aside _:=hend;clear hst hcp hstep hend hcell hd0 hm0
 go_enter Tryd.func51,Tryd.ntmps51
 go_wp2_with (go_at_fn 77;refine(hMul _).mono ?_;rintro e w' ⟨rfl,hw⟩;rw[hw])
 go_loopg [8] n (fun gg s8 wr=>∃m:Nat,s8=.int .i64 m/\n-m<=gg/\Aside (RepInv k n w w.heap.size wr m))
 case atStart=>exact⟨1,rfl,by omega,HS.out⟩
 case round=>
  obtain⟨m,rfl,hgg,I⟩:=hrel;have hmn:m<=n:=I.out.hm.2;by_cases hlt:m<n
  .have hltz:(m:Int)<(n:Int):=by omega
   obtain⟨q,hq⟩:∃q,Nat.min m (n-m)=q:=⟨_,rfl⟩;obtain⟨hq0,hq2,hN⟩:=HT.out w.heap.size wr m q I.out hlt hq;have hcp:=HC.out w.heap.size wr m q I.out hq;have N:Aside _:=hN;have hb1:(m:Int)<=(n:Int):=by omega
   have hb2:(0:Int)<=(m:Int):=by omega
   have hnm:¬(n=m):=by omega
   have hwr:IntKind.i64.wrap ((m:Int)+(q:Int))=((m+q:Nat):Int):=by rw[IntKind.wrap_i64];omega
   have mixed:Tryd.prog.follows Departure.mixedOrders=true:=by kernel_rfl
   clear hN hq
   go_wp2
   go_region_law_o (refine step_copy_runI rfl _ _ 22 22 rfl _ _ (by simp[Act.eval,Act.put]) (by simp[Act.eval,Act.put]) (hcp _ _ _) ?_)
   go_wp2
   go_roundg (n-(m+q))
   case measure=>omega
   case rel=>exact⟨m+q,by go_num,Nat.le_refl _,N.out⟩
  .obtain rfl:m=n:=by omega
   have hltz:¬(m:Int)<(m:Int):=by omega
   go_wp2
   go_ret
   exact⟨_,rfl,HE.out _ _ I.out,I.out.bel⟩
end Go.Proofs.YtgfmodmeimhhpaaDoor
