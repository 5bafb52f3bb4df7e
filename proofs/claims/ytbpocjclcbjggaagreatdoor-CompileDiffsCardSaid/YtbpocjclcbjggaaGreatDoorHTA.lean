/- The functions that the walks by hand call, as contracts; databases as they lie in memory. -/
import Derived.Test.YtbpocjclcbjggaaGreatDoorZO
import Derived.Test.YtbpocjclcbjggaaGreatDoorZE1
import Derived.Test.YtbpocjclcbjggaaGreatDoorHCL
import Derived.Test.YtbpocjclcbjggaaGreatDoorT36
namespace Go.Proofs.YtbpocjclcbjggaaGreatDoor
open Go.RowKit Go.Lib Go.VM
set_option maxRecDepth 20000
def srv(d:DbT):List MemT:=d.2.2.1
def mem(d:DbT):List MemT:=d.2.2.2
def poL(m:MemT):List PortT:=m.2.2.2.2.2
def maL(p:PortT):List MacT:=p.2.2.2.1
def v4L(p:PortT):AddrT:=p.2.2.2.2.1
def v6L(p:PortT):AddrT:=p.2.2.2.2.2
def allM(d:DbT):List MemT:=srv d++mem d
def allP(d:DbT):List PortT:=(allM d).flatMap poL
/-- Not great. -/
structure SmD(d:DbT):Prop where
 srv:(srv d).length<=1000
 mem:(mem d).length<=1000
 po:∀m∈allM d,(poL m).length<=40
 ma:∀p∈allP d,(maL p).length<=1000
theorem SmD.all{d:DbT}(h:SmD d):(allM d).length<=2000:=by have:=h.srv;have:=h.mem;simp only[allM,List.length_append];omega
theorem flat_le{n:Nat}:∀{l:List MemT},(∀m∈l,(poL m).length<=n)->(l.flatMap poL).length<=l.length*n
 |[],_=>by simp
 |m::l,h=>by
  have h1:=h m (by simp);have h2:=flat_le (l:=l) fun m' hm=>h m' (by simp[hm])
  simp only[List.flatMap_cons,List.length_append,List.length_cons,Nat.add_mul];omega
theorem SmD.allP{d:DbT}(h:SmD d):(allP d).length<=80000:=by have:=flat_le h.po;have:=h.all;unfold YtbpocjclcbjggaaGreatDoor.allP;omega
theorem z49{d:DbT}(h:SmD d)(N:Nat):Z.n49 (N+1) d=some (allM d):=by
 have h1:=h.srv;have h2:=h.mem;unfold srv at h1;unfold mem at h2;rw[Z.e49];refine bindB (v:=[]++d.2.2.1) (aJm (by simp;omega) (by simp;omega)) ?_;exact bindB (v:=([]++d.2.2.1)++d.2.2.2) (aJm (by simp;omega) (by simp;omega)) rfl
theorem z71{d:DbT}(h:SmD d)(N:Nat):Z.n71 (N+2) d=some (allM d):=by
 have h1:=h.srv;have h2:=h.mem;unfold srv at h1;unfold mem at h2;rw[Z.e71];refine letB (v:=[d.2.2.1,d.2.2.2]) rfl ?_;refine bindB (v:=allM d) ?_ rfl;rw[Z.e110];unfold gCat;rw[if_pos (by simp;omega)];simp[allM,srv,mem]
theorem z59{d:DbT}(h:SmD d)(N:Nat)(hN:2000<N):Z.n59 (N+3) d=some (allP d):=by
 have hl:=h.all;have hp:=h.allP;rw[Z.e59];refine bindB (z71 h N) ?_;rw[aJY];refine loopN_seq' (fun i=>(((allM d).take i).flatMap poL,allM d,aJO (allM d),(i:Int))) (allM d).length rfl (fun k hk=>?_) ?_ (by omega)
 .show(aJy (decide ((k:Int)<aJO (allM d))) _:Option _)=_;refine letB (v:=true) (by simpa[aJO]using hk) ?_;refine bifT rfl ?_;refine bindB (aJo hk) ?_;have ht:(allM d).take (k+1)=(allM d).take k++[(allM d)[k]]:=List.take_succ_eq_append_getElem hk;have hf:((allM d).take (k+1)).flatMap poL=((allM d).take k).flatMap poL++poL (allM d)[k]:=by rw[ht,List.flatMap_append];simp only[List.flatMap_cons,List.flatMap_nil,List.append_nil]
  have hlen:(((allM d).take k).flatMap poL++poL (allM d)[k]).length<=80000:=by
   rw[<-hf];refine Nat.le_trans ?_ hp;have:=congrArg (fun l=>(l.flatMap poL).length) (List.take_append_drop (k+1) (allM d));simp only[List.flatMap_append,List.length_append]at this;unfold allP;omega
  simp only[List.length_append]at hlen;refine bindB (aJm (by show((((allM d).take k).flatMap poL).length+(poL (allM d)[k]).length)*96<=_;omega) (by show(((allM d).take k).flatMap poL).length+(poL (allM d)[k]).length<=_;omega)) ?_;refine letB (v:=((k+1:Nat):Int)) (wv _ (by show(k:Int)+1=_;omega) (by omega) (by omega)) ?_;rw[aJZ];simp only[Option.some.injEq,Sum.inl.injEq,Prod.mk.injEq,and_true];exact hf.symm
 .show(aJy (decide (((allM d).length:Int)<aJO (allM d))) _:Option _)=_;refine letB (v:=false) (by simp[aJO]) ?_;refine bifF rfl ?_;refine leaveB ?_;show some _=some _;rw[List.take_length];rfl
theorem dbTy{t:Ty}(ht:t.agg=true\/t.size=1):∀p∈[PK.d t],∃u,p=.d u/\(u.agg=true\/u.size=1):=fun p hp=>by
 simp only[List.mem_cons,List.not_mem_nil,or_false]at hp;exact⟨_,hp,ht⟩
/-- A function of the table Z from a database. -/
theorem z_calls{t:Ty}{cl:List (Nat×Bool)}(hsz:gQ [(t,cl)]<=64)(f:Nat)(vf:VF)(hf:Z.FT f=some (.code vf))(g:DbT->Option t.den)(hty:wZ ⟨[.d tyDb],[(t,cl)],none⟩ [] (call Z.FT 200004 f) g){d:DbT}{r:t.den}(hx:g d=some r){W:World}{Q:Nat->Prop}{v:Value}(hv:HV W Q tyDb d v) :
  Calls Tryz.prog f #[v] W fun e W'=>∃u,e=.returned u/\Below W.heap.size W W'/\HV W' (fun b=>b<W'.heap.size) t r u:=by
 refine(calls_typed (Z.tableOk) (f:=f) (ps:=[.d tyDb]) (rs:=[(t,cl)]) (vf:=vf) hf hty (dbTy (.inl rfl)) hsz (fun _ _=>trivial) hx ⟨_,_,rfl,hv,rfl⟩).mono fun e W' ⟨rcs,e1,e2,e3⟩=>?_
 obtain⟨c1,cs1,rfl,h1,rfl⟩:=e3;exact⟨c1,e1,e2,h1⟩
theorem all_calls{d:DbT}(h:SmD d){W:World}{Q:Nat->Prop}{v:Value}(hv:HV W Q tyDb d v):Calls Tryz.prog 49 #[v] W fun e W'=>∃u,e=.returned u/\Below W.heap.size W W'/\HV W' (fun b=>b<W'.heap.size) (.sl tyMe) (allM d) u:=by
 refine z_calls (t:=.sl tyMe) (cl:=[(0,true)]) (by decide) 49 Z.vf49 rfl (nfN Z.TN 200004 49) ?_ (z49 h _) hv;have h:=Z.typed 200004 49;unfold aF7 at h;rw[Z.sigOk 49]at h;exact h
theorem allP_calls{d:DbT}(h:SmD d){W:World}{Q:Nat->Prop}{v:Value}(hv:HV W Q tyDb d v):Calls Tryz.prog 71 #[v] W fun e W'=>∃u,e=.returned u/\Below W.heap.size W W'/\HV W' (fun b=>b<W'.heap.size) (.sl tyMe) (allM d) u:=by
 refine z_calls (t:=.sl tyMe) (cl:=[]) (by decide) 71 Z.vf71 rfl (nfN Z.TN 200004 71) ?_ (z71 h _) hv;have h:=Z.typed 200004 71;unfold aF7 at h;rw[Z.sigOk 71]at h;exact h
theorem ports_calls{d:DbT}(h:SmD d){W:World}{Q:Nat->Prop}{v:Value}(hv:HV W Q tyDb d v):Calls Tryz.prog 59 #[v] W fun e W'=>∃u,e=.returned u/\Below W.heap.size W W'/\HV W' (fun b=>b<W'.heap.size) (.sl tyPo) (allP d) u:=by
 refine z_calls (t:=.sl tyPo) (cl:=[(0,true)]) (by decide) 59 Z.vf59 rfl (nfN Z.TN 200004 59) ?_ (z59 h 200001 (by decide)) hv;have h:=Z.typed 200004 59;unfold aF7 at h;rw[Z.sigOk 59]at h;exact h
theorem hc_int{w:World}{Q:Nat->Prop}{k:IntKind}{n:Int}{c:List Value}(h:HC w Q (.int k) n c):c=[.int k n]:=h
theorem hc_bool{w:World}{Q:Nat->Prop}{b:Bool}{c:List Value}(h:HC w Q .bool b c):c=[.bool b]:=h
theorem hc_str{w:World}{Q:Nat->Prop}{s:List UInt8}{c:List Value}(h:HC w Q .str s c):c=[encS s]:=by
 obtain⟨t,rfl,h2⟩:=h;subst h2;rfl
theorem hc_sl1{w:World}{Q:Nat->Prop}{t:Ty}{l:List t.den}{c:List Value}(h:HC w Q (.sl t) l c):∃u,c=[u]:=by
 rcases h with⟨_,h⟩|⟨_,_,_,h,_⟩<;>exact⟨_,h⟩
theorem hc_mac{w:World}{Q:Nat->Prop}{m:MacT}{c:List Value}(h:HC w Q tyMac m c):c=[.int .u8 m.1,.int .u8 m.2.1,.int .u8 m.2.2.1,.int .u8 m.2.2.2.1,.int .u8 m.2.2.2.2.1,.int .u8 m.2.2.2.2.2]:=by
 obtain⟨c1,r1,rfl,h1,c2,r2,rfl,h2,c3,r3,rfl,h3,c4,r4,rfl,h4,c5,r5,rfl,h5,h6⟩:=h;rw[hc_int h1,hc_int h2,hc_int h3,hc_int h4,hc_int h5,hc_int h6];rfl
def adC(a:AddrT):List Value:=[.bool a.1,.int .u64 a.2.1,.int .u64 a.2.2]
theorem hc_ad{w:World}{Q:Nat->Prop}{a:AddrT}{c:List Value}(h:HC w Q tyAd a c):c=adC a:=by
 obtain⟨c1,r1,rfl,h1,c2,r2,rfl,h2,h3⟩:=h;rw[hc_bool h1,hc_int h2,hc_int h3];rfl
def poC(p:PortT)(u:Value):List Value:=[.int .i64 p.1,.int .i64 p.2.1,.int .i64 p.2.2.1,u,.bool (v4L p).1,.int .u64 (v4L p).2.1,.int .u64 (v4L p).2.2,.bool (v6L p).1,.int .u64 (v6L p).2.1,.int .u64 (v6L p).2.2]
theorem hc_po{w:World}{Q:Nat->Prop}{p:PortT}{c:List Value}(h:HC w Q tyPo p c):∃u,c=poC p u/\HC w Q (.sl tyMac) (maL p) [u]:=by
 obtain⟨c1,r1,rfl,h1,c2,r2,rfl,h2,c3,r3,rfl,h3,c4,r4,rfl,h4,c5,r5,rfl,h5,h6⟩:=h;obtain⟨u,rfl⟩:=hc_sl1 h4;refine⟨u,?_,h4⟩;rw[hc_int h1,hc_int h2,hc_int h3,hc_ad h5,hc_ad h6];rfl
def meC(m:MemT)(u:Value):List Value:=[.int .i64 m.1,encS m.2.1,encS m.2.2.1,.int .i64 m.2.2.2.1,.int .i64 m.2.2.2.2.1,u]
theorem hc_me{w:World}{Q:Nat->Prop}{m:MemT}{c:List Value}(h:HC w Q tyMe m c):∃u,c=meC m u/\HC w Q (.sl tyPo) (poL m) [u]:=by
 obtain⟨c1,r1,rfl,h1,c2,r2,rfl,h2,c3,r3,rfl,h3,c4,r4,rfl,h4,c5,r5,rfl,h5,h6⟩:=h;obtain⟨u,rfl⟩:=hc_sl1 h6;refine⟨u,?_,h6⟩;rw[hc_int h1,hc_str h2,hc_str h3,hc_int h4,hc_int h5];rfl
def dbC(d:DbT)(u v:Value):List Value:=adC d.1.1++[.int .i64 d.1.2]++adC d.2.1.1++[.int .i64 d.2.1.2,u,v]
theorem hc_db{w:World}{Q:Nat->Prop}{d:DbT}{c:List Value}(h:HC w Q tyDb d c):∃u v,c=dbC d u v/\HC w Q (.sl tyMe) (srv d) [u]/\HC w Q (.sl tyMe) (mem d) [v]:=by
 obtain⟨c1,r1,rfl,⟨q1,q2,rfl,h1,h1'⟩,c2,r2,rfl,⟨q3,q4,rfl,h2,h2'⟩,c3,r3,rfl,h3,h4⟩:=h;obtain⟨u,rfl⟩:=hc_sl1 h3;obtain⟨v,rfl⟩:=hc_sl1 h4;refine⟨u,v,?_,h3,h4⟩;rw[hc_ad h1,hc_int h1',hc_ad h2,hc_int h2'];rfl
end Go.Proofs.YtbpocjclcbjggaaGreatDoor
