/- Chapter 09, plainly: the ports of a drawn database, one behind the other: their numbers, stations and addresses are apart. -/
import Derived.Test.YtbpocjclcbjggaaGreatDoorCK
namespace Go.Proofs.YtbpocjclcbjggaaGreatDoor
open Go.VM
set_option maxRecDepth 10000
def Lp(d:DbT):List PortT:=(allM d).flatMap poL
theorem DbAt.L{d:DbT}(h:DbAt d):PsAt 0 (Lp d)/\(Lp d).length<=14:=by
 have:=h.all (allM d).length (Nat.le_refl _);have h7:=h.le;rw[List.take_length]at this;exact⟨this.1,by have:=this.2;unfold Lp;omega⟩
theorem PsAt.id{l:List PortT}(h:PsAt 0 l){i:Nat}(hi:i<l.length):∃r:Nat,r<3/\l[i].1=((3*(i+1)+r:Nat):Int):=by
 obtain⟨r,kd,cp,ma,ad,l1,_,_,_,_,e⟩:=h i hi;refine⟨r,l1,?_⟩;rw[e];show 3*((0+1+i:Nat):Int)+(r:Int)=((3*(i+1)+r:Nat):Int);omega
theorem PsAt.id_lt{l:List PortT}(h:PsAt 0 l){i j:Nat}(hj:j<l.length)(hij:i<j):(l[i]'(by omega)).1<l[j].1:=by
 obtain⟨r,h1,e1⟩:=h.id (i:=i) (by omega);obtain⟨s,h2,e2⟩:=h.id hj;rw[e1,e2];omega
/-- Ports below a gT,in a list that ascends: what one round more brings. -/
theorem below_step{l:List PortT}(h:PsAt 0 l)(n:Nat):(l.filter fun p=>decide (p.1<(n:Int)))++(l.filter fun p=>p.1==(n:Int))=l.filter fun p=>decide (p.1<((n+1:Nat):Int)):=by
 have hs:l.Pairwise fun p q=>p.1<q.1:=List.pairwise_iff_getElem.2 fun i j hi hj hij=>h.id_lt hj hij
 clear h
 induction l with
 |nil=>rfl
 |cons p l ih=>
  have h2:=ih (List.pairwise_cons.1 hs).2;have h1:=(List.pairwise_cons.1 hs).1;rcases Int.lt_trichotomy p.1 (n:Int)with hlt|he|hgt
  .rw[List.filter_cons_of_pos (by simpa using hlt),List.filter_cons_of_neg (by simp;omega),List.filter_cons_of_pos (by simp;omega),<-h2,List.cons_append]
  .have e0:(l.filter fun p=>decide (p.1<(n:Int)))=[]:=List.filter_eq_nil_iff.2 fun q hq=>by have:=h1 q hq;simp;omega
   rw[e0,List.nil_append]at h2;rw[List.filter_cons_of_neg (by simp;omega),List.filter_cons_of_pos (by simpa using he),List.filter_cons_of_pos (by simp;omega),<-h2,e0,List.nil_append]
  .rw[List.filter_cons_of_neg (by simp;omega),List.filter_cons_of_neg (by simp;omega),List.filter_cons_of_neg (by simp;omega)];exact h2
theorem below_0{l:List PortT}(h:PsAt 0 l):(l.filter fun p=>decide (p.1<((0:Nat):Int)))=[]:=List.filter_eq_nil_iff.2 fun q hq=>by
 obtain⟨i,hi,rfl⟩:=List.getElem_of_mem hq;obtain⟨r,_,e⟩:=h.id hi;rw[e];simp;omega
theorem below_all{l:List PortT}(h:PsAt 0 l)(h14:l.length<=14):(l.filter fun p=>decide (p.1<((1000:Nat):Int)))=l:=List.filter_eq_self.2 fun q hq=>by
 obtain⟨i,hi,rfl⟩:=List.getElem_of_mem hq;obtain⟨r,_,e⟩:=h.id hi;rw[e];simp;omega
end Go.Proofs.YtbpocjclcbjggaaGreatDoor

/- Chapter 09, plainly: Ports, Owner and Rules of a drawn database, exactly. -/
namespace Go.Proofs.YtbpocjclcbjggaaGreatDoor
open Go.VM
set_option maxRecDepth 10000
theorem DbAt.Lp_in{d:DbT}(h:DbAt d):∀p∈Lp d,PIn p:=fun p hp=>by
 obtain⟨m,hm,hp⟩:=List.mem_flatMap.1 hp;exact(h.ok m hm).ps p hp
theorem DbAt.Lp_pos{d:DbT}(h:DbAt d):0<(Lp d).length:=by
 have hn:=h.nm;have h0:0<(allM d).length:=by simp only[allM,List.length_append];omega
 have hm:=h.ok _ (List.getElem_mem h0);have h1:0<(poL (allM d)[0]).length:=by have:=hm.len;omega
 exact List.length_pos_of_mem (List.mem_flatMap.2 ⟨_,List.getElem_mem h0,List.getElem_mem h1⟩)
theorem ports26E{N:Nat}(hN:2000<=N){d:DbT}(h:DbAt d):n26 (N+3) d=some (Lp d):=by
 have h7:=h.le;have hok:=h.ok;have h49:=all49 (N:=N+1) h;obtain⟨hP,h14⟩:=h.L;have hfl:∀(p:PortT->Bool),(List.filter p (Lp d)).length<=14:=fun p=>Nat.le_trans (List.length_filter_le _ _) h14
 refine ok_get ?_;rw[e26];refine ok_join (fun l=>l=Lp d) (fun l hl=>ok_some hl) fun g hg=>?_
 refine ok_loop (fun i q=>q=(d,(Lp d).filter (fun p=>decide (p.1<(i:Int))),(i:Int))/\i<=1000) 1000 (fun i q ⟨e1,hi⟩=>?_) ⟨by rw[below_0 hP];rfl,Nat.zero_le _⟩ (by omega);subst e1;refine ok_let (ok_if (fun hc=>?_) fun hc=>?_)
 · have hlt : i < 1000 := by
     have:(i:Int)<=999:=of_decide_eq_true hc;omega
   refine ok_join (fun q=>q=(d,(Lp d).filter (fun p=>decide (p.1<((i+1:Nat):Int))),(i:Int))) ?_ fun g2 hg2=>?_
   .rintro q rfl;exact ok_letE (w:=((i+1:Nat):Int)) (wv _ rfl (by omega) (by omega)) (ok_again hlt ⟨rfl,hlt⟩)
   refine ok_bind h49 (ok_join (fun q=>q=(d,(Lp d).filter (fun p=>decide (p.1<((i+1:Nat):Int))),(i:Int))) (fun q hq=>hg2 _ hq) fun g3 hg3=>?_);have hst:=below_step hP i;have hA:∀(l:List PortT),(∃t,l++t=Lp d)->((Lp d).filter (fun p=>decide (p.1<(i:Int)))++l.filter (fun p=>p.1==(i:Int))).length<=28:=fun l ⟨t,ht⟩=>by
    rw[List.length_append];have h1:=hfl fun p=>decide (p.1<(i:Int))
    have h2:(l.filter fun p=>p.1==(i:Int)).length<=l.length:=List.length_filter_le _ _;have h3:l.length+t.length=(Lp d).length:=by rw[<-ht,List.length_append]
    omega
   have hL:Lp d=(allM d).flatMap poL:=rfl;have hg3':=fun q (hq:q=(d,(Lp d).filter (fun p=>decide (p.1<(i:Int)))++((allM d).flatMap poL).filter (fun p=>p.1==(i:Int)),(i:Int)))=>hg3 q (by rw[hq,<-hL,hst])
   clear hg3;generalize hAA:(Lp d).filter (fun p=>decide (p.1<(i:Int)))=A at *;rw[hL]at hA;have hok2:=hok;have hg3:=hg3';clear hg2 hst hAA hfl hP h14 hg hg3' hok h49 hL;have hok:=hok2;clear hok2;generalize allM d=L at *;refine ok_loop (fun j q=>q=(d,A++((L.take j).flatMap poL).filter (fun p=>p.1==(i:Int)),(i:Int),L,(L.length:Int),(j:Int))/\j<=L.length) L.length (fun j q ⟨e1,hj⟩=>?_) ⟨by rw[List.take_zero,List.flatMap_nil,List.filter_nil,List.append_nil];rfl,Nat.zero_le _⟩ (by omega);subst e1;refine ok_let (ok_if (fun hc=>?_) fun hc=>?_)
   .have hjt:j<L.length:=by simpa using hc
    refine ok_join (fun q=>q=(d,A++((L.take (j+1)).flatMap poL).filter (fun p=>p.1==(i:Int)),(i:Int),L,(L.length:Int),(j:Int))) ?_ fun g4 hg4=>?_
    .rintro q rfl;exact ok_letE (w:=((j+1:Nat):Int)) (wv _ rfl (by omega) (by omega)) (ok_again hjt ⟨rfl,hjt⟩)
    refine ok_bind (aJo hjt) ?_;have hm:=hok _ (List.getElem_mem hjt);have hta:(L.take (j+1)).flatMap poL=(L.take j).flatMap poL++poL L[j]:=by
     rw[List.take_succ_eq_append_getElem hjt,List.flatMap_append,List.flatMap_cons,List.flatMap_nil,List.append_nil]
    have hpre:∃t,((L.take j).flatMap poL++poL L[j])++t=L.flatMap poL:=⟨(L.drop (j+1)).flatMap poL,by rw[<-hta,<-List.flatMap_append,List.take_append_drop]⟩;rw[hta]at hg4;generalize L[j]=m at hm hg4 hpre;have hml:=hm.len;have hmp:=hm.ps;refine ok_join (fun q=>q=(d,A++((L.take j).flatMap poL++poL m).filter (fun p=>p.1==(i:Int)),(i:Int),L,(L.length:Int),(j:Int))) (fun q hq=>hg4 _ hq) fun g5 hg5=>?_
    show Ok (eG _ _ (d,A++((L.take j).flatMap poL).filter (fun p=>p.1==(i:Int)),(i:Int),L,(L.length:Int),(j:Int),poL m,((poL m).length:Int),0)) _;generalize poL m=P at *;generalize (L.take j).flatMap poL=B at *;refine ok_loop (fun n q=>q=(d,A++(B++P.take n).filter (fun p=>p.1==(i:Int)),(i:Int),L,(L.length:Int),(j:Int),P,(P.length:Int),(n:Int))/\n<=P.length) P.length (fun n q ⟨e1,hn⟩=>?_) ⟨by simp,Nat.zero_le _⟩ (by omega);subst e1;refine ok_let (ok_if (fun hc=>?_) fun hc=>?_)
    .have hnt:n<P.length:=by simpa using hc
     refine ok_join (fun q=>q=(d,A++(B++P.take (n+1)).filter (fun p=>p.1==(i:Int)),(i:Int),L,(L.length:Int),(j:Int),P,(P.length:Int),(n:Int))) ?_ fun g6 hg6=>?_
     .rintro q rfl;exact ok_letE (w:=((n+1:Nat):Int)) (wv _ rfl (by omega) (by omega)) (ok_again hnt ⟨rfl,hnt⟩)
     refine ok_bind (aJo hnt) (ok_join (fun q=>q=(d,A++(B++P.take (n+1)).filter (fun p=>p.1==(i:Int)),(i:Int),L,(L.length:Int),(j:Int),P,(P.length:Int),(n:Int))) (fun q hq=>hg6 _ hq) fun g7 hg7=>?_);have hp:=hmp _ (List.getElem_mem hnt);have htn:B++P.take (n+1)=(B++P.take n)++[P[n]]:=by rw[List.take_succ_eq_append_getElem hnt,List.append_assoc]
     have hle:(A++(B++P.take n).filter (fun p=>p.1==(i:Int))).length<=28:=by
      obtain⟨t,ht⟩:=hpre;exact hA _ ⟨P.drop n++t,by rw[<-ht,List.append_assoc,List.append_assoc,<-List.append_assoc (P.take n),List.take_append_drop]⟩
     rw[htn,List.filter_append,<-List.append_assoc]at hg7;refine ok_if (fun hq=>ok_bind (copy50 hp.ma.2) (ok_let (ok_bind (aJm (by simp only[List.length_singleton];omega) (by simp only[List.length_singleton];omega)) (hg7 _ ?_)))) fun hq=>hg7 _ ?_
     .rw[List.filter_cons_of_pos (p:=fun p:PortT=>p.1==(i:Int)) hq,List.filter_nil]
     .rw[List.filter_cons_of_neg (p:=fun p:PortT=>p.1==(i:Int)) (by simpa using hq),List.filter_nil,List.append_nil]
    .have:P.length<=n:=by simpa using hc
     exact ok_leave (hg5 _ (by rw[List.take_of_length_le this]))
   .have:L.length<=j:=by simpa using hc
    exact ok_leave (hg3 _ (by rw[List.take_of_length_le this]))
 · have hge : i = 1000 := by
     have:¬(i:Int)<=999:=of_decide_eq_false hc;omega
   subst hge;exact ok_leave (hg _ (below_all hP h14))
theorem owner27E{d:DbT}(h:DbAt d):∃f:Int->Int×Bool,∀N,3000<=N->∀x,n27 N (d,x)=some (f x):=by
 refine⟨fun x=>Classical.choose (owner27 (N:=2000) (by omega) h x),fun N hN x=>?_⟩;have:=(Classical.choose_spec (owner27 (N:=2000) (by omega) h x)).1;exact aGj (T:=TN) (show 2003<=N by omega) 27 (d,x) _ this
/-- The rule of a port. -/
structure RuP(f:Int->Int×Bool)(u:RuT)(p:PortT):Prop where
 id:u.1=p.1
 asn:u.2.1=(f p.1).1
 sw:u.2.2.1=p.2.1
 ma:u.2.2.2.1=maL p
 ok:RuOk u
theorem rules15E{N:Nat}(hN:20000<=N){d:DbT}(h:DbAt d){f:Int->Int×Bool}(hf:∀N,3000<=N->∀x,n27 N (d,x)=some (f x)):Ok (n15 (N+5) (d,1,2)) fun r=>r.2=0/\r.1.length=(Lp d).length/\∀(i:Nat) u p,r.1[i]?=some u->(Lp d)[i]?=some p->RuP f u p:=by
 have hQ:=h.Lp_in;have hQl:=h.L.2;rw[e15];refine ok_bind (check44 (N:=N) (by omega) h) (ok_if (fun h=>by cases h) fun _=>ok_letE (w:=false) rfl (ok_letE (w:=false) rfl (ok_letE (w:=false) rfl (ok_letE (w:=false) rfl (ok_if (fun h=>by cases h) fun _=>ok_bind (ports26E (N:=N+1) (by omega) h) ?_)))));generalize Lp d=Q at *;refine ok_join (fun l=>l.length=Q.length/\∀(i:Nat) u p,l[i]?=some u->Q[i]?=some p->RuP f u p) (fun l hl=>ok_some ⟨rfl,hl⟩) fun g hg=>?_
 refine ok_loop (fun i q=>∃l,q=(1,2,d,l,Q,(Q.length:Int),(i:Int))/\i<=Q.length/\l.length=i/\∀(j:Nat) u p,l[j]?=some u->Q[j]?=some p->RuP f u p) Q.length (fun i q ⟨l,e1,hi,hl,hu⟩=>?_) ⟨[],rfl,Nat.zero_le _,rfl,fun j u p hj=>(by cases hj)⟩ (by omega);subst e1;refine ok_let (ok_if (fun hc=>?_) fun hc=>ok_leave (hg _ ⟨(by
  have:Q.length<=i:=by simpa using hc
  show l.length=Q.length;omega),hu⟩))
 have hlt:i<Q.length:=by simpa using hc
 have hp:=(hQ _ (List.getElem_mem hlt)).ma.2;refine ok_bind (aJo hlt) ?_;have hpe:Q[i]?=some Q[i]:=List.getElem?_eq_getElem hlt;generalize Q[i]=p at hp hpe;refine ok_bind (hf (N+4) (by omega) _) (ok_let (ok_let (ok_let ?_)));have hfin:∀u:RuT,RuP f u p->∀(j:Nat) v q,(l++[u])[j]?=some v->Q[j]?=some q->RuP f v q:=fun u hu2 j v q hv hq=>by
  by_cases h1:j<i
  .rw[List.getElem?_append_left (by omega)]at hv;exact hu j v q hv hq
  · have hj : j < (l ++ [u]).length := by
      cases hlt2:decide (j<(l++[u]).length)
      .rw[List.getElem?_eq_none (by simpa using hlt2)]at hv;cases hv
      .exact of_decide_eq_true hlt2
    have:j=l.length:=by rw[List.length_append,List.length_singleton]at hj;omega
    subst this;subst hl;rw[List.getElem?_concat_length]at hv;rw[hpe]at hq;cases hv;cases hq;exact hu2
 refine ok_join (fun q=>∃u:RuT,q=(1,2,d,l,p,u,Q,(Q.length:Int),(i:Int))/\(u.1=p.1/\u.2.1=(f p.1).1/\u.2.2.1=p.2.1/\u.2.2.2.1=maL p)/\u.2.2.2.2.1.length<=1/\u.2.2.2.2.2.1=[]) ?_ fun g2 hg2=>?_
 .rintro q ⟨u,e1,⟨a1,a2,a3,a4⟩,b2,b3⟩;subst e1;refine ok_let (ok_join (fun q=>∃u,q=(1,2,d,l,u,Q,(Q.length:Int),(i:Int))/\RuP f u p) ?_ fun g3 hg3=>?_)
  .rintro q ⟨u,e1,a⟩;subst e1;exact ok_let (ok_bind (aJm (by simp only[List.length_singleton];omega) (by simp only[List.length_singleton];omega)) (ok_letE (w:=((i+1:Nat):Int)) (wv _ rfl (by omega) (by omega)) (ok_again hlt ⟨l++[u],rfl,hlt,by rw[List.length_append,hl];rfl,hfin u a⟩)))
  .refine ok_if (fun _=>ok_let (hg3 _ ⟨_,rfl,a1,a2,a3,a4,by show u.2.2.2.1.length<=2;rw[a4];exact hp,b2,by simp⟩)) fun _=>hg3 _ ⟨u,rfl,a1,a2,a3,a4,by rw[a4];exact hp,b2,by rw[b3];simp⟩
 .exact ok_if (fun _=>ok_let (hg2 _ ⟨_,rfl,⟨rfl,rfl,rfl,rfl⟩,by simp,rfl⟩)) fun _=>hg2 _ ⟨_,rfl,⟨rfl,rfl,rfl,rfl⟩,by simp,rfl⟩
end Go.Proofs.YtbpocjclcbjggaaGreatDoor

/- Chapter 09, plainly: the document's Bindings of a drawn database: one for each address of each port. -/
namespace Go.Proofs.YtbpocjclcbjggaaGreatDoor
open Go.VM
set_option maxRecDepth 10000
theorem eqA_iff{a b:AddrT}:eqA a b=true↔a=b:=by
 obtain⟨a1,a2,a3⟩:=a;obtain⟨b1,b2,b3⟩:=b;simp only[eqA,bne_iff_ne,ne_eq,Bool.false_eq,Bool.not_eq_false,Bool.and_eq_true,beq_iff_eq,Prod.mk.injEq]
theorem eqM_iff{a b:MacT}:eqM a b=true↔a=b:=by
 obtain⟨a1,a2,a3,a4,a5,a6⟩:=a;obtain⟨b1,b2,b3,b4,b5,b6⟩:=b;simp only[eqM,bne_iff_ne,ne_eq,Bool.false_eq,Bool.not_eq_false,Bool.and_eq_true,beq_iff_eq,Prod.mk.injEq]
structure BOk(T:List (AddrT×PortT))(B:List BiT):Prop where
 len:B.length=T.length
 src:∀b∈B,∃t∈T,b.1=t.1/\b.2.1∈(maL t.2)[0]?/\b.2.2=t.2.1
 all:∀t∈T,∃b∈B,b.1=t.1
end Go.Proofs.YtbpocjclcbjggaaGreatDoor
