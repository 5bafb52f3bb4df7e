/- Chapter 09, plainly: the law CompileDiffs. -/
import Derived.Test.YtbpocjclcbjggaaGreatDoorDB
namespace Go.Proofs.YtbpocjclcbjggaaGreatDoor
open Go.VM
set_option maxRecDepth 100000
theorem same16{N:Nat}(hN:100<=N){a:List RuT}(ha:Gd a):n16 (N+3) (a,a)=some true:=by
 have h14:=ha.le;refine ok_get ?_;rw[e16];refine ok_if (fun h=>by simp at h) fun _=>ok_join (fun _=>True) (fun _ _=>ok_some rfl) fun g hg=>?_
 refine ok_loop (fun(i:Nat) (q:List RuT×List RuT×Int×Int)=>q=(a,a,(a.length:Int),(i:Int))/\i<=a.length) a.length (fun i q hq=>?_) ⟨rfl,Nat.zero_le _⟩ (by omega);obtain⟨e1,hi⟩:=hq;subst e1;refine ok_let (ok_if (fun hc=>?_) fun hc=>ok_leave (hg _ trivial));have hlt:i<a.length:=by simpa using hc
 exact ok_bind (aJo hlt) (ok_bind (aJo hlt) (ok_bind (same20E (N:=N) hN (ha.ok _ (List.getElem_mem hlt)) _) (ok_if (fun h=>by have h2:=eqR_iff.2 (rfl:a[i]=a[i]);rw[h2]at h;cases h) fun _=>ok_letE (w:=((i+1:Nat):Int)) (wv _ rfl (by omega) (by omega)) (ok_again hlt ⟨rfl,hlt⟩))))
theorem gd_rules{d:DbT}(h:DbAt d){f:Int->Int×Bool}{l:List RuT}(h1:l.length=(Lp d).length)(h2:∀(i:Nat) u p,l[i]?=some u->(Lp d)[i]?=some p->RuP f u p):Gd l where
 sa:=List.pairwise_iff_getElem.2 fun i j hi hj hij=>by
  have k1:=(h2 i _ _ (List.getElem?_eq_getElem hi) (List.getElem?_eq_getElem (h1▸hi))).id;have k2:=(h2 j _ _ (List.getElem?_eq_getElem hj) (List.getElem?_eq_getElem (h1▸hj))).id;rw[k1,k2];exact h.L.1.id_lt _ hij
 ok:=fun u hu=>by
  obtain⟨i,hi,rfl⟩:=List.getElem_of_mem hu;exact(h2 i _ _ (List.getElem?_eq_getElem hi) (List.getElem?_eq_getElem (h1▸hi))).ok
 le:=by rw[h1];exact h.L.2
theorem gd_nil:Gd []:=⟨List.Pairwise.nil,fun u hu=>(by cases hu),Nat.zero_le _⟩
theorem gd_set{l:List RuT}(h:Gd l){k:Nat}(hk:k<l.length){u:RuT}(h1:u.1=l[k].1)(h2:RuOk u):Gd (l.set k u) where
 sa:=List.pairwise_iff_getElem.2 fun i j hi hj hij=>by
  rw[List.length_set]at hi hj;have key:∀(n:Nat) (hn:n<l.length),((l.set k u)[n]'(by rw[List.length_set];exact hn)).1=l[n].1:=fun n hn=>by
   rw[List.getElem_set];split
   .rename_i e;subst e;exact h1
   .rfl
  rw[key i hi,key j hj];exact List.pairwise_iff_getElem.1 h.sa i j hi hj hij
 ok:=fun v hv=>by
  rcases List.mem_or_eq_of_mem_set hv with hv|rfl
  .exact h.ok v hv
  .exact h2
 le:=by rw[List.length_set];exact h.le
theorem gd_cut{l:List RuT}(h:Gd l)(k:Nat):Gd (l.take k++l.drop (k+1)):=by
 have hs:(l.take k++l.drop (k+1)).Sublist l:=by
  rw[<-List.eraseIdx_eq_take_drop_succ];exact List.eraseIdx_sublist l k
 exact⟨h.sa.sublist hs,fun u hu=>h.ok u (hs.subset hu),Nat.le_trans hs.length_le h.le⟩
theorem tk_pos{l:List RuT}{p:RuT->Bool}{i:Nat}(h:i<l.length)(e:p l[i]=true):(l.take (i+1)).filter p=(l.take i).filter p++[l[i]]:=by
 rw[List.take_succ_eq_append_getElem h,List.filter_append,List.filter_cons_of_pos e,List.filter_nil]
theorem tk_neg{l:List RuT}{p:RuT->Bool}{i:Nat}(h:i<l.length)(e:p l[i]=false):(l.take (i+1)).filter p=(l.take i).filter p:=by
 rw[List.take_succ_eq_append_getElem h,List.filter_append,List.filter_cons_of_neg (by simp[e]),List.filter_nil,List.append_nil]
theorem tk_le{l:List RuT}(h:l.length<=14)(p:RuT->Bool)(i:Nat):((l.take i).filter p).length<=14:=by
 have h1:=List.length_filter_le p (l.take i);rw[List.length_take]at h1;omega
theorem tdw{l:List RuT}{x:Int}{i:Nat}(hi:i<l.length)(h:∀r∈l.take i,r.1<x)(h2:l[i].1<x):∀r∈l.take (i+1),r.1<x:=fun r hr=>by
 rw[List.take_succ_eq_append_getElem hi]at hr;rcases List.mem_append.1 hr with hr|hr
 .exact h r hr
 .rw[List.mem_singleton.1 hr];exact h2
theorem tdr{l:List RuT}(hs:Asc l){x:Int}{i:Nat}(hi:i<l.length)(h2:¬l[i].1<x):∀r∈l.drop i,¬r.1<x:=fun r hr=>by
 obtain⟨j,hj,rfl⟩:=List.getElem_of_mem hr;rw[List.getElem_drop];rw[List.length_drop]at hj;by_cases h0:j=0
 .subst h0;exact h2
 .have:=List.pairwise_iff_getElem.1 hs i (i+j) hi (by omega) (by omega);omega
theorem diffsE(N:Nat)(hN:100000<N){l m:List Int}(hl:l.length<=9223372036854775807)(hm:m.length<=9223372036854775807)(y:Int):n6 (N+12) (l,m,y)=some true:=by
 refine ok_get ?_;rw[e6];refine ok_bind (v:=(l,0)) (e8 _ _) (ok_bind' (database_ok (N+7) (by omega) (DK0 hl)) fun v1 ⟨hdb,_⟩=>?_);obtain⟨f,hf⟩:=owner27E hdb;refine ok_bind' (rules15E (N:=N+6) (by omega) hdb hf) fun v2 ⟨_,hx1,hx2⟩=>ok_bind (v:=(m,0)) (e8 _ _) (ok_bind' (database_ok (N+7) (by omega) (DK0 hm)) fun v4 ⟨hdb2,_⟩=>?_)
 obtain⟨f2,hf2⟩:=owner27E hdb2;refine ok_bind' (rules15E (N:=N+6) (by omega) hdb2 hf2) fun v5 ⟨_,hy1,hy2⟩=>?_
 have gx:Gd v2.1:=gd_rules hdb hx1 hx2;have gy:Gd v5.1:=gd_rules hdb2 hy1 hy2;have hxp:0<v2.1.length:=by rw[hx1];exact hdb.Lp_pos
 clear hx1 hx2 hy1 hy2 hf hf2 hdb hdb2;generalize v2.1=x at *;generalize v5.1=y5 at *;have hx14:=gx.le;have happ:aH3 112 ([]:List RuT) x=some x:=by
  have:=aJm (b:=112) (l:=([]:List RuT)) (m:=x) (by simp only[List.length_nil];omega) (by simp only[List.length_nil];omega)
  rwa [List.nil_append]at this
 refine ok_bind happ ?_;obtain⟨v7,hv7,w1,w2⟩:=mod_ok (N+10) (a:=y) (b:=(x.length:Int)) (by omega) (by omega);obtain⟨k,rfl⟩:=Int.eq_ofNat_of_zero_le w1;have hk:k<x.length:=by omega
 refine ok_bind hv7 (ok_bind (aJo hk) (ok_letE (w:=x.set k (x[k].1,x[k].2.1,x[k].2.2.1,x[k].2.2.2.1,x[k].2.2.2.2.1,x[k].2.2.2.2.2.1,(0:Int),x[k].2.2.2.2.2.2.2)) rfl ?_));have gz:=gd_set gx hk (u:=(x[k].1,x[k].2.1,x[k].2.2.1,x[k].2.2.2.1,x[k].2.2.2.2.1,x[k].2.2.2.2.2.1,(0:Int),x[k].2.2.2.2.2.2.2)) rfl (by
  have:=gx.ok _ (List.getElem_mem hk);exact⟨this.ma,this.l4,this.l6⟩)
 generalize x.set k (x[k].1,x[k].2.1,x[k].2.2.1,x[k].2.2.2.1,x[k].2.2.2.2.1,x[k].2.2.2.2.2.1,(0:Int),x[k].2.2.2.2.2.2.2)=z at *;have hz14:=gz.le;refine ok_let (ok_join (fun q=>∃z,q=(x,y5,z)/\Gd z) ?_ fun g hg=>?_)
 .rintro q ⟨z,rfl,gz⟩;refine ok_let (ok_let (ok_letE (w:=[(x,y5),(x,z),(z,x),(x,x),([],x),(x,[])]) rfl ?_));have hps:∀p∈[(x,y5),(x,z),(z,x),(x,x),([],x),(x,[])],Gd p.1/\Gd p.2:=fun p hp=>by
   simp only[List.mem_cons,List.not_mem_nil,or_false]at hp;rcases hp with rfl|rfl|rfl|rfl|rfl|rfl
   .exact⟨gx,gy⟩
   .exact⟨gx,gz⟩
   .exact⟨gz,gx⟩
   .exact⟨gx,gx⟩
   .exact⟨gd_nil,gx⟩
   .exact⟨gx,gd_nil⟩
  have hpl:[(x,y5),(x,z),(z,x),(x,x),([],x),(x,[])].length=6:=rfl;generalize [(x,y5),(x,z),(z,x),(x,x),([],x),(x,[])]=ps at hps hpl;refine ok_join (fun _=>True) (fun _ _=>ok_bind (awake' (by omega)) (ok_some rfl)) fun g hg=>?_
  refine ok_loop (fun(i:Nat) (q:List (List RuT×List RuT)×Int×Int)=>q=(ps,(ps.length:Int),(i:Int))/\i<=ps.length) ps.length (fun i q hq=>?_) ⟨rfl,Nat.zero_le _⟩ (by omega);obtain⟨e1,hi⟩:=hq;subst e1;refine ok_if (fun hc=>?_) fun hc=>ok_leave (hg _ trivial)
  have hlt:i<ps.length:=by simpa using hc
  refine ok_join (fun q=>q=(ps,(ps.length:Int),(i:Int))) (fun q hq=>?_) fun g1 hg1=>?_
  .subst hq;exact ok_letE (w:=((i+1:Nat):Int)) (wv _ rfl (by omega) (by omega)) (ok_again hlt ⟨rfl,hlt⟩)
  refine ok_bind (aJo hlt) ?_;obtain⟨gb,ga⟩:=hps _ (List.getElem_mem hlt);generalize ps[i]=p at gb ga;obtain⟨b,a⟩:=p;simp only at gb ga;have hb14:=gb.le;have ha14:=ga.le;have hA:(diffD b a).1.length<=14:=by
   have:=ft_le ha14 (nw b) a.length
   rwa [List.take_length]at this
  have hR:(diffD b a).2.1.length<=14:=by
   have:=ft_le hb14 (nw a) b.length
   rwa [List.take_length]at this
  have hC:(diffD b a).2.2.length<=14:=by
   have:=ft_le ha14 (ch b) a.length
   rwa [List.take_length]at this
  refine ok_bind (diff28 (N:=N+6) (by omega) gb ga) (ok_bind (diff29 (N:=N+6) (by omega) gb ga) (ok_letE (w:=false) (by simp) (ok_letE (w:=false) (by simp) (ok_letE (w:=false) (by simp) (ok_letE (w:=false) rfl (ok_if (fun h=>by cases h) fun _=>?_))))));have hinit:=Ins.init ga.sa gb.sa;have hkept:keptR b a=fun r=>!((diffD b a).2.1++(diffD b a).2.2).any fun x=>x==r.1:=rfl
  generalize (diffD b a).1=A at *;generalize (diffD b a).2.1=R at *;generalize (diffD b a).2.2=C at *;refine ok_join (fun q=>q=((b,a),A,C,A,b.filter (keptR b a),ps,(ps.length:Int),(i:Int))) (fun q hq=>?_) fun g2 hg2=>?_
  .subst hq;have hAC:aH3 8 ([]++A) C=some (A++C):=aJm (by simp only[List.nil_append];omega) (by simp only[List.nil_append];omega);refine ok_bind (aJm (by simp only[List.length_nil];omega) (by simp only[List.length_nil];omega)) (ok_bind hAC ?_);have hml:(b.filter (keptR b a)).length<=14:=by
    have:=tk_le hb14 (keptR b a) b.length
    rwa [List.take_length]at this
   have hIl:(A++C).length<=28:=by rw[List.length_append];omega
   refine ok_join (fun q=>q=((b,a),A,A,a,ps,(ps.length:Int),(i:Int))) (fun q hq=>?_) fun g3 hg3=>?_
   .subst hq;refine ok_bind (same16 (N:=N+8) (by omega) ga) (ok_if (fun h=>by cases h) fun _=>ok_join (fun q=>q=(ps,(ps.length:Int),(i:Int))) (fun q hq=>by subst hq;exact hg1 _ rfl) fun g4 hg4=>?_);refine ok_loop (fun(j:Nat) q=>q=(A,A,ps,(ps.length:Int),(i:Int),(A.length:Int),(j:Int))/\j<=A.length) A.length (fun j q hq=>?_) ⟨rfl,Nat.zero_le _⟩ (by omega);obtain⟨e1,hj⟩:=hq;subst e1;refine ok_let (ok_if (fun hc=>?_) fun hc=>ok_leave (hg4 _ rfl));have hjt:j<A.length:=by simpa using hc
    exact ok_bind (aJo hjt) (ok_bind (aJo hjt) (ok_if (fun h=>by simp at h) fun _=>ok_letE (w:=((j+1:Nat):Int)) (wv _ rfl (by omega) (by omega)) (ok_again hjt ⟨rfl,hjt⟩)))
   .have hinit0:Ins a (A++C) (b.filter (keptR b a)):=hinit;show Ok (eG (N+11) _ ((b,a),A,A,b.filter (keptR b a),ps,(ps.length:Int),(i:Int),A++C,((A++C).length:Int),0)) _;generalize b.filter (keptR b a)=M0 at *;generalize A++C=ids at *;refine ok_loop (fun(j:Nat) q=>∃M,q=((b,a),A,A,M,ps,(ps.length:Int),(i:Int),ids,(ids.length:Int),(j:Int))/\j<=ids.length/\Ins a (ids.drop j) M/\M.length<=14+j) ids.length (fun j q hq=>?_) ⟨M0,rfl,Nat.zero_le _,hinit,hml⟩ (show ids.length<N+11 by omega);obtain⟨M,e1,hj,hM,hMl⟩:=hq;subst e1;refine ok_let (ok_if (fun hc=>?_) fun hc=>ok_leave (hg3 _ ?_))
    .have hjt:j<ids.length:=by simpa using hc
     refine ok_join (fun q=>∃M,q=((b,a),A,A,M,ps,(ps.length:Int),(i:Int),ids,(ids.length:Int),(j:Int))/\Ins a (ids.drop (j+1)) M/\M.length<=14+(j+1)) (fun q hq=>?_) fun g4 hg4=>?_
     .obtain⟨M,e1,h1,h2⟩:=hq;subst e1;exact ok_letE (w:=((j+1:Nat):Int)) (wv _ rfl (by omega) (by omega)) (ok_again hjt ⟨M,rfl,hjt,h1,h2⟩)
     rw[List.drop_eq_getElem_cons hjt]at hM;have hsrc:=hM.src _ List.mem_cons_self;refine ok_bind (aJo hjt) (ok_bind (rule18 (N:=N+8) (by omega) (by omega) ga.ok _) (ok_if (fun h=>?_) fun h=>?_))
     .have h':(ruleD a ids[j]).2=false:=by simpa using h
      rw[hsrc]at h';cases h'
     obtain⟨_,hq1⟩:=ruleD_yes hsrc;generalize ids[j]=x1 at hM hq1 hsrc;have hstep:=fun(n:Nat) (hn:n<=M.length) h1 h2=>hM.step (i:=n) hn h1 h2
     generalize hqe:ruleD a x1=qq at *;obtain⟨qv,qb⟩:=qq;simp only at hq1 hstep;refine ok_join (fun q=>∃n:Nat,n<=M.length/\(∀r∈M.take n,r.1<x1)/\(∀r∈M.drop n,¬r.1<x1)/\q=((b,a),A,A,M,qv,(n:Int),ps,(ps.length:Int),(i:Int),ids,(ids.length:Int),(j:Int))) (fun q hq=>?_) fun g5 hg5=>?_
     .obtain⟨n,hn,h1,h2,e1⟩:=hq;subst e1;have hl1:(M.take n).length<=42:=by rw[List.length_take];omega
      have hl2:(M.drop n).length<=42:=by rw[List.length_drop];omega
      have ht:aH3 112 ([]:List RuT) (M.take n)=some (M.take n):=by
       have:=aJm (b:=112) (l:=([]:List RuT)) (m:=M.take n) (by simp only[List.length_nil];omega) (by simp only[List.length_nil];omega)
       rwa [List.nil_append]at this
      refine ok_bind (aJ0 hn) (ok_bind ht (ok_letE (w:=[qv]) rfl (ok_bind (aJm (by simp only[List.length_singleton];omega) (by simp only[List.length_singleton];omega)) (ok_bind (aJ1 hn) (ok_bind (aJm (by simp only[List.length_append,List.length_singleton];omega) (by simp only[List.length_append,List.length_singleton];omega)) (hg4 _ ⟨_,rfl,hstep n hn h1 h2,?_⟩))))));simp only[List.length_append,List.length_singleton,List.length_take,List.length_drop];omega
     .refine ok_loop (fun(n:Nat) q=>q=((b,a),A,A,M,qv,(n:Int),ps,(ps.length:Int),(i:Int),ids,(ids.length:Int),(j:Int))/\n<=M.length/\∀r∈M.take n,r.1<x1) M.length (fun n q hq=>?_) ⟨rfl,Nat.zero_le _,fun r hr=>(by rw[List.take_zero]at hr;cases hr)⟩ (show M.length<N+11 by omega);obtain⟨e1,hn,h1⟩:=hq;subst e1;by_cases hnt:n<M.length
      .refine ok_letE (w:=true) (decide_eq_true (by show(n:Int)<(M.length:Int);omega)) (ok_bind (bifT rfl (aJo hnt)) (ok_let (ok_let (ok_if (fun h=>?_) fun h=>?_))))
       .have h':M[n].1<x1:=by rw[<-hq1];simpa using h
        exact ok_letE (w:=((n+1:Nat):Int)) (wv _ rfl (by omega) (by omega)) (ok_again hnt ⟨rfl,hnt,tdw hnt h1 h'⟩)
       .have h':¬M[n].1<x1:=by rw[<-hq1];simpa using h
        exact ok_leave (hg5 _ ⟨n,hn,h1,tdr hM.sa hnt h',rfl⟩)
      .refine ok_letE (w:=false) (decide_eq_false (by show ¬(n:Int)<(M.length:Int);omega)) (ok_bind (bifF rfl rfl) (ok_let (ok_letE (w:=false) rfl (ok_if (fun h=>by cases h) fun _=>ok_leave (hg5 _ ⟨n,hn,h1,fun r hr=>?_,rfl⟩)))));rw[List.drop_of_length_le (by omega)]at hr;cases hr
    .have hle:ids.length<=j:=by simpa using hc
     rw[List.drop_of_length_le hle]at hM;rw[hM.done]
  .refine ok_loop (fun(n:Nat) q=>q=((b,a),A,R,C,A,(b.take n).filter (keptR b a),ps,(ps.length:Int),(i:Int),b,(b.length:Int),(n:Int))/\n<=b.length) b.length (fun n q hq=>?_) ⟨rfl,Nat.zero_le _⟩ (by omega);obtain⟨e1,hn⟩:=hq;subst e1;refine ok_let (ok_if (fun hc=>?_) fun hc=>ok_leave (hg2 _ ?_))
   .have hnt:n<b.length:=by simpa using hc
    refine ok_join (fun q=>q=((b,a),A,R,C,A,(b.take (n+1)).filter (keptR b a),ps,(ps.length:Int),(i:Int),b,(b.length:Int),(n:Int))) (fun q hq=>?_) fun g3 hg3=>?_
    .subst hq;exact ok_letE (w:=((n+1:Nat):Int)) (wv _ rfl (by omega) (by omega)) (ok_again hnt ⟨rfl,hnt⟩)
    have hRC:aH3 8 ([]++R) C=some (R++C):=aJm (by simp only[List.nil_append];omega) (by simp only[List.nil_append];omega);have hfl:=tk_le hb14 (keptR b a) n;refine ok_bind (aJo hnt) (ok_bind (aJm (by simp only[List.length_nil];omega) (by simp only[List.length_nil];omega)) (ok_bind hRC (ok_join (fun q=>q=((b,a),A,R,C,A,(b.take n).filter (keptR b a),b[n],(R++C).any (fun x=>x==b[n].1),ps,(ps.length:Int),(i:Int),b,(b.length:Int),(n:Int))) (fun q hq=>?_) fun g4 hg4=>?_)))
    .subst hq;refine ok_join (fun q=>q=((b,a),A,R,C,A,(b.take (n+1)).filter (keptR b a),ps,(ps.length:Int),(i:Int),b,(b.length:Int),(n:Int))) (fun q hq=>by subst hq;exact hg3 _ rfl) fun g5 hg5=>ok_if (fun h=>?_) fun h=>?_
     .rw[tk_pos hnt (p:=keptR b a) (by rw[hkept];exact h)]at hg5;exact ok_let (ok_bind (aJm (by simp only[List.length_singleton];omega) (by simp only[List.length_singleton];omega)) (hg5 _ rfl))
     .rw[tk_neg hnt (p:=keptR b a) (by rw[hkept];exact h)]at hg5;exact hg5 _ rfl
    .have hRl:(R++C).length<=28:=by rw[List.length_append];omega
     generalize R++C=G at *;generalize b[n]=r at *;refine ok_loop (fun(j:Nat) q=>q=((b,a),A,R,C,A,(b.take n).filter (keptR b a),r,(G.take j).any (fun x=>x==r.1),ps,(ps.length:Int),(i:Int),b,(b.length:Int),(n:Int),G,(G.length:Int),(j:Int))/\j<=G.length) G.length (fun j q hq=>?_) ⟨rfl,Nat.zero_le _⟩ (by omega);obtain⟨e1,hj⟩:=hq;subst e1;refine ok_let (ok_if (fun hc=>?_) fun hc=>ok_leave (hg4 _ ?_))
     .have hjt:j<G.length:=by simpa using hc
      refine ok_bind (aJo hjt) (ok_letE (w:=(G.take (j+1)).any (fun x=>x==r.1)) ?_ (ok_letE (w:=((j+1:Nat):Int)) (wv _ rfl (by omega) (by omega)) (ok_again hjt ⟨rfl,hjt⟩)));rw[List.take_succ_eq_append_getElem hjt,List.any_append,List.any_cons,List.any_nil,Bool.or_false];show(bif (G.take j).any (fun x=>x==r.1)then true else(G[j]==r.1))=_;cases(G.take j).any (fun x=>x==r.1)<;>rfl
     .have hle:G.length<=j:=by simpa using hc
      rw[List.take_of_length_le hle]
   .have hle:b.length<=n:=by simpa using hc
    rw[List.take_of_length_le hle]
 .refine ok_if (fun h=>?_) fun h=>hg _ ⟨z,rfl,gz⟩
  have hz1:1<z.length:=by
   have:((1:Int)<(z.length:Int)):=of_decide_eq_true h;omega
  refine ok_let ?_;obtain⟨v8,hv8,w3,w4⟩:=mod_ok (N+10) (a:=IntKind.i64.wrap (Int.tdiv y 8)) (b:=(z.length:Int)) (by omega) (by omega);obtain⟨j,rfl⟩:=Int.eq_ofNat_of_zero_le w3;have hj:j<z.length:=by omega
  have hl1:(z.take j).length<=14:=by rw[List.length_take];omega
  have hl2:(z.drop (j+1)).length<=14:=by rw[List.length_drop];omega
  exact ok_bind hv8 (ok_bind (aJ0 (by omega)) (ok_letE (w:=((j+1:Nat):Int)) (wv _ rfl (by omega) (by omega)) (ok_bind (aJ1 (by omega)) (ok_bind (aJm (by omega) (by omega)) (hg _ ⟨_,rfl,gd_cut gz j⟩)))))
end Go.Proofs.YtbpocjclcbjggaaGreatDoor
