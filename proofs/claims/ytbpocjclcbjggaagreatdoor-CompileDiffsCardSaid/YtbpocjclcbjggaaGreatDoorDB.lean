/- Chapter 09, plainly: a list of rules, changed by the difference, is the other one. -/
import Derived.Test.YtbpocjclcbjggaaGreatDoorDA
namespace Go.Proofs.YtbpocjclcbjggaaGreatDoor
open Go.VM
set_option maxRecDepth 10000
abbrev Asc(l:List RuT):Prop:=l.Pairwise fun u v=>u.1<v.1
theorem Asc.inj{l:List RuT}(h:Asc l){u v:RuT}(hu:u∈l)(hv:v∈l)(e:u.1=v.1):u=v:=by
 obtain⟨i,hi,rfl⟩:=List.getElem_of_mem hu;obtain⟨j,hj,rfl⟩:=List.getElem_of_mem hv;have h1:=List.pairwise_iff_getElem.1 h;rcases Nat.lt_trichotomy i j with hij|hij|hij
 .have:=h1 i j hi hj hij;omega
 .subst hij;rfl
 .have:=h1 j i hj hi hij;omega
theorem ruleD_no{l:List RuT}{x:Int}(h:(ruleD l x).2=false):∀u∈l,u.1≠x:=fun u hu e=>by
 unfold ruleD at h;cases hf:l.find? fun u=>u.1==x with
 |none=>
  have:=List.find?_eq_none.1 hf u hu;simp[e]at this
 |some v=>rw[hf]at h;cases h
theorem ruleD_yes{l:List RuT}{x:Int}(h:(ruleD l x).2=true):(ruleD l x).1∈l/\(ruleD l x).1.1=x:=by
 unfold ruleD at h ⊢;cases hf:l.find? fun u=>u.1==x with
 |none=>rw[hf]at h;cases h
 |some v=>exact⟨List.mem_of_find?_eq_some hf,by
  have:=List.find?_some hf;show v.1=x;simpa using this⟩
theorem ruleD_mem{l:List RuT}(h:Asc l){u:RuT}(hu:u∈l):ruleD l u.1=(u,true):=by
 have h2:(ruleD l u.1).2=true:=by
  cases hh:(ruleD l u.1).2 with
  |true=>rfl
  |false=>exact absurd rfl (ruleD_no hh u hu)
 obtain⟨h3,h4⟩:=ruleD_yes h2;exact Prod.ext (h.inj h3 hu h4) h2
theorem sorted_eq:∀{l m:List RuT},Asc l->Asc m->(∀u,u∈l↔u∈m)->l=m
 |[],[],_,_,_=>rfl
 |[],v::m,_,_,h=>absurd ((h v).2 List.mem_cons_self) List.not_mem_nil
 |u::l,[],_,_,h=>absurd ((h u).1 List.mem_cons_self) List.not_mem_nil
 |u::l,v::m,hl,hm,h=>by
  obtain⟨l1,l2⟩:=List.pairwise_cons.1 hl;obtain⟨m1,m2⟩:=List.pairwise_cons.1 hm;have huv:u=v:=by
   rcases List.mem_cons.1 ((h u).1 List.mem_cons_self)with e|e
   .exact e
   .rcases List.mem_cons.1 ((h v).2 List.mem_cons_self)with e2|e2
    .exact e2.symm
    .have h1:=m1 u e;have h2:=l1 v e2;omega
  subst huv;rw[sorted_eq l2 m2 fun w=>⟨fun hw=>?_,fun hw=>?_⟩]
  .rcases List.mem_cons.1 ((h w).1 (List.mem_cons_of_mem _ hw))with e|e
   .subst e;have:=l1 w hw;omega
   .exact e
  .rcases List.mem_cons.1 ((h w).2 (List.mem_cons_of_mem _ hw))with e|e
   .subst e;have:=m1 w hw;omega
   .exact e
structure Ins(a:List RuT)(rest:List Int)(made:List RuT):Prop where
 asc:Asc a
 sa:Asc made
 sub:∀r∈made,r∈a
 cov:∀r∈a,r∈made\/r.1∈rest
 dj:∀r∈made,r.1∉rest
 nd:rest.Nodup
 src:∀x∈rest,(ruleD a x).2=true
def gone(b a:List RuT):List Int:=(diffD b a).2.1++(diffD b a).2.2
def keptR(b a:List RuT)(r:RuT):Bool:=!(gone b a).any fun x=>x==r.1
theorem any_port{l:List Int}{x:Int}:(l.any fun y=>y==x)=true↔x∈l:=by
 rw[List.any_eq_true];exact⟨fun⟨y,hy,e⟩=>by rw[<-(beq_iff_eq.1 e:y=x)];exact hy,fun h=>⟨x,h,by simp⟩⟩
theorem mem_port{l:List RuT}{p:RuT->Bool}{x:Int}:x∈(l.filter p).map (·.1)↔∃r∈l,p r=true/\r.1=x:=by
 rw[List.mem_map];exact⟨fun⟨r,hr,e⟩=>⟨r,(List.mem_filter.1 hr).1,(List.mem_filter.1 hr).2,e⟩,fun⟨r,h1,h2,e⟩=>⟨r,List.mem_filter.2 ⟨h1,h2⟩,e⟩⟩
theorem Asc.nodup{l:List RuT}(h:Asc l)(p:RuT->Bool):((l.filter p).map (·.1)).Nodup:=by
 unfold List.Nodup;rw[List.pairwise_map];exact(h.filter p).imp fun h=>by omega
theorem Ins.init{a b:List RuT}(ha:Asc a)(hb:Asc b):Ins a ((diffD b a).1++(diffD b a).2.2) (b.filter (keptR b a)):=by
 have kept:∀r∈b.filter (keptR b a),r∈b/\r∈a/\ch b r=false:=fun r hr=>by
  obtain⟨h1,h2⟩:=List.mem_filter.1 hr;have h3:r.1∉gone b a:=fun hm=>by
   unfold keptR at h2;rw[any_port.2 hm]at h2;cases h2
  unfold gone at h3;rw[List.mem_append,not_or]at h3;obtain⟨h4,h5⟩:=h3;have h6:nw a r=false:=by
   cases hh:nw a r with
   |false=>rfl
   |true=>exact absurd (mem_port.2 ⟨r,h1,hh,rfl⟩) h4
  have h7:(ruleD a r.1).2=true:=by simpa[nw]using h6
  obtain⟨h8,h9⟩:=ruleD_yes h7;have h10:ch b (ruleD a r.1).1=false:=by
   cases hh:ch b (ruleD a r.1).1 with
   |false=>rfl
   |true=>exact absurd (mem_port.2 ⟨_,h8,hh,h9⟩) h5
  have h11:ruleD b (ruleD a r.1).1.1=(r,true):=by rw[h9];exact ruleD_mem hb h1
  have h12:r=(ruleD a r.1).1:=by
   unfold ch at h10;rw[h11]at h10;have h13:(!eqR r (ruleD a r.1).1)=false:=h10;exact eqR_iff.1 (by simpa using h13)
  exact⟨h1,by rw[h12];exact h8,by rw[h12];exact h10⟩
 refine⟨ha,hb.filter _,fun r hr=>(kept r hr).2.1,fun r hr=>?_,fun r hr hm=>?_,?_,fun x hx=>?_⟩
 .by_cases h1:(ruleD b r.1).2=true
  .by_cases h2:(ruleD b r.1).1=r
   .refine .inl (List.mem_filter.2 ⟨by rw[<-h2];exact(ruleD_yes h1).1,?_⟩);unfold keptR;rw[Bool.not_eq_true',<-Bool.not_eq_true,any_port];intro hm;unfold gone at hm;rcases List.mem_append.1 hm with hm|hm
    .obtain⟨q,hq,hn,e⟩:=mem_port.1 hm;unfold nw at hn;rw[e,ruleD_mem ha hr]at hn;cases hn
    .obtain⟨q,hq,hn,e⟩:=mem_port.1 hm;obtain rfl:=ha.inj hq hr e;unfold ch at hn;rw[h1,eqR_iff.2 h2]at hn;cases hn
   .refine .inr (List.mem_append_right _ (mem_port.2 ⟨r,hr,?_,rfl⟩));unfold ch;rw[h1,eqR_no h2];rfl
  .refine .inr (List.mem_append_left _ (mem_port.2 ⟨r,hr,?_,rfl⟩));unfold nw;rw[(by simpa using h1:(ruleD b r.1).2=false)];rfl
 .obtain⟨k1,k2,k3⟩:=kept r hr;rcases List.mem_append.1 hm with hm|hm
  .obtain⟨q,hq,hn,e⟩:=mem_port.1 hm;unfold nw at hn;rw[e,ruleD_mem hb k1]at hn;cases hn
  .obtain⟨q,hq,hn,e⟩:=mem_port.1 hm;obtain rfl:=ha.inj hq k2 e;rw[k3]at hn;cases hn
 .refine List.nodup_append.2 ⟨ha.nodup _,ha.nodup _,fun x hx y hy e=>?_⟩;subst e;obtain⟨q,hq,hn,e⟩:=mem_port.1 hx;obtain⟨p,hp,hc,e2⟩:=mem_port.1 hy;obtain rfl:=ha.inj hq hp (e.trans e2.symm);unfold nw at hn;unfold ch at hc;cases hh:(ruleD b q.1).2<;>rw[hh]at hn hc
  .cases hc
  .cases hn
 .rcases List.mem_append.1 hx with hx|hx <;>
  .obtain⟨q,hq,_,e⟩:=mem_port.1 hx;rw[<-e,ruleD_mem ha hq]
theorem Ins.step{a:List RuT}{rest:List Int}{made:List RuT}{x:Int}(h:Ins a (x::rest) made){i:Nat}(hi:i<=made.length)(h1:∀r∈made.take i,r.1<x)(h2:∀r∈made.drop i,¬r.1<x):Ins a rest (made.take i++[(ruleD a x).1]++made.drop i):=by
 obtain⟨q1,q2⟩:=ruleD_yes (h.src x List.mem_cons_self);have mem:∀r,r∈made.take i++[(ruleD a x).1]++made.drop i↔r∈made\/r=(ruleD a x).1:=fun r=>by
  have:r∈made↔r∈made.take i\/r∈made.drop i:=by rw[<-List.mem_append,List.take_append_drop]
  rw[this];simp only[List.mem_append,List.mem_singleton];constructor
  .rintro((h|h)|h)
   .exact .inl (.inl h)
   .exact .inr h
   .exact .inl (.inr h)
  .rintro((h|h)|h)
   .exact .inl (.inl h)
   .exact .inr h
   .exact .inl (.inr h)
 have h3:∀r∈made.drop i,x<r.1:=fun r hr=>by
  have h4:=h2 r hr;have h5:r.1≠x:=fun e=>h.dj r (List.mem_of_mem_drop hr) (by rw[e];exact List.mem_cons_self)
  omega
 refine⟨h.asc,?_,fun r hr=>?_,fun r hr=>?_,fun r hr=>?_,(List.nodup_cons.1 h.nd).2,fun y hy=>h.src y (List.mem_cons_of_mem _ hy)⟩
 .refine List.pairwise_append.2 ⟨List.pairwise_append.2 ⟨h.sa.sublist (List.take_sublist _ _),List.pairwise_singleton _ _,fun u hu v hv=>?_⟩,h.sa.sublist (List.drop_sublist _ _),fun u hu v hv=>?_⟩
  .rw[List.mem_singleton.1 hv,q2];exact h1 u hu
  .have k2:=h3 v hv;rcases List.mem_append.1 hu with hu|hu
   .have k1:=h1 u hu;omega
   .rw[List.mem_singleton.1 hu,q2];exact k2
 .rcases(mem r).1 hr with hr|rfl
  .exact h.sub r hr
  .exact q1
 .rcases h.cov r hr with k|k
  .exact .inl ((mem r).2 (.inl k))
  .rcases List.mem_cons.1 k with k|k
   .refine .inl ((mem r).2 (.inr ?_));rw[<-k,ruleD_mem h.asc hr]
   .exact .inr k
 .rcases(mem r).1 hr with hr|rfl
  .exact fun hm=>h.dj r hr (List.mem_cons_of_mem _ hm)
  .rw[q2];exact(List.nodup_cons.1 h.nd).1
theorem Ins.done{a made:List RuT}(h:Ins a [] made):made=a:=
 sorted_eq h.sa h.asc fun u=>⟨fun hu=>h.sub u hu,fun hu=>(h.cov u hu).resolve_right List.not_mem_nil⟩
end Go.Proofs.YtbpocjclcbjggaaGreatDoor
