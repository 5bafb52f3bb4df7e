/- Chapter 09, plainly: in a database that is drawn nothing occurs twice; the document's Check answers 0. -/
import Derived.Test.YtbpocjclcbjggaaGreatDoorCE
namespace Go.Proofs.YtbpocjclcbjggaaGreatDoor
open Go.VM
set_option maxRecDepth 10000
theorem foldO_inv{β σ:Type}{f:β->σ->Option σ}(Inv:Nat->σ->Prop):∀(l:List β) (n:Nat) (s:σ),(∀(i:Nat) (h:i<l.length) (s:σ),Inv (n+i) s->∃t,f l[i] s=some t/\Inv (n+i+1) t)->Inv n s->∃t,foldO f l s=some t/\Inv (n+l.length) t
 |[],n,s,_,hs=>⟨s,rfl,hs⟩
 |x::l,n,s,h,hs=>by
  obtain⟨t,h1,h2⟩:=h 0 (by simp) s hs;obtain⟨u,h3,h4⟩:=foldO_inv Inv l (n+1) t (fun i hi s hs=>by
   have:=h (i+1) (by simpa using hi) s (by rwa [Nat.add_right_comm]at hs)
   rwa [show n+(i+1)+1=n+1+i+1 by omega]at this) h2
  refine⟨u,?_,by rwa [show n+(x::l).length=n+1+l.length by simp only[List.length_cons];omega]⟩;have h1':f x s=some t:=h1;rw[foldO,h1'];exact h3
theorem mem_putS{α:Type}[DecidableEq α]{x y:α}{l:List α}(h:x∈putS y l):x=y\/x∈l:=by
 unfold putS at h;split at h
 .exact .inr h
 .simpa[or_comm]using h
theorem macV_inj{a b:Nat}(h:macV a=macV b):a=b:=by
 simp only[macV,Prod.mk.injEq]at h;omega
theorem fourV_inj{a b:Nat}(h:fourV a=fourV b):a=b:=by
 simp only[fourV,Prod.mk.injEq]at h;omega
theorem sixV_inj{a b:Nat}(h:sixV a=sixV b):a=b:=by
 simp only[sixV,Prod.mk.injEq]at h;omega
theorem four_six{a b:Nat}(h:fourV a=sixV b):False:=by
 simp only[fourV,sixV,Prod.mk.injEq]at h;exact absurd h.1 (by decide)
theorem four_z{a:Nat}(h:z3=fourV a):False:=by
 simp only[fourV,z3,Prod.mk.injEq]at h;omega
theorem six_z{a:Nat}(h:z3=sixV a):False:=by
 simp only[sixV,z3,Prod.mk.injEq]at h;exact absurd h.1 (by decide)
structure J(k:Nat)(t:T3):Prop where
 id:∀x∈t.1,x<=3*(k:Int)+2
 ad:∀a∈t.2.1,∃j,1<=j/\j<=k/\(a=fourV j\/a=sixV j)
 ma:∀m∈t.2.2,∃j,1<=j/\j<=k/\(m=macV (100+j)\/m=macV (200+j))
theorem J.z{k:Nat}{t:T3}(h:J k t):z3∉t.2.1:=fun hz=>by
 obtain⟨j,_,_,e|e⟩:=h.ad _ hz
 .exact four_z e
 .exact six_z e
theorem J.four{k:Nat}{t:T3}(h:J k t):fourV (k+1)∉t.2.1:=fun hz=>by
 obtain⟨j,_,_,e|e⟩:=h.ad _ hz
 .have:=fourV_inj e;omega
 .exact four_six e
theorem J.six{k:Nat}{t:T3}(h:J k t):sixV (k+1)∉t.2.1:=fun hz=>by
 obtain⟨j,_,_,e|e⟩:=h.ad _ hz
 .exact four_six e.symm
 .have:=sixV_inj e;omega
theorem mac_step{k:Nat}{D:List MacT}(hk:k<14)(h:∀m∈D,∃j,1<=j/\j<=k/\(m=macV (100+j)\/m=macV (200+j)))(ma:Nat) :
  ∃D',foldO twMac (bif ma==0 then[macV (100+(k+1))]else[macV (100+(k+1)),macV (200+(k+1))]) D=some D'/\∀m∈D',∃j,1<=j/\j<=k+1/\(m=macV (100+j)\/m=macV (200+j)):=by
 have h1:macV (100+(k+1))∉D:=fun hm=>by
  obtain⟨j,_,_,e|e⟩:=h _ hm<;>· have:=macV_inj e;omega
 have h2:macV (200+(k+1))∉putS (macV (100+(k+1))) D:=fun hm=>by
  rcases mem_putS hm with e|hm
  .have:=macV_inj e;omega
  .obtain⟨j,_,_,e|e⟩:=h _ hm<;>· have:=macV_inj e;omega
 have g1:∀m∈putS (macV (100+(k+1))) D,∃j,1<=j/\j<=k+1/\(m=macV (100+j)\/m=macV (200+j)):=fun m hm=>by
  rcases mem_putS hm with e|hm
  .exact⟨k+1,by omega,by omega,.inl e⟩
  .obtain⟨j,a,b,c⟩:=h _ hm;exact⟨j,a,by omega,c⟩
 cases(ma==0)
 .refine⟨putS (macV (200+(k+1))) (putS (macV (100+(k+1))) D),by rw[cond_false];simp only[foldO,twMac,if_neg h1,if_neg h2],fun m hm=>?_⟩;rcases mem_putS hm with e|hm
  .exact⟨k+1,by omega,by omega,.inr e⟩
  .exact g1 m hm
 .exact⟨putS (macV (100+(k+1))) D,by rw[cond_true];simp only[foldO,twMac,if_neg h1],g1⟩
theorem putA_mem{a x:AddrT}{A:List AddrT}(h:x∈putA a A):(x=a/\a≠z3)\/x∈A:=by
 unfold putA at h;split at h
 .exact .inr h
 .rename_i hne;rcases mem_putS h with e|hm
  .exact .inl ⟨e,hne⟩
  .exact .inr hm
theorem port_step{k:Nat}(hk:k<14){p:PortT}(hp:PAt (k+1) p){s:T3}(h:J k s):∃t,twPo p s=some t/\J (k+1) t:=by
 obtain⟨r,kd,cp,ma,ad,l1,l2,l3,l4,l5,rfl⟩:=hp;obtain⟨D',h1,h2⟩:=mac_step hk h.ma ma;have i1:(portV (k+1) r kd cp ma ad).1∉s.1:=fun hm=>by
  have:=h.id _ hm;have e:(portV (k+1) r kd cp ma ad).1=3*((k+1:Nat):Int)+r:=rfl;omega
 have hv4:v4L (portV (k+1) r kd cp ma ad)=z3\/v4L (portV (k+1) r kd cp ma ad)=fourV (k+1):=by
  match ad,l5 with
  |0,_=>exact .inr rfl
  |1,_=>exact .inl rfl
  |2,_=>exact .inr rfl
 have hv6:v6L (portV (k+1) r kd cp ma ad)=z3\/v6L (portV (k+1) r kd cp ma ad)=sixV (k+1):=by
  match ad,l5 with
  |0,_=>exact .inl rfl
  |1,_=>exact .inr rfl
  |2,_=>exact .inr rfl
 have i2:v4L (portV (k+1) r kd cp ma ad)∉s.2.1:=by
  rcases hv4 with e|e<;>rw[e]
  .exact h.z
  .exact h.four
 have i3:v6L (portV (k+1) r kd cp ma ad)∉s.2.1:=by
  rcases hv6 with e|e<;>rw[e]
  .exact h.z
  .exact h.six
 refine⟨(putS (portV (k+1) r kd cp ma ad).1 s.1,putA (v6L (portV (k+1) r kd cp ma ad)) (putA (v4L (portV (k+1) r kd cp ma ad)) s.2.1),D'),?_,⟨fun x hx=>?_,fun a ha=>?_,h2⟩⟩
 .unfold twPo;rw[if_neg (fun e=>e.elim i1 fun e=>e.elim i2 i3)];have e:maL (portV (k+1) r kd cp ma ad)=(bif ma==0 then[macV (100+(k+1))]else[macV (100+(k+1)),macV (200+(k+1))]):=rfl;rw[e,h1]
 .rcases mem_putS hx with e|hx
  .have e2:(portV (k+1) r kd cp ma ad).1=3*((k+1:Nat):Int)+r:=rfl;omega
  .have:=h.id _ hx;omega
 .rcases putA_mem ha with⟨e,hne⟩|ha
  .rcases hv6 with e6|e6
   .exact absurd e6 hne
   .exact⟨k+1,by omega,by omega,.inr (e.trans e6)⟩
  .rcases putA_mem ha with⟨e,hne⟩|ha
   .rcases hv4 with e4|e4
    .exact absurd e4 hne
    .exact⟨k+1,by omega,by omega,.inl (e.trans e4)⟩
   .obtain⟨j,a1,b1,c1⟩:=h.ad _ ha;exact⟨j,a1,by omega,c1⟩
theorem ports_step{k:Nat}{l:List PortT}(hk:k+l.length<=14)(hl:PsAt k l){s:T3}(h:J k s):∃t,foldO twPo l s=some t/\J (k+l.length) t:=
 foldO_inv J l k s (fun i hi s hs=>port_step (by omega) (by have:=hl i hi;rwa [Nat.add_right_comm]at this) hs) h
def ixN(ns i:Nat):Nat:=if i<ns then i else 2+(i-ns)
theorem names_inj{a b:Nat}(ha:a<7)(hb:b<7)(h:names.getD a []=names.getD b []):a=b:=by
 have k:∀a,a<7->∀b,b<7->names.getD a []=names.getD b []->a=b:=by decide
 exact k a ha b hb h
theorem fS_ix{i:Nat}(h:i<2):(fS i).2=names.getD i []:=by
 match i,h with
 |0,_=>rfl
 |1,_=>rfl
theorem fM_ix{i:Nat}(h:i<5):(fM i).2=names.getD (2+i) []:=by
 match i,h with
 |0,_=>rfl
 |1,_=>rfl
 |2,_=>rfl
 |3,_=>rfl
 |4,_=>rfl
theorem DbAt.at{d:DbT}(h:DbAt d)(i:Nat)(hi:i<(allM d).length):∃a,MAt (((allM d).take i).flatMap poL).length a (names.getD (ixN (srv d).length i) []) (allM d)[i]:=by
 have h1:=h.nm;have h2:=h.ns;unfold allM at *;by_cases hl:i<(srv d).length
 .simp only[List.getElem_append_left hl,List.take_append_of_le_length (Nat.le_of_lt hl),ixN,if_pos hl];have:=h.sv i hl;rw[fS_ix (by omega),Nat.zero_add]at this;exact⟨_,this⟩
 .rw[List.length_append]at hi;have:=h.me (i-(srv d).length) (by omega);rw[fM_ix (by omega)]at this;refine⟨(fM (i-(srv d).length)).1,?_⟩
  .simp only[List.getElem_append_right (Nat.le_of_not_lt hl),List.take_append,List.take_of_length_le (Nat.le_of_not_lt hl),List.flatMap_append,List.length_append,ixN,if_neg hl];exact this
theorem DbAt.all{d:DbT}(h:DbAt d)(i:Nat)(hi:i<=(allM d).length):PsAt 0 (((allM d).take i).flatMap poL)/\(((allM d).take i).flatMap poL).length<=2*i:=by
 induction i with
 |zero=>exact⟨by rw[List.take_zero];exact PsAt.nil 0,by simp⟩
 |succ j ih=>
  obtain⟨h1,h2⟩:=ih (by omega);obtain⟨a,hm⟩:=h.at j hi;rw[List.take_succ_eq_append_getElem hi,List.flatMap_append,List.flatMap_cons,List.flatMap_nil,List.append_nil];exact⟨h1.append (by rw[Nat.zero_add];exact hm.ps),by have:=hm.len;rw[List.length_append];omega⟩
theorem mem_step{d:DbT}(h:DbAt d):∃t,foldO twMe (allM d) ([],[],[],[])=some t:=by
 have h7:=h.le;have hn:=h.nm;have hs:=h.ns;have hlen:(allM d).length=(srv d).length+(mem d).length:=by rw[allM,List.length_append]
 obtain⟨t,ht,_⟩:=foldO_inv (f:=twMe) (fun i (s:List (List UInt8)×T3)=>i<=(allM d).length->(∀x∈s.1,∃j,j<i/\x=names.getD (ixN (srv d).length j) [])/\J (((allM d).take i).flatMap poL).length s.2) (allM d) 0 ([],[],[],[]) (fun i hi s hI=>by
  rw[Nat.zero_add]at hI ⊢;obtain⟨g1,g2⟩:=hI (by omega);obtain⟨a,hm⟩:=h.at i hi;have hle:=(h.all i (by omega)).2;have hml:=hm.len;obtain⟨t,k1,k2⟩:=ports_step (by omega) hm.ps g2;have hnot:(allM d)[i].2.1∉s.1:=fun hx=>by
   obtain⟨j,hj,e⟩:=g1 _ hx;rw[hm.nm]at e;have:=names_inj (by unfold ixN;split<;>omega) (by unfold ixN;split<;>omega) e;unfold ixN at this;split at this<;>split at this<;>omega
  refine⟨(putS (allM d)[i].2.1 s.1,t),?_,fun _=>⟨fun x hx=>?_,?_⟩⟩
  .unfold twMe;rw[if_neg hnot,k1]
  .rcases mem_putS hx with e|hx
   .exact⟨i,by omega,e.trans hm.nm⟩
   .obtain⟨j,a1,b1⟩:=g1 _ hx;exact⟨j,by omega,b1⟩
  .rw[List.take_succ_eq_append_getElem hi,List.flatMap_append,List.flatMap_cons,List.flatMap_nil,List.append_nil,List.length_append];exact k2) (fun _=>⟨fun x hx=>(by cases hx),⟨fun x hx=>(by cases hx),fun x hx=>(by cases hx),fun x hx=>(by cases hx)⟩⟩)
 exact⟨t,ht⟩
theorem srv_step{d:DbT}(h:DbAt d):∃S,foldO (twSrv (firstA d)) (srv d) []=some S/\∀x∈S,x=65000:=by
 have hf:∀(i:Nat) (hi:i<(srv d).length),firstA d=65000:=fun i hi=>by
  unfold firstA;have h0:=(h.sv 0 (by omega)).asn;cases hs:srv d with
  |nil=>rw[hs]at hi;cases hi
  |cons m l=>
   have e:(srv d)[0]'(by omega)=m:=by simp only[hs,List.getElem_cons_zero]
   rw[e]at h0;exact h0
 obtain⟨t,ht,h2⟩:=foldO_inv (f:=twSrv (firstA d)) (fun _ S=>∀x∈S,x=65000) (srv d) 0 [] (fun i hi s hI=>by
  have ha:(srv d)[i].1=65000:=(h.sv i hi).asn;refine⟨putS (srv d)[i].1 s,?_,fun x hx=>?_⟩
  .unfold twSrv;rw[if_pos (ha.trans (hf i hi).symm)]
  .rcases mem_putS hx with e|hx
   .exact e.trans ha
   .exact hI x hx) (fun x hx=>by cases hx)
 exact⟨t,ht,h2⟩
theorem asn_step{d:DbT}(h:DbAt d){S:List Int}(hS:∀x∈S,x=65000):∃t,foldO twMem (mem d) S=some t:=by
 have hn:=h.nm;obtain⟨t,ht,h2⟩:=foldO_inv (f:=twMem) (fun i S=>∀x∈S,x=65000\/∃j:Nat,j<i/\x=1+7*(j:Int)) (mem d) 0 S (fun i hi s hI=>by
  rw[Nat.zero_add]at hI ⊢;have ha:(mem d)[i].1=1+7*(i:Int):=(h.me i hi).asn;refine⟨putS (mem d)[i].1 s,?_,fun x hx=>?_⟩
  .unfold twMem;rw[if_neg fun hx=>?_];rcases hI _ hx with e|⟨j,hj,e⟩<;>omega
  .rcases mem_putS hx with e|hx
   .exact .inr ⟨i,by omega,e.trans ha⟩
   .rcases hI x hx with e|⟨j,hj,e⟩
    .exact .inl e
    .exact .inr ⟨j,by omega,e⟩) (fun x hx=>.inl (hS x hx))
 exact⟨t,ht⟩
theorem twice_no{d:DbT}(h:DbAt d):twD d=false:=by
 obtain⟨S,h1,h2⟩:=srv_step h;obtain⟨t,h3⟩:=asn_step h h2;obtain⟨u,h4⟩:=mem_step h;unfold twD;rw[h1];show(match foldO twMem (mem d) S with
  |none=>true
  |some _=>(foldO twMe (allM d) ([],[],[],[])).isNone)=false
 rw[h3,h4];rfl
theorem twice75{N:Nat}{d:DbT}(h:DbAt d):n75 (N+1) d=some false:=by
 rw[e75,gTw,if_pos,twice_no h];refine smB_iff.2 ⟨by have:=h.ns;omega,by have:=h.nm;omega,fun m hm=>by have:=(h.ok m hm).len;omega,fun p hp=>?_⟩;obtain⟨m,hm,hp⟩:=List.mem_flatMap.1 hp;obtain⟨k,_,_,r,kd,cp,ma,ad,_,_,_,_,_,rfl⟩:=(h.ok m hm).ps p hp;exact Nat.le_trans macs_len.2 (by decide)
theorem check44{N:Nat}(hN:200<=N){d:DbT}(h:DbAt d):n44 (N+4) d=some 0:=by
 rw[e44];exact bindB (many72 (N:=N) (by omega) h) (bifF rfl (bindB (wrong73 (N:=N) (by omega) h) (bifF rfl (bindB (out74 (N:=N) hN h) (bifF rfl (bindB (twice75 (N:=N+2) h) rfl))))))
end Go.Proofs.YtbpocjclcbjggaaGreatDoor
