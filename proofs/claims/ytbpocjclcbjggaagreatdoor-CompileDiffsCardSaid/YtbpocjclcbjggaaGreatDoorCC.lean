/- Chapter 09, plainly: a port that is drawn is not wrong. -/
import Derived.Test.YtbpocjclcbjggaaGreatDoorCB
namespace Go.Proofs.YtbpocjclcbjggaaGreatDoor
open Go.VM
set_option maxRecDepth 10000
def PIn(p:PortT):Prop:=∃k,1<=k/\k<=14/\PAt k p
theorem in111(N:Nat){x a b:Int}(h1:a<=x)(h2:x<=b):n111 (N+1) (x,a,b)=some true:=by
 rw[e111];exact letB (v:=true) (bifT (decide_eq_true h1) (decide_eq_true h2)) rfl
def z3:AddrT:=(false,0,0)
theorem z115(N:Nat):n115 (N+1) z3=some true:=e115 N z3
theorem f115(N:Nat){n:Nat}(h:n<256):n115 (N+1) (fourV n)=some false:=
 aGj (T:=TN) (Nat.succ_le_succ (Nat.zero_le N)) 115 (fourV n) false (evN (T:=Bool) (f:=fun n=>n115 1 (fourV n)) (g:=fun _=>false) (b:=256) (by kernel_rfl) h)
theorem s115(N:Nat){n:Nat}(h:n<256):n115 (N+1) (sixV n)=some false:=e115 N (sixV n)
theorem z140(N:Nat):n140 (N+1) z3=some true:=e140 N z3
theorem f140(N:Nat){n:Nat}(h:n<256):n140 (N+1) (fourV n)=some true:=
 aGj (T:=TN) (Nat.succ_le_succ (Nat.zero_le N)) 140 (fourV n) true (evN (T:=Bool) (f:=fun n=>n140 1 (fourV n)) (g:=fun _=>true) (b:=256) (by kernel_rfl) h)
theorem mac139(N:Nat)(n:Nat):n139 (N+1) (macV n)=some false:=e139 N (macV n)
theorem cap_rng{cp:Nat}(h:cp<4):1<=([1,10,100,400]:List Int).getD cp 0/\([1,10,100,400]:List Int).getD cp 0<=400:=by
 match cp,h with
 |0,_=>exact⟨by decide,by decide⟩
 |1,_=>exact⟨by decide,by decide⟩
 |2,_=>exact⟨by decide,by decide⟩
 |3,_=>exact⟨by decide,by decide⟩
theorem macs_mem{k r kd cp ma ad:Nat}{m:MacT}(h:m∈maL (portV k r kd cp ma ad)):∃n,m=macV n:=by
 have h':m∈(bif ma==0 then[macV (100+k)]else[macV (100+k),macV (200+k)]):=h;cases hb:(ma==0)
 .rw[hb,cond_false]at h';simp only[List.mem_cons,List.not_mem_nil,or_false]at h';rcases h' with h'|h'<;>exact⟨_,h'⟩
 .rw[hb,cond_true]at h';simp only[List.mem_cons,List.not_mem_nil,or_false]at h';exact⟨_,h'⟩
theorem macs_len{k r kd cp ma ad:Nat}:1<=(maL (portV k r kd cp ma ad)).length/\(maL (portV k r kd cp ma ad)).length<=2:=by
 show 1<=(bif ma==0 then[macV (100+k)]else[macV (100+k),macV (200+k)]).length/\(bif ma==0 then[macV (100+k)]else[macV (100+k),macV (200+k)]).length<=2;cases(ma==0)<;>exact⟨by simp,by simp⟩
theorem port114{N:Nat}(hN:4<N){p:PortT}(hp:PIn p):n114 (N+2) p=some false:=by
 obtain⟨k,k1,k2,r,kd,cp,ma,ad,l1,l2,l3,l4,l5,rfl⟩:=hp;have hl:=macs_len (k:=k) (r:=r) (kd:=kd) (cp:=cp) (ma:=ma) (ad:=ad);have hm:=@macs_mem k r kd cp ma ad;refine ok_get ?_;rw[e114];refine ok_join (fun q=>q=portV k r kd cp ma ad) (fun q hq=>?_) fun g hg=>?_
 .subst hq;have hc:=cap_rng l3;refine ok_bind (in111 _ (by show(1:Int)<=3*(k:Int)+r;omega) (by show 3*(k:Int)+r<=(999:Int);omega)) (ok_bind (v:=true) (bifT rfl (in111 _ (by show(0:Int)<=kd;omega) (by show(kd:Int)<=7;omega))) (ok_letE (w:=false) rfl (ok_bind (v:=true) (bifT rfl (in111 _ hc.1 hc.2)) (ok_letE (w:=false) rfl ?_))))
  match ad,l5 with
  |0,_=>exact ok_letE (w:=false) rfl (ok_bind (v:=true) (bifT rfl (f140 _ (by omega))) (ok_letE (w:=false) rfl (ok_bind (v:=true) (bifT rfl (z115 _)) (ok_letE (w:=false) rfl (ok_bind (v:=false) (bifT rfl (f115 _ (by omega))) (ok_bind (v:=false) (bifF rfl rfl) (ok_letE (w:=false) rfl (ok_letE (w:=false) rfl (ok_some rfl)))))))))
  |1,_=>exact ok_letE (w:=false) rfl (ok_bind (v:=true) (bifT rfl (z140 _)) (ok_letE (w:=false) rfl (ok_bind (v:=false) (bifT rfl (s115 _ (by omega))) (ok_letE (w:=false) rfl (ok_bind (v:=true) (bifT rfl (z115 _)) (ok_bind (v:=false) (bifT rfl (s115 _ (by omega))) (ok_letE (w:=false) rfl (ok_letE (w:=false) rfl (ok_some rfl)))))))))
  |2,_=>exact ok_letE (w:=false) rfl (ok_bind (v:=true) (bifT rfl (f140 _ (by omega))) (ok_letE (w:=false) rfl (ok_bind (v:=false) (bifT rfl (s115 _ (by omega))) (ok_letE (w:=false) rfl (ok_bind (v:=false) (bifT rfl (f115 _ (by omega))) (ok_bind (v:=false) (bifF rfl rfl) (ok_letE (w:=false) rfl (ok_letE (w:=false) rfl (ok_some rfl)))))))))
 .refine ok_loop (fun i q=>q.1=portV k r kd cp ma ad/\q.2.1=maL (portV k r kd cp ma ad)/\q.2.2.1=((maL (portV k r kd cp ma ad)).length:Int)/\q.2.2.2=(i:Int)/\i<=(maL (portV k r kd cp ma ad)).length) (maL (portV k r kd cp ma ad)).length (fun i q ⟨e1,e2,e3,e4,hi⟩=>?_) ⟨rfl,rfl,rfl,rfl,Nat.zero_le _⟩ (by omega);generalize maL (portV k r kd cp ma ad)=L at *;obtain⟨q1,q2,q3,q4⟩:=q;simp only at e1 e2 e3 e4;subst e1;subst e2;subst e3;subst e4;refine ok_let (ok_if (fun hc=>?_) fun hc=>ok_leave (hg _ rfl));have hlt:i<q2.length:=by simpa using hc
  obtain⟨n,hn⟩:=hm (List.getElem_mem hlt);refine ok_bind (aJo hlt) ?_;rw[hn];exact ok_bind (mac139 N n) (ok_letE (w:=false) rfl (ok_if (fun h=>by cases h) fun _=>ok_letE (w:=((i+1:Nat):Int)) (wv _ rfl (by omega) (by omega)) (ok_again hlt ⟨rfl,rfl,rfl,rfl,hlt⟩)))
end Go.Proofs.YtbpocjclcbjggaaGreatDoor

/- Chapter 09, plainly: a database that is drawn is neither too great nor wrong. -/
namespace Go.Proofs.YtbpocjclcbjggaaGreatDoor
open Go.VM
set_option maxRecDepth 10000
def names:List (List UInt8):=[[114,115,45,49],[114,115,45,50],[97],[98,45,50],[67,58,51],[100,101,108,116,97],[101]]
structure MOk(m:MemT):Prop where
 asn:1<=m.1/\m.1<=65000
 nm:m.2.1∈names
 set:m.2.2.1∈sets
 l4:0<=m.2.2.2.1/\m.2.2.2.1<20
 l6:0<=m.2.2.2.2.1/\m.2.2.2.2.1<20
 len:1<=(poL m).length/\(poL m).length<=2
 ps:∀p∈poL m,PIn p
theorem fS_nm{i:Nat}(h:i<2):(fS i).2∈names:=by
 match i,h with
 |0,_=>decide
 |1,_=>decide
theorem fM_nm{i:Nat}(h:i<5):(fM i).2∈names:=by
 match i,h with
 |0,_=>decide
 |1,_=>decide
 |2,_=>decide
 |3,_=>decide
 |4,_=>decide
theorem MAt.ok{k:Nat}{a:Int}{nm:List UInt8}{m:MemT}(h:MAt k a nm m)(ha:1<=a/\a<=65000)(hn:nm∈names)(hk:k<=12):MOk m:=
 ⟨by rw[h.asn];exact ha,by rw[h.nm];exact hn,h.set,h.l4,h.l6,h.len,fun p hp=>by
  obtain⟨i,hi,rfl⟩:=List.getElem_of_mem hp;have:=h.len;exact⟨k+1+i,by omega,by omega,h.ps i hi⟩⟩
theorem DbAt.ok{d:DbT}(h:DbAt d):∀m∈allM d,MOk m:=fun m hm=>by
 have h1:=h.nm;have h2:=h.ns;have h3:=h.sv.all.2;rcases List.mem_append.1 hm with hm|hm
 .obtain⟨i,hi,rfl⟩:=List.getElem_of_mem hm;have h4:=(h.sv.ps i (by omega)).2;exact(h.sv i hi).ok ⟨by show(1:Int)<=65000;omega,by show(65000:Int)<=65000;omega⟩ (fS_nm (by omega)) (by omega)
 .obtain⟨i,hi,rfl⟩:=List.getElem_of_mem hm;have h4:=(h.me.ps i (by omega)).2;exact(h.me i hi).ok ⟨by show(1:Int)<=1+7*(i:Int);omega,by show 1+7*(i:Int)<=(65000:Int);omega⟩ (fM_nm (by omega)) (by omega)
theorem DbAt.le{d:DbT}(h:DbAt d):(allM d).length<=7:=by
 have h1:=h.nm;have h2:=h.ns;simp only[allM,List.length_append];omega
theorem all49{N:Nat}{d:DbT}(h:DbAt d):n49 (N+1) d=some (allM d):=by
 have h1:=h.nm;have h2:=h.ns;rw[e49];refine bindB (aJm (l:=[]) (m:=srv d) (by simp only[List.length_nil];omega) (by simp only[List.length_nil];omega)) (bindB (aJm (l:=[]++srv d) (m:=mem d) ?_ ?_) rfl)
 .simp only[List.length_append,List.length_nil];omega
 .simp only[List.length_append,List.length_nil];omega
theorem many72{N:Nat}(hN:10<N){d:DbT}(h:DbAt d):n72 (N+3) d=some false:=by
 have h1:=h.nm;have h2:=h.ns;have h7:=h.le;have hok:=h.ok;refine ok_get ?_;rw[e72];refine ok_letE (w:=false) (decide_eq_false (by show ¬((srv d).length:Int)>4;omega)) (ok_letE (w:=false) (decide_eq_false (by show ¬((mem d).length:Int)>32;omega)) (ok_if (fun h=>by cases h) fun _=>ok_bind (all49 h) ?_));generalize allM d=L at *;refine ok_join (fun _=>True) (fun _ _=>ok_some rfl) fun g hg=>?_
 refine ok_loop (fun i q=>q.1=L/\q.2.1=(L.length:Int)/\q.2.2=(i:Int)/\i<=L.length) L.length (fun i q ⟨e1,e2,e3,hi⟩=>?_) ⟨rfl,rfl,rfl,Nat.zero_le _⟩ (by omega);obtain⟨q1,q2,q3⟩:=q;simp only at e1 e2 e3;subst e1;subst e2;subst e3;refine ok_if (fun hc=>?_) fun hc=>ok_leave (hg _ trivial)
 have hlt:i<q1.length:=by simpa using hc
 have hm:=hok _ (List.getElem_mem hlt);refine ok_join (fun q=>q=(q1,(q1.length:Int),(i:Int))) (fun q hq=>by subst hq;exact ok_letE (w:=((i+1:Nat):Int)) (wv _ rfl (by omega) (by omega)) (ok_again hlt ⟨rfl,rfl,rfl,hlt⟩)) fun g2 hg2=>?_
 refine ok_bind (aJo hlt) ?_;generalize q1[i]=m at hm;have hml:=hm.len;have hmp:=hm.ps;refine ok_bind (in111 _ (by show(1:Int)<=((poL m).length:Int);omega) (by show((poL m).length:Int)<=4;omega)) (ok_if (fun h=>by cases h) fun _=>ok_join (fun q=>q=(q1,(q1.length:Int),(i:Int))) (fun q hq=>hg2 _ hq) fun g3 hg3=>?_);show Ok (eG _ _ (q1,(q1.length:Int),(i:Int),poL m,((poL m).length:Int),0)) _;generalize poL m=P at *;refine ok_loop (fun j q=>q=(q1,(q1.length:Int),(i:Int),P,(P.length:Int),(j:Int))/\j<=P.length) P.length (fun j q ⟨e1,hj⟩=>?_) ⟨rfl,Nat.zero_le _⟩ (by omega);subst e1;refine ok_let (ok_if (fun hc=>?_) fun hc=>ok_leave (hg3 _ rfl));have hjt:j<P.length:=by simpa using hc
 refine ok_bind (aJo hjt) ?_;obtain⟨k,_,_,r,kd,cp,ma,ad,_,_,_,_,_,hp⟩:=hmp _ (List.getElem_mem hjt);have hl:=macs_len (k:=k) (r:=r) (kd:=kd) (cp:=cp) (ma:=ma) (ad:=ad);rw[<-hp]at hl;exact ok_bind (in111 _ (by show(1:Int)<=((maL P[j]).length:Int);omega) (by show((maL P[j]).length:Int)<=2;omega)) (ok_if (fun h=>by cases h) fun _=>ok_letE (w:=((j+1:Nat):Int)) (wv _ rfl (by omega) (by omega)) (ok_again hjt ⟨rfl,hjt⟩))
theorem name113{N:Nat}(hN:60<=N){nm:List UInt8}(h:nm∈names\/nm∈sets.tail):n113 N nm=some true:=by
 have key:(names++sets.tail).all (fun l=>isS (T:=Bool) (n113 60 l) true)=true:=by kernel_rfl
 exact aGj (T:=TN) hN 113 nm true (isS_eq (T:=Bool) (List.all_eq_true.1 key nm (List.mem_append.2 h)))
theorem lan112{N:Nat}(hN:100<=N):n112 N lan4=some true/\n112 N lan6=some true:=by
 have k1:isS (T:=Bool) (n112 100 lan4) true=true:=by kernel_rfl
 have k2:isS (T:=Bool) (n112 100 lan6) true=true:=by kernel_rfl
 exact⟨aGj (T:=TN) hN 112 lan4 true (isS_eq (T:=Bool) k1),aGj (T:=TN) hN 112 lan6 true (isS_eq (T:=Bool) k2)⟩
theorem set21{N:Nat}(hN:60<=N){s:List UInt8}(h:s∈sets):(bif (!(s==([]:List UInt8)))&&true then n113 N s else some false)=some (!(s==([]:List UInt8))):=by
 simp only[sets,List.mem_cons,List.not_mem_nil,or_false]at h;rcases h with rfl|rfl|rfl
 .exact bifF rfl rfl
 .exact bifT rfl (name113 hN (.inr (by decide)))
 .exact bifT rfl (name113 hN (.inr (by decide)))
theorem set45{s:List UInt8}(h:s∈sets):(s==([45]:List UInt8))=false:=by
 simp only[sets,List.mem_cons,List.not_mem_nil,or_false]at h;rcases h with rfl|rfl|rfl<;>decide
theorem wrong73{N:Nat}(hN:100<=N){d:DbT}(h:DbAt d):n73 (N+3) d=some false:=by
 have h7:=h.le;have hok:=h.ok;have h49:=all49 (N:=N+1) h;obtain⟨d1,d2,S,M⟩:=d;obtain rfl:d1=lan4:=h.l4;obtain rfl:d2=lan6:=h.l6;refine ok_get ?_;rw[e73];refine ok_bind (lan112 (by omega)).1 (ok_letE (w:=false) rfl (ok_bind (v:=true) (bifT rfl (in111 _ (by show(8:Int)<=24;decide) (by show(24:Int)<=30;decide))) (ok_letE (w:=false) rfl (ok_bind (v:=true) (bifT rfl (lan112 (by omega)).2) (ok_letE (w:=false) rfl (ok_letE (w:=false) rfl (ok_bind (v:=true) (bifT rfl (in111 _ (by show(32:Int)<=64;decide) (by show(64:Int)<=64;decide))) (ok_letE (w:=false) rfl (ok_if (fun h=>by cases h) fun _=>ok_bind h49 ?_)))))))));clear h49;generalize allM (lan4,lan6,S,M)=L at *;refine ok_join (fun _=>True) (fun _ _=>ok_some rfl) fun g hg=>?_
 refine ok_loop (fun i q=>q.1=L/\q.2.1=(L.length:Int)/\q.2.2=(i:Int)/\i<=L.length) L.length (fun i q ⟨e1,e2,e3,hi⟩=>?_) ⟨rfl,rfl,rfl,Nat.zero_le _⟩ (by omega);obtain⟨q1,q2,q3⟩:=q;simp only at e1 e2 e3;subst e1;subst e2;subst e3;refine ok_if (fun hc=>?_) fun hc=>ok_leave (hg _ trivial)
 have hlt:i<q1.length:=by simpa using hc
 have hm:=hok _ (List.getElem_mem hlt);refine ok_join (fun q=>q=(q1,(q1.length:Int),(i:Int))) (fun q hq=>by subst hq;exact ok_letE (w:=((i+1:Nat):Int)) (wv _ rfl (by omega) (by omega)) (ok_again hlt ⟨rfl,rfl,rfl,hlt⟩)) fun g2 hg2=>?_
 refine ok_bind (aJo hlt) ?_;generalize q1[i]=m at hm;obtain⟨a,nm,st,x4,x6,P⟩:=m;have hml:=hm.len;have hmp:=hm.ps;have ha:=hm.asn;have h4:=hm.l4;have h6:=hm.l6;have hst:=hm.set;have hnm:=hm.nm;simp only[poL]at hml hmp ha h4 h6 hst hnm;have e21:=set21 (N:=N+2) (by omega) hst;refine ok_bind (in111 _ (by show(1:Int)<=a;omega) (by show a<=(4294967295:Int);omega)) (ok_bind (v:=true) (bifT rfl (name113 (by omega) (.inl hnm))) (ok_letE (w:=false) rfl (ok_let (ok_bind e21 ?_))));have e22:(bif !(st==([]:List UInt8))then !(!(st==([]:List UInt8)))else false)=false:=by cases(st==([]:List UInt8))<;>rfl
 refine ok_letE (w:=false) e22 (ok_letE (w:=false) (set45 hst) (ok_letE (w:=false) rfl (ok_bind (v:=true) (bifT rfl (in111 _ (by show(0:Int)<=x4;omega) (by show x4<=(512:Int);omega))) (ok_letE (w:=false) rfl (ok_bind (v:=true) (bifT rfl (in111 _ (by show(0:Int)<=x6;omega) (by show x6<=(512:Int);omega))) (ok_letE (w:=false) rfl (ok_if (fun h=>by cases h) fun _=>ok_join (fun q=>q=(q1,(q1.length:Int),(i:Int))) (fun q hq=>hg2 _ hq) fun g3 hg3=>?_)))))));show Ok (eG _ _ (q1,(q1.length:Int),(i:Int),P,(P.length:Int),0)) _;refine ok_loop (fun j q=>q=(q1,(q1.length:Int),(i:Int),P,(P.length:Int),(j:Int))/\j<=P.length) P.length (fun j q ⟨e1,hj⟩=>?_) ⟨rfl,Nat.zero_le _⟩ (by omega);subst e1;refine ok_let (ok_if (fun hc=>?_) fun hc=>ok_leave (hg3 _ rfl));have hjt:j<P.length:=by simpa using hc
 refine ok_bind (aJo hjt) (ok_bind (port114 (N:=N) (by omega) (hmp _ (List.getElem_mem hjt))) (ok_if (fun h=>by cases h) fun _=>ok_letE (w:=((j+1:Nat):Int)) (wv _ rfl (by omega) (by omega)) (ok_again hjt ⟨rfl,hjt⟩)))
end Go.Proofs.YtbpocjclcbjggaaGreatDoor
