/- Chapter 26, plainly: wishes in communities; how often the sender's AS is put in front. -/
import Derived.Test.YtgfmodmeimhhpaaDoorCA
namespace Go.Proofs.YtgfmodmeimhhpaaDoor
open Go.VM
set_option maxRecDepth 10000
theorem ok_get{R:Type}{x:Option R}{v:R}(h:Ok x fun r=>r=v):x=some v:=by obtain⟨r,hr,rfl⟩:=h;exact hr
theorem any_step{α:Type}{l:List α}{p:α->Bool}{i:Nat}(hi:i<l.length)(h:(l.take i).any p=false)(h2:p l[i]=false):(l.take (i+1)).any p=false:=by rw[List.take_succ_eq_append_getElem hi,List.any_append,h];simp[h2]
theorem any_found{α:Type}{l:List α}{p:α->Bool}{i:Nat}(hi:i<l.length)(h:p l[i]=true):l.any p=true:=List.any_eq_true.2 ⟨_,List.getElem_mem hi,h⟩
theorem any_none{α:Type}{l:List α}{p:α->Bool}{i:Nat}(hi:l.length<=i)(h:(l.take i).any p=false):l.any p=false:=by rwa [List.take_of_length_le hi]at h
def hasP(l:List (Int×Int))(c:Int×Int):Bool:=l.any fun x=>x.1==c.1&&x.2==c.2
def hasT(l:List (Int×Int×Int))(c:Int×Int×Int):Bool:=l.any fun x=>x.1==c.1&&(x.2.1==c.2.1&&x.2.2==c.2.2)
theorem bcomm(a b:Int):(a==b)=(b==a):=by rw[Bool.eq_iff_iff,beq_iff_eq,beq_iff_eq];exact eq_comm
theorem has68{N:Nat}{l:List (Int×Int)}(c:Int×Int)(hl:l.length<N)(h2:l.length<=2000):n69 (N+3) (l,c)=some (hasP l c):=by
 refine ok_get ?_;rw[e69,e88];refine ok_bind' (P:=fun b=>b=hasP l c) (ok_bind' (P:=fun r=>decide (r>=(0:Int))=hasP l c) ?_ fun r h=>ok_some h) fun b h=>ok_some h
 rw[e96];refine ok_join (fun _=>hasP l c=false) (fun _ h=>ok_some h.symm) fun g hg=>?_
 refine ok_loop (fun i q=>q.2.1=c/\q.1=l/\q.2.2.1=(l.length:Int)/\q.2.2.2=(i:Int)/\i<=l.length/\((l.take i).any fun x=>x.1==c.1&&x.2==c.2)=false) l.length (fun i q ⟨e1,e2,e3,e4,h3,h4⟩=>?_) ⟨rfl,rfl,rfl,rfl,Nat.zero_le _,by simp⟩ hl;obtain⟨q2,q1,q3,q4⟩:=q;simp only at e1 e2 e3 e4;subst e1;subst e2;subst e3;subst e4;refine ok_let (ok_if (fun hc=>?_) fun hc=>?_);have hi:i<q2.length:=by simpa using hc
 refine ok_bind (aJo hi) (ok_let (ok_if (fun h=>ok_leave (ok_some ?_)) fun h=>ok_letE (w:=((i+1:Nat):Int)) (wv _ rfl (by omega) (by omega)) (ok_again hi ⟨rfl,rfl,rfl,rfl,hi,any_step hi h4 ?_⟩)));rw[show hasP q2 q1=true from any_found (p:=fun x:Int×Int=>x.1==q1.1&&x.2==q1.2) hi (by rw[bcomm,bcomm (q2[i]).2];simpa only[aIF]using h)];exact decide_eq_true (by omega);rw[bcomm,bcomm (q2[i]).2];simpa only[aIF]using h;have hi:q2.length<=i:=by simpa using hc
 exact ok_leave (hg () (any_none hi h4))
theorem has70{N:Nat}{l:List (Int×Int×Int)}(c:Int×Int×Int)(hl:l.length<N)(h2:l.length<=2000):n71 (N+3) (l,c)=some (hasT l c):=by
 refine ok_get ?_;rw[e71,e89];refine ok_bind' (P:=fun b=>b=hasT l c) (ok_bind' (P:=fun r=>decide (r>=(0:Int))=hasT l c) ?_ fun r h=>ok_some h) fun b h=>ok_some h
 rw[e97];refine ok_join (fun _=>hasT l c=false) (fun _ h=>ok_some h.symm) fun g hg=>?_
 refine ok_loop (fun i q=>q.2.1=c/\q.1=l/\q.2.2.1=(l.length:Int)/\q.2.2.2=(i:Int)/\i<=l.length/\((l.take i).any fun x=>x.1==c.1&&(x.2.1==c.2.1&&x.2.2==c.2.2))=false) l.length (fun i q ⟨e1,e2,e3,e4,h3,h4⟩=>?_) ⟨rfl,rfl,rfl,rfl,Nat.zero_le _,by simp⟩ hl;obtain⟨q2,q1,q3,q4⟩:=q;simp only at e1 e2 e3 e4;subst e1;subst e2;subst e3;subst e4;refine ok_let (ok_if (fun hc=>?_) fun hc=>?_);have hi:i<q2.length:=by simpa using hc
 refine ok_bind (aJo hi) (ok_let (ok_if (fun h=>ok_leave (ok_some ?_)) fun h=>ok_letE (w:=((i+1:Nat):Int)) (wv _ rfl (by omega) (by omega)) (ok_again hi ⟨rfl,rfl,rfl,rfl,hi,any_step hi h4 ?_⟩)));rw[show hasT q2 q1=true from any_found (p:=fun x:Int×Int×Int=>x.1==q1.1&&(x.2.1==q1.2.1&&x.2.2==q1.2.2)) hi (by rw[bcomm,bcomm (q2[i]).2.1,bcomm (q2[i]).2.2];simpa only[aIF]using h)];exact decide_eq_true (by omega);rw[bcomm,bcomm (q2[i]).2.1,bcomm (q2[i]).2.2];simpa only[aIF]using h;have hi:q2.length<=i:=by simpa using hc
 exact ok_leave (hg () (any_none hi h4))
def hit(L:List (Int×Int×Int))(own who:Int):Nat->Int
 |0=>0|k+1=>if hit L own who k≠0 then hit L own who k else if hasT L (own,103-k,who)=true then 3-k else 0
def prepN(L:List (Int×Int×Int))(own mb:Int):Int:=if hit L own mb 3≠0 then hit L own mb 3 else hit L own 0 3
theorem hit_keep{L:List (Int×Int×Int)}{own who:Int}{k:Nat}(h:hit L own who k≠0):∀m,hit L own who (k+m)=hit L own who k
 |0=>rfl|m+1=>by have:=hit_keep h m;rw[<-Nat.add_assoc,hit,if_pos (by rw[this];exact h),this]
theorem hit_rng{L:List (Int×Int×Int)}{own who:Int}:∀k,k<=3->0<=hit L own who k/\hit L own who k<=3
 |0,_=>⟨Int.le_refl _,by simp[hit]⟩|k+1,h=>by have:=hit_rng (L:=L) (own:=own) (who:=who) k (by omega);rw[hit];split;exact this;split<;>omega
theorem prepN_rng(L:List (Int×Int×Int))(own mb:Int):0<=prepN L own mb/\prepN L own mb<=3:=by unfold prepN;split;exact hit_rng 3 (Nat.le_refl _);exact hit_rng 3 (Nat.le_refl _)
def readD(own:Int)(a:Attrs)(mb:Int):Bool×Bool×Bool×Bool×Int:=
 let C:=aComm a;let L:=aLarge a
 (hasP C (65535,65282),hasP C (0,mb)||hasT L (own,0,mb),hasP C (0,own)||hasT L (own,0,0),hasP C (own,mb)||hasT L (own,1,mb),prepN L own mb)
theorem r67{N:Nat}(x y:Int){a:Attrs}(hl:(aComm a).length<N)(h2:(aComm a).length<=2000):n68 (N+4) (x,y,a)=some (hasP (aComm a) (x,y),a):=by rw[e68];exact bindB (has68 (x,y) hl h2) rfl
theorem r69{N:Nat}(y z:Int){a:Attrs}(own:Int)(hl:(aLarge a).length<N)(h2:(aLarge a).length<=2000):n70 (N+4) (y,z,a,own)=some (hasT (aLarge a) (own,y,z),a,own):=by rw[e70];exact bindB (has70 (own,y,z) hl h2) rfl
theorem either{b c:Bool}{α:Type}{x:Option (Bool×α)}{s:α}(h:x=some (c,s)):∃d,(bif (!b)then x else some (false,s))=some (d,s)/\(bif b then true else d)=(b||c):=by cases b;exact⟨c,h,rfl⟩;exact⟨false,rfl,rfl⟩
theorem read29{N:Nat}{own mb:Int}{a:Attrs}(hl:(aLarge a).length+(aComm a).length+5<N)(h2:(aLarge a).length<=2000)(h3:(aComm a).length<=2000):n43 (N+5) (own,a,mb)=some (readD own a mb):=by
 refine ok_get ?_;rw[e43];have C:=fun x y=>r67 (N:=N) x y (a:=a) (by omega) h3
 have L:=fun y z=>r69 (N:=N) y z (a:=a) own (by omega) h2
 refine ok_bind (C 65535 65282) (ok_bind (C 0 mb) ?_);obtain⟨d1,k1,m1⟩:=either (b:=hasP (aComm a) (0,mb)) (L 0 mb);refine ok_bind k1 (ok_letE m1 (ok_bind (C 0 own) ?_));obtain⟨d2,k2,m2⟩:=either (b:=hasP (aComm a) (0,own)) (L 0 0);refine ok_bind k2 (ok_letE m2 (ok_bind (C own mb) ?_));obtain⟨d3,k3,m3⟩:=either (b:=hasP (aComm a) (own,mb)) (L 1 mb);refine ok_bind k3 (ok_letE m3 (ok_let (ok_join (fun q=>q.2=readD own a mb) (fun q hq=>ok_some hq) fun g hg=>?_)));let W:Int->Bool×Bool×Bool×Bool×Int:=fun n=>(hasP (aComm a) (65535,65282),hasP (aComm a) (0,mb)||hasT (aLarge a) (own,0,mb),hasP (aComm a) (0,own)||hasT (aLarge a) (own,0,0),hasP (aComm a) (own,mb)||hasT (aLarge a) (own,1,mb),n)
 let fin:Nat->Int:=fun i=>if i=0 then 0 else if i=1 then hit (aLarge a) own mb 3 else prepN (aLarge a) own mb
 refine ok_loop (fun i q=>q.2=(W (fin i),[mb,0],(2:Int),(i:Int),own,a)/\i<=2) 2 (fun i q ⟨e1,h4⟩=>?_) ⟨rfl,by decide⟩ (by omega);obtain⟨q1,q2⟩:=q;simp only at e1;subst e1;refine ok_let (ok_if (fun hc=>?_) fun hc=>?_)
 · have hi : i < 2 := by
     have h:(i:Int)<2:=of_decide_eq_true hc;omega
   refine ok_join (fun q=>q.2=(W (fin (i+1)),[mb,0],(2:Int),(i:Int),own,a)) (fun q e=>?_) fun g2 hg2=>?_
   obtain⟨p1,p2⟩:=q;simp only at e;subst e;exact ok_letE (w:=((i+1:Nat):Int)) (wv _ rfl (by omega) (by omega)) (ok_again hi ⟨rfl,hi⟩);refine ok_bind (aJo (l:=[mb,0]) hi) (ok_join (fun q=>q.2=(W (fin (i+1)),[mb,0],(2:Int),(i:Int),own,a)) (fun q hq=>hg2 _ (by obtain⟨p1,p2⟩:=q;simp only at hq;subst hq;rfl)) fun g3 hg3=>?_);let who:Int:=[mb,0][i]'hi;have hfin:(if fin i≠0 then fin i else hit (aLarge a) own who 3)=fin (i+1):=by
    by_cases h0:i=0;subst h0;simp[fin,who];have:i=1:=by omega
    subst this;simp[fin,who,prepN]
   refine ok_loop (fun k q=>q.2=(W (if fin i≠0 then fin i else hit (aLarge a) own who k),who,3-(k:Int),[mb,0],(2:Int),(i:Int),own,a)/\k<=3) 3 (fun k q ⟨e1,h6⟩=>?_) ⟨by simp only[hit];congr 1;simp only[W];congr 4;split<;>simp_all,by decide⟩ (by omega);obtain⟨p1,p2⟩:=q;simp only at e1;subst e1;refine ok_let (ok_let (ok_let (ok_if (fun hc=>?_) fun hc=>?_)))
   · have hc2 : k < 3 ∧ (if fin i ≠ 0 then fin i else hit (aLarge a) own who k) = 0 := by
       have h1:(0:Int)<3-(k:Int)/\(if fin i≠0 then fin i else hit (aLarge a) own who k)=0:=by
        cases hd:decide ((3:Int)-(k:Int)>0)with
        |false=>simp only[hd]at hc;cases hc|true=>simp only[hd]at hc;exact⟨of_decide_eq_true hd,by simpa[W]using hc⟩
       exact⟨by omega,h1.2⟩
     obtain⟨hk,h0⟩:=hc2;have hf0:fin i=0:=by by_cases h:fin i=0;exact h;rw[if_pos h]at h0;exact h0
     rw[hf0,if_neg (by simp)]at h0;refine ok_join (fun q=>q.2=(W (if fin i≠0 then fin i else hit (aLarge a) own who (k+1)),who,3-(k:Int),[mb,0],(2:Int),(i:Int),own,a)) (fun q e=>?_) fun g4 hg4=>?_
     obtain⟨p1,p2⟩:=q;simp only at e;subst e;exact ok_letE (w:=3-((k+1:Nat):Int)) (wv _ (by show(3:Int)-(k:Int)-1=_;omega) (by omega) (by omega)) (ok_again hk ⟨rfl,hk⟩);have hv:(if fin i≠0 then fin i else hit (aLarge a) own who (k+1))=if hasT (aLarge a) (own,103-k,who)=true then 3-(k:Int)else 0:=by rw[hf0];simp[hit,h0]
     refine ok_letE (w:=103-(k:Int)) (wv _ (by show(100:Int)+(3-(k:Int))=_;omega) (by omega) (by omega)) (ok_bind (L (103-(k:Int)) who) (ok_join (fun q=>q.2=(W (if fin i≠0 then fin i else hit (aLarge a) own who (k+1)),who,3-(k:Int),[mb,0],(2:Int),(i:Int),own,a)) (fun q hq=>hg4 _ (by obtain⟨p1,p2⟩:=q;simp only at hq;subst hq;rfl)) fun g5 hg5=>ok_if (fun h=>hg5 _ ?_) fun h=>hg5 _ ?_));show(W (3-(k:Int)),_)=_;rw[hv,if_pos h];show(W (if fin i≠0 then fin i else hit (aLarge a) own who k),_)=_;have hw:(if fin i≠0 then fin i else hit (aLarge a) own who k)=if fin i≠0 then fin i else hit (aLarge a) own who (k+1):=by rw[hv,if_neg (show ¬hasT (aLarge a) (own,103-k,who)=true from by rw[show hasT (aLarge a) (own,103-k,who)=false from h];simp),hf0];simp[h0]
     rw[hw]
   refine ok_leave (hg3 _ ?_);show(W _,_)=_;rw[<-hfin];congr 2;by_cases hf0:fin i=0;rw[hf0,if_neg (by simp),if_neg (by simp)];by_cases hk:k=3;rw[hk]
   · have hne : hit (aLarge a) own who k ≠ 0 := by
       intro h0;have hd:decide ((3:Int)-(k:Int)>0)=true:=decide_eq_true (by omega);simp only[hd,W,hf0,h0]at hc;simp at hc
     have:=hit_keep hne (3-k);rw[show k+(3-k)=3 by omega]at this;exact this.symm
   rw[if_pos hf0,if_pos hf0]
 · have : i = 2 := by
     have h:¬(i:Int)<2:=of_decide_eq_false hc;omega
   subst this;exact ok_leave (hg _ rfl)
end Go.Proofs.YtgfmodmeimhhpaaDoor
namespace Go.Proofs.YtgfmodmeimhhpaaDoor
open Go.VM
set_option maxRecDepth 10000
structure AtB(a:Attrs):Prop where
 path:a.2.1.length<=2000
 seg:∀s∈a.2.1,s.2.length<=2000
 comm:(aComm a).length<=2000
 large:(aLarge a).length<=2000
 other:(aOther a).length<=2000
 data:∀u∈aOther a,u.2.2.length<=2000
def lenD:List Seg->Int
 |[]=>0|s::r=>(bif s.1 then 1 else(s.2.length:Int))+lenD r
def flatD(l:List Seg):List Int:=l.flatMap Prod.snd
def hasA(l:List Seg)(a:Int):Bool:=(flatD l).any fun x=>x==a
theorem lenD_app:∀(l m:List Seg),lenD (l++m)=lenD l+lenD m
 |[],m=>(Int.zero_add _).symm|s::l,m=>by rw[List.cons_append,lenD,lenD,lenD_app l m];omega
theorem lenD_rng:∀(l:List Seg),(∀s∈l,s.2.length<=2000)->0<=lenD l/\lenD l<=2000*(l.length:Int)
 |[],_=>by simp[lenD]|s::l,h=>by
  have h1:=lenD_rng l fun x hx=>h x (List.mem_cons_of_mem _ hx)
  have h2:=h s List.mem_cons_self;rw[lenD,List.length_cons];cases s.1<;>simp only[cond_true,cond_false]<;>omega
theorem lenD_step{l:List Seg}{i:Nat}(hi:i<l.length):lenD (l.take (i+1))=lenD (l.take i)+(bif (l[i]).1 then 1 else((l[i]).2.length:Int)):=by rw[List.take_succ_eq_append_getElem hi,lenD_app];simp[lenD]
theorem flatB_len:∀(l:List Seg),(∀s∈l,s.2.length<=2000)->(flatD l).length<=2000*l.length
 |[],_=>by simp[flatD]|s::l,h=>by
  have h1:=flatB_len l fun x hx=>h x (List.mem_cons_of_mem _ hx)
  have h2:=h s List.mem_cons_self;unfold flatD at *;rw[List.flatMap_cons,List.length_append,List.length_cons];omega
theorem flat_step{l:List Seg}{i:Nat}(hi:i<l.length):flatD (l.take (i+1))=flatD (l.take i)++(l[i]).2:=by rw[List.take_succ_eq_append_getElem hi];unfold flatD;rw[List.flatMap_append];simp
theorem take_seg{l:List Seg}(h:∀s∈l,s.2.length<=2000)(i:Nat):∀s∈l.take i,s.2.length<=2000:=fun s hs=>h s (List.mem_of_mem_take hs)
theorem take_len{α:Type}{l:List α}{i:Nat}(h:i<=l.length):(l.take i).length=i:=by rw[List.length_take];omega
theorem len24{N:Nat}{l:List Seg}(hN:2001<N)(h1:l.length<=2000)(h2:∀s∈l,s.2.length<=2000):n46 (N+1) l=some (lenD l):=by
 refine ok_get ?_;rw[e46];refine ok_join (fun r=>r=lenD l) (fun _ h=>ok_some h) fun g hg=>?_
 refine ok_loop (fun i q=>q.1=lenD (l.take i)/\q.2.1=l/\q.2.2.1=(l.length:Int)/\q.2.2.2=(i:Int)/\i<=l.length) l.length (fun i q ⟨e1,e2,e3,e4,h3⟩=>?_) ⟨rfl,rfl,rfl,rfl,Nat.zero_le _⟩ (by omega);obtain⟨q1,q2,q3,q4⟩:=q;simp only at e1 e2 e3 e4;subst e1;subst e2;subst e3;subst e4;refine ok_let (ok_if (fun hc=>?_) fun hc=>?_);have hi:i<q2.length:=by simpa using hc
 have hb:=lenD_rng _ (take_seg h2 i);rw[take_len h3]at hb;have hs:=h2 _ (List.getElem_mem hi);have hst:=lenD_step hi;refine ok_join (fun q=>q=(lenD (q2.take (i+1)),q2,(q2.length:Int),(i:Int))) (fun q e=>?_) fun g2 hg2=>?_
 subst e;exact ok_letE (w:=((i+1:Nat):Int)) (wv _ rfl (by omega) (by omega)) (ok_again hi ⟨rfl,rfl,rfl,rfl,hi⟩);refine ok_bind (aJo hi) (ok_join (fun q=>q=(lenD (q2.take (i+1)),q2,(q2.length:Int),(i:Int))) (fun q e=>hg2 _ (by subst e;rfl)) fun g3 hg3=>ok_if (fun h=>?_) fun h=>?_);rw[h]at hst;exact ok_letE (w:=lenD (q2.take (i+1))) (wv _ hst.symm (by simp only[cond_true]at hst;omega) (by simp only[cond_true]at hst;omega)) (hg3 _ rfl);rw[h]at hst;exact ok_letE (w:=lenD (q2.take (i+1))) (wv _ hst.symm (by simp only[cond_false]at hst;omega) (by simp only[cond_false]at hst;omega)) (hg3 _ rfl)
 · have : i = q2.length := by have : ¬ i < q2.length := by simpa using hc
                              omega
   subst this;exact ok_leave (hg _ (by rw[List.take_of_length_le (Nat.le_refl _)]))
theorem len32{N:Nat}{l:List Seg}(hN:2001<N)(h1:l.length<=2000)(h2:∀s∈l,s.2.length<=2000):n46 (N+1) l=some (lenD l):=by refine Eq.trans ?_ (len24 hN h1 h2);rfl
theorem flat61{N:Nat}{l:List Seg}(hN:2001<N)(h1:l.length<=2000)(h2:∀s∈l,s.2.length<=2000):n48 (N+1) l=some (flatD l):=by
 refine ok_get ?_;rw[e48];refine ok_join (fun r=>r=flatD l) (fun _ h=>ok_some h) fun g hg=>?_
 refine ok_loop (fun i q=>q.1=flatD (l.take i)/\q.2.1=l/\q.2.2.1=(l.length:Int)/\q.2.2.2=(i:Int)/\i<=l.length) l.length (fun i q ⟨e1,e2,e3,e4,h3⟩=>?_) ⟨rfl,rfl,rfl,rfl,Nat.zero_le _⟩ (by omega);obtain⟨q1,q2,q3,q4⟩:=q;simp only at e1 e2 e3 e4;subst e1;subst e2;subst e3;subst e4;refine ok_let (ok_if (fun hc=>?_) fun hc=>?_);have hi:i<q2.length:=by simpa using hc
 have hb:=flatB_len _ (take_seg h2 i);rw[take_len h3]at hb;have hs:=h2 _ (List.getElem_mem hi);refine ok_bind (aJo hi) (ok_bind (aJm (l:=flatD (q2.take i)) (m:=(q2[i]).2) (by omega) (by omega)) (ok_letE (w:=((i+1:Nat):Int)) (wv _ rfl (by omega) (by omega)) (ok_again hi ⟨(flat_step hi).symm,rfl,rfl,rfl,hi⟩)))
 · have : i = q2.length := by have : ¬ i < q2.length := by simpa using hc
                              omega
   subst this;exact ok_leave (hg _ (by rw[List.take_of_length_le (Nat.le_refl _)]))
theorem flat72{N:Nat}{l:List Seg}(hN:2001<N)(h1:l.length<=2000)(h2:∀s∈l,s.2.length<=2000):n48 (N+1) l=some (flatD l):=by refine Eq.trans ?_ (flat61 hN h1 h2);rfl
theorem in30{N:Nat}{l:List Int}(c:Int)(hl:l.length<N)(h2:l.length<=5000000):n44 (N+2) (l,c)=some (l.any fun x=>x==c):=by
 refine ok_get ?_;rw[e44];refine ok_bind' (P:=fun r=>decide (r>=(0:Int))=l.any fun x=>x==c) ?_ fun r h=>ok_some h
 rw[e72];refine ok_join (fun _=>(l.any fun x=>x==c)=false) (fun _ h=>ok_some h.symm) fun g hg=>?_
 refine ok_loop (fun i q=>q.2.1=c/\q.1=l/\q.2.2.1=(l.length:Int)/\q.2.2.2=(i:Int)/\i<=l.length/\((l.take i).any fun x=>x==c)=false) l.length (fun i q ⟨e1,e2,e3,e4,h3,h4⟩=>?_) ⟨rfl,rfl,rfl,rfl,Nat.zero_le _,by simp⟩ hl;obtain⟨q2,q1,q3,q4⟩:=q;simp only at e1 e2 e3 e4;subst e1;subst e2;subst e3;subst e4;refine ok_let (ok_if (fun hc=>?_) fun hc=>?_);have hi:i<q2.length:=by simpa using hc
 refine ok_bind (aJo hi) (ok_if (fun h=>ok_leave (ok_some ?_)) fun h=>ok_letE (w:=((i+1:Nat):Int)) (wv _ rfl (by omega) (by omega)) (ok_again hi ⟨rfl,rfl,rfl,rfl,hi,any_step hi h4 (by rw[bcomm];exact h)⟩));rw[any_found (p:=fun x=>x==q1) hi (by rw[bcomm];exact h)];exact decide_eq_true (by omega);have hi:q2.length<=i:=by simpa using hc
 exact ok_leave (hg () (any_none hi h4))
theorem has33{N:Nat}{l:List Seg}(c:Int)(hN:5000000<N)(h1:l.length<=2000)(h2:∀s∈l,s.2.length<=2000):n47 (N+3) (l,c)=some (hasA l c):=by have hb:=flatB_len _ h2;rw[e47];exact bindB (flat72 (by omega) h1 h2) (bindB (in30 c (by omega) (by omega)) rfl)
abbrev Rt:=((Bool×Int×Int)×Int)×Int×Attrs
def famD(r:Rt)(p:Pol):Bool:=bif (bif p.2.2.1 then r.1.1.1 else false)then true else(bif p.2.1 then(!r.1.1.1)else false)
def hopD(own:Int)(r:Rt)(p:Pol):Bool:=bif (p.2.2.2.2.1 != (0:Int))then decide (lenD r.2.2.2.1+prepN (aLarge r.2.2) own p.1>p.2.2.2.2.1)else false
def verD(own:Int)(r:Rt)(p:Pol):Int:=
 bif (r.2.1==p.1)then 1 else bif (readD own r.2.2 p.1).1 then 2 else bif (readD own r.2.2 p.1).2.1 then 3 else
 bif (bif (readD own r.2.2 p.1).2.2.1 then(!(readD own r.2.2 p.1).2.2.2.1)else false)then 4 else
 bif famD r p then 5 else bif (pDeny p).any (fun x=>x==r.2.1)then 6 else
 bif (bif hasP (aComm r.2.2) (65535,666)then(!p.2.2.2.1)else false)then 7 else
 bif hopD own r p then 8 else bif hasA r.2.2.2.1 p.1 then 9 else 0
theorem ok_bif{R:Type}{c:Bool}{x y:Option R}{u v:R}(h:c=true->Ok x fun r=>r=u)(k:c=false->Ok y fun r=>r=v):Ok (bif c then x else y) fun r=>r=bif c then u else v:=by cases c;exact k rfl;exact h rfl
theorem hole31{N:Nat}{a:Attrs}(hN:2001<N)(h:AtB a):n45 (N+4) a=some (hasP (aComm a) (65535,666)):=by rw[e45];exact bindB (has68 (l:=aComm a) _ (by have:=h.comm;omega) h.comm) rfl
theorem ver11{N:Nat}(hN:5000000<N){own:Int}{r:Rt}{p:Pol}(ha:AtB r.2.2)(hp:(pDeny p).length<=2000):n23 (N+6) (own,r,p)=some (verD own r p):=by
 have k1:=ha.comm;have k2:=ha.large;have k3:=lenD_rng _ ha.seg;have k4:=ha.path;have k5:=prepN_rng (aLarge r.2.2) own p.1;refine ok_get ?_;rw[e23];refine ok_bind (read29 (by omega) k2 k1) (ok_bif (fun _=>ok_some rfl) fun _=>ok_bif (fun _=>ok_some rfl) fun _=>ok_bif (fun _=>ok_some rfl) fun _=>ok_let (ok_bif (fun _=>ok_some rfl) fun _=>ok_let ?_));refine ok_join (fun q=>q=(r,p,readD own r.2.2 p.1,famD r p)) (fun q e=>?_) fun g hg=>?_
 subst e;refine ok_bif (fun _=>ok_some rfl) fun _=>ok_bind (in30 r.2.1 (N:=N+3) (l:=pDeny p) (by omega) (by omega)) (ok_bif (fun _=>ok_some rfl) fun _=>ok_bind (hole31 (N:=N+1) (by omega) ha) (ok_let (ok_bif (fun _=>ok_some rfl) fun _=>ok_let ?_)))
 have hh:∃v,(bif (p.2.2.2.2.1 != (0:Int))then n46 (N+5) r.2.2.2.1 else some (0:Int))=some v/\(bif (p.2.2.2.2.1 != (0:Int))then decide (IntKind.i64.wrap (v+(readD own r.2.2 p.1).2.2.2.2)>p.2.2.2.2.1)else false)=hopD own r p:=by
  unfold hopD;cases hb:(p.2.2.2.2.1 != (0:Int))with
  |false=>exact⟨0,rfl,rfl⟩|true=>refine⟨lenD r.2.2.2.1,len32 (by omega) k4 ha.seg,?_⟩;show decide (IntKind.i64.wrap (lenD r.2.2.2.1+prepN (aLarge r.2.2) own p.1)>_)=decide _;rw[pV (by omega) (by omega)]
 obtain⟨v,hv,hv2⟩:=hh;refine ok_bind hv (ok_let (ok_let ?_));rw[show(bif (p.2.2.2.2.1 != (0:Int))then decide (IntKind.i64.wrap (v+(readD own r.2.2 p.1).2.2.2.2)>p.2.2.2.2.1)else false)=_ from hv2];exact ok_bif (fun _=>ok_some rfl) fun _=>ok_bind (has33 (N:=N+2) p.1 (by omega) k4 ha.seg) (ok_bif (fun _=>ok_some rfl) fun _=>ok_some rfl)
 refine ok_if (fun h=>hg _ ?_) fun h=>ok_let (hg _ ?_)
 unfold famD;rw[h];rfl;unfold famD;rw[h];rfl
end Go.Proofs.YtgfmodmeimhhpaaDoor
open Nat(zero_le le_trans)
namespace Go.Proofs.YtgfmodmeimhhpaaDoor
open Go.VM
set_option maxRecDepth 10000
theorem not_lt_eq{i n:Nat}(h:i<=n)(k:decide ((i:Int)<(n:Int))=false):i=n:=by have:¬(i:Int)<(n:Int):=of_decide_eq_false k;omega
theorem lt_of{i n:Nat}(k:decide ((i:Int)<(n:Int))=true):i<n:=by have:(i:Int)<(n:Int):=of_decide_eq_true k;omega
theorem same38{N:Nat}{l:List Int}(hN:l.length<N)(h:l.length<=5000000):n59 (N+1) (l,l)=some true:=by
 refine ok_get ?_;rw[e59];refine ok_if (fun h=>by simp at h) fun _=>ok_join (fun _=>True) (fun _ _=>ok_some rfl) fun g hg=>?_
 refine ok_loop (fun i q=>q=(l,l,(l.length:Int),(i:Int))/\i<=l.length) l.length (fun i q ⟨e,hi⟩=>?_) ⟨rfl,zero_le _⟩ hN;subst e;refine ok_let (ok_if (fun hc=>?_) fun hc=>ok_leave (hg () trivial));have hlt:i<l.length:=lt_of hc;exact ok_bind (aJo hlt) (ok_bind (aJo hlt) (ok_if (fun h=>by simp at h) fun _=>ok_letE (w:=((i+1:Nat):Int)) (wv _ rfl (by omega) (by omega)) (ok_again hlt ⟨rfl,hlt⟩)))
theorem same15{N:Nat}{a:Attrs}(hN:2001<N)(ha:AtB a):n28 (N+2) (a,a)=some true:=by
 have k1:=ha.comm;have k2:=ha.large;have k3:=ha.path;have k4:=ha.other;refine ok_get ?_;rw[e28];refine ok_letE (w:=false) (by simp) (ok_letE (w:=false) (by simp) (ok_letE (w:=false) (by simp) (ok_letE (w:=false) (by simp) (ok_letE (w:=false) (by simp) (ok_letE (w:=false) rfl (ok_letE (w:=false) (by simp) (ok_letE (w:=false) (by simp) (ok_letE (w:=false) rfl (ok_letE (w:=false) (by simp) (ok_letE (w:=false) (by simp) (ok_letE (w:=false) rfl (ok_if (fun h=>by cases h) fun _=>?_))))))))))));refine ok_join (fun q=>q=(a,a)) (fun q e=>?_) fun g hg=>?_
 subst e;refine ok_join (fun q=>q=(a,a)) (fun q e=>?_) fun g hg=>?_
 subst e;refine ok_join (fun q=>q=(a,a)) (fun q e=>?_) fun g hg=>?_
 subst e;refine ok_join (fun _=>True) (fun _ _=>ok_some rfl) fun g hg=>?_
 refine ok_loop (fun i q=>q=(a,a,((aOther a).length:Int),(i:Int))/\i<=(aOther a).length) (aOther a).length (fun i q ⟨e,hi⟩=>?_) ⟨rfl,zero_le _⟩ (by omega);subst e;refine ok_let (ok_if (fun hc=>?_) fun hc=>ok_leave (hg () trivial));have hlt:i<(aOther a).length:=lt_of hc;have hx:aEU (aOther a) (i:Int)=some (aOther a)[i]:=aJo hlt;refine ok_bind hx (ok_bind hx ?_);generalize (aOther a)[i]=x at hx;have e1:(x.1 != x.1)=false:=by simp
 refine ok_bind (v:=x) (by rw[e1];exact hx) (ok_bind (v:=x) (by rw[e1];exact hx) (ok_letE (w:=false) (by rw[e1];simp) (ok_bind (v:=x) hx (ok_bind (v:=x) hx (ok_letE (w:=false) (by simp) (ok_if (fun h=>by cases h) fun _=>ok_letE (w:=((i+1:Nat):Int)) (wv _ rfl (by omega) (by omega)) (ok_again hlt ⟨rfl,hlt⟩)))))));refine ok_loop (fun i q=>q=(a,a,((aLarge a).length:Int),(i:Int))/\i<=(aLarge a).length) (aLarge a).length (fun i q ⟨e,hi⟩=>?_) ⟨rfl,zero_le _⟩ (by omega);subst e;refine ok_let (ok_if (fun hc=>?_) fun hc=>ok_leave (hg _ rfl));have hlt:i<(aLarge a).length:=lt_of hc;have hx:aEU (aLarge a) (i:Int)=some (aLarge a)[i]:=aJo hlt;exact ok_bind hx (ok_bind hx (ok_letE (w:=false) (by simp) (ok_if (fun h=>by cases h) fun _=>ok_letE (w:=((i+1:Nat):Int)) (wv _ rfl (by omega) (by omega)) (ok_again hlt ⟨rfl,hlt⟩))));refine ok_loop (fun i q=>q=(a,a,((aComm a).length:Int),(i:Int))/\i<=(aComm a).length) (aComm a).length (fun i q ⟨e,hi⟩=>?_) ⟨rfl,zero_le _⟩ (by omega);subst e;refine ok_let (ok_if (fun hc=>?_) fun hc=>ok_leave (hg _ rfl));have hlt:i<(aComm a).length:=lt_of hc;have hx:aEU (aComm a) (i:Int)=some (aComm a)[i]:=aJo hlt;exact ok_bind hx (ok_bind hx (ok_letE (w:=false) (by simp) (ok_if (fun h=>by cases h) fun _=>ok_letE (w:=((i+1:Nat):Int)) (wv _ rfl (by omega) (by omega)) (ok_again hlt ⟨rfl,hlt⟩))))
 refine ok_loop (fun i q=>q=(a,a,(a.2.1.length:Int),(i:Int))/\i<=a.2.1.length) a.2.1.length (fun i q ⟨e,hi⟩=>?_) ⟨rfl,zero_le _⟩ (by omega);subst e;refine ok_let (ok_if (fun hc=>?_) fun hc=>ok_leave (hg _ rfl));have hlt:i<a.2.1.length:=lt_of hc;have hx:aEU a.2.1 (i:Int)=some a.2.1[i]:=aJo hlt;have hs:=ha.seg _ (List.getElem_mem hlt);refine ok_bind hx (ok_bind hx ?_);generalize a.2.1[i]=x at hx hs;have e1:(true != (x.1==x.1))=false:=by simp
 refine ok_bind (v:=x) (by rw[e1];exact hx) (ok_bind (v:=x) (by rw[e1];exact hx) (ok_bind (v:=true) (by rw[e1];exact same38 (by omega) (by omega)) (ok_letE (w:=false) (by rw[e1];rfl) (ok_if (fun h=>by cases h) fun _=>ok_letE (w:=((i+1:Nat):Int)) (wv _ rfl (by omega) (by omega)) (ok_again hlt ⟨rfl,hlt⟩)))))
theorem take_snoc{α:Type}{l:List α}{i:Nat}(h:i<l.length):l.take i++[l[i]]=l.take (i+1):=(List.take_succ_eq_append_getElem h).symm
theorem copy44{N:Nat}{a:Attrs}(hN:2001<N)(ha:AtB a):n14 (N+1) a=some a:=by
 obtain⟨h1,h2,h3,h4,h5,h6⟩:=ha;obtain⟨o,path,ad,md,pr,oc,cm,lg,ot⟩:=a;simp only[aComm,aLarge,aOther]at h1 h2 h3 h4 h5 h6;refine ok_get ?_;rw[e14];refine ok_let (ok_let (ok_join (fun q=>q.1=(o,path,ad,md,pr,oc,cm,lg,ot)/\q.2.2=(o,path,ad,md,pr,oc,cm,lg,([]:List Unk))) (fun q hq=>?_) fun g hg=>?_));obtain⟨q1,q2,q3⟩:=q;obtain⟨e1,e2⟩:=hq;simp only at e1 e2;subst e1;subst e2;refine ok_bind (aJm (l:=([]:List (Int×Int))) (m:=cm) (by simp;omega) (by simp;omega)) (ok_bind (aJm (l:=([]:List (Int×Int×Int))) (m:=lg) (by simp;omega) (by simp;omega)) (ok_join (fun q=>q.2=(o,path,ad,md,pr,oc,cm,lg,ot)) (fun q e=>ok_some e) fun g hg=>?_));refine ok_loop (fun i q=>q.2=((o,path,ad,md,pr,oc,cm,lg,ot.take i),ot,(ot.length:Int),(i:Int))/\i<=ot.length) ot.length (fun i q ⟨e,hi⟩=>?_) ⟨rfl,zero_le _⟩ (by omega);obtain⟨q1,q2⟩:=q;simp only at e;subst e;refine ok_let (ok_if (fun hc=>?_) fun hc=>ok_leave (hg _ ?_));have hlt:i<ot.length:=lt_of hc;have hd:=h6 _ (List.getElem_mem hlt);refine ok_bind (aJo hlt) (ok_bind (aJm (l:=([]:List Int)) (by simp;omega) (by simp;omega)) (ok_let (ok_bind (aJm (l:=ot.take i) (by rw[take_len hi];simp;omega) (by rw[take_len hi];simp;omega)) (ok_letE (w:=((i+1:Nat):Int)) (wv _ rfl (by omega) (by omega)) (ok_again hlt ⟨?_,hlt⟩)))));rw[List.nil_append];show((o,path,ad,md,pr,oc,cm,lg,ot.take i++[ot[i]]),_)=_;rw[take_snoc hlt];have:=not_lt_eq hi hc;subst this;rw[List.take_of_length_le (Nat.le_refl _)]
 refine ok_loop (fun i q=>q.1=(o,path,ad,md,pr,oc,cm,lg,ot)/\q.2.2=((o,path.take i,ad,md,pr,oc,cm,lg,([]:List Unk)),path,(path.length:Int),(i:Int))/\i<=path.length) path.length (fun i q ⟨e1,e,hi⟩=>?_) ⟨rfl,rfl,zero_le _⟩ (by omega);obtain⟨q1,q2,q3⟩:=q;simp only at e1 e;subst e1;subst e;refine ok_let (ok_if (fun hc=>?_) fun hc=>ok_leave (hg _ ?_));have hlt:i<path.length:=lt_of hc;have hd:=h2 _ (List.getElem_mem hlt);refine ok_bind (aJo hlt) (ok_bind (aJm (l:=([]:List Int)) (by simp;omega) (by simp;omega)) (ok_let (ok_bind (aJm (l:=path.take i) (by rw[take_len hi];simp;omega) (by rw[take_len hi];simp;omega)) (ok_letE (w:=((i+1:Nat):Int)) (wv _ rfl (by omega) (by omega)) (ok_again hlt ⟨rfl,?_,hlt⟩)))));rw[List.nil_append];show((o,path.take i++[path[i]],ad,md,pr,oc,cm,lg,([]:List Unk)),_)=_;rw[take_snoc hlt];have:=not_lt_eq hi hc;subst this;exact⟨rfl,by rw[List.take_of_length_le (Nat.le_refl _)]⟩
theorem filter_snoc{α:Type}{l:List α}{p:α->Bool}{i:Nat}(h:i<l.length):(l.take (i+1)).filter p=(l.take i).filter p++(if p l[i]=true then[l[i]]else[]):=by rw[List.take_succ_eq_append_getElem h,List.filter_append];congr 1;cases hp:p l[i]<;>simp[hp]
theorem filter_len{α:Type}{l:List α}{p:α->Bool}{i:Nat}(h:i<=l.length):((l.take i).filter p).length<=i:=le_trans (List.length_filter_le _ _) (by rw[List.length_take];omega)
theorem AtB.sm{a:Attrs}(h:AtB a):smA a=true:=smA_iff.2 ⟨le_trans h.path (by decide),fun s hs=>le_trans (h.seg s hs) (by decide),le_trans h.comm (by decide),le_trans h.large (by decide),le_trans h.other (by decide),fun u hu=>le_trans (h.data u hu) (by decide)⟩
theorem strip16{N:Nat}{own:Int}{a:Attrs}(ha:AtB a):n26 (N+1) (own,a)=some (stripD own a):=by rw[e26];unfold gStrip;rw[if_pos ha.sm]
theorem AtB.strip{a:Attrs}(h:AtB a)(own:Int):AtB (stripD own a):=⟨h.path,h.seg,le_trans (List.length_filter_le _ _) h.comm,le_trans (List.length_filter_le _ _) h.large,h.other,h.data⟩
theorem sw_facts(o:Int){p:List Int}(m r:Int){c:List (Int×Int)}{g:List (Int×Int×Int)}(asn:Int)(v6:Bool){s:Int×Dk}(hp:p.length<=10)(hc:c.length<=10)(hg:g.length<=10)(hs:DK s.2) :
  AtB (swD o p m r c g asn v6 s).1/\DK (swD o p m r c g asn v6 s).2:=by
 have one:∀{q:List Int},q.length<=12->∀x∈[((false,q):Seg)],x.2.length<=2000:=fun h x hx=>by rw[List.mem_singleton]at hx;subst hx;exact le_trans h (by decide)
 have mk:∀{path:List Seg} {nx:Bool×Int×Int} {ot:Int} {oth:List Unk},path.length<=2->(∀x∈path,x.2.length<=2000)->oth.length<=1->(∀u∈oth,u.2.2.length<=2)->AtB (o,path,nx,m,r,ot,c,g,oth):=fun h1 h2 h3 h4=>⟨le_trans h1 (by decide),h2,by show c.length<=_;omega,by show g.length<=_;omega,le_trans h3 (by decide),fun u hu=>le_trans (h4 u hu) (by decide)⟩
 have n0:∀u∈([]:List Unk),u.2.2.length<=2:=fun u hu=>by cases hu
 unfold swD;simp only;split;exact⟨mk (by simp) (one (by omega)) (by simp) n0,nx_DK hs _⟩;split;exact⟨mk (by simp) (one (by simp;omega)) (by simp) n0,hs⟩;split;refine⟨mk (by simp) (fun x hx=>?_) (by simp) n0,hs⟩;rcases List.mem_cons.1 hx with rfl|hx;show p.length<=_;omega;rw[List.mem_singleton]at hx;subst hx;decide;split;exact⟨mk (by simp) (one (by simp;omega)) (by simp) n0,hs⟩;split;exact⟨mk (by simp) (one (by omega)) (by simp) n0,hs⟩;split;exact⟨mk (by simp) (one (by simp;omega)) (by simp) n0,hs⟩;split;exact⟨mk (by simp) (fun x hx=>by cases hx) (by simp) n0,hs⟩;split;refine⟨mk (by simp) (one (by omega)) (by simp) (fun u hu=>?_),nx_DK hs _⟩;rw[List.mem_singleton]at hu;subst hu;simp;exact⟨mk (by simp) (one (by omega)) (by simp) n0,hs⟩
theorem attrs_ok{d:Dk}(h:DK d)(asn:Int)(v6:Bool):AtB (attrsD d asn v6).1/\(aComm (attrsD d asn v6).1).Sublist Z.allC/\(aLarge (attrsD d asn v6).1).Sublist Z.allL/\DK (attrsD d asn v6).2:=by
 obtain⟨c1,c2,c3,c4,_⟩:=pos_facts h asn v6;obtain⟨_,cs,_,_⟩:=comm_eq c1;obtain⟨_,ls,_,_⟩:=large_eq c2;have hk:=nx_rng (nx d 3).2 (b:=4) (by decide);obtain⟨p1,p2,p3⟩:=pathD_facts asn (nx (nx d 3).2 4).1.toNat [asn] (nx (nx d 3).2 4).2 (nx_DK (nx_DK h 3) 4);obtain⟨o1,o2⟩:=optD_facts p3 3 3;obtain⟨q1,q2⟩:=optD_facts o2 6 300;obtain⟨_,s1,_,s2⟩:=comm_eq q2;obtain⟨_,s3,_,s4⟩:=large_eq s2;have hp:(preD d asn).2.1.length<=10:=by show(pathD asn (nx (nx d 3).2 4).1.toNat [asn] (nx (nx d 3).2 4).2).1.length<=10;rw[p1];simp;omega
 have hc:=s1.length_le;have hg:=s3.length_le;have key:=sw_facts (preD d asn).1 (p:=(preD d asn).2.1) (optD (preD d asn).2.2 3 3).1 (optD (optD (preD d asn).2.2 3 3).2 6 300).1 asn v6 hp (le_trans hc (by decide)) (le_trans hg (by decide)) (nx_DK s4 24);exact⟨key.1,by rw[c3];exact cs,by rw[c4];exact ls,key.2⟩
theorem prefix_ok(N:Nat){d:Dk}(hd:DK d):Ok (n19 (N+3) d) fun r=>DK r.2:=by
 have B:∀k,Ok (n29 (N+2) k) fun _=>True:=fun k=>by rw[e29];exact ok_if (fun _=>ok_let (ok_let (ok_some trivial))) fun _=>ok_let (ok_let (ok_some trivial))
 rw[e19];refine ok_bind' (next_ok N hd (by decide) (by decide)) fun v0 h0=>ok_bind' (B _) fun v1 _=>ok_bind' (next_ok N h0.2.2 (by decide) (by decide)) fun v2 h2=>?_
 refine ok_join (fun q=>DK q.2.2) (fun q hq=>ok_some hq) fun g hg=>ok_join (fun q=>DK q.2.2) (fun q hq=>hg _ hq) fun g1 hg1=>ok_if (fun _=>?_) fun _=>?_
 exact ok_join (fun q=>DK q.2.2) (fun q hq=>hg1 _ hq) fun g2 hg2=>ok_if (fun _=>hg2 _ h2.2.2) fun _=>hg2 _ h2.2.2
 refine ok_join (fun q=>DK q.2.2) (fun q hq=>hg1 _ hq) fun g2 hg2=>ok_if (fun _=>?_) fun _=>hg2 _ h2.2.2
 refine ok_join (fun q=>DK q.2.2) (fun q hq=>?_) fun g3 hg3=>ok_if (fun _=>hg3 _ h2.2.2) fun _=>hg3 _ h2.2.2
 have hn:=next_ok N hq (b:=3) (by decide) (by decide);refine ok_bind' hn fun v h=>?_
 refine ok_let ?_;refine hg2 _ ?_;exact h.2.2
structure RtK(r:Rt)(a:Int):Prop where
 small:AtB r.2.2
 comm:∃d v6,DK d/\r.2.2=(attrsD d a v6).1
 from_:r.2.1=a
theorem route_ok(N:Nat){d:Dk}(hd:DK d)(a:Int):Ok (n12 (N+4) (d,a)) fun r=>RtK r.1 a/\DK r.2:=by
 rw[e12];refine ok_bind' (prefix_ok N hd) fun v0 h0=>?_
 have e:n20 (N+3) (v0.2,a,v0.1.1.1)=some (attrsD v0.2 a v0.1.1.1):=by rw[e20];unfold gAttrs;rw[if_pos (dkB_iff.2 h0)]
 have k:=attrs_ok h0 a v0.1.1.1;exact ok_bind e (ok_some ⟨⟨k.1,⟨v0.2,v0.1.1.1,h0,rfl⟩,rfl⟩,k.2.2.2⟩)
end Go.Proofs.YtgfmodmeimhhpaaDoor
