/- Chapter 26, plainly: the deck; policies; which are permitted. -/
import Derived.Test.YtgfmodmeimhhpaaGreatDoorJF
import Derived.KernelRfl
namespace Go.Proofs.YtgfmodmeimhhpaaGreatDoor
open Go.VM
set_option maxRecDepth 10000
theorem mod_ok(N:Nat){a b:Int}(hb:0<b)(hb2:b<=9223372036854775807):∃r,n10 (N+1) (a,b)=some r/\0<=r/\r<b:=by
 refine⟨a%b,?_,Int.emod_nonneg _ (by omega),Int.emod_lt_of_pos _ hb⟩;rw[e10];have h0:b≠0:=by omega
 simp only[↓aKO,h0,if_false,aKI,aJY,aJz,decide_eq_true_eq];have h1:=Int.mul_tdiv_add_tmod a b;have h2:=Int.tmod_lt_of_pos a hb;have h3:=Int.lt_tmod_of_pos a hb;have h4:a%b=a.tmod b%b:=by conv=>lhs;rw[<-h1,Int.add_comm,Int.add_mul_emod_self_left]
 by_cases hn:a.tmod b<0;rw[if_pos hn,pV (by omega) (by omega),h4];rw[<-Int.add_emod_right,Int.emod_eq_of_lt (by omega) (by omega)];rw[if_neg hn,h4,Int.emod_eq_of_lt (by omega) (by omega)]
theorem a1d(N:Nat){d:Dk}(hd:DK d){b:Int}(hb:0<b)(hb2:b<=9223372036854775807):Ok (n8 (N+2) (d,b)) fun r=>0<=r.1/\r.1<b/\DK r.2:=by obtain⟨l,i⟩:=d;obtain⟨h1,h2,h3⟩:=hd;simp only at h1 h2 h3;rw[e8];simp only[↓aKO,aJz,decide_eq_true_eq,aJO,ge_iff_le];by_cases hi:(l.length:Int)<=i;rw[if_pos hi];exact⟨(0,(l,i)),rfl,Int.le_refl _,hb,h1,h2,h3⟩;rw[if_neg hi,pV (n:=i+1) (by omega) (by omega),pV (n:=i+1-1) (by omega) (by omega)];obtain⟨n,rfl⟩:=Int.eq_ofNat_of_zero_le h1;rw[show(n:Int)+1-1=(n:Int) by omega,aJo (l:=l) (n:=n) (by omega)];obtain⟨r,hr,r1,r2⟩:=mod_ok N (a:=l[n]'(by omega)) hb hb2;simp only[↓aKO,aKI,hr];exact⟨(r,(l,(n:Int)+1)),rfl,r1,r2,by simp only[DK];omega⟩
abbrev Pol:=Int×Bool×Bool×Bool×Int×List Int×List (Int×Int)
def a0V(p:Pol):List Int:=p.2.2.2.2.2.1
def a1z(p:Pol):List (Int×Int):=p.2.2.2.2.2.2
def PolB(k:Nat)(p:Pol):Prop:=(a0V p).length<=k/\(a1z p).length<=k
theorem a6P(N:Nat)(hN:10<N){d:Dk}(hd:DK d)(a:Int):Ok (n9 (N+3) (d,a)) fun r=>PolB 5 r.1/\r.1.1=a/\DK r.2:=by
 rw[e9];refine a0d (a1d _ hd (by decide) (by decide)) fun v0 ⟨_,_,h0⟩=>a0d (a1d _ h0 (by decide) (by decide)) fun v1 ⟨_,_,h1⟩=>?_
 refine a0h (fun p=>(a0V p.2.1).length<=1/\a1z p.2.1=[]/\DK p.2.2/\p.2.1.1=a) (fun p ⟨k1,k2,k3,k4⟩=>?_) fun g hg=>?_
 refine a0h (fun p=>PolB 5 p.2.1/\p.2.1.1=a/\DK p.2.2) (fun p hp=>a0e hp) fun g hg=>?_
 refine a0v (fun i p=>p.2.2.1=(i:Int)/\i<=5/\(a0V p.2.1).length<=1/\(a1z p.2.1).length<=i/\DK p.2.2.2/\p.2.1.1=a) 5 (fun i q ⟨e,hi,q1,q2,q3,q4⟩=>?_) ⟨rfl,by decide,k1,by rw[k2];exact Nat.le_refl _,k3,k4⟩ (by omega);refine a0a (a0n (fun hc=>?_) fun hc=>a0k (hg _ ⟨⟨by show(a0V q.2.1).length<=5;omega,by show(a1z q.2.1).length<=5;omega⟩,q4,q3⟩));have hi5:i<5:=by have:=of_decide_eq_true hc;omega
 refine a0h (fun p=>p.2.2.1=(i:Int)/\(a0V p.2.1).length<=1/\(a1z p.2.1).length<=i+1/\DK p.2.2.2/\p.2.1.1=a) (fun p ⟨e,p1,p2,p3,p4⟩=>?_) fun g2 hg2=>?_
 exact a0c (w:=((i+1:Nat):Int)) (wv _ (by rw[e];rfl) (by omega) (by omega)) (a0q hi5 ⟨rfl,by omega,p1,p2,p3,p4⟩);refine a0d (a1d _ q3 (by decide) (by decide)) fun v hv=>?_
 refine a0h (fun p=>p.2.2.1=(i:Int)/\(a0V p.2.1).length<=1/\(a1z p.2.1).length<=i+1/\DK p.2.2.2/\p.2.1.1=a) (fun p hp=>hg2 _ hp) fun g3 hg3=>?_
 refine a0n (fun _=>?_) fun _=>hg3 _ ⟨e,q1,by show(a1z q.2.1).length<=_;omega,hv.2.2,q4⟩
 refine a0a (a0d (a1d _ hv.2.2 (by decide) (by decide)) fun w hw=>a0a (a0a (a0b (aJm (l:=a1z q.2.1) (by simp;omega) (by simp;omega)) (hg3 _ ⟨e,q1,?_,hw.2.2,q4⟩))));show(a1z q.2.1++_).length<=_;simp;omega;refine a0h (fun p=>(a0V p.2.1).length<=1/\a1z p.2.1=[]/\DK p.2.2/\p.2.1.1=a) (fun p hp=>hg _ hp) fun g1 hg1=>a0n (fun _=>hg1 _ ⟨by simp[a0V],rfl,h1,rfl⟩) fun _=>?_
 refine a0h (fun p=>(a0V p.2.1).length<=1/\a1z p.2.1=[]/\DK p.2.2/\p.2.1.1=a) (fun p hp=>hg1 _ hp) fun g2 hg2=>a0n (fun _=>hg2 _ ⟨by simp[a0V],rfl,h1,rfl⟩) fun _=>?_
 refine a0h (fun p=>(a0V p.2.1).length<=1/\a1z p.2.1=[]/\DK p.2.2/\p.2.1.1=a) (fun p hp=>hg2 _ hp) fun g3 hg3=>a0n (fun _=>a0d (a1d _ h1 (by decide) (by decide)) fun v hv=>a0a (hg3 _ ⟨by simp[a0V],rfl,hv.2.2,rfl⟩)) fun _=>?_
 refine a0h (fun p=>(a0V p.2.1).length<=1/\a1z p.2.1=[]/\DK p.2.2/\p.2.1.1=a) (fun p hp=>hg3 _ hp) fun g4 hg4=>a0n (fun _=>a0d (a1d _ h1 (by decide) (by decide)) fun v hv=>a0a (hg4 _ ⟨by simp[a0V],rfl,hv.2.2,rfl⟩)) fun _=>hg4 _ ⟨by simp[a0V],rfl,h1,rfl⟩
end Go.Proofs.YtgfmodmeimhhpaaGreatDoor
namespace Go.Proofs.YtgfmodmeimhhpaaGreatDoor
open Go.VM
set_option maxRecDepth 10000
theorem a1y{R:Type}{x:Option R}{v:R}(h:Ok x fun r=>r=v):x=some v:=by obtain⟨r,hr,rfl⟩:=h;exact hr
theorem a2T{α:Type}{l:List α}{p:α->Bool}{i:Nat}(hi:i<l.length)(h:(l.take i).any p=false)(h2:p l[i]=false):(l.take (i+1)).any p=false:=by rw[List.take_succ_eq_append_getElem hi,List.any_append,h];simp[h2]
theorem a2k{α:Type}{l:List α}{p:α->Bool}{i:Nat}(hi:i<l.length)(h:p l[i]=true):l.any p=true:=List.any_eq_true.2 ⟨_,List.getElem_mem hi,h⟩
theorem a2U{α:Type}{l:List α}{p:α->Bool}{i:Nat}(hi:l.length<=i)(h:(l.take i).any p=false):l.any p=false:=by rwa [List.take_of_length_le hi]at h
def a3J(l:List (Int×Int))(c:Int×Int):Bool:=l.any fun x=>x.1==c.1&&x.2==c.2
def a4E(l:List (Int×Int×Int))(c:Int×Int×Int):Bool:=l.any fun x=>x.1==c.1&&(x.2.1==c.2.1&&x.2.2==c.2.2)
theorem a2N(a b:Int):(a==b)=(b==a):=by rw[Bool.eq_iff_iff,beq_iff_eq,beq_iff_eq];exact eq_comm
theorem has68{N:Nat}{l:List (Int×Int)}(c:Int×Int)(hl:l.length<N)(h2:l.length<=2000):n68 (N+3) (l,c)=some (a3J l c):=by
 refine a1y ?_;rw[e68,e101];refine a0d (P:=fun b=>b=a3J l c) (a0d (P:=fun r=>decide (r>=(0:Int))=a3J l c) ?_ fun r h=>a0e h) fun b h=>a0e h
 rw[e121];refine a0h (fun _=>a3J l c=false) (fun _ h=>a0e h.symm) fun g hg=>?_
 refine a0v (fun i q=>q.2.1=c/\q.1=l/\q.2.2.1=(l.length:Int)/\q.2.2.2=(i:Int)/\i<=l.length/\((l.take i).any fun x=>x.1==c.1&&x.2==c.2)=false) l.length (fun i q ⟨e1,e2,e3,e4,h3,h4⟩=>?_) ⟨rfl,rfl,rfl,rfl,Nat.zero_le _,by simp⟩ hl;obtain⟨q2,q1,q3,q4⟩:=q;simp only at e1 e2 e3 e4;subst e1;subst e2;subst e3;subst e4;refine a0a (a0n (fun hc=>?_) fun hc=>?_);have hi:i<q2.length:=by simpa using hc
 refine a0b (aJo hi) (a0a (a0n (fun h=>a0k (a0e ?_)) fun h=>a0c (w:=((i+1:Nat):Int)) (wv _ rfl (by omega) (by omega)) (a0q hi ⟨rfl,rfl,rfl,rfl,hi,a2T hi h4 ?_⟩)));rw[show a3J q2 q1=true from a2k (p:=fun x:Int×Int=>x.1==q1.1&&x.2==q1.2) hi (by rw[a2N,a2N (q2[i]).2];simpa only[aIF]using h)];exact decide_eq_true (by omega);rw[a2N,a2N (q2[i]).2];simpa only[aIF]using h;have hi:q2.length<=i:=by simpa using hc
 exact a0k (hg () (a2U hi h4))
theorem has70{N:Nat}{l:List (Int×Int×Int)}(c:Int×Int×Int)(hl:l.length<N)(h2:l.length<=2000):n70 (N+3) (l,c)=some (a4E l c):=by
 refine a1y ?_;rw[e70,e102];refine a0d (P:=fun b=>b=a4E l c) (a0d (P:=fun r=>decide (r>=(0:Int))=a4E l c) ?_ fun r h=>a0e h) fun b h=>a0e h
 rw[e122];refine a0h (fun _=>a4E l c=false) (fun _ h=>a0e h.symm) fun g hg=>?_
 refine a0v (fun i q=>q.2.1=c/\q.1=l/\q.2.2.1=(l.length:Int)/\q.2.2.2=(i:Int)/\i<=l.length/\((l.take i).any fun x=>x.1==c.1&&(x.2.1==c.2.1&&x.2.2==c.2.2))=false) l.length (fun i q ⟨e1,e2,e3,e4,h3,h4⟩=>?_) ⟨rfl,rfl,rfl,rfl,Nat.zero_le _,by simp⟩ hl;obtain⟨q2,q1,q3,q4⟩:=q;simp only at e1 e2 e3 e4;subst e1;subst e2;subst e3;subst e4;refine a0a (a0n (fun hc=>?_) fun hc=>?_);have hi:i<q2.length:=by simpa using hc
 refine a0b (aJo hi) (a0a (a0n (fun h=>a0k (a0e ?_)) fun h=>a0c (w:=((i+1:Nat):Int)) (wv _ rfl (by omega) (by omega)) (a0q hi ⟨rfl,rfl,rfl,rfl,hi,a2T hi h4 ?_⟩)));rw[show a4E q2 q1=true from a2k (p:=fun x:Int×Int×Int=>x.1==q1.1&&(x.2.1==q1.2.1&&x.2.2==q1.2.2)) hi (by rw[a2N,a2N (q2[i]).2.1,a2N (q2[i]).2.2];simpa only[aIF]using h)];exact decide_eq_true (by omega);rw[a2N,a2N (q2[i]).2.1,a2N (q2[i]).2.2];simpa only[aIF]using h;have hi:q2.length<=i:=by simpa using hc
 exact a0k (hg () (a2U hi h4))
def hit(L:List (Int×Int×Int))(own who:Int):Nat->Int
 |0=>0|k+1=>if hit L own who k≠0 then hit L own who k else if a4E L (own,103-k,who)=true then 3-k else 0
def a1A(L:List (Int×Int×Int))(own mb:Int):Int:=if hit L own mb 3≠0 then hit L own mb 3 else hit L own 0 3
theorem a5u{L:List (Int×Int×Int)}{own who:Int}{k:Nat}(h:hit L own who k≠0):∀m,hit L own who (k+m)=hit L own who k
 |0=>rfl|m+1=>by have:=a5u h m;rw[<-Nat.add_assoc,hit,if_pos (by rw[this];exact h),this]
theorem a4Q{L:List (Int×Int×Int)}{own who:Int}:∀k,k<=3->0<=hit L own who k/\hit L own who k<=3
 |0,_=>⟨Int.le_refl _,by simp[hit]⟩|k+1,h=>by have:=a4Q (L:=L) (own:=own) (who:=who) k (by omega);rw[hit];split;exact this;split<;>omega
theorem a2l(L:List (Int×Int×Int))(own mb:Int):0<=a1A L own mb/\a1A L own mb<=3:=by unfold a1A;split;exact a4Q 3 (Nat.le_refl _);exact a4Q 3 (Nat.le_refl _)
def a2A(own:Int)(a:a0s)(mb:Int):Bool×Bool×Bool×Bool×Int:=
 let C:=a0o a;let L:=a0f a
 (a3J C (65535,65282),a3J C (0,mb)||a4E L (own,0,mb),a3J C (0,own)||a4E L (own,0,0),a3J C (own,mb)||a4E L (own,1,mb),a1A L own mb)
theorem r67{N:Nat}(x y:Int){a:a0s}(hl:(a0o a).length<N)(h2:(a0o a).length<=2000):n67 (N+4) (x,y,a)=some (a3J (a0o a) (x,y),a):=by rw[e67];exact a0T (has68 (x,y) hl h2) rfl
theorem r69{N:Nat}(y z:Int){a:a0s}(own:Int)(hl:(a0f a).length<N)(h2:(a0f a).length<=2000):n69 (N+4) (y,z,a,own)=some (a4E (a0f a) (own,y,z),a,own):=by rw[e69];exact a0T (has70 (own,y,z) hl h2) rfl
theorem a5v{b c:Bool}{α:Type}{x:Option (Bool×α)}{s:α}(h:x=some (c,s)):∃d,(bif (!b)then x else some (false,s))=some (d,s)/\(bif b then true else d)=(b||c):=by cases b;exact⟨c,h,rfl⟩;exact⟨false,rfl,rfl⟩
theorem a7U{N:Nat}{own mb:Int}{a:a0s}(hl:(a0f a).length+(a0o a).length+5<N)(h2:(a0f a).length<=2000)(h3:(a0o a).length<=2000):n29 (N+5) (own,a,mb)=some (a2A own a mb):=by
 refine a1y ?_;rw[e29];have C:=fun x y=>r67 (N:=N) x y (a:=a) (by omega) h3
 have L:=fun y z=>r69 (N:=N) y z (a:=a) own (by omega) h2
 refine a0b (C 65535 65282) (a0b (C 0 mb) ?_);obtain⟨d1,k1,m1⟩:=a5v (b:=a3J (a0o a) (0,mb)) (L 0 mb);refine a0b k1 (a0c m1 (a0b (C 0 own) ?_));obtain⟨d2,k2,m2⟩:=a5v (b:=a3J (a0o a) (0,own)) (L 0 0);refine a0b k2 (a0c m2 (a0b (C own mb) ?_));obtain⟨d3,k3,m3⟩:=a5v (b:=a3J (a0o a) (own,mb)) (L 1 mb);refine a0b k3 (a0c m3 (a0a (a0h (fun q=>q.2=a2A own a mb) (fun q hq=>a0e hq) fun g hg=>?_)));let W:Int->Bool×Bool×Bool×Bool×Int:=fun n=>(a3J (a0o a) (65535,65282),a3J (a0o a) (0,mb)||a4E (a0f a) (own,0,mb),a3J (a0o a) (0,own)||a4E (a0f a) (own,0,0),a3J (a0o a) (own,mb)||a4E (a0f a) (own,1,mb),n)
 let fin:Nat->Int:=fun i=>if i=0 then 0 else if i=1 then hit (a0f a) own mb 3 else a1A (a0f a) own mb
 refine a0v (fun i q=>q.2=(W (fin i),[mb,0],(2:Int),(i:Int),own,a)/\i<=2) 2 (fun i q ⟨e1,h4⟩=>?_) ⟨rfl,by decide⟩ (by omega);obtain⟨q1,q2⟩:=q;simp only at e1;subst e1;refine a0a (a0n (fun hc=>?_) fun hc=>?_)
 · have hi : i < 2 := by
     have h:(i:Int)<2:=of_decide_eq_true hc;omega
   refine a0h (fun q=>q.2=(W (fin (i+1)),[mb,0],(2:Int),(i:Int),own,a)) (fun q e=>?_) fun g2 hg2=>?_
   obtain⟨p1,p2⟩:=q;simp only at e;subst e;exact a0c (w:=((i+1:Nat):Int)) (wv _ rfl (by omega) (by omega)) (a0q hi ⟨rfl,hi⟩);refine a0b (aJo (l:=[mb,0]) hi) (a0h (fun q=>q.2=(W (fin (i+1)),[mb,0],(2:Int),(i:Int),own,a)) (fun q hq=>hg2 _ (by obtain⟨p1,p2⟩:=q;simp only at hq;subst hq;rfl)) fun g3 hg3=>?_);let who:Int:=[mb,0][i]'hi;have hfin:(if fin i≠0 then fin i else hit (a0f a) own who 3)=fin (i+1):=by
    by_cases h0:i=0;subst h0;simp[fin,who];have:i=1:=by omega
    subst this;simp[fin,who,a1A]
   refine a0v (fun k q=>q.2=(W (if fin i≠0 then fin i else hit (a0f a) own who k),who,3-(k:Int),[mb,0],(2:Int),(i:Int),own,a)/\k<=3) 3 (fun k q ⟨e1,h6⟩=>?_) ⟨by simp only[hit];congr 1;simp only[W];congr 4;split<;>simp_all,by decide⟩ (by omega);obtain⟨p1,p2⟩:=q;simp only at e1;subst e1;refine a0a (a0a (a0a (a0n (fun hc=>?_) fun hc=>?_)))
   · have hc2 : k < 3 ∧ (if fin i ≠ 0 then fin i else hit (a0f a) own who k) = 0 := by
       have h1:(0:Int)<3-(k:Int)/\(if fin i≠0 then fin i else hit (a0f a) own who k)=0:=by
        cases hd:decide ((3:Int)-(k:Int)>0)with
        |false=>simp only[hd]at hc;cases hc|true=>simp only[hd]at hc;exact⟨of_decide_eq_true hd,by simpa[W]using hc⟩
       exact⟨by omega,h1.2⟩
     obtain⟨hk,h0⟩:=hc2;have hf0:fin i=0:=by by_cases h:fin i=0;exact h;rw[if_pos h]at h0;exact h0
     rw[hf0,if_neg (by simp)]at h0;refine a0h (fun q=>q.2=(W (if fin i≠0 then fin i else hit (a0f a) own who (k+1)),who,3-(k:Int),[mb,0],(2:Int),(i:Int),own,a)) (fun q e=>?_) fun g4 hg4=>?_
     obtain⟨p1,p2⟩:=q;simp only at e;subst e;exact a0c (w:=3-((k+1:Nat):Int)) (wv _ (by show(3:Int)-(k:Int)-1=_;omega) (by omega) (by omega)) (a0q hk ⟨rfl,hk⟩);have hv:(if fin i≠0 then fin i else hit (a0f a) own who (k+1))=if a4E (a0f a) (own,103-k,who)=true then 3-(k:Int)else 0:=by rw[hf0];simp[hit,h0]
     refine a0c (w:=103-(k:Int)) (wv _ (by show(100:Int)+(3-(k:Int))=_;omega) (by omega) (by omega)) (a0b (L (103-(k:Int)) who) (a0h (fun q=>q.2=(W (if fin i≠0 then fin i else hit (a0f a) own who (k+1)),who,3-(k:Int),[mb,0],(2:Int),(i:Int),own,a)) (fun q hq=>hg4 _ (by obtain⟨p1,p2⟩:=q;simp only at hq;subst hq;rfl)) fun g5 hg5=>a0n (fun h=>hg5 _ ?_) fun h=>hg5 _ ?_));show(W (3-(k:Int)),_)=_;rw[hv,if_pos h];show(W (if fin i≠0 then fin i else hit (a0f a) own who k),_)=_;have hw:(if fin i≠0 then fin i else hit (a0f a) own who k)=if fin i≠0 then fin i else hit (a0f a) own who (k+1):=by rw[hv,if_neg (show ¬a4E (a0f a) (own,103-k,who)=true from by rw[show a4E (a0f a) (own,103-k,who)=false from h];simp),hf0];simp[h0]
     rw[hw]
   refine a0k (hg3 _ ?_);show(W _,_)=_;rw[<-hfin];congr 2;by_cases hf0:fin i=0;rw[hf0,if_neg (by simp),if_neg (by simp)];by_cases hk:k=3;rw[hk]
   · have hne : hit (a0f a) own who k ≠ 0 := by
       intro h0;have hd:decide ((3:Int)-(k:Int)>0)=true:=decide_eq_true (by omega);simp only[hd,W,hf0,h0]at hc;simp at hc
     have:=a5u hne (3-k);rw[show k+(3-k)=3 by omega]at this;exact this.symm
   rw[if_pos hf0,if_pos hf0]
 · have : i = 2 := by
     have h:¬(i:Int)<2:=of_decide_eq_false hc;omega
   subst this;exact a0k (hg _ rfl)
end Go.Proofs.YtgfmodmeimhhpaaGreatDoor
namespace Go.Proofs.YtgfmodmeimhhpaaGreatDoor
open Go.VM
set_option maxRecDepth 10000
structure AtB(a:a0s):Prop where
 path:a.2.1.length<=2000
 seg:∀s∈a.2.1,s.2.length<=2000
 comm:(a0o a).length<=2000
 large:(a0f a).length<=2000
 other:(a0r a).length<=2000
 data:∀u∈a0r a,u.2.2.length<=2000
def a1B:List Seg->Int
 |[]=>0|s::r=>(bif s.1 then 1 else(s.2.length:Int))+a1B r
def a1V(l:List Seg):List Int:=l.flatMap Prod.snd
def hasA(l:List Seg)(a:Int):Bool:=(a1V l).any fun x=>x==a
theorem a5w:∀(l m:List Seg),a1B (l++m)=a1B l+a1B m
 |[],m=>(Int.zero_add _).symm|s::l,m=>by rw[List.cons_append,a1B,a1B,a5w l m];omega
theorem a4b:∀(l:List Seg),(∀s∈l,s.2.length<=2000)->0<=a1B l/\a1B l<=2000*(l.length:Int)
 |[],_=>by simp[a1B]|s::l,h=>by
  have h1:=a4b l fun x hx=>h x (List.mem_cons_of_mem _ hx)
  have h2:=h s List.mem_cons_self;rw[a1B,List.length_cons];cases s.1<;>simp only[cond_true,cond_false]<;>omega
theorem a6Q{l:List Seg}{i:Nat}(hi:i<l.length):a1B (l.take (i+1))=a1B (l.take i)+(bif (l[i]).1 then 1 else((l[i]).2.length:Int)):=by rw[List.take_succ_eq_append_getElem hi,a5w];simp[a1B]
theorem a2m:∀(l:List Seg),(∀s∈l,s.2.length<=2000)->(a1V l).length<=2000*l.length
 |[],_=>by simp[a1V]|s::l,h=>by
  have h1:=a2m l fun x hx=>h x (List.mem_cons_of_mem _ hx)
  have h2:=h s List.mem_cons_self;unfold a1V at *;rw[List.flatMap_cons,List.length_append,List.length_cons];omega
theorem a6R{l:List Seg}{i:Nat}(hi:i<l.length):a1V (l.take (i+1))=a1V (l.take i)++(l[i]).2:=by rw[List.take_succ_eq_append_getElem hi];unfold a1V;rw[List.flatMap_append];simp
theorem a5x{l:List Seg}(h:∀s∈l,s.2.length<=2000)(i:Nat):∀s∈l.take i,s.2.length<=2000:=fun s hs=>h s (List.mem_of_mem_take hs)
theorem a5y{α:Type}{l:List α}{i:Nat}(h:i<=l.length):(l.take i).length=i:=by rw[List.length_take];omega
theorem len24{N:Nat}{l:List Seg}(hN:2001<N)(h1:l.length<=2000)(h2:∀s∈l,s.2.length<=2000):n32 (N+1) l=some (a1B l):=by
 refine a1y ?_;rw[e32];refine a0h (fun r=>r=a1B l) (fun _ h=>a0e h) fun g hg=>?_
 refine a0v (fun i q=>q.1=a1B (l.take i)/\q.2.1=l/\q.2.2.1=(l.length:Int)/\q.2.2.2=(i:Int)/\i<=l.length) l.length (fun i q ⟨e1,e2,e3,e4,h3⟩=>?_) ⟨rfl,rfl,rfl,rfl,Nat.zero_le _⟩ (by omega);obtain⟨q1,q2,q3,q4⟩:=q;simp only at e1 e2 e3 e4;subst e1;subst e2;subst e3;subst e4;refine a0a (a0n (fun hc=>?_) fun hc=>?_);have hi:i<q2.length:=by simpa using hc
 have hb:=a4b _ (a5x h2 i);rw[a5y h3]at hb;have hs:=h2 _ (List.getElem_mem hi);have hst:=a6Q hi;refine a0h (fun q=>q=(a1B (q2.take (i+1)),q2,(q2.length:Int),(i:Int))) (fun q e=>?_) fun g2 hg2=>?_
 subst e;exact a0c (w:=((i+1:Nat):Int)) (wv _ rfl (by omega) (by omega)) (a0q hi ⟨rfl,rfl,rfl,rfl,hi⟩);refine a0b (aJo hi) (a0h (fun q=>q=(a1B (q2.take (i+1)),q2,(q2.length:Int),(i:Int))) (fun q e=>hg2 _ (by subst e;rfl)) fun g3 hg3=>a0n (fun h=>?_) fun h=>?_);rw[h]at hst;exact a0c (w:=a1B (q2.take (i+1))) (wv _ hst.symm (by simp only[cond_true]at hst;omega) (by simp only[cond_true]at hst;omega)) (hg3 _ rfl);rw[h]at hst;exact a0c (w:=a1B (q2.take (i+1))) (wv _ hst.symm (by simp only[cond_false]at hst;omega) (by simp only[cond_false]at hst;omega)) (hg3 _ rfl)
 · have : i = q2.length := by have : ¬ i < q2.length := by simpa using hc
                              omega
   subst this;exact a0k (hg _ (by rw[List.take_of_length_le (Nat.le_refl _)]))
theorem len32{N:Nat}{l:List Seg}(hN:2001<N)(h1:l.length<=2000)(h2:∀s∈l,s.2.length<=2000):n32 (N+1) l=some (a1B l):=by refine Eq.trans ?_ (len24 hN h1 h2);rfl
theorem flat61{N:Nat}{l:List Seg}(hN:2001<N)(h1:l.length<=2000)(h2:∀s∈l,s.2.length<=2000):n72 (N+1) l=some (a1V l):=by
 refine a1y ?_;rw[e72];refine a0h (fun r=>r=a1V l) (fun _ h=>a0e h) fun g hg=>?_
 refine a0v (fun i q=>q.1=a1V (l.take i)/\q.2.1=l/\q.2.2.1=(l.length:Int)/\q.2.2.2=(i:Int)/\i<=l.length) l.length (fun i q ⟨e1,e2,e3,e4,h3⟩=>?_) ⟨rfl,rfl,rfl,rfl,Nat.zero_le _⟩ (by omega);obtain⟨q1,q2,q3,q4⟩:=q;simp only at e1 e2 e3 e4;subst e1;subst e2;subst e3;subst e4;refine a0a (a0n (fun hc=>?_) fun hc=>?_);have hi:i<q2.length:=by simpa using hc
 have hb:=a2m _ (a5x h2 i);rw[a5y h3]at hb;have hs:=h2 _ (List.getElem_mem hi);refine a0b (aJo hi) (a0b (aJm (l:=a1V (q2.take i)) (m:=(q2[i]).2) (by omega) (by omega)) (a0c (w:=((i+1:Nat):Int)) (wv _ rfl (by omega) (by omega)) (a0q hi ⟨(a6R hi).symm,rfl,rfl,rfl,hi⟩)))
 · have : i = q2.length := by have : ¬ i < q2.length := by simpa using hc
                              omega
   subst this;exact a0k (hg _ (by rw[List.take_of_length_le (Nat.le_refl _)]))
theorem a7V{N:Nat}{l:List Seg}(hN:2001<N)(h1:l.length<=2000)(h2:∀s∈l,s.2.length<=2000):n72 (N+1) l=some (a1V l):=by refine Eq.trans ?_ (flat61 hN h1 h2);rfl
theorem in30{N:Nat}{l:List Int}(c:Int)(hl:l.length<N)(h2:l.length<=5000000):n30 (N+2) (l,c)=some (l.any fun x=>x==c):=by
 refine a1y ?_;rw[e30];refine a0d (P:=fun r=>decide (r>=(0:Int))=l.any fun x=>x==c) ?_ fun r h=>a0e h
 rw[e71];refine a0h (fun _=>(l.any fun x=>x==c)=false) (fun _ h=>a0e h.symm) fun g hg=>?_
 refine a0v (fun i q=>q.2.1=c/\q.1=l/\q.2.2.1=(l.length:Int)/\q.2.2.2=(i:Int)/\i<=l.length/\((l.take i).any fun x=>x==c)=false) l.length (fun i q ⟨e1,e2,e3,e4,h3,h4⟩=>?_) ⟨rfl,rfl,rfl,rfl,Nat.zero_le _,by simp⟩ hl;obtain⟨q2,q1,q3,q4⟩:=q;simp only at e1 e2 e3 e4;subst e1;subst e2;subst e3;subst e4;refine a0a (a0n (fun hc=>?_) fun hc=>?_);have hi:i<q2.length:=by simpa using hc
 refine a0b (aJo hi) (a0n (fun h=>a0k (a0e ?_)) fun h=>a0c (w:=((i+1:Nat):Int)) (wv _ rfl (by omega) (by omega)) (a0q hi ⟨rfl,rfl,rfl,rfl,hi,a2T hi h4 (by rw[a2N];exact h)⟩));rw[a2k (p:=fun x=>x==q1) hi (by rw[a2N];exact h)];exact decide_eq_true (by omega);have hi:q2.length<=i:=by simpa using hc
 exact a0k (hg () (a2U hi h4))
theorem has33{N:Nat}{l:List Seg}(c:Int)(hN:5000000<N)(h1:l.length<=2000)(h2:∀s∈l,s.2.length<=2000):n33 (N+3) (l,c)=some (hasA l c):=by have hb:=a2m _ h2;rw[e33];exact a0T (a7V (by omega) h1 h2) (a0T (in30 c (by omega) (by omega)) rfl)
abbrev Rt:=((Bool×Int×Int)×Int)×Int×a0s
def famD(r:Rt)(p:Pol):Bool:=bif (bif p.2.2.1 then r.1.1.1 else false)then true else(bif p.2.1 then(!r.1.1.1)else false)
def hopD(own:Int)(r:Rt)(p:Pol):Bool:=bif (p.2.2.2.2.1 != (0:Int))then decide (a1B r.2.2.2.1+a1A (a0f r.2.2) own p.1>p.2.2.2.2.1)else false
def verD(own:Int)(r:Rt)(p:Pol):Int:=
 bif (r.2.1==p.1)then 1 else bif (a2A own r.2.2 p.1).1 then 2 else bif (a2A own r.2.2 p.1).2.1 then 3 else
 bif (bif (a2A own r.2.2 p.1).2.2.1 then(!(a2A own r.2.2 p.1).2.2.2.1)else false)then 4 else
 bif famD r p then 5 else bif (a0V p).any (fun x=>x==r.2.1)then 6 else
 bif (bif a3J (a0o r.2.2) (65535,666)then(!p.2.2.2.1)else false)then 7 else
 bif hopD own r p then 8 else bif hasA r.2.2.2.1 p.1 then 9 else 0
theorem a2n{R:Type}{c:Bool}{x y:Option R}{u v:R}(h:c=true->Ok x fun r=>r=u)(k:c=false->Ok y fun r=>r=v):Ok (bif c then x else y) fun r=>r=bif c then u else v:=by cases c;exact k rfl;exact h rfl
theorem hole31{N:Nat}{a:a0s}(hN:2001<N)(h:AtB a):n31 (N+4) a=some (a3J (a0o a) (65535,666)):=by rw[e31];exact a0T (has68 (l:=a0o a) _ (by have:=h.comm;omega) h.comm) rfl
theorem ver11{N:Nat}(hN:5000000<N){own:Int}{r:Rt}{p:Pol}(ha:AtB r.2.2)(hp:(a0V p).length<=2000):n11 (N+6) (own,r,p)=some (verD own r p):=by
 have k1:=ha.comm;have k2:=ha.large;have k3:=a4b _ ha.seg;have k4:=ha.path;have k5:=a2l (a0f r.2.2) own p.1;refine a1y ?_;rw[e11];refine a0b (a7U (by omega) k2 k1) (a2n (fun _=>a0e rfl) fun _=>a2n (fun _=>a0e rfl) fun _=>a2n (fun _=>a0e rfl) fun _=>a0a (a2n (fun _=>a0e rfl) fun _=>a0a ?_));refine a0h (fun q=>q=(r,p,a2A own r.2.2 p.1,famD r p)) (fun q e=>?_) fun g hg=>?_
 subst e;refine a2n (fun _=>a0e rfl) fun _=>a0b (in30 r.2.1 (N:=N+3) (l:=a0V p) (by omega) (by omega)) (a2n (fun _=>a0e rfl) fun _=>a0b (hole31 (N:=N+1) (by omega) ha) (a0a (a2n (fun _=>a0e rfl) fun _=>a0a ?_)))
 have hh:∃v,(bif (p.2.2.2.2.1 != (0:Int))then n32 (N+5) r.2.2.2.1 else some (0:Int))=some v/\(bif (p.2.2.2.2.1 != (0:Int))then decide (IntKind.i64.wrap (v+(a2A own r.2.2 p.1).2.2.2.2)>p.2.2.2.2.1)else false)=hopD own r p:=by
  unfold hopD;cases hb:(p.2.2.2.2.1 != (0:Int))with
  |false=>exact⟨0,rfl,rfl⟩|true=>refine⟨a1B r.2.2.2.1,len32 (by omega) k4 ha.seg,?_⟩;show decide (IntKind.i64.wrap (a1B r.2.2.2.1+a1A (a0f r.2.2) own p.1)>_)=decide _;rw[pV (by omega) (by omega)]
 obtain⟨v,hv,hv2⟩:=hh;refine a0b hv (a0a (a0a ?_));rw[show(bif (p.2.2.2.2.1 != (0:Int))then decide (IntKind.i64.wrap (v+(a2A own r.2.2 p.1).2.2.2.2)>p.2.2.2.2.1)else false)=_ from hv2];exact a2n (fun _=>a0e rfl) fun _=>a0b (has33 (N:=N+2) p.1 (by omega) k4 ha.seg) (a2n (fun _=>a0e rfl) fun _=>a0e rfl)
 refine a0n (fun h=>hg _ ?_) fun h=>a0a (hg _ ?_)
 unfold famD;rw[h];rfl;unfold famD;rw[h];rfl
end Go.Proofs.YtgfmodmeimhhpaaGreatDoor
open Nat(le_trans)
namespace Go.Proofs.YtgfmodmeimhhpaaGreatDoor
open Go.VM
set_option maxRecDepth 10000
theorem a4R{i n:Nat}(k:decide ((i:Int)<(n:Int))=true):i<n:=by have:(i:Int)<(n:Int):=of_decide_eq_true k;omega
theorem AtB.sm{a:a0s}(h:AtB a):smA a=true:=a2X.2 ⟨le_trans h.path (by decide),fun s hs=>le_trans (h.seg s hs) (by decide),le_trans h.comm (by decide),le_trans h.large (by decide),le_trans h.other (by decide),fun u hu=>le_trans (h.data u hu) (by decide)⟩
theorem strip16{N:Nat}{own:Int}{a:a0s}(ha:AtB a):n16 (N+1) (own,a)=some (a0H own a):=by rw[e16];unfold a1O;rw[if_pos ha.sm]
theorem AtB.strip{a:a0s}(h:AtB a)(own:Int):AtB (a0H own a):=⟨h.path,h.seg,le_trans (List.length_filter_le _ _) h.comm,le_trans (List.length_filter_le _ _) h.large,h.other,h.data⟩
theorem a7x(o:Int){p:List Int}(m r:Int){c:List (Int×Int)}{g:List (Int×Int×Int)}(asn:Int)(v6:Bool){s:Int×Dk}(hp:p.length<=10)(hc:c.length<=10)(hg:g.length<=10)(hs:DK s.2) :
  AtB (swD o p m r c g asn v6 s).1/\DK (swD o p m r c g asn v6 s).2:=by
 have one:∀{q:List Int},q.length<=12->∀x∈[((false,q):Seg)],x.2.length<=2000:=fun h x hx=>by rw[List.mem_singleton]at hx;subst hx;exact le_trans h (by decide)
 have mk:∀{path:List Seg} {nx:Bool×Int×Int} {ot:Int} {oth:List Unk},path.length<=2->(∀x∈path,x.2.length<=2000)->oth.length<=1->(∀u∈oth,u.2.2.length<=2)->AtB (o,path,nx,m,r,ot,c,g,oth):=fun h1 h2 h3 h4=>⟨le_trans h1 (by decide),h2,by show c.length<=_;omega,by show g.length<=_;omega,le_trans h3 (by decide),fun u hu=>le_trans (h4 u hu) (by decide)⟩
 have n0:∀u∈([]:List Unk),u.2.2.length<=2:=fun u hu=>by cases hu
 unfold swD;simp only;split;exact⟨mk (by simp) (one (by omega)) (by simp) n0,a1E hs _⟩;split;exact⟨mk (by simp) (one (by simp;omega)) (by simp) n0,hs⟩;split;refine⟨mk (by simp) (fun x hx=>?_) (by simp) n0,hs⟩;rcases List.mem_cons.1 hx with rfl|hx;show p.length<=_;omega;rw[List.mem_singleton]at hx;subst hx;decide;split;exact⟨mk (by simp) (one (by simp;omega)) (by simp) n0,hs⟩;split;exact⟨mk (by simp) (one (by omega)) (by simp) n0,hs⟩;split;exact⟨mk (by simp) (one (by simp;omega)) (by simp) n0,hs⟩;split;exact⟨mk (by simp) (fun x hx=>by cases hx) (by simp) n0,hs⟩;split;refine⟨mk (by simp) (one (by omega)) (by simp) (fun u hu=>?_),a1E hs _⟩;rw[List.mem_singleton]at hu;subst hu;simp;exact⟨mk (by simp) (one (by omega)) (by simp) n0,hs⟩
theorem a5z{d:Dk}(h:DK d)(asn:Int)(v6:Bool):AtB (a0F d asn v6).1/\(a0o (a0F d asn v6).1).Sublist Z.allC/\(a0f (a0F d asn v6).1).Sublist Z.allL/\DK (a0F d asn v6).2:=by
 obtain⟨c1,c2,c3,c4,_⟩:=a2i h asn v6;obtain⟨_,cs,_,_⟩:=a2y c1;obtain⟨_,ls,_,_⟩:=a1K c2;have hk:=a3y (nx d 3).2 (b:=4) (by decide);obtain⟨p1,p2,p3⟩:=a1c asn (nx (nx d 3).2 4).1.toNat [asn] (nx (nx d 3).2 4).2 (a1E (a1E h 3) 4);obtain⟨o1,o2⟩:=a1M p3 3 3;obtain⟨q1,q2⟩:=a1M o2 6 300;obtain⟨_,s1,_,s2⟩:=a2y q2;obtain⟨_,s3,_,s4⟩:=a1K s2;have hp:(a2o d asn).2.1.length<=10:=by show(a1G asn (nx (nx d 3).2 4).1.toNat [asn] (nx (nx d 3).2 4).2).1.length<=10;rw[p1];simp;omega
 have hc:=s1.length_le;have hg:=s3.length_le;have key:=a7x (a2o d asn).1 (p:=(a2o d asn).2.1) (a1w (a2o d asn).2.2 3 3).1 (a1w (a1w (a2o d asn).2.2 3 3).2 6 300).1 asn v6 hp (le_trans hc (by decide)) (le_trans hg (by decide)) (a1E s4 24);exact⟨key.1,by rw[c3];exact cs,by rw[c4];exact ls,key.2⟩
theorem a6S(N:Nat){d:Dk}(hd:DK d):Ok (n27 (N+3) d) fun r=>DK r.2:=by
 have B:∀k,Ok (n62 (N+2) k) fun _=>True:=fun k=>by rw[e62];exact a0n (fun _=>a0a (a0a (a0e trivial))) fun _=>a0a (a0a (a0e trivial))
 rw[e27];refine a0d (a1d N hd (by decide) (by decide)) fun v0 h0=>a0d (B _) fun v1 _=>a0d (a1d N h0.2.2 (by decide) (by decide)) fun v2 h2=>?_
 refine a0h (fun q=>DK q.2.2) (fun q hq=>a0e hq) fun g hg=>a0h (fun q=>DK q.2.2) (fun q hq=>hg _ hq) fun g1 hg1=>a0n (fun _=>?_) fun _=>?_
 exact a0h (fun q=>DK q.2.2) (fun q hq=>hg1 _ hq) fun g2 hg2=>a0n (fun _=>hg2 _ h2.2.2) fun _=>hg2 _ h2.2.2
 refine a0h (fun q=>DK q.2.2) (fun q hq=>hg1 _ hq) fun g2 hg2=>a0n (fun _=>?_) fun _=>hg2 _ h2.2.2
 refine a0h (fun q=>DK q.2.2) (fun q hq=>?_) fun g3 hg3=>a0n (fun _=>hg3 _ h2.2.2) fun _=>hg3 _ h2.2.2
 have hn:=a1d N hq (b:=3) (by decide) (by decide);refine a0d hn fun v h=>?_
 refine a0a ?_;refine hg2 _ ?_;exact h.2.2
structure RtK(r:Rt)(a:Int):Prop where
 small:AtB r.2.2
 comm:∃d v6,DK d/\r.2.2=(a0F d a v6).1
 from_:r.2.1=a
theorem a7y(N:Nat){d:Dk}(hd:DK d)(a:Int):Ok (n7 (N+4) (d,a)) fun r=>RtK r.1 a/\DK r.2:=by
 rw[e7];refine a0d (a6S N hd) fun v0 h0=>?_
 have e:n28 (N+3) (v0.2,a,v0.1.1.1)=some (a0F v0.2 a v0.1.1.1):=by rw[e28];unfold a1P;rw[if_pos (a6f.2 h0)]
 have k:=a5z h0 a v0.1.1.1;exact a0b e (a0e ⟨⟨k.1,⟨v0.2,v0.1.1.1,h0,rfl⟩,rfl⟩,k.2.2.2⟩)
end Go.Proofs.YtgfmodmeimhhpaaGreatDoor
namespace Go.Proofs.YtgfmodmeimhhpaaGreatDoor
open Go.VM
set_option maxRecDepth 100000
theorem DK0{l:List Int}(h:l.length<=9223372036854775807):DK (l,0):=⟨Int.le_refl _,by show(0:Int)<=l.length;omega,h⟩
theorem awakeK:n18 60 ()=some true:=by kernel_rfl
theorem awake'{N:Nat}(h:60<=N):n18 N ()=some true:=aGj (T:=TN) h 18 () true awakeK
theorem fz39:∀N,n84 N=Z.n84 N
 |0=>rfl|N+1=>funext fun a=>by rw[e84,Z.e84]
theorem fz38(N:Nat)(p:List Seg):n83 (N+1) p=Z.n83 (N+1) p:=by rw[e83,Z.e83,fz39]
theorem fz78:∀N,n73 N=Z.n73 N
 |0=>rfl|N+1=>funext fun a=>by rw[e73,Z.e73]
theorem fz79:∀N,n74 N=Z.n74 N
 |0=>rfl|N+1=>funext fun a=>by rw[e74,Z.e74]
theorem fz80:∀N,n75 N=Z.n75 N
 |0=>rfl|N+1=>funext fun a=>by rw[e75,Z.e75]
theorem fz81:∀N,n76 N=Z.n76 N
 |0=>rfl|N+1=>funext fun a=>by rw[e76,Z.e76]
theorem clone52{N:Nat}{a:a0s}(hN:100010<=N)(ha:AtB a):n39 (N+1) a=some a:=by refine Eq.trans ?_ (Z.clone_ok (a2X.1 ha.sm) hN);rw[e39,Z.e39,fz78,fz79,fz80,fz81]
theorem valid38{N:Nat}(hN:100002<N){p:List Seg}(hp:p.length<=1000)(hs:∀s∈p,s.2.length<=2000):n83 (N+1) p=some (pvd p):=by obtain⟨M,rfl⟩:∃M,N=M+1:=⟨N-1,by omega⟩;rw[fz38];exact Z.valid_p M (by omega) hp fun s h=>Nat.le_trans (hs s h) (by decide)
def isT(x:Option Bool):Bool:=match x with
 |some b=>b|none=>false
theorem a3k{x:Option Bool}(h:isT x=true):x=some true:=by
 cases x with|none=>cases h|some b=>rw[show b=true from h]
def isL(x:Option Int):Bool:=match x with
 |some n=>decide (n=-1)|none=>false
theorem a7W{x:Option Int}(h:isL x=true):x=some (-1):=by
 cases x with|none=>cases h|some b=>rw[show b=-1 from of_decide_eq_true h]
def a3l{α:Type}(R:α->α->Bool):List α->Bool
 |[]=>true|a::l=>l.all (R a)&&a3l R l
theorem a1H{α:Type}{R:α->α->Bool}:∀{l:List α},a3l R l=true->l.Pairwise fun x y=>R x y=true
 |[],_=>.nil|a::l,h=>by rw[a3l,Bool.and_eq_true]at h;exact .cons (List.all_eq_true.1 h.1) (a1H h.2)
theorem commK:(Z.allC.all (fun c=>isT (n105 20 c))&&a3l (fun x y=>isL (n106 20 (x,y))) Z.allC)=true:=by kernel_rfl
theorem largeK:(Z.allL.all (fun c=>isT (n108 20 c))&&a3l (fun x y=>isL (n109 20 (x,y))) Z.allL)=true:=by kernel_rfl
theorem a5A{α β:Type}{l:List α}{M:Nat}(z:α)(fit:α->Option Bool)(cmp:α×α->Option β)(b0:β)(bad:β->Bool)(good:β)(e1:∀c∈l,fit c=some true)(e2:∀i (hi:i+1<l.length),cmp (l[i],l[i+1])=some good)(hg:bad good=false)(hl:l.length<=8)(hM:8<M) :
  (aBJ (fun p0:List α=>aJy (decide ((aJO p0)<=(64:Int))) fun v2=>some v2) fun j1=>eG M (fun p3:List α×(List α×(Int×Int))=>aJy (decide (p3.2.2.2<p3.2.2.1)) fun v4=>bif v4 then((aEU p3.2.1 p3.2.2.2).bind fun v5=>(fit v5).bind fun v6=>aJy (decide (p3.2.2.2>(0:Int))) fun v7=>aJy (IntKind.i64.wrap (p3.2.2.2-(1:Int))) fun v8=>(bif (v7&&(!(!v6)))then(aEU p3.1 v8)else some z).bind fun v9=>(bif (v7&&(!(!v6)))then(cmp (v9,v5))else some b0).bind fun v10=>aJy (bif v7 then bad v10 else false) fun v11=>aJy (bif (!v6)then true else v11) fun v12=>bif v12 then(lJ (some false))else(aJy (IntKind.i64.wrap (p3.2.2.2+(1:Int))) fun v13=>tN (p3.1,p3.2.1,p3.2.2.1,v13)))else(lJ (j1 p3.1))) (l,l,(aJO l),(0:Int)))=some true:=by
 refine a1y ?_;refine a0h (fun q=>q=l) (fun q e=>a0a (a0e ?_)) fun g hg2=>?_
 subst e;exact decide_eq_true (by show(q.length:Int)<=64;omega);refine a0v (fun i q=>q=(l,l,(l.length:Int),(i:Int))/\i<=l.length) l.length (fun i q ⟨e,hi⟩=>?_) ⟨rfl,Nat.zero_le _⟩ (by omega);subst e;refine a0a (a0n (fun hc=>?_) fun hc=>a0k (hg2 _ rfl));have hlt:i<l.length:=a4R hc;refine a0b (aJo hlt) (a0b (e1 _ (List.getElem_mem hlt)) (a0a (a0a ?_)));have hw:IntKind.i64.wrap ((i:Int)-1)=(i:Int)-1:=wv _ rfl (by omega) (by omega);have key:∃v w,(bif (decide ((i:Int)>0)&&(!(!true)))then aEU l (IntKind.i64.wrap ((i:Int)-1))else some z)=some v/\(bif (decide ((i:Int)>0)&&(!(!true)))then cmp (v,l[i])else some b0)=some w/\(bif decide ((i:Int)>0)then bad w else false)=false:=by
  cases i with|zero=>exact⟨z,b0,rfl,rfl,rfl⟩|succ i=>have hd:decide (((i+1:Nat):Int)>0)=true:=decide_eq_true (by omega);refine⟨l[i],good,?_,?_,?_⟩;rw[hd,hw,show(((i+1:Nat):Int)-1)=(i:Int) by omega];exact aJo (by omega);rw[hd];exact e2 i hlt;rw[hd];exact hg
 obtain⟨v,w,h1,h2,h3⟩:=key;refine a0b h1 (a0b h2 (a0c h3 (a0c (w:=false) rfl (a0n (fun h=>by cases h) fun _=>a0c (w:=((i+1:Nat):Int)) (wv _ rfl (by omega) (by omega)) (a0q hlt ⟨rfl,hlt⟩)))))
theorem comm40{N:Nat}(hN:40<=N){l:List (Int×Int)}(h:l.Sublist Z.allC):n85 N l=some true:=by
 obtain⟨k1,k2⟩:=Bool.and_eq_true_iff.1 commK;have e1:∀{M:Nat},20<=M->∀c∈l,n105 M c=some true:=fun hM c hc=>aGj (T:=TN) hM 105 c true (a3k (List.all_eq_true.1 k1 c (h.subset hc)))
 have e2:∀{M:Nat},20<=M->∀i (hi:i+1<l.length),n106 M (l[i],l[i+1])=some (-1):=fun hM i hi=>aGj (T:=TN) hM 106 _ (-1:Int) (a7W (List.pairwise_iff_getElem.1 ((a1H k2).sublist h) i (i+1) (by omega) hi (by omega)))
 obtain⟨M,rfl⟩:∃M,N=M+2:=⟨N-2,by omega⟩;rw[e85,e104];exact a0T (a5A (0,0) (fun c=>n105 M c) (fun q=>n106 M q) 0 (fun w=>decide (w>=(0:Int))) (-1) (e1 (by omega)) (e2 (by omega)) rfl (Nat.le_trans h.length_le (by decide)) (by omega)) rfl
theorem large41{N:Nat}(hN:40<=N){l:List (Int×Int×Int)}(h:l.Sublist Z.allL):n86 N l=some true:=by
 obtain⟨k1,k2⟩:=Bool.and_eq_true_iff.1 largeK;have e1:∀{M:Nat},20<=M->∀c∈l,n108 M c=some true:=fun hM c hc=>aGj (T:=TN) hM 108 c true (a3k (List.all_eq_true.1 k1 c (h.subset hc)))
 have e2:∀{M:Nat},20<=M->∀i (hi:i+1<l.length),n109 M (l[i],l[i+1])=some (-1):=fun hM i hi=>aGj (T:=TN) hM 109 _ (-1:Int) (a7W (List.pairwise_iff_getElem.1 ((a1H k2).sublist h) i (i+1) (by omega) hi (by omega)))
 obtain⟨M,rfl⟩:∃M,N=M+2:=⟨N-2,by omega⟩;rw[e86,e107];exact a0T (a5A (0,0,0) (fun c=>n108 M c) (fun q=>n109 M q) 0 (fun w=>decide (w>=(0:Int))) (-1) (e1 (by omega)) (e2 (by omega)) rfl (Nat.le_trans h.length_le (by decide)) (by omega)) rfl
structure AtD(a:a0s):Prop where
 small:AtB a
 path:a.2.1=[]\/∃l M,a.2.1=(false,l)::M
 tot:tot a.2.1<=20
 len:a.2.1.length<=2
 comm:(a0o a).Sublist Z.allC
 large:(a0f a).Sublist Z.allL
 other:a0r a=[]\/∃x,a0r a=[(224,99,x)]
def DP(a:a0s):Prop:=(a.2.1=[]\/∃l M,a.2.1=(false,l)::M)/\tot a.2.1<=20/\a.2.1.length<=2/\(a0r a=[]\/∃x,a0r a=[(224,99,x)])
theorem sw_deck(o:Int){p:List Int}(m r:Int)(c:List (Int×Int))(g:List (Int×Int×Int))(asn:Int)(v6:Bool)(s:Int×Dk)(hp:p.length<=10) :
  DP (swD o p m r c g asn v6 s).1:=by
 have T1:∀{l:List Int},l.length<=20->tot [(false,l)]<=20:=fun h=>by show _+0<=20;exact h
 unfold swD;simp only;split;exact⟨.inr ⟨_,_,rfl⟩,T1 (by omega),by simp,.inl rfl⟩;split;exact⟨.inr ⟨_,_,rfl⟩,T1 (by simp;omega),by simp,.inl rfl⟩;split;refine⟨.inr ⟨_,_,rfl⟩,?_,by simp,.inl rfl⟩;show p.length+(2+0)<=20;omega;split;exact⟨.inr ⟨_,_,rfl⟩,T1 (by simp;omega),by simp,.inl rfl⟩;split;exact⟨.inr ⟨_,_,rfl⟩,T1 (by omega),by simp,.inl rfl⟩;split;exact⟨.inr ⟨_,_,rfl⟩,T1 (by simp;omega),by simp,.inl rfl⟩;split;exact⟨.inl rfl,(show tot []<=20 by decide),by simp,.inl rfl⟩;split;exact⟨.inr ⟨_,_,rfl⟩,T1 (by omega),by simp,.inr ⟨_,rfl⟩⟩;exact⟨.inr ⟨_,_,rfl⟩,T1 (by omega),by simp,.inl rfl⟩
theorem a4S{d:Dk}(h:DK d)(asn:Int)(v6:Bool):AtD (a0F d asn v6).1:=by
 obtain⟨k1,k2,k3,_⟩:=a5z h asn v6;have hk:=a3y (nx d 3).2 (b:=4) (by decide);obtain⟨p1,_,_⟩:=a1c asn (nx (nx d 3).2 4).1.toNat [asn] (nx (nx d 3).2 4).2 (a1E (a1E h 3) 4);have hp:(a2o d asn).2.1.length<=10:=by show(a1G asn (nx (nx d 3).2 4).1.toNat [asn] (nx (nx d 3).2 4).2).1.length<=10;rw[p1];simp;omega
 obtain⟨q1,q2,q3,q4⟩:=sw_deck (a2o d asn).1 (a1w (a2o d asn).2.2 3 3).1 (a1w (a1w (a2o d asn).2.2 3 3).2 6 300).1 (a0U (a1w (a1w (a2o d asn).2.2 3 3).2 6 300).2).1 (a0D (a0U (a1w (a1w (a2o d asn).2.2 3 3).2 6 300).2).2).1 asn v6 (nx (a0D (a0U (a1w (a1w (a2o d asn).2.2 3 3).2 6 300).2).2).2 24) hp;exact⟨k1,q1,q2,q3,k2,k3,q4⟩
end Go.Proofs.YtgfmodmeimhhpaaGreatDoor
namespace Go.Proofs.YtgfmodmeimhhpaaGreatDoor
open Go.VM
set_option maxRecDepth 100000
theorem a7X(x:Int):¬IntKind.u64.wrap x<0:=by rw[IntKind.wrap_u64];omega
theorem masks60(N:Nat)(a:Int):Ok (n103 (N+1) a) fun _=>True:=by
 rw[e103];refine a0n (fun _=>a0a ?_) fun _=>?_
 rw[if_neg (a7X _)];exact a0b rfl (a0a (a0e trivial));rw[if_neg (a7X _)];exact a0b rfl (a0a (a0e trivial))
theorem a6T(N:Nat)(a:Bool×Int×Int):Ok (n80 (N+1) a) fun _=>True:=by rw[e80];exact a0n (fun _=>a0e trivial) fun _=>a0e trivial
theorem a7Y(N:Nat)(a:Bool×Int×Int):Ok (n79 (N+1) a) fun _=>True:=by rw[e79];exact a0a (a0a (a0e trivial))
theorem a0x{α:Type}{c:Bool}{x:Option α}{d:α}(h:c=true->Ok x fun _=>True):Ok (bif c then x else some d) fun _=>True:=by cases c;exact a0e trivial;exact h rfl
theorem a7z(N:Nat)(a:(Bool×Int×Int)×Int):Ok (n46 (N+4) a) fun _=>True:=by
 rw[e46];refine a0d (a7Y _ _) fun v0 _=>a0a (a0d (a0x fun _=>a6T _ _) fun v2 _=>a0a (a0d (a0x fun _=>?_) fun v4 _=>a0a (a0e trivial)))
 rw[e81];exact a0d (a6T _ _) fun _ _=>a0d (masks60 _ _) fun _ _=>a0a (a0a (a0e trivial))
theorem num17(N:Nat)(a:Int):n45 (N+1) a=some (decide (a>=1)&&decide (a<=4294967295)):=by rw[e45];refine a0K rfl (a0K rfl ?_);cases decide (a>=1)<;>rfl
theorem num39(N:Nat)(a:Int):n84 (N+1) a=some (num a):=by rw[fz39];exact Z.num_n N a
theorem in37(N:Nat)(a b c:Int):Ok (n82 (N+1) (a,b,c)) fun _=>True:=by rw[e82];exact a0a (a0e trivial)
theorem unk67(N:Nat){t:Int}(h:(Lit.int .i64 t).wf=true):Ok (n110 (N+1) t) fun _=>True:=by rw[e110];unfold a4u;rw[if_pos h];exact a0e trivial
theorem a4c{N:Nat}(hN:3<N){l:List Unk}(h:l=[]\/∃x,l=[(224,99,x)]):Ok (n87 (N+2) l) fun _=>True:=by
 rw[e87];refine a0h (fun _=>True) (fun q _=>a0a (a0e trivial)) fun g hg=>?_
 have hl:l.length<=1:=by rcases h with rfl|⟨x,rfl⟩<;>simp
 refine a0v (fun i q=>q=(l,l,(l.length:Int),(i:Int))/\i<=l.length) l.length (fun i q ⟨e,hi⟩=>?_) ⟨rfl,Nat.zero_le _⟩ (by omega);subst e;refine a0a (a0n (fun hc=>?_) fun hc=>a0k (hg _ trivial));have hlt:i<l.length:=a4R hc;have h0:i=0:=by omega
 subst h0;rcases h with rfl|⟨x,rfl⟩;cases hlt;refine a0b (aJo hlt) (a0d (unk67 N (show(Lit.int .i64 99).wf=true by decide)) fun v6 _=>a0d (a0x fun _=>in37 _ _ _ _) fun v7 _=>a0a (a0a (a0a (a0c (w:=false) rfl (a0a (a0b rfl (a0a (a0a ?_))))))));exact a0n (fun _=>a0k (a0e trivial)) fun _=>a0c (w:=((0+1:Nat):Int)) (wv _ rfl (by omega) (by omega)) (a0q hlt ⟨rfl,hlt⟩)
theorem valid22{N:Nat}(hN:100100<N){a:a0s}(h:AtD a):Ok (n47 (N+5) a) fun b=>b=true->pvd a.2.1=true:=by
 have hp:=valid38 (N:=N+3) (by omega) (Nat.le_trans h.len (by decide)) h.small.seg;have hc:=comm40 (N:=N+4) (by omega) h.comm;have hg:=large41 (N:=N+4) (by omega) h.large;rw[e47];refine a0d (in37 _ _ _ _) fun v0 _=>?_
 cases v0 with|false=>exact a0b rfl (a0b rfl (a0a (a0b rfl (a0b rfl (a0a (a0a (a0d (a0x fun _=>⟨_,num39 _ _,trivial⟩) fun _ _=>a0a (a0d (a0x fun _=>⟨_,hc,trivial⟩) fun _ _=>a0d (a0x fun _=>⟨_,hg,trivial⟩) fun _ _=>a0a (a0d (a0x fun _=>a4c (by omega) h.other) fun _ _=>a0a (a0e fun e=>by simp at e))))))))))|true=>
  refine a0b hp ?_;cases hpv:pvd a.2.1 with
  |true=>exact a0d (a0x fun _=>a7Y _ _) fun _ _=>a0a (a0d (a0x fun _=>in37 _ _ _ _) fun _ _=>a0d (a0x fun _=>in37 _ _ _ _) fun _ _=>a0a (a0a (a0d (a0x fun _=>⟨_,num39 _ _,trivial⟩) fun _ _=>a0a (a0d (a0x fun _=>⟨_,hc,trivial⟩) fun _ _=>a0d (a0x fun _=>⟨_,hg,trivial⟩) fun _ _=>a0a (a0d (a0x fun _=>a4c (by omega) h.other) fun _ _=>a0a (a0e fun _=>rfl))))))|false=>exact a0b rfl (a0a (a0b rfl (a0b rfl (a0a (a0a (a0d (a0x fun _=>⟨_,num39 _ _,trivial⟩) fun _ _=>a0a (a0d (a0x fun _=>⟨_,hc,trivial⟩) fun _ _=>a0d (a0x fun _=>⟨_,hg,trivial⟩) fun _ _=>a0a (a0d (a0x fun _=>a4c (by omega) h.other) fun _ _=>a0a (a0e fun e=>by simp at e)))))))))
end Go.Proofs.YtgfmodmeimhhpaaGreatDoor
open List(mem_cons)
open Nat(le_trans)
open Bool(and_eq_true_iff)
namespace Go.Proofs.YtgfmodmeimhhpaaGreatDoor
open Go.VM
set_option maxRecDepth 100000
theorem a4B{α:Type}{l:List α}{i:Nat}(hi:i<l.length)(b:Bool)(d:α)(hl:l.length<=1000):Ok (bif (decide ((i:Int)>0)&&b)then aEU l (IntKind.i64.wrap ((i:Int)-1))else some d) fun _=>True:=by
 refine a0x fun h=>?_
 rw[Bool.and_eq_true,decide_eq_true_eq]at h;have h0:0<i:=by have:=h.1;omega
 have hw:IntKind.i64.wrap ((i:Int)-1)=((i-1:Nat):Int):=wv _ (by omega) (by omega) (by omega);rw[hw];exact⟨_,aJo (by omega),trivial⟩
theorem check10{N:Nat}(hN:1000<N){p:Pol}(hp:PolB 100 p):Ok (n48 (N+2) p) fun _=>True:=by
 obtain⟨h1,h2⟩:=hp;have e0:∀a,Ok (n45 (N+1) a) fun _=>True:=fun a=>⟨_,num17 N a,trivial⟩
 rw[e48];refine a0d (e0 _) fun _ _=>a0a (a0a (a0a (a0a (a0a (a0a (a0n (fun _=>a0e trivial) fun _=>?_))))))
 refine a0h (fun q=>q=p) (fun q e=>?_) fun g hg=>?_
 subst e;refine a0h (fun _=>True) (fun _ _=>a0e trivial) fun g hg=>?_
 refine a0v (fun i r=>r=(q,a1z q,((a1z q).length:Int),(i:Int))/\i<=(a1z q).length) (a1z q).length (fun i r ⟨e,hi⟩=>?_) ⟨rfl,Nat.zero_le _⟩ (by omega);subst e;refine a0a (a0n (fun hc=>?_) fun hc=>a0k (hg () trivial));have hlt:i<(a1z q).length:=a4R hc;refine a0b (aJo hlt) (a0d (e0 _) fun _ _=>a0a (a0a (a0d (a4B hlt _ _ (by omega)) fun _ _=>a0a (a0a (a0a (a0a (a0a (a0n (fun _=>a0k (a0e trivial)) fun _=>a0c (w:=((i+1:Nat):Int)) (wv _ rfl (by omega) (by omega)) (a0q hlt ⟨rfl,hlt⟩)))))))));refine a0v (fun i r=>r=(p,a0V p,((a0V p).length:Int),(i:Int))/\i<=(a0V p).length) (a0V p).length (fun i r ⟨e,hi⟩=>?_) ⟨rfl,Nat.zero_le _⟩ (by omega);subst e;refine a0a (a0n (fun hc=>?_) fun hc=>a0k (hg _ rfl));have hlt:i<(a0V p).length:=a4R hc;refine a0b (aJo hlt) (a0d (e0 _) fun _ _=>a0a (a0a (a0d (a4B hlt _ _ (by omega)) fun _ _=>a0a (a0a (a0n (fun _=>a0k (a0e trivial)) fun _=>a0c (w:=((i+1:Nat):Int)) (wv _ rfl (by omega) (by omega)) (a0q hlt ⟨rfl,hlt⟩))))))
theorem prep25{N:Nat}{own mb:Int}{a:a0s}(hN:4010<N)(ha:AtB a):n13 (N+6) (own,a,mb)=some (a1A (a0f a) own mb):=by rw[e13];exact a0T (a7U (by have:=ha.large;have:=ha.comm;omega) ha.large ha.comm) rfl
theorem a6U{L:List Seg}:∀s∈L,s.2.length<=tot L:=by
 induction L with|nil=>intro s h;cases h|cons t r ih=>intro s h;have e:tot (t::r)=t.2.length+tot r:=rfl;rcases mem_cons.1 h with rfl|h;omega;have:=ih s h;omega
theorem a1W{L:List Seg}{a n:Int}(hl:L.length<=2)(ht:tot L<=20)(hn:n<=3):(a0M L a n).1.length<=10/\∀s∈(a0M L a n).1,s.2.length<=2000:=by
 have hs:∀s∈L,s.2.length<=20:=fun s h=>le_trans (a6U s h) ht
 have hk:n.toNat<=3:=by omega
 have h0:∀s∈([]:List Seg),s.2.length<=2000:=fun s h=>by cases h
 unfold a0M;split;exact⟨by simp,h0⟩;split;exact⟨by simp,h0⟩;split;exact⟨by show L.length<=10;omega,fun s h=>le_trans (hs s h) (by decide)⟩;unfold a3U;cases L with
 |nil=>refine⟨by simp,fun s h=>?_⟩;rw[List.mem_singleton]at h;subst h;show(List.replicate _ _).length<=2000;rw[List.length_replicate];omega|cons t r=>
  have hr:∀s∈r,s.2.length<=20:=fun s h=>hs s (List.mem_cons_of_mem _ h)
  have h1:=hs t List.mem_cons_self;rw[List.length_cons]at hl;simp only;split;refine⟨by simp;omega,fun s h=>?_⟩;rcases mem_cons.1 h with rfl|h;show(List.replicate _ _).length<=2000;rw[List.length_replicate];omega;exact le_trans (hs s h) (by decide);refine⟨by simp;omega,fun s h=>?_⟩;rcases mem_cons.1 h with rfl|h;show(List.replicate _ _++t.2).length<=2000;rw[List.length_append,List.length_replicate];omega;exact le_trans (hr s h) (by decide)
theorem deck_in{L:List Seg}{asn n:Int}(hm:midB L=true)(hp:pvd L=true)(hn:num asn=true)(h0:0<=n)(h3:n<=3)(ht:tot L<=20)(hq:L=[]\/∃l M,L=(false,l)::M):a7t (L,asn,n)=true:=by
 have h64:n<=64-((tot L:Nat):Int):=by omega
 unfold a7t;refine and_eq_true_iff.2 ⟨hm,and_eq_true_iff.2 ⟨hp,and_eq_true_iff.2 ⟨hn,and_eq_true_iff.2 ⟨decide_eq_true h0,and_eq_true_iff.2 ⟨decide_eq_true h64,?_⟩⟩⟩⟩⟩;rcases hq with rfl|⟨l,M,rfl⟩<;>rfl
theorem prep24(N:Nat){a:a0s}(h:AtD a)(hp:pvd a.2.1=true){asn n:Int}(hn:num asn=true)(h0:0<=n)(h3:n<=3):n49 (N+1) (a.2.1,asn,n)=some (a0M a.2.1 asn n):=by have hm:midB a.2.1=true:=a5k.2 ⟨le_trans h.len (by decide),fun s hs=>le_trans (a6U s hs) (le_trans h.tot (by decide))⟩;exact(e49 N _).trans (if_pos (deck_in hm hp hn h0 h3 h.tot h.path))
theorem num_dec{a:Int}(h:(decide (a>=1)&&decide (a<=4294967295))=true):num a=true:=by rw[Bool.and_eq_true,decide_eq_true_eq,decide_eq_true_eq]at h;exact decide_eq_true h
theorem a7A{α:Type}{c:Bool}{x:Option α}{d:α}{P:α->Prop}(h:c=true->Ok x P)(k:c=false->P d):Ok (bif c then x else some d) P:=by cases c;exact a0e (k rfl);exact h rfl
end Go.Proofs.YtgfmodmeimhhpaaGreatDoor
namespace Go.Proofs.YtgfmodmeimhhpaaGreatDoor
open Go.VM
set_option maxRecDepth 100000
theorem num_not(a:Int):(bif decide (a<(1:Int))then true else decide (a>(4294967295:Int)))=!num a:=by unfold num;by_cases h1:1<=a;rw[decide_eq_false (show ¬a<1 by omega)];by_cases h2:a<=4294967295;rw[decide_eq_false (show ¬a>4294967295 by omega),decide_eq_true (show 1<=a/\a<=4294967295 from⟨h1,h2⟩)];rfl;rw[decide_eq_true (show a>4294967295 by omega),decide_eq_false (show ¬(1<=a/\a<=4294967295) by omega)];rfl;rw[decide_eq_true (show a<1 by omega),decide_eq_false (show ¬(1<=a/\a<=4294967295) by omega)];rfl
theorem valid_r(N:Nat)(hN:100001<N){p:List Seg}(hp:p.length<=1000)(hs:∀s∈p,s.2.length<=100000):n57 (N+2) p=some (pvd p):=by
 rw[e57];refine jB (Z.valid_of (by omega) hp hs (fun i t hi ht=>?_) fun t=>?_);have hx:=Z.nIdx_gD zS hi;have hd:decide ((i:Int)<aJO p)=true:=decide_eq_true (by unfold aJO;omega);have nx:IntKind.i64.wrap ((i:Int)+1)=((i+1:Nat):Int):=wv _ (by omega) (by omega) (by omega);have hl:(p.getD i zS).2.length<=100000:=by rw[Z.getD_lt zS hi];exact hs _ (List.getElem_mem hi)
 have hseg:a1T p i=(!(p.getD i zS).2.isEmpty&&(decide (i=0)||(p.getD i zS).1||(p.getD (i-1) zS).1)&&a1b (p.getD i zS)):=rfl;rw[hseg];have hprev:0<i->aEU p (IntKind.i64.wrap ((i:Int)-1))=some (p.getD (i-1) zS):=fun h0=>by rw[wv ((i-1:Nat):Int) (show(i:Int)-1=((i-1:Nat):Int) by omega) (by omega) (by omega)];exact Z.nIdx_gD zS (by omega)
 generalize hsg:p.getD i zS=s at *;generalize hpr:p.getD (i-1) zS=r at *;refine a0K (v:=true) hd (a3n rfl (jB (a0T hx ?_)));have he:(aJO s.2==(0:Int))=s.2.isEmpty:=by
  unfold aJO;cases s.2 with
  |nil=>rfl|cons a l=>simp;omega
 refine a0K (v:=decide (0<i)) (show decide ((i:Int)>0)=decide (0<i)from decide_eq_decide.2 (by omega)) (a0K (v:=decide (0<i)&&!s.1) (by cases decide (0<i)<;>rfl) (a0K rfl ?_));refine a0T (v:=if(decide (0<i)&&!s.1&&!s.2.isEmpty)=true then r else zS) ?_ ?_;rw[he];cases hc:(decide (0<i)&&!s.1&&!s.2.isEmpty)with
 |false=>rfl|true=>simp only[Bool.and_eq_true,decide_eq_true_eq]at hc;exact hprev hc.1.1
 refine a0K (v:=decide (0<i)&&!s.1&&!(if(decide (0<i)&&!s.1&&!s.2.isEmpty)=true then r else zS).1) (by cases decide (0<i)&&!s.1<;>rfl) ?_;refine a0K (v:=!(!s.2.isEmpty&&(decide (i=0)||s.1||r.1))) ?_ ?_;have hif:∀c:Bool,(if c=true then r else zS).1=(c&&r.1):=fun c=>by cases c<;>rfl
 rw[he,hif];cases s.2.isEmpty with
 |true=>rfl|false=>
  have h00:decide (i=0)=!decide (0<i):=by by_cases h:i=0;simp[h];simp[h,Nat.pos_of_ne_zero h]
  rw[h00];cases decide (0<i)<;>cases s.1<;>cases r.1<;>rfl
 cases hb:(!s.2.isEmpty&&(decide (i=0)||s.1||r.1))with
 |false=>exact a3n rfl (a0Y rfl)|true=>
  refine a4G rfl (jB ?_);rw[Bool.true_and];refine Eq.trans (a3P (R:=((List Seg×(Int×(List Seg×(Int×Int)))) ⊕ Bool)) (r:=if a1b s=true then Sum.inl (p,((t+s.2.length:Nat):Int),p,aJO p,((i+1:Nat):Int))else Sum.inr false) (fun k (_:Unit)=>if a1t s k=true then some ()else none) (fun _ _=>True) (fun k _=>(p,(t:Int),s,p,aJO p,(i:Int),s.2,aJO s.2,(k:Int))) s.2.length (.inr false) (fun _=>.inl (p,((t+s.2.length:Nat):Int),p,aJO p,((i+1:Nat):Int))) () rfl trivial (fun k hk _ _=>?_) (fun _ _=>?_) ?_ ?_) (by cases a1b s<;>rfl);have hy:aEU s.2 (k:Int)=some (s.2.getD k 0):=Z.nIdx_gD 0 hk;have nk:IntKind.i64.wrap ((k:Int)+1)=((k+1:Nat):Int):=wv _ (by omega) (by omega) (by omega);have hyp:0<k->aEU s.2 (IntKind.i64.wrap ((k:Int)-1))=some (s.2.getD (k-1) 0):=fun h0=>by rw[wv ((k-1:Nat):Int) (show(k:Int)-1=((k-1:Nat):Int) by omega) (by omega) (by omega)];exact Z.nIdx_gD 0 (by omega)
  have body:∀(R:Option ((List Seg×(Int×(Seg×(List Seg×(Int×(Int×(List Int×(Int×Int)))))))) ⊕ ((List Seg×(Int×(List Seg×(Int×Int)))) ⊕ Bool))),(R=if a1t s k=true then some (.inl (p,(t:Int),s,p,aJO p,(i:Int),s.2,aJO s.2,((k+1:Nat):Int)))else some (.inr (.inr false)))->(∀b,(if a1t s k=true then some ()else none)=some b->True/\R=some (.inl (p,(t:Int),s,p,aJO p,(i:Int),s.2,aJO s.2,((k+1:Nat):Int))))/\((if a1t s k=true then some ()else none)=(none:Option Unit)->R=some (.inr (.inr false))):=fun R hR=>by
   cases h:a1t s k with|false=>rw[h]at hR;exact⟨fun b hb=>(by cases hb),fun _=>hR⟩|true=>rw[h]at hR;exact⟨fun b _=>⟨trivial,hR⟩,fun hb=>(by cases hb)⟩
  refine body _ ?_;refine a0K (v:=true) (decide_eq_true (show(k:Int)<aJO s.2 by unfold aJO;omega)) (a3n rfl (a0T hy (a0K rfl (a0K (v:=!num (s.2.getD k 0)) (num_not _) ?_))));refine a0K (v:=decide (0<k)) (show decide ((k:Int)>0)=decide (0<k)from decide_eq_decide.2 (by omega)) (a0K (v:=s.1&&decide (0<k)) (by cases s.1<;>rfl) (a0K rfl ?_));have hno:a1t s k=(num (s.2.getD k 0)&&(!(s.1&&decide (0<k))||decide (s.2.getD (k-1) 0<s.2.getD k 0))):=by
   unfold a1t;congr 1;have h00:decide (k=0)=!decide (0<k):=by by_cases h:k=0;simp[h];simp[h,Nat.pos_of_ne_zero h]
   rw[h00];cases s.1<;>cases decide (0<k)<;>rfl
  rw[hno];cases hn:num (s.2.getD k 0)with
  |false=>exact a0T (v:=(0:Int)) (a4G (by cases s.1<;>cases decide (0<k)<;>rfl) rfl) (a0K rfl (a3n rfl (a0Y (a0Y rfl))))|true=>
   cases hc:(s.1&&decide (0<k))with
   |false=>exact a0T (v:=(0:Int)) (a4G rfl rfl) (a0K (v:=false) rfl (a4G rfl (a0K nk rfl)))|true=>
    have h0:0<k:=by rw[Bool.and_eq_true,decide_eq_true_eq]at hc;exact hc.2
    refine a0T (a3n rfl (hyp h0)) (a0K (v:=!decide (s.2.getD (k-1) 0<s.2.getD k 0)) ?_ ?_);show decide (s.2.getD (k-1) 0>=s.2.getD k 0)=_;by_cases q:s.2.getD (k-1) 0<s.2.getD k 0;rw[decide_eq_true q,decide_eq_false (by omega)];rfl;rw[decide_eq_false q,decide_eq_true (by omega)];rfl;cases decide (s.2.getD (k-1) 0<s.2.getD k 0)with
    |false=>exact a3n rfl (a0Y (a0Y rfl))|true=>exact a4G rfl (a0K nk rfl)
  exact a0K (v:=false) (decide_eq_false (show ¬(s.2.length:Int)<aJO s.2 by unfold aJO;omega)) (a4G rfl (a0Y (a0K (v:=((t+s.2.length:Nat):Int)) (wv _ (show(t:Int)+aJO s.2=_ by unfold aJO;omega) (by omega) (by omega)) (a0K nx rfl))));omega;rw[Z.run_allS];unfold a1b;cases(List.range' 0 s.2.length).all (a1t s)<;>rfl
 refine a0K (v:=false) (decide_eq_false (show ¬(p.length:Int)<aJO p by unfold aJO;omega)) (a4G rfl (a0Y ?_));show some (decide ((t:Int)<=64))=_;congr 1;exact decide_eq_decide.2 (by omega)
theorem comm2K:(Z.allC.all (fun c=>isT (n97 20 c))&&a3l (fun x y=>isT (n98 20 (x,y))) Z.allC)=true:=by kernel_rfl
theorem large2K:(Z.allL.all (fun c=>isT (n99 20 c))&&a3l (fun x y=>isT (n100 20 (x,y))) Z.allL)=true:=by kernel_rfl
theorem comm59{N:Nat}(hN:40<=N){l:List (Int×Int)}(h:l.Sublist Z.allC):n59 N l=some true:=by
 obtain⟨k1,k2⟩:=Bool.and_eq_true_iff.1 comm2K;have e1:∀{M:Nat},20<=M->∀c∈l,n97 M c=some true:=fun hM c hc=>aGj (T:=TN) hM 97 c true (a3k (List.all_eq_true.1 k1 c (h.subset hc)))
 have e2:∀{M:Nat},20<=M->∀i (hi:i+1<l.length),n98 M (l[i],l[i+1])=some true:=fun hM i hi=>aGj (T:=TN) hM 98 _ true (a3k (List.pairwise_iff_getElem.1 ((a1H k2).sublist h) i (i+1) (by omega) hi (by omega)))
 obtain⟨M,rfl⟩:∃M,N=M+1:=⟨N-1,by omega⟩;rw[e59];exact a5A (0,0) (fun c=>n97 M c) (fun q=>n98 M q) false (fun w=>!w) true (e1 (by omega)) (e2 (by omega)) rfl (Nat.le_trans h.length_le (by decide)) (by omega)
theorem large60{N:Nat}(hN:40<=N){l:List (Int×Int×Int)}(h:l.Sublist Z.allL):n60 N l=some true:=by
 obtain⟨k1,k2⟩:=Bool.and_eq_true_iff.1 large2K;have e1:∀{M:Nat},20<=M->∀c∈l,n99 M c=some true:=fun hM c hc=>aGj (T:=TN) hM 99 c true (a3k (List.all_eq_true.1 k1 c (h.subset hc)))
 have e2:∀{M:Nat},20<=M->∀i (hi:i+1<l.length),n100 M (l[i],l[i+1])=some true:=fun hM i hi=>aGj (T:=TN) hM 100 _ true (a3k (List.pairwise_iff_getElem.1 ((a1H k2).sublist h) i (i+1) (by omega) hi (by omega)))
 obtain⟨M,rfl⟩:∃M,N=M+1:=⟨N-1,by omega⟩;rw[e60];exact a5A (0,0,0) (fun c=>n99 M c) (fun q=>n100 M q) false (fun w=>!w) true (e1 (by omega)) (e2 (by omega)) rfl (Nat.le_trans h.length_le (by decide)) (by omega)
structure DQ(a:a0s):Prop where
 org:0<=a.1/\a.1<=2
 nxt:a.2.2.1.1=true\/(a.2.2.1.2.1=0/\a.2.2.1.2.2<4294967296)
 med:-1<=a.2.2.2.1/\a.2.2.2.1<=300
 otc:a.2.2.2.2.2.1=-1\/(1<=a.2.2.2.2.2.1/\a.2.2.2.2.2.1<=300)
 oth:a0r a=[]\/∃x:List Int,a0r a=[(224,99,x)]/\x.length<=255
theorem portK:((a0p 101 false).2.2<4294967296/\(a0p 102 false).2.2<4294967296)/\(a0p 103 false).2.2<4294967296/\(a0p 104 false).2.2<4294967296:=⟨⟨of_decide_eq_true (by kernel_rfl),of_decide_eq_true (by kernel_rfl)⟩,of_decide_eq_true (by kernel_rfl),of_decide_eq_true (by kernel_rfl)⟩
theorem a6V{asn:Int}(h:101<=asn)(h2:asn<=104)(v6:Bool):(a0p asn v6).1=true\/((a0p asn v6).2.1=0/\(a0p asn v6).2.2<4294967296):=by
 cases v6 with|true=>exact .inl rfl|false=>
  refine .inr ⟨rfl,?_⟩;obtain⟨⟨k1,k2⟩,k3,k4⟩:=portK;have h:asn=101\/asn=102\/asn=103\/asn=104:=by omega
  rcases h with rfl|rfl|rfl|rfl;exact k1;exact k2;exact k3;exact k4
theorem sw_q{o:Int}(p:List Int){m:Int}(r:Int)(c:List (Int×Int))(g:List (Int×Int×Int)){asn:Int}(v6:Bool)(s:Int×Dk)(ho:0<=o/\o<=2)(hm:-1<=m/\m<=300)(ha:101<=asn)(ha2:asn<=104):DQ (swD o p m r c g asn v6 s).1:=by
 have P:=a6V ha ha2 v6;have P4:=a6V (asn:=104) (by decide) (by decide) v6;have o1:∀{x:Int},x=-1->x=-1\/(1<=x/\x<=300):=fun h=>.inl h
 unfold swD;simp only;split;have:=a3y s.2 (b:=300) (by decide);exact⟨ho,P,hm,.inr ⟨by show 1<=1+_;omega,by show 1+_<=300;omega⟩,.inl rfl⟩;split;exact⟨ho,P,hm,.inl rfl,.inl rfl⟩;split;exact⟨ho,P,hm,.inl rfl,.inl rfl⟩;split;exact⟨ho,P,hm,.inl rfl,.inl rfl⟩;split;exact⟨ho,P4,hm,.inl rfl,.inl rfl⟩;split;exact⟨ho,P,hm,.inl rfl,.inl rfl⟩;split;exact⟨ho,P,hm,.inl rfl,.inl rfl⟩;split;exact⟨ho,P,hm,.inl rfl,.inr ⟨_,rfl,by simp⟩⟩;exact⟨ho,P,hm,.inl rfl,.inl rfl⟩
theorem a7B{d:Dk}{asn:Int}(v6:Bool)(ha:101<=asn)(ha2:asn<=104):DQ (a0F d asn v6).1:=by
 have h3:=a3y d (b:=3) (by decide);have ho:0<=(a2o d asn).1/\(a2o d asn).1<=2:=⟨h3.1,by have:=h3.2;show(nx d 3).1<=2;omega⟩;have hm:-1<=(a1w (a2o d asn).2.2 3 3).1/\(a1w (a2o d asn).2.2 3 3).1<=300:=by unfold a1w;split;have:=a3y (nx (a2o d asn).2.2 3).2 (b:=3) (by decide);exact⟨by omega,by omega⟩;exact⟨by show(-1:Int)<=-1;omega,by show(-1:Int)<=300;omega⟩
 exact sw_q (a2o d asn).2.1 (a1w (a1w (a2o d asn).2.2 3 3).2 6 300).1 _ _ v6 _ ho hm ha ha2
end Go.Proofs.YtgfmodmeimhhpaaGreatDoor
open List(all_eq_true)
open Bool(and_eq_true)
namespace Go.Proofs.YtgfmodmeimhhpaaGreatDoor
open Go.VM
set_option maxRecDepth 100000
def a2O(r:Rt)(p:Pol):a0s:=(r.2.2.1,(a0M r.2.2.2.1 r.2.1 (a1A (a0f r.2.2) 99 p.1)).1,r.2.2.2.2.1,r.2.2.2.2.2.1,-1,(if r.2.2.2.2.2.2.2.1=-1 then 99 else r.2.2.2.2.2.2.2.1),a0o (a0H 99 r.2.2),a0f (a0H 99 r.2.2),a0r r.2.2)
def OffK(r:Rt)(p:Pol)(q:Rt×Int×Int):Prop:=q.2.2=0->q.2.1=0->q.1=(r.1,r.2.1,a2O r p)/\verD 99 r p=0/\pvd r.2.2.2.1=true/\num r.2.1=true/\(a0M r.2.2.2.1 r.2.1 (a1A (a0f r.2.2) 99 p.1)).2=0
theorem a4d{r:Rt}{p:Pol}{x:Rt}{v e:Int}(h:e≠0):OffK r p (x,v,e):=fun h0=>absurd h0 h
theorem a7C{r:Rt}{p:Pol}{x:Rt}{v e:Int}(h:v≠0):OffK r p (x,v,e):=fun _ h0=>absurd h0 h
theorem a7D{a:Int}(h:(a != (0:Int))=true):a≠0:=by simpa using h
theorem a7E{a:Int}(h:(a != (0:Int))=false):a=0:=by simpa using h
theorem sendF{N:Nat}(hN:100020<=N){a:a0s}(ha:AtB a):n50 (N+3) (1,99,a)=some ((a.1,a.2.1,a.2.2.1,a.2.2.2.1,a.2.2.2.2.1,(if a.2.2.2.2.2.1=-1 then 99 else a.2.2.2.2.2.1),a.2.2.2.2.2.2),0):=by
 refine a1y ?_;rw[e50];have h57:n91 (N+2) 1=some true:=by rw[e91];exact a0T (e116 N) rfl
 have h92:n92 (N+2) 99=some true:=by rw[e92];rfl
 refine a0b h57 (a0b (a3n rfl h92) (a0c (w:=false) rfl (a0n (fun h=>by cases h) fun _=>a0a (a0c (w:=true) rfl (a0c (w:=false) (by cases(a.2.2.2.2.2.1 != (-1:Int))<;>rfl) (a0n (fun h=>by cases h) fun _=>a0b (clone52 (by omega) ha) (a0c (w:=true) rfl (a0a ?_))))))));refine a0h (fun q=>q.2=(a.1,a.2.1,a.2.2.1,a.2.2.2.1,a.2.2.2.2.1,(if a.2.2.2.2.2.1=-1 then 99 else a.2.2.2.2.2.1),a.2.2.2.2.2.2)) (fun q h=>a0e (by rw[h])) fun g hg=>a0n (fun h=>hg _ ?_) fun h=>hg _ ?_
 · have h1 : a.2.2.2.2.2.1 = -1 := by
     cases hb:(a.2.2.2.2.2.1 != (-1:Int))with
     |true=>rw[hb]at h;cases h|false=>simpa using hb
   rw[if_pos h1]
 · have h1 : ¬ a.2.2.2.2.2.1 = -1 := by
     cases hb:(a.2.2.2.2.2.1 != (-1:Int))with
     |true=>simpa using hb|false=>rw[hb]at h;cases h
   rw[if_neg h1]
theorem exportF{N:Nat}(hN:5000000<N){r:Rt}{p:Pol}(ha:AtD r.2.2)(hp:PolB 100 p):Ok (n21 (N+10) (99,r,p)) (OffK r p):=by
 have k5:=a2l (a0f r.2.2) 99 p.1;have h99:n45 (N+9) 99=some true:=by rw[num17];rfl
 rw[e21];refine a0b h99 (a0b (a3n rfl (num17 (N+8) r.2.1)) (a0a (a0d (a0x fun _=>a7z _ _) fun v3 _=>a0a ?_)));have hv:=valid22 (N:=N+4) (by omega) ha;refine a0d (a7A (fun _=>hv) fun _ h=>by cases h) fun v5 h5=>a0a (a0n (fun _=>a0a (a0a (a0a (a0e (a4d (by decide)))))) fun h6=>?_)
 have hn:num r.2.1=true/\v5=true:=by
  cases hb:(decide (r.2.1>=1)&&decide (r.2.1<=4294967295))with
  |false=>rw[hb]at h6;simp at h6|true=>
   rw[hb]at h6;refine⟨num_dec hb,?_⟩;cases v5 with
   |true=>rfl|false=>simp at h6
 refine a0d (check10 (N:=N+7) (by omega) hp) fun v10 _=>a0n (fun h=>a0a (a0a (a0a (a0e (a4d (a7D h)))))) fun _=>a0b (ver11 (N:=N+3) (by omega) ha.small (by have:=hp.1;omega)) (a0n (fun h=>a0a (a0a (a0a (a0e (a7C (a7D h)))))) fun hver=>?_)
 refine a0b (prep25 (N:=N+3) (by omega) ha.small) (a0b (prep24 (N+8) ha (h5 hn.2) hn.1 k5.1 k5.2) (a0n (fun h=>a0a (a0a (a0a (a0e (a4d (a7D h)))))) fun hpre=>a0b (strip16 (N:=N+8) ha.small) ?_));obtain⟨q1,q2⟩:=a1W (a:=r.2.1) (n:=a1A (a0f r.2.2) 99 p.1) ha.len ha.tot k5.2;have hs:=ha.small.strip 99;refine a0b (sendF (N:=N+6) (by omega) ⟨Nat.le_trans q1 (by decide),q2,hs.comm,hs.large,hs.other,hs.data⟩) (a0n (fun h=>absurd rfl (a7D h)) fun _=>a0e ?_);exact fun _ _=>⟨rfl,a7E hver,h5 hn.2,hn.1,a7E hpre⟩
theorem a5B{L:List Seg}{a n:Int}(h:(a0M L a n).2=0)(h0:0<=n):(a0M L a n).1=if n=0 then L else a3U L a n.toNat:=by unfold a0M at h ⊢;split at h;cases h;rename_i h1;rw[if_neg h1];split at h;cases h;rename_i h2;rw[if_neg h2];split<;>rfl
theorem a7F{L:List Seg}{a n:Int}(h:(a0M L a n).2=0):n<=64-((tot L:Nat):Int):=by unfold a0M at h;split at h;cases h;split at h;cases h;omega
theorem len_pre{L:List Seg}(h:L=[]\/∃l M,L=(false,l)::M)(a:Int)(k:Nat):a1B (a3U L a k)=a1B L+k:=by rcases h with rfl|⟨l,M,rfl⟩;simp[a3U,a1B];simp[a3U,a1B];omega
theorem a7Z{p:List Seg}(h1:∀i,i<p.length->a1T p i=true)(h2:tot p<=64):pvd p=true:=by unfold pvd;rw[and_eq_true];refine⟨all_eq_true.2 fun i hi=>h1 i ?_,decide_eq_true h2⟩;have:=List.mem_range'_1.1 hi;omega
theorem a8a{p:List Seg}(h:pvd p=true){i:Nat}(hi:i<p.length):a1T p i=true:=by unfold pvd at h;rw[and_eq_true]at h;exact all_eq_true.1 h.1 i (List.mem_range'_1.2 ⟨Nat.zero_le _,by omega⟩)
theorem a3K{l:List Int}(h:∀x∈l,num x=true):a1b (false,l)=true:=by
 unfold a1b;refine all_eq_true.2 fun i hi=>?_
 have hi:i<l.length:=by have:=List.mem_range'_1.1 hi;simp at this;omega
 unfold a1t;simp only[Bool.not_false,Bool.or_true,Bool.true_or,Bool.and_true];rw[Z.getD_lt 0 hi];exact h _ (List.getElem_mem hi)
theorem a7G{l:List Int}(h:a1b (false,l)=true):∀x∈l,num x=true:=by
 intro x hx;obtain⟨i,hi,rfl⟩:=List.getElem_of_mem hx;unfold a1b at h;have:=all_eq_true.1 h i (List.mem_range'_1.2 ⟨Nat.zero_le _,by simp;omega⟩);unfold a1t at this;rw[and_eq_true]at this;have h1:=this.1;simp only at h1
 rwa [Z.getD_lt 0 hi]at h1
theorem pvd_pre{L:List Seg}(h:L=[]\/∃l M,L=(false,l)::M)(hp:pvd L=true){a:Int}(ha:num a=true){k:Nat}(hk:0<k)(h64:tot L+k<=64):pvd (a3U L a k)=true:=by
 have hrep:∀x∈List.replicate k a,num x=true:=fun x hx=>by rw[(List.mem_replicate.1 hx).2];exact ha
 rcases h with rfl|⟨l,M,rfl⟩;refine a7Z (fun i hi=>?_) (by simpa[a3U,tot]using h64);have hi0:i=0:=by simp[a3U]at hi;exact hi
 subst hi0;show(!(List.replicate k a).isEmpty&&(decide ((0:Nat)=0)||_||_)&&a1b (false,List.replicate k a))=true;rw[a3K hrep];cases k with
 |zero=>omega|succ k=>rfl
 have e:a3U ((false,l)::M) a k=(false,List.replicate k a++l)::M:=rfl;have h0:=a8a hp (i:=0) (by simp);unfold a1T at h0;rw[and_eq_true]at h0;have hl:=a7G (l:=l) h0.2;rw[e];refine a7Z (fun i hi=>?_) ?_;cases i with
 |zero=>
  show(!(List.replicate k a++l).isEmpty&&(decide ((0:Nat)=0)||_||_)&&a1b (false,List.replicate k a++l))=true;rw[a3K fun x hx=>(List.mem_append.1 hx).elim (hrep x) (hl x)];cases k with
  |zero=>omega|succ k=>rfl
 |succ i=>
  have:=a8a hp (i:=i+1) hi;unfold a1T at this ⊢;cases i with
  |zero=>exact this|succ i=>exact this
 have e1:tot ((false,List.replicate k a++l)::M)=(List.replicate k a++l).length+tot M:=rfl;have e2:tot ((false,l)::M)=l.length+tot M:=rfl;rw[e1,List.length_append,List.length_replicate];rw[e2]at h64;omega
end Go.Proofs.YtgfmodmeimhhpaaGreatDoor
namespace Go.Proofs.YtgfmodmeimhhpaaGreatDoor
open Go.VM
set_option maxRecDepth 100000
theorem lenR{N:Nat}{l:List Seg}(hN:2001<N)(h1:l.length<=2000)(h2:∀s∈l,s.2.length<=2000):n24 (N+1) l=some (a1B l):=by refine Eq.trans ?_ (len32 hN h1 h2);rw[e24,e32]
theorem hasR{N:Nat}{l:List Seg}(c:Int)(hN:5000000<N)(h1:l.length<=2000)(h2:∀s∈l,s.2.length<=2000):n26 (N+2) (l,c)=some (hasA l c):=by
 have hb:=a2m _ h2;have hf:n61 (N+1) l=some (a1V l):=by refine Eq.trans ?_ (a7V (N:=N) (by omega) h1 h2);rw[e61,e72]
 refine a1y ?_;rw[e26];refine a0b hf ?_;show Ok _ fun r=>r=(a1V l).any fun x=>x==c
 generalize a1V l=m at hb ⊢;refine a0h (fun _=>(m.any fun x=>x==c)=false) (fun _ h=>a0e h.symm) fun g hg=>?_
 refine a0v (fun i q=>q.1=c/\q.2.1=m/\q.2.2.1=(m.length:Int)/\q.2.2.2=(i:Int)/\i<=m.length/\((m.take i).any fun x=>x==c)=false) m.length (fun i q ⟨e1,e2,e3,e4,h3,h4⟩=>?_) ⟨rfl,rfl,rfl,rfl,Nat.zero_le _,by simp⟩ (by omega);obtain⟨q1,q2,q3,q4⟩:=q;simp only at e1 e2 e3 e4;subst e1;subst e2;subst e3;subst e4;refine a0a (a0n (fun hc=>?_) fun hc=>?_);have hi:i<q2.length:=by simpa using hc
 refine a0b (aJo hi) (a0n (fun h=>a0k (a0e (a2k (p:=fun x=>x==q1) hi h).symm)) fun h=>a0c (w:=((i+1:Nat):Int)) (wv _ rfl (by omega) (by omega)) (a0q hi ⟨rfl,rfl,rfl,rfl,hi,a2T hi h4 h⟩));have hi:q2.length<=i:=by simpa using hc
 exact a0k (hg () (a2U hi h4))
theorem unkK:isT (n56 40 (99:Int))=true:=by kernel_rfl
theorem unk56{N:Nat}(h:40<=N):n56 N (99:Int)=some true:=aGj (T:=TN) h 56 (99:Int) true (a3k unkK)
theorem addr58(N:Nat){a:Bool×Int×Int}(h:a.1=true\/(a.2.1=0/\a.2.2<4294967296)):n58 (N+1) a=some true:=by rw[e58];rcases h with h|⟨h1,h2⟩;exact a0K rfl (a0K rfl (by rw[h];rfl));refine a0K (decide_eq_true h2) (a0K (v:=true) (by rw[h1];rfl) ?_);cases a.1<;>rfl
theorem rvalid{N:Nat}(hN:100100<N){r:Rt}{p:Pol}(ha:AtD r.2.2)(hq:DQ r.2.2)(hp:pvd r.2.2.2.1=true)(hn:num r.2.1=true)(h2:(a0M r.2.2.2.1 r.2.1 (a1A (a0f r.2.2) 99 p.1)).2=0):n25 (N+50) (a2O r p)=some true:=by
 have k5:=a2l (a0f r.2.2) 99 p.1;have k64:=a7F h2;have hpath:=a5B h2 k5.1;obtain⟨q1,q2⟩:=a1W (a:=r.2.1) (n:=a1A (a0f r.2.2) 99 p.1) ha.len ha.tot k5.2;have hpv:pvd (a2O r p).2.1=true:=by show pvd (a0M r.2.2.2.1 r.2.1 (a1A (a0f r.2.2) 99 p.1)).1=true;rw[hpath];split;exact hp;rename_i h0;exact pvd_pre ha.path hp hn (by omega) (by omega)
 have h57:n57 (N+49) (a2O r p).2.1=some true:=by rw[<-hpv];exact valid_r (N+47) (by omega) (Nat.le_trans q1 (by decide)) fun s h=>Nat.le_trans (q2 s h) (by decide)
 have hot:(a2O r p).2.2.2.2.2.1=99\/(1<=(a2O r p).2.2.2.2.2.1/\(a2O r p).2.2.2.2.2.1<=300):=by show(if r.2.2.2.2.2.2.2.1=-1 then(99:Int)else r.2.2.2.2.2.2.2.1)=99\/_;by_cases h:r.2.2.2.2.2.2.2.1=-1;exact .inl (if_pos h);refine .inr ?_;have:=hq.otc.resolve_left h;show 1<=(if r.2.2.2.2.2.2.2.1=-1 then(99:Int)else r.2.2.2.2.2.2.2.1)/\(if r.2.2.2.2.2.2.2.1=-1 then(99:Int)else r.2.2.2.2.2.2.2.1)<=300;rw[if_neg h];exact this
 have hlc:=comm59 (N:=N+49) (by omega) (show(a0o (a0H 99 r.2.2)).Sublist Z.allC from List.filter_sublist.trans ha.comm);have hll:=large60 (N:=N+49) (by omega) (show(a0f (a0H 99 r.2.2)).Sublist Z.allL from List.filter_sublist.trans ha.large);have hoth:a0r (a2O r p)=a0r r.2.2:=rfl;have hol:(a0r (a2O r p)).length<=1:=by rw[hoth];rcases hq.oth with h|⟨x,h,_⟩<;>rw[h]<;>simp
 generalize hX:a2O r p=X at hpv h57 hot hoth hol ⊢;have x1:X.1=r.2.2.1:=by rw[<-hX];rfl
 have x3:X.2.2.1=r.2.2.2.2.1:=by rw[<-hX];rfl
 have x4:X.2.2.2.1=r.2.2.2.2.2.1:=by rw[<-hX];rfl
 have x5:X.2.2.2.2.1=-1:=by rw[<-hX];rfl
 have x7:X.2.2.2.2.2.2.1=a0o (a0H 99 r.2.2):=by rw[<-hX];rfl
 have x8:X.2.2.2.2.2.2.2.1=a0f (a0H 99 r.2.2):=by rw[<-hX];rfl
 refine a1y ?_;rw[e25];refine a0h (fun q=>q=X) (fun q e=>?_) fun g hg=>?_
 subst e;have o1:=hq.org;have m1:=hq.med;refine a0c (w:=true) (by rw[x1,decide_eq_true (show r.2.2.1>=-1 by omega),decide_eq_true (show r.2.2.1<=2 by omega)];rfl) (a0b (a3n rfl h57) (a0b (v:=true) (a3n rfl (by rw[x3];exact addr58 _ hq.nxt)) (a0c (w:=true) rfl (a0c (w:=true) (by rw[x4];exact decide_eq_true (by omega)) (a0c (w:=true) (by rw[x4];exact decide_eq_true (by omega)) (a0c (w:=true) rfl (a0c (w:=true) (by rw[x5];rfl) (a0c (w:=true) (by rw[x5];rfl) (a0c (w:=true) rfl (a0a (a0a (a0a (a0a (a0c (w:=true) ?_ (a0b (v:=true) (a3n rfl (by rw[x7];exact hlc)) (a0c (w:=true) rfl (a0b (v:=true) (a3n rfl (by rw[x8];exact hll)) (a0c (w:=true) rfl (a0c (w:=true) (decide_eq_true ?_) (a0c (w:=true) rfl (a0e rfl)))))))))))))))))))));rcases hot with h|⟨h1,h3⟩;rw[h];rfl;rw[decide_eq_true (show q.2.2.2.2.2.1>=1 by omega),decide_eq_true (show q.2.2.2.2.2.1<=4294967295 by omega)];cases(q.2.2.2.2.2.1==(-1:Int))<;>rfl
 show(((a0r q).length:Nat):Int)<=8;omega;refine a0v (fun i q=>q=(X,a0r X,((a0r X).length:Int),(i:Int))/\i<=(a0r X).length) (a0r X).length (fun i q ⟨e,hi⟩=>?_) ⟨rfl,Nat.zero_le _⟩ (by omega);subst e;refine a0a (a0n (fun hc=>?_) fun hc=>a0k (hg _ rfl));have hlt:i<(a0r X).length:=a4R hc;have h0:i=0:=by omega
 subst h0;rcases hq.oth with h|⟨x,h,hx⟩;rw[hoth,h]at hlt;cases hlt;have hidx:aEU (a0r X) ((0:Nat):Int)=some (224,99,x):=by rw[hoth,h];rfl
 refine a0b hidx (a0c (w:=false) rfl (a0c (w:=false) rfl (a0b (a3n rfl (unk56 (N:=N+49) (by omega))) (a0c (w:=false) rfl (a0c (w:=false) rfl (a0c (w:=false) (decide_eq_false (by show ¬((x.length:Nat):Int)>255;omega)) (a0c (w:=false) rfl (a0a (a0b rfl (a0c (w:=false) rfl (a0c (w:=false) rfl (a0n (fun h=>by cases h) fun _=>a0c (w:=((0+1:Nat):Int)) (wv _ rfl (by omega) (by omega)) (a0q hlt ⟨rfl,hlt⟩)))))))))))))
end Go.Proofs.YtgfmodmeimhhpaaGreatDoor
open Nat(le_trans)
namespace Go.Proofs.YtgfmodmeimhhpaaGreatDoor
open Go.VM
set_option maxRecDepth 100000
theorem ver0{own:Int}{r:Rt}{p:Pol}(h:verD own r p=0):(r.2.1==p.1)=false/\hasA r.2.2.2.1 p.1=false:=by
 unfold verD at h;refine⟨?_,?_⟩;cases hb:(r.2.1==p.1)with
 |false=>rfl|true=>rw[hb]at h;cases h
 cases hb:hasA r.2.2.2.1 p.1 with|false=>rfl|true=>rw[hb]at h;exfalso;revert h;cases(r.2.1==p.1)<;>cases(a2A own r.2.2 p.1).1<;>cases(a2A own r.2.2 p.1).2.1<;>cases(a2A own r.2.2 p.1).2.2.1<;>cases(a2A own r.2.2 p.1).2.2.2.1<;>cases famD r p<;>cases(a0V p).any (fun x=>x==r.2.1)<;>cases a3J (a0o r.2.2) (65535,666)<;>cases p.2.2.2.1<;>cases hopD own r p<;>exact fun h=>by cases h
theorem a7H(N:Nat)(hN:5000000<N){l:List Int}(hl:l.length<=9223372036854775807):n5 (N+60) l=some true:=by
 refine a1y ?_;rw[e5];refine a0b (v:=(l,0)) (e6 _ _) (a0d (a1d (N+57) (DK0 hl) (b:=4) (by decide) (by decide)) fun v1 h1=>a0c (w:=101+v1.1) (pV (by omega) (by omega)) (a0d (a7y (N+55) h1.2.2 _) fun v3 h3=>a0d (a1d (N+57) h3.2 (b:=5) (by decide) (by decide)) fun v4 h4=>a0a (a0d (a6P (N+56) (by omega) h4.2.2 _) fun v6 h6=>?_)));obtain⟨⟨hsm,⟨d0,v60,hd0,hat⟩,_⟩,hd3⟩:=h3;have hAt:AtD v3.1.2.2:=by rw[hat];exact a4S hd0 _ _
 have hDq:DQ v3.1.2.2:=by rw[hat];exact a7B v60 (by omega) (by omega)
 have hp:PolB 100 v6.1:=⟨le_trans h6.1.1 (by decide),le_trans h6.1.2 (by decide)⟩;clear hat;obtain⟨r,dk⟩:=v3;simp only at hAt hDq hsm;generalize v6.1=p at hp ⊢;refine a0d (exportF (N:=N+49) (by omega) hAt hp) fun v7 hK=>a0a (a0n (fun _=>a0b (awake' (by omega)) (a0e rfl)) fun h=>?_)
 have h0:v7.2.2=0/\v7.2.1=0:=by
  cases ha:(v7.2.2 != (0:Int))with
  |true=>rw[ha]at h;cases h|false=>rw[ha]at h;exact⟨a7E ha,a7E h⟩
 obtain⟨e7,hver,hpv,hn,hpre⟩:=hK h0.1 h0.2;obtain⟨x7,v7b⟩:=v7;simp only at e7;subst e7;obtain⟨n1,n2⟩:=ver0 hver;have k5:=a2l (a0f r.2.2) 99 p.1;have hv25:=rvalid (N:=N+9) (by omega) (p:=p) hAt hDq hpv hn hpre;obtain⟨q1,q2⟩:=a1W (a:=r.2.1) (n:=a1A (a0f r.2.2) 99 p.1) hAt.len hAt.tot k5.2;have hlen1:n24 (N+59) (a2O r p).2.1=some (a1B (a2O r p).2.1):=lenR (by omega) (le_trans q1 (by decide)) q2;have hlen2:n24 (N+59) r.2.2.2.1=some (a1B r.2.2.2.1):=lenR (by omega) hAt.small.path hAt.small.seg;have hhas:n26 (N+59) (r.2.2.2.1,p.1)=some false:=by rw[<-n2];exact hasR (N:=N+57) p.1 (by omega) hAt.small.path hAt.small.seg
 have hdl:0<=a1B (a2O r p).2.1-a1B r.2.2.2.1/\a1B (a2O r p).2.1-a1B r.2.2.2.1<=3:=by
  have e:(a2O r p).2.1=if a1A (a0f r.2.2) 99 p.1=0 then r.2.2.2.1 else a3U r.2.2.2.1 r.2.1 (a1A (a0f r.2.2) 99 p.1).toNat:=a5B hpre k5.1
  rw[e];split;omega;rw[len_pre hAt.path];omega
 have hotc:((a2O r p).2.2.2.2.2.1 != (-1:Int))=true:=by show((if r.2.2.2.2.2.2.2.1=-1 then(99:Int)else r.2.2.2.2.2.2.2.1) != (-1:Int))=true;by_cases hb:r.2.2.2.2.2.2.2.1=-1;rw[if_pos hb];rfl;rw[if_neg hb];simpa using hb
 have hcm:∀c∈a0o (a2O r p),(bif (c.1==(0:Int))then true else(c.1==(99:Int)))=false:=fun c hc=>by have:=(List.mem_filter.1 (show c∈(a0o r.2.2).filter _ from hc)).2;revert this;show(!(c.1==0||c.1==99))=true->_;cases c.1==0<;>cases c.1==99<;>simp
 have hlg:∀c∈a0f (a2O r p),(c.1==(99:Int))=false:=fun c hc=>by have:=(List.mem_filter.1 (show c∈(a0f r.2.2).filter _ from hc)).2;revert this;show(!(c.1==99))=true->_;cases c.1==99<;>simp
 have hcl:(a0o (a2O r p)).length<=2000:=le_trans (List.length_filter_le _ _) hAt.small.comm;have hll:(a0f (a2O r p)).length<=2000:=le_trans (List.length_filter_le _ _) hAt.small.large;have f3:(a2O r p).2.2.1=r.2.2.2.2.1:=rfl;have f1:(a2O r p).1=r.2.2.1:=rfl;have f4:(a2O r p).2.2.2.1=r.2.2.2.2.2.1:=rfl;have f5:(a2O r p).2.2.2.2.1=-1:=rfl;generalize a2O r p=X at hv25 hlen1 hdl hotc hcm hlg hcl hll f3 f1 f4 f5 ⊢;refine a0a (a0h (fun q=>q=(r,p,(r.1,r.2.1,X))) (fun q e=>?_) fun g hg=>?_);subst e;refine a0a (a0h (fun q=>q=(r,p,(r.1,r.2.1,X))) (fun q e=>?_) fun g hg=>?_);subst e;refine a0b hlen1 (a0b hlen2 (a0c (w:=a1B X.2.1-a1B r.2.2.2.1) (pV (by omega) (by omega)) (a0b hv25 (a0c hotc (a0c (w:=true) rfl (a0c (w:=true) (by rw[f5];rfl) (a0c (w:=true) rfl (a0c (w:=true) (by rw[f3];simp) (a0c (w:=true) rfl (a0c (w:=true) (by rw[f1];simp) (a0c (w:=true) rfl (a0c (w:=true) (by rw[f4];simp) (a0c (w:=true) rfl (a0c (w:=true) (by rw[decide_eq_true hdl.1];rfl) (a0c (w:=true) (by rw[decide_eq_true hdl.2];rfl) (a0c (w:=true) (by simp) (a0c (w:=true) (by simp) (a0c (w:=true) rfl (a0c (w:=true) (by rw[show(r.2.1 != p.1)=true by simp only[bne,n1];rfl];rfl) (a0b (a3n rfl hhas) (a0c (w:=true) rfl (a0e rfl))))))))))))))))))))))
 refine a0v (fun i q=>q=(r,p,(r.1,r.2.1,X),a0f X,((a0f X).length:Int),(i:Int))/\i<=(a0f X).length) (a0f X).length (fun i q ⟨e,hi⟩=>?_) ⟨rfl,Nat.zero_le _⟩ (by omega);subst e;refine a0a (a0n (fun hc=>?_) fun hc=>a0k (hg _ rfl));have hlt:i<(a0f X).length:=a4R hc;refine a0b (aJo hlt) (a0n (fun h=>?_) fun _=>a0c (w:=((i+1:Nat):Int)) (wv _ rfl (by omega) (by omega)) (a0q hlt ⟨rfl,hlt⟩));rw[hlg _ (List.getElem_mem hlt)]at h;cases h;refine a0v (fun i q=>q=(r,p,(r.1,r.2.1,X),a0o X,((a0o X).length:Int),(i:Int))/\i<=(a0o X).length) (a0o X).length (fun i q ⟨e,hi⟩=>?_) ⟨rfl,Nat.zero_le _⟩ (by omega);subst e;refine a0a (a0n (fun hc=>?_) fun hc=>a0k (hg _ rfl));have hlt:i<(a0o X).length:=a4R hc;refine a0b (aJo hlt) (a0c (hcm _ (List.getElem_mem hlt)) (a0n (fun h=>by cases h) fun _=>a0c (w:=((i+1:Nat):Int)) (wv _ rfl (by omega) (by omega)) (a0q hlt ⟨rfl,hlt⟩)))
end Go.Proofs.YtgfmodmeimhhpaaGreatDoor
