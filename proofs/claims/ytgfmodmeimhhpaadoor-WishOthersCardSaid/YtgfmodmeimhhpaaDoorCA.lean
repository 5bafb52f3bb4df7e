/- Chapter 26, plainly: the deck; policies; which are permitted. -/
import Derived.Test.YtgfmodmeimhhpaaDoorJE
import Derived.Test.YtgfmodmeimhhpaaDoorGB
import Derived.Test.YtgfmodmeimhhpaaDoorNE1
namespace Go.Proofs.YtgfmodmeimhhpaaDoor
open Go.VM
set_option maxRecDepth 10000
theorem mod_ok(N:Nat){a b:Int}(hb:0<b)(hb2:b<=9223372036854775807):∃r,n9 (N+1) (a,b)=some r/\0<=r/\r<b:=by
 refine⟨a%b,?_,Int.emod_nonneg _ (by omega),Int.emod_lt_of_pos _ hb⟩;rw[e9];have h0:b≠0:=by omega
 simp only[↓aKO,h0,if_false,aKI,aJY,aJz,decide_eq_true_eq];have h1:=Int.mul_tdiv_add_tmod a b;have h2:=Int.tmod_lt_of_pos a hb;have h3:=Int.lt_tmod_of_pos a hb;have h4:a%b=a.tmod b%b:=by conv=>lhs;rw[<-h1,Int.add_comm,Int.add_mul_emod_self_left]
 by_cases hn:a.tmod b<0;rw[if_pos hn,pV (by omega) (by omega),h4];rw[<-Int.add_emod_right,Int.emod_eq_of_lt (by omega) (by omega)];rw[if_neg hn,h4,Int.emod_eq_of_lt (by omega) (by omega)]
theorem next_ok(N:Nat){d:Dk}(hd:DK d){b:Int}(hb:0<b)(hb2:b<=9223372036854775807):Ok (n13 (N+2) (d,b)) fun r=>0<=r.1/\r.1<b/\DK r.2:=by obtain⟨l,i⟩:=d;obtain⟨h1,h2,h3⟩:=hd;simp only at h1 h2 h3;rw[e13];simp only[↓aKO,aJz,decide_eq_true_eq,aJO,ge_iff_le];by_cases hi:(l.length:Int)<=i;rw[if_pos hi];exact⟨(0,(l,i)),rfl,Int.le_refl _,hb,h1,h2,h3⟩;rw[if_neg hi,pV (n:=i+1) (by omega) (by omega),pV (n:=i+1-1) (by omega) (by omega)];obtain⟨n,rfl⟩:=Int.eq_ofNat_of_zero_le h1;rw[show(n:Int)+1-1=(n:Int) by omega,aJo (l:=l) (n:=n) (by omega)];obtain⟨r,hr,r1,r2⟩:=mod_ok N (a:=l[n]'(by omega)) hb hb2;simp only[↓aKO,aKI,hr];exact⟨(r,(l,(n:Int)+1)),rfl,r1,r2,by simp only[DK];omega⟩
abbrev Pol:=Int×Bool×Bool×Bool×Int×List Int×List (Int×Int)
def pDeny(p:Pol):List Int:=p.2.2.2.2.2.1
def pPref(p:Pol):List (Int×Int):=p.2.2.2.2.2.2
def PolB(k:Nat)(p:Pol):Prop:=(pDeny p).length<=k/\(pPref p).length<=k
theorem policy_ok(N:Nat)(hN:10<N){d:Dk}(hd:DK d)(a:Int):Ok (n7 (N+3) (d,a)) fun r=>PolB 5 r.1/\r.1.1=a/\DK r.2:=by
 rw[e7];refine ok_bind' (next_ok _ hd (by decide) (by decide)) fun v0 ⟨_,_,h0⟩=>ok_bind' (next_ok _ h0 (by decide) (by decide)) fun v1 ⟨_,_,h1⟩=>?_
 refine ok_join (fun p=>(pDeny p.2.1).length<=1/\pPref p.2.1=[]/\DK p.2.2/\p.2.1.1=a) (fun p ⟨k1,k2,k3,k4⟩=>?_) fun g hg=>?_
 refine ok_join (fun p=>PolB 5 p.2.1/\p.2.1.1=a/\DK p.2.2) (fun p hp=>ok_some hp) fun g hg=>?_
 refine ok_loop (fun i p=>p.2.2.1=(i:Int)/\i<=5/\(pDeny p.2.1).length<=1/\(pPref p.2.1).length<=i/\DK p.2.2.2/\p.2.1.1=a) 5 (fun i q ⟨e,hi,q1,q2,q3,q4⟩=>?_) ⟨rfl,by decide,k1,by rw[k2];exact Nat.le_refl _,k3,k4⟩ (by omega);refine ok_let (ok_if (fun hc=>?_) fun hc=>ok_leave (hg _ ⟨⟨by show(pDeny q.2.1).length<=5;omega,by show(pPref q.2.1).length<=5;omega⟩,q4,q3⟩));have hi5:i<5:=by have:=of_decide_eq_true hc;omega
 refine ok_join (fun p=>p.2.2.1=(i:Int)/\(pDeny p.2.1).length<=1/\(pPref p.2.1).length<=i+1/\DK p.2.2.2/\p.2.1.1=a) (fun p ⟨e,p1,p2,p3,p4⟩=>?_) fun g2 hg2=>?_
 exact ok_letE (w:=((i+1:Nat):Int)) (wv _ (by rw[e];rfl) (by omega) (by omega)) (ok_again hi5 ⟨rfl,by omega,p1,p2,p3,p4⟩);refine ok_bind' (next_ok _ q3 (by decide) (by decide)) fun v hv=>?_
 refine ok_join (fun p=>p.2.2.1=(i:Int)/\(pDeny p.2.1).length<=1/\(pPref p.2.1).length<=i+1/\DK p.2.2.2/\p.2.1.1=a) (fun p hp=>hg2 _ hp) fun g3 hg3=>?_
 refine ok_if (fun _=>?_) fun _=>hg3 _ ⟨e,q1,by show(pPref q.2.1).length<=_;omega,hv.2.2,q4⟩
 refine ok_let (ok_bind' (next_ok _ hv.2.2 (by decide) (by decide)) fun w hw=>ok_let (ok_let (ok_bind (aJm (l:=pPref q.2.1) (by simp;omega) (by simp;omega)) (hg3 _ ⟨e,q1,?_,hw.2.2,q4⟩))));show(pPref q.2.1++_).length<=_;simp;omega;refine ok_join (fun p=>(pDeny p.2.1).length<=1/\pPref p.2.1=[]/\DK p.2.2/\p.2.1.1=a) (fun p hp=>hg _ hp) fun g1 hg1=>ok_if (fun _=>hg1 _ ⟨by simp[pDeny],rfl,h1,rfl⟩) fun _=>?_
 refine ok_join (fun p=>(pDeny p.2.1).length<=1/\pPref p.2.1=[]/\DK p.2.2/\p.2.1.1=a) (fun p hp=>hg1 _ hp) fun g2 hg2=>ok_if (fun _=>hg2 _ ⟨by simp[pDeny],rfl,h1,rfl⟩) fun _=>?_
 refine ok_join (fun p=>(pDeny p.2.1).length<=1/\pPref p.2.1=[]/\DK p.2.2/\p.2.1.1=a) (fun p hp=>hg2 _ hp) fun g3 hg3=>ok_if (fun _=>ok_bind' (next_ok _ h1 (by decide) (by decide)) fun v hv=>ok_let (hg3 _ ⟨by simp[pDeny],rfl,hv.2.2,rfl⟩)) fun _=>?_
 refine ok_join (fun p=>(pDeny p.2.1).length<=1/\pPref p.2.1=[]/\DK p.2.2/\p.2.1.1=a) (fun p hp=>hg3 _ hp) fun g4 hg4=>ok_if (fun _=>ok_bind' (next_ok _ h1 (by decide) (by decide)) fun v hv=>ok_let (hg4 _ ⟨by simp[pDeny],rfl,hv.2.2,rfl⟩)) fun _=>hg4 _ ⟨by simp[pDeny],rfl,h1,rfl⟩
end Go.Proofs.YtgfmodmeimhhpaaDoor
