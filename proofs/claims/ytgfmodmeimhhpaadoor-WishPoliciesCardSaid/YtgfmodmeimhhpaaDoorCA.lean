/- Chapter 26, plainly: the deck; policies; which are permitted. -/
import Derived.Test.YtgfmodmeimhhpaaDoorT36
import Derived.Test.YtgfmodmeimhhpaaDoorNE1
namespace Go.Proofs.YtgfmodmeimhhpaaDoor
open Go.VM
set_option maxRecDepth 10000
theorem mod_ok (N:Nat) {a b:Int} (hb:0 < b) (hb2:b≤9223372036854775807):∃ r,n9 (N+1) (a,b)=some r∧0≤r∧r < b:=by
 refine ⟨a % b,?_,Int.emod_nonneg _ (by omega),Int.emod_lt_of_pos _ hb⟩
 rw [e9]
 have h0:b≠0:=by omega
 simp only [↓aKO,h0,if_false,aKI,aJY,aJz,decide_eq_true_eq]
 have h1:=Int.mul_tdiv_add_tmod a b
 have h2:=Int.tmod_lt_of_pos a hb
 have h3:=Int.lt_tmod_of_pos a hb
 have h4:a % b=a.tmod b % b:=by
  conv=>lhs; rw [← h1,Int.add_comm,Int.add_mul_emod_self_left]
 by_cases hn:a.tmod b < 0
 · rw [if_pos hn,pV (by omega) (by omega),h4]
   rw [← Int.add_emod_right,Int.emod_eq_of_lt (by omega) (by omega)]
 · rw [if_neg hn,h4,Int.emod_eq_of_lt (by omega) (by omega)]
/- the deck -/
abbrev Dk:=List Int×Int
def DK (d:Dk):Prop:=0≤d.2∧d.2≤d.1.length∧d.1.length≤9223372036854775807
theorem DK0 {l:List Int} (h:l.length≤9223372036854775807):DK (l,0):=⟨Int.le_refl _,by show (0:Int)≤l.length; omega,h⟩
theorem next_ok (N:Nat) {d:Dk} (hd:DK d) {b:Int} (hb:0 < b) (hb2:b≤9223372036854775807):Ok (n13 (N+2) (d,b)) fun r=>0≤r.1∧r.1 < b∧DK r.2:=by
 obtain ⟨l,i⟩:=d
 obtain ⟨h1,h2,h3⟩:=hd
 simp only at h1 h2 h3
 rw [e13]
 simp only [↓aKO,aJz,decide_eq_true_eq,aJO,ge_iff_le]
 by_cases hi:(l.length:Int)≤i
 · rw [if_pos hi]
   exact ⟨(0,(l,i)),rfl,Int.le_refl _,hb,h1,h2,h3⟩
 · rw [if_neg hi,pV (n:=i+1) (by omega) (by omega),pV (n:=i+1 - 1) (by omega) (by omega)]
   obtain ⟨n,rfl⟩:=Int.eq_ofNat_of_zero_le h1
   rw [show (n:Int)+1 - 1=(n:Int) by omega,aJo (l:=l) (n:=n) (by omega)]
   obtain ⟨r,hr,r1,r2⟩:=mod_ok N (a:=l[n]'(by omega)) hb hb2
   simp only [↓aKO,aKI,hr]
   exact ⟨(r,(l,(n:Int)+1)),rfl,r1,r2,by simp only [DK]; omega⟩
abbrev Pol:=Int×Bool×Bool×Bool×Int×List Int×List (Int×Int)
def pDeny (p:Pol):List Int:=p.2.2.2.2.2.1
def pPref (p:Pol):List (Int×Int):=p.2.2.2.2.2.2
def PolB (k:Nat) (p:Pol):Prop:=(pDeny p).length≤k∧(pPref p).length≤k
/-- The policy of a deck is a short one. -/
theorem policy_ok (N:Nat) (hN:10 < N) {d:Dk} (hd:DK d) (a:Int):Ok (n7 (N+3) (d,a)) fun r=>PolB 5 r.1:=by
 rw [e7]
 refine ok_bind' (next_ok _ hd (by decide) (by decide)) fun v0 ⟨_,_,h0⟩=>ok_bind' (next_ok _ h0 (by decide) (by decide)) fun v1 ⟨_,_,h1⟩=>?_
 refine ok_join (fun p=>(pDeny p.2.1).length≤1∧pPref p.2.1=[]∧DK p.2.2) (fun p ⟨k1,k2,k3⟩=>?_) fun g hg=>?_
 · refine ok_join (fun p=>PolB 5 p.2.1) (fun p hp=>ok_some hp) fun g hg=>?_
   refine ok_loop (fun i p=>p.2.2.1=(i:Int)∧i≤5∧(pDeny p.2.1).length≤1∧(pPref p.2.1).length≤i∧DK p.2.2.2) 5 (fun i q ⟨e,hi,q1,q2,q3⟩=>?_) ⟨rfl,by decide,k1,by rw [k2]; exact Nat.le_refl _,k3⟩ (by omega)
   refine ok_let (ok_if (fun hc=>?_) fun hc=>ok_leave (hg _ ⟨by show (pDeny q.2.1).length≤5; omega,by show (pPref q.2.1).length≤5; omega⟩))
   have hi5:i < 5:=by have:=of_decide_eq_true hc; omega
   refine ok_join (fun p=>p.2.2.1=(i:Int)∧(pDeny p.2.1).length≤1∧(pPref p.2.1).length≤i+1∧DK p.2.2.2) (fun p ⟨e,p1,p2,p3⟩=>?_) fun g2 hg2=>?_
   · exact ok_letE (w:=((i+1:Nat):Int)) (wv _ (by rw [e]; rfl) (by omega) (by omega)) (ok_again hi5 ⟨rfl,by omega,p1,p2,p3⟩)
   · refine ok_bind' (next_ok _ q3 (by decide) (by decide)) fun v hv=>?_
     refine ok_join (fun p=>p.2.2.1=(i:Int)∧(pDeny p.2.1).length≤1∧(pPref p.2.1).length≤i+1∧DK p.2.2.2) (fun p hp=>hg2 _ hp) fun g3 hg3=>?_
     refine ok_if (fun _=>?_) fun _=>hg3 _ ⟨e,q1,by show (pPref q.2.1).length≤_; omega,hv.2.2⟩
     refine ok_let (ok_bind' (next_ok _ hv.2.2 (by decide) (by decide)) fun w hw=>ok_let (ok_let (ok_bind (aJm (l:=pPref q.2.1) (by simp; omega) (by simp; omega)) (hg3 _ ⟨e,q1,?_,hw.2.2⟩))))
     show (pPref q.2.1++_).length≤_
     simp; omega
 · have fin:∀ q,(pDeny (q:Pol×Pol×Dk).2.1).length≤1∧pPref q.2.1=[]∧DK q.2.2→Ok (g q) (fun r=>PolB 5 r.1):=hg
   refine ok_join (fun p=>(pDeny p.2.1).length≤1∧pPref p.2.1=[]∧DK p.2.2) (fun p hp=>hg _ hp) fun g1 hg1=>ok_if (fun _=>hg1 _ ⟨by simp [pDeny],rfl,h1⟩) fun _=>?_
   refine ok_join (fun p=>(pDeny p.2.1).length≤1∧pPref p.2.1=[]∧DK p.2.2) (fun p hp=>hg1 _ hp) fun g2 hg2=>ok_if (fun _=>hg2 _ ⟨by simp [pDeny],rfl,h1⟩) fun _=>?_
   refine ok_join (fun p=>(pDeny p.2.1).length≤1∧pPref p.2.1=[]∧DK p.2.2) (fun p hp=>hg2 _ hp) fun g3 hg3=>ok_if (fun _=>ok_bind' (next_ok _ h1 (by decide) (by decide)) fun v hv=>ok_let (hg3 _ ⟨by simp [pDeny],rfl,hv.2.2⟩)) fun _=>?_
   refine ok_join (fun p=>(pDeny p.2.1).length≤1∧pPref p.2.1=[]∧DK p.2.2) (fun p hp=>hg3 _ hp) fun g4 hg4=>ok_if (fun _=>ok_bind' (next_ok _ h1 (by decide) (by decide)) fun v hv=>ok_let (hg4 _ ⟨by simp [pDeny],rfl,hv.2.2⟩)) fun _=>hg4 _ ⟨by simp [pDeny],rfl,h1⟩
/- which policies are permitted -/
def DenyOk (l:List Int) (m:Nat):Prop:=∀ i (h:i < l.length),i < m→num l[i]=true∧(0 < i→l[i - 1] < l[i])
def PrefOk (l:List (Int×Int)) (m:Nat):Prop:=∀ i (h:i < l.length),i < m→num l[i].1=true∧(0 < i→l[i - 1].1 < l[i].1)∧-1000≤l[i].2∧l[i].2≤1000
def HeadOk (p:Pol):Prop:=num p.1=true∧0≤p.2.2.2.2.1∧p.2.2.2.2.1≤60∧(pDeny p).length≤64∧(pPref p).length≤64
def PolOk (p:Pol):Prop:=HeadOk p∧DenyOk (pDeny p) (pDeny p).length∧PrefOk (pPref p) (pPref p).length
def Says (p:Pol) (r:Int):Prop:=(r=0∧PolOk p)∨(r=33∧¬ PolOk p)
theorem says_eq {p:Pol} {r s:Int} (h:Says p r) (k:Says p s):r=s:=by
 rcases h with ⟨rfl,h⟩ | ⟨rfl,h⟩ <;> rcases k with ⟨rfl,k⟩ | ⟨rfl,k⟩
 · rfl
 · exact absurd h k
 · exact absurd k h
 · rfl
theorem num17 (N:Nat) (a:Int):n17 (N+1) a=some (num a):=by
 rw [e17]
 refine letB rfl (letB rfl ?_)
 congr 1
 unfold num
 by_cases h1:1≤a <;> by_cases h2:a≤4294967295 <;> simp [h1,h2]
theorem num18 (N:Nat) (a:Int):n18 (N+1) a=some (num a):=by
 rw [e18]
 refine letB rfl (letB rfl ?_)
 congr 1
 unfold num
 by_cases h1:1≤a <;> by_cases h2:a≤4294967295 <;> simp [h1,h2]
theorem deny_succ {l:List Int} {i:Nat} (h:i < l.length):DenyOk l (i+1)↔DenyOk l i∧num l[i]=true∧(0 < i→l[i - 1] < l[i]) :=
 ⟨fun k=>⟨fun j hj hm=>k j hj (by omega),k i h (by omega)⟩,fun ⟨k1,k2⟩ j hj hm=>by
  by_cases e:j=i
  · subst e; exact k2
  · exact k1 j hj (by omega)⟩
theorem pref_succ {l:List (Int×Int)} {i:Nat} (h:i < l.length):PrefOk l (i+1)↔PrefOk l i∧num l[i].1=true∧(0 < i→l[i - 1].1 < l[i].1)∧-1000≤l[i].2∧l[i].2≤1000 :=
 ⟨fun k=>⟨fun j hj hm=>k j hj (by omega),k i h (by omega)⟩,fun ⟨k1,k2⟩ j hj hm=>by
  by_cases e:j=i
  · subst e; exact k2
  · exact k1 j hj (by omega)⟩
theorem orF {a b:Bool}:(bif a then true else b)=false↔a=false∧b=false:=by cases a <;> simp
theorem andF {a b:Bool}:(bif a then b else false)=false↔(a=true→b=false):=by cases a <;> simp
theorem notF {a:Bool}:(!a)=false↔a=true:=by cases a <;> simp
theorem decF {p:Prop} [Decidable p]:decide p=false↔¬ p:=decide_eq_false_iff_not
theorem neF {a:Bool}:a=true→¬ (a=false):=by cases a <;> simp
theorem nLen_le {α:Type} {l:List α} {k:Nat}:aJO l > (k:Int)↔k < l.length:=by unfold aJO; omega
theorem check_p (N:Nat) {p:Pol} (hN:1000 < N) (hp:PolB 1000 p):Ok (n10 (N+2) p) (Says p):=by
 obtain ⟨hd,hq⟩:=hp
 rw [e10]
 refine ok_bind (num17 N p.1) (ok_let (ok_let (ok_let (ok_let (ok_let (ok_let (ok_if (fun hc=>?_) fun hc=>?_)))))))
 · have hc:=neF hc
   rw [orF,orF,orF,orF,notF,decF,decF,decF,decF] at hc
   refine ok_some (.inr ⟨rfl,fun h=>hc ?_⟩)
   obtain ⟨⟨k1,k2,k3,k4,k5⟩,_⟩:=h
   refine ⟨⟨⟨⟨k1,by omega⟩,by omega⟩,?_⟩,?_⟩
   · rw [show (64:Int)=((64:Nat):Int) from rfl,nLen_le]; exact Nat.not_lt.2 k4
   · rw [show (64:Int)=((64:Nat):Int) from rfl,nLen_le]; exact Nat.not_lt.2 k5
 · rw [orF,orF,orF,orF,notF,decF,decF,decF,decF,show (64:Int)=((64:Nat):Int) from rfl,nLen_le,nLen_le] at hc
   obtain ⟨⟨⟨⟨k1,k2⟩,k3⟩,k4⟩,k5⟩:=hc
   have hh:HeadOk p:=⟨k1,by omega,by omega,Nat.not_lt.1 k4,Nat.not_lt.1 k5⟩
   refine ok_join (fun q=>q=p∧DenyOk (pDeny p) (pDeny p).length) (fun q ⟨e,hde⟩=>?_) fun g hg=>?_
   · subst e
     refine ok_join (fun _=>PolOk q) (fun _ h=>ok_some (.inl ⟨rfl,h⟩)) fun g hg=>?_
     refine ok_loop (fun i r=>r.1=q∧r.2.1=pPref q∧r.2.2.1=aJO (pPref q)∧r.2.2.2=(i:Int)∧PrefOk (pPref q) i∧i≤(pPref q).length) (pPref q).length (fun i r ⟨e1,e2,e3,e4,h5,h6⟩=>?_) ⟨rfl,rfl,rfl,rfl,fun i _ h=>by omega,Nat.zero_le _⟩ (by omega)
     obtain ⟨r1,r2,r3,r4⟩:=r
     simp only at e1 e2 e3 e4
     subst e1; subst e2; subst e3; subst e4
     refine ok_let (ok_if (fun hc=>?_) fun hc=>?_)
     · have hi:i < (pPref r1).length:=by have:=of_decide_eq_true hc; unfold aJO at this; exact Int.ofNat_lt.1 this
       refine ok_bind (aJo hi) (ok_bind (num17 N _) (ok_let (ok_let ?_)))
       refine ok_bind' (P:=fun v=>0 < i→num (pPref r1)[i].1=true→v=(pPref r1)[i - 1]) (ok_if (fun h=>?_) fun h=>ok_some fun h1 h2=>?_) fun v hv=>?_
       · have h0 : 0 < i := by
           rw [Bool.and_eq_true] at h; have:=of_decide_eq_true h.1; omega
         rw [wv ((i - 1:Nat):Int) (show (i:Int) - 1=((i - 1:Nat):Int) by omega) (by omega) (by omega)]
         show Ok (aEU (pPref r1) ((i - 1:Nat):Int)) _
         exact ok_eq (aJo (by omega))  fun _ _=>rfl
       · exfalso
         rw [h2,decide_eq_true (show (i:Int) > 0 by omega)] at h
         cases h
       · refine ok_let (ok_let (ok_let (ok_let (ok_let (ok_if (fun hc=>?_) fun hc=>?_)))))
         · have hc:=neF hc
           rw [orF,orF,orF,notF,andF,decF,decF,decF,decide_eq_true_eq] at hc
           refine ok_leave (ok_some (.inr ⟨rfl,fun h=>hc ?_⟩))
           obtain ⟨m1,m2,m3,m4⟩:=h.2.2 i hi hi
           refine ⟨⟨⟨m1,fun h0=>?_⟩,by omega⟩,by omega⟩
           have:=m2 (by omega)
           rw [hv (by omega) m1]; omega
         · rw [orF,orF,orF,notF,andF,decF,decF,decF,decide_eq_true_eq] at hc
           obtain ⟨⟨⟨m1,m2⟩,m3⟩,m4⟩:=hc
           refine ok_letE (w:=((i+1:Nat):Int)) (wv _ rfl (by omega) (by omega)) (ok_again hi ⟨rfl,rfl,rfl,rfl,(pref_succ hi).2 ⟨h5,m1,fun h0=>?_,by omega,by omega⟩,hi⟩)
           have:=m2 (by omega)
           rw [hv h0 m1] at this; omega
     · have : i = (pPref r1).length := by
         have:¬ (i:Int) < aJO (pPref r1):=of_decide_eq_false hc
         unfold aJO at this; omega
       subst this
       exact ok_leave (hg _ ⟨hh,hde,h5⟩)
   · refine ok_loop (fun i r=>r.1=p∧r.2.1=pDeny p∧r.2.2.1=aJO (pDeny p)∧r.2.2.2=(i:Int)∧DenyOk (pDeny p) i∧i≤(pDeny p).length) (pDeny p).length (fun i r ⟨e1,e2,e3,e4,h5,h6⟩=>?_) ⟨rfl,rfl,rfl,rfl,fun i _ h=>by omega,Nat.zero_le _⟩ (by omega)
     obtain ⟨r1,r2,r3,r4⟩:=r
     simp only at e1 e2 e3 e4
     subst e1; subst e2; subst e3; subst e4
     refine ok_let (ok_if (fun hc=>?_) fun hc=>?_)
     · have hi:i < (pDeny r1).length:=by have:=of_decide_eq_true hc; unfold aJO at this; exact Int.ofNat_lt.1 this
       refine ok_bind (aJo hi) (ok_bind (num17 N _) (ok_let (ok_let ?_)))
       refine ok_bind' (P:=fun v=>0 < i→num (pDeny r1)[i]=true→v=(pDeny r1)[i - 1]) (ok_if (fun h=>?_) fun h=>ok_some fun h1 h2=>?_) fun v hv=>?_
       · have h0 : 0 < i := by
           rw [Bool.and_eq_true] at h; have:=of_decide_eq_true h.1; omega
         rw [wv ((i - 1:Nat):Int) (show (i:Int) - 1=((i - 1:Nat):Int) by omega) (by omega) (by omega)]
         show Ok (aEU (pDeny r1) ((i - 1:Nat):Int)) _
         exact ok_eq (aJo (by omega))  fun _ _=>rfl
       · exfalso
         rw [h2,decide_eq_true (show (i:Int) > 0 by omega)] at h
         cases h
       · refine ok_let (ok_let (ok_if (fun hc=>?_) fun hc=>?_))
         · have hc:=neF hc
           rw [orF,notF,andF,decF,decide_eq_true_eq] at hc
           refine ok_leave (ok_some (.inr ⟨rfl,fun h=>hc ?_⟩))
           obtain ⟨m1,m2⟩:=h.2.1 i hi hi
           refine ⟨m1,fun h0=>?_⟩
           have:=m2 (by omega)
           rw [hv (by omega) m1]; omega
         · rw [orF,notF,andF,decF,decide_eq_true_eq] at hc
           obtain ⟨m1,m2⟩:=hc
           refine ok_letE (w:=((i+1:Nat):Int)) (wv _ rfl (by omega) (by omega)) (ok_again hi ⟨rfl,rfl,rfl,rfl,(deny_succ hi).2 ⟨h5,m1,fun h0=>?_⟩,hi⟩)
           have:=m2 (by omega)
           rw [hv h0 m1] at this; omega
     · have : i = (pDeny r1).length := by
         have:¬ (i:Int) < aJO (pDeny r1):=of_decide_eq_false hc
         unfold aJO at this; omega
       subst this
       exact ok_leave (hg _ ⟨rfl,h5⟩)
theorem andT {a b:Bool}:(bif a then b else false)=true↔a=true∧b=true:=by cases a <;> simp
theorem orT {a b:Bool}:(bif a then true else b)=true↔a=true∨b=true:=by cases a <;> simp
theorem leLen {α:Type} {l:List α} {k:Nat}:aJO l≤(k:Int)↔l.length≤k:=by unfold aJO; omega
theorem check_r (N:Nat) {p:Pol} (hN:1000 < N) (hp:PolB 1000 p):Ok (n11 (N+2) p) (Says p):=by
 obtain ⟨hd,hq⟩:=hp
 rw [e11]
 refine ok_bind (num18 N p.1) (ok_let (ok_let (ok_let (ok_let (ok_let (ok_let ?_))))))
 have hhead:(bif bif bif bif num p.1 then decide (p.2.2.2.2.1≥0) else false then decide (p.2.2.2.2.1≤60) else false then decide (aJO p.2.2.2.2.2.1≤64) else false then decide (aJO p.2.2.2.2.2.2≤64) else false)=true↔HeadOk p:=by
  rw [andT,andT,andT,andT,decide_eq_true_eq,decide_eq_true_eq,decide_eq_true_eq,decide_eq_true_eq,show (64:Int)=((64:Nat):Int) from rfl,leLen,leLen]
  exact ⟨fun ⟨⟨⟨⟨h1,h2⟩,h3⟩,h4⟩,h5⟩=>⟨h1,h2,h3,h4,h5⟩,fun ⟨h1,h2,h3,h4,h5⟩=>⟨⟨⟨⟨h1,h2⟩,h3⟩,h4⟩,h5⟩⟩
 revert hhead
 generalize (bif bif bif bif num p.1 then decide (p.2.2.2.2.1≥0) else false then decide (p.2.2.2.2.1≤60) else false then decide (aJO p.2.2.2.2.2.1≤64) else false then decide (aJO p.2.2.2.2.2.2≤64) else false)=b0
 intro hhead
 refine ok_join (fun q=>q.1=p∧(q.2=true↔HeadOk p∧DenyOk (pDeny p) (pDeny p).length)) (fun q ⟨e,hb⟩=>?_) fun g hg=>?_
 · obtain ⟨q,b1⟩:=q
   simp only at e hb
   subst e
   refine ok_join (fun b=>b=true↔PolOk q) (fun b hb=>?_) fun g hg=>?_
   · refine ok_if (fun h=>ok_some (.inr ⟨rfl,fun k=>?_⟩)) fun h=>ok_some (.inl ⟨rfl,hb.1 (notF.1 h)⟩)
     rw [hb.2 k] at h; cases h
   refine ok_loop (fun i r=>r.1=q∧(r.2.1=true↔b1=true∧PrefOk (pPref q) i)∧r.2.2.1=pPref q∧r.2.2.2.1=aJO (pPref q)∧r.2.2.2.2=(i:Int)∧i≤(pPref q).length) (pPref q).length (fun i r ⟨e1,h5,e2,e3,e4,h6⟩=>?_) ⟨rfl,⟨fun h=>⟨h,fun i _ h=>by omega⟩,fun h=>h.1⟩,rfl,rfl,rfl,Nat.zero_le _⟩ (by omega)
   obtain ⟨r1,b2,r2,r3,r4⟩:=r
   simp only at e1 e2 e3 e4 h5
   subst e1; subst e2; subst e3; subst e4
   refine ok_let (ok_if (fun hc=>?_) fun hc=>?_)
   · have hi : i < (pPref r1).length := by
       have:(i:Int) < aJO (pPref r1):=of_decide_eq_true hc
       unfold aJO at this; omega
     refine ok_bind (aJo hi) (ok_bind (v:=b2&&num (pPref r1)[i].1) (by cases b2; rfl; exact num18 N _) (ok_let (ok_let ?_)))
     refine ok_bind' (P:=fun v=>0 < i→b2=true→num (pPref r1)[i].1=true→v=(pPref r1)[i - 1]) (ok_if (fun h=>?_) fun h=>ok_some fun h1 h2 h3=>?_) fun v hv=>?_
     · have h0 : 0 < i := by
         rw [Bool.and_eq_true] at h
         rcases Nat.eq_zero_or_pos i with e | e
         · subst e; exact absurd h.1 (fun h=>by cases h)
         · exact e
       show Ok (aEU (pPref r1) (IntKind.i64.wrap ((i:Int) - 1))) _
       rw [wv ((i - 1:Nat):Int) (show (i:Int) - 1=((i - 1:Nat):Int) by omega) (by omega) (by omega)]
       exact ok_eq (aJo (by omega)) fun _ _ _=>rfl
     · exfalso
       subst h2
       rw [h3] at h
       have:(!((i:Int)==0))=false:=by simpa using h
       have:=notF.1 this
       have:=beq_iff_eq.1 this
       omega
     · refine ok_let (ok_let (ok_let (ok_let (ok_let (ok_let (ok_letE (w:=((i+1:Nat):Int)) (wv _ rfl (by omega) (by omega)) (ok_again hi ⟨rfl,?_,rfl,rfl,rfl,hi⟩)))))))
       show (bif bif bif (bif b2 then b2&&num (pPref r1)[i].1 else false) then (bif ((i:Int)==0) then true else decide (v.1 < (pPref r1)[i].1)) else false then decide ((pPref r1)[i].2≥-1000) else false then decide ((pPref r1)[i].2≤1000) else false)=true↔_
       rw [andT,andT,andT,andT,orT,Bool.and_eq_true,decide_eq_true_eq,decide_eq_true_eq,decide_eq_true_eq,pref_succ hi,beq_iff_eq,h5]
       constructor
       · rintro ⟨⟨⟨⟨⟨m1,m2⟩,_,m3⟩,m4⟩,m5⟩,m6⟩
         refine ⟨m1,m2,m3,fun h0=>?_,m5,m6⟩
         rw [← hv h0 (h5.2 ⟨m1,m2⟩) m3]
         rcases m4 with h | h
         · omega
         · exact h
       · rintro ⟨m1,m2,m3,m4,m5,m6⟩
         refine ⟨⟨⟨⟨⟨m1,m2⟩,⟨m1,m2⟩,m3⟩,?_⟩,m5⟩,m6⟩
         rcases Nat.eq_zero_or_pos i with h | h
         · exact .inl (by rw [h]; rfl)
         · exact .inr (by rw [hv h (h5.2 ⟨m1,m2⟩) m3]; exact m4 h)
   · have : i = (pPref r1).length := by
       have:¬ (i:Int) < aJO (pPref r1):=of_decide_eq_false hc
       unfold aJO at this; omega
     subst this
     exact ok_leave (hg _ (by rw [h5,hb]; exact ⟨fun ⟨⟨m1,m2⟩,m3⟩=>⟨m1,m2,m3⟩,fun ⟨m1,m2,m3⟩=>⟨⟨m1,m2⟩,m3⟩⟩))
 · refine ok_loop (fun i r=>r.1=p∧(r.2.1=true↔HeadOk p∧DenyOk (pDeny p) i)∧r.2.2.1=pDeny p∧r.2.2.2.1=aJO (pDeny p)∧r.2.2.2.2=(i:Int)∧i≤(pDeny p).length) (pDeny p).length (fun i r ⟨e1,h5,e2,e3,e4,h6⟩=>?_) ⟨rfl,⟨fun h=>⟨hhead.1 h,fun i _ h=>by omega⟩,fun h=>hhead.2 h.1⟩,rfl,rfl,rfl,Nat.zero_le _⟩ (by omega)
   obtain ⟨r1,b2,r2,r3,r4⟩:=r
   simp only at e1 e2 e3 e4 h5
   subst e1; subst e2; subst e3; subst e4
   refine ok_let (ok_if (fun hc=>?_) fun hc=>?_)
   · have hi : i < (pDeny r1).length := by
       have:(i:Int) < aJO (pDeny r1):=of_decide_eq_true hc
       unfold aJO at this; omega
     refine ok_bind (aJo hi) (ok_bind (v:=b2&&num (pDeny r1)[i]) (by cases b2; rfl; exact num18 N _) (ok_let (ok_let ?_)))
     refine ok_bind' (P:=fun v=>0 < i→b2=true→num (pDeny r1)[i]=true→v=(pDeny r1)[i - 1]) (ok_if (fun h=>?_) fun h=>ok_some fun h1 h2 h3=>?_) fun v hv=>?_
     · have h0 : 0 < i := by
         rw [Bool.and_eq_true] at h
         rcases Nat.eq_zero_or_pos i with e | e
         · subst e; exact absurd h.1 (fun h=>by cases h)
         · exact e
       show Ok (aEU (pDeny r1) (IntKind.i64.wrap ((i:Int) - 1))) _
       rw [wv ((i - 1:Nat):Int) (show (i:Int) - 1=((i - 1:Nat):Int) by omega) (by omega) (by omega)]
       exact ok_eq (aJo (by omega)) fun _ _ _=>rfl
     · exfalso
       subst h2
       rw [h3] at h
       have:(!((i:Int)==0))=false:=by simpa using h
       have:=notF.1 this
       have:=beq_iff_eq.1 this
       omega
     · refine ok_let (ok_let (ok_letE (w:=((i+1:Nat):Int)) (wv _ rfl (by omega) (by omega)) (ok_again hi ⟨rfl,?_,rfl,rfl,rfl,hi⟩)))
       show (bif (bif b2 then b2&&num (pDeny r1)[i] else false) then (bif ((i:Int)==0) then true else decide (v < (pDeny r1)[i])) else false)=true↔_
       rw [andT,andT,orT,Bool.and_eq_true,decide_eq_true_eq,deny_succ hi,beq_iff_eq,h5]
       constructor
       · rintro ⟨⟨⟨m1,m2⟩,_,m3⟩,m4⟩
         refine ⟨m1,m2,m3,fun h0=>?_⟩
         rw [← hv h0 (h5.2 ⟨m1,m2⟩) m3]
         rcases m4 with h | h
         · omega
         · exact h
       · rintro ⟨m1,m2,m3,m4⟩
         refine ⟨⟨⟨m1,m2⟩,⟨m1,m2⟩,m3⟩,?_⟩
         rcases Nat.eq_zero_or_pos i with h | h
         · exact .inl (by rw [h]; rfl)
         · exact .inr (by rw [hv h (h5.2 ⟨m1,m2⟩) m3]; exact m4 h)
   · have : i = (pDeny r1).length := by
       have:¬ (i:Int) < aJO (pDeny r1):=of_decide_eq_false hc
       unfold aJO at this; omega
     subst this
     exact ok_leave (hg _ ⟨rfl,h5⟩)
/-- Both say the same. -/
theorem check_same (N:Nat) {p:Pol} (hN:1000 < N) (hp:PolB 1000 p):∃ r,n10 (N+2) p=some r∧n11 (N+2) p=some r:=by
 obtain ⟨r,h1,h2⟩:=check_p N hN hp
 obtain ⟨s,h3,h4⟩:=check_r N hN hp
 exact ⟨r,h1,by rw [h3,says_eq h2 h4]⟩
end Go.Proofs.YtgfmodmeimhhpaaDoor
