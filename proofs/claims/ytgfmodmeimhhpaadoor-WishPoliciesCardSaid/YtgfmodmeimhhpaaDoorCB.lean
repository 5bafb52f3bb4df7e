/- Chapter 26, plainly: which policies are permitted. -/
import Derived.Test.YtgfmodmeimhhpaaDoorCA
import Derived.KernelRfl
namespace Go.Proofs.YtgfmodmeimhhpaaDoor
open Go.VM
set_option maxRecDepth 100000
theorem awakeK:n5 60 ()=some true:=by kernel_rfl
theorem awake' {N:Nat} (h:60≤N):n5 N ()=some true:=aGj (T:=TN) h 5 () true awakeK
theorem copy_ok (N:Nat) {p:Pol} (hp:PolB 100 p):n8 (N+1) p=some p:=by
 obtain ⟨h1,h2⟩:=hp
 obtain ⟨p1,p2,p3,p4,p5,p6,p7⟩:=p
 rw [e8]
 refine bindB (aJm (l:=([]:List Int)) (m:=p6) (by simp [pDeny] at h1 ⊢; omega) (by simp [pDeny] at h1 ⊢; omega)) (bindB (aJm (l:=([]:List (Int×Int))) (m:=p7) (by simp [pPref] at h2 ⊢; omega) (by simp [pPref] at h2 ⊢; omega)) rfl)
theorem policiesE (N:Nat) (hN:1000 < N) (p:Pol) {l:List Int} (hl:l.length≤9223372036854775807) (a b:Int):n3 (N+5) (p,l,a,b)=some true:=by
 have key:Ok (n3 (N+5) (p,l,a,b)) fun r=>r=true:=by
  rw [e3]
  refine ok_let (ok_let (ok_if (fun _=>ok_bind (awake' (by omega)) (ok_some rfl)) fun hc=>?_))
  rw [orF,decF,decF,show (100:Int)=((100:Nat):Int) from rfl,nLen_le,nLen_le] at hc
  have hp:PolB 100 p:=⟨Nat.not_lt.1 hc.1,Nat.not_lt.1 hc.2⟩
  refine ok_bind (v:=(l,0)) (e6 _ _) (ok_bind' (policy_ok (N+1) (by omega) (DK0 hl) 101) fun v4 h4=>ok_bind (copy_ok (N+3) ⟨by have:=h4.1; omega,by have:=h4.2; omega⟩) ?_)
  obtain ⟨m,hm,_,_⟩:=mod_ok (N+3) (a:=a) (b:=6) (by decide) (by decide)
  refine ok_bind hm ?_
  have P:(Pol×Pol×Pol)→Prop:=fun q=>PolB 100 q.1∧PolB 100 q.2.1∧PolB 100 q.2.2
  refine ok_join (fun q=>PolB 100 q.1∧PolB 100 q.2.1∧PolB 100 q.2.2) (fun q hq=>?_) fun g hg=>?_
  · obtain ⟨q1,q2,q3⟩:=q
    refine ok_let (ok_join (fun _=>True) (fun _ _=>ok_bind (awake' (by omega)) (ok_some rfl)) fun g hg=>?_)
    refine ok_loop (fun i r=>r.1=[q1,q2,q3]∧r.2.1=3∧r.2.2=(i:Int)∧i≤3) 3 (fun i r ⟨e1,e2,e3,h3⟩=>?_) ⟨rfl,rfl,rfl,by decide⟩ (by omega)
    obtain ⟨r1,r2,r3⟩:=r
    simp only at e1 e2 e3
    subst e1; subst e2; subst e3
    refine ok_if (fun hc=>?_) fun hc=>ok_leave (hg () trivial)
    have hi:i < 3:=by have:=of_decide_eq_true hc; omega
    have hx:PolB 1000 ([q1,q2,q3][i]'hi):=by
     have up:∀ {q:Pol},PolB 100 q→PolB 1000 q:=fun h=>⟨by have:=h.1; omega,by have:=h.2; omega⟩
     match i,hi with
     | 0,_=>exact up hq.1
     | 1,_=>exact up hq.2.1
     | 2,_=>exact up hq.2.2
    obtain ⟨r,hr1,hr2⟩:=check_same (N+2) (by omega) hx
    refine ok_bind (aJo hi) (ok_bind hr1 (ok_bind hr2 (ok_if (fun h=>?_) fun _=>ok_letE (w:=((i+1:Nat):Int)) (wv _ rfl (by omega) (by omega)) (ok_again hi ⟨rfl,rfl,rfl,hi⟩))))
    simp at h
  · have h5:PolB 100 v4.1:=⟨by have:=h4.1; omega,by have:=h4.2; omega⟩
    refine ok_join (fun q=>PolB 100 q.1∧PolB 100 q.2.1∧PolB 100 q.2.2) (fun q hq=>hg _ hq) fun g1 hg1=>ok_if (fun _=>hg1 _ ⟨hp,h5,h5.1,h5.2⟩) fun _=>?_
    refine ok_join (fun q=>PolB 100 q.1∧PolB 100 q.2.1∧PolB 100 q.2.2) (fun q hq=>hg1 _ hq) fun g2 hg2=>ok_if (fun _=>?_) fun _=>?_
    · obtain ⟨m,hm,_,_⟩:=mod_ok (N+3) (a:=b) (b:=64) (by decide) (by decide)
      exact ok_bind hm (ok_let (hg2 _ ⟨hp,h5,h5.1,h5.2⟩))
    refine ok_join (fun q=>PolB 100 q.1∧PolB 100 q.2.1∧PolB 100 q.2.2) (fun q hq=>hg2 _ hq) fun g3 hg3=>ok_if (fun _=>?_) fun _=>?_
    · obtain ⟨m,hm,_,_⟩:=mod_ok (N+3) (a:=b) (b:=120) (by decide) (by decide)
      refine ok_bind hm (ok_let (ok_bind (aJm (l:=pDeny v4.1) (by have:=h4.1; simp; omega) (by have:=h4.1; simp; omega)) (hg3 _ ⟨hp,h5,?_,h5.2⟩)))
      show (pDeny v4.1++_).length≤100
      have:=h4.1
      simp; omega
    refine ok_join (fun q=>PolB 100 q.1∧PolB 100 q.2.1∧PolB 100 q.2.2) (fun q hq=>hg3 _ hq) fun g4 hg4=>ok_if (fun _=>?_) fun _=>?_
    · obtain ⟨m,hm,_,_⟩:=mod_ok (N+3) (a:=b) (b:=2004) (by decide) (by decide)
      refine ok_bind hm (ok_let (ok_let (ok_bind (aJm (l:=pPref v4.1) (by have:=h4.2; simp; omega) (by have:=h4.2; simp; omega)) (hg4 _ ⟨hp,h5,h5.1,?_⟩))))
      show (pPref v4.1++_).length≤100
      have:=h4.2
      simp; omega
    refine ok_join (fun q=>PolB 100 q.1∧PolB 100 q.2.1∧PolB 100 q.2.2) (fun q hq=>hg4 _ hq) fun g5 hg5=>ok_if (fun _=>?_) fun _=>hg5 _ ⟨hp,h5,h5.1,h5.2⟩
    · obtain ⟨m,hm,_,_⟩:=mod_ok (N+3) (a:=b) (b:=120) (by decide) (by decide)
      refine ok_bind hm (ok_let (ok_bind (aJm (l:=pPref v4.1) (by have:=h4.2; simp; omega) (by have:=h4.2; simp; omega)) (hg5 _ ⟨hp,h5,h5.1,?_⟩)))
      show (pPref v4.1++_).length≤100
      have:=h4.2
      simp; omega
 obtain ⟨r,h,rfl⟩:=key
 exact h
end Go.Proofs.YtgfmodmeimhhpaaDoor
