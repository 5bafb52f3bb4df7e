/- Chapter 15, plainly: the deck's path. -/
import Derived.Test.YtajoneenakjifaaGreatDoorT36
import Derived.Test.YtajoneenakjifaaGreatDoorCA
import Derived.Test.YtajoneenakjifaaGreatDoorEB
namespace Go.Proofs.YtajoneenakjifaaGreatDoor
open Go.VM
set_option maxRecDepth 10000
theorem next_k (N:Nat) {d:Dk} (hd:DK d) {b:Int} (hb:0 < b) (hb2:b≤9223372036854775807):Ok (n17 (N+2) (d,b)) fun r=>0≤r.1∧r.1 < b∧DK r.2:=by
 obtain ⟨v,d',h1,h2,h3,h4⟩:=next_ok N hd hb hb2
 exact ⟨_,h1,h2,h3,h4⟩
theorem idx_k {T:Type} {l:List T} {v:Int} (h0:0≤v) (h1:v < (l.length:Int)):Ok (aEU l v) fun x=>x∈l:=by
 obtain ⟨n,rfl⟩:=Int.eq_ofNat_of_zero_le h0
 exact ⟨_,aJo (n:=n) (by omega),List.getElem_mem _⟩
theorem asn_k (N:Nat) {d:Dk} (hd:DK d):Ok (n18 (N+3) d) fun r=>DK r.2:=by
 rw [e18]
 refine ok_bind' (next_k N hd (by omega) (by omega)) fun a ⟨_,_,ha⟩=>ok_let (ok_bind' (next_k N ha (by omega) (by omega)) fun b ⟨_,_,hb⟩=>ok_let (ok_let (ok_bind' (next_k N hb (by omega) (by omega)) fun c ⟨hc0,hc1,hc⟩=>ok_bind' (idx_k hc0 (by simpa using hc1)) fun x _=>ok_some hc)))
theorem pvd_len {p:List Seg} (h:pvd p=true):∀ s∈p,s.2.length≤64:=by
 unfold pvd at h
 rw [Bool.and_eq_true,decide_eq_true_eq] at h
 have:∀ (p:List Seg),∀ s∈p,s.2.length≤tot p:=by
  intro p
  induction p with
  | nil=>intro s hs; cases hs
  | cons a p ih =>
   intro s hs
   unfold tot
   simp only [List.map_cons,List.sum_cons]
   rcases List.mem_cons.1 hs with rfl | hs
   · omega
   · have:=ih s hs; unfold tot at this; omega
 intro s hs
 have:=this p s hs
 omega
/-- Valid,and of short segments. -/
def Pv (p:List Seg):Prop:=pvd p=true∧∀ s∈p,s.2.length≤4
theorem path_k4 (N:Nat) (hN:100100 < N) {d:Dk} (hd:DK d):Ok (n7 (N+5) d) fun r=>Pv r.1∧r.1.length≤3∧DK r.2:=by
 rw [e7]
 refine ok_bind' (next_k (N+2) hd (by omega) (by omega)) fun v ⟨v0,v1,vd⟩=>?_
 refine ok_join (fun x=>Pv x.1∧x.1.length≤3∧DK x.2) (fun x hx=>ok_some hx) fun g2 hg2=>?_
 refine ok_loop (fun i (a:(List Seg×(Int×Dk)))=>Pv a.1∧a.1.length≤i∧0≤a.2.1∧a.2.1+i≤3∧DK a.2.2) 3 (fun i a ⟨h1,h2,h3,h4,h5⟩=>?_) ⟨⟨rfl,fun s hs=>(by cases hs)⟩,Nat.le_refl _,v0,by show v.1+0≤3; omega,vd⟩ (by omega)
 obtain ⟨p,k,d1⟩:=a
 simp only at h1 h2 h3 h4 h5
 refine ok_let (ok_if (fun hk=>?_) fun _=>ok_leave (hg2 _ ⟨h1,by show p.length≤3; omega,h5⟩))
 have hk:k > 0:=of_decide_eq_true hk
 have hi:i < 3:=by omega
 -- the next round
 refine ok_join (fun x=>Pv x.1∧x.1.length≤i+1∧x.2.1=k∧DK x.2.2) (fun x ⟨q1,q2,q3,q4⟩=>ok_letE (w:=k - 1) (wv _ (by rw [q3]) (by omega) (by omega)) (ok_again hi ⟨q1,q2,by show 0≤k - 1; omega,by show k - 1+((i+1:Nat):Int)≤3; omega,q4⟩)) fun g6 hg6=>?_
 refine ok_let (ok_let (ok_bind' (P:=fun _=>True) ?_ fun v10 _=>ok_let (ok_bind' (P:=fun r=>DK r.2) ?_ fun v12 hv12=>ok_let (ok_bind' (next_k (N+2) hv12 (by omega) (by omega)) fun v14 ⟨u0,u1,ud⟩=>ok_letE (w:=1+v14.1) (wv _ rfl (by omega) (by omega)) ?_))))
 · refine ok_if (fun hc=>?_) fun _=>ok_some trivial
   have hc:aJO p > 0:=of_decide_eq_true hc
   unfold aJO at hc
   rw [wv (aJO p - 1) rfl (by unfold aJO; omega) (by unfold aJO; omega)]
   exact ok_mono (idx_k (l:=p) (v:=aJO p - 1) (by unfold aJO; omega) (by unfold aJO; omega)) fun _ _=>trivial
 · exact ok_if (fun _=>ok_mono (next_k (N+2) h5 (by omega) (by omega)) fun _ h=>h.2.2) fun _=>ok_some h5
 -- the segment is made
 refine ok_join (fun x=>x.1=p∧x.2.1=k∧x.2.2.1.2.length≤4∧DK x.2.2.2) (fun x ⟨q1,q2,q3,q4⟩=>?_) fun g17 hg17=>?_
 · obtain ⟨p',k',s,d'⟩:=x
   simp only at q1 q2 q3 q4
   subst q1; subst q2
   have hps:=pvd_len h1.1
   refine ok_let (ok_bind (aJm (by simp; omega) (by simp; omega)) (ok_bind (valid_r (N+2) (by omega) (by simp; omega) fun s' hs'=>?_) ?_))
   · rcases List.mem_append.1 hs' with h | h
     · have:=hps s' h; omega
     · rw [List.mem_singleton.1 h]; omega
   refine ok_join (fun x=>Pv x.1∧x.1.length≤i+1∧x.2.1=k'∧DK x.2.2) (fun x hx=>hg6 _ hx) fun g22 hg22=>?_
   refine ok_if (fun hv=>?_) fun hv=>hg22 _ ⟨⟨by simpa using hv,fun s' hs'=>(List.mem_append.1 hs').elim (h1.2 s') fun h=>by rw [List.mem_singleton.1 h]; exact q3⟩,by simp; omega,rfl,q4⟩
   refine ok_letE (w:=(p'.length:Int)) (wv _ (by unfold aJO; simp) (by omega) (by omega)) (ok_bind (aJ0 (by simp)) ?_)
   rw [List.take_left]
   exact hg22 _ ⟨h1,by show p'.length≤i+1; omega,rfl,q4⟩
 -- its numbers
 refine ok_loop (fun j (a:(List Seg×(Int×(Bool×(Seg×(Int×Dk))))))=>a.1=p∧a.2.1=k∧a.2.2.2.1.2.length≤j∧0≤a.2.2.2.2.1∧a.2.2.2.2.1+j≤4∧DK a.2.2.2.2.2) 4 (fun j a ha=>?_) ⟨rfl,rfl,Nat.le_refl _,by show 0≤1+v14.1; omega,by show 1+v14.1+0≤4; omega,ud⟩ (by omega)
 obtain ⟨p',k',st,s,n,d2⟩:=a
 obtain ⟨b1,b2,b3,b4,b5,b6⟩:=ha
 simp only at b1 b2 b3 b4 b5 b6
 subst b1; subst b2
 refine ok_let (ok_if (fun hn=>?_) fun _=>ok_leave (hg17 _ ⟨rfl,rfl,by show s.2.length≤4; omega,b6⟩))
 have hn:n > 0:=of_decide_eq_true hn
 have hj:j < 4:=by omega
 refine ok_join (fun x=>x.1=p'∧x.2.1=k'∧x.2.2.2.1.2.length≤j+1∧x.2.2.2.2.1=n∧DK x.2.2.2.2.2) (fun x ⟨q1,q2,q3,q4,q5⟩=>ok_letE (w:=n - 1) (wv _ (by rw [q4]) (by omega) (by omega)) (ok_again hj ⟨q1,q2,q3,by show 0≤n - 1; omega,by show n - 1+((j+1:Nat):Int)≤4; omega,q5⟩)) fun g28 hg28=>?_
 refine ok_bind' (asn_k (N+1) b6) fun v30 hv30=>ok_if (fun _=>?_) fun _=>?_
 · exact ok_bind (aJm (by simp; omega) (by simp; omega)) (hg28 _ ⟨rfl,rfl,by simp; omega,rfl,hv30⟩)
 refine ok_join (fun x=>x.1=p'∧x.2.1=k'∧x.2.2.2.1.2=s.2∧x.2.2.2.2.1=n∧(∃ m:Nat,x.2.2.2.2.2.2.1=(m:Int)∧m≤s.2.length)∧DK x.2.2.2.2.2.2.2) (fun x ⟨q1,q2,q3,q4,⟨m,q5,hm⟩,q6⟩=>?_) fun g33 hg33=>?_
 · obtain ⟨p1,k1,st1,s1,n1,a1,i1,d1'⟩:=x
   simp only at q1 q2 q3 q4 q5 q6
   subst q1; subst q2; subst q4; subst q5
   rw [← q3] at hm
   have l1:s1.2.length≤j:=by rw [q3]; exact b3
   refine ok_let (ok_bind' (P:=fun _=>True) ?_ fun v35 _=>ok_let ?_)
   · refine ok_if (fun hc=>?_) fun _=>ok_some trivial
     have hc:¬ ((m:Int)=aJO s1.2):=by simpa using hc
     unfold aJO at hc
     exact ok_mono (idx_k (l:=s1.2) (v:=(m:Int)) (by omega) (by omega)) fun _ _=>trivial
   refine ok_join (fun x=>x.1=p1∧x.2.1=k1∧x.2.2.2.1.2.length≤j+1∧x.2.2.2.2.1=n1∧DK x.2.2.2.2.2) (fun x hx=>hg28 _ hx) fun g38 hg38=>?_
   refine ok_if (fun _=>?_) fun _=>hg38 _ ⟨rfl,rfl,by show s1.2.length≤j+1; omega,rfl,q6⟩
   have t1:(s1.2.take m).length≤4:=by rw [List.length_take]; omega
   have t2:(s1.2.drop m).length≤4:=by rw [List.length_drop]; omega
   refine ok_bind (aJ0 hm) (ok_bind (aJm (l:=[]) (by simp only [List.length_nil]; omega) (by simp only [List.length_nil]; omega)) (ok_let (ok_bind (aJm (by simp only [List.nil_append,List.length_singleton]; omega) (by simp only [List.nil_append,List.length_singleton]; omega)) (ok_bind (aJ1 hm) (ok_bind (aJm (by simp only [List.nil_append,List.length_append,List.length_singleton]; omega) (by simp only [List.nil_append,List.length_append,List.length_singleton]; omega)) (hg38 _ ⟨rfl,rfl,?_,rfl,q6⟩))))))
   simp only [List.nil_append,List.length_append,List.length_take,List.length_drop,List.length_singleton]
   omega
 refine ok_loop (fun m (a:(List Seg×(Int×(Bool×(Seg×(Int×(Int×(Int×Dk))))))))=>a.1=p'∧a.2.1=k'∧a.2.2.2.1.2=s.2∧a.2.2.2.2.1=n∧a.2.2.2.2.2.2.1=(m:Int)∧m≤s.2.length∧DK a.2.2.2.2.2.2.2) s.2.length (fun m a ha=>?_) ⟨rfl,rfl,rfl,rfl,rfl,Nat.zero_le _,hv30⟩ (by omega)
 obtain ⟨p1,k1,st1,s1,n1,a1,i1,d1'⟩:=a
 obtain ⟨q1,q2,q3,q4,q5,q6,q7⟩:=ha
 simp only at q1 q2 q3 q4 q5 q7
 subst q1; subst q2; subst q4; subst q5
 refine ok_let (ok_bind' (P:=fun _=>True) ?_ fun v47 _=>ok_let (ok_let (ok_if (fun hc=>?_) fun _=>ok_leave (hg33 _ ⟨rfl,rfl,q3,rfl,⟨m,rfl,q6⟩,q7⟩))))
 · refine ok_if (fun hc=>?_) fun _=>ok_some trivial
   have hc:(m:Int) < aJO s1.2:=of_decide_eq_true hc
   unfold aJO at hc
   exact ok_mono (idx_k (l:=s1.2) (v:=(m:Int)) (by omega) (by omega)) fun _ _=>trivial
 · have hm : m < s.2.length := by
     by_cases q:(m:Int) < aJO s1.2
     · unfold aJO at q; rw [q3] at q; omega
     · rw [decide_eq_false q] at hc; cases hc
   exact ok_letE (w:=((m+1:Nat):Int)) (wv _ (show (m:Int)+1=((m+1:Nat):Int) by omega) (by omega) (by omega)) (ok_again hm ⟨rfl,rfl,q3,rfl,rfl,hm,q7⟩)
end Go.Proofs.YtajoneenakjifaaGreatDoor
