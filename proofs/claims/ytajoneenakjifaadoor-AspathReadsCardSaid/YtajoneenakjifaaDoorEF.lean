/- Chapter 15, plainly: what AspathReads asks. -/
import Derived.Test.YtajoneenakjifaaDoorEE
namespace Go.Proofs.YtajoneenakjifaaDoor
open Go.VM
set_option maxRecDepth 10000
theorem light_k (N:Nat) {p:List Seg} (hN:p.length < N) (hl:p.length≤9223372036854775807):Ok (n18 (N+1) p) fun b=>b=true→p.length≤20∧∀ s∈p,s.2.length≤80:=by
 rw [e18]
 refine ok_join (fun x=>x=p∧∀ s∈p,s.2.length≤80) (fun x ⟨e,hx⟩=>ok_let (ok_some fun hh=>⟨?_,hx⟩)) fun g hg=>?_
 · subst e
   have hh:aJO x≤20:=of_decide_eq_true hh
   unfold aJO at hh
   omega
 refine ok_loop (fun i (x:(List Seg×(List Seg×(Int×Int))))=>x=(p,p,aJO p,(i:Int))∧i≤p.length∧∀ s∈p.take i,s.2.length≤80) p.length (fun i x hx=>?_) ⟨rfl,Nat.zero_le _,by simp⟩ hN
 obtain ⟨rfl,hi,ha⟩:=hx
 refine ok_let (ok_if (fun hc=>?_) fun hc=>ok_leave (hg _ ⟨rfl,?_⟩))
 · have hc:(i:Int) < aJO p:=of_decide_eq_true hc
   unfold aJO at hc
   have hlt:i < p.length:=by omega
   refine ok_bind (aJo hlt) (ok_let (ok_if (fun _=>ok_leave (ok_some fun hh=>by cases hh)) fun h=>ok_letE (w:=((i+1:Nat):Int)) (wv _ (show (i:Int)+1=((i+1:Nat):Int) by omega) (by omega) (by omega)) (ok_again hlt ⟨rfl,hlt,fun s hs=>?_⟩)))
   have h:¬ (aJO p[i].2 > 80):=of_decide_eq_false h
   unfold aJO at h
   rw [List.take_succ_eq_append_getElem hlt] at hs
   rcases List.mem_append.1 hs with hs | hs
   · exact ha s hs
   · rw [List.mem_singleton.1 hs]; omega
 · have hc:¬ (i:Int) < aJO p:=of_decide_eq_false hc
   unfold aJO at hc
   rwa [List.take_of_length_le (by omega)] at ha
theorem modE (N:Nat) {a b:Int} (hb:0 < b) (hb2:b≤9223372036854775807):n27 (N+1) (a,b)=some (a % b):=by
 rw [e27]
 have h0:b≠0:=by omega
 simp only [↓aKO,h0,if_false,aKI,aJY,aJz,decide_eq_true_eq]
 have h1:=Int.mul_tdiv_add_tmod a b
 have h2:=Int.tmod_lt_of_pos a hb
 have h3:=Int.lt_tmod_of_pos a hb
 have h4:a % b=a.tmod b % b:=by
  conv=>lhs; rw [← h1,Int.add_comm,Int.add_mul_emod_self_left]
 by_cases hn:a.tmod b < 0
 · rw [if_pos hn,pV (by omega) (by omega),h4]
   rw [← Int.add_emod_right,Int.emod_eq_of_lt (by omega) (by omega)]
 · rw [if_neg hn,h4,Int.emod_eq_of_lt (by omega) (by omega)]
theorem readsE (N : Nat) (hN : 300000000 < N) {a0 : List Seg} {a1 : List Int} (a2 a3 a4 : Int) (h0 : a0.length < N) (h00 : a0.length ≤ 9223372036854775807) (h : a1.length ≤ 9223372036854775807) (haw : n13 (N + 20) () = some true)
  (hnear:∀ q,pvd q=true→q.length≤3→Ok (n19 (N+20) (q,a3,a4)) Mid):n5 (N+21) (a0,a1,a2,a3,a4)=some true:=by
 suffices Ok (n5 (N+21) (a0,a1,a2,a3,a4)) fun b=>b=true by
  obtain ⟨b,hb,rfl⟩:=this; exact hb
 rw [e5]
 refine ok_bind' (light_k (N+19) (by omega) h00) fun v hv0=>ok_if (fun _=>ok_bind haw (ok_some rfl)) fun hv=>?_
 have hraw:Mid a0:=by
  obtain ⟨r1,r2⟩:=hv0 (by simpa using hv)
  exact ⟨by omega,fun s hs=>Nat.le_trans (r2 s hs) (by omega)⟩
 refine ok_bind (e8 (N+19) a1) (ok_bind' (path_k (N+15) (by omega) (DK0 h)) fun v ⟨hpv,hpl,_⟩=>?_)
 obtain ⟨p,d⟩:=v
 simp only at hpv hpl
 have hp:Mid p:=⟨by omega,fun s hx=>Nat.le_trans (pvd_len hpv s hx) (by omega)⟩
 refine ok_bind' (hnear p hpv hpl) fun q hq=>ok_let ?_
 have hX:∀ x∈[a0,p,q],Mid x:=by
  intro x hx
  simp only [List.mem_cons,List.not_mem_nil,or_false] at hx
  rcases hx with rfl | rfl | rfl <;> assumption
 have lX:[a0,p,q].length=3:=rfl
 show Ok (aBJ _ _) _
 generalize [a0,p,q]=X at *
 refine ok_join (fun x=>x=(a2,a4)) (fun x hx=>?_) fun g7 hg7=>?_
 · subst hx
   refine ok_let (ok_bind (modE (N+19) (by omega) (by omega)) ?_)
   refine ok_bind' (idx_k (Int.emod_nonneg _ (by omega)) (Int.emod_lt_of_pos a4 (show (0:Int) < 14 by omega))) fun e _=>?_
   refine ok_bind (reserved_n (N+18) a2) (ok_bind (reserved_r (N+19) a2) ?_)
   have eqb:∀ b:Bool,(false != (b==b))=true:=fun b=>by cases b <;> rfl
   refine ok_bind (v:=rsv e) (bifT (eqb _) (reserved_n (N+18) e)) (ok_bind (v:=rsv e) (bifT (eqb _) (reserved_r (N+19) e)) (ok_letE (w:=true) (bifT (eqb _) (eqb _)) (ok_bind (v:=true) (bifT rfl haw) (ok_letE (w:=true) rfl (ok_some rfl)))))
 refine ok_loop (fun i (x:(Int×(Int×(List (List Seg)×(Int×Int)))))=>x=(a2,a4,X,aJO X,(i:Int))∧i≤3) 3 (fun i x hx=>?_) ⟨rfl,Nat.zero_le _⟩ (by omega)
 obtain ⟨rfl,hi⟩:=hx
 refine ok_let (ok_if (fun hc=>?_) fun _=>ok_leave (hg7 _ rfl))
 have hc:(i:Int) < aJO X:=of_decide_eq_true hc
 unfold aJO at hc
 have hlt:i < X.length:=by omega
 refine ok_join (fun x=>x=(a2,a4,X,aJO X,(i:Int))) (fun x hx=>?_) fun g21 hg21=>?_
 · subst hx
   exact ok_letE (w:=((i+1:Nat):Int)) (wv _ (show (i:Int)+1=((i+1:Nat):Int) by omega) (by omega) (by omega)) (ok_again (by omega) ⟨rfl,by omega⟩)
 refine ok_bind' (idx_k (l:=X) (v:=(i:Int)) (by omega) (by omega)) fun x hxm=>?_
 obtain ⟨x1,x2⟩:=hX x hxm
 have vn:=valid_p (N+18) (by omega) x1 x2
 have vr:=valid_r (N+18) (by omega) x1 x2
 have ft:(flat x).length≤100000000:=by rw [flat_len]; have:=tot_le x2; omega
 have neb:∀ b:Bool,(true != (b==b))=false:=fun b=>by cases b <;> rfl
 have nei:∀ b:Int,(b != b)=false:=fun b=>by simp
 refine ok_bind (first_n (N+17) (by omega) x1 x2) (ok_bind (first_r (N+17) (by omega) x1 x2) (ok_bind (origin_n (N+17) (by omega) x1 x2) (ok_bind (origin_r (N+17) (by omega) x1 x2) (ok_bind vn (ok_bind vr ?_)))))
 refine ok_bind (v:=(lenP x:Int)) (bifT (by rw [neb]; rfl) (len_n (N+19) (by omega) x1 x2)) (ok_bind (v:=(lenP x:Int)) (bifT (by rw [neb]; rfl) (len_r (N+19) (by omega) x1 x2)) ?_)
 refine ok_letE (w:=false) (bifF (neb _) (nei _)) (ok_letE (w:=false) (bifF rfl (nei _)) (ok_letE (w:=false) (bifF rfl (neb _)) (ok_letE (w:=false) (bifF rfl (nei _)) (ok_letE (w:=false) (bifF rfl (neb _)) ?_))))
 refine ok_if (fun hh=>by cases hh) fun _=>ok_bind (flat_n (N+19) (by omega) x1 x2) (ok_bind (flat_r (N+19) (by omega) x1 x2) (ok_if (fun hh=>by rw [nei] at hh; cases hh) fun _=>?_))
 generalize hu:flat x=u at *
 refine ok_join (fun y=>y=(a2,a4,x,X,aJO X,(i:Int))) (fun y hy=>?_) fun g40 hg40=>?_
 · subst hy
   refine ok_bind (modE (N+19) (by omega) (by omega)) (ok_let ?_)
   refine ok_join (fun y=>y=(a2,a4,X,aJO X,(i:Int))) (fun y hy=>hg21 _ (by subst hy; rfl)) fun g44 hg44=>?_
   have lL:[a2,(7:Int),a2 % 12].length=3:=rfl
   show Ok (eG _ _ (a2,a4,x,X,aJO X,(i:Int),[a2,(7:Int),a2 % 12],aJO [a2,(7:Int),a2 % 12],(0:Int))) _
   generalize [a2,(7:Int),a2 % 12]=L at *
   refine ok_loop (fun k (y:(Int×(Int×(List Seg×(List (List Seg)×(Int×(Int×(List Int×(Int×Int)))))))))=>y=(a2,a4,x,X,aJO X,(i:Int),L,aJO L,(k:Int))∧k≤3) 3 (fun k y hy=>?_) ⟨rfl,Nat.zero_le _⟩ (by omega)
   obtain ⟨rfl,hk⟩:=hy
   refine ok_let (ok_if (fun hc=>?_) fun _=>ok_leave (hg44 _ rfl))
   have hc:(k:Int) < aJO L:=of_decide_eq_true hc
   unfold aJO at hc
   refine ok_bind (aJo (l:=L) (n:=k) (by omega)) (ok_bind' (has_n (N+17) (p:=x) _ (by omega) x1 x2) fun b hb=>ok_bind' (has_r (N+17) (p:=x) _ (by omega) x1 x2) fun b' hb'=>?_)
   have e:b=b':=Bool.eq_iff_iff.2 (hb.trans hb'.symm)
   subst e
   exact ok_if (fun hh=>by rw [neb] at hh; cases hh) fun _=>ok_letE (w:=((k+1:Nat):Int)) (wv _ (show (k:Int)+1=((k+1:Nat):Int) by omega) (by omega) (by omega)) (ok_again (by omega) ⟨rfl,by omega⟩)
 refine ok_loop (fun k (y:(Int×(Int×(List Seg×(List Int×(List Int×(List (List Seg)×(Int×(Int×(Int×Int))))))))))=>y=(a2,a4,x,u,u,X,aJO X,(i:Int),aJO u,(k:Int))∧k≤u.length) u.length (fun k y hy=>?_) ⟨rfl,Nat.zero_le _⟩ (by omega)
 obtain ⟨rfl,hk⟩:=hy
 refine ok_let (ok_if (fun hc=>?_) fun _=>ok_leave (hg40 _ rfl))
 have hc:(k:Int) < aJO u:=of_decide_eq_true hc
 unfold aJO at hc
 have hku:k < u.length:=by omega
 exact ok_bind (aJo hku) (ok_bind (aJo hku) (ok_if (fun hh=>by rw [nei] at hh; cases hh) fun _=>ok_letE (w:=((k+1:Nat):Int)) (wv _ (show (k:Int)+1=((k+1:Nat):Int) by omega) (by omega) (by omega)) (ok_again hku ⟨rfl,hku⟩)))
end Go.Proofs.YtajoneenakjifaaDoor
