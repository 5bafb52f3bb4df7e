/- Chapter 17, plainly: what CommunityFull asks. -/
import Derived.Test.YtghpknbkecolnaaDoorDC
import Derived.Test.YtghpknbkecolnaaDoorNE1
namespace Go.Proofs.YtghpknbkecolnaaDoor
open Go.VM Go.Txt
set_option maxRecDepth 10000
theorem awakeK:n4 400 ()=some true:=by kernel_rfl
theorem awake' {N:Nat} (h:400≤N):n4 N ()=some true:=aGj (T:=TN) h 4 () true awakeK
theorem jP {A B:Type} {f:A→Option B} {k:(A→Option B)→Option B} (P:A→Prop) {r:B} (hf:∀ x,P x→f x=some r) (hk:∀ g:A→Option B,(∀ x,P x→g x=some r)→k g=some r):aBJ f k=some r:=by
 rw [aJY]; exact hk f hf
theorem addTo_at {l:List Cm} {c:Cm} {r:List Cm×Int} (h:AddTo vldC fitC lesC l c r) (hv:vldC l=true) (hf:fitC c=true):(c∈l∧r=(l,0))∨(c∉l∧l.length=64∧r=([],3))∨(c∉l∧l.length < 64∧r.2=0∧vldC r.1=true∧(∀ x,x∈r.1↔x=c∨x∈l)∧r.1.length=l.length+1):=by
 have hh:=h
 rcases h with ⟨h1 | h1,_⟩ | ⟨_,_,i,hp,hr⟩
 · rw [hv] at h1; cases h1
 · rw [hf] at h1; cases h1
 obtain ⟨k1,k2,k3⟩:=(vld_iff lesC_les).1 hv
 have hat:=has_at lesC_les k2 hp
 unfold addR at hr
 by_cases hm:l[i]?=some c
 · rw [if_pos hm] at hr
   exact .inl ⟨hat.2 hm,hr⟩
 · rw [if_neg hm] at hr
   have hn:c∉l:=fun q=>hm (hat.1 q)
   by_cases h6:l.length=64
   · rw [if_pos h6] at hr
     exact .inr (.inl ⟨hn,h6,hr⟩)
   · rw [if_neg h6] at hr
     obtain ⟨q1,q2,q3,_⟩:=addTo_ins lesC_les hh hv hf (by omega)
     refine .inr (.inr ⟨hn,by omega,q1,q2,q3,?_⟩)
     have:=hp.1
     rw [hr]
     simp only [List.length_append,List.length_take,List.length_drop,List.length_singleton]
     omega
theorem full (N:Nat) (hN:1000 < N) {a0:List Int} (a1:Int):n3 (N+201) (a0,a1)=some true:=by
 rw [e3]
 by_cases h0:aJO a0 > 200
 · exact letB (v:=true) (decide_eq_true h0) (bifT rfl (bindB (awake' (by omega)) rfl))
 have l0:a0.length≤200:=by unfold aJO at h0; omega
 refine letB (v:=false) (decide_eq_false h0) (bifF rfl ?_)
 refine jP (P:=fun x:(Int×List Cm)=>x.1=a1∧vldC x.2=true∧∀ y∈x.2,y.2=1∧y.1 < 70) ?_ ?_
 · rintro ⟨y,l⟩ ⟨e0,hv,hy⟩
   simp only at e0 hv hy
   subst e0
   refine jP (P:=fun x:(Int×List Cm)=>x.1=y∧vldC x.2=true∧x.2.length=64∧∀ z∈x.2,z.1 < 65535) ?_ ?_
   · rintro ⟨y,m⟩ ⟨e1,mv,ml,my⟩
     simp only at e1 mv ml my
     subst e1
     have b1:=Int.emod_nonneg y (show (65536:Int)≠0 by omega)
     have b2:=Int.emod_lt_of_pos y (show (0:Int) < 65536 by omega)
     have b3:=Int.emod_nonneg y (show (64:Int)≠0 by omega)
     have b4:=Int.emod_lt_of_pos y (show (0:Int) < 64 by omega)
     have m1:=modE (N+199) (a:=y) (b:=65536) (by omega) (by omega)
     have m2:=modE (N+199) (a:=y) (b:=64) (by omega) (by omega)
     generalize y % 65536=p at *
     generalize y % 64=q at *
     obtain ⟨q,rfl⟩:=Int.eq_ofNat_of_zero_le b3
     have hf:fitC ((65535:Int),p)=true:=by
      unfold fitC
      rw [decide_eq_true_eq]
      simp only
      omega
     obtain ⟨r,r1,r2⟩:=add_pC (N+140) (l:=m) ((65535:Int),p) (by omega) (by omega) (by omega)
     have hr:r.2=3:=by
      rcases addTo_at r2 mv hf with ⟨c1,_⟩ | ⟨_,_,c1⟩ | ⟨_,c1,_⟩
      · have:=my _ c1; simp at this
      · rw [c1]
      · omega
     have hq:q < m.length:=by omega
     have hx:aEU m (q:Int)=some m[q]:=aJo hq
     obtain ⟨s,s1,s2⟩:=add_pC (N+140) (l:=m) m[q] (by omega) (by omega) (by omega)
     have hs:s=(m,0):=by
      rcases addTo_at s2 mv (vld_fit mv _ (List.getElem_mem hq)) with ⟨_,c1⟩ | ⟨c1,_⟩ | ⟨c1,_⟩
      · exact c1
      · exact absurd (List.getElem_mem hq) c1
      · exact absurd (List.getElem_mem hq) c1
     subst hs
     have vc:=valid_c (N+150) (l:=m) (by omega) (by omega)
     rw [mv] at vc
     have sm:=same_c (N+199) (l:=m) (by omega) (by omega)
     have nl:aJO m=64:=by unfold aJO; omega
     refine bifF (by show (aJO m != 64)=false; rw [nl]; rfl) (bindB m1 (bindB r1 (bindB (v:=(q:Int)) ?_ (bindB hx (bindB s1 (bindB vc (letB (v:=true) (by show (bif true then (r.2==(3:Int)) else false)=true; rw [hr]; rfl) (letB (v:=true) rfl (bindB (bifT rfl sm) (letB (v:=true) rfl (bindB (bifT rfl (awake' (by omega))) rfl)))))))))))
     show n6 (N+200) (y,aJO m)=_
     rw [nl]; exact m2
   · intro g hg
     have k64:=vld_len hv
     generalize hk:l.length=k0 at k64
     refine loop_inv (fun k (a:(Int×(List Cm×Int)))=>∃ m,a=(y,m,((k0+k:Nat):Int))∧vldC m=true∧m.length=k0+k∧k0+k≤64∧∀ z∈m,(z.2=1∧z.1 < 70)∨(z.2=2∧z.1 < 100+((k0+k:Nat):Int))) (64 - k0) (fun k a ha=>?_) ⟨l,by rw [← hk]; rfl,hv,hk,k64,fun z hz=>.inl (hy z hz)⟩ (by omega)
     obtain ⟨m,rfl,mv,ml,mk,my⟩:=ha
     by_cases hlt:k0+k < 64
     · left
       obtain ⟨r,r1,r2⟩:=add_pC (N+140) (l:=m) ((100:Int)+((k0+k:Nat):Int),(2:Int)) (by omega) (by omega) (by omega)
       have hf:fitC ((100:Int)+((k0+k:Nat):Int),(2:Int))=true:=by
        unfold fitC
        rw [decide_eq_true_eq]
        simp only
        omega
       have hn:((100:Int)+((k0+k:Nat):Int),(2:Int))∉m:=fun q=>by
        rcases my _ q with ⟨c1,_⟩ | ⟨_,c1⟩
        · simp at c1
        · simp only at c1; omega
       rcases addTo_at r2 mv hf with ⟨c1,_⟩ | ⟨_,c1,_⟩ | ⟨_,_,z0,rv,rm,rl⟩
       · exact absurd c1 hn
       · omega
       · refine ⟨_,letB (v:=true) (decide_eq_true (show ((k0+k:Nat):Int) < 64 by omega)) (bifT rfl (letB (v:=(100:Int)+((k0+k:Nat):Int)) (wv _ rfl (by omega) (by omega)) (bindB r1 (bifF (by show (r.2 != (0:Int))=false; rw [z0]; rfl) (letB (v:=((k0+(k+1):Nat):Int)) (wv _ (show ((k0+k:Nat):Int)+1=((k0+(k+1):Nat):Int) by omega) (by omega) (by omega)) rfl))))),by omega,r.1,rfl,rv,by omega,by omega,fun z hz=>?_⟩
         rcases (rm z).1 hz with rfl | hz
         · right; exact ⟨rfl,by show (100:Int)+_ < _; omega⟩
         · rcases my z hz with c | ⟨c1,c2⟩
           · exact .inl c
           · exact .inr ⟨c1,by omega⟩
     · right
       refine letB (v:=false) (decide_eq_false (show ¬ ((k0+k:Nat):Int) < 64 by omega)) (bifF rfl (leaveB (hg _ ⟨rfl,mv,by show m.length=64; omega,fun z hz=>?_⟩)))
       rcases my z hz with ⟨_,c⟩ | ⟨_,c⟩ <;> omega
 · intro g hg
   refine loop_inv (fun i (a:(Int×(List Cm×(List Int×(Int×Int)))))=>∃ l,a=(a1,l,a0,aJO a0,(i:Int))∧i≤a0.length∧vldC l=true∧∀ y∈l,y.2=1∧y.1 < 70) a0.length (fun i a ha=>?_) ⟨[],rfl,Nat.zero_le _,rfl,fun y hy=>by cases hy⟩ (by omega)
   obtain ⟨l,rfl,hi,hv,hy⟩:=ha
   rcases Nat.lt_or_eq_of_le hi with hlt | rfl
   · left
     have hx:aEU a0 (i:Int)=some a0[i]:=aJo hlt
     have b1:=Int.emod_nonneg a0[i] (show (70:Int)≠0 by omega)
     have b2:=Int.emod_lt_of_pos a0[i] (show (0:Int) < 70 by omega)
     have m1:=modE (N+199) (a:=a0[i]) (b:=70) (by omega) (by omega)
     generalize a0[i] % 70=p at *
     have ll:=vld_len hv
     obtain ⟨r,r1,r2⟩:=add_pC (N+140) (l:=l) (p,(1:Int)) (by omega) (by omega) (by omega)
     have hf:fitC (p,(1:Int))=true:=by
      unfold fitC
      rw [decide_eq_true_eq]
      simp only
      omega
     have nx:IntKind.i64.wrap ((i:Int)+1)=((i+1:Nat):Int):=wv _ (by omega) (by omega) (by omega)
     have hd:decide ((i:Int) < aJO a0)=true:=decide_eq_true (by unfold aJO; omega)
     rcases addTo_at r2 hv hf with ⟨_,c1⟩ | ⟨_,c1,c2⟩ | ⟨_,_,z0,rv,rm,rl⟩
     · subst c1
       exact ⟨_,letB (v:=true) hd (bifT rfl (jB (bindB hx (bindB m1 (bindB r1 (jB (bifT rfl (letB nx rfl)))))))),hlt,l,rfl,hlt,hv,hy⟩
     · subst c2
       exact ⟨_,letB (v:=true) hd (bifT rfl (jB (bindB hx (bindB m1 (bindB r1 (jB (bifF rfl (letB (v:=false) (by show (aJO l != 64)=false; unfold aJO; rw [c1]; rfl) (letB (v:=false) rfl (bifF rfl (letB nx rfl))))))))))),hlt,l,rfl,hlt,hv,hy⟩
     · refine ⟨_,letB (v:=true) hd (bifT rfl (jB (bindB hx (bindB m1 (bindB r1 (jB (bifT (by show (r.2==(0:Int))=true; rw [z0]; rfl) (letB nx rfl)))))))),hlt,r.1,rfl,hlt,rv,fun y hyr=>?_⟩
       rcases (rm y).1 hyr with rfl | q
       · exact ⟨rfl,b2⟩
       · exact hy y q
   · right
     exact letB (v:=false) (decide_eq_false (show ¬ (a0.length:Int) < aJO a0 by unfold aJO; omega)) (bifF rfl (leaveB (hg _ ⟨rfl,hv,hy⟩)))
end Go.Proofs.YtghpknbkecolnaaDoor
