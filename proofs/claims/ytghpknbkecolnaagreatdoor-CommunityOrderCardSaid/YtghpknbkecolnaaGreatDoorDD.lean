/- Chapter 17, plainly: what CommunityOrder asks. -/
import Derived.Test.YtghpknbkecolnaaGreatDoorDC
import Derived.Test.YtghpknbkecolnaaGreatDoorDB
import Derived.Test.YtghpknbkecolnaaGreatDoorCF
import Derived.Test.YtghpknbkecolnaaGreatDoorNE1
namespace Go.Proofs.YtghpknbkecolnaaGreatDoor
open Go.VM Go.Txt
set_option maxRecDepth 10000
def ofC (v:Int):Cm:=(Int.tmod (v % 40) 4,v % 40)
def ofL (v:Int):Lg:=(Int.tmod (v % 40) 2,Int.tmod (v % 40) 3,v % 40)
theorem ofC_fit (v:Int):fitC (ofC v)=true:=by
 have h1:=Int.emod_nonneg v (show (40:Int)≠0 by omega)
 have h2:=Int.emod_lt_of_pos v (show (0:Int) < 40 by omega)
 have h3:=Int.tmod_lt_of_pos (v % 40) (show (0:Int) < 4 by omega)
 have h4:=Int.tmod_nonneg 4 h1
 unfold fitC ofC
 rw [decide_eq_true_eq]
 simp only
 omega
theorem ofC_small (v:Int):(ofC v).1 < 4:=Int.tmod_lt_of_pos (v % 40) (show (0:Int) < 4 by omega)
theorem ofL_fit (v:Int):fitL (ofL v)=true:=by
 have h1:=Int.emod_nonneg v (show (40:Int)≠0 by omega)
 have h2:=Int.emod_lt_of_pos v (show (0:Int) < 40 by omega)
 have h3:=Int.tmod_lt_of_pos (v % 40) (show (0:Int) < 2 by omega)
 have h4:=Int.tmod_nonneg 2 h1
 have h5:=Int.tmod_lt_of_pos (v % 40) (show (0:Int) < 3 by omega)
 have h6:=Int.tmod_nonneg 3 h1
 unfold fitL ofL
 rw [decide_eq_true_eq]
 simp only
 omega
abbrev ColC:=Col zC fitC lesC
abbrev ColL:=Col zL fitL lesL
theorem order (N:Nat) (hN:300000 < N) {a0:List Int} (a1 a2:Int):n6 (N+201) (a0,a1,a2)=some true:=by
 rw [e6]
 by_cases h0:aJO a0 > 40
 · exact letB (v:=true) (decide_eq_true h0) (bifT rfl (bindB (awake' (by omega)) rfl))
 have l0:a0.length≤40:=by unfold aJO at h0; omega
 refine letB (v:=false) (decide_eq_false h0) (bifF rfl ?_)
 generalize hs:(a1 % (a0.length:Int)).toNat=s
 refine jP (P:=fun x:(Int×(List Cm×(List Cm×(List Lg×List Lg))))=>x.1=a2∧x.2.1=x.2.2.1∧x.2.2.2.1=x.2.2.2.2∧∃ k,k≤40∧ColC (fun j=>ofC (a0.getD j 0)) k x.2.1∧ColL (fun j=>ofL (a0.getD j 0)) k x.2.2.2.1) ?_ ?_
 · rintro ⟨y,l,l',m,m'⟩ ⟨e0,e1,e2,k,hk,hc,hm⟩
   simp only at e0 e1 e2 hc hm
   subst e0; subst e1; subst e2
   obtain ⟨c1,c2,c3⟩:=hc
   obtain ⟨m1,m2,m3⟩:=hm
   have v11:=modE (N+199) (a:=y) (b:=65536) (by omega) (by omega)
   have b1:=Int.emod_nonneg y (show (65536:Int)≠0 by omega)
   have b2:=Int.emod_lt_of_pos y (show (0:Int) < 65536 by omega)
   generalize y % 65536=p at *
   have hf:fitC ((9:Int),p)=true:=by
    unfold fitC
    rw [decide_eq_true_eq]
    simp only
    omega
   obtain ⟨r,r1,r2⟩:=add_pC (N+140) (l:=l) ((9:Int),p) (by omega) (by omega) (by omega)
   obtain ⟨k1,k2,k3,k4⟩:=addTo_ins lesC_les r2 c1 hf (by omega)
   have vc:=valid_c (N+150) (l:=l) (by omega) (by omega)
   have vl:=valid_l (N+150) (l:=m) (by omega) (by omega)
   have c1':vldC l=true:=c1
   have m1':vldL m=true:=m1
   rw [c1'] at vc
   rw [m1'] at vl
   have pp:printP l m=prt l m:=by unfold printP; rw [c1',m1']; rfl
   obtain ⟨u1,u2'⟩:=vld_u (l:=l) (m:=m) (by rw [c1',m1']; rfl)
   have pl:=prt_len u1 u2'
   have pr:=print_p (N+140) (by omega) (l:=l) (m:=m) (by omega) (by omega) (by omega) (by omega)
   rw [pp] at pr
   have ps:=parse_p (N+100) (by omega) (s:=prt l m) (by omega)
   rw [read_p (l:=l) (m:=m) (by rw [c1',m1']; rfl)] at ps
   have re:res (prt l m) (some (l,m))=(l,m,0):=if_pos ⟨by simp [c1',m1'],rfl⟩
   rw [re] at ps
   have s1:=same_c (N+199) (l:=l) (by omega) (by omega)
   have s2:=same_l (N+199) (l:=m) (by omega) (by omega)
   obtain ⟨b,g1,g2⟩:=has_pC (N+197) (l:=r.1) ((9:Int),p) (by omega) (by omega)
   have hb:b=true:=g2.2 ((k3 _).2 (.inl rfl))
   subst hb
   have rm:=rem_pC (N+197) (l:=r.1) ((9:Int),p) (by omega)
   have hr:(r.1.filter fun q=>!(decide (q=((9:Int),p))))=l:=by
    refine inc_uniq lesC_les _ _ ((inc_pw.1 ((vld_iff lesC_les).1 k2).2.1).filter _) (inc_pw.1 ((vld_iff lesC_les).1 c1).2.1) fun x=>?_
    rw [List.mem_filter,k3]
    constructor
    · rintro ⟨h1,h2⟩
      rcases h1 with h1 | h1
      · subst h1; simp at h2
      · exact h1
    · intro h1
      refine ⟨.inr h1,?_⟩
      have:x≠((9:Int),p):=fun e=>by
       obtain ⟨j,_,q⟩:=(c3 x).1 h1
       have:=ofC_small (a0.getD j 0)
       rw [show ofC (a0.getD j 0)=x from q.symm,e] at this
       simp at this
      simp [this]
   rw [hr] at rm
   have z0:(r.2==(0:Int))=true:=by rw [k1]; rfl
   refine bindB s1 (bindB (bifT rfl s2) (letB (v:=false) rfl (bindB (bifT rfl vc) (letB (v:=false) rfl (bindB (bifT rfl vl) (letB (v:=false) rfl (bifF rfl ?_)))))))
   exact bindB v11 (bindB r1 (bindB pr (bindB ps (bindB (bifT z0 g1) (letB (v:=true) (bifT z0 rfl) (bindB (bifT rfl rm) (bindB (bifT rfl s1) (letB (v:=true) rfl (letB (v:=true) rfl (bindB (bifT rfl s1) (letB (v:=true) rfl (bindB (bifT rfl s2) (letB (v:=true) rfl (bindB (bifT rfl (awake' (by omega))) rfl))))))))))))))
 · intro g hg
   refine loop_inv (fun i (a:(List Int×(Int×(Int×(List Cm×(List Cm×(List Lg×(List Lg×(Int×Int)))))))))=>∃ c d m n,a=(a0,a1,a2,c,d,m,n,aJO a0,(i:Int))∧i≤a0.length∧ColC (fun j=>ofC (a0.getD j 0)) i c∧ColC (fun j=>ofC (a0.getD ((j+s) % a0.length) 0)) i d∧ColL (fun j=>ofL (a0.getD j 0)) i m∧ColL (fun j=>ofL (a0.getD ((j+s) % a0.length) 0)) i n) a0.length (fun i a ha=>?_) ⟨[],[],[],[],rfl,Nat.zero_le _,col0,col0,col0,col0⟩ (by omega)
   obtain ⟨c,d,m,n,rfl,hi,hc,hd,hm,hn⟩:=ha
   have nz:0 < a0.length→s < a0.length∧((s:Nat):Int)=a1 % (a0.length:Int):=fun hp=>by
    have q1:=Int.emod_nonneg a1 (show (a0.length:Int)≠0 by omega)
    have q2:=Int.emod_lt_of_pos a1 (show (0:Int) < a0.length by omega)
    omega
   rcases Nat.lt_or_eq_of_le hi with hlt | rfl
   · left
     obtain ⟨sn,se⟩:=nz (by omega)
     have m1:=modE (N+199) (a:=a0.getD i 0) (b:=40) (by omega) (by omega)
     have m2:=modE (N+199) (a:=a1) (b:=aJO a0) (by unfold aJO; omega) (by unfold aJO; omega)
     rw [show aJO a0=((a0.length:Nat):Int) from rfl,← se] at m2
     have m3:=modE (N+199) (a:=a0.getD ((i+s) % a0.length) 0) (b:=40) (by omega) (by omega)
     have x1:aEU a0 (i:Int)=some (a0.getD i 0):=nIdx_getD 0 hlt
     have hq:(i+s) % a0.length < a0.length:=Nat.mod_lt _ (by omega)
     have x2:aEU a0 (((i+s) % a0.length:Nat):Int)=some (a0.getD ((i+s) % a0.length) 0):=nIdx_getD 0 hq
     obtain ⟨r1,a1',b1⟩:=add_pC (N+140) (l:=c) (ofC (a0.getD i 0)) (by have:=hc.2.1; omega) (by omega) (by have:=hc.2.1; omega)
     obtain ⟨r2,a2',b2⟩:=add_pC (N+140) (l:=d) (ofC (a0.getD ((i+s) % a0.length) 0)) (by have:=hd.2.1; omega) (by omega) (by have:=hd.2.1; omega)
     obtain ⟨r3,a3',b3⟩:=add_pL (N+140) (l:=m) (ofL (a0.getD i 0)) (by have:=hm.2.1; omega) (by omega) (by have:=hm.2.1; omega)
     obtain ⟨r4,a4',b4⟩:=add_pL (N+140) (l:=n) (ofL (a0.getD ((i+s) % a0.length) 0)) (by have:=hn.2.1; omega) (by omega) (by have:=hn.2.1; omega)
     refine ⟨_,letB (v:=true) (decide_eq_true (show (i:Int) < aJO a0 by unfold aJO; omega)) (bifT rfl (bindB x1 (bindB m1 (bindB m2 (letB (v:=((i+s:Nat):Int)) (wv _ (show (i:Int)+(s:Int)=_ by omega) (by omega) (by omega)) (bindB (v:=(((i+s) % a0.length:Nat):Int)) ?_ (bindB x2 (bindB m3 (bindB a1' (bindB a2' (bindB a3' (bindB a4' (letB (v:=((i+1:Nat):Int)) (wv _ (show (i:Int)+1=((i+1:Nat):Int) by omega) (by omega) (by omega)) rfl))))))))))))),hlt,r1.1,r2.1,r3.1,r4.1,rfl,hlt,col_step lesC_les hc (by omega) (ofC_fit _) b1,col_step lesC_les hd (by omega) (ofC_fit _) b2,col_step lesL_les hm (by omega) (ofL_fit _) b3,col_step lesL_les hn (by omega) (ofL_fit _) b4⟩
     have nn:aJO a0≠0:=by unfold aJO; omega
     rw [if_neg nn]
     show some (Int.tmod ((i+s:Nat):Int) ((a0.length:Nat):Int))=_
     rfl
   · right
     refine letB (v:=false) (decide_eq_false (show ¬ (a0.length:Int) < aJO a0 by unfold aJO; omega)) (bifF rfl (leaveB (hg _ ⟨rfl,?_,?_,a0.length,l0,hc,hm⟩)))
     · by_cases hp:0 < a0.length
       · exact col_eq lesC_les hc hd (turn_all (F:=fun j=>ofC (a0.getD j 0)) (nz hp).1)
       · have z1:c=[]:=List.length_eq_zero_iff.1 (by have:=hc.2.1; omega)
         have z2:d=[]:=List.length_eq_zero_iff.1 (by have:=hd.2.1; omega)
         show c=d
         rw [z1,z2]
     · by_cases hp:0 < a0.length
       · exact col_eq lesL_les hm hn (turn_all (F:=fun j=>ofL (a0.getD j 0)) (nz hp).1)
       · have z1:m=[]:=List.length_eq_zero_iff.1 (by have:=hm.2.1; omega)
         have z2:n=[]:=List.length_eq_zero_iff.1 (by have:=hn.2.1; omega)
         show m=n
         rw [z1,z2]
end Go.Proofs.YtghpknbkecolnaaGreatDoor
