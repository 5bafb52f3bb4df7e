/- Chapter 02, plainly: prefixes nest; the longest common one. -/
import Derived.Test.YtlgnmgbnbomckaaGreatDoorPE
import Derived.Test.YtlgnmgbnbomckaaGreatDoorNEL9
import Derived.Test.YtlgnmgbnbomckaaGreatDoorNEL10
namespace Go.Proofs.YtlgnmgbnbomckaaGreatDoor
open Go.VM
set_option maxRecDepth 10000
theorem cov_false {p q:Pf} (h:PK p) (h2:¬ (p.2≤q.2∧q.1.1=p.1.1∧val p.1≤val q.1∧val q.1 < val p.1+siz p)):cov p q=false:=by
 cases hc:cov p q with
 | false=>rfl
 | true=>exact absurd ((cov_iff h).1 hc) h2
/-- The halves of a prefix. -/
theorem halves_ok {p : Pf} (h : PK p) (hn : p.2 ≠ (W p.1.1 : Int)) :
  PK (p.1,p.2+1)∧PK (half p,p.2+1)∧siz p=2 * siz (p.1,p.2+1)∧siz (half p,p.2+1)=siz (p.1,p.2+1)∧val (half p)=val p.1+siz (p.1,p.2+1):=by
 have hr:=half_rng h hn
 have ho:=half_ok h hn
 obtain ⟨h1,h2,h3,h4⟩:=h
 have ht:(p.2+1).toNat=p.2.toNat+1:=by omega
 have e:W p.1.1 - (p.2.toNat+1)=W p.1.1 - 1 - p.2.toNat:=by omega
 have d1:(2:Int) ^ (W p.1.1 - 1 - p.2.toNat)∣val p.1:=by
  rw [← h4]; exact Int.dvd_trans (p2_dvd (by omega)) (fl_dvd _ _)
 refine ⟨⟨h1,by show 0≤p.2+1; omega,by show p.2+1≤(W p.1.1:Int); omega,?_⟩,⟨ho,by show 0≤p.2+1; omega,by show p.2+1≤(W p.1.1:Int); omega,?_⟩,?_,?_,?_⟩
 · show fl (val p.1) (W p.1.1 - (p.2+1).toNat)=_
   rw [ht,e]; exact fl_self d1
 · show fl (val (half p)) (W p.1.1 - (p.2+1).toNat)=_
   rw [ht,e,half_val]; exact fl_self (Int.dvd_add d1 (Int.dvd_refl _))
 · unfold siz
   show (2:Int) ^ (W p.1.1 - p.2.toNat)=2 * 2 ^ (W p.1.1 - (p.2+1).toNat)
   rw [ht,e]; exact hr.2
 · rfl
 · rw [half_val]
   unfold siz
   show _=val p.1+2 ^ (W p.1.1 - (p.2+1).toNat)
   rw [ht,e]
theorem bifF' {b:Bool} (h:b=false):(bif b then true else false)=false:=by rw [h]; rfl
/-- PrefixNests. -/
theorem nests {l:List Int} (h:l.length≤9223372036854775807):n9 2000 l=some true:=by
 rw [e9]
 obtain ⟨p,d1,h1,hp,hd1⟩:=prefix_ok 1789 (DK0 h)
 obtain ⟨q,d2,h2,hq,hd2⟩:=prefix_ok 1789 hd1
 obtain ⟨a,d3,h3,ha,hd3⟩:=addr_ok 1995 hd2
 have hl:=lst_ok hq
 have cpa:=contains_p 1995 (p:=p) ha.ad
 have cqa:=contains_p 1995 (p:=q) ha.ad
 have vpq:=covers_p 1994 (p:=p) hq.1.ad
 have vqp:=covers_p 1994 (p:=q) hp.1.ad
 have cpq:=contains_p 1995 (p:=p) hq.1.ad
 have cpl:=contains_p 1995 (p:=p) hl.ad
 have sp:=siz_pos p
 have sq:=siz_pos q
 have lq:=lst_siz q
 have lp:=lst_siz p
 refine bindB (new_eq _ _) (bindB h1 (bindB h2 (bindB h3 (bindB cpa (bindB (bC cqa rfl) (bindB (bC vpq rfl) (letB rfl (bindB (bC vqp rfl) (letB (v:=false) ?_ (bifF rfl ?_))))))))))
 · cases c1:cont p a with
   | false=>rfl
   | true =>
    cases c2:cont q a with
    | false=>rfl
    | true =>
     have i1:=(cont_iff hp).1 c1
     have i2:=(cont_iff hq).1 c2
     have hf:q.1.1=p.1.1:=i2.1.symm.trans i1.1
     rcases Int.le_total p.2 q.2 with hle | hle
     · have : cov p q = true := (cov_iff hp).2 ⟨hle, hf, by
         rcases Int.lt_or_le (val q.1) (val p.1) with hlt | hge
         · exfalso
           obtain ⟨m,hm,hm1⟩:=siz_le hp hq hle hf
           obtain ⟨c,hc⟩:∃ c,val p.1=siz p * c:=by
            obtain ⟨c,hc⟩:=fl_dvd (val p.1) (W p.1.1 - p.2.toNat)
            rw [hp.2.2.2] at hc
            exact ⟨c,hc⟩
           obtain ⟨d,hd⟩:∃ d,val q.1=siz q * d:=by
            obtain ⟨d,hd⟩:=fl_dvd (val q.1) (W q.1.1 - q.2.toNat)
            rw [hq.2.2.2] at hd
            exact ⟨d,hd⟩
           rw [hm,Int.mul_assoc] at hc
           rw [hc,hd] at hlt
           have h5:d < m * c:=Int.lt_of_mul_lt_mul_left hlt (Int.le_of_lt sq)
           have h6:siz q * (d+1)≤siz q * (m * c):=Int.mul_le_mul_of_nonneg_left (by omega) (Int.le_of_lt sq)
           rw [Int.mul_add,Int.mul_one] at h6
           omega
         · exact hge,by omega⟩
       rw [this]; rfl
     · have : cov q p = true := (cov_iff hq).2 ⟨hle, hf.symm, by
         rcases Int.lt_or_le (val p.1) (val q.1) with hlt | hge
         · exfalso
           obtain ⟨m,hm,hm1⟩:=siz_le hq hp hle hf.symm
           obtain ⟨c,hc⟩:∃ c,val q.1=siz q * c:=by
            obtain ⟨c,hc⟩:=fl_dvd (val q.1) (W q.1.1 - q.2.toNat)
            rw [hq.2.2.2] at hc
            exact ⟨c,hc⟩
           obtain ⟨d,hd⟩:∃ d,val p.1=siz p * d:=by
            obtain ⟨d,hd⟩:=fl_dvd (val p.1) (W p.1.1 - p.2.toNat)
            rw [hp.2.2.2] at hd
            exact ⟨d,hd⟩
           rw [hm,Int.mul_assoc] at hc
           rw [hc,hd] at hlt
           have h5:d < m * c:=Int.lt_of_mul_lt_mul_left hlt (Int.le_of_lt sp)
           have h6:siz p * (d+1)≤siz p * (m * c):=Int.mul_le_mul_of_nonneg_left (by omega) (Int.le_of_lt sp)
           rw [Int.mul_add,Int.mul_one] at h6
           omega
         · exact hge,by omega⟩
       rw [this]
       cases cov p q <;> rfl
 have hlast:=last_p 1994 hq
 -- what one prefix covers
 refine bindB vpq (bindB (bC cpq rfl) (bindB (bC hlast rfl) (bindB (v:=bif ((!(!(bif cov p q then cont p q.1 else false)))&&cov p q) then cont p (lst q) else false) ?_ (letB rfl (bindB (bC cqa rfl) (bindB (bC cpa rfl) (letB rfl (letB (v:=false) ?_ (bifF rfl ?_)))))))))
 · cases hx:((!(!(bif cov p q then cont p q.1 else false)))&&cov p q) with
   | false=>rfl
   | true=>exact cpl
 · cases c1:cov p q with
   | false=>rfl
   | true =>
    obtain ⟨i1,i2,i3,i4⟩:=(cov_iff hp).1 c1
    have hb:=block hp hq i1 i2 i3 i4
    have e1:cont p q.1=true:=(cont_iff hp).2 ⟨i2,i3,i4⟩
    have e2:cont p (lst q)=true:=(cont_iff hp).2 ⟨i2,by omega,by omega⟩
    rw [e1,e2]
    cases c2:cont q a with
    | false=>rfl
    | true =>
     obtain ⟨j1,j2,j3⟩:=(cont_iff hq).1 c2
     have e3:cont p a=true:=(cont_iff hp).2 ⟨j1.trans i2,by omega,by omega⟩
     rw [e3]; rfl
 have hok:=(okP_iff hp.1.ad).2 hp
 have hhv:=halves_p 1989 (p:=p) hp.1.ad
 have hlp:=last_p 1994 hp
 unfold hlv at hhv
 rw [if_neg (by rw [hok]; simp)] at hhv
 by_cases hn:p.2=(W p.1.1:Int)
 · rw [if_pos hn] at hhv
   have e:lst p=p.1:=by
    have:siz p=1:=by unfold siz; rw [show W p.1.1 - p.2.toNat=0 by omega,Int.pow_zero]
    refine (ad_eq (lst_ok hp).ad hp.1.ad).2 ⟨rfl,by omega⟩
   refine bindB hhv (bifT rfl (bindB (bifT rfl hlp) (letB (v:=true) ?_ (letB (v:=true) rfl (bindB (bifT rfl (awake' (by omega))) (letB rfl rfl))))))
   rw [e]; simp
 · rw [if_neg hn] at hhv
   obtain ⟨hx,hy,s1,s2,s3⟩:=halves_ok hp hn
   have vx:val ((p.1,p.2+1):Pf).1=val p.1:=rfl
   have sx:=siz_pos (p.1,p.2+1)
   have fx:(half p).1=p.1.1:=rfl
   have c1:cov (p.1,p.2+1) (half p,p.2+1)=false:=cov_false hx (by
    rintro ⟨_,_,_,h4⟩
    have h4:val (half p) < val p.1+siz (p.1,p.2+1):=h4
    omega)
   have c2:cov (half p,p.2+1) (p.1,p.2+1)=false:=cov_false hy (by
    rintro ⟨_,_,h3,_⟩
    have h3:val (half p)≤val p.1:=h3
    omega)
   have c3:cov p (p.1,p.2+1)=true:=(cov_iff hp).2 ⟨by show p.2≤p.2+1; omega,rfl,Int.le_refl _,by show val p.1 < val p.1+siz p; omega⟩
   have c4:cov p (half p,p.2+1)=true:=(cov_iff hp).2 ⟨by show p.2≤p.2+1; omega,rfl,by show val p.1≤val (half p); omega,by show val (half p) < val p.1+siz p; omega⟩
   have v1:=covers_p 1994 (p:=(p.1,p.2+1)) (q:=(half p,p.2+1)) hy.1.ad
   have v2:=covers_p 1994 (p:=(half p,p.2+1)) (q:=(p.1,p.2+1)) hp.1.ad
   have v3:=covers_p 1994 (p:=p) (q:=(p.1,p.2+1)) hp.1.ad
   have v4:=covers_p 1994 (p:=p) (q:=(half p,p.2+1)) hy.1.ad
   rw [c1] at v1
   rw [c2] at v2
   rw [c3] at v3
   rw [c4] at v4
   have cm:=(cmp_p 1990 (p:=(p.1,p.2+1)) (q:=(half p,p.2+1)) hp.1.ad hy.1.ad).1
   have cmv:cmpP (p.1,p.2+1) (half p,p.2+1)=-1:=by
    have e:cmpA p.1 (half p)=-1:=by
     unfold cmpA sgn
     rw [if_pos fx.symm,if_pos (show val p.1 < val (half p) by omega)]
    unfold cmpP
    show (if cmpA p.1 (half p)≠0 then cmpA p.1 (half p) else _)=_
    rw [e,if_pos (by decide)]
   have vy:val ((half p,p.2+1):Pf).1=val (half p):=rfl
   rw [cmv] at cm
   have lx:=last_p 1994 hx
   have ly:=last_p 1994 hy
   have lvx:=lst_siz (p.1,p.2+1)
   have lvy:=lst_siz (half p,p.2+1)
   have hnx:=next_r 1997 (lst_ok hx)
   have hrng:=hy.1.rng
   have hfl:(lst (p.1,p.2+1)).1=p.1.1:=rfl
   have hvn:val (lst (p.1,p.2+1))+1=val (half p):=by omega
   rw [hvn,if_pos (by rw [hfl]; exact hrng.2)] at hnx
   have enx:mkA (lst (p.1,p.2+1)).1 (val (half p))=half p:=hy.1.ad.mk_val
   rw [enx] at hnx
   have ell:lst (half p,p.2+1)=lst p:=(ad_eq (lst_ok hy).ad (lst_ok hp).ad).2 ⟨rfl,by omega⟩
   have cx:=contains_p 1995 (p:=(p.1,p.2+1)) ha.ad
   have cy:=contains_p 1995 (p:=(half p,p.2+1)) ha.ad
   refine bindB hhv (bifF rfl (bindB v1 (bindB (bifT rfl v2) (bindB (bifT rfl v3) (letB (v:=false) rfl (bindB (bifT rfl v4) (letB (v:=false) rfl (bindB (bifT rfl cm) (letB (v:=false) rfl (bifF rfl (bindB lx (bindB hnx (letB (v:=true) ?_ (letB (v:=true) rfl (bindB (bifT rfl ly) (bindB (bifT rfl hlp) (letB (v:=true) ?_ (letB (v:=true) rfl (letB (v:=true) ?_ (letB (v:=true) rfl (bindB (bifT rfl cpa) (bindB (bifT rfl cx) (bindB (bC cy rfl) (letB (v:=true) ?_ (letB (v:=true) rfl (bindB (bifT rfl (awake' (by omega))) (letB rfl rfl)))))))))))))))))))))))))))
   · simp
   · rw [ell]; simp
   · simp
   · have key : cont p a = (cont (p.1, p.2 + 1) a || cont (half p, p.2 + 1) a) := by
       rw [Bool.eq_iff_iff,Bool.or_eq_true,cont_iff hp,cont_iff hx,cont_iff hy]
       show (a.1=p.1.1∧val p.1≤val a∧val a < val p.1+siz p)↔(a.1=p.1.1∧val p.1≤val a∧val a < val p.1+siz (p.1,p.2+1))∨(a.1=p.1.1∧val (half p)≤val a∧val a < val (half p)+siz (half p,p.2+1))
       by_cases hfa:a.1=p.1.1
       · simp only [hfa,true_and]; omega
       · simp [hfa]
     rw [key]
     cases cont (p.1,p.2+1) a <;> cases cont (half p,p.2+1) a <;> rfl
theorem fl_div {v w:Int} {k:Nat}:fl v k=fl w k↔v / 2 ^ k=w / 2 ^ k:=by
 unfold fl
 constructor
 · exact fun h=>Int.eq_of_mul_eq_mul_right (Int.ne_of_gt (p2 k)) h
 · intro h; rw [h]
/-- PrefixCommons. -/
theorem commons {l:List Int} (h:l.length≤9223372036854775807):n10 2000 l=some true:=by
 rw [e10]
 obtain ⟨p,d1,h1,hp,hd1⟩:=prefix_ok 1789 (DK0 h)
 obtain ⟨q,d2,h2,hq,hd2⟩:=prefix_ok 1789 hd1
 have hc:=common_p 1989 hp.1.ad hq.1.ad
 unfold com at hc
 rw [if_neg (by rw [(okP_iff hp.1.ad).2 hp,(okP_iff hq.1.ad).2 hq]; simp)] at hc
 by_cases hf:p.1.1=q.1.1
 case neg =>
  rw [if_pos hf] at hc
  have e:(true != (p.1.1==q.1.1))=true:=by simpa using hf
  exact bindB (new_eq _ _) (bindB h1 (bindB h2 (bindB hc (letB e (bifT rfl (bindB (bifT rfl (awake' (by omega))) (letB rfl rfl)))))))
 rw [if_neg (by simpa using hf)] at hc
 have e:(true != (p.1.1==q.1.1))=false:=by simpa using hf
 have hW:=W_cases p.1.1
 have hWq:W q.1.1=W p.1.1:=by rw [hf]
 have hcl:=cl_le p.1 q.1
 have p2n:=hp.2.1
 have q2n:=hq.2.1
 have p3n:=hp.2.2.1
 have q3n:=hq.2.2.1
 have m1:cmn p q≤cl p.1 q.1:=by unfold cmn; omega
 have m2:(cmn p q:Int)≤p.2:=by unfold cmn; omega
 have m3:(cmn p q:Int)≤q.2:=by unfold cmn; omega
 have mW:cmn p q≤W p.1.1:=by omega
 -- lengths that both share
 have share:∀ j:Nat,j≤W p.1.1→(j≤cl p.1 q.1↔fl (val p.1) (W p.1.1 - j)=fl (val q.1) (W p.1.1 - j)):=fun j hj=>by
  rw [cl_iff hp.1 hq.1 hf hj,fl_div]
 have maxm:∀ j:Nat,(j:Int)≤p.2→(j:Int)≤q.2→j≤cl p.1 q.1→j≤cmn p q:=fun j a b c=>by unfold cmn; omega
 have hfc:fst q.1 (cmn p q)=fst p.1 (cmn p q):=by
  unfold fst
  rw [hWq,← hf,(share _ mW).1 m1]
 have hcP:PK (fst p.1 (cmn p q),(cmn p q:Int)):=by
  have:=PK_fst hp.1 (n:=(cmn p q:Int)) (by omega) (by omega)
  rwa [Int.toNat_natCast] at this
 -- what a prefix of length j covers
 have covF:∀ (r x:Pf),PK x→PK r→(cov r x=true↔r.2≤x.2∧fst x.1 r.2.toNat=r.1):=fun r x hx hr=>by
  unfold cov cont
  rw [Bool.and_eq_true,decide_eq_true_eq,Bool.and_eq_true,decide_eq_true_eq,decide_eq_true_eq]
  constructor
  · rintro ⟨a,_,b⟩; exact ⟨a,b⟩
  · rintro ⟨a,b⟩
    have e1:x.1.1=r.1.1:=by rw [← b]; rfl
    exact ⟨a,⟨hr.2.1,by rw [e1]; exact hr.2.2.1⟩,b⟩
 generalize hcc:((fst p.1 (cmn p q),(cmn p q:Int)):Pf)=c at *
 have hc2:c.2=(cmn p q:Int):=by rw [← hcc]
 have hc1:c.1=fst p.1 (cmn p q):=by rw [← hcc]
 have hcn:c.2.toNat=cmn p q:=by omega
 have cp:cov c p=true:=(covF c p hp hcP).2 ⟨by omega,by rw [hcn,hc1]⟩
 have cq:cov c q=true:=(covF c q hq hcP).2 ⟨by omega,by rw [hcn,hc1,hfc]⟩
 have vcp:=covers_p 1994 (p:=c) (q:=p) hp.1.ad
 have vcq:=covers_p 1994 (p:=c) (q:=q) hq.1.ad
 rw [cp] at vcp
 rw [cq] at vcq
 have hhv:=halves_p 1989 (p:=c) hcP.1.ad
 refine bindB (new_eq _ _) (bindB h1 (bindB h2 (bindB hc (letB e (bifF rfl (bindB (bifT rfl vcp) (letB (v:=false) rfl (bindB (bifT rfl vcq) (letB (v:=false) rfl (bifF rfl (bindB hhv ?_)))))))))))
 -- nothing longer covers both
 have both:∀ r:Pf,PK r→r.2=(cmn p q:Int)+1→¬ (cov r p=true∧cov r q=true):=by
  rintro r hr hr2 ⟨k1,k2⟩
  obtain ⟨a1,a2⟩:=(covF r p hp hr).1 k1
  obtain ⟨b1,b2⟩:=(covF r q hq hr).1 k2
  have hn:r.2.toNat=cmn p q+1:=by omega
  rw [hn] at a2 b2
  have hv:=congrArg val (a2.trans b2.symm)
  rw [fst_val,fst_val,hWq] at hv
  have:=maxm (cmn p q+1) (by omega) (by omega) ((share _ (by omega)).2 hv)
  omega
 have tail:(aJy (false != (((c.1.1==p.1.1)&&((c.1.2.1==p.1.2.1)&&(c.1.2.2==p.1.2.2)))&&(c.2==p.2))) fun v19 =>
 (n30 1999 (p,q)).bind fun v20 =>
 aJy (false != (((c.1.1==q.1.1)&&((c.1.2.1==q.1.2.1)&&(c.1.2.2==q.1.2.2)))&&(c.2==q.2))) fun v21 =>
 (bif (false != (v19==v20)) then (n30 1999 (q,p)) else some false).bind fun v22 =>
 aJy (bif (false != (v19==v20)) then (false != (v21==v22)) else false) fun v23 =>
 (bif v23 then (n41 1999 (c,p)) else some (0:Int)).bind fun v24 =>
 aJy (bif v23 then (decide (v24≤(0:Int))) else false) fun v25 =>
 (bif v25 then (n15 1999 ()) else some false).bind fun v26 =>
 aJy (bif v25 then v26 else false) fun v27 =>
 some v27) = some true := by
  have peq:∀ x:Pf,(false != (((c.1.1==x.1.1)&&((c.1.2.1==x.1.2.1)&&(c.1.2.2==x.1.2.2)))&&(c.2==x.2)))=decide (c=x):=fun x=>by
   rw [aIF,ad_beq,Bool.eq_iff_iff,Bool.and_eq_true,decide_eq_true_eq,decide_eq_true_eq,beq_iff_eq]
   exact ⟨fun h=>Prod.ext h.1 h.2,fun h=>by rw [h]; exact ⟨rfl,rfl⟩⟩
  have eqp:decide (c=p)=cov p q:=by
   rw [Bool.eq_iff_iff,decide_eq_true_eq,covF p q hq hp]
   constructor
   · intro he
     have hm:(cmn p q:Int)=p.2:=by rw [← hc2,he]
     refine ⟨by omega,?_⟩
     rw [show p.2.toNat=cmn p q by omega,hfc,← hc1,he]
   · rintro ⟨a1,a2⟩
     have hv:=congrArg val a2
     rw [fst_val,hWq,← hp.2.2.2] at hv
     have hj:=(share p.2.toNat (by omega)).2 (by rw [hv])
     have hm:cmn p q=p.2.toNat:=Nat.le_antisymm (by omega) (maxm _ (by omega) (by omega) hj)
     refine Prod.ext ?_ (by rw [hc2,hm]; omega)
     rw [hc1,hm]
     exact (fst_eq_iff hp.1.ad _).2 hp.2.2.2
  have eqq:decide (c=q)=cov q p:=by
   rw [Bool.eq_iff_iff,decide_eq_true_eq,covF q p hp hq]
   constructor
   · intro he
     have hm:(cmn p q:Int)=q.2:=by rw [← hc2,he]
     refine ⟨by omega,?_⟩
     rw [show q.2.toNat=cmn p q by omega,← hc1,he]
   · rintro ⟨a1,a2⟩
     have hv:=congrArg val a2
     have hq4:=hq.2.2.2
     rw [hWq] at hq4
     rw [fst_val] at hv
     have hj:=(share q.2.toNat (by omega)).2 (by rw [hv,hq4])
     have hm:cmn p q=q.2.toNat:=Nat.le_antisymm (by omega) (maxm _ (by omega) (by omega) hj)
     refine Prod.ext ?_ (by rw [hc2,hm]; omega)
     rw [hc1,hm]
     exact a2
  have cm:=(cmp_p 1990 (p:=c) (q:=p) hcP.1.ad hp.1.ad).1
  have cmv:cmpP c p≤0:=by
   have hle:=(fl_le (val p.1) (W p.1.1 - cmn p q)).1
   have hvc:val c.1=fl (val p.1) (W p.1.1 - cmn p q):=by rw [hc1,fst_val]
   have hf1:c.1.1=p.1.1:=by rw [hc1]; rfl
   unfold cmpP cmpA sgn
   rw [if_pos hf1]
   split <;> split <;> (try split) <;> (try split) <;> omega
  refine letB (peq p) (bindB (covers_p 1994 hq.1.ad) (letB (peq q) (bindB (v:=cov q p) (bifT (by rw [eqp]; simp) (covers_p 1994 hp.1.ad)) (letB (v:=true) ?_ (bindB (bifT rfl cm) (letB (v:=true) (decide_eq_true cmv) (bindB (bifT rfl (awake' (by omega))) (letB rfl rfl))))))))
  rw [eqp,eqq]; simp
 unfold hlv
 rw [if_neg (by rw [(okP_iff hcP.1.ad).2 hcP]; simp)]
 by_cases hn:c.2=(W c.1.1:Int)
 · rw [if_pos hn]
   exact bindB (bifF rfl rfl) (bindB (bifF rfl rfl) (letB (v:=false) rfl (bindB (bifF rfl rfl) (bindB (bifF rfl rfl) (letB rfl (letB (v:=false) rfl (bifF rfl tail)))))))
 · rw [if_neg hn]
   obtain ⟨hx,hy,_⟩:=halves_ok hcP hn
   have b1:=both _ hx (by show c.2+1=_; omega)
   have b2:=both _ hy (by show c.2+1=_; omega)
   have x1:=covers_p 1994 (p:=(c.1,c.2+1)) (q:=p) hp.1.ad
   have x2:=covers_p 1994 (p:=(c.1,c.2+1)) (q:=q) hq.1.ad
   have y1:=covers_p 1994 (p:=(half c,c.2+1)) (q:=p) hp.1.ad
   have y2:=covers_p 1994 (p:=(half c,c.2+1)) (q:=q) hq.1.ad
   generalize cov (c.1,c.2+1) p=X1 at *
   generalize cov (c.1,c.2+1) q=X2 at *
   generalize cov (half c,c.2+1) p=Y1 at *
   generalize cov (half c,c.2+1) q=Y2 at *
   have nx:(bif X1 then X2 else false)=false:=by
    cases X1 <;> cases X2 <;> simp at b1 ⊢
   have ny:(bif Y1 then Y2 else false)=false:=by
    cases Y1 <;> cases Y2 <;> simp at b2 ⊢
   have g1:∀ {u:Bool} {A:Option Bool} {B:Bool},A=some B→(bif u then A else some false)=some (bif u then B else false):=fun {u A B} hA=>bC hA rfl
   refine bindB (bifT rfl x1) (bindB (v:=bif X1 then X2 else false) ?_ (letB (v:=false) ?_ (bindB (bifT rfl y1) (bindB (v:=bif Y1 then Y2 else false) ?_ (letB (v:=false) ?_ (letB (v:=false) rfl (bifF rfl tail)))))))
   · rw [show (X1&&((0:Int)==0))=X1 by simp]; exact g1 x2
   · cases X1 <;> cases X2 <;> simp at b1 ⊢
   · rw [show (Y1&&((!false)&&((0:Int)==0)))=Y1 by simp]; exact g1 y2
   · cases Y1 <;> cases Y2 <;> simp at b2 ⊢
end Go.Proofs.YtlgnmgbnbomckaaGreatDoor
