/- Chapter 02, plainly: what prefixes contain, as intervals; the laws of bits and spans. -/
import Derived.Test.YtlgnmgbnbomckaaGreatDoorPD
import Derived.Test.YtlgnmgbnbomckaaGreatDoorNEL4
import Derived.Test.YtlgnmgbnbomckaaGreatDoorNEL7
namespace Go.Proofs.YtlgnmgbnbomckaaGreatDoor
open Go.VM
set_option maxRecDepth 10000
/-- The size of a prefix. -/
def siz (p:Pf):Int:=2 ^ (W p.1.1 - p.2.toNat)
theorem siz_pos (p:Pf):0 < siz p:=p2 _
theorem lst_siz (p:Pf):val (lst p)=val p.1+siz p - 1:=by rw [lst_val]; unfold siz; omega
theorem cont_iff {p:Pf} {a:Ad} (h:PK p):cont p a=true↔a.1=p.1.1∧val p.1≤val a∧val a < val p.1+siz p:=by
 obtain ⟨h1,h2,h3,h4⟩:=h
 have hd:(2:Int) ^ (W p.1.1 - p.2.toNat)∣val p.1:=by rw [← h4]; exact fl_dvd _ _
 unfold cont siz
 rw [Bool.and_eq_true,decide_eq_true_eq,decide_eq_true_eq]
 constructor
 · rintro ⟨⟨_,_⟩,h6⟩
   have e1:a.1=p.1.1:=by rw [← h6]; rfl
   have e2:fl (val a) (W p.1.1 - p.2.toNat)=val p.1:=by
    rw [← e1,← fst_val,h6]
   exact ⟨e1,(fl_uniq hd).1 e2⟩
 · rintro ⟨e1,e2⟩
   refine ⟨by rw [e1]; exact ⟨h2,h3⟩,?_⟩
   unfold fst
   rw [e1,(fl_uniq hd).2 e2,h1.ad.mk_val]
theorem cont_false {p:Pf} {a:Ad} (h:PK p) (h2:¬ (a.1=p.1.1∧val p.1≤val a∧val a < val p.1+siz p)):cont p a=false:=by
 cases hc:cont p a with
 | false=>rfl
 | true=>exact absurd ((cont_iff h).1 hc) h2
theorem cov_iff {p q:Pf} (h:PK p):cov p q=true↔p.2≤q.2∧q.1.1=p.1.1∧val p.1≤val q.1∧val q.1 < val p.1+siz p:=by
 unfold cov
 rw [Bool.and_eq_true,decide_eq_true_eq,cont_iff h]
theorem siz_le {p q:Pf} (h:PK p) (hq:PK q) (h1:p.2≤q.2) (hf:q.1.1=p.1.1):∃ m:Int,siz p=siz q * m∧1≤m:=by
 unfold siz
 rw [hf]
 obtain ⟨_,a2,_,_⟩:=h
 have:=hq.2.1
 refine ⟨2 ^ (q.2.toNat - p.2.toNat),?_,?_⟩
 · have:=hq.2.2.1
   rw [hf] at this
   rw [← Int.pow_add]; congr 1; omega
 · exact p2 _
/-- Blocks: one in another one,or apart. -/
theorem block {p q:Pf} (h:PK p) (hq:PK q) (h1:p.2≤q.2) (hf:q.1.1=p.1.1) (hx:val p.1≤val q.1) (hy:val q.1 < val p.1+siz p):val q.1+siz q≤val p.1+siz p:=by
 obtain ⟨m,hm,_⟩:=siz_le h hq h1 hf
 have hd:∀ {r:Pf},PK r→∃ c,val r.1=siz r * c:=fun {r} hr=>by
  obtain ⟨c,hc⟩:=fl_dvd (val r.1) (W r.1.1 - r.2.toNat)
  rw [hr.2.2.2] at hc
  exact ⟨c,hc⟩
 obtain ⟨c,hc⟩:=hd h
 obtain ⟨d,hd⟩:=hd hq
 have hs:=siz_pos q
 rw [hm,Int.mul_assoc] at hc
 rw [hc,hm,← Int.mul_add] at hy ⊢
 rw [hd] at hy ⊢
 have h3:d < m * c+m:=Int.lt_of_mul_lt_mul_left hy (Int.le_of_lt hs)
 have h4:siz q * (d+1)≤siz q * (m * c+m):=Int.mul_le_mul_of_nonneg_left (by omega) (Int.le_of_lt hs)
 rw [Int.mul_add,Int.mul_one] at h4
 exact h4
theorem next_r (N:Nat) {a:Ad} (h:OkA a):n20 (N+2) a=some (if val a+1 < lim a.1 then (mkA a.1 (val a+1),true) else ((false,0,0),false)):=by
 obtain ⟨f,x,y⟩:=a
 obtain ⟨⟨h1,h2⟩,⟨h3,h4⟩,h5⟩:=h
 simp only at h1 h2 h3 h4 h5
 rw [e20]
 simp only [↓aKO,aJY,aJz]
 simp only [aJJ,val,lim,mkA]
 cases f with
 | true =>
  simp only [if_true,beq_iff_eq,Bool.true_or,Bool.not_true,Bool.false_eq_true,if_false]
  by_cases hy:(y+1) % 18446744073709551616=0
  · have hy':y=18446744073709551615:=by omega
    subst hy'
    by_cases hx:(x+1) % 18446744073709551616=0
    · have hx':x=18446744073709551615:=by omega
      subst hx'
      rfl
    · have e1:(x+1) % 18446744073709551616=x+1:=by omega
      have e2:(x * 18446744073709551616+18446744073709551615+1) / 18446744073709551616=x+1:=by omega
      have e3:(x * 18446744073709551616+18446744073709551615+1) % 18446744073709551616=0:=by omega
      have e4:x * 18446744073709551616+18446744073709551615+1 < 340282366920938463463374607431768211456:=by omega
      have e5:¬ x+1=0:=by omega
      simp [e1,e2,e3,e4,e5]
  · have e1:(y+1) % 18446744073709551616=y+1:=by omega
    have e2:(x * 18446744073709551616+y+1) / 18446744073709551616=x:=by omega
    have e3:(x * 18446744073709551616+y+1) % 18446744073709551616=y+1:=by omega
    have e4:x * 18446744073709551616+y+1 < 340282366920938463463374607431768211456:=by omega
    have e5:¬ y+1=0:=by omega
    simp [e1,e2,e3,e4,e5]
 | false =>
  obtain ⟨h6,h7⟩:=h5 rfl
  subst h6
  have e1:(y+1) % 18446744073709551616=y+1:=by omega
  have e2:(0 * 18446744073709551616+y+1) / 18446744073709551616=0:=by omega
  have e3:(0 * 18446744073709551616+y+1) % 18446744073709551616=y+1:=by omega
  have e5:¬ y+1=0:=by omega
  simp only [Bool.false_eq_true,if_false,e1,e2,e3,beq_iff_eq,e5,Bool.not_false,if_true]
  by_cases h8:y+1 < 4294967296
  · have h9:¬ y+1≥4294967296:=by omega
    have h10:0 * 18446744073709551616+y+1 < 4294967296:=by omega
    simp [h8,h9,h10]
  · have h9:y+1≥4294967296:=by omega
    have h10:¬ 0 * 18446744073709551616+y+1 < 4294967296:=by omega
    simp [h8,h9,h10]
theorem cmpA_le {a b:Ad} (h:a.1=b.1):cmpA a b≤0↔val a≤val b:=by
 unfold cmpA sgn
 rw [if_pos h]
 split <;> (try split) <;> omega
/-- PrefixSpan. -/
theorem span {l:List Int} (h:l.length≤9223372036854775807):n4 2000 l=some true:=by
 rw [e4]
 obtain ⟨p,d1,h1,hp,hd1⟩:=prefix_ok 1789 (DK0 h)
 obtain ⟨a,d2,h2,ha,hd2⟩:=addr_ok 1995 hd1
 have hl:=lst_ok hp
 refine bindB (new_eq _ _) (bindB h1 (bindB h2 (bindB (last_p 1994 hp) (letB rfl (jB ?_)))))
 refine loopN_seq' (s:=fun k=>(p,lst p,[a,p.1,lst p],(3:Int),(k:Int))) 3 rfl (fun k hk=>?_) ?_ (m:=1999) (by omega)
 · have hx : ∃ x, aEU [a, p.1, lst p] (k : Int) = some x ∧ OkA x := by
     have:k=0∨k=1∨k=2:=by omega
     rcases this with rfl | rfl | rfl
     · exact ⟨a,rfl,ha⟩
     · exact ⟨p.1,rfl,hp.1⟩
     · exact ⟨lst p,rfl,hl⟩
   obtain ⟨x,hx,ho⟩:=hx
   have c1:=(cmp_eq 1991 hp.1.ad ho.ad).2
   have c2:=(cmp_eq 1991 ho.ad hl.ad).2
   have cc:=contains_p 1995 (p:=p) ho.ad
   have hs:=siz_pos p
   have lv:=lst_siz p
   have lf:(lst p).1=p.1.1:=rfl
   refine letB (v:=true) (decide_eq_true (by show (k:Int) < 3; omega)) (bifT rfl (bindB hx (letB (v:=(x.1==p.1.1)) (aIF _) (bindB (bC c1 rfl) (letB rfl (bindB (bC c2 rfl) (letB rfl (bindB cc ?_))))))))
   refine bifF ?_ (bindB (next_r 1997 ho) (letB (v:=decide (x=lst p)) (by rw [aIF]; exact ad_beq x (lst p)) (letB rfl ?_)))
   · by_cases hf:x.1=p.1.1
     · have e:(x.1==p.1.1)=true:=by simpa using hf
       rw [e]
       have q1:=cmpA_le (a:=p.1) (b:=x) hf.symm
       have q2:=cmpA_le (a:=x) (b:=lst p) hf
       show (true != (cont p x==(bif (bif true then decide ((bif true then cmpA p.1 x else 0)≤0) else false) then decide ((bif (bif true then decide ((bif true then cmpA p.1 x else 0)≤0) else false) then cmpA x (lst p) else 0)≤0) else false)))=false
       simp only [aKJ]
       by_cases r1:cmpA p.1 x≤0
       · rw [decide_eq_true r1]
         simp only [aKJ]
         by_cases r2:cmpA x (lst p)≤0
         · rw [decide_eq_true r2,(cont_iff hp).2 ⟨hf,by omega,by omega⟩]; rfl
         · rw [decide_eq_false r2,cont_false hp (by omega)]; rfl
       · rw [decide_eq_false r1,cont_false hp (by omega)]; rfl
     · have e:(x.1==p.1.1)=false:=by simpa using hf
       rw [e,cont_false hp (fun h=>hf h.1)]
       rfl
   · by_cases hlim:val x+1 < lim x.1
     · rw [if_pos hlim]
       have hn:OkA (mkA x.1 (val x+1)):=OkA.mk (by have:=ho.rng; omega) hlim
       have hcn:=contains_p 1995 (p:=p) hn.ad
       refine bindB (bC hcn rfl) (letB (v:=false) ?_ (bifF rfl (letB (v:=((k+1:Nat):Int)) (wv _ (by show (k:Int)+1=_; omega) (by omega) (by omega)) rfl)))
       by_cases he:x=lst p
       · have:cont p (mkA x.1 (val x+1))=false:=cont_false hp (by rw [val_mk,he]; omega)
         rw [this]
         show (bif (bif true then decide (x=lst p) else false) then (bif (bif true then decide (x=lst p) else false) then false else false) else false)=false
         cases decide (x=lst p) <;> rfl
       · show (bif (bif true then decide (x=lst p) else false) then _ else false)=false
         rw [decide_eq_false he]; rfl
     · rw [if_neg hlim]
       exact bindB (bifF rfl rfl) (letB (v:=false) rfl (bifF rfl (letB (v:=((k+1:Nat):Int)) (wv _ (by show (k:Int)+1=_; omega) (by omega) (by omega)) rfl)))
 · exact letB (v:=false) rfl (bifF rfl (leaveB (bindB (awake' (by omega)) rfl)))
theorem jW {R α:Type} {k:α→Option R} (b:Bool) (f:Int→α) {r:Option R} (h:k (f (W b:Int))=r):aBJ k (fun j=>bif b then j (f 128) else j (f 32))=r:=by cases b <;> exact jB h
/-- PrefixBits. -/
theorem bitsL {l:List Int} {n0:Int} (h:l.length≤9223372036854775807):n7 2000 (l,n0)=some true:=by
 rw [e7]
 obtain ⟨a,d2,h2,ha,hd2⟩:=addr_ok 1995 (DK0 h)
 have hW:=W_cases a.1
 refine bindB (new_eq _ _) (bindB h2 (jW a.1 (fun w=>(n0,a,w)) ?_))
 have w1:IntKind.i64.wrap ((W a.1:Int)+1)=(W a.1:Int)+1:=wv _ rfl (by omega) (by omega)
 obtain ⟨n,hn,hn0,hn1⟩:=mod_ok 1998 (a:=n0) (b:=(W a.1:Int)+1) (by omega) (by omega)
 obtain ⟨n,rfl⟩:=Int.eq_ofNat_of_zero_le hn0
 have hmk:mkP a (n:Int)=((fst a n,(n:Int)),0):=by rw [mkP_ok ha hn0 (by omega),Int.toNat_natCast]
 have hm:=make_p 1995 ha.ad (n:Int)
 rw [hmk] at hm
 have hP:PK (fst a n,(n:Int)):=by
  have:=PK_fst ha hn0 (by omega)
  rwa [Int.toNat_natCast] at this
 have hc:cont (fst a n,(n:Int)) a=true:=by
  unfold cont
  rw [decide_eq_true (show (0:Int)≤n∧(n:Int)≤(W a.1:Int) by omega)]
  exact decide_eq_true (by rw [Int.toNat_natCast])
 have hcp:=contains_p 1995 (p:=(fst a n,(n:Int))) ha.ad
 rw [hc] at hcp
 have hv:=valid_p 1995 (p:=(fst a n,(n:Int))) hP.1.ad
 rw [(okP_iff hP.1.ad).2 hP] at hv
 refine letB w1 (bindB hn (bindB hm (letB (v:=false) (by show (bif ((0:Int) != 0) then true else ((n:Int) != n))=false; simp) (bindB (bifT rfl hcp) (letB (v:=false) rfl (bifF rfl (jB ?_)))))))
 refine loopN_seq' (s:=fun k=>((n:Int),a,((fst a n,(n:Int)):Pf),(W a.1:Int),(k:Int))) (W a.1) rfl (fun k hk=>?_) ?_ (m:=1999) (by omega)
 · have b1:=bit_p 1997 (a:=fst a n) hP.1.ad (i:=(k:Int)) (by omega)
   have b2:=bit_p 1997 (a:=a) ha.ad (i:=(k:Int)) (by omega)
   have b3:=bit_p 1997 (a:=lst (fst a n,(n:Int))) (lst_ok hP).ad (i:=(k:Int)) (by omega)
   have vb1:bitA (fst a n) (k:Int)=bitI (fl (val a) (W a.1 - n)) (W a.1 - 1 - k):=by
    unfold bitA
    rw [if_pos ⟨by omega,by show (k:Int) < (W a.1:Int); omega⟩,fst_val,Int.toNat_natCast]; rfl
   have vb2:bitA a (k:Int)=bitI (val a) (W a.1 - 1 - k):=by
    unfold bitA
    rw [if_pos ⟨by omega,by omega⟩,Int.toNat_natCast]
   have vb3:bitA (lst (fst a n,(n:Int))) (k:Int)=bitI (fl (val a) (W a.1 - n)+(2 ^ (W a.1 - n) - 1)) (W a.1 - 1 - k):=by
    unfold bitA
    rw [if_pos ⟨by omega,by show (k:Int) < (W a.1:Int); omega⟩,lst_val,fst_val,Int.toNat_natCast]; rfl
   have hinc:IntKind.i64.wrap ((k:Int)+1)=((k+1:Nat):Int):=wv _ (by omega) (by omega) (by omega)
   by_cases hlt:k < n
   · have e1:decide ((k:Int) < (n:Int))=true:=decide_eq_true (by omega)
     have e2:decide ((k:Int)≥(n:Int))=false:=decide_eq_false (by omega)
     have same:bitA (fst a n) (k:Int)=bitA a (k:Int):=by
      rw [vb1,vb2,bit_fl,if_pos (by omega)]
     refine letB (v:=true) (decide_eq_true (by show (k:Int) < (W a.1:Int); omega)) (bifT rfl (letB e1 (bindB (bifT rfl b1) (bindB (bifT rfl b2) (letB (v:=false) (bifT rfl (by rw [same]; exact bne_self_eq_false _)) (letB e2 (bindB (bifF rfl rfl) (letB (v:=false) rfl (letB e2 (bindB (bifF rfl rfl) (bindB (bifF rfl rfl) (letB (v:=false) rfl (letB (v:=false) rfl (bifF rfl (letB hinc rfl)))))))))))))))
   · have e1:decide ((k:Int) < (n:Int))=false:=decide_eq_false (by omega)
     have e2:decide ((k:Int)≥(n:Int))=true:=decide_eq_true (by omega)
     have z:bitA (fst a n) (k:Int)=0:=by rw [vb1,bit_fl,if_neg (by omega)]
     have o:bitA (lst (fst a n,(n:Int))) (k:Int)=1:=by rw [vb3]; exact bit_ones _ _ _ (by omega)
     rw [z] at b1
     rw [o] at b3
     refine letB (v:=true) (decide_eq_true (by show (k:Int) < (W a.1:Int); omega)) (bifT rfl (letB e1 (bindB (bifF rfl rfl) (bindB (bifF rfl rfl) (letB (v:=false) rfl (letB e2 (bindB (bifT rfl b1) (letB (v:=false) rfl (letB e2 (bindB (bifT rfl (last_p 1994 hP)) (bindB (bifT rfl b3) (letB (v:=false) rfl (letB (v:=false) rfl (bifF rfl (letB hinc rfl)))))))))))))))
 · exact letB (v:=false) (decide_eq_false (by show ¬ ((W a.1:Int) < (W a.1:Int)); omega)) (bifF rfl (leaveB (bindB hv (bindB (bifT rfl (awake' (by omega))) rfl))))
end Go.Proofs.YtlgnmgbnbomckaaGreatDoor
