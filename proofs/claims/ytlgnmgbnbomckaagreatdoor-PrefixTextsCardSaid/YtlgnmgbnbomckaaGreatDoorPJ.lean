/- Chapter 02, plainly: what PrefixBack and PrefixTexts ask. -/
import Derived.Test.YtlgnmgbnbomckaaGreatDoorPI
import Derived.Test.YtlgnmgbnbomckaaGreatDoorPC
import Derived.Test.YtlgnmgbnbomckaaGreatDoorQL
import Derived.Test.YtlgnmgbnbomckaaGreatDoorNEL3
import Derived.Test.YtlgnmgbnbomckaaGreatDoorNEL5
namespace Go.Proofs.YtlgnmgbnbomckaaGreatDoor
open Go.VM Go.Txt
set_option maxRecDepth 10000
theorem pf_beq (p q:Pf):(((p.1.1==q.1.1)&&((p.1.2.1==q.1.2.1)&&(p.1.2.2==q.1.2.2)))&&(p.2==q.2))=decide (p=q):=by
 rw [ad_beq]
 obtain ⟨a,m⟩:=p
 obtain ⟨b,n⟩:=q
 by_cases h:a=b
 · by_cases k:m=n
   · subst h; subst k; simp
   · simp [k]
 · simp [h]
theorem txtP_inj {p q:Pf} (hp:PK p) (hq:PK q):(txtP p==txtP q)=decide (p=q):=by
 by_cases h:p=q
 · subst h; simp
 · rw [decide_eq_false h]
   refine beq_false_of_ne fun e=>h ?_
   have k:=parse_txtP hp
   rw [e,parse_txtP hq] at k
   exact (Prod.mk.inj k).1.symm
/-- PrefixBack. -/
theorem backP {l:List Int} (h:l.length≤9223372036854775807):n3 2000 l=some true:=by
 rw [e3]
 obtain ⟨p,d1,h1,hp,hd1⟩:=prefix_ok 1789 (DK0 h)
 obtain ⟨q,d2,h2,hq,hd2⟩:=prefix_ok 1789 hd1
 have op:=(okP_iff hp.1.ad).2 hp
 have a1:=print_p 1939 hp.1.ad
 have a2:=print_p 1939 hq.1.ad
 rw [if_pos op] at a1
 rw [if_pos ((okP_iff hq.1.ad).2 hq)] at a2
 have hl:=txtP_len (okP_rng hp.1.ad op)
 have k:=parse_p 1898 (t:=txtP p) (by omega) (by omega)
 rw [parse_txtP hp] at k
 refine bindB (new_eq _ _) (bindB h1 (bindB h2 (bindB a1 (bindB k (letB (v:=true) ?_ (letB (v:=true) rfl (bindB (bifT rfl a1) (bindB (bifT rfl a2) (letB (v:=decide (p=q)) ?_ (letB (v:=true) ?_ (bindB (bifT rfl (awake' (by omega))) (letB rfl rfl))))))))))))
 · show (false != _)=_
   rw [pf_beq,decide_eq_true rfl]; rfl
 · show (false != _)=_
   rw [pf_beq]
   cases decide (p=q) <;> rfl
 · show (false != _)=_
   rw [txtP_inj hp hq]
   cases decide (p=q) <;> rfl
/-- PrefixTexts. -/
theorem textsP {l:List Int} {t0:List UInt8} {raw:Pf} {at' by':Int} (h:l.length≤9223372036854775807) (hraw:AD raw.1):n5 2000 (t0,raw,l,at',by')=some true:=by
 rw [e5]
 by_cases h6:aJO t0 > 600
 · exact letB (v:=true) (decide_eq_true h6) (bifT rfl (bindB (awake' (by omega)) rfl))
 have ht0:t0.length≤600:=by unfold aJO at h6; omega
 obtain ⟨p,d1,h1,hp,hd1⟩:=prefix_ok 1789 (DK0 h)
 have op:=(okP_iff hp.1.ad).2 hp
 have a1:=print_p 1939 hp.1.ad
 have a2:=print_pr 1749 hp.1.ad
 rw [if_pos op] at a1 a2
 have b1:=print_p 1939 hraw
 have b2:=print_pr 1749 hraw
 have hl:=txtP_len (okP_rng hp.1.ad op)
 have hx:=txt_len p.1
 obtain ⟨r,hr,hr2⟩:=spoilt_ok 1997 (b:=iJ (txtP p)) (by unfold iJ; rw [List.length_map]; omega) at' by'
 have hr3:(aD8 r).length≤44:=by
  rw [aHs]
  have:(iJ (txtP p)).length=(txtP p).length:=by unfold iJ; rw [List.length_map]
  omega
 have hb:aBq (txtP p)=some (iJ (txtP p)):=if_pos (by omega)
 have hp1:=print_r 1899 hp.1.ad
 obtain ⟨m,hm,hm0,hm9⟩:=mod_ok 1998 (a:=at') (b:=9) (by omega) (by omega)
 refine letB (v:=false) (decide_eq_false h6) (bifF rfl (bindB (new_eq _ _) (bindB h1 (bindB a2 (bindB b1 (bindB b2 (bindB (bifT (by simp) a1) (letB (v:=false) (by simp) (bifF rfl (bindB hb (bindB hr (bindB (cat_ok (by simp; omega)) (bindB hp1 (bindB hp1 (bindB (cat_ok (by simp; omega)) (letB rfl (bindB hm ?_)))))))))))))))))
 obtain ⟨w,hw,hw2⟩:=idx_mem (l:=([([48]:List UInt8),([56]:List UInt8),([48,56]:List UInt8),([51,50]:List UInt8),([51,51]:List UInt8),([49,50,56]:List UInt8),([49,50,57]:List UInt8),([]:List UInt8),([57,57,57,57,57,57,57,57,57,57,57,57,57,57,57,57,57,57,57,57]:List UInt8)]:List (List UInt8))) hm0 hm9
 have hw3:w.length≤20:=by
  have:∀ w∈([([48]:List UInt8),([56]:List UInt8),([48,56]:List UInt8),([51,50]:List UInt8),([51,51]:List UInt8),([49,50,56]:List UInt8),([49,50,57]:List UInt8),([]:List UInt8),([57,57,57,57,57,57,57,57,57,57,57,57,57,57,57,57,57,57,57,57]:List UInt8)]:List (List UInt8)),w.length≤20:=by decide
  exact this w hw
 refine bindB hw2 (bindB (cat_ok (by simp; omega)) (letB rfl (jB ?_)))
 generalize hL:([t0,txtP p,aD8 r,txtP p++[48],txt p.1,txt p.1++[47]++w]:List (List UInt8))=L
 have hL6:L.length=6:=by rw [← hL]; rfl
 have hLm:∀ x∈L,x.length≤700:=by
  intro x hx2
  rw [← hL] at hx2
  simp only [List.mem_cons,List.not_mem_nil,or_false] at hx2
  rcases hx2 with rfl | rfl | rfl | rfl | rfl | rfl
  · omega
  · omega
  · omega
  · simp; omega
  · omega
  · simp; omega
 refine loopN_seq' (fun k=>((L,(6:Int),(k:Int)):(List (List UInt8)×(Int×Int)))) 6 (by unfold aJO; rw [hL6]; rfl) (fun k hk=>?_) ?_ (by omega)
 · have hx2:aEU L (k:Int)=some (L[k]'(by omega)):=aJo (by omega)
   have hlen:=hLm _ (List.getElem_mem (l:=L) (n:=k) (by omega))
   have k1:=parse_p 1898 (t:=L[k]'(by omega)) (by omega) (by omega)
   have k2:=parse_pr 1797 (t:=L[k]'(by omega)) (by omega) (by omega)
   refine bifT (decide_eq_true (show ((k:Int) < 6) by omega)) (bindB hx2 (bindB k1 (bindB k2 (letB (v:=false) ?_ (letB (v:=false) ?_ (bifF rfl (letB (v:=(k:Int)+1) (wv _ rfl (by omega) (by omega)) rfl)))))))
   · show (true != _)=_
     rw [pf_beq,decide_eq_true rfl]; rfl
   · show ((parseP _).2 != (parseP _).2)=false
     simp
 · exact bifF rfl (leaveB (bindB (awake' (by omega)) rfl))
end Go.Proofs.YtlgnmgbnbomckaaGreatDoor
