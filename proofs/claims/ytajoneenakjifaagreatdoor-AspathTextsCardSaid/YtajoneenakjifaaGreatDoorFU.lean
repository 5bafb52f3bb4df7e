/- Chapter 15, plainly: the law of the texts. -/
import Derived.Test.YtajoneenakjifaaGreatDoorFT
import Derived.Test.YtajoneenakjifaaGreatDoorEF
import Derived.Test.YtajoneenakjifaaGreatDoorEP
namespace Go.Proofs.YtajoneenakjifaaGreatDoor
open Go.VM Go.Txt
set_option maxRecDepth 10000
theorem spoilt_ok (N:Nat) {b:List Int} (hb:b.length≤1000) (at' by':Int):∃ r,n10 (N+2) (b,at',by')=some r∧r.length≤b.length+1:=by
 rw [e10]
 have h0:aH3 1 ([]:List Int) b=some b:=aJm (l:=[]) (by simp only [List.length_nil]; omega) (by simp only [List.length_nil]; omega)
 by_cases he:b=[]
 · subst he
   exact ⟨_,bindB h0 (bifT rfl (letB rfl rfl)),by simp⟩
 have hl:0 < b.length:=List.length_pos_iff.2 he
 have hne:(aJO b==(0:Int))=false:=by unfold aJO; simp; exact he
 obtain ⟨k,hk,k0,k1⟩:=mod_ok N (a:=at') (b:=aJO b) (by unfold aJO; omega) (by unfold aJO; omega)
 unfold aJO at k1
 obtain ⟨q,hq,q0,q1⟩:=mod_ok N (a:=IntKind.i64.wrap (Int.tdiv by' 256)) (b:=4) (by omega) (by omega)
 obtain ⟨k,rfl⟩:=Int.eq_ofNat_of_zero_le k0
 have htk:aEV b (k:Int)=some (b.take k):=aJ0 (by omega)
 have ltk:(b.take k).length≤b.length:=by rw [List.length_take]; omega
 by_cases h1:q=0
 · subst h1
   refine ⟨_,bindB h0 (bifF hne (bindB hk (letB rfl (bindB hq (bifT rfl (bindB (aJo (by omega)) (letB rfl rfl))))))),?_⟩
   rw [List.length_set]; omega
 by_cases h2:q=1
 · subst h2
   have hdp:aEW b ((k+1:Nat):Int)=some (b.drop (k+1)):=aJ1 (by omega)
   have ldp:(b.drop (k+1)).length≤b.length:=by rw [List.length_drop]; omega
   refine ⟨b.take k++b.drop (k+1),bindB h0 (bifF hne (bindB hk (letB rfl (bindB hq (bifF rfl (bifT rfl (bindB htk (letB (v:=((k+1:Nat):Int)) (wv _ (by omega) (by omega) (by omega)) (bindB hdp (bindB (aJm (by omega) (by omega)) rfl)))))))))),?_⟩
   rw [List.length_append,List.length_take,List.length_drop]; omega
 by_cases h3:q=2
 · subst h3
   have hdp:aEW b (k:Int)=some (b.drop k):=aJ1 (by omega)
   have ldp:(b.drop k).length≤b.length:=by rw [List.length_drop]; omega
   have a1:aH3 1 ([]:List Int) (b.take k)=some (b.take k):=aJm (l:=[]) (by simp only [List.length_nil]; omega) (by simp only [List.length_nil]; omega)
   refine ⟨b.take k++[IntKind.u8.wrap by']++b.drop k,bindB h0 (bifF hne (bindB hk (letB rfl (bindB hq (bifF rfl (bifF rfl (bifT rfl (bindB htk (bindB a1 (letB rfl (bindB (aJm (by simp only [List.length_singleton]; omega) (by simp only [List.length_singleton]; omega)) (bindB hdp (bindB (aJm (by simp only [List.length_append,List.length_singleton]; omega) (by simp only [List.length_append,List.length_singleton]; omega)) rfl))))))))))))),?_⟩
   simp only [List.length_append,List.length_singleton,List.length_take,List.length_drop]; omega
 · have b1:(q==0)=false:=by simpa using h1
   have b2:(q==1)=false:=by simpa using h2
   have b3:(q==2)=false:=by simpa using h3
   exact ⟨b.take k,bindB h0 (bifF hne (bindB hk (letB rfl (bindB hq (bifF b1 (bifF b2 (bifF b3 (bindB htk rfl)))))))),by omega⟩
theorem print_n0 (N:Nat) (hN:100100 < N) {p:List Seg} (hm:Mid p) (hv:pvd p=false):n9 (N+20) p=some []:=by
 rw [e9]
 have hva:=valid_p (N+17) (by omega) hm.1 hm.2
 rw [hv] at hva
 exact bindB hva (bifT rfl rfl)
def prtV (p:List Seg):List UInt8:=if pvd p=true then prt p else []
theorem pr9 (N:Nat) (hN:100100 < N) {p:List Seg} (hm:Mid p):n9 (N+20) p=some (prtV p):=by
 unfold prtV
 cases h:pvd p with
 | true=>exact print_n N hN h
 | false=>exact print_n0 N hN hm h
theorem pr8 (N:Nat) (hN:100100 < N) {p:List Seg} (hm:Mid p):n8 (N+20) p=some (prtV p):=by
 unfold prtV
 cases h:pvd p with
 | true=>exact print_r N hN h
 | false=>exact print_r0 N hN hm h
theorem parse_mid (s:List UInt8):Mid (parseD s).1:=by
 rcases parseW_cases (foldW (Lib.fieldsD s) []) s with h | ⟨p,h1,_,h3⟩
 · unfold parseD
   rw [h]
   exact ⟨Nat.zero_le _,fun s hs=>by simp at hs⟩
 · unfold parseD
   rw [h3]
   exact ⟨by have:=pvd_sz h1; show p.length≤1000; omega,fun s hs=>by have:=pvd_len h1 s hs; omega⟩
theorem textsT (N:Nat) (hN:300000 < N) {s:List UInt8} {a1:List Seg} {a2:List Int} (a3 a4:Int) (h1:a1.length < N) (h11:a1.length≤9223372036854775807) (h2:a2.length≤9223372036854775807):n3 (N+40) (s,a1,a2,a3,a4)=some true:=by
 rw [e3]
 have haw:n5 (N+39) ()=some true:=awakeT (N+19) (by omega)
 by_cases hs:aJO s > 600
 · exact letB (v:=true) (decide_eq_true hs) (bindB (v:=false) rfl (letB (v:=true) rfl (bifT rfl (bindB haw rfl))))
 obtain ⟨b,hb,hbl⟩:=light_k (N+38) (by omega) h11
 cases b with
 | false=>exact letB (v:=false) (decide_eq_false hs) (bindB (v:=false) (bifT rfl hb) (letB (v:=true) rfl (bifT rfl (bindB haw rfl))))
 | true =>
  have hraw:Mid a1:=⟨by have:=(hbl rfl).1; omega,fun x hx=>by have:=(hbl rfl).2 x hx; omega⟩
  have ls:s.length≤600:=by unfold aJO at hs; omega
  obtain ⟨⟨p,d⟩,hp,hpv,hpl,_⟩:=path_k4 (N+34) (by omega) (DK0 h2)
  simp only at hpv hpl
  have hpm:Mid p:=⟨by omega,fun x hx=>by have:=pvd_len hpv.1 x hx; omega⟩
  have lt:=prt_len4 hpv hpl
  have ev:prtV p=prt p:=by unfold prtV; rw [if_pos hpv.1]
  have q8:=pr8 (N+19) (by omega) hpm
  have q9:=pr9 (N+19) (by omega) hpm
  rw [ev] at q8 q9
  refine letB (v:=false) (decide_eq_false hs) (bindB (v:=true) (bifT rfl hb) (letB (v:=false) rfl (bifF rfl (bindB (e6 (N+38) a2) (bindB hp (bindB q8 (bindB (pr9 (N+19) (by omega) hraw) (bindB (pr8 (N+19) (by omega) hraw) (bindB (v:=prt p) (bifT (by simp) q9) (letB (v:=false) (by simp) (bifF rfl ?_)))))))))))
  generalize prt p=t at *
  have hbl:(iJ t).length=t.length:=by unfold iJ; rw [List.length_map]
  have htb:aBq t=some (iJ t):=if_pos (by omega)
  obtain ⟨r,hr,hrl⟩:=spoilt_ok (N+37) (b:=iJ t) (by omega) a3 a4
  refine bindB htb (bindB hr (bindB (cat_ok (by simp; omega)) (bindB (cat_ok (by simp; omega)) (bindB (cat_ok (by simp; omega)) (bindB (cat_ok (by simp; omega)) (letB rfl (jB ?_)))))))
  generalize hts:([s,t,aD8 r,t++[32,55],t++[32,123,49,125],[123]++t++[125],[49,32,123,51,44,50,125],[48,49]]:List (List UInt8))=ts
  have hlen:∀ w∈ts,w.length≤900:=by
   subst hts
   intro w hw
   simp only [List.mem_cons,List.not_mem_nil,or_false] at hw
   rcases hw with rfl | rfl | rfl | rfl | rfl | rfl | rfl | rfl
   · omega
   · omega
   · rw [aHs]; omega
   all_goals (simp; try omega)
  have ln:ts.length=8:=by subst hts; rfl
  refine loopN_seq' (fun i=>((ts,aJO ts,(i:Int)):(List (List UInt8)×(Int×Int)))) 8 rfl (fun i hi=>?_) ?_ (by omega)
  · have hi':i < ts.length:=by omega
    have hx:=aJo hi'
    have hw:=hlen _ (List.getElem_mem hi')
    generalize ts[i]=x at hx hw
    have p1:n11 (N+39) x=some (parseD x):=by
     rw [e11]; unfold gParse; rw [if_pos (by omega)]
    have p2:n12 (N+39) x=some (parseD x):=by
     rw [e12]; unfold gRef; rw [if_pos hw,ref_parse]
    obtain ⟨c,hc,hci⟩:=same_k (N+38) (p:=(parseD x).1) (q:=(parseD x).1) (by omega) (parse_mid x) (parse_mid x)
    obtain rfl:c=true:=hci.2 rfl
    exact bifT (decide_eq_true (show (i:Int) < aJO ts by unfold aJO; omega)) (bindB hx (bindB p1 (bindB p2 (bindB hc (letB (v:=false) (bifF rfl (bne_self_eq_false _)) (bifF rfl (letB (v:=((i+1:Nat):Int)) (wv _ (show (i:Int)+1=((i+1:Nat):Int) by omega) (by omega) (by omega)) rfl)))))))
  · exact bifF (decide_eq_false (show ¬ ((8:Nat):Int) < aJO ts by unfold aJO; omega)) (leaveB (bindB haw rfl))
theorem textsU (s:List UInt8) (a1:List Seg) (a2:List Int) (a3 a4:Int) (h11:a1.length≤9223372036854775807) (h2:a2.length≤9223372036854775807):n3 (a1.length+300001+40) (s,a1,a2,a3,a4)=some true:=textsT _ (by omega) a3 a4 (by omega) h11 h2
end Go.Proofs.YtajoneenakjifaaGreatDoor
