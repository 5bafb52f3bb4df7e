/- Chapter 01, plainly: what AddrTexts asks. -/
import Derived.Test.YtfglhfbnbdmhfaaGreatDoorQM
import Derived.Test.YtfglhfbnbdmhfaaGreatDoorQK
namespace Go.Proofs.YtfglhfbnbdmhfaaGreatDoor
open Go.VM Go.Txt
set_option maxRecDepth 10000
theorem spoilt_ok (N:Nat) {b:List Int} (hb:b.length≤1000) (at' by':Int):∃ r,n10 (N+2) (b,at',by')=some r∧r.length≤b.length+1:=by
  rw [e10]
  have h0:nApp 1 ([]:List Int) b=some b:=nApp_ok (l:=[]) (by simp only [List.length_nil]; omega) (by simp only [List.length_nil]; omega)
  by_cases he:b=[]
  · subst he
    exact ⟨_,bindB h0 (bifT rfl (letB rfl rfl)),by simp⟩
  have hl:0 < b.length:=List.length_pos_iff.2 he
  have hne:(nLen b==(0:Int))=false:=by unfold nLen; simp; exact he
  obtain ⟨k,hk,k0,k1⟩:=mod_ok N (a:=at') (b:=nLen b) (by unfold nLen; omega) (by unfold nLen; omega)
  unfold nLen at k1
  obtain ⟨q,hq,q0,q1⟩:=mod_ok N (a:=IntKind.i64.wrap (Int.tdiv by' 256)) (b:=4) (by omega) (by omega)
  obtain ⟨k,rfl⟩:=Int.eq_ofNat_of_zero_le k0
  have htk:nTake b (k:Int)=some (b.take k):=nTake_ok (by omega)
  have ltk:(b.take k).length≤b.length:=by rw [List.length_take]; omega
  by_cases h1:q=0
  · subst h1
    refine ⟨_,bindB h0 (bifF hne (bindB hk (letB rfl (bindB hq (bifT rfl (bindB (nIdx_lt (by omega)) (letB rfl rfl))))))),?_⟩
    rw [List.length_set]; omega
  by_cases h2:q=1
  · subst h2
    have hdp:nDrop b ((k+1:Nat):Int)=some (b.drop (k+1)):=nDrop_ok (by omega)
    have ldp:(b.drop (k+1)).length≤b.length:=by rw [List.length_drop]; omega
    refine ⟨b.take k++b.drop (k+1),bindB h0 (bifF hne (bindB hk (letB rfl (bindB hq (bifF rfl (bifT rfl (bindB htk (letB (v:=((k+1:Nat):Int)) (wv _ (by omega) (by omega) (by omega)) (bindB hdp (bindB (nApp_ok (by omega) (by omega)) rfl)))))))))),?_⟩
    rw [List.length_append,List.length_take,List.length_drop]; omega
  by_cases h3:q=2
  · subst h3
    have hdp:nDrop b (k:Int)=some (b.drop k):=nDrop_ok (by omega)
    have ldp:(b.drop k).length≤b.length:=by rw [List.length_drop]; omega
    have a1:nApp 1 ([]:List Int) (b.take k)=some (b.take k):=nApp_ok (l:=[]) (by simp only [List.length_nil]; omega) (by simp only [List.length_nil]; omega)
    refine ⟨b.take k++[IntKind.u8.wrap by']++b.drop k,bindB h0 (bifF hne (bindB hk (letB rfl (bindB hq (bifF rfl (bifF rfl (bifT rfl (bindB htk (bindB a1 (letB rfl (bindB (nApp_ok (by simp only [List.length_singleton]; omega) (by simp only [List.length_singleton]; omega)) (bindB hdp (bindB (nApp_ok (by simp only [List.length_append,List.length_singleton]; omega) (by simp only [List.length_append,List.length_singleton]; omega)) rfl))))))))))))),?_⟩
    simp only [List.length_append,List.length_singleton,List.length_take,List.length_drop]; omega
  · have b1:(q==0)=false:=by simpa using h1
    have b2:(q==1)=false:=by simpa using h2
    have b3:(q==2)=false:=by simpa using h3
    exact ⟨b.take k,bindB h0 (bifF hne (bindB hk (letB rfl (bindB hq (bifF b1 (bifF b2 (bifF b3 (bindB htk rfl)))))))),by omega⟩
theorem upper_ok (N:Nat) {a:Ad} (h:OkA a):∃ t,n11 (N+1) (txt a)=some t∧t.length≤39:=by
  have hl:=txt_len a
  rw [e11]
  have:=qUpper_ok (a:=txt a) ⟨by omega,List.all_eq_true.2 fun c hc=>by have:=txt_mem h hc; exact decide_eq_true (by omega)⟩
  exact ⟨_,this,by unfold Lib.toUpperA; rw [List.length_map]; exact hl⟩
theorem u64_of {x:Int} (h:IntKind.u64.min≤x∧x≤IntKind.u64.max):U64 x:=⟨h.1,Int.lt_of_le_of_lt h.2 (by decide)⟩
theorem texts {l:List Int} {t0:List UInt8} {raw:Ad} {at' by':Int} (h:l.length≤9223372036854775807) (hraw:AD raw):n3 2000 (t0,raw,l,at',by')=some true:=by
  rw [e3]
  by_cases h600:nLen t0 > 600
  · exact letB (v:=true) (decide_eq_true h600) (bifT rfl (bindB (awake' (by omega)) rfl))
  have ht0:t0.length≤600:=by unfold nLen at h600; omega
  obtain ⟨a,d1,h1,ha,hd1⟩:=addr_ok 1995 (DK0 h)
  obtain ⟨t1,d3,h3,ht1,hd3⟩:=deck_text 1959 hd1
  have pa:∀ {x:Ad},AD x→n8 1999 x=some (txt x):=fun hx=>print_ad 1959 hx
  have pr:∀ {x:Ad},AD x→n9 1999 x=some (txt x):=fun hx=>print_r 1899 hx
  have hl:=txt_len a
  have hbl:(nBytes (txt a)).length=(txt a).length:=by unfold nBytes; rw [List.length_map]
  have htb:nToBytes (txt a)=some (nBytes (txt a)):=if_pos (by omega)
  obtain ⟨r,hr,hrl⟩:=spoilt_ok 1997 (b:=nBytes (txt a)) (by omega) at' by'
  obtain ⟨u,hu,hul⟩:=upper_ok 1998 ha
  refine letB (v:=false) (decide_eq_false h600) (bifF rfl (bindB (new_eq _ _) (bindB h1 (bindB h3 (bindB (pa hraw) (bindB (pr hraw) (bindB (v:=txt a) ?_ (bindB (v:=txt a) ?_ (letB (v:=false) ?_ (bifF rfl (bindB (pr ha.ad) (bindB (pr ha.ad) (bindB htb (bindB hr (bindB (pr ha.ad) (bindB hu (letB rfl (jB ?_))))))))))))))))))
  · exact bifT (by simp) (pa ha.ad)
  · exact bifT (by simp) (pr ha.ad)
  · simp
  refine loopN_seq' (s:=fun k=>([t0,txt a,nStr r,t1,u],(5:Int),(k:Int))) 5 rfl (fun k hk=>?_) ?_ (m:=1999) (by omega)
  · have hx : ∃ t, nIdx [t0, txt a, nStr r, t1, u] (k : Int) = some t ∧ t.length ≤ 600 := by
      have:k=0∨k=1∨k=2∨k=3∨k=4:=by omega
      rcases this with rfl | rfl | rfl | rfl | rfl
      · exact ⟨t0,rfl,ht0⟩
      · exact ⟨txt a,rfl,by omega⟩
      · exact ⟨nStr r,rfl,by rw [nStr_length]; omega⟩
      · exact ⟨t1,rfl,by omega⟩
      · exact ⟨u,rfl,by omega⟩
    obtain ⟨t,hx,htl⟩:=hx
    obtain ⟨p1,_⟩:=parse_eq 1949 (t:=t) (by omega) (by omega)
    have p2:=rparse_ok 1998 (t:=t) (by omega) (by omega)
    have refl:∀ x:Ad,(true != ((x.1==x.1)&&((x.2.1==x.2.1)&&(x.2.2==x.2.2))))=false:=fun x=>by simp
    exact bifT (decide_eq_true (by show (k:Int) < 5; omega)) (bindB hx (bindB p1 (bindB p2 (letB (v:=false) (refl _) (letB (v:=false) (bifF rfl (bne_self_eq_false _)) (bifF rfl (letB (v:=(k:Int)+1) (wv _ rfl (by omega) (by omega)) rfl)))))))
  · exact bifF rfl (leaveB (bindB (awake' (by omega)) rfl))
end Go.Proofs.YtfglhfbnbdmhfaaGreatDoor
