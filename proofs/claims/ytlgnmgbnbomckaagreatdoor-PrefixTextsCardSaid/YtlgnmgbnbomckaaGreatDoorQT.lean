/- Chapter 01, plainly: addresses printed. -/
import Derived.Test.YtlgnmgbnbomckaaGreatDoorQG
namespace Go.Proofs.YtlgnmgbnbomckaaGreatDoor
open Go.VM Go.Txt
set_option maxRecDepth 10000
theorem join_len {c:UInt8} {m:Nat}:∀ {ws:List (List UInt8)},(∀ w∈ws,w.length≤m)→(Lib.join ws [c]).length≤ws.length * (m+1)
 | [],_=>Nat.zero_le _
 | [w],h=>by
  rw [Lib.join_one]
  have:=h w (List.mem_singleton.2 rfl)
  simp only [List.length_singleton]; omega
 | x::y::r,h=>by
  have ih:=join_len (c:=c) (ws:=y::r) fun w hw=>h w (List.mem_cons_of_mem _ hw)
  have hx:=h x (List.mem_cons_self ..)
  rw [join_cons2,List.length_append,List.length_cons,List.length_cons (a:=x),Nat.add_mul,Nat.one_mul]
  omega
theorem hexL_rng {g:Int} (h0:0≤g) (h1:g < 65536):∀ x∈hexL g,(48≤x∧x≤57)∨(97≤x∧x≤102):=by
 intro x hx
 rcases List.mem_cons.1 hx with rfl | hx
 · exact hexI_rng (nd_end h0 h1)
 · exact dg_rng _ _ x hx
theorem hexL_length (g:Int):1≤(hexL g).length∧(hexL g).length≤4:=by
 have:=nd_le g
 rw [hexL,List.length_cons,dg_length]; omega
theorem hexW_length (g:Int):1≤(hexW g).length∧(hexW g).length≤4:=by rw [hexW,aHs]; exact hexL_length g
theorem hexW_mem {g:Int} (h0:0≤g) (h1:g < 65536) {c:UInt8} (h:c∈hexW g):(48≤c.toNat∧c.toNat≤57)∨(97≤c.toNat∧c.toNat≤102):=by
 obtain ⟨x,hx,rfl⟩:=List.mem_map.1 h
 have:=hexL_rng h0 h1 x hx
 rw [UInt8.toNat_ofNat']
 omega
theorem hexW_no {g:Int} (h0:0≤g) (h1:g < 65536) {c:UInt8} (hc:c.toNat < 48∨c.toNat=58):c∉hexW g:=fun h=>by
 have:=hexW_mem h0 h1 h
 omega
def J (l:List Int):List UInt8:=Lib.join (l.map hexW) [58]
theorem hexs_eq (N:Nat) {l:List Int} (hl:l.length≤8) (hr:∀ g∈l,0≤g∧g < 65536):n75 (N+20) l=some (J l):=by
 rw [e75]
 refine jB ?_
 refine loopN_seq' (s:=fun k=>((l.take k).map hexW,l,aJO l,(k:Int))) l.length ?_ (fun k hk=>?_) ?_ (by omega)
 · simp
 · have hd:((k:Int) < aJO l):=by unfold aJO; omega
   have hg:=hr _ (List.getElem_mem hk)
   refine letB (v:=true) (decide_eq_true hd) (bifT rfl (bindB (aJo hk) (bindB (hex_eq (N+7) hg.1 hg.2) (bindB (v:=(l.take (k+1)).map hexW) ?_ (letB (v:=(k:Int)+1) (wv _ rfl (by omega) (by omega)) rfl)))))
   have:=aJm (b:=16) (l:=(l.take k).map hexW) (m:=[hexW l[k]]) (by simp only [List.length_map,List.length_take,List.length_singleton]; omega) (by simp only [List.length_map,List.length_take,List.length_singleton]; omega)
   rw [List.take_add_one,List.getElem?_eq_getElem hk,Option.toList_some,List.map_append]
   exact this
 · have hd:¬ ((l.length:Int) < aJO l):=by unfold aJO; omega
   refine letB (v:=false) (decide_eq_false hd) (bifF rfl (leaveB (bindB (v:=J l) ?_ rfl)))
   show n72 (N+19) ((l.take l.length).map hexW,[58])=_
   rw [List.take_length,e72,aIs]
   have:=join_len (c:=58) (m:=4) (ws:=l.map hexW) fun w hw=>by
    obtain ⟨g,_,rfl⟩:=List.mem_map.1 hw
    exact (hexW_length g).2
   rw [List.length_map] at this
   simp only
   rw [if_pos ⟨by rw [List.length_map]; omega,by omega⟩]
   rfl
theorem J_len (l:List Int):(J l).length≤l.length * 5:=by
 have:=join_len (c:=58) (m:=4) (ws:=l.map hexW) fun w hw=>by
  obtain ⟨g,_,rfl⟩:=List.mem_map.1 hw
  exact (hexW_length g).2
 rwa [List.length_map] at this
def txt6 (v:Int):List UInt8 :=
 if (lgM (zs (gsL v)) 8).2=0 then J (gsL v) else J ((gsL v).take (lgM (zs (gsL v)) 8).1)++([58,58]++J ((gsL v).drop ((lgM (zs (gsL v)) 8).1+(lgM (zs (gsL v)) 8).2)))
def J4 (l:List Int):List UInt8:=Lib.join (l.map Lib.itoa) [46]
def txt (a:Ad):List UInt8:=if a.1 then txt6 (val a) else J4 (bytesA a)
theorem itoa_fact {n:Int} (h:0≤n∧n≤255):1≤(Lib.itoa n).length∧(Lib.itoa n).length≤3∧((Lib.itoa n).all fun c=>decide (48≤c.toNat∧c.toNat≤57))=true∧Lib.atoiAll (Lib.itoa n)=.ok n:=by
 obtain ⟨k,rfl⟩:=Int.eq_ofNat_of_zero_le h.1
 have:∀ k:Fin 256,1≤(Lib.itoa (k.val:Int)).length∧(Lib.itoa (k.val:Int)).length≤3∧((Lib.itoa (k.val:Int)).all fun c=>decide (48≤c.toNat∧c.toNat≤57))=true∧Lib.atoiAll (Lib.itoa (k.val:Int))=.ok (k.val:Int):=by decide +kernel
 exact this ⟨k,by omega⟩
theorem print4 (N:Nat) {l:List Int} (hl:l.length≤4) (hb:Bs l):(eG (N+10) (fun (p4:(List (List UInt8)×(List (Int)×(Int×Int)))) =>
 aJy (decide (p4.2.2.2 < p4.2.2.1)) fun v5 =>
 bif v5 then ((aEU p4.2.1 p4.2.2.2).bind fun v6 =>
 (n48 (N+10) (IntKind.i64.wrap v6)).bind fun v7 =>
 (aH3 16 p4.1 ([v7]:List (List UInt8))).bind fun v8 =>
 aJy (IntKind.i64.wrap (p4.2.2.2+(1:Int))) fun v9 =>
 tN (v8,p4.2.1,p4.2.2.1,v9)) else (lJ ((n72 (N+10) (p4.1,([46]:List UInt8))).bind fun v3 =>
 some v3))) (([]:List (List UInt8)),l,(aJO l),(0:Int)))=some (J4 l):=by
 refine loopN_seq' (s:=fun k=>((l.take k).map Lib.itoa,l,aJO l,(k:Int))) l.length ?_ (fun k hk=>?_) ?_ (by omega)
 · simp
 · have hd:((k:Int) < aJO l):=by unfold aJO; omega
   have hg:=hb _ (List.getElem_mem hk)
   have hi:n48 (N+10) (IntKind.i64.wrap l[k])=some (Lib.itoa l[k]):=by
    rw [pV (by omega) (by omega),e48]; exact aJ6 ⟨by omega,by omega⟩
   refine letB (v:=true) (decide_eq_true hd) (bifT rfl (bindB (aJo hk) (bindB hi (bindB (v:=(l.take (k+1)).map Lib.itoa) ?_ (letB (v:=(k:Int)+1) (wv _ rfl (by omega) (by omega)) rfl)))))
   have:=aJm (b:=16) (l:=(l.take k).map Lib.itoa) (m:=[Lib.itoa l[k]]) (by simp only [List.length_map,List.length_take,List.length_singleton]; omega) (by simp only [List.length_map,List.length_take,List.length_singleton]; omega)
   rw [List.take_add_one,List.getElem?_eq_getElem hk,Option.toList_some,List.map_append]
   exact this
 · have hd:¬ ((l.length:Int) < aJO l):=by unfold aJO; omega
   refine letB (v:=false) (decide_eq_false hd) (bifF rfl (leaveB (bindB (v:=J4 l) ?_ rfl)))
   show n72 (N+10) ((l.take l.length).map Lib.itoa,[46])=_
   rw [List.take_length,e72,aIs]
   have:=join_len (c:=46) (m:=3) (ws:=l.map Lib.itoa) fun w hw=>by
    obtain ⟨g,hg,rfl⟩:=List.mem_map.1 hw
    exact (itoa_fact (hb g hg)).2.1
   rw [List.length_map] at this
   simp only
   rw [if_pos ⟨by rw [List.length_map]; omega,by omega⟩]
   rfl
theorem print_ad (N:Nat) {a:Ad} (h:AD a):n47 (N+40) a=some (txt a):=by
 rw [e47]
 obtain ⟨f,x,y⟩:=a
 cases f with
 | false =>
  refine bifT rfl (bindB (bytes1 (N+19) h) (jB ?_))
  have hl:(bytesA (false,x,y)).length≤4:=by
   unfold bytesA
   split
   · rw [beI_length]; unfold wid; simp
   · exact Nat.zero_le _
  exact print4 (N+29) hl (bytesA_Bs _)
 | true =>
  have hz:(zs (gsL (val (true,x,y)))).length=8:=rfl
  have hle:=lgM_le _ hz 8 (Nat.le_refl _)
  refine bifF rfl (bindB (groups_eq (N+27) h) (bindB (longest_eq (N+27) (zs (gsL (val (true,x,y)))) rfl) ?_))
  generalize hv:val (true,x,y)=v at *
  have ht:txt (true,x,y)=txt6 v:=by rw [txt,hv]; rfl
  rw [ht]
  have hg:(gsL v).length=8:=rfl
  by_cases h0:(lgM (zs (gsL v)) 8).2=0
  · refine bifT (by rw [h0]; rfl) (bindB (v:=gsL v) rfl (bindB (hexs_eq (N+19) (by rw [hg]; omega) (gsL_rng v)) ?_))
    rw [txt6,if_pos h0]
  · have htk:aEV (gsL v) ((lgM (zs (gsL v)) 8).1:Int)=some ((gsL v).take (lgM (zs (gsL v)) 8).1):=aJ0 (by rw [hg]; omega)
    have hdp:aEW (gsL v) (((lgM (zs (gsL v)) 8).1+(lgM (zs (gsL v)) 8).2:Nat):Int)=some ((gsL v).drop ((lgM (zs (gsL v)) 8).1+(lgM (zs (gsL v)) 8).2)):=aJ1 (by rw [hg]; omega)
    have l1:=J_len ((gsL v).take (lgM (zs (gsL v)) 8).1)
    have l2:=J_len ((gsL v).drop ((lgM (zs (gsL v)) 8).1+(lgM (zs (gsL v)) 8).2))
    rw [List.length_take] at l1
    rw [List.length_drop] at l2
    refine bifF (by simpa using h0) (bindB htk (bindB (hexs_eq (N+19) (by rw [List.length_take]; omega) fun g hg=>gsL_rng v g (List.mem_of_mem_take hg)) (bindB (v:=J ((gsL v).take (lgM (zs (gsL v)) 8).1)++[58,58]) ?_ (letB (v:=(((lgM (zs (gsL v)) 8).1+(lgM (zs (gsL v)) 8).2:Nat):Int)) (wv _ (by omega) (by omega) (by omega)) (bindB hdp (bindB (hexs_eq (N+19) (by rw [List.length_drop]; omega) fun g hg=>gsL_rng v g (List.mem_of_mem_drop hg)) (bindB (v:=txt6 v) ?_ rfl)))))))
    · exact if_pos (by simp only [List.length_cons,List.length_nil]; omega)
    · rw [txt6,if_neg h0,← List.append_assoc]
      exact if_pos (by simp only [List.length_append,List.length_cons,List.length_nil]; omega)
end Go.Proofs.YtlgnmgbnbomckaaGreatDoor
