/- Chapter 01, plainly: an address comes back from its text. -/
import Derived.Test.YtlgnmgbnbomckaaGreatDoorQW
namespace Go.Proofs.YtlgnmgbnbomckaaGreatDoor
open Go.VM Go.Txt
set_option maxRecDepth 10000
def ofG (l:List Int):Int:=l.foldl (fun v g=>v * 65536+g) 0
theorem ofG_append (l:List Int) (b:Int):ofG (l++[b])=ofG l * 65536+b:=by
 unfold ofG; rw [List.foldl_append]; rfl
theorem ofG_rng {l:List Int} (h:G16 l):∀ k≤l.length,0≤ofG (l.take k)∧ofG (l.take k) < 65536 ^ k
 | 0,_=>by rw [List.take_zero]; exact ⟨Int.le_refl _,by decide⟩
 | k+1,hk=>by
  have ih:=ofG_rng h k (by omega)
  have hb:=h _ (List.getElem_mem (show k < l.length by omega))
  rw [List.take_add_one,List.getElem?_eq_getElem (by omega),Option.toList_some,ofG_append,Int.pow_succ]
  omega
theorem shl_pair16 {x y b:Int} (hx:0≤x∧x < 281474976710656) (hy:U64 y) (hb:0≤b∧b < 65536):bits .or .u64 (aIc .u64 x 16) (aJP .u64 y 48)=x * 65536+y / 281474976710656∧bits .or .u64 (aIc .u64 y 16) b=y * 65536 % 18446744073709551616+b:=by
 obtain ⟨h3,h4⟩:=hy
 have e11:(2:Int) ^ 16=65536:=rfl
 have e56:(2:Int) ^ 48=281474976710656:=rfl
 rw [shr64 (by decide) h3,shl64 (by decide),shl64 (by decide),e11,e56]
 have:x * 65536 % 18446744073709551616=x * 65536:=by omega
 rw [this]
 rw [or64 16 ⟨by omega,by omega⟩ ⟨x,by rw [e11,Int.mul_comm]⟩ (by omega) (by rw [e11]; omega) (by decide),or64 16 ⟨by omega,by omega⟩ ⟨y % 281474976710656,by rw [e11]; omega⟩ (by omega) (by rw [e11]; omega) (by decide)]
 exact ⟨rfl,rfl⟩
def parse (t:List UInt8):Option Ad:=if Lib.contains t [58]=true then (six t).map fun l=>mkA true (ofG l) else (four t).map fun v=>(false,0,v)
theorem parse_eq (N:Nat) {t:List UInt8} (ht:t.length≤100000) (hN:t.length < N):n44 (N+50) t=some (match parse t with | some a=>(a,0) | none=>((false,0,0),2))∧∀ a,parse t=some a→OkA a:=by
 rw [e44]
 have h13:n66 (N+49) (t,[58])=some (Lib.contains t [58]):=by rw [e66]; exact aHG (by omega)
 unfold parse
 cases hc:Lib.contains t [58] with
 | false =>
  rw [hc] at h13
  obtain ⟨k1,k2⟩:=four_eq (N+29) ht
  rw [if_neg (by simp)]
  cases hf:four t with
  | none =>
   rw [hf] at k1
   exact ⟨bindB h13 (bifT rfl (bindB k1 (bifT rfl rfl))),fun a ha=>by cases ha⟩
  | some v =>
   rw [hf] at k1
   refine ⟨bindB h13 (bifT rfl (bindB k1 (bifF rfl rfl))),fun a ha=>?_⟩
   have:=k2 v hf
   cases ha
   exact ⟨⟨by simp only; omega,by simp only; omega⟩,⟨by simp only; omega,by simp only; omega⟩,fun _=>⟨rfl,by simp only; omega⟩⟩
 | true =>
  rw [hc] at h13
  obtain ⟨⟨l',k1,k2⟩,k3⟩:=six_eq (N+9) ht (by omega)
  rw [if_pos rfl]
  cases hf:six t with
  | none =>
   rw [hf] at k1
   exact ⟨bindB h13 (bifF rfl (bindB k1 (bifT rfl rfl))),fun a ha=>by cases ha⟩
  | some l =>
   have:=k2 l hf
   subst this
   rw [hf] at k1
   obtain ⟨hG,hl8⟩:=k3 l' hf
   have hr8:=ofG_rng hG l'.length (Nat.le_refl _)
   rw [List.take_length,hl8] at hr8
   refine ⟨bindB h13 (bifF rfl (bindB k1 (bifF rfl (jB ?_)))),fun a ha=>?_⟩
   · refine loopN_seq' (s:=fun k=>(((false,0,0):Ad),mkA true (ofG (l'.take k)),l',aJO l',(k:Int))) l'.length ?_ (fun k hk=>?_) ?_ (by omega)
     · rfl
     · have hr:=ofG_rng hG k (by omega)
       have hp:(65536:Int) ^ k≤65536 ^ 7:=by
        have:∀ k:Nat,k < 8→(65536:Int) ^ k≤65536 ^ 7:=by decide
        exact this k (by omega)
       have h7:(65536:Int) ^ 7=5192296858534827628530496329220096:=by decide
       have d:(k:Int) < aJO l':=by unfold aJO; omega
       have hb:=hG _ (List.getElem_mem hk)
       have hs:ofG (l'.take (k+1))=ofG (l'.take k) * 65536+l'[k]:=by
        rw [List.take_add_one,List.getElem?_eq_getElem hk,Option.toList_some,ofG_append]
       rw [hs]
       generalize ofG (l'.take k)=v at *
       have us:=shl_pair16 (x:=v / 18446744073709551616) (y:=v % 18446744073709551616) (b:=l'[k]) (by omega) ⟨by omega,by omega⟩ hb
       refine letB (v:=true) (decide_eq_true d) (bifT rfl (bindB (aJo hk) (letB rfl (letB rfl (letB rfl (letB us.2 (letB (v:=(k:Int)+1) (wv _ rfl (by omega) (by omega)) ?_)))))))
       have q1:v / 18446744073709551616 * 65536+v % 18446744073709551616 / 281474976710656=(v * 65536+l'[k]) / 18446744073709551616:=by omega
       have q2:v % 18446744073709551616 * 65536 % 18446744073709551616+l'[k]=(v * 65536+l'[k]) % 18446744073709551616:=by omega
       have q:(true,bits .or .u64 (aIc .u64 (v / 18446744073709551616) 16) (aJP .u64 (v % 18446744073709551616) 48),v % 18446744073709551616 * 65536 % 18446744073709551616+l'[k])=mkA true (v * 65536+l'[k]):=by
        rw [us.1,q1,q2]; rfl
       rw [aJZ]
       exact congrArg (fun z=>some (Sum.inl (((false,0,0):Ad),z,l',aJO l',((k+1:Nat):Int)))) q
     · have d:¬ ((l'.length:Int) < aJO l'):=by unfold aJO; omega
       refine letB (v:=false) (decide_eq_false d) (bifF rfl (leaveB ?_))
       show some (mkA true (ofG (l'.take l'.length)),0)=_
       rw [List.take_length]; rfl
   · cases ha
     refine OkA.mk hr8.1 ?_
     have:(65536:Int) ^ 8=340282366920938463463374607431768211456:=by decide
     rw [this] at hr8
     exact hr8.2
/- what is printed is read -/
theorem not_contains {c:UInt8} {s:List UInt8} (h:c∉s):Lib.contains s [c]=false:=by
 rw [Bool.eq_false_iff]
 intro hc
 obtain ⟨x,y,e⟩:=contains_split hc
 exact h (by rw [e]; simp)
theorem contains_two {c:UInt8} {s:List UInt8} (h:2≤(parts c s).length):Lib.contains s [c]=true:=by
 rw [parts_length] at h
 have hm:c∈s:=List.count_pos_iff.1 (by omega)
 obtain ⟨x,y,e,_⟩:=first_at hm
 rw [e,show x++c::y=x++([c]++y) by simp]
 exact contains_app _ _ _
theorem num_itoa {b:Int} (h:0≤b∧b≤255):num4 (Lib.itoa b)=some b:=by
 have h4:=(itoa_fact h).2.2.2
 have ha:aD4 (Lib.itoa b)=(b,false):=by unfold aD4; rw [h4]
 unfold num4
 rw [ha]
 exact if_pos ⟨rfl,h.1,h.2,rfl⟩
theorem itoa_no {b:Int} (h:0≤b∧b≤255) {c:UInt8} (hc:c.toNat < 48∨c.toNat > 57):c∉Lib.itoa b:=fun hm=>by
 have:=List.all_eq_true.1 (itoa_fact h).2.2.1 c hm
 have:=of_decide_eq_true this
 omega
theorem four_J4 {l:List Int} (hl:l.length=4) (hb:Bs l):four (J4 l)=some (ofB l):=by
 have hp:parts 46 (J4 l)=l.map Lib.itoa:=by
  refine parts_join 46 (fun h=>?_) fun w hw=>?_
  · rw [List.map_eq_nil_iff] at h; rw [h] at hl; cases hl
  · obtain ⟨b,hb',rfl⟩:=List.mem_map.1 hw
    exact itoa_no (hb b hb') (.inl (by decide))
 unfold four
 rw [hp,List.length_map,if_pos hl]
 have:=runF_seq (F:=F4 (l.map Lib.itoa)) (fun i=>ofB (l.take i)) 4 0 (fun j _ hj=>by
  have hj':j < l.length:=by omega
  unfold F4
  rw [List.getD,List.getElem?_eq_getElem (by rw [List.length_map]; exact hj'),List.getElem_map]
  simp only [Option.getD_some]
  rw [num_itoa (hb _ (List.getElem_mem hj')),Option.map_some,List.take_add_one,List.getElem?_eq_getElem hj',Option.toList_some,ofB_append])
 rw [Nat.zero_add] at this
 simp only [List.take_zero] at this
 rw [show (0:Int)=ofB [] from rfl,this]
 conv=>lhs; rw [← hl,List.take_length]
theorem hexL_get {g:Int} (h0:0≤g) (h1:g < 65536) {j:Nat} (hj:j≤nd g):(hexL g).getD j 0=hexI (g / 16 ^ (nd g - j) % 16):=by
 have gen:∀ (k:Nat) (j:Nat),j < k→(dg k g).getD j 0=hexI (g / 16 ^ (k - 1 - j) % 16):=by
  intro k
  induction k with
  | zero=>intro j hj; omega
  | succ k ih =>
   intro j hj
   cases j with
   | zero=>rfl
   | succ j =>
    have:=ih j (by omega)
    rw [dg]
    simp only [List.getD_cons_succ]
    rw [this,show k+1 - 1 - (j+1)=k - 1 - j by omega]
 cases j with
 | zero =>
  have:=nd_end h0 h1
  rw [hexL]
  simp only [List.getD_cons_zero,Nat.sub_zero]
  rw [Int.emod_eq_of_lt this.1 this.2]
 | succ j =>
  rw [hexL]
  simp only [List.getD_cons_succ]
  rw [gen _ _ (by omega),show nd g - 1 - j=nd g - (j+1) by omega]
theorem dig_hex {g:Int} (h0:0≤g) (h1:g < 65536):dig (hexW g)=some g:=by
 have hw:=hexW_length g
 have hB:iJ (hexW g)=hexL g:=aB9 fun x hx=>by
  have:=hexL_rng h0 h1 x hx
  omega
 have hll:(hexL g).length=nd g+1:=by rw [hexL,List.length_cons,dg_length]
 have hwl:(hexW g).length=nd g+1:=by rw [hexW,aHs,hll]
 unfold dig
 rw [if_pos hw,hB,hwl]
 have hend:=nd_end h0 h1
 have:=runF_seq (F:=F16 (hexL g)) (fun i=>g / 16 ^ (nd g+1 - i)) (nd g+1) 0 (fun j _ hj=>by
  unfold F16
  rw [hexL_get h0 h1 (by omega),digI_hex (by omega),if_neg (by omega)]
  congr 1
  rw [show nd g+1 - j=(nd g - j)+1 by omega,div16,show nd g+1 - (j+1)=nd g - j by omega]
  omega)
 rw [Nat.zero_add,Nat.sub_self,Nat.sub_zero,div16,Int.pow_zero,Int.ediv_one] at this
 rw [show (0:Int)=g / 16 ^ nd g / 16 by omega]
 exact this
theorem four_hex {g:Int} (h0:0≤g) (h1:g < 65536):four (hexW g)=none:=by
 unfold four
 rw [parts_none 46 (hexW_no h0 h1 (.inl (by decide)))]
 rfl
theorem list6_J {l:List Int} (hG:G16 l) (last:Bool):list6 last (J l)=some l:=by
 by_cases h:l=[]
 · subst h; rfl
 · have hp:=parts_J hG
   rw [if_neg h] at hp
   have hne:J l≠[]:=fun e=>by
    rw [e] at hp
    obtain ⟨g,r,rfl⟩:=List.exists_cons_of_ne_nil h
    rw [List.map_cons] at hp
    have:=(List.cons.inj hp).1
    exact words_ne (l:=g::r) (hexW g) (by simp) this.symm
   unfold list6
   rw [if_neg hne,hp,List.length_map]
   have:=runF_seq (F:=F6 last (l.map hexW)) (fun i=>l.take i) l.length 0 (fun j _ hj=>by
    have hj':j < l.length:=by omega
    have hg:=hG _ (List.getElem_mem hj')
    have e:(l.map hexW).getD j []=hexW l[j]:=by
     rw [List.getD,List.getElem?_eq_getElem (by rw [List.length_map]; exact hj'),List.getElem_map]; rfl
    have e4:(if last=true∧j+1=(l.map hexW).length then four ((l.map hexW).getD j []) else none)=none:=by
     split
     · rw [e]; exact four_hex hg.1 hg.2
     · rfl
    unfold F6
    rw [e4,e,dig_hex hg.1 hg.2,List.take_add_one,List.getElem?_eq_getElem hj',Option.toList_some]
    rfl)
   rw [Nat.zero_add,List.take_length] at this
   exact this
end Go.Proofs.YtlgnmgbnbomckaaGreatDoor
