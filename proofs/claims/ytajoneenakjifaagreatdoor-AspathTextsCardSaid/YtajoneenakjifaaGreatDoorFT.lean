/- Chapter 15, plainly: the document reads a path back; both read the same texts. -/
import Derived.Test.YtajoneenakjifaaGreatDoorFD
import Derived.KernelRfl
namespace Go.Proofs.YtajoneenakjifaaGreatDoor
open Go.VM Go.Txt
set_option maxRecDepth 10000
theorem decL_app:∀ (a b:List UInt8) (n:Int),decL (a++b) n=(decL a n).bind (decL b)
 | [],b,n=>rfl
 | x::a,b,n=>by
  rw [List.cons_append,decL,decL]
  split
  · rfl
  · exact decL_app a b _
theorem decL_dd (u:Nat) (hu:u≤4294967295):decL (Lib.decDigits u) 0=some (u:Int):=by
 induction u using Nat.strongRecOn with
 | _ u ih =>
  by_cases h:u < 10
  · rw [dd_one h,decL,dg_nat h,if_neg (by omega),decL]
    congr 1; omega
  · rw [dd_more h,decL_app,ih (u / 10) (by omega) (by omega)]
    show decL _ _=_
    have hm:u % 10 < 10:=by omega
    rw [decL,dg_nat hm,if_neg (by omega),decL]
    congr 1; omega
theorem dec_itoa {v:Int} (h:num v=true):dec (Lib.itoa v)=(v,true):=by
 have hr:=num_rng h
 obtain ⟨u,rfl⟩:=Int.eq_ofNat_of_zero_le (show 0≤v by omega)
 have hne:=itoa_ne h
 rw [Lib.itoa_nonneg] at hne ⊢
 unfold dec
 rw [decL_dd u (by omega)]
 have:(Lib.decDigits u).isEmpty=false:=by simpa using hne
 simp only [this]
 rw [decide_eq_true (show ((u:Nat):Int)≤1099511627776 by omega)]
 rfl
theorem dropWhile_id {p:UInt8→Bool}:∀ {l:List UInt8},(∀ b∈l.head?,p b=false)→l.dropWhile p=l
 | [],_=>rfl
 | b::l,h=>by rw [List.dropWhile_cons,if_neg (by rw [h b (by simp)]; simp)]
theorem trimS_mid {l:List UInt8} (a z:List UInt8) (ha:∀ b∈a,b=123) (hz:∀ b∈z,b=125) (hl:l≠[]) (h1:∀ b∈l.head?,isD b=true) (h2:∀ b∈l.getLast?,isD b=true):Lib.trimS (a++l++z) [123,125]=l:=by
 have hnd:∀ b,isD b=true→([123,125]:List UInt8).contains b=false:=fun b hb=>by
  have hb:=of_decide_eq_true hb
  have e1:b≠123:=fun e=>by rw [e] at hb; exact absurd hb (by decide)
  have e2:b≠125:=fun e=>by rw [e] at hb; exact absurd hb (by decide)
  simp [e1,e2]
 have hdrop:∀ (p:UInt8→Bool) (x y:List UInt8),(∀ b∈x,p b=true)→(x++y).dropWhile p=y.dropWhile p:=fun p x y h=>by
  induction x with
  | nil=>rfl
  | cons b x ih=>rw [List.cons_append,List.dropWhile_cons,if_pos (h b (by simp)),ih fun c hc=>h c (List.mem_cons_of_mem _ hc)]
 have hR:Lib.trimRightS (a++l++z) [123,125]=a++l:=by
  unfold Lib.trimRightS
  rw [List.reverse_append,hdrop _ _ _ (fun b hb=>by rw [hz b (List.mem_reverse.1 hb)]; rfl),dropWhile_id,List.reverse_reverse]
  intro b hb
  rw [List.head?_reverse,List.getLast?_append] at hb
  cases hh:l.getLast? with
  | none=>exact absurd (List.getLast?_eq_none_iff.1 hh) hl
  | some x =>
   rw [hh] at hb
   exact hnd b (h2 b (by rw [hh]; exact hb))
 unfold Lib.trimS
 rw [hR]
 unfold Lib.trimLeftS
 rw [hdrop _ _ _ (fun b hb=>by rw [ha b hb]; rfl),dropWhile_id]
 intro b hb
 exact hnd b (h1 b hb)
theorem addN_snoc (P:List Seg) (b:Bool) (acc:List Int) (n:Int):addN (P++[(b,acc)]) n=P++[(b,acc++[n])]:=by
 unfold addN
 rw [lastS_snoc]
 simp
theorem foldX_itoa:∀ (l:List Int) (P:List Seg) (b:Bool) (acc:List Int),(∀ v∈l,num v=true)→foldX (l.map Lib.itoa) (P++[(b,acc)])=some (P++[(b,acc++l)])
 | [],P,b,acc,_=>by simp [foldX]
 | v::l,P,b,acc,h=>by
  rw [List.map_cons,foldX,dec_itoa (h v (by simp)),if_pos rfl]
  simp only
  rw [addN_snoc,foldX_itoa l P b _ fun x hx=>h x (List.mem_cons_of_mem _ hx)]
  simp
theorem itoa_ends {v:Int} (h:num v=true):(∀ b∈(Lib.itoa v).head?,isD b=true)∧∀ b∈(Lib.itoa v).getLast?,isD b=true :=
 ⟨fun b hb=>itoaN_plain h b (List.mem_of_mem_head? hb),fun b hb=>itoaN_plain h b (List.mem_of_mem_getLast? hb)⟩
theorem setR_itoa {v:Int} (h:num v=true):setR (Lib.itoa v)=false:=by
 have hne:=itoa_ne h
 have hp:=itoaN_plain h
 unfold setR
 cases hh:Lib.itoa v with
 | nil=>exact absurd hh hne
 | cons b l =>
  have hb:=of_decide_eq_true (hp b (by rw [hh]; simp))
  have e1:b≠123:=fun e=>by rw [e] at hb; exact absurd hb (by decide)
  show (List.isPrefixOf [123] (b::l))=false
  simp [List.isPrefixOf,Ne.symm e1]
theorem word_it {v:Int} (h:num v=true) (P:List Seg):wordR P (Lib.itoa v)=foldX [Lib.itoa v] (begR P (Lib.itoa v)):=by
 unfold wordR
 have ht:=trimS_mid (l:=Lib.itoa v) [] [] (fun b hb=>by simp at hb) (fun b hb=>by simp at hb) (itoa_ne h) (itoa_ends h).1 (itoa_ends h).2
 simp only [List.nil_append,List.append_nil] at ht
 have hp:parts 44 (Lib.itoa v)=[Lib.itoa v]:=by
  have:=parts_join 44 (ws:=[Lib.itoa v]) (by simp) (fun w hw=>by rw [List.mem_singleton.1 hw]; exact itoa_no (by decide) (by decide))
  rwa [Lib.join_one] at this
 rw [ht,hp]
theorem begR_new {P:List Seg} {w:List UInt8} (h:setR w=true∨P=[]∨(lastS P).1=true):begR P w=P++[(setR w,[])]:=by
 unfold begR
 refine if_pos ?_
 rcases h with h | h | h
 · rw [h]; simp
 · rw [h]; simp
 · rw [h]; simp
theorem begR_old {P:List Seg} {acc:List Int} {w:List UInt8} (h:setR w=false):begR (P++[(false,acc)]) w=P++[(false,acc)]:=by
 unfold begR
 refine if_neg ?_
 rw [h,lastS_snoc]
 simp
theorem fold_seqR:∀ (l:List Int) (P:List Seg) (acc:List Int) (rest:List (List UInt8)),(∀ v∈l,num v=true)→foldR (l.map Lib.itoa++rest) (P++[(false,acc)])=foldR rest (P++[(false,acc++l)])
 | [],P,acc,rest,_=>by simp
 | v::l,P,acc,rest,h=>by
  have hv:=h v (by simp)
  have e:=foldX_itoa [v] P false acc (fun x hx=>by rw [List.mem_singleton.1 hx]; exact hv)
  rw [List.map_cons,List.cons_append,foldR,word_it hv,begR_old (setR_itoa hv),show [Lib.itoa v]=[v].map Lib.itoa from rfl,e]
  simp only
  rw [fold_seqR l P _ rest fun x hx=>h x (List.mem_cons_of_mem _ hx)]
  simp
theorem join_ends:∀ {l:List Int},l≠[]→(∀ v∈l,num v=true)→(joinS l 44≠[])∧(∀ b∈(joinS l 44).head?,isD b=true)∧∀ b∈(joinS l 44).getLast?,isD b=true
 | [],h,_=>absurd rfl h
 | [v],_,hn=>by
  have hv:=hn v (by simp)
  have e:joinS [v] 44=Lib.itoa v:=by unfold joinS; rw [List.map_cons,List.map_nil,Lib.join_one]
  rw [e]
  exact ⟨itoa_ne hv,itoa_ends hv⟩
 | v::x::l,_,hn=>by
  have hv:=hn v (by simp)
  obtain ⟨i1,_,i3⟩:=join_ends (l:=x::l) (by simp) fun y hy=>hn y (List.mem_cons_of_mem _ hy)
  have e:joinS (v::x::l) 44=Lib.itoa v++44::joinS (x::l) 44:=by unfold joinS; rw [List.map_cons,List.map_cons,join_cons2]
  rw [e]
  refine ⟨by simp,fun b hb=>?_,fun b hb=>?_⟩
  · refine (itoa_ends hv).1 b ?_
    cases hh:Lib.itoa v with
    | nil=>exact absurd hh (itoa_ne hv)
    | cons c r=>rw [hh] at hb; exact hb
  · refine i3 b ?_
    rw [List.getLast?_append] at hb
    cases hh:joinS (x::l) 44 with
    | nil=>exact absurd hh i1
    | cons c r =>
     rw [hh,List.getLast?_cons_cons] at hb
     have hs:((c::r).getLast?).isSome=true:=by simp
     obtain ⟨z,hz⟩:=Option.isSome_iff_exists.1 hs
     rw [hz] at hb ⊢
     exact hb
theorem word_set {l:List Int} (hl:l≠[]) (hn:∀ v∈l,num v=true) (P:List Seg):wordR P (segT (true,l))=some (P++[(true,l)]):=by
 have e:segT (true,l)=[123]++joinS l 44++[125]:=by unfold segT; simp
 have hset:setR (segT (true,l))=true:=by rw [e]; simp [setR,Lib.hasPrefix]
 obtain ⟨j1,j2,j3⟩:=join_ends hl hn
 have ht:Lib.trimS (segT (true,l)) [123,125]=joinS l 44:=by
  rw [e]
  exact trimS_mid [123] [125] (fun b hb=>List.mem_singleton.1 hb) (fun b hb=>List.mem_singleton.1 hb) j1 j2 j3
 have hp:parts 44 (joinS l 44)=l.map Lib.itoa:=parts_join 44 (by simpa using hl) fun w hw=>by
  obtain ⟨v,hv,rfl⟩:=List.mem_map.1 hw
  exact itoa_no (by decide) (by decide)
 unfold wordR
 rw [ht,hp,begR_new (.inl hset),hset,foldX_itoa l P true [] hn]
 simp
theorem fold_segR {s:Seg} {P:List Seg} {rest:List (List UInt8)} (h0:0 < s.2.length) (hn:∀ v∈s.2,num v=true) (hc:P=[]∨s.1=true∨(lastS P).1=true):foldR (segW s++rest) P=foldR rest (P++[s]):=by
 obtain ⟨b,l⟩:=s
 have hl:l≠[]:=fun e=>by rw [e] at h0; simp at h0
 unfold segW
 cases b with
 | true =>
  simp only [if_true]
  rw [List.cons_append,List.nil_append,foldR,word_set hl hn]
 | false =>
  simp only [Bool.false_eq_true,if_false]
  cases l with
  | nil=>exact absurd rfl hl
  | cons v l =>
   have hv:=hn v (by simp)
   have hc':setR (Lib.itoa v)=true∨P=[]∨(lastS P).1=true:=by
    rcases hc with h | h | h
    · exact .inr (.inl h)
    · cases h
    · exact .inr (.inr h)
   have e:=foldX_itoa [v] P false [] (fun x hx=>by rw [List.mem_singleton.1 hx]; exact hv)
   rw [List.map_cons,List.cons_append,foldR,word_it hv,begR_new hc',setR_itoa hv,show [Lib.itoa v]=[v].map Lib.itoa from rfl,e]
   simp only
   rw [List.nil_append,fold_seqR l P [v] rest fun x hx=>hn x (List.mem_cons_of_mem _ hx)]
   simp
theorem fold_wordsR {p:List Seg} (hp:pvd p=true):∀ k,k≤p.length→foldR (wordsP p) []=foldR (wordsP (p.drop k)) (p.take k)
 | 0,_=>by simp
 | k+1,h=>by
  have hk:k < p.length:=by omega
  rw [fold_wordsR hp k (by omega)]
  have e:p.drop k=p[k]::p.drop (k+1):=List.drop_eq_getElem_cons hk
  rw [e]
  show foldR (segW p[k]++wordsP (p.drop (k+1))) _=_
  have hs:=(pvd_iff.1 hp).1 k hk
  unfold segOk at hs
  rw [Bool.and_eq_true,Bool.and_eq_true,getD_lt zS hk] at hs
  rw [fold_segR (pvd_ne hp _ (List.getElem_mem hk)) (fun v hv=>pvd_num hp _ (List.getElem_mem hk) v hv),← List.take_succ_eq_append_getElem hk]
  have h2:=hs.1.2
  rw [Bool.or_eq_true,Bool.or_eq_true] at h2
  rcases h2 with (h2 | h2) | h2
  · have h2:=of_decide_eq_true h2
    subst h2
    exact .inl (by simp)
  · exact .inr (.inl h2)
  · by_cases h0:k=0
    · subst h0; exact .inl (by simp)
    · refine .inr (.inr ?_)
      unfold lastS
      rw [List.length_take,Nat.min_eq_left (by omega),List.getD,List.getElem?_take,if_pos (by omega)]
      exact h2
theorem ref_prt {p:List Seg} (hp:pvd p=true):refD (prt p)=(p,0):=by
 unfold refD
 by_cases h0:p=[]
 · subst h0; kernel_rfl
 · have hw : ∀ w ∈ wordsP p, w ≠ [] ∧ ∀ b ∈ w, aGo b := fun w hw => by
     obtain ⟨l,hl,hw⟩:=List.mem_flatten.1 hw
     obtain ⟨s,hs,rfl⟩:=List.mem_map.1 hl
     exact segW_plain (fun v hv=>pvd_num hp s hs v hv) w hw
   have hne:wordsP p≠[]:=fun e=>by
    cases p with
    | nil=>exact h0 rfl
    | cons s p =>
     have h1:=segW_ne (pvd_ne hp s (by simp))
     have:segW s++wordsP p=[]:=e
     exact h1 (List.append_eq_nil_iff.1 this).1
   have hj:=prt_words (pvd_ne hp)
   have hp32:parts 32 (prt p)=wordsP p:=by
    rw [hj]
    exact parts_join 32 hne fun w h e=>(plain_sp ((hw w h).2 32 e)).2.2 rfl
   have hemp:(prt p).isEmpty=false:=by
    rw [hj]
    cases h:wordsP p with
    | nil=>exact absurd h hne
    | cons w r =>
     have h1:=(hw w (by rw [h]; simp)).1
     cases r with
     | nil=>rw [Lib.join_one]; simpa using h1
     | cons x r=>rw [join_cons2]; cases w <;> simp
   have h:=fold_wordsR hp p.length (Nat.le_refl _)
   rw [List.drop_length,List.take_length] at h
   rw [hemp,hp32,h]
   show parseW (some p) (prt p)=_
   unfold parseW
   simp [hp]
theorem parseW_cases (o:Option (List Seg)) (s:List UInt8):parseW o s=([],2)∨∃ p,pvd p=true∧prt p=s∧parseW o s=(p,0):=by
 cases o with
 | none=>exact .inl rfl
 | some p =>
  unfold parseW
  by_cases hc:(pvd p&&(prt p==s))=true
  · simp only [hc,if_true]
    rw [Bool.and_eq_true] at hc
    exact .inr ⟨p,hc.1,by simpa using hc.2,rfl⟩
  · simp only [hc]
    exact .inl rfl
/-- Both read the same texts. -/
theorem ref_parse (s:List UInt8):refD s=parseD s:=by
 rcases parseW_cases (if s.isEmpty=true then some [] else foldR (parts 32 s) []) s with h | ⟨p,h1,h2,h3⟩
 · rcases parseW_cases (foldW (Lib.fieldsD s) []) s with g | ⟨q,g1,g2,g3⟩
   · exact h.trans g.symm
   · rw [← g2,parse_prt g1]; exact ref_prt g1
 · rw [← h2,parse_prt h1]; exact ref_prt h1
end Go.Proofs.YtajoneenakjifaaGreatDoor
