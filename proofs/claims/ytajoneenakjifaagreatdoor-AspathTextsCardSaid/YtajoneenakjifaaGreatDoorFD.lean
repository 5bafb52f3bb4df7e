/- Chapter 15, plainly: a path is read back from its text. -/
import Derived.Test.YtajoneenakjifaaGreatDoorFA
import Derived.Test.YtajoneenakjifaaGreatDoorEH
import Derived.Test.YtajoneenakjifaaGreatDoorHW1
namespace Go.Proofs.YtajoneenakjifaaGreatDoor
open Go.VM Go.Txt
set_option maxRecDepth 10000
def aGo (b:UInt8):Prop:=isD b=true∨b=44∨b=123∨b=125
theorem plain_sp {b:UInt8} (h:aGo b):Lib.isSp b=false∧b.toNat < 128∧b≠32:=by
 rcases h with h | rfl | rfl | rfl
 · unfold isD at h
   have h:=of_decide_eq_true h
   refine ⟨?_,by omega,fun e=>by rw [e] at h; exact absurd h (by decide)⟩
   unfold Lib.isSp
   have ne:∀ k:UInt8,k.toNat < 48→(b==k)=false:=fun k hk=>beq_false_of_ne fun e=>by rw [e] at h; omega
   rw [ne 9 (by decide),ne 10 (by decide),ne 11 (by decide),ne 12 (by decide),ne 13 (by decide),ne 32 (by decide)]; rfl
 all_goals exact ⟨by decide,by decide,by decide⟩
theorem go_word:∀ (w cur rest:List UInt8),(∀ b∈w,Lib.isSp b=false)→Lib.fieldsGo cur (w++rest)=Lib.fieldsGo (cur++w) rest
 | [],cur,rest,_=>by simp
 | b::w,cur,rest,h=>by
  rw [List.cons_append,Lib.fieldsGo_more _ _ _ (h b List.mem_cons_self),go_word w _ _ fun x hx=>h x (List.mem_cons_of_mem _ hx)]
  simp
theorem fields_join:∀ (ws:List (List UInt8)),(∀ w∈ws,w≠[]∧∀ b∈w,aGo b)→Lib.fieldsGo [] (Lib.join ws [32])=ws
 | [],_=>rfl
 | [w],h=>by
  obtain ⟨h1,h2⟩:=h w (by simp)
  have:=go_word w [] [] fun b hb=>(plain_sp (h2 b hb)).1
  rw [List.append_nil] at this
  rw [Lib.join_one,this]
  cases w with
  | nil=>exact absurd rfl h1
  | cons b w=>simp [Lib.fieldsGo]
 | w::x::r,h=>by
  obtain ⟨h1,h2⟩:=h w (by simp)
  rw [join_cons2,go_word w [] _ fun b hb=>(plain_sp (h2 b hb)).1,List.nil_append,Lib.fieldsGo_end _ _ _ (by decide) h1,fields_join (x::r) fun y hy=>h y (List.mem_cons_of_mem _ hy)]
theorem join_plain:∀ (ws:List (List UInt8)),(∀ w∈ws,w≠[]∧∀ b∈w,aGo b)→∀ b∈Lib.join ws [32],b.toNat < 128
 | [],_,b,hb=>by simp [Lib.join] at hb
 | [w],h,b,hb=>by
  rw [Lib.join_one] at hb
  exact (plain_sp ((h w (by simp)).2 b hb)).2.1
 | w::x::r,h,b,hb=>by
  rw [join_cons2] at hb
  rcases List.mem_append.1 hb with hb | hb
  · exact (plain_sp ((h w (by simp)).2 b hb)).2.1
  · rcases List.mem_cons.1 hb with rfl | hb
    · decide
    · exact join_plain (x::r) (fun y hy=>h y (List.mem_cons_of_mem _ hy)) b hb
def segW (s:Seg):List (List UInt8):=if s.1=true then [segT s] else s.2.map Lib.itoa
theorem join_app (c:UInt8):∀ (a b:List (List UInt8)),a≠[]→b≠[]→Lib.join (a++b) [c]=Lib.join a [c]++c::Lib.join b [c]
 | [],_,h,_=>absurd rfl h
 | [x],[],_,h=>absurd rfl h
 | [x],y::b,_,_=>by rw [Lib.join_one]; exact join_cons2 ..
 | x::y::a,b,_,hb=>by
  rw [List.cons_append,List.cons_append,join_cons2,join_cons2,← List.cons_append,join_app c (y::a) b (by simp) hb]
  simp
theorem join_flat (c:UInt8):∀ (L:List (List (List UInt8))),(∀ l∈L,l≠[])→Lib.join (L.map fun l=>Lib.join l [c]) [c]=Lib.join L.flatten [c]
 | [],_=>rfl
 | [l],_=>by simp [Lib.join_one]
 | l::m::L,h=>by
  have hm:(m::L).flatten≠[]:=by
   have:=h m (by simp)
   simp [this]
  have ih:=join_flat c (m::L) fun x hx=>h x (List.mem_cons_of_mem _ hx)
  rw [List.map_cons,List.map_cons,join_cons2,← List.map_cons (f:=fun l=>Lib.join l [c]),ih]
  show _=Lib.join (l++(m::L).flatten) [c]
  rw [join_app c l _ (h l (by simp)) hm]
theorem segT_join (s:Seg):segT s=Lib.join (segW s) [32]:=by
 unfold segW segT joinS
 split
 · rw [Lib.join_one]
 · rfl
theorem segW_ne {s:Seg} (h:0 < s.2.length):segW s≠[]:=by
 unfold segW
 split
 · simp
 · intro e
   rw [List.map_eq_nil_iff] at e
   rw [e] at h; simp at h
def wordsP (p:List Seg):List (List UInt8):=(p.map segW).flatten
theorem prt_words {p:List Seg} (h:∀ s∈p,0 < s.2.length):prt p=Lib.join (wordsP p) [32]:=by
 unfold prt wordsP
 rw [← join_flat 32 _ (fun l hl=>by obtain ⟨s,hs,rfl⟩:=List.mem_map.1 hl; exact segW_ne (h s hs)),List.map_map]
 congr 1
 exact List.map_congr_left fun s _=>segT_join s
theorem itoaN_plain {v:Int} (h:num v=true):∀ b∈Lib.itoa v,isD b=true:=by
 have h0:=(num_rng h).1
 obtain ⟨u,rfl⟩:=Int.eq_ofNat_of_zero_le (show 0≤v by omega)
 rw [Lib.itoa_nonneg u]
 exact List.all_eq_true.1 (dd_facts u).2.1
theorem itoa_ne {v:Int} (h:num v=true):Lib.itoa v≠[]:=by
 have:=(itoa_10 h).1
 intro e; rw [e] at this; simp at this
theorem joinC_plain:∀ (ws:List (List UInt8)),(∀ w∈ws,∀ b∈w,aGo b)→∀ b∈Lib.join ws [44],aGo b
 | [],_,b,hb=>by simp [Lib.join] at hb
 | [w],h,b,hb=>by
  rw [Lib.join_one] at hb
  exact h w (by simp) b hb
 | w::x::r,h,b,hb=>by
  rw [join_cons2] at hb
  rcases List.mem_append.1 hb with hb | hb
  · exact h w (by simp) b hb
  · rcases List.mem_cons.1 hb with rfl | hb
    · exact .inr (.inl rfl)
    · exact joinC_plain (x::r) (fun y hy=>h y (List.mem_cons_of_mem _ hy)) b hb
theorem segW_plain {s:Seg} (hn:∀ v∈s.2,num v=true):∀ w∈segW s,w≠[]∧∀ b∈w,aGo b:=fun w hw=>by
 unfold segW at hw
 split at hw
 · rename_i h1
   rw [List.mem_singleton.1 hw]
   unfold segT
   rw [if_pos h1]
   refine ⟨by simp,fun b hb=>?_⟩
   simp only [List.mem_append,List.mem_singleton,or_assoc] at hb
   rcases hb with rfl | hb | rfl
   · exact .inr (.inr (.inl rfl))
   · refine joinC_plain _ (fun x hx b hb=>?_) b hb
     obtain ⟨v,hv,rfl⟩:=List.mem_map.1 hx
     exact .inl (itoaN_plain (hn v hv) b hb)
   · exact .inr (.inr (.inr rfl))
 · obtain ⟨v,hv,rfl⟩:=List.mem_map.1 hw
   exact ⟨itoa_ne (hn v hv),fun b hb=>.inl (itoaN_plain (hn v hv) b hb)⟩
theorem fields_prt {p:List Seg} (hp:pvd p=true):Lib.fieldsD (prt p)=wordsP p:=by
 have h:∀ w∈wordsP p,w≠[]∧∀ b∈w,aGo b:=fun w hw=>by
  obtain ⟨l,hl,hw⟩:=List.mem_flatten.1 hw
  obtain ⟨s,hs,rfl⟩:=List.mem_map.1 hl
  exact segW_plain (fun v hv=>pvd_num hp s hs v hv) w hw
 rw [prt_words (pvd_ne hp),Lib.fieldsD_ascii _ (join_plain _ h)]
 exact fields_join _ h
theorem wdN_itoa:∀ (l acc:List Int),(∀ v∈l,num v=true)→wdN (l.map Lib.itoa) acc=some (acc++l)
 | [],acc,_=>by simp [wdN]
 | v::l,acc,h=>by
  have hr:=num_rng (h v (by simp))
  rw [List.map_cons,wdN,atoi_itoa (by omega)]
  simp only [Bool.false_eq_true,if_false]
  rw [wdN_itoa l _ fun x hx=>h x (List.mem_cons_of_mem _ hx)]
  simp
theorem first_byte {w:List UInt8} (h:w≠[]):(iJ w).getD 0 0=((w.headD 0).toNat:Int):=by
 cases w with
 | nil=>exact absurd rfl h
 | cons b w=>rfl
theorem wd_itoa {v:Int} (h:num v=true):wd (Lib.itoa v)=some (false,[v]):=by
 have hset:isSet (Lib.itoa v)=false:=by
  unfold isSet
  have h1:=itoa_ne h
  rw [first_byte h1]
  have h2:isD ((Lib.itoa v).headD 0)=true:=by
   cases hh:Lib.itoa v with
   | nil=>exact absurd hh h1
   | cons b w=>exact itoaN_plain h b (by rw [hh]; simp)
  have h3:=of_decide_eq_true h2
  have:(((((Lib.itoa v).headD 0).toNat:Nat):Int)==123)=false:=beq_eq_false_iff_ne.2 (by omega)
  rw [this]; simp
 unfold wd wdT
 rw [hset]
 have hp:parts 44 (Lib.itoa v)=[Lib.itoa v]:=by
  have:=parts_join 44 (ws:=[Lib.itoa v]) (by simp) (fun w hw=>by rw [List.mem_singleton.1 hw]; exact itoa_no (by decide) (by decide))
  rwa [Lib.join_one] at this
 have:=wdN_itoa [v] [] (fun x hx=>by rw [List.mem_singleton.1 hx]; exact h)
 simp only [List.map_cons,List.map_nil,List.nil_append] at this
 simp only [Bool.false_eq_true,if_false,hp,this]
 rfl
theorem joinS_pos {l:List Int} {c:UInt8} (hl:l≠[]) (hn:∀ v∈l,num v=true):0 < (joinS l c).length:=by
 cases l with
 | nil=>exact absurd rfl hl
 | cons v l =>
  have h1:=(itoa_10 (hn v (by simp))).1
  unfold joinS
  cases l with
  | nil=>rw [List.map_cons,List.map_nil,Lib.join_one]; omega
  | cons x l=>rw [List.map_cons,List.map_cons,join_cons2,List.length_append]; omega
theorem wd_set {l:List Int} (hl:l≠[]) (hn:∀ v∈l,num v=true):wd (segT (true,l))=some (true,l):=by
 have e:segT (true,l)=123::(joinS l 44++[125]):=by unfold segT; simp
 have hj:=joinS_pos (c:=44) hl hn
 have hset:isSet (segT (true,l))=true:=by
  rw [e]
  unfold isSet
  have h1:(2 < (123::(joinS l 44++[125])).length):=by simp; omega
  have h2:(iJ (123::(joinS l 44++[125]))).getD ((123::(joinS l 44++[125])).length - 1) 0=125:=by
   have hi:(123::(joinS l 44++[125])).length - 1 < (123::(joinS l 44++[125])).length:=by simp
   rw [nBytes_get hi]
   have:(123::(joinS l 44++[125]))[(123::(joinS l 44++[125])).length - 1]'hi=(125:UInt8):=by
    simp
   rw [this]; rfl
  rw [decide_eq_true h1,h2]; rfl
 have ht:wdT (segT (true,l))=joinS l 44:=by
  unfold wdT
  rw [if_pos hset,e]
  simp
 have hp:parts 44 (joinS l 44)=l.map Lib.itoa:=parts_join 44 (by simpa using hl) fun w hw=>by
  obtain ⟨v,hv,rfl⟩:=List.mem_map.1 hw
  exact itoa_no (by decide) (by decide)
 unfold wd
 rw [ht,hp,wdN_itoa l [] hn,hset]
 simp
theorem lastS_snoc (P:List Seg) (s:Seg):lastS (P++[s])=s:=by
 unfold lastS
 simp [List.getD]
theorem putW_seq (P:List Seg) (acc:List Int) (x:Int):putW (P++[(false,acc)]) (false,[x])=P++[(false,acc++[x])]:=by
 unfold putW
 rw [if_pos (by rw [lastS_snoc]; simp),lastS_snoc]
 simp
theorem fold_seq:∀ (l:List Int) (P:List Seg) (acc:List Int) (rest:List (List UInt8)),(∀ v∈l,num v=true)→foldW (l.map Lib.itoa++rest) (P++[(false,acc)])=foldW rest (P++[(false,acc++l)])
 | [],P,acc,rest,_=>by simp
 | v::l,P,acc,rest,h=>by
  rw [List.map_cons,List.cons_append,foldW,wd_itoa (h v (by simp))]
  simp only
  rw [putW_seq,fold_seq l P _ rest fun x hx=>h x (List.mem_cons_of_mem _ hx)]
  simp
theorem fold_seg {s:Seg} {P:List Seg} {rest:List (List UInt8)} (h0:0 < s.2.length) (hn:∀ v∈s.2,num v=true) (hc:P=[]∨s.1=true∨(lastS P).1=true):foldW (segW s++rest) P=foldW rest (P++[s]):=by
 obtain ⟨b,l⟩:=s
 have hput:∀ m,b=true∨P=[]∨(lastS P).1=true→putW P (b,m)=P++[(b,m)]:=fun m h=>by
  unfold putW
  refine if_neg ?_
  rcases h with rfl | rfl | h
  · simp
  · simp
  · rw [h]; simp
 have hc':b=true∨P=[]∨(lastS P).1=true:=by
  rcases hc with h | h | h
  · exact .inr (.inl h)
  · exact .inl h
  · exact .inr (.inr h)
 have hl:l≠[]:=fun e=>by rw [e] at h0; simp at h0
 unfold segW
 cases b with
 | true =>
  simp only [if_true]
  rw [List.cons_append,List.nil_append,foldW,wd_set hl hn]
  simp only
  rw [hput l hc']
 | false =>
  simp only [Bool.false_eq_true,if_false]
  cases l with
  | nil=>exact absurd rfl hl
  | cons v l =>
   rw [List.map_cons,List.cons_append,foldW,wd_itoa (hn v (by simp))]
   simp only
   rw [hput [v] hc',fold_seq l P [v] rest fun x hx=>hn x (List.mem_cons_of_mem _ hx)]
   simp
theorem fold_words {p:List Seg} (hp:pvd p=true):∀ k,k≤p.length→foldW (wordsP p) []=foldW (wordsP (p.drop k)) (p.take k)
 | 0,_=>by simp
 | k+1,h=>by
  have hk:k < p.length:=by omega
  rw [fold_words hp k (by omega)]
  have e:p.drop k=p[k]::p.drop (k+1):=List.drop_eq_getElem_cons hk
  rw [e]
  show foldW (segW p[k]++wordsP (p.drop (k+1))) _=_
  have hs:=(pvd_iff.1 hp).1 k hk
  unfold segOk at hs
  rw [Bool.and_eq_true,Bool.and_eq_true,getD_lt zS hk] at hs
  rw [fold_seg (pvd_ne hp _ (List.getElem_mem hk)) (fun v hv=>pvd_num hp _ (List.getElem_mem hk) v hv),← List.take_succ_eq_append_getElem hk]
  have h2:=hs.1.2
  rw [Bool.or_eq_true,Bool.or_eq_true] at h2
  rcases h2 with (h2 | h2) | h2
  · have h2:=of_decide_eq_true h2
    subst h2
    exact .inl (by simp)
  · exact .inr (.inl h2)
  · by_cases h0:k=0
    · subst h0; exact .inl (by simp)
    · refine .inr (.inr ?_)
      unfold lastS
      rw [List.length_take,Nat.min_eq_left (by omega),List.getD,List.getElem?_take,if_pos (by omega)]
      exact h2
theorem parse_prt {p:List Seg} (hp:pvd p=true):parseD (prt p)=(p,0):=by
 have h:=fold_words hp p.length (Nat.le_refl _)
 rw [List.drop_length,List.take_length] at h
 unfold parseD
 rw [fields_prt hp,h]
 show parseW (some p) (prt p)=_
 unfold parseW
 simp [hp]
theorem prt_len4 {p:List Seg} (hp:Pv p) (hl:p.length≤3):(prt p).length≤200:=by
 have h1:∀ w∈p.map segT,w.length≤46:=fun w hw=>by
  obtain ⟨s,hs,rfl⟩:=List.mem_map.1 hw
  have h4:=hp.2 s hs
  have hj:∀ c,(joinS s.2 c).length≤44:=fun c=>by
   have:=join_le (c:=c) (k:=10) (ws:=s.2.map Lib.itoa) fun w hw=>by
    obtain ⟨v,hv,rfl⟩:=List.mem_map.1 hw
    exact (itoa_10 (pvd_num hp.1 s hs v hv)).2
   unfold joinS
   rw [List.length_map] at this
   omega
  unfold segT
  split
  · simp; have:=hj 44; omega
  · have:=hj 32; omega
 have:=join_le (c:=32) h1
 rw [List.length_map] at this
 unfold prt
 omega
end Go.Proofs.YtajoneenakjifaaGreatDoor
