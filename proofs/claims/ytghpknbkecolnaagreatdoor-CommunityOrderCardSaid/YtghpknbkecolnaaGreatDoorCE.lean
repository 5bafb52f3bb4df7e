/- Chapter 17, plainly: the words of a text; what the lists of a printed text are read as. -/
import Derived.Test.YtghpknbkecolnaaGreatDoorCD
import Derived.Lib.SpaceUEq
import Derived.Lib.Fields
import Derived.Shelf.Strings.FieldsAny
namespace Go.Proofs.YtghpknbkecolnaaGreatDoor
open Go.VM Go.Txt
set_option maxRecDepth 10000
theorem fieldsU_len:∀ (f:Nat) (cur l:List UInt8),(Lib.fieldsGoU f cur l).length≤cur.length+l.length∧∀ w∈Lib.fieldsGoU f cur l,w.length≤cur.length+l.length
 | 0,cur,l=>by
  unfold Lib.fieldsGoU
  split
  · exact ⟨Nat.zero_le _,fun w hw=>by cases hw⟩
  · rename_i h
    have:=List.length_pos_iff.2 h
    exact ⟨by simp; omega,fun w hw=>by rw [List.mem_singleton.1 hw]; omega⟩
 | f+1,cur,[]=>by
  unfold Lib.fieldsGoU
  split
  · exact ⟨Nat.zero_le _,fun w hw=>by cases hw⟩
  · rename_i h
    have:=List.length_pos_iff.2 h
    exact ⟨by simp; omega,fun w hw=>by rw [List.mem_singleton.1 hw]; omega⟩
 | f+1,cur,b::t=>by
  unfold Lib.fieldsGoU
  split
  · obtain ⟨h1,h2⟩:=fieldsU_len f (cur++[b]) t
    simp only [List.length_append,List.length_cons,List.length_nil] at h1 h2 ⊢
    exact ⟨by omega,fun w hw=>by have:=h2 w hw; omega⟩
  · rename_i hh
    obtain ⟨h1,h2⟩:=fieldsU_len f [] ((b::t).drop (Lib.headSpace (b::t)))
    simp only [List.length_drop,List.length_nil] at h1 h2
    have hc:((if cur=[] then [] else [cur]):List (List UInt8)).length≤cur.length∧∀ w∈((if cur=[] then [] else [cur]):List (List UInt8)),w.length≤cur.length:=by
     split
     · exact ⟨Nat.zero_le _,fun w hw=>by cases hw⟩
     · rename_i h
       have:=List.length_pos_iff.2 h
       exact ⟨by simp; omega,fun w hw=>by rw [List.mem_singleton.1 hw]; omega⟩
    rw [List.length_append]
    refine ⟨by omega,fun w hw=>?_⟩
    rcases List.mem_append.1 hw with hw | hw
    · have:=hc.2 w hw; omega
    · have:=h2 w hw; omega
theorem fields_len (s:List UInt8):(Lib.fieldsD s).length≤s.length∧∀ w∈Lib.fieldsD s,w.length≤s.length:=by
 rw [← Lib.fieldsU_eq]
 have:=fieldsU_len (s.length+1) [] s
 simpa [Lib.fieldsU] using this
/- a word of a printed text -/
def aGo (b:UInt8):Prop:=isD b=true∨b=58
theorem plain_sp {b:UInt8} (h:aGo b):Lib.isSp b=false∧b.toNat < 128∧b≠32:=by
 rcases h with h | rfl
 · unfold isD at h
   have h:=of_decide_eq_true h
   refine ⟨?_,by omega,fun e=>by rw [e] at h; exact absurd h (by decide)⟩
   unfold Lib.isSp
   have ne:∀ k:UInt8,k.toNat < 48→(b==k)=false:=fun k hk=>beq_false_of_ne fun e=>by rw [e] at h; omega
   rw [ne 9 (by decide),ne 10 (by decide),ne 11 (by decide),ne 12 (by decide),ne 13 (by decide),ne 32 (by decide)]; rfl
 · exact ⟨by decide,by decide,by decide⟩
theorem itoa_plain {v:Int} (h:0≤v):∀ b∈Lib.itoa v,isD b=true:=by
 obtain ⟨u,rfl⟩:=Int.eq_ofNat_of_zero_le h
 rw [Lib.itoa_nonneg u]
 exact List.all_eq_true.1 (dd_facts u).2.1
theorem wordC_plain {c:Cm} (h:u2 c):wordC c≠[]∧∀ b∈wordC c,aGo b:=by
 unfold wordC
 refine ⟨by simp,fun b hb=>?_⟩
 rcases List.mem_append.1 hb with hb | hb
 · exact .inl (itoa_plain h.1.1 b hb)
 · rcases List.mem_cons.1 hb with hb | hb
   · exact .inr hb
   · exact .inl (itoa_plain h.2.1 b hb)
theorem wordL_plain {c:Lg} (h:u3 c):wordL c≠[]∧∀ b∈wordL c,aGo b:=by
 unfold wordL
 refine ⟨by simp,fun b hb=>?_⟩
 rcases List.mem_append.1 hb with hb | hb
 · exact .inl (itoa_plain h.1.1 b hb)
 · rcases List.mem_cons.1 hb with hb | hb
   · exact .inr hb
   · rcases List.mem_append.1 hb with hb | hb
     · exact .inl (itoa_plain h.2.1.1 b hb)
     · rcases List.mem_cons.1 hb with hb | hb
       · exact .inr hb
       · exact .inl (itoa_plain h.2.2.1 b hb)
theorem wds_plain {l:List Cm} {m:List Lg} (hl:∀ c∈l,u2 c) (hm:∀ c∈m,u3 c):∀ w∈wds l m,w≠[]∧∀ b∈w,aGo b:=fun w hw=>by
 rcases List.mem_append.1 hw with hw | hw
 · obtain ⟨c,hc,rfl⟩:=List.mem_map.1 hw; exact wordC_plain (hl c hc)
 · obtain ⟨c,hc,rfl⟩:=List.mem_map.1 hw; exact wordL_plain (hm c hc)
theorem go_word:∀ (w cur rest:List UInt8),(∀ b∈w,Lib.isSp b=false)→Lib.fieldsGo cur (w++rest)=Lib.fieldsGo (cur++w) rest
 | [],cur,rest,_=>by simp
 | b::w,cur,rest,h=>by
  rw [List.cons_append,Lib.fieldsGo_more _ _ _ (h b List.mem_cons_self),go_word w _ _ fun x hx=>h x (List.mem_cons_of_mem _ hx)]
  simp
theorem fields_join:∀ (ws:List (List UInt8)),(∀ w∈ws,w≠[]∧∀ b∈w,aGo b)→Lib.fieldsGo [] (Lib.join ws [32])=ws
 | [],_=>rfl
 | [w],h=>by
  obtain ⟨h1,h2⟩:=h w (by simp)
  have:=go_word w [] [] fun b hb=>(plain_sp (h2 b hb)).1
  rw [List.append_nil] at this
  rw [Lib.join_one,this]
  cases w with
  | nil=>exact absurd rfl h1
  | cons b w=>simp [Lib.fieldsGo]
 | w::x::r,h=>by
  obtain ⟨h1,h2⟩:=h w (by simp)
  rw [join_cons2,go_word w [] _ fun b hb=>(plain_sp (h2 b hb)).1,List.nil_append,Lib.fieldsGo_end _ _ _ (by decide) h1,fields_join (x::r) fun y hy=>h y (List.mem_cons_of_mem _ hy)]
theorem join_plain:∀ (ws:List (List UInt8)),(∀ w∈ws,w≠[]∧∀ b∈w,aGo b)→∀ b∈Lib.join ws [32],b.toNat < 128
 | [],_,b,hb=>by simp [Lib.join] at hb
 | [w],h,b,hb=>by
  rw [Lib.join_one] at hb
  exact (plain_sp ((h w (by simp)).2 b hb)).2.1
 | w::x::r,h,b,hb=>by
  rw [join_cons2] at hb
  rcases List.mem_append.1 hb with hb | hb
  · exact (plain_sp ((h w (by simp)).2 b hb)).2.1
  · rcases List.mem_cons.1 hb with rfl | hb
    · decide
    · exact join_plain (x::r) (fun y hy=>h y (List.mem_cons_of_mem _ hy)) b hb
theorem fields_prt {l:List Cm} {m:List Lg} (hl:∀ c∈l,u2 c) (hm:∀ c∈m,u3 c):Lib.fieldsD (prt l m)=wds l m:=by
 have h:=wds_plain hl hm
 unfold prt
 rw [Lib.fieldsD_ascii _ (join_plain _ h)]
 exact fields_join _ h
/- numbers of a word -/
theorem parts_wordC {c:Cm} (h:u2 c):parts 58 (wordC c)=[Lib.itoa c.1,Lib.itoa c.2]:=by
 have e:wordC c=Lib.join [Lib.itoa c.1,Lib.itoa c.2] [58]:=by rw [join_cons2,Lib.join_one]; rfl
 rw [e]
 refine parts_join 58 (by simp) fun w hw=>?_
 simp at hw
 rcases hw with rfl | rfl <;> exact itoa_no (by decide) (by decide)
theorem parts_wordL {c:Lg} (h:u3 c):parts 58 (wordL c)=[Lib.itoa c.1,Lib.itoa c.2.1,Lib.itoa c.2.2]:=by
 have e:wordL c=Lib.join [Lib.itoa c.1,Lib.itoa c.2.1,Lib.itoa c.2.2] [58]:=by rw [join_cons2,join_cons2,Lib.join_one]; rfl
 rw [e]
 refine parts_join 58 (by simp) fun w hw=>?_
 simp at hw
 rcases hw with rfl | rfl | rfl <;> exact itoa_no (by decide) (by decide)
section
variable {pn:List UInt8→Option Int} (hpn:∀ v,u32 v→pn (Lib.itoa v)=some v)
include hpn
theorem PW_C {p:List Cm×List Lg} {c:Cm} (h:u2 c):PW pn p (wordC c)=some (p.1++[c],p.2):=by
 unfold PW aw
 rw [parts_wordC h]
 simp only [List.length_cons,List.length_nil,runF,AF,List.getD_cons_zero,List.getD_cons_succ,hpn _ h.1,hpn _ h.2,Option.map_some,Option.bind_some,List.nil_append,List.cons_append]
theorem PW_L {p:List Cm×List Lg} {c:Lg} (h:u3 c):PW pn p (wordL c)=some (p.1,p.2++[c]):=by
 unfold PW aw
 rw [parts_wordL h]
 simp only [List.length_cons,List.length_nil,runF,AF,List.getD_cons_zero,List.getD_cons_succ,hpn _ h.1,hpn _ h.2.1,hpn _ h.2.2,Option.map_some,Option.bind_some,List.nil_append,List.cons_append]
end
def parse0 (pn:List UInt8→Option Int) (ws:List (List UInt8)):Option (List Cm×List Lg):=runF (fun i p=>PW pn p (ws.getD i [])) ws.length 0 ([],[])
theorem run_words (pn:List UInt8→Option Int) (ws:List (List UInt8)):∀ (vs:List (List UInt8)) (i:Nat) (p:List Cm×List Lg),ws.drop i=vs→runF (fun i p=>PW pn p (ws.getD i [])) vs.length i p=vs.foldlM (PW pn) p
 | [],i,p,_=>rfl
 | v::vs,i,p,h=>by
  have hi:ws.getD i []=v:=by
   have:(ws.drop i)[0]?=some v:=by rw [h]; rfl
   rw [List.getElem?_drop,Nat.add_zero] at this
   rw [List.getD,this]; rfl
  rw [List.length_cons,runF,List.foldlM_cons,hi]
  cases PW pn p v with
  | none=>rfl
  | some q=>exact run_words pn ws vs (i+1) q (by rw [← List.drop_drop,h]; rfl)
theorem parse0_eq (pn:List UInt8→Option Int) (ws:List (List UInt8)):parse0 pn ws=ws.foldlM (PW pn) ([],[]):=run_words pn ws ws 0 _ rfl
theorem parse0_wds {pn:List UInt8→Option Int} (hpn:∀ v,u32 v→pn (Lib.itoa v)=some v) {l:List Cm} {m:List Lg} (hl:∀ c∈l,u2 c) (hm:∀ c∈m,u3 c):parse0 pn (wds l m)=some (l,m):=by
 have kl:∀ (l:List Cm) (p:List Cm×List Lg),(∀ c∈l,u2 c)→(l.map wordC).foldlM (PW pn) p=some (p.1++l,p.2):=by
  intro l
  induction l with
  | nil=>intro p _; simp
  | cons c l ih =>
   intro p h
   rw [List.map_cons,List.foldlM_cons,PW_C hpn (h c List.mem_cons_self)]
   show (l.map wordC).foldlM (PW pn) _=_
   rw [ih _ fun x hx=>h x (List.mem_cons_of_mem _ hx)]
   simp
 have km:∀ (m:List Lg) (p:List Cm×List Lg),(∀ c∈m,u3 c)→(m.map wordL).foldlM (PW pn) p=some (p.1,p.2++m):=by
  intro m
  induction m with
  | nil=>intro p _; simp
  | cons c m ih =>
   intro p h
   rw [List.map_cons,List.foldlM_cons,PW_L hpn (h c List.mem_cons_self)]
   show (m.map wordL).foldlM (PW pn) _=_
   rw [ih _ fun x hx=>h x (List.mem_cons_of_mem _ hx)]
   simp
 rw [parse0_eq]
 unfold wds
 rw [List.foldlM_append,kl l _ hl]
 show (m.map wordL).foldlM (PW pn) _=_
 rw [km m _ hm]
 simp
/- numbers -/
def pnP (x:List UInt8):Option Int:=if (aD4 x).2=true then none else some (aD4 x).1
theorem pnP_itoa (v:Int) (h:u32 v):pnP (Lib.itoa v)=some v:=by
 unfold pnP
 have:=h.1
 have:=h.2
 rw [atoi_itoa (by omega),if_neg (by simp)]
/- results -/
def res (s:List UInt8) (o:Option (List Cm×List Lg)):RR:=match o with
 | some p=>if (vldC p.1&&vldL p.2)=true∧prt p.1 p.2=s then (p.1,p.2,0) else bad
 | none=>bad
theorem vld_u {l:List Cm} {m:List Lg} (h:(vldC l&&vldL m)=true):(∀ c∈l,u2 c)∧(∀ c∈m,u3 c):=by
 rw [Bool.and_eq_true] at h
 exact ⟨fun c hc=>fitC_u (vld_fit h.1 c hc),fun c hc=>fitL_u (vld_fit h.2 c hc)⟩
theorem read_p {l:List Cm} {m:List Lg} (h:(vldC l&&vldL m)=true):parse0 pnP (Lib.fieldsD (prt l m))=some (l,m):=by
 obtain ⟨h1,h2⟩:=vld_u h
 rw [fields_prt h1 h2]
 exact parse0_wds pnP_itoa h1 h2
end Go.Proofs.YtghpknbkecolnaaGreatDoor
