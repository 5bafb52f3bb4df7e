/- Chapter 01, plainly: texts as the document's answer prints them. -/
import Derived.Test.YtlgnmgbnbomckaaGreatDoorQI
namespace Go.Proofs.YtlgnmgbnbomckaaGreatDoor
open Go.VM Go.Txt
set_option maxRecDepth 10000
theorem hs_snoc (x:List UInt8) (c:UInt8):Lib.hasSuffix (x++[c]) [58]=(c==58):=by
 rw [Bool.eq_iff_iff,beq_iff_eq]
 unfold Lib.hasSuffix
 rw [List.isSuffixOf_iff_suffix]
 constructor
 · rintro ⟨t,ht⟩
   have:=List.append_inj_right' ht rfl
   exact (List.cons.inj this).1.symm
 · rintro rfl; exact ⟨x,rfl⟩
def joint (s:List UInt8):List UInt8:=if s≠[]∧Lib.hasSuffix s [58]=false then s++[58] else s
theorem J_cons2 (a b:Int) (r:List Int):J (a::b::r)=hexW a++58::J (b::r):=join_cons2 _ _ _ _
theorem J_one (g:Int):J [g]=hexW g:=Lib.join_one _ _
theorem J_snoc:∀ (l:List Int) (g:Int),l≠[]→J (l++[g])=J l++(58::hexW g)
 | [],_,h=>absurd rfl h
 | [a],g,_=>by rw [J_one]; show J [a,g]=_; rw [J_cons2,J_one]
 | a::b::r,g,_=>by
  have ih:J (b::(r++[g]))=J (b::r)++(58::hexW g):=J_snoc (b::r) g (by simp)
  show J (a::b::(r++[g]))=_
  rw [J_cons2,ih,J_cons2,List.append_assoc]; rfl
theorem hexW_last {g:Int} (h0:0≤g) (h1:g < 65536):∃ y c,hexW g=y++[c]∧c≠58:=by
 rcases List.eq_nil_or_concat (hexW g) with h | ⟨y,c,h⟩
 · have:=(hexW_length g).1; rw [h] at this; simp at this
 · rw [List.concat_eq_append] at h
   refine ⟨y,c,h,fun hc=>?_⟩
   exact hexW_no h0 h1 (c:=58) (.inr rfl) (by rw [h,hc]; simp)
theorem J_last {l:List Int} (h:G16 l) (hl:l≠[]):∃ y c,J l=y++[c]∧c≠58:=by
 rcases List.eq_nil_or_concat l with e | ⟨m,g,e⟩
 · exact absurd e hl
 · rw [List.concat_eq_append] at e
   have hg:=h g (by rw [e]; simp)
   obtain ⟨y,c,hy,hc⟩:=hexW_last hg.1 hg.2
   by_cases hm:m=[]
   · subst hm
     exact ⟨y,c,by rw [e,List.nil_append,J_one,hy],hc⟩
   · exact ⟨J m++58::y,c,by rw [e,J_snoc m g hm,hy]; simp,hc⟩
/-- A group is put aT a text. -/
theorem put_J {x:List UInt8} (hx:joint x=x) {l:List Int} (h:G16 l) (g:Int):joint (x++J l)++hexW g=x++J (l++[g]):=by
 by_cases hl:l=[]
 · subst hl
   have e:J []=[]:=rfl
   rw [e,List.append_nil,hx,List.nil_append,J_one]
 · obtain ⟨y,c,hy,hc⟩:=J_last h hl
   have e:joint (x++J l)=x++J l++[58]:=by
    unfold joint
    rw [if_pos]
    rw [hy,← List.append_assoc]
    exact ⟨by simp,by rw [hs_snoc]; simpa using hc⟩
   rw [e,J_snoc l g hl]
   simp
theorem joint_nil:joint []=[]:=rfl
theorem joint_two (x:List UInt8):joint (x++[58,58])=x++[58,58]:=by
 unfold joint
 rw [if_neg]
 rintro ⟨_,h⟩
 rw [show x++[58,58]=(x++[58])++[58] by simp,hs_snoc] at h
 cases h
theorem pair_gr (v:Int) {i:Nat} (hi:i < 8):v / 256 ^ (15 - 2 * i) % 256 * 256+v / 256 ^ (15 - (2 * i+1)) % 256=gr v i:=by
 unfold gr
 have e1:15 - (2 * i+1)=2 * (7 - i):=by omega
 have e2:15 - 2 * i=2 * (7 - i)+1:=by omega
 rw [e1,e2,pow_div,Int.pow_mul]
 have e3:(256:Int) ^ 2=65536:=rfl
 rw [e3]
 generalize v / 65536 ^ (7 - i)=t
 omega
noncomputable def pB (N:Nat) (p19:(List (Int)×(Int×(Int×(List UInt8×Int))))):Option (((List (Int)×(Int×(Int×(List UInt8×Int))))) ⊕ List UInt8) :=
 aJy (decide (p19.2.2.2.2 < (8:Int))) fun v20 =>
 bif v20 then (aBJ (fun (p21:(List (Int)×(Int×(Int×(List UInt8×Int))))) =>
 aJy (IntKind.i64.wrap (p21.2.2.2.2+(1:Int))) fun v23 =>
 tN (p21.1,p21.2.1,p21.2.2.1,p21.2.2.2.1,v23)) fun j22 =>
 bif (p19.2.2.2.2==p19.2.1) then ((aJt p19.2.2.2.1 ([58,58]:List UInt8)).bind fun v24 =>
 aJy (IntKind.i64.wrap (p19.2.2.1 - (1:Int))) fun v25 =>
 aJy (IntKind.i64.wrap (p19.2.2.2.2+v25)) fun v26 =>
 j22 (p19.1,p19.2.1,p19.2.2.1,v24,v26)) else (aJy (!(p19.2.2.2.1==([]:List UInt8))) fun v27 =>
 (bif v27 then (n52 N (p19.2.2.2.1,([58]:List UInt8))) else some false).bind fun v28 =>
 aJy (bif v27 then (!v28) else false) fun v29 =>
 aBJ (fun (p30:(List (Int)×(Int×(Int×(List UInt8×Int))))) =>
 aJy (IntKind.i64.wrap ((2:Int) * p30.2.2.2.2)) fun v32 =>
 (aEU p30.1 v32).bind fun v33 =>
 aJy (aIc IntKind.u64 (IntKind.u64.wrap v33) 8) fun v34 =>
 aJy (IntKind.i64.wrap ((2:Int) * p30.2.2.2.2)) fun v35 =>
 aJy (IntKind.i64.wrap (v35+(1:Int))) fun v36 =>
 (aEU p30.1 v36).bind fun v37 =>
 aJy (bits .or IntKind.u64 v34 (IntKind.u64.wrap v37)) fun v38 =>
 (n53 N (v38,(16:Int))).bind fun v39 =>
 (aJt p30.2.2.2.1 v39).bind fun v40 =>
 j22 (p30.1,p30.2.1,p30.2.2.1,v40,p30.2.2.2.2)) fun j31 =>
 bif v29 then ((aJt p19.2.2.2.1 ([58]:List UInt8)).bind fun v41 =>
 j31 (p19.1,p19.2.1,p19.2.2.1,v41,p19.2.2.2.2)) else (j31 (p19.1,p19.2.1,p19.2.2.1,p19.2.2.2.1,p19.2.2.2.2)))) else (lJ (some p19.2.2.2.1))
def bg (v:Int) (i:Nat):Int:=v / 256 ^ (15 - i) % 256
theorem bg_rng (v:Int) (i:Nat):0≤bg v i∧bg v i≤255:=by unfold bg; omega
theorem bg_get (v:Int) {i:Nat} (h:i < 16):aEU (beI 16 v) (i:Int)=some (bg v i):=by
 rw [aJo (by rw [beI_length]; exact h),beI_get 16 v i h]; rfl
theorem bg_pair (v:Int) {i:Nat} (hi:i < 8):bg v (2 * i) * 256+bg v (2 * i+1)=gr v i:=pair_gr v hi
theorem gsL_get (v:Int) {i:Nat} (h:i < 8):(gsL v)[i]?=some (gr v i):=by
 have:i=0∨i=1∨i=2∨i=3∨i=4∨i=5∨i=6∨i=7:=by omega
 rcases this with rfl | rfl | rfl | rfl | rfl | rfl | rfl | rfl <;> rfl
theorem put_group (N : Nat) (v : Int) {at' most : Int} {x : List UInt8} {l : List Int} {i : Nat} (hi : i < 8) (hne : (i : Int) ≠ at') (hx : joint x = x) (hG : G16 l) (hl : l.length ≤ 8) (hx2 : x.length ≤ 100) :
  pB (N+20) (beI 16 v,at',most,x++J l,(i:Int))=some (.inl (beI 16 v,at',most,x++J (l++[gr v i]),((i+1:Nat):Int))):=by
 unfold pB
 have hd:((i:Int) < 8):=by omega
 have hJ:=J_len l
 have hput:=put_J hx hG (gr v i)
 have hgr:=gr_rng v i
 have hhl:=hexW_length (gr v i)
 have hsl:(x++J l).length≤140:=by rw [List.length_append]; omega
 have b1:=bg_rng v (2 * i)
 have b2:=bg_rng v (2 * i+1)
 have hbe:((i:Int)==at')=false:=by simpa using hne
 generalize hs:x++J l=s at *
 have h23:n52 (N+20) (s,[58])=some (Lib.hasSuffix s [58]):=by rw [e52]; exact aGm (by omega)
 refine letB (v:=true) (decide_eq_true hd) (bifT rfl (jB (bifF hbe (letB rfl (bindB (bC h23 rfl) (letB rfl (jB ?_)))))))
 have tail:∀ s':List UInt8,s'=joint s→(aJy (IntKind.i64.wrap ((2:Int) * (i:Int))) fun v32 =>
 (aEU (beI 16 v) v32).bind fun v33 =>
 aJy (aIc IntKind.u64 (IntKind.u64.wrap v33) 8) fun v34 =>
 aJy (IntKind.i64.wrap ((2:Int) * (i:Int))) fun v35 =>
 aJy (IntKind.i64.wrap (v35+(1:Int))) fun v36 =>
 (aEU (beI 16 v) v36).bind fun v37 =>
 aJy (bits .or IntKind.u64 v34 (IntKind.u64.wrap v37)) fun v38 =>
 (n53 (N+20) (v38,(16:Int))).bind fun v39 =>
 (aJt s' v39).bind fun v40 =>
 aJy (IntKind.i64.wrap ((i:Int)+(1:Int))) fun v23 =>
 (tN (beI 16 v, at', most, v40, v23) : Option (((List (Int) × (Int × (Int × (List UInt8 × Int))))) ⊕ List UInt8))) = some (.inl (beI 16 v, at', most, x ++ J (l ++ [gr v i]), ((i + 1 : Nat) : Int))) := by
  intro s' hs'
  have h2:IntKind.i64.wrap ((2:Int) * (i:Int))=((2 * i:Nat):Int):=wv _ (by omega) (by omega) (by omega)
  have h3:IntKind.i64.wrap (((2 * i:Nat):Int)+1)=((2 * i+1:Nat):Int):=wv _ (by omega) (by omega) (by omega)
  have e47:(2:Int) ^ 8=256:=rfl
  have h4:aIc IntKind.u64 (IntKind.u64.wrap (bg v (2 * i))) 8=bg v (2 * i) * 256:=by
   rw [shl64 (by decide),e47,aJJ]; omega
  have h5:bits .or IntKind.u64 (bg v (2 * i) * 256) (IntKind.u64.wrap (bg v (2 * i+1)))=gr v i:=by
   rw [aJJ,Int.emod_eq_of_lt (by omega) (by omega),← bg_pair v hi]
   exact or64 8 ⟨by omega,by omega⟩ ⟨bg v (2 * i),by rw [e47,Int.mul_comm]⟩ (by omega) (by rw [e47]; omega) (by decide)
  have hj:s'.length≤141:=by
   rw [hs']; unfold joint
   split
   · rw [List.length_append]; simp only [List.length_singleton]; omega
   · omega
  refine letB h2 (bindB (bg_get v (by omega)) (letB h4 (letB h2 (letB h3 (bindB (bg_get v (by omega)) (letB h5 (bindB (hex_eq (N+8) hgr.1 hgr.2) (bindB (v:=s'++hexW (gr v i)) (if_pos (by omega)) (letB (v:=((i+1:Nat):Int)) (wv _ (by omega) (by omega) (by omega)) ?_)))))))))
  rw [hs',hput]; rfl
 by_cases hj:s≠[]∧Lib.hasSuffix s [58]=false
 · have hse:(s==[])=false:=by simpa using hj.1
   refine bifT (by rw [hse,hj.2]; rfl) (bindB (v:=s++[58]) (if_pos (by simp only [List.length_singleton]; omega)) (tail _ ?_))
   unfold joint; rw [if_pos hj]
 · refine bifF ?_ (tail _ ?_)
   · by_cases h0:s=[]
     · subst h0; rfl
     · have hse:(s==[])=false:=by simpa using h0
       have:Lib.hasSuffix s [58]=true:=by
        cases h:Lib.hasSuffix s [58] with
        | true=>rfl
        | false=>exact absurd ⟨h0,h⟩ hj
       rw [hse,this]; rfl
   · unfold joint; rw [if_neg hj]
theorem put_zeros (N : Nat) (v : Int) {A m : Nat} {x : List UInt8} (h : A + m ≤ 8) (hm : 1 ≤ m) (hx2 : x.length ≤ 100) :
  pB N (beI 16 v,(A:Int),(m:Int),x,(A:Int))=some (.inl (beI 16 v,(A:Int),(m:Int),x++[58,58],((A+m:Nat):Int))):=by
 unfold pB
 have hd:((A:Int) < 8):=by omega
 refine letB (v:=true) (decide_eq_true hd) (bifT rfl (jB (bifT (by simp) (bindB (v:=x++[58,58]) (if_pos (by simp only [List.length_cons,List.length_nil]; omega)) (letB (v:=(m:Int) - 1) (wv _ rfl (by omega) (by omega)) (letB (v:=((A+m:Nat):Int) - 1) (wv _ (by show (A:Int)+((m:Int) - 1)=_; omega) (by omega) (by omega)) (letB (v:=((A+m:Nat):Int)) (wv _ (by show ((A+m:Nat):Int) - 1+1=_; omega) (by omega) (by omega)) rfl)))))))
theorem put_end (N:Nat) (b:List Int) (at' most:Int) (s:List UInt8):pB N (b,at',most,s,8)=some (.inr s):=letB (v:=false) rfl (bifF rfl (leaveB rfl))
theorem G16_take {v:Int} (k:Nat):G16 ((gsL v).take k):=fun g hg=>gsL_rng v g (List.mem_of_mem_take hg)
theorem G16_drop {v:Int} (j k:Nat):G16 (((gsL v).drop j).take k):=fun g hg=>gsL_rng v g (List.mem_of_mem_drop (List.mem_of_mem_take hg))
theorem lgM_ge (z:List Bool):∀ i,(lgM z i).2=0∨2≤(lgM z i).2
 | 0=>.inl rfl
 | i+1=>by
  have ih:=lgM_ge z i
  simp only [lgM,lgStep]
  split
  · right; simp only; omega
  · exact ih
/-- The text grows group by group. -/
theorem grow (N M:Nat) (hM:20 < M) (v:Int):eG M (pB (N+20)) (beI 16 v,(if (lgM (zs (gsL v)) 8).2=0 then -1 else ((lgM (zs (gsL v)) 8).1:Int)),((max (lgM (zs (gsL v)) 8).2 1:Nat):Int),[],0)=some (txt6 v):=by
 have hle:=lgM_le (zs (gsL v)) rfl 8 (Nat.le_refl _)
 have hge:=lgM_ge (zs (gsL v)) 8
 unfold txt6
 generalize (lgM (zs (gsL v)) 8).1=A at *
 generalize (lgM (zs (gsL v)) 8).2=m at *
 have hg8:(gsL v).length=8:=rfl
 by_cases h0:m=0
 · rw [if_pos h0,if_pos h0]
   subst h0
   refine loopN_seq' (s:=fun k=>(beI 16 v,(-1:Int),((max 0 1:Nat):Int),[]++J ((gsL v).take k),(k:Int))) 8 rfl (fun k hk=>?_) ?_ (m:=M) (by omega)
   · have:=put_group N v (at':=-1) (most:=((max 0 1:Nat):Int)) (x:=[]) (l:=(gsL v).take k) hk (by omega) joint_nil (G16_take k) (by rw [List.length_take]; omega) (by simp)
     rw [this,List.take_add_one,gsL_get v hk,Option.toList_some]
   · exact put_end _ _ _ _ _
 · rw [if_neg h0,if_neg h0]
   have hmax:max m 1=m:=by omega
   rw [hmax]
   have hJA:(J ((gsL v).take A)++[58,58]).length≤100:=by
    have:=J_len ((gsL v).take A)
    rw [List.length_take] at this
    rw [List.length_append]; simp only [List.length_cons,List.length_nil]; omega
   refine loopN_seq' (s:=fun k=>if k≤A then (beI 16 v,(A:Int),(m:Int),[]++J ((gsL v).take k),(k:Int)) else (beI 16 v,(A:Int),(m:Int),(J ((gsL v).take A)++[58,58])++J (((gsL v).drop (A+m)).take (k - (A+1))),((A+m+(k - (A+1)):Nat):Int))) (A+1+(8 - A - m)) ?_ (fun k hk=>?_) ?_ (by omega)
   · rw [if_pos (Nat.zero_le _)]; rfl
   · rcases Nat.lt_trichotomy k A with hlt | heq | hgt
     · rw [if_pos (by omega),if_pos (by omega)]
       have:=put_group N v (at':=(A:Int)) (most:=(m:Int)) (x:=[]) (l:=(gsL v).take k) (i:=k) (by omega) (by omega) joint_nil (G16_take k) (by rw [List.length_take]; omega) (by simp)
       rw [this,List.take_add_one,gsL_get v (by omega),Option.toList_some]
     · subst heq
       rw [if_pos (Nat.le_refl _),if_neg (by omega)]
       have hJ:=J_len ((gsL v).take k)
       rw [List.length_take] at hJ
       have:=put_zeros (N+20) v (A:=k) (m:=m) (x:=[]++J ((gsL v).take k)) (by omega) (by omega) (by rw [List.nil_append]; omega)
       rw [this]
       simp [J,Lib.join_nil]
     · rw [if_neg (by omega),if_neg (by omega)]
       obtain ⟨j,rfl⟩:∃ j,k=A+1+j:=⟨k - (A+1),by omega⟩
       have ej:A+1+j - (A+1)=j:=by omega
       have ej2:A+1+j+1 - (A+1)=j+1:=by omega
       rw [ej,ej2]
       have:=put_group N v (at':=(A:Int)) (most:=(m:Int)) (x:=J ((gsL v).take A)++[58,58]) (l:=((gsL v).drop (A+m)).take j) (i:=A+m+j) (by omega) (by omega) (joint_two _) (G16_drop _ _) (by rw [List.length_take]; omega) hJA
       rw [this,List.take_add_one,List.getElem?_drop,gsL_get v (by omega),Option.toList_some]
       rfl
   · rw [if_neg (by omega)]
     have e1:A+1+(8 - A - m) - (A+1)=8 - A - m:=by omega
     have e3:((gsL v).drop (A+m)).take (8 - A - m)=(gsL v).drop (A+m):=List.take_of_length_le (by rw [List.length_drop]; omega)
     rw [e1,e3]
     have e2:((A+m+(8 - A - m):Nat):Int)=8:=by omega
     rw [e2,put_end,List.append_assoc]
end Go.Proofs.YtlgnmgbnbomckaaGreatDoor
