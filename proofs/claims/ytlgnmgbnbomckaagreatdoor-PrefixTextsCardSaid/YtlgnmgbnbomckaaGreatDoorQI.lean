/- Chapter 01, plainly: groups and addresses read by the document's answer. -/
import Derived.Test.YtlgnmgbnbomckaaGreatDoorQF
namespace Go.Proofs.YtlgnmgbnbomckaaGreatDoor
open Go.VM Go.Txt
set_option maxRecDepth 10000
theorem groups_r (N:Nat) {t:List UInt8} (ht:t.length≤100000) (hN:t.length+20 < N):n82 (N+1) t=some (match rg t with | some b=>(b,true) | none=>([],false)):=by
 obtain ⟨N,rfl⟩:∃ M,N=M+1:=⟨N - 1,by omega⟩
 rw [e82]
 unfold rg
 by_cases h0:t=[]
 · subst h0
   rw [if_pos rfl]
   exact bifT rfl rfl
 rw [if_neg h0]
 have hsp:n88 (N+1) (t,[58])=some (parts 58 t):=by rw [e88,← split_parts]; exact aJA ⟨by omega,by simp⟩
 have hpl:(parts 58 t).length≤t.length+1:=by
  rw [parts_length]
  have:=List.count_le_length (a:=(58:UInt8)) (l:=t)
  omega
 refine bifF (by simpa using h0) (bindB hsp (jB ?_))
 refine loopF_go (RG (parts 58 t)) (fun i b=>b.length≤4 * i) (fun i b=>(b,parts 58 t,parts 58 t,aJO (parts 58 t),(i:Int))) (parts 58 t).length (([],false)) (fun b=>(b,true)) [] rfl (by simp) (fun i hi b hb=>?_) (fun b hb=>?_) (by omega) ?_
 · have hd:((i:Int) < aJO (parts 58 t)):=by unfold aJO; omega
   have hx:aEU (parts 58 t) (i:Int)=some ((parts 58 t).getD i []):=by
    rw [aJo (by omega),List.getD,List.getElem?_eq_getElem (by omega)]; rfl
   have hm:(parts 58 t).getD i []∈parts 58 t:=by
    rw [List.getD,List.getElem?_eq_getElem (by omega)]; exact List.getElem_mem _
   have hl:=parts_len hm
   have h9:IntKind.i64.wrap (aJO (parts 58 t) - 1)=((parts 58 t).length:Int) - 1:=wv _ rfl (by omega) (by omega)
   have hw1:IntKind.i64.wrap ((i:Int)+1)=((i+1:Nat):Int):=wv _ rfl (by omega) (by omega)
   have hF:RG (parts 58 t) i b=if i+1=(parts 58 t).length∧Lib.contains ((parts 58 t).getD i []) [46]=true then (r4 ((parts 58 t).getD i [])).map fun c=>b++c else (dig ((parts 58 t).getD i [])).map fun v=>b++[v / 256,v % 256]:=rfl
   rw [hF]
   generalize (parts 58 t).getD i []=w at *
   have h32:n66 (N+1) (w,[46])=some (Lib.contains w [46]):=by rw [e66]; exact aHG (by omega)
   by_cases hc:i+1=(parts 58 t).length∧Lib.contains w [46]=true
   · rw [if_pos hc]
     have he:((i:Int)==((parts 58 t).length:Int) - 1)=true:=beq_iff_eq.2 (by omega)
     have h35:=four_r N (t:=w) (by omega) (by omega)
     cases hr:r4 w with
     | none =>
      rw [hr] at h35
      refine ⟨fun c hc'=>(by cases hc'),fun _=>?_⟩
      exact letB (v:=true) (decide_eq_true hd) (bifT rfl (jB (bindB hx (letB h9 (bindB (v:=true) (bifT he (h32.trans (by rw [hc.2]))) (letB (v:=true) (bifT he rfl) (bifT rfl (bindB h35 (bifT rfl rfl)))))))))
     | some c =>
      rw [hr] at h35
      obtain ⟨_,hc4⟩:=r4_rng hr
      refine ⟨fun c' hc'=>?_,fun hc'=>by cases hc'⟩
      have hc':b++c=c':=Option.some.inj hc'
      subst hc'
      refine ⟨by rw [List.length_append]; omega,?_⟩
      have hap:aH3 1 b c=some (b++c):=aJm (by omega) (by omega)
      exact letB (v:=true) (decide_eq_true hd) (bifT rfl (jB (bindB hx (letB h9 (bindB (v:=true) (bifT he (h32.trans (by rw [hc.2]))) (letB (v:=true) (bifT he rfl) (bifT rfl (bindB h35 (bifF rfl (bindB hap (letB hw1 rfl)))))))))))
   · rw [if_neg hc]
     have hcond:(bif ((i:Int)==((parts 58 t).length:Int) - 1) then (bif ((i:Int)==((parts 58 t).length:Int) - 1) then Lib.contains w [46] else false) else false)=false:=by
      by_cases he:(i:Int)=((parts 58 t).length:Int) - 1
      · have hcf : Lib.contains w [46] = false := by
          cases h:Lib.contains w [46] with
          | false=>rfl
          | true=>exact absurd ⟨by omega,h⟩ hc
        rw [hcf]
        cases ((i:Int)==((parts 58 t).length:Int) - 1) <;> rfl
      · have:((i:Int)==((parts 58 t).length:Int) - 1)=false:=by simpa using he
        rw [this]; rfl
     by_cases h4:1≤w.length∧w.length≤4
     case neg =>
      have hdn:dig w=none:=if_neg h4
      rw [hdn]
      refine ⟨fun c hc'=>(by cases hc'),fun _=>?_⟩
      refine letB (v:=true) (decide_eq_true hd) (bifT rfl (jB (bindB hx (letB h9 (bindB (bC h32 rfl) (letB (v:=false) hcond (bifF rfl (letB rfl (letB rfl (bifT ?_ rfl))))))))))
      unfold aJO
      by_cases h:(w.length:Int) < 1
      · simp [h]
      · have:(w.length:Int) > 4:=by omega
        simp [this]
     have hdg:dig w=runF (F16 (iJ w)) w.length 0 0:=if_pos h4
     have hbl:(iJ w).length=w.length:=by unfold iJ; rw [List.length_map]
     have htb:aBq w=some (iJ w):=if_pos (by omega)
     have hlen:(bif (decide ((aJO w) < (1:Int))) then true else (decide ((aJO w) > (4:Int))))=false:=by
      unfold aJO
      have h1:¬ (w.length:Int) < 1:=by omega
      have h2:¬ (w.length:Int) > 4:=by omega
      simp [h1,h2]
     have key:∀ (bad:(List Int×List (List UInt8)×List (List UInt8)×Int×Int) ⊕ (List Int×Bool)),bad=Sum.inr ([],false)→(match dig w with | some v=>Sum.inl (b++[v / 256,v % 256],parts 58 t,parts 58 t,aJO (parts 58 t),((i+1:Nat):Int)) | none=>bad)=(match dig w with | some v=>Sum.inl (b++[v / 256,v % 256],parts 58 t,parts 58 t,aJO (parts 58 t),((i+1:Nat):Int)) | none=>Sum.inr ([],false)):=fun bad h=>by rw [h]
     suffices hs:∀ r,r=(match dig w with | some v=>Sum.inl (b++[v / 256,v % 256],parts 58 t,parts 58 t,aJO (parts 58 t),((i+1:Nat):Int)) | none=>Sum.inr (([]:List Int),false))→_=some r from by
      constructor
      · intro c hc'
        obtain ⟨v,hv,rfl⟩:=Option.map_eq_some_iff.1 hc'
        refine ⟨by rw [List.length_append]; simp only [List.length_cons,List.length_nil]; omega,?_⟩
        exact hs _ (by rw [hv])
      · intro hn
        exact hs _ (by rw [Option.map_eq_none_iff.1 hn])
     rintro r rfl
     refine letB (v:=true) (decide_eq_true hd) (bifT rfl (jB (bindB hx (letB h9 (bindB (bC h32 rfl) (letB (v:=false) hcond (bifF rfl (letB rfl (letB rfl (bifF hlen (bindB htb (jB ?_))))))))))))
     refine loopF_go (F16 (iJ w)) (fun j v=>0≤v∧v < 16 ^ j) (fun j v=>(b,parts 58 t,v,parts 58 t,aJO (parts 58 t),(i:Int),iJ w,aJO (iJ w),(j:Int))) w.length (Sum.inr (([]:List Int),false)) (fun v=>Sum.inl (b++[v / 256,v % 256],parts 58 t,parts 58 t,aJO (parts 58 t),((i+1:Nat):Int))) 0 rfl ⟨by omega,by decide⟩ (fun j hj v hv=>?_) (fun v hv=>?_) (by omega) ?_
     · have hd2:((j:Int) < aJO (iJ w)):=by unfold aJO; omega
       have hx2:aEU (iJ w) (j:Int)=some ((iJ w).getD j 0):=by
        rw [aJo (by omega),List.getD,List.getElem?_eq_getElem (by omega)]; rfl
       have hcr:=nBytes_getD_rng w j
       have hF2:F16 (iJ w) j v=if digI ((iJ w).getD j 0) < 0 then none else some (v * 16+digI ((iJ w).getD j 0)):=rfl
       rw [hF2]
       generalize (iJ w).getD j 0=c at *
       have hdr:=digI_rng hcr
       have h58:=digit_eq N hcr
       have hpw:(16:Int) ^ (j+1)=16 ^ j * 16:=Int.pow_succ ..
       have hi4:j=0∨j=1∨j=2∨j=3:=by omega
       have hv':v < 4096:=by rcases hi4 with rfl | rfl | rfl | rfl <;> (simp only [Int.reducePow,Int.pow_zero] at hv; omega)
       by_cases hn:digI c < 0
       · rw [if_pos hn]
         refine ⟨fun c' hc'=>(by cases hc'),fun _=>?_⟩
         exact letB (v:=true) (decide_eq_true hd2) (bifT rfl (bindB hx2 (bindB h58 (bifT (decide_eq_true hn) rfl))))
       · rw [if_neg hn]
         refine ⟨fun c' hc'=>?_,fun hc'=>by cases hc'⟩
         have hc':v * 16+digI c=c':=Option.some.inj hc'
         subst hc'
         refine ⟨by rw [hpw]; omega,?_⟩
         exact letB (v:=true) (decide_eq_true hd2) (bifT rfl (bindB hx2 (bindB h58 (bifF (decide_eq_false hn) (letB (v:=v * 16) (wv _ (by show 16 * v=_; omega) (by omega) (by omega)) (letB (v:=v * 16+digI c) (wv _ rfl (by omega) (by omega)) (letB (v:=(j:Int)+1) (wv _ rfl (by omega) (by omega)) rfl)))))))
     · have hd2:¬ ((w.length:Int) < aJO (iJ w)):=by unfold aJO; omega
       have hw4:w.length=1∨w.length=2∨w.length=3∨w.length=4:=by omega
       have hv':v < 65536:=by rcases hw4 with h | h | h | h <;> (rw [h] at hv; simp only [Int.reducePow,Int.pow_zero] at hv; omega)
       have es:aJP IntKind.i64 v 8=v / 256:=by
        rw [aJ4 _ _ _ (by decide),Int.fdiv_eq_ediv_of_nonneg _ (by decide)]; rfl
       have e1:IntKind.u8.wrap (v / 256)=v / 256:=aIH (by omega) (by omega)
       have e2:IntKind.u8.wrap v=v % 256:=aEL v
       refine letB (v:=false) (decide_eq_false hd2) (bifF rfl (leaveB (letB es (letB (v:=[v / 256,v % 256]) ?_ (bindB (aJm ?_ ?_) (letB hw1 rfl))))))
       · show [IntKind.u8.wrap (v / 256),IntKind.u8.wrap v]=_
         rw [e1,e2]
       · simp only [List.length_cons,List.length_nil]; omega
       · simp only [List.length_cons,List.length_nil]; omega
     · rw [hdg]
       cases runF (F16 (iJ w)) w.length 0 0 <;> rfl
 · have hd:¬ (((parts 58 t).length:Int) < aJO (parts 58 t)):=by unfold aJO; omega
   exact letB (v:=false) (decide_eq_false hd) (bifF rfl (leaveB rfl))
 · cases runF (RG (parts 58 t)) (parts 58 t).length 0 [] <;> rfl
theorem rg_rng {t:List UInt8} (ht:t.length≤100000) {b:List Int} (h:rg t=some b):Bs b∧b.length≤400004:=by
 rw [rg_list6] at h
 obtain ⟨l,hl,rfl⟩:=Option.map_eq_some_iff.1 h
 have:=(list6_eq (t.length+1) ht (by omega) true).2 l hl
 exact ⟨two_Bs this.1,by rw [two_len]; omega⟩
theorem index_le (t s:List UInt8):Lib.index t s≤t.length:=by
 rcases Lib.index_spec t s with ⟨h,_⟩ | ⟨j,h,h2,_⟩ <;> omega
theorem rparse_ok (N:Nat) {t:List UInt8} (ht:t.length≤100000) (hN:t.length+100 < N):n56 (N+1) t=some (match parse t with | some a=>(a,0) | none=>((false,0,0),2)):=by
 obtain ⟨N,rfl⟩:∃ M,N=M+20:=⟨N - 20,by omega⟩
 rw [← rparse_eq,e56]
 unfold rparse
 have h32:n66 (N+20) (t,[58])=some (Lib.contains t [58]):=by rw [e66]; exact aHG (by omega)
 cases hc:Lib.contains t [58] with
 | false =>
  rw [hc] at h32
  rw [if_neg (by simp)]
  have h35:=four_r (N+19) (t:=t) (by omega) (by omega)
  cases hr:r4 t with
  | none =>
   rw [hr] at h35
   exact bindB h32 (bifT rfl (bindB h35 (bifT rfl rfl)))
  | some b =>
   rw [hr] at h35
   obtain ⟨b1,b2⟩:=r4_rng hr
   have hf:=from_ok N b1 (.inl b2)
   refine bindB h32 (bifT rfl (bindB h35 (bifF rfl (bindB hf ?_))))
   have h0:=ofB_rng b1 4 (by omega)
   rw [List.take_of_length_le (by omega)] at h0
   have e256:(256:Int) ^ 4=4294967296:=by decide
   rw [e256] at h0
   have:mkA (b.length==16) (ofB b)=(false,0,ofB b):=by
    rw [b2]
    show (false,ofB b / 18446744073709551616,ofB b % 18446744073709551616)=_
    rw [Int.ediv_eq_zero_of_lt (by omega) (by omega),Int.emod_eq_of_lt (by omega) (by omega)]
   rw [this]; rfl
 | true =>
  rw [hc] at h32
  rw [if_pos rfl]
  have h37:n81 (N+20) (t,[58,58])=some (Lib.index t [58,58]):=by rw [e81]; exact aIy (by omega)
  have hle:=index_le t [58,58]
  have hroom:=Lib.index_room t [58,58]
  refine bindB h32 (bifF rfl (bindB h37 ?_))
  by_cases hi:Lib.index t [58,58] < 0
  · rw [if_pos hi]
    refine bifT (decide_eq_true hi) ?_
    have h38:=groups_r (N+19) (t:=t) (by omega) (by omega)
    cases hr:rg t with
    | none =>
     rw [hr] at h38
     exact bindB h38 (letB (v:=true) rfl (bifT rfl rfl))
    | some b =>
     rw [hr] at h38
     obtain ⟨b1,b2⟩:=rg_rng ht hr
     by_cases h16:b.length=16
     · have hf:=from_ok N b1 (.inr h16)
       refine bindB h38 (letB (v:=false) ?_ (bifF rfl (bindB hf ?_)))
       · show ((aJO b) != (16:Int))=false
         unfold aJO; rw [h16]; rfl
       · simp only [h16]
         rfl
     · refine bindB h38 (letB (v:=true) ?_ (bifT rfl ?_))
       · show ((aJO b) != (16:Int))=true
         unfold aJO; simp; omega
       · simp only [h16]
         rfl
  · rw [if_neg hi]
    have hroom:=hroom (by omega)
    simp only [List.length_cons,List.length_nil] at hroom
    obtain ⟨k,hk⟩:∃ k:Nat,Lib.index t [58,58]=k:=⟨_,(Int.toNat_of_nonneg (by omega)).symm⟩
    rw [hk] at hroom hle ⊢
    rw [Int.toNat_natCast]
    have htk:aEV t (k:Int)=some (t.take k):=aJ0 (by omega)
    have hdp:aEW t ((k+2:Nat):Int)=some (t.drop (k+2)):=aJ1 (by omega)
    have lx:(t.take k).length≤t.length:=by rw [List.length_take]; omega
    have ly:(t.drop (k+2)).length≤t.length:=by rw [List.length_drop]; omega
    generalize t.take k=x at *
    generalize t.drop (k+2)=y at *
    have h38x:=groups_r (N+19) (t:=x) (by omega) (by omega)
    have h38y:=groups_r (N+19) (t:=y) (by omega) (by omega)
    have h32x:n66 (N+20) (x,[46])=some (Lib.contains x [46]):=by rw [e66]; exact aHG (by omega)
    have hk2:IntKind.i64.wrap ((k:Int)+2)=((k+2:Nat):Int):=wv _ rfl (by omega) (by omega)
    refine bifF (decide_eq_false (by show ¬ (k:Int) < 0; omega)) (bindB htk ?_)
    cases hx:rg x with
    | none =>
     rw [hx] at h38x
     cases hy:rg y with
     | none =>
      rw [hy] at h38y
      exact bindB h38x (letB hk2 (bindB hdp (bindB h38y (letB (v:=true) rfl (bindB (bifF rfl rfl) (bindB (bifF rfl rfl) (letB rfl (letB (v:=true) rfl (bifT rfl rfl)))))))))
     | some c =>
      rw [hy] at h38y
      exact bindB h38x (letB hk2 (bindB hdp (bindB h38y (letB (v:=true) rfl (bindB (bifF rfl rfl) (bindB (bifF rfl rfl) (letB rfl (letB (v:=true) rfl (bifT rfl rfl)))))))))
    | some b =>
     rw [hx] at h38x
     obtain ⟨b1,b2⟩:=rg_rng (by omega) hx
     cases hy:rg y with
     | none =>
      rw [hy] at h38y
      exact bindB h38x (letB hk2 (bindB hdp (bindB h38y (letB (v:=true) rfl (bindB (bifF rfl rfl) (bindB (bifF rfl rfl) (letB rfl (letB (v:=true) rfl (bifT rfl rfl)))))))))
     | some c =>
      rw [hy] at h38y
      obtain ⟨c1,c2⟩:=rg_rng (by omega) hy
      have hsum:IntKind.i64.wrap (aJO b+aJO c)=((b.length+c.length:Nat):Int):=wv _ (by unfold aJO; omega) (by omega) (by omega)
      simp only
      by_cases hbad:Lib.contains x [46]=true∨b.length+c.length > 14
      · rw [if_pos hbad]
        refine bindB h38x (letB hk2 (bindB hdp (bindB h38y (letB (v:=false) rfl (bindB (bifT rfl htk) (bindB (bifT rfl h32x) (letB hsum (letB (v:=true) ?_ (bifT rfl rfl)))))))))
        show (bif Lib.contains x [46] then true else decide (((b.length+c.length:Nat):Int) > 14))=true
        rcases hbad with h | h
        · rw [h]; rfl
        · rw [decide_eq_true (show ((b.length+c.length:Nat):Int) > 14 by omega)]
          cases Lib.contains x [46] <;> rfl
      · rw [if_neg hbad]
        have hcf:Lib.contains x [46]=false:=by
         cases h:Lib.contains x [46] with
         | false=>rfl
         | true=>exact absurd (.inl h) hbad
        have h14:b.length+c.length≤14:=by
         by_cases h:b.length+c.length > 14
         · exact absurd (.inr h) hbad
         · omega
        refine bindB h38x (letB hk2 (bindB hdp (bindB h38y (letB (v:=false) rfl (bindB (bifT rfl htk) (bindB (bifT rfl h32x) (letB hsum (letB (v:=false) ?_ (bifF rfl (jB ?_))))))))))
        · show (bif Lib.contains x [46] then true else decide (((b.length+c.length:Nat):Int) > 14))=false
          rw [hcf,decide_eq_false (show ¬ ((b.length+c.length:Nat):Int) > 14 by omega)]; rfl
        · refine loopN_seq' (s:=fun j=>(((false,0,0):Ad),b++List.replicate j 0,c)) (16 - b.length - c.length) ?_ (fun j hj=>?_) ?_ (by omega)
          · simp
          · have hs:IntKind.i64.wrap (aJO (b++List.replicate j 0)+aJO c)=((b.length+c.length+j:Nat):Int):=wv _ (by unfold aJO; rw [List.length_append,List.length_replicate]; omega) (by omega) (by omega)
            refine letB hs (bifT (decide_eq_true (by show ((b.length+c.length+j:Nat):Int) < 16; omega)) (bindB (v:=b++List.replicate (j+1) 0) ?_ rfl))
            rw [List.replicate_succ',← List.append_assoc]
            exact aJm (by simp only [List.length_append,List.length_replicate,List.length_singleton]; omega) (by simp only [List.length_append,List.length_replicate,List.length_singleton]; omega)
          · have hs:IntKind.i64.wrap (aJO (b++List.replicate (16 - b.length - c.length) 0)+aJO c)=16:=wv _ (by unfold aJO; rw [List.length_append,List.length_replicate]; omega) (by omega) (by omega)
            have hl16:(b++List.replicate (16 - b.length - c.length) 0++c).length=16:=by simp only [List.length_append,List.length_replicate]; omega
            have hB:Bs (b++List.replicate (16 - b.length - c.length) 0++c):=fun z hz=>by
             rcases List.mem_append.1 hz with hz | hz
             · rcases List.mem_append.1 hz with hz | hz
               · exact b1 z hz
               · rw [(List.mem_replicate.1 hz).2]; omega
             · exact c1 z hz
            have hf:=from_ok N hB (.inr hl16)
            refine letB hs (bifF rfl (leaveB (bindB (aJm ?_ ?_) (bindB hf ?_))))
            · simp only [List.length_append,List.length_replicate]; omega
            · simp only [List.length_append,List.length_replicate]; omega
            · rw [hl16]; rfl
end Go.Proofs.YtlgnmgbnbomckaaGreatDoor
