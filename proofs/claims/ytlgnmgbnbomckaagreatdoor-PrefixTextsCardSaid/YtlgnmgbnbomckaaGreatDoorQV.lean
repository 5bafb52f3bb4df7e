/- Chapter 01, plainly: texts read. -/
import Derived.Test.YtlgnmgbnbomckaaGreatDoorQS
namespace Go.Proofs.YtlgnmgbnbomckaaGreatDoor
open Go.VM Go.Txt
set_option maxRecDepth 10000
/-- Rounds that may end early. -/
def runF {A:Type} (F:Nat→A→Option A):Nat→Nat→A→Option A
 | 0,_,a=>some a
 | m+1,i,a=>(F i a).bind (runF F m (i+1))
theorem loopN_F {α R A : Type} {body : α → Option (α ⊕ R)} (F : Nat → A → Option A) (P : Nat → A → Prop) (s : Nat → A → α) (n : Nat) (bad : R) (fin : A → R)
  (h:∀ i,i < n→∀ a,P i a→(∀ b,F i a=some b→P (i+1) b∧body (s i a)=some (.inl (s (i+1) b)))∧(F i a=none→body (s i a)=some (.inr bad)))
  (he:∀ a,P n a→body (s n a)=some (.inr (fin a))):∀ (m i:Nat) (a:A),i+m=n→P i a→∀ M,m < M→eG M body (s i a)=some (match runF F m i a with | some b=>fin b | none=>bad)∧∀ b,runF F m i a=some b→P n b
 | 0,i,a,hi,hP,M+1,hM=>by
  have:i=n:=by omega
  subst this
  exact ⟨by simp only [eG,he a hP,runF],fun b hb=>by cases hb; exact hP⟩
 | m+1,i,a,hi,hP,M+1,hM=>by
  obtain ⟨h1,h2⟩:=h i (by omega) a hP
  cases hF:F i a with
  | none=>exact ⟨by simp only [eG,h2 hF,runF,hF,Option.bind_none],fun b hb=>by simp only [runF,hF,Option.bind_none] at hb; cases hb⟩
  | some b =>
   obtain ⟨h3,h4⟩:=h1 b hF
   obtain ⟨k1,k2⟩:=loopN_F F P s n bad fin h he m (i+1) b (by omega) h3 M (by omega)
   refine ⟨?_,?_⟩
   · simp only [eG,h4,runF,hF,Option.bind_some]; exact k1
   · simp only [runF,hF,Option.bind_some]; exact k2
theorem runF_seq {A:Type} {F:Nat→A→Option A} (e:Nat→A):∀ (m i:Nat),(∀ j,i≤j→j < i+m→F j (e j)=some (e (j+1)))→runF F m i (e i)=some (e (i+m))
 | 0,_,_=>rfl
 | m+1,i,h=>by
  rw [runF,h i (Nat.le_refl _) (by omega),Option.bind_some,runF_seq e m (i+1) fun j h1 h2=>h j (by omega) (by omega),show i+1+m=i+(m+1) by omega]
/- four numbers -/
def num4 (w:List UInt8):Option Int:=if (aD4 w).2=false∧0≤(aD4 w).1∧(aD4 w).1≤255∧Lib.itoa (aD4 w).1=w then some (aD4 w).1 else none
def F4 (ps:List (List UInt8)) (i:Nat) (v:Int):Option Int:=(num4 (ps.getD i [])).map fun d=>v * 256+d
def four (t:List UInt8):Option Int:=if (parts 46 t).length=4 then runF (F4 (parts 46 t)) 4 0 0 else none
theorem num4_rng {w:List UInt8} {d:Int} (h:num4 w=some d):0≤d∧d≤255:=by
 unfold num4 at h
 split at h
 · rename_i hh; cases h; omega
 · cases h
theorem parts_len {c:UInt8} {s w:List UInt8} (h:w∈parts c s):w.length≤s.length:=by
 induction s generalizing w with
 | nil=>rw [parts,List.mem_singleton] at h; subst h; exact Nat.le_refl _
 | cons b l ih =>
  by_cases hb:b=c
  · rw [parts,if_pos hb] at h
    rcases List.mem_cons.1 h with rfl | h
    · exact Nat.zero_le _
    · have:=ih h; simp only [List.length_cons]; omega
  · obtain ⟨x,t,e1,e2⟩:=parts_hd c b l hb
    rw [e2] at h
    rcases List.mem_cons.1 h with rfl | h
    · have:=ih (w:=x) (by rw [e1]; exact List.mem_cons_self ..)
      simp only [List.length_cons]; omega
    · have:=ih (by rw [e1]; exact List.mem_cons_of_mem _ h); simp only [List.length_cons]; omega
theorem four_eq (N:Nat) {t:List UInt8} (ht:t.length≤100000):n67 (N+20) t=some (match four t with | some v=>((false,0,v),true) | none=>((false,0,0),false))∧∀ v,four t=some v→0≤v∧v < 4294967296:=by
 have hsp:n88 (N+19) (t,[46])=some (parts 46 t):=by rw [e88,← split_parts]; exact aJA ⟨by omega,by simp⟩
 rw [e67]
 by_cases h4:(parts 46 t).length=4
 case neg =>
  have e:four t=none:=if_neg h4
  rw [e]
  exact ⟨bindB hsp (bifT (by unfold aJO; simp; omega) rfl),fun v hv=>by cases hv⟩
 have e:four t=runF (F4 (parts 46 t)) 4 0 0:=if_pos h4
 rw [e]
 have key:=loopN_F (body:=fun (p3:((Bool×Int×Int)×((Bool×Int×Int)×(List (List UInt8)×(Int×Int))))) =>
 aJy (decide (p3.2.2.2.2 < p3.2.2.2.1)) fun v4 =>
 bif v4 then ((aEU p3.2.2.1 p3.2.2.2.2).bind fun v5 =>
 (n70 (N+19) v5).bind fun v6 =>
 aJy (bif (true != !v6.2) then true else (decide (v6.1 < (0:Int)))) fun v7 =>
 aJy (decide (v6.1 > (255:Int))) fun v8 =>
 (bif (!(bif v7 then true else v8)) then (n48 (N+19) v6.1) else some ([]:List UInt8)).bind fun v9 =>
 aJy (bif (bif v7 then true else v8) then true else (!(v9==v5))) fun v10 =>
 bif v10 then (lJ (some ((false,(0:Int),(0:Int)),false))) else (aJy (aIc IntKind.u64 p3.2.1.2.2 8) fun v11 =>
 aJy (bits .or IntKind.u64 v11 (IntKind.u64.wrap v6.1)) fun v12 =>
 aJy (IntKind.i64.wrap (p3.2.2.2.2+(1:Int))) fun v13 =>
 tN (p3.1, (p3.2.1.1, p3.2.1.2.1, v12), p3.2.2.1, p3.2.2.2.1, v13))) else (lJ (some (p3.2.1, true)))) (F4 (parts 46 t)) (fun i v => 0 ≤ v ∧ v < 256 ^ i) (fun i v => (((false, 0, 0) : Ad), ((false, 0, v) : Ad), parts 46 t, aJO (parts 46 t), (i : Int))) 4 ((((false, 0, 0) : Ad), false)) (fun v => (((false, 0, v) : Ad), true)) (fun i hi v hv => by
     have hd:((i:Int) < aJO (parts 46 t)):=by unfold aJO; omega
     have hx:aEU (parts 46 t) (i:Int)=some ((parts 46 t).getD i []):=by
      rw [aJo (by omega),List.getD,List.getElem?_eq_getElem (by omega)]; rfl
     have hm:(parts 46 t).getD i []∈parts 46 t:=by
      rw [List.getD,List.getElem?_eq_getElem (by omega)]; exact List.getElem_mem _
     have hl:=parts_len hm
     generalize hw:(parts 46 t).getD i []=w at *
     have ha:n70 (N+19) w=some (aD4 w):=by rw [e70]; exact aJ7 (by omega)
     have hF:F4 (parts 46 t) i v=(num4 w).map fun d=>v * 256+d:=by rw [F4,hw]
     rw [hF]
     obtain ⟨r,hr⟩:∃ r,r=(num4 w).map fun d=>v * 256+d:=⟨_,rfl⟩
     by_cases hk:(aD4 w).2=false∧0≤(aD4 w).1∧(aD4 w).1≤255
     · obtain ⟨k1,k2,k3⟩:=hk
       have hi31:n48 (N+19) (aD4 w).1=some (Lib.itoa (aD4 w).1):=by rw [e48]; exact aJ6 ⟨by omega,by omega⟩
       by_cases hk4:Lib.itoa (aD4 w).1=w
       · have hn:num4 w=some (aD4 w).1:=if_pos ⟨k1,k2,k3,hk4⟩
         rw [hn]
         refine ⟨fun b hb=>?_,fun hb=>by cases hb⟩
         have hb:v * 256+(aD4 w).1=b:=Option.some.inj hb
         subst hb
         have hpw:(256:Int) ^ (i+1)=256 ^ i * 256:=Int.pow_succ ..
         refine ⟨by rw [hpw]; omega,?_⟩
         have hi4:i=0∨i=1∨i=2∨i=3:=by omega
         have hv':v < 16777216:=by rcases hi4 with rfl | rfl | rfl | rfl <;> (simp only [Int.reducePow,Int.pow_zero] at hv; omega)
         refine letB (v:=true) (decide_eq_true hd) (bifT rfl (bindB hx (bindB ha (letB (v:=false) ?_ (letB (v:=false) (decide_eq_false (by omega)) (bindB (bifT rfl hi31) (letB (v:=false) ?_ (bifF rfl (letB rfl (letB (v:=v * 256+(aD4 w).1) ?_ (letB (v:=(i:Int)+1) (wv _ rfl (by omega) (by omega)) rfl)))))))))))
         · rw [k1]; simp; omega
         · rw [hk4]; simp
         · show bits .or .u64 (aIc .u64 v 8) (IntKind.u64.wrap (aD4 w).1)=_
           have e11:(2:Int) ^ 8=256:=rfl
           rw [shl64 (by decide),e11,aJJ,Int.emod_eq_of_lt (a:=v * 256) (by omega) (by omega),Int.emod_eq_of_lt (a:=(aD4 w).1) (by omega) (by omega)]
           exact or64 8 ⟨by omega,by omega⟩ ⟨v,by rw [e11,Int.mul_comm]⟩ (by omega) (by rw [e11]; omega) (by decide)
       · have hn:num4 w=none:=if_neg fun hh=>hk4 hh.2.2.2
         rw [hn]
         refine ⟨fun b hb=>(by cases hb),fun _=>?_⟩
         refine letB (v:=true) (decide_eq_true hd) (bifT rfl (bindB hx (bindB ha (letB (v:=false) ?_ (letB (v:=false) (decide_eq_false (by omega)) (bindB (bifT rfl hi31) (letB (v:=true) ?_ (bifT rfl rfl))))))))
         · rw [k1]; simp; omega
         · have:(Lib.itoa (aD4 w).1==w)=false:=by simpa using hk4
           rw [this]; rfl
     · have hn:num4 w=none:=if_neg fun hh=>hk ⟨hh.1,hh.2.1,hh.2.2.1⟩
       rw [hn]
       refine ⟨fun b hb=>(by cases hb),fun _=>?_⟩
       have hq:(bif (bif (true != !(aD4 w).2) then true else decide ((aD4 w).1 < 0)) then true else decide ((aD4 w).1 > 255))=true:=by
        cases h2:(aD4 w).2 with
        | true=>rfl
        | false =>
         by_cases h3:(aD4 w).1 < 0
         · simp [h3]
         · have h4 : (aD4 w).1 > 255 := by
             by_cases h5:(aD4 w).1 > 255
             · exact h5
             · exact absurd ⟨h2,by omega,by omega⟩ hk
           simp [h4]
       refine letB (v:=true) (decide_eq_true hd) (bifT rfl (bindB hx (bindB ha (letB rfl (letB rfl (bindB (bifF (by rw [hq]; rfl) rfl) (letB (v:=true) (by rw [hq]; rfl) (bifT rfl rfl))))))))) (fun v hv=>by
     have hd:¬ (((4:Nat):Int) < aJO (parts 46 t)):=by unfold aJO; omega
     exact letB (v:=false) (decide_eq_false hd) (bifF rfl rfl)) 4 0 0 rfl ⟨by omega,by decide⟩ (N+19) (by omega)
 refine ⟨bindB hsp (bifF (by unfold aJO; rw [h4]; rfl) (jB (key.1.trans ?_))),fun v hv=>?_⟩
 · cases runF (F4 (parts 46 t)) 4 0 0 <;> rfl
 · have:=key.2 v hv
   simpa using this
/- hex digits -/
abbrev low16:List UInt8:=[48,49,50,51,52,53,54,55,56,57,97,98,99,100,101,102]
def digI (c:Int):Int:=if 65≤c∧c≤70 then c - 55 else Lib.indexByte low16 c.toNat.toUInt8
theorem digI_rng {c:Int} (h:0≤c∧c≤255):-1≤digI c∧digI c≤15:=by
 obtain ⟨k,rfl⟩:=Int.eq_ofNat_of_zero_le h.1
 have:∀ k:Fin 256,-1≤digI (k.val:Int)∧digI (k.val:Int)≤15:=by decide +kernel
 exact this ⟨k,by omega⟩
theorem digI_hex {d:Int} (h:0≤d∧d < 16):digI (hexI d)=d:=by
 obtain ⟨k,rfl⟩:=Int.eq_ofNat_of_zero_le h.1
 have:∀ k:Fin 16,digI (hexI (k.val:Int))=(k.val:Int):=by decide +kernel
 exact this ⟨k,by omega⟩
def F16 (l:List Int) (i:Nat) (v:Int):Option Int:=if digI (l.getD i 0) < 0 then none else some (v * 16+digI (l.getD i 0))
def dig (w:List UInt8):Option Int:=if 1≤w.length∧w.length≤4 then runF (F16 (iJ w)) w.length 0 0 else none
theorem dig_eq (N:Nat) (w:List UInt8):n115 (N+20) w=some (match dig w with | some v=>(v,true) | none=>(0,false))∧∀ v,dig w=some v→0≤v∧v < 65536:=by
 rw [e115]
 by_cases h4:1≤w.length∧w.length≤4
 case neg =>
  have e:dig w=none:=if_neg h4
  rw [e]
  refine ⟨letB rfl (letB rfl (bifT ?_ rfl)),fun v hv=>by cases hv⟩
  unfold aJO
  by_cases h:(w.length:Int) < 1
  · simp [h]
  · have:(w.length:Int) > 4:=by omega
    simp [this]
 have e:dig w=runF (F16 (iJ w)) w.length 0 0:=if_pos h4
 rw [e]
 have hbl:(iJ w).length=w.length:=by unfold iJ; rw [List.length_map]
 have htb:aBq w=some (iJ w):=if_pos (by omega)
 have key:=loopN_F (body:=fun (p5:(Int×(List (Int)×(Int×Int)))) =>
 aJy (decide (p5.2.2.2 < p5.2.2.1)) fun v6 =>
 bif v6 then ((aEU p5.2.1 p5.2.2.2).bind fun v7 =>
 (n135 (N+19) (low16,v7)).bind fun v8 =>
 aJy (bif (decide (v7≥(65:Int))) then (decide (v7≤(70:Int))) else false) fun v9 =>
 aBJ (fun (p10:(Int×(Int×(List (Int)×(Int×Int))))) =>
 aJy (decide (p10.2.1 < (0:Int))) fun v12 =>
 bif v12 then (lJ (some ((0:Int),false))) else (aJy (bits .or IntKind.u64 (aIc IntKind.u64 p10.1 4) (IntKind.u64.wrap p10.2.1)) fun v13 =>
 aJy (IntKind.i64.wrap (p10.2.2.2.2+(1:Int))) fun v14 =>
 tN (v13,p10.2.2.1,p10.2.2.2.1,v14))) fun j11 =>
 bif v9 then (aJy (IntKind.u8.wrap (v7 - (65:Int))) fun v15 =>
 aJy (IntKind.i64.wrap ((IntKind.i64.wrap v15)+(10:Int))) fun v16 =>
 j11 (p5.1, v16, p5.2.1, p5.2.2.1, p5.2.2.2)) else (j11 (p5.1, v8, p5.2.1, p5.2.2.1, p5.2.2.2))) else (lJ (some (p5.1, true)))) (F16 (iJ w)) (fun i v => 0 ≤ v ∧ v < 16 ^ i) (fun i v => (v, iJ w, aJO (iJ w), (i : Int))) w.length (((0 : Int), false)) (fun v => (v, true)) (fun i hi v hv => by
     have hd:((i:Int) < aJO (iJ w)):=by unfold aJO; omega
     have hx:aEU (iJ w) (i:Int)=some ((iJ w).getD i 0):=by
      rw [aJo (by omega),List.getD,List.getElem?_eq_getElem (by omega)]; rfl
     have hm:(iJ w).getD i 0∈iJ w:=by
      rw [List.getD,List.getElem?_eq_getElem (by omega)]; exact List.getElem_mem _
     have hc:=aIG w _ hm
     have hF:F16 (iJ w) i v=if digI ((iJ w).getD i 0) < 0 then none else some (v * 16+digI ((iJ w).getD i 0)):=rfl
     rw [hF]
     generalize (iJ w).getD i 0=c at *
     have hdr:=digI_rng hc
     have h95:n135 (N+19) (low16,c)=some (Lib.indexByte low16 c.toNat.toUInt8):=by rw [e135]; rfl
     have hpw:(16:Int) ^ (i+1)=16 ^ i * 16:=Int.pow_succ ..
     have hi4:i=0∨i=1∨i=2∨i=3:=by omega
     have hv':v < 4096:=by rcases hi4 with rfl | rfl | rfl | rfl <;> (simp only [Int.reducePow,Int.pow_zero] at hv; omega)
     -- what comes aT the choice of the digit
     have tail:∀ (d:Int),d=digI c→(∀ b,(if d < 0 then none else some (v * 16+d))=some b→(0≤b∧b < 16 ^ (i+1))∧(aJy (decide (d < (0:Int))) fun v12 =>
 bif v12 then (lJ (some ((0:Int),false)):Option ((Int×List Int×Int×Int) ⊕ (Int×Bool))) else (aJy (bits .or IntKind.u64 (aIc IntKind.u64 v 4) (IntKind.u64.wrap d)) fun v13 =>
 aJy (IntKind.i64.wrap ((i:Int)+(1:Int))) fun v14 =>
 tN (v13,iJ w,aJO (iJ w),v14)))=some (.inl (b,iJ w,aJO (iJ w),((i+1:Nat):Int))))∧((if d < 0 then none else some (v * 16+d))=none→(aJy (decide (d < (0:Int))) fun v12 =>
 bif v12 then (lJ (some ((0:Int),false)):Option ((Int×List Int×Int×Int) ⊕ (Int×Bool))) else (aJy (bits .or IntKind.u64 (aIc IntKind.u64 v 4) (IntKind.u64.wrap d)) fun v13 =>
 aJy (IntKind.i64.wrap ((i:Int)+(1:Int))) fun v14 =>
 tN (v13, iJ w, aJO (iJ w), v14))) = some (.inr (0, false))) := by
      intro d hd'
      subst hd'
      by_cases hn:digI c < 0
      · rw [if_pos hn]
        exact ⟨fun b hb=>(by cases hb),fun _=>letB (v:=true) (decide_eq_true hn) (bifT rfl rfl)⟩
      · rw [if_neg hn]
        refine ⟨fun b hb=>?_,fun hb=>by cases hb⟩
        have hb:v * 16+digI c=b:=Option.some.inj hb
        subst hb
        refine ⟨by rw [hpw]; omega,letB (v:=false) (decide_eq_false hn) (bifF rfl (letB (v:=v * 16+digI c) ?_ (letB (v:=(i:Int)+1) (wv _ rfl (by omega) (by omega)) rfl)))⟩
        have e11:(2:Int) ^ 4=16:=rfl
        rw [shl64 (by decide),e11,aJJ,Int.emod_eq_of_lt (a:=v * 16) (by omega) (by omega),Int.emod_eq_of_lt (a:=digI c) (by omega) (by omega)]
        exact or64 4 ⟨by omega,by omega⟩ ⟨v,by rw [e11,Int.mul_comm]⟩ (by omega) (by rw [e11]; omega) (by decide)
     by_cases hup:65≤c∧c≤70
     · have hdig:digI c=c - 55:=if_pos hup
       have hw15:IntKind.u8.wrap (c - 65)=c - 65:=aIH (by omega) (by omega)
       have hw16:IntKind.i64.wrap (IntKind.i64.wrap (c - 65)+10)=c - 55:=by
        rw [pV (n:=c - 65) (by omega) (by omega),pV (by omega) (by omega)]; omega
       have t:=tail (c - 55) hdig.symm
       rw [← hdig] at t
       refine ⟨fun b hb=>⟨(t.1 b hb).1,?_⟩,fun hb=>?_⟩
       · exact letB (v:=true) (decide_eq_true hd) (bifT rfl (bindB hx (bindB h95 (letB (v:=true) (by rw [decide_eq_true (by omega:c≥65),decide_eq_true (by omega:c≤70)]; rfl) (jB (bifT rfl (letB hw15 (letB (hw16.trans hdig.symm) (t.1 b hb).2))))))))
       · exact letB (v:=true) (decide_eq_true hd) (bifT rfl (bindB hx (bindB h95 (letB (v:=true) (by rw [decide_eq_true (by omega:c≥65),decide_eq_true (by omega:c≤70)]; rfl) (jB (bifT rfl (letB hw15 (letB (hw16.trans hdig.symm) (t.2 hb)))))))))
     · have hdig:digI c=Lib.indexByte low16 c.toNat.toUInt8:=if_neg hup
       have t:=tail (digI c) rfl
       have h9:(bif decide (c≥65) then decide (c≤70) else false)=false:=by
        by_cases h1:c≥65
        · have h2:¬ c≤70:=fun h=>hup ⟨h1,h⟩
          simp [h1,h2]
        · simp [h1]
       refine ⟨fun b hb=>⟨(t.1 b hb).1,?_⟩,fun hb=>?_⟩
       · exact letB (v:=true) (decide_eq_true hd) (bifT rfl (bindB hx (bindB (h95.trans (congrArg some hdig.symm)) (letB h9 (jB (bifF rfl (t.1 b hb).2))))))
       · exact letB (v:=true) (decide_eq_true hd) (bifT rfl (bindB hx (bindB (h95.trans (congrArg some hdig.symm)) (letB h9 (jB (bifF rfl (t.2 hb)))))))) (fun v hv=>by
     have hd:¬ ((w.length:Int) < aJO (iJ w)):=by unfold aJO; omega
     exact letB (v:=false) (decide_eq_false hd) (bifF rfl rfl)) w.length 0 0 (Nat.zero_add _) ⟨by omega,by decide⟩ (N+19) (by omega)
 refine ⟨letB (v:=false) (decide_eq_false (by unfold aJO; omega)) (letB (v:=false) (decide_eq_false (by unfold aJO; omega)) (bifF rfl (bindB htb (jB (key.1.trans ?_))))),fun v hv=>?_⟩
 · cases runF (F16 (iJ w)) w.length 0 0 <;> rfl
 · have:=key.2 v hv
   have hw:w.length=1∨w.length=2∨w.length=3∨w.length=4:=by omega
   rcases hw with h | h | h | h <;> (rw [h] at this; simp only [Int.reducePow] at this; omega)
end Go.Proofs.YtlgnmgbnbomckaaGreatDoor
