/- Chapter 01, plainly: texts read by the document's answer. -/
import Derived.Test.YtlgnmgbnbomckaaGreatDoorQD
namespace Go.Proofs.YtlgnmgbnbomckaaGreatDoor
open Go.VM Go.Txt
set_option maxRecDepth 10000
theorem loopF_go {α R A : Type} {body : α → Option (α ⊕ R)} (F : Nat → A → Option A) (P : Nat → A → Prop) (s : Nat → A → α) (n : Nat) (bad : R) (fin : A → R) (a : A) {x : α} {r : R} {M : Nat} (hx : x = s 0 a) (hP : P 0 a)
  (h:∀ i,i < n→∀ a,P i a→(∀ b,F i a=some b→P (i+1) b∧body (s i a)=some (.inl (s (i+1) b)))∧(F i a=none→body (s i a)=some (.inr bad)))
  (he:∀ a,P n a→body (s n a)=some (.inr (fin a))) (hM:n < M) (hr:(match runF F n 0 a with | some b=>fin b | none=>bad)=r):eG M body x=some r:=by
 rw [hx,← hr]
 exact (loopN_F F P s n bad fin h he n 0 a (Nat.zero_add n) hP M hM).1
theorem nIdxB_lt {w:List UInt8} {i:Nat} (h:i < w.length):aKH w (i:Int)=some ((iJ w).getD i 0):=by
 unfold aKH
 rw [aJo h,nBytes_get h]; rfl
theorem nBytes_getD_rng (w:List UInt8) (i:Nat):0≤(iJ w).getD i 0∧(iJ w).getD i 0≤255:=by
 by_cases h:i < (iJ w).length
 · rw [List.getD,List.getElem?_eq_getElem h,Option.getD_some]
   exact aIG w _ (List.getElem_mem h)
 · rw [List.getD,List.getElem?_eq_none (by omega),Option.getD_none]; omega
theorem decimal_eq (N:Nat) {w:List UInt8} (hw:w.length≤100000) (hN:w.length < N):n107 (N+1) w=some (match decR w with | some n=>(n,(bif !(w==[]) then decide (n≤1099511627776) else false)) | none=>(0,false)):=by
 rw [e107]
 refine jB ?_
 refine loopF_go (decF (iJ w)) (fun _ n=>0≤n∧n≤17592186044416) (fun i n=>(w,n,aJO w,(i:Int))) w.length (((0:Int),false)) (fun n=>(n,(bif !(w==[]) then decide (n≤1099511627776) else false))) 0 rfl ⟨by omega,by omega⟩ (fun i hi n hn=>?_) (fun n hn=>?_) hN (by unfold decR; cases runF (decF (iJ w)) w.length 0 0 <;> rfl)
 · have hd:((i:Int) < aJO w):=by unfold aJO; omega
   have hx:=nIdxB_lt hi
   have hc:=nBytes_getD_rng w i
   have hF:decF (iJ w) i n=if (iJ w).getD i 0 < 48∨57 < (iJ w).getD i 0∨1099511627776 < n then none else some (10 * n+((iJ w).getD i 0 - 48)):=rfl
   rw [hF]
   generalize (iJ w).getD i 0=c at *
   by_cases hb:c < 48∨57 < c∨1099511627776 < n
   · rw [if_pos hb]
     refine ⟨fun b hb=>(by cases hb),fun _=>?_⟩
     refine letB (v:=true) (decide_eq_true hd) (bifT rfl (bindB hx (bindB (bC hx rfl) (letB rfl (letB rfl (bifT ?_ rfl))))))
     by_cases h1:c < 48
     · simp [h1]
     · by_cases h2:57 < c
       · simp [h1,h2]
       · have h3:1099511627776 < n:=by omega
         simp [h1,h2,h3]
   · rw [if_neg hb]
     refine ⟨fun b hb=>?_,fun hb=>by cases hb⟩
     have hb:=Option.some.inj hb
     subst hb
     have h1:¬ c < 48:=by omega
     have h2:¬ c > 57:=by omega
     have h3:¬ n > 1099511627776:=by omega
     refine ⟨by omega,?_⟩
     have hu:IntKind.u8.wrap (c - 48)=c - 48:=aIH (by omega) (by omega)
     refine letB (v:=true) (decide_eq_true hd) (bifT rfl (bindB hx (bindB (bC hx rfl) (letB (v:=false) ?_ (letB (v:=false) (decide_eq_false h3) (bifF rfl (letB (v:=10 * n) (wv _ rfl (by omega) (by omega)) (bindB hx (letB hu (letB (v:=10 * n+(c - 48)) ?_ (letB (v:=(i:Int)+1) (wv _ rfl (by omega) (by omega)) rfl)))))))))))
     · simp [h1,h2]
     · rw [pV (n:=c - 48) (by omega) (by omega)]
       exact wv _ rfl (by omega) (by omega)
 · have hd:¬ ((w.length:Int) < aJO w):=by unfold aJO; omega
   exact letB (v:=false) (decide_eq_false hd) (bifF rfl (leaveB (letB rfl (letB rfl rfl))))
theorem decimal_cases (N : Nat) {w : List UInt8} (hw : w.length ≤ 100000) (hN : w.length < N) :
  (∃ d,num4 w=some d∧n107 (N+1) w=some (d,true)∧0≤d∧d≤255∧Lib.itoa d=w) ∨
  (num4 w=none∧∃ n ok,n107 (N+1) w=some (n,ok)∧0≤n∧n≤17592186044416∧(ok=false∨255 < n∨(ok=true∧n≤255∧Lib.itoa n≠w))):=by
 have h:=decimal_eq N hw hN
 have he:=refnum_eq w
 unfold refnum at he
 cases hd:decR w with
 | none =>
  rw [hd] at h he
  exact .inr ⟨he.symm,0,false,h,by omega,by omega,.inl rfl⟩
 | some n =>
  have hn:=decR_nonneg hd
  rw [hd] at h he
  simp only at h he
  by_cases hq:w≠[]∧n≤255∧Lib.itoa n=w
  · rw [if_pos hq] at he
    have hw0:(w==[])=false:=by simpa using hq.1
    have hle:decide (n≤1099511627776)=true:=decide_eq_true (by omega)
    rw [hw0,hle] at h
    exact .inl ⟨n,he.symm,h,hn,hq.2.1,hq.2.2⟩
  · rw [if_neg hq] at he
    have hn2:n≤17592186044416:=by
     have hi:=runF_inv (F:=decF (iJ w)) (fun n=>n≤17592186044416) (fun i a b ha hb=>by
      unfold decF at hb
      have hc:=nBytes_getD_rng w i
      split at hb
      · cases hb
      · have hb:=Option.some.inj hb
        omega) w.length 0 0 n (by omega) hd
     exact hi
    refine .inr ⟨he.symm,n,_,h,hn,hn2,?_⟩
    by_cases h0:w=[]
    · subst h0; exact .inl rfl
    · by_cases h1:255 < n
      · exact .inr (.inl h1)
      · have hw0:(w==[])=false:=by simpa using h0
        have hle:decide (n≤1099511627776)=true:=decide_eq_true (by omega)
        rw [hw0,hle]
        exact .inr (.inr ⟨rfl,by omega,fun h2=>hq ⟨h0,by omega,h2⟩⟩)
theorem four_r (N:Nat) {t:List UInt8} (ht:t.length≤100000) (hN:t.length+10 < N):n80 (N+1) t=some (match r4 t with | some b=>(b,true) | none=>([],false)):=by
 obtain ⟨N,rfl⟩:∃ M,N=M+1:=⟨N - 1,by omega⟩
 have hsp:n88 (N+1) (t,[46])=some (parts 46 t):=by rw [e88,← split_parts]; exact aJA ⟨by omega,by simp⟩
 rw [e80]
 unfold r4
 by_cases h4:(parts 46 t).length=4
 case neg =>
  rw [if_neg h4]
  exact bindB hsp (bifT (by unfold aJO; simp; omega) rfl)
 rw [if_pos h4]
 refine bindB hsp (bifF (by unfold aJO; rw [h4]; rfl) (jB ?_))
 refine loopF_go (R4 (parts 46 t)) (fun i b=>b.length=i) (fun i b=>(b,parts 46 t,aJO (parts 46 t),(i:Int))) 4 (([],false)) (fun b=>(b,true)) [] rfl rfl (fun i hi b hb=>?_) (fun b hb=>?_) (by omega) ?_
 · have hd:((i:Int) < aJO (parts 46 t)):=by unfold aJO; omega
   have hx:aEU (parts 46 t) (i:Int)=some ((parts 46 t).getD i []):=by
    rw [aJo (by omega),List.getD,List.getElem?_eq_getElem (by omega)]; rfl
   have hm:(parts 46 t).getD i []∈parts 46 t:=by
    rw [List.getD,List.getElem?_eq_getElem (by omega)]; exact List.getElem_mem _
   have hl:=parts_len hm
   have hF:R4 (parts 46 t) i b=(num4 ((parts 46 t).getD i [])).map fun d=>b++[d]:=rfl
   rw [hF]
   generalize (parts 46 t).getD i []=w at *
   rcases decimal_cases N (w:=w) (by omega) (by omega) with ⟨d,h1,h2,h3,h5,h6⟩ | ⟨h1,n,ok,h2,h3,h5,h6⟩
   · rw [h1]
     refine ⟨fun c hc=>?_,fun hc=>by cases hc⟩
     have hc:b++[d]=c:=Option.some.inj hc
     subst hc
     have hi18:n48 (N+1) d=some w:=by rw [e48,← h6]; exact aJ6 ⟨by omega,by omega⟩
     have hu:IntKind.u8.wrap d=d:=aIH h3 h5
     refine ⟨by rw [List.length_append,hb]; rfl,letB (v:=true) (decide_eq_true hd) (bifT rfl (bindB hx (bindB h2 (letB (v:=false) (decide_eq_false (by show ¬ d > 255; omega)) (letB (v:=false) rfl (bindB (bifT rfl hi18) (letB (v:=false) ?_ (bifF rfl (letB rfl (bindB (v:=b++[d]) ?_ (letB (v:=(i:Int)+1) (wv _ rfl (by omega) (by omega)) rfl)))))))))))⟩
     · show (!(w==w))=false
       simp
     · show aH3 1 b [IntKind.u8.wrap d]=_
       rw [hu]
       exact aJm (by simp only [List.length_singleton]; omega) (by simp only [List.length_singleton]; omega)
   · rw [h1]
     refine ⟨fun c hc=>(by cases hc),fun _=>?_⟩
     by_cases hq:ok=true∧n≤255
     · have hi18:n48 (N+1) n=some (Lib.itoa n):=by rw [e48]; exact aJ6 ⟨by omega,by omega⟩
       have hne:(Lib.itoa n==w)=false:=by
        rcases h6 with h6 | h6 | h6
        · rw [h6] at hq; cases hq.1
        · omega
        · simpa using h6.2.2
       refine letB (v:=true) (decide_eq_true hd) (bifT rfl (bindB hx (bindB h2 (letB (v:=false) (decide_eq_false (by show ¬ n > 255; omega)) (letB (v:=false) ?_ (bindB (bifT rfl hi18) (letB (v:=true) ?_ (bifT rfl rfl))))))))
       · show (bif !ok then true else false)=false
         rw [hq.1]; rfl
       · show (!(Lib.itoa n==w))=true
         rw [hne]; rfl
     · refine letB (v:=true) (decide_eq_true hd) (bifT rfl (bindB hx (bindB h2 (letB rfl (letB (v:=true) ?_ (bindB (bifF rfl rfl) (letB (v:=true) rfl (bifT rfl rfl))))))))
       show (bif !ok then true else decide (n > 255))=true
       cases ok with
       | false=>rfl
       | true =>
        have:n > 255:=by
         by_cases h7:n > 255
         · exact h7
         · exact absurd ⟨rfl,by omega⟩ hq
        simp [this]
 · have hd:¬ (((4:Nat):Int) < aJO (parts 46 t)):=by unfold aJO; omega
   exact letB (v:=false) (decide_eq_false hd) (bifF rfl (leaveB rfl))
 · cases runF (R4 (parts 46 t)) 4 0 [] <;> rfl
def digB (a0:Int):Option Int :=
 aJy (bif (decide (a0≥(48:Int))) then (decide (a0≤(57:Int))) else false) fun v0 =>
 bif v0 then (aJy (IntKind.u8.wrap (a0 - (48:Int))) fun v1 =>
 some (IntKind.i64.wrap v1)) else (aJy (bif (decide (a0≥(97:Int))) then (decide (a0≤(102:Int))) else false) fun v2 =>
 bif v2 then (aJy (IntKind.u8.wrap (a0 - (97:Int))) fun v3 =>
 aJy (IntKind.i64.wrap ((IntKind.i64.wrap v3)+(10:Int))) fun v4 =>
 some v4) else (aJy (bif (decide (a0≥(65:Int))) then (decide (a0≤(70:Int))) else false) fun v5 =>
 bif v5 then (aJy (IntKind.u8.wrap (a0 - (65:Int))) fun v6 =>
 aJy (IntKind.i64.wrap ((IntKind.i64.wrap v6)+(10:Int))) fun v7 =>
 some v7) else (some (-1:Int))))
theorem digit_eq (N:Nat) {c:Int} (h:0≤c∧c≤255):n108 (N+1) c=some (digI c):=by
 rw [e108]
 obtain ⟨k,rfl⟩:=Int.eq_ofNat_of_zero_le h.1
 have:∀ k:Fin 256,digB (k.val:Int)=some (digI (k.val:Int)):=by decide +kernel
 exact this ⟨k,by omega⟩
end Go.Proofs.YtlgnmgbnbomckaaGreatDoor
