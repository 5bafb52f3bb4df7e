/- Chapter 17, plainly: the order of communities, and the search in an ordered list (for the walks by hand). -/
import Derived.Test.YtghpknbkecolnaaGreatDoorT34
import Derived.Test.YtghpknbkecolnaaGreatDoorZE1
namespace Go.Proofs.YtghpknbkecolnaaGreatDoor.Z
open Go.VM
set_option maxRecDepth 10000
abbrev Cm:=Int×Int
abbrev Lg:=Int×Int×Int
def cmpI (a b:Int):Int:=if a < b then -1 else if a > b then 1 else 0
theorem cmp_p (N:Nat) (a b:Int):n69 (N+2) (a,b)=some (cmpI a b):=by
 rw [e69,e96,e96]
 unfold cmpI
 refine bindB rfl (bindB rfl (bifF (by simp) (bifF (by simp) ?_)))
 by_cases h1:a < b
 · rw [if_pos h1]; exact bifT (decide_eq_true h1) rfl
 · rw [if_neg h1]
   refine bifF (decide_eq_false h1) ?_
   by_cases h2:a > b
   · rw [if_pos h2]; exact bifT (decide_eq_true h2) rfl
   · rw [if_neg h2]; exact bifF (decide_eq_false h2) rfl
def orI:List Int→Int
 | []=>0
 | a::l=>if a≠0 then a else orI l
def ORB:(Int×(List Int×(Int×Int)))→Option ((Int×(List Int×(Int×Int))) ⊕ Int):=fun p2 =>
 aJy (decide (p2.2.2.2 < p2.2.2.1)) fun v3 =>
 bif v3 then ((aEU p2.2.1 p2.2.2.2).bind fun v4 =>
 bif (v4 != p2.1) then (lJ (some v4)) else (aJy (IntKind.i64.wrap (p2.2.2.2+(1:Int))) fun v5 =>
 tN (p2.1,p2.2.1,p2.2.2.1,v5))) else (lJ (some p2.1))
theorem or_p (N:Nat) {l:List Int} (hl:l.length≤10):n68 (N+20) l=some (orI l):=by
 rw [e68]
 refine jB ?_
 have key:∀ (m i:Nat),i+m=l.length→∀ M,m < M→eG M ORB ((0:Int),l,aJO l,(i:Int))=some (orI (l.drop i)):=by
  intro m
  induction m with
  | zero =>
   intro i hi M hM
   obtain ⟨M,rfl⟩:∃ k,M=k+1:=⟨M - 1,by omega⟩
   rw [List.drop_of_length_le (by omega)]
   have:ORB ((0:Int),l,aJO l,(i:Int))=some (.inr 0) :=
    letB (v:=false) (decide_eq_false (show ¬ (i:Int) < aJO l by unfold aJO; omega)) (bifF rfl (leaveB rfl))
   simp only [eG,this]
   rfl
  | succ m ih =>
   intro i hi M hM
   obtain ⟨M,rfl⟩:∃ k,M=k+1:=⟨M - 1,by omega⟩
   have hx:aEU l (i:Int)=some (l[i]'(by omega)):=aJo (by omega)
   rw [List.drop_eq_getElem_cons (by omega),orI]
   by_cases h0:l[i]'(by omega)=0
   · have : ORB ((0 : Int), l, aJO l, (i : Int)) = some (.inl ((0 : Int), l, aJO l, ((i + 1 : Nat) : Int))) :=
       letB (v:=true) (decide_eq_true (show (i:Int) < aJO l by unfold aJO; omega)) (bifT rfl (bindB hx (bifF (by simp [h0]) (letB (v:=((i+1:Nat):Int)) (wv _ (by show (i:Int)+1=((i+1:Nat):Int); omega) (by omega) (by omega)) rfl))))
     simp only [eG,this]
     rw [if_neg (by simp [h0])]
     exact ih (i+1) (by omega) M (by omega)
   · have : ORB ((0 : Int), l, aJO l, (i : Int)) = some (.inr (l[i]'(by omega))) :=
       letB (v:=true) (decide_eq_true (show (i:Int) < aJO l by unfold aJO; omega)) (bifT rfl (bindB hx (bifT (by simp [h0]) (leaveB rfl))))
     simp only [eG,this]
     rw [if_pos h0]
 exact (key l.length 0 (by omega) (N+19) (by omega))
def lesC (a b:Cm):Bool:=decide (a.1 < b.1∨(a.1=b.1∧a.2 < b.2))
def lesL (a b:Lg):Bool:=decide (a.1 < b.1∨(a.1=b.1∧(a.2.1 < b.2.1∨(a.2.1=b.2.1∧a.2.2 < b.2.2))))
theorem comp_c (N:Nat) (a b:Cm):∃ v,n44 (N+21) (a,b)=some v∧decide (v < (0:Int))=lesC a b∧(v==(0:Int))=decide (a=b):=by
 rw [e44]
 refine ⟨_,bindB (cmp_p (N+18) _ _) (bindB (cmp_p (N+18) _ _) (bindB (or_p N (by simp)) rfl)),?_⟩
 obtain ⟨a1,a2⟩:=a
 obtain ⟨b1,b2⟩:=b
 unfold lesC orI orI orI cmpI
 simp only [Prod.mk.injEq]
 by_cases h1:a1 < b1
 · have h5:a1≠b1:=by omega
   simp [h1,h5]
 · by_cases h2:a1=b1
   · by_cases h3:a2 < b2
     · have h5:a2≠b2:=by omega
       simp [h2,h3,h5]
     · by_cases h4:a2 > b2
       · have h5:a2≠b2:=by omega
         simp [h2,h3,h4,h5]
       · have h5:a2=b2:=by omega
         simp [h2,h5]
   · have h5:a1 > b1:=by omega
     simp [h1,h2,h5]
theorem comp_l (N:Nat) (a b:Lg):∃ v,n52 (N+21) (a,b)=some v∧decide (v < (0:Int))=lesL a b∧(v==(0:Int))=decide (a=b):=by
 rw [e52]
 refine ⟨_,bindB (cmp_p (N+18) _ _) (bindB (cmp_p (N+18) _ _) (bindB (cmp_p (N+18) _ _) (bindB (or_p N (by simp)) rfl))),?_⟩
 obtain ⟨a1,a2,a3⟩:=a
 obtain ⟨b1,b2,b3⟩:=b
 unfold lesL orI orI orI orI cmpI
 simp only [Prod.mk.injEq]
 by_cases h1:a1 < b1
 · have h5:a1≠b1:=by omega
   simp [h1,h5]
 · by_cases h2:a1=b1
   · by_cases h3:a2 < b2
     · have h6:a2≠b2:=by omega
       simp [h2,h3,h6]
     · by_cases h4:a2=b2
       · by_cases h5:a3 < b3
         · have h7:a3≠b3:=by omega
           simp [h2,h4,h5,h7]
         · by_cases h6:a3 > b3
           · have h7:a3≠b3:=by omega
             simp [h2,h4,h5,h6,h7]
           · have h7:a3=b3:=by omega
             simp [h2,h4,h7]
       · have h7:a2 > b2:=by omega
         simp [h2,h3,h4,h7]
   · have h8:a1 > b1:=by omega
     simp [h1,h2,h8]
/- the search -/
def BS {T R:Type} (f:T×T→Option Int) (j1:List T×T×Int×Int→Option R):(List T×(T×(Int×(Int×Int))))→Option ((List T×(T×(Int×(Int×Int)))) ⊕ R):=fun p6 =>
 aJy (decide (p6.2.2.2.1 < p6.2.2.2.2)) fun v7 =>
 bif v7 then (aBJ (fun (p8:(List T×(T×(Int×(Int×Int))))) =>
 tN (p8.1,p8.2.1,p8.2.2.1,p8.2.2.2.1,p8.2.2.2.2)) fun j9 =>
 aJy (IntKind.i64.wrap (p6.2.2.2.1+p6.2.2.2.2)) fun v10 =>
 aJy (aJP IntKind.u64 (IntKind.u64.wrap v10) 1) fun v11 =>
 (aEU p6.1 (IntKind.i64.wrap v11)).bind fun v12 =>
 (f (v12,p6.2.1)).bind fun v13 =>
 aBJ (fun (p14:(List T×(T×(Int×(Int×Int))))) =>
 j9 (p14.1,p14.2.1,p14.2.2.1,p14.2.2.2.1,p14.2.2.2.2)) fun j15 =>
 bif (decide (v13 < (0:Int))) then (aJy (IntKind.i64.wrap ((IntKind.i64.wrap v11)+(1:Int))) fun v16 =>
 j15 (p6.1,p6.2.1,p6.2.2.1,v16,p6.2.2.2.2)) else (j15 (p6.1,p6.2.1,p6.2.2.1,p6.2.2.2.1,(IntKind.i64.wrap v11)))) else (lJ (j1 (p6.1,p6.2.1,p6.2.2.1,p6.2.2.2.1)))
/-- Where c is,or would be. -/
def Place {T:Type} (les:T→T→Bool) (l:List T) (c:T) (i:Nat):Prop:=i≤l.length∧(∀ k (h:k < l.length),k < i→les l[k] c=true)∧∀ k (h:k < l.length),i≤k→les l[k] c=false
theorem bs_loop {T R : Type} [DecidableEq T] {f : T × T → Option Int} {les : T → T → Bool} {l : List T} {c : T} (hf : ∀ a b, ∃ v, f (a, b) = some v ∧ decide (v < (0 : Int)) = les a b) (hs : ∀ i j (hi : i < l.length) (hj : j < l.length), i ≤ j → les l[j] c = true → les l[i] c = true)
  (hl:l.length≤100000) {j1:List T×T×Int×Int→Option R} {r:R} (hj:∀ i,Place les l c i→j1 (l,c,aJO l,(i:Int))=some r) :
  ∀ (m i j:Nat),j - i≤m→i≤j→j≤l.length→(∀ k (h:k < l.length),k < i→les l[k] c=true)→(∀ k (h:k < l.length),j≤k→les l[k] c=false)→∀ M,m < M→eG M (BS f j1) (l,c,aJO l,(i:Int),(j:Int))=some r
 | m,i,j,hm,hij,hjl,h1,h2,M,hM=>by
  obtain ⟨M,rfl⟩:∃ k,M=k+1:=⟨M - 1,by omega⟩
  by_cases hlt:i < j
  · have hh:(i+j) / 2 < l.length:=by omega
    have hsh:aJP IntKind.u64 (IntKind.u64.wrap ((i:Int)+(j:Int))) 1=(((i+j) / 2:Nat):Int):=by
     rw [show IntKind.u64.wrap ((i:Int)+(j:Int))=(i:Int)+j by rw [aJJ]; omega,aJ4 _ _ _ (by decide),Int.fdiv_eq_ediv_of_nonneg _ (by decide)]
     omega
    have hw2:IntKind.i64.wrap (((i+j) / 2:Nat):Int)=(((i+j) / 2:Nat):Int):=pV (by omega) (by omega)
    have hsum:IntKind.i64.wrap ((i:Int)+(j:Int))=(i:Int)+j:=pV (by omega) (by omega)
    obtain ⟨v,hv,hv1⟩:=hf l[(i+j) / 2] c
    cases m with
    | zero=>omega
    | succ m =>
    by_cases hc:les l[(i+j) / 2] c=true
    · have hb : BS f j1 (l, c, aJO l, (i : Int), (j : Int)) = some (.inl (l, c, aJO l, (((i + j) / 2 + 1 : Nat) : Int), (j : Int))) := by
        unfold BS
        refine letB (v:=true) (decide_eq_true (show (i:Int) < (j:Int) by omega)) (bifT rfl (jB (letB (v:=(i:Int)+j) hsum (letB hsh (bindB (v:=l[(i+j) / 2]) ?_ (bindB hv (jB (bifT ?_ (letB (v:=(((i+j) / 2+1:Nat):Int)) ?_ rfl)))))))))
        · rw [hw2]; exact aJo hh
        · rw [hv1]; exact hc
        · rw [hw2]; exact wv _ (by omega) (by omega) (by omega)
      simp only [eG,hb]
      exact bs_loop hf hs hl hj m _ j (by omega) (by omega) hjl (fun k h hk=>hs k ((i+j) / 2) h hh (by omega) hc) h2 M (by omega)
    · have hc':les l[(i+j) / 2] c=false:=by simpa using hc
      have hb:BS f j1 (l,c,aJO l,(i:Int),(j:Int))=some (.inl (l,c,aJO l,(i:Int),(((i+j) / 2:Nat):Int))):=by
       unfold BS
       refine letB (v:=true) (decide_eq_true (show (i:Int) < (j:Int) by omega)) (bifT rfl (jB (letB (v:=(i:Int)+j) hsum (letB hsh (bindB (v:=l[(i+j) / 2]) ?_ (bindB hv (jB (bifF ?_ ?_))))))))
       · rw [hw2]; exact aJo hh
       · rw [hv1]; exact hc'
       · rw [hw2]; rfl
      simp only [eG,hb]
      refine bs_loop hf hs hl hj m i _ (by omega) (by omega) (by omega) h1 (fun k h hk=>?_) M (by omega)
      cases hq:les l[k] c with
      | false=>rfl
      | true=>rw [hs ((i+j) / 2) k hh h hk hq] at hc'; cases hc'
  · have:i=j:=by omega
    subst this
    have hb:BS f j1 (l,c,aJO l,(i:Int),(i:Int))=some (.inr r):=by
     unfold BS
     exact letB (v:=false) (decide_eq_false (show ¬ (i:Int) < (i:Int) by omega)) (bifF rfl (leaveB (hj i ⟨hjl,h1,h2⟩)))
    simp only [eG,hb]
theorem place_uniq {T:Type} {les:T→T→Bool} {l:List T} {c:T} {i j:Nat} (h:Place les l c i) (k:Place les l c j):i=j:=by
 have one:∀ {i j:Nat},Place les l c i→Place les l c j→i≤j:=fun {i j} h k=>by
  by_cases hij:i≤j
  · exact hij
  · have h1:=h.2.1 j (by have:=h.1; omega) (by omega)
    rw [k.2.2 j (by have:=h.1; omega) (Nat.le_refl _)] at h1
    cases h1
 exact Nat.le_antisymm (one h k) (one k h)
def JC {T:Type} (z:T) (f:T×T→Option Int):List T×T×Int×Int→Option (Int×Bool):=fun p0 =>
 aJy (decide (p0.2.2.2 < p0.2.2.1)) fun v2 =>
 (bif v2 then (aEU p0.1 p0.2.2.2) else some z).bind fun v3 =>
 (bif v2 then (f (v3,p0.2.1)) else some (0:Int)).bind fun v4 =>
 aJy (bif v2 then (v4==(0:Int)) else false) fun v5 =>
 some (p0.2.2.2,v5)
theorem search {T : Type} [DecidableEq T] (z : T) {f : T × T → Option Int} {les : T → T → Bool} {l : List T} {c : T} (hf : ∀ a b, ∃ v, f (a, b) = some v ∧ decide (v < (0 : Int)) = les a b ∧ (v == (0 : Int)) = decide (a = b)) (hs : ∀ i j (hi : i < l.length) (hj : j < l.length), i ≤ j → les l[j] c = true → les l[i] c = true)
  (hl:l.length≤100000) {i:Nat} (hi:Place les l c i) {M:Nat} (hM:l.length < M):eG M (BS f (JC z f)) (l,c,aJO l,(0:Int),aJO l)=some ((i:Int),decide (l[i]?=some c)):=by
 refine bs_loop (les:=les) (fun a b=>(hf a b).imp fun v h=>⟨h.1,h.2.1⟩) hs hl (fun k hk=>?_) l.length 0 l.length (by omega) (by omega) (Nat.le_refl _) (fun k _ hk=>absurd hk (Nat.not_lt_zero _)) (fun k h hk=>by omega) M hM
 have:=place_uniq hk hi
 subst this
 unfold JC
 by_cases hlt:k < l.length
 · obtain ⟨v,hv,_,hv2⟩:=hf l[k] c
   refine letB (v:=true) (decide_eq_true (show (k:Int) < aJO l by unfold aJO; omega)) (bindB (bifT rfl (aJo hlt)) (bindB (bifT rfl hv) (letB (v:=decide (l[k]=c)) hv2 ?_)))
   rw [List.getElem?_eq_getElem hlt]
   simp
 · refine letB (v:=false) (decide_eq_false (show ¬ (k:Int) < aJO l by unfold aJO; omega)) (bindB rfl (bindB rfl (letB (v:=false) rfl ?_)))
   rw [List.getElem?_eq_none (by omega)]
   simp
theorem search_c (N:Nat) (hN:200000 < N) {l:List Cm} {c:Cm} (hs:∀ i j (hi:i < l.length) (hj:j < l.length),i≤j→lesC l[j] c=true→lesC l[i] c=true) (hl:l.length≤100000) {i:Nat} (hi:Place lesC l c i):n70 (N+1) (l,c,())=some ((i:Int),decide (l[i]?=some c)):=by
 obtain ⟨N,rfl⟩:∃ k,N=k+21:=⟨N - 21,by omega⟩
 rw [e70]
 exact jB (search ((0:Int),(0:Int)) (f:=fun x=>n44 (N+21) x) (comp_c N) hs hl hi (by omega))
theorem search_l (N:Nat) (hN:200000 < N) {l:List Lg} {c:Lg} (hs:∀ i j (hi:i < l.length) (hj:j < l.length),i≤j→lesL l[j] c=true→lesL l[i] c=true) (hl:l.length≤100000) {i:Nat} (hi:Place lesL l c i):n76 (N+1) (l,c,())=some ((i:Int),decide (l[i]?=some c)):=by
 obtain ⟨N,rfl⟩:∃ k,N=k+21:=⟨N - 21,by omega⟩
 rw [e76]
 exact jB (search ((0:Int),(0:Int),(0:Int)) (f:=fun x=>n52 (N+21) x) (comp_l N) hs hl hi (by omega))
end Go.Proofs.YtghpknbkecolnaaGreatDoor.Z
