/- Chapter 17, plainly: small functions; which lists are valid. -/
import Derived.Test.YtghpknbkecolnaaGreatDoorT31
import Derived.Test.YtghpknbkecolnaaGreatDoorT34
import Derived.Test.YtghpknbkecolnaaGreatDoorT35
import Derived.Test.YtghpknbkecolnaaGreatDoorNE2
namespace Go.Proofs.YtghpknbkecolnaaGreatDoor
open Go.VM Go.Txt
set_option maxRecDepth 10000
abbrev Cm:=Int×Int
abbrev Lg:=Int×Int×Int
/- small functions -/
theorem fold_min:∀ (l:List Int) (a:Int) (m:Int),(m≤l.foldl (mmT false) a)↔(m≤a∧∀ x∈l,m≤x)
 | [],a,m=>by simp
 | b::l,a,m=>by
  rw [List.foldl_cons,fold_min l]
  unfold mmT
  simp only [Bool.false_eq_true,if_false,List.mem_cons,forall_eq_or_imp]
  constructor
  · rintro ⟨h1,h2⟩
    split at h1 <;> exact ⟨by omega,by omega,h2⟩
  · rintro ⟨h1,h2,h3⟩
    exact ⟨by split <;> assumption,h3⟩
theorem fold_max:∀ (l:List Int) (a:Int) (m:Int),(l.foldl (mmT true) a≤m)↔(a≤m∧∀ x∈l,x≤m)
 | [],a,m=>by simp
 | b::l,a,m=>by
  rw [List.foldl_cons,fold_max l]
  unfold mmT
  simp only [if_true,List.mem_cons,forall_eq_or_imp]
  constructor
  · rintro ⟨h1,h2⟩
    split at h1 <;> exact ⟨by omega,by omega,h2⟩
  · rintro ⟨h1,h2,h3⟩
    exact ⟨by split <;> assumption,h3⟩
theorem min_loop {mx : Bool} (M : Nat) {a : Int} {l : List Int} (hl : l.length ≤ 100) (hM : l.length < M) :
  eG M (fun (p6:(List (Int)×(Int×Int))) =>
 aJy (decide (p6.2.2 < (aJO p6.1))) fun v7 =>
 bif v7 then ((aEU p6.1 p6.2.2).bind fun v8 =>
 aJy (IntKind.i64.wrap (p6.2.2+(1:Int))) fun v9 =>
 tN (p6.1,(mmT mx p6.2.1 v8),v9)) else (lJ (some p6.2.1))) (a::l,a,(1:Int))=some (l.foldl (mmT mx) a):=by
 refine loopN_seq' (fun i=>((a::l,(l.take i).foldl (mmT mx) a,((i+1:Nat):Int)):(List (Int)×(Int×Int)))) l.length rfl (fun i hi=>?_) ?_ hM
 · have hx:aEU (a::l) ((i+1:Nat):Int)=some l[i]:=aJo (l:=a::l) (n:=i+1) (by simp; omega)
   refine letB (v:=true) (decide_eq_true (show ((i+1:Nat):Int) < aJO (a::l) by unfold aJO; simp; omega)) (bifT rfl (bindB hx (letB (v:=((i+1+1:Nat):Int)) (wv _ (show ((i+1:Nat):Int)+1=_ by omega) (by omega) (by omega)) ?_)))
   rw [List.take_succ_eq_append_getElem hi,List.foldl_append]; rfl
 · rw [List.take_length]
   exact letB (v:=false) (decide_eq_false (show ¬ ((l.length+1:Nat):Int) < aJO (a::l) by unfold aJO; simp)) (bifF rfl (leaveB rfl))
theorem within_p (N:Nat) {a most:Int} {l:List Int} (hl:l.length≤100) (hN:l.length+2 < N):n67 (N+2) (most,a::l)=some (decide (∀ x∈a::l,0≤x∧x≤most)):=by
 have h94:n94 (N+1) (a::l)=some (l.foldl (mmT false) a):=by
  rw [e94]
  exact letB (v:=false) (decide_eq_false (show ¬ aJO (a::l) < 1 by unfold aJO; simp; omega)) (jB (bifF rfl (bindB rfl (jB (min_loop (mx:=false) N hl (by omega))))))
 have h95:n95 (N+1) (a::l)=some (l.foldl (mmT true) a):=by
  rw [e95]
  exact letB (v:=false) (decide_eq_false (show ¬ aJO (a::l) < 1 by unfold aJO; simp; omega)) (jB (bifF rfl (bindB rfl (jB (min_loop (mx:=true) N hl (by omega))))))
 rw [e67]
 refine bindB h94 (bindB (bC h95 rfl) (letB rfl ?_))
 have h1:=fold_min l a 0
 have h2:=fold_max l a most
 congr 1
 by_cases c1:l.foldl (mmT false) a≥0
 · rw [decide_eq_true c1]
   obtain ⟨k1,k2⟩:=h1.1 c1
   by_cases c2:l.foldl (mmT true) a≤most
   · obtain ⟨k3,k4⟩:=h2.1 c2
     rw [decide_eq_true (show ∀ x∈a::l,0≤x∧x≤most from fun x hx=>by
      rcases List.mem_cons.1 hx with rfl | hx
      · exact ⟨k1,k3⟩
      · exact ⟨k2 x hx,k4 x hx⟩)]
     exact decide_eq_true c2
   · rw [decide_eq_false (show ¬ ∀ x∈a::l,0≤x∧x≤most from fun h=>c2 (h2.2 ⟨(h a (by simp)).2,fun x hx=>(h x (List.mem_cons_of_mem _ hx)).2⟩))]
     exact decide_eq_false c2
 · rw [decide_eq_false c1,decide_eq_false (show ¬ ∀ x∈a::l,0≤x∧x≤most from fun h=>c1 (h1.2 ⟨(h a (by simp)).1,fun x hx=>(h x (List.mem_cons_of_mem _ hx)).1⟩))]
   rfl
def cmpI (a b:Int):Int:=if a < b then -1 else if a > b then 1 else 0
theorem cmp_p (N:Nat) (a b:Int):n69 (N+2) (a,b)=some (cmpI a b):=by
 rw [e69,e96,e96]
 unfold cmpI
 refine bindB rfl (bindB rfl (bifF (by simp) (bifF (by simp) ?_)))
 by_cases h1:a < b
 · rw [if_pos h1]; exact bifT (decide_eq_true h1) rfl
 · rw [if_neg h1]
   refine bifF (decide_eq_false h1) ?_
   by_cases h2:a > b
   · rw [if_pos h2]; exact bifT (decide_eq_true h2) rfl
   · rw [if_neg h2]; exact bifF (decide_eq_false h2) rfl
def orI:List Int→Int
 | []=>0
 | a::l=>if a≠0 then a else orI l
theorem or_p (N:Nat) {l:List Int} (hl:l.length≤10):n68 (N+20) l=some (orI l):=by
 rw [e68]
 refine jB ?_
 have key:∀ (m i:Nat),i+m=l.length→∀ M,m < M→eG M (fun (p2:(Int×(List (Int)×(Int×Int)))) =>
 aJy (decide (p2.2.2.2 < p2.2.2.1)) fun v3 =>
 bif v3 then ((aEU p2.2.1 p2.2.2.2).bind fun v4 =>
 bif (v4 != p2.1) then (lJ (some v4)) else (aJy (IntKind.i64.wrap (p2.2.2.2+(1:Int))) fun v5 =>
 tN (p2.1, p2.2.1, p2.2.2.1, v5))) else (lJ (some p2.1))) ((0 : Int), l, aJO l, (i : Int)) = some (orI (l.drop i)) := by
  intro m
  induction m with
  | zero =>
   intro i hi M hM
   obtain ⟨M,rfl⟩:∃ k,M=k+1:=⟨M - 1,by omega⟩
   rw [List.drop_of_length_le (by omega)]
   have:(aJy (decide ((i:Int) < aJO l)) fun v3=>bif v3 then ((aEU l (i:Int)).bind fun v4=>bif (v4 != (0:Int)) then (lJ (some v4)) else (aJy (IntKind.i64.wrap ((i:Int)+(1:Int))) fun v5=>(tN ((0:Int),l,aJO l,v5):Option ((Int×(List Int×(Int×Int))) ⊕ Int)))) else (lJ (some (0:Int))))=some (.inr 0) :=
    letB (v:=false) (decide_eq_false (show ¬ (i:Int) < aJO l by unfold aJO; omega)) (bifF rfl (leaveB rfl))
   simp only [eG,this]
   rfl
  | succ m ih =>
   intro i hi M hM
   obtain ⟨M,rfl⟩:∃ k,M=k+1:=⟨M - 1,by omega⟩
   have hx:aEU l (i:Int)=some (l[i]'(by omega)):=aJo (by omega)
   rw [List.drop_eq_getElem_cons (by omega),orI]
   by_cases h0:l[i]'(by omega)=0
   · have : (aJy (decide ((i : Int) < aJO l)) fun v3 => bif v3 then ((aEU l (i : Int)).bind fun v4 => bif (v4 != (0 : Int)) then (lJ (some v4)) else (aJy (IntKind.i64.wrap ((i : Int) + (1 : Int))) fun v5 => (tN ((0 : Int), l, aJO l, v5) : Option ((Int × (List Int × (Int × Int))) ⊕ Int)))) else (lJ (some (0 : Int)))) = some (.inl ((0 : Int), l, aJO l, ((i + 1 : Nat) : Int))) :=
       letB (v:=true) (decide_eq_true (show (i:Int) < aJO l by unfold aJO; omega)) (bifT rfl (bindB hx (bifF (by simp [h0]) (letB (v:=((i+1:Nat):Int)) (wv _ (by omega) (by omega) (by omega)) rfl))))
     simp only [eG,this]
     rw [if_neg (by simp [h0])]
     exact ih (i+1) (by omega) M (by omega)
   · have : (aJy (decide ((i : Int) < aJO l)) fun v3 => bif v3 then ((aEU l (i : Int)).bind fun v4 => bif (v4 != (0 : Int)) then (lJ (some v4)) else (aJy (IntKind.i64.wrap ((i : Int) + (1 : Int))) fun v5 => (tN ((0 : Int), l, aJO l, v5) : Option ((Int × (List Int × (Int × Int))) ⊕ Int)))) else (lJ (some (0 : Int)))) = some (.inr (l[i]'(by omega))) :=
       letB (v:=true) (decide_eq_true (show (i:Int) < aJO l by unfold aJO; omega)) (bifT rfl (bindB hx (bifT (by simp [h0]) (leaveB rfl))))
     simp only [eG,this]
     rw [if_pos h0]
 exact (key l.length 0 (by omega) (N+19) (by omega))
end Go.Proofs.YtghpknbkecolnaaGreatDoor
