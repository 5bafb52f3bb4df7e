/- Chapter 17, plainly: words read. -/
import Derived.Test.YtghpknbkecolnaaGreatDoorCC
namespace Go.Proofs.YtghpknbkecolnaaGreatDoor
open Go.VM Go.Txt
set_option maxRecDepth 10000
abbrev SS:=List UInt8×(List ((Int×Int))×(List ((Int×Int×Int))×(List (List UInt8)×(Int×Int))))
abbrev SI:=List UInt8×(List ((Int×Int))×(List ((Int×Int×Int))×(List (Int)×(List (List UInt8)×(Int×(Int×(List (List UInt8)×(Int×Int))))))))
abbrev RR:=List ((Int×Int))×List ((Int×Int×Int))×Int
abbrev bad:RR:=(([]:List ((Int×Int))),([]:List ((Int×Int×Int))),(2:Int))
noncomputable def WB (N:Nat) (num:List UInt8→Option (Int×Bool)) (q:Bool→Bool) (p9:SS) (v14:List UInt8) (j12:SS→Option (SS ⊕ RR)):Option (SS ⊕ RR) :=
 (n39 N (v14,([58]:List UInt8))).bind fun v15 =>
 aBJ (fun (p16:(List UInt8×(List ((Int×Int))×(List ((Int×Int×Int))×(List (Int)×(List (List UInt8)×(Int×Int))))))) =>
 aBJ (fun (p18:(List UInt8×(List ((Int×Int))×(List ((Int×Int×Int))×(List (List UInt8)×(Int×Int)))))) =>
 j12 (p18.1,p18.2.1,p18.2.2.1,p18.2.2.2.1,p18.2.2.2.2.1,p18.2.2.2.2.2)) fun j19 =>
 aJy ((aJO p16.2.2.2.1)==(2:Int)) fun v20 =>
 aBJ (fun (p21:(List UInt8×(List ((Int×Int))×(List ((Int×Int×Int))×(List (List UInt8)×(Int×Int)))))) =>
 j19 (p21.1,p21.2.1,p21.2.2.1,p21.2.2.2.1,p21.2.2.2.2.1,p21.2.2.2.2.2)) fun j22 =>
 bif v20 then ((aEU p16.2.2.2.1 (0:Int)).bind fun v23 =>
 (aEU p16.2.2.2.1 (1:Int)).bind fun v24 =>
 aJy ([(v23,v24)]:List ((Int×Int))) fun v25 =>
 (aH3 16 p16.2.1 v25).bind fun v26 =>
 j22 (p16.1,v26,p16.2.2.1,p16.2.2.2.2.1,p16.2.2.2.2.2.1,p16.2.2.2.2.2.2)) else (aJy ((aJO p16.2.2.2.1)==(3:Int)) fun v27 =>
 bif v27 then ((aEU p16.2.2.2.1 (0:Int)).bind fun v28 =>
 (aEU p16.2.2.2.1 (1:Int)).bind fun v29 =>
 (aEU p16.2.2.2.1 (2:Int)).bind fun v30 =>
 aJy ([(v28,v29,v30)]:List ((Int×Int×Int))) fun v31 =>
 (aH3 24 p16.2.2.1 v31).bind fun v32 =>
 j22 (p16.1,p16.2.1,v32,p16.2.2.2.2.1,p16.2.2.2.2.2.1,p16.2.2.2.2.2.2)) else (lJ (some (([]:List ((Int×Int))),([]:List ((Int×Int×Int))),(2:Int)))))) fun j17 =>
 eG N (fun (p33:(List UInt8×(List ((Int×Int))×(List ((Int×Int×Int))×(List (Int)×(List (List UInt8)×(Int×(Int×(List (List UInt8)×(Int×Int)))))))))) =>
 aJy (decide (p33.2.2.2.2.2.2.2.2.2 < p33.2.2.2.2.2.2.2.2.1)) fun v34 =>
 bif v34 then ((aEU p33.2.2.2.2.2.2.2.1 p33.2.2.2.2.2.2.2.2.2).bind fun v35 =>
 (num v35).bind fun v36 =>
 bif (q v36.2) then (lJ (lJ (some (([]:List ((Int×Int))),([]:List ((Int×Int×Int))),(2:Int))))) else ((aH3 8 p33.2.2.2.1 ([v36.1]:List (Int))).bind fun v37 =>
 aJy (IntKind.i64.wrap (p33.2.2.2.2.2.2.2.2.2+(1:Int))) fun v38 =>
 tN (p33.1,p33.2.1,p33.2.2.1,v37,p33.2.2.2.2.1,p33.2.2.2.2.2.1,p33.2.2.2.2.2.2.1,p33.2.2.2.2.2.2.2.1,p33.2.2.2.2.2.2.2.2.1,v38))) else (lJ (j17 (p33.1,p33.2.1,p33.2.2.1,p33.2.2.2.1,p33.2.2.2.2.1,p33.2.2.2.2.2.1,p33.2.2.2.2.2.2.1)))) (p9.1,p9.2.1,p9.2.2.1,([]:List (Int)),p9.2.2.2.1,p9.2.2.2.2.1,p9.2.2.2.2.2,v15,(aJO v15),(0:Int))
/-- The numbers of a word. -/
def AF (pn:List UInt8→Option Int) (ps:List (List UInt8)) (i:Nat) (acc:List Int):Option (List Int):=(pn (ps.getD i [])).map fun v=>acc++[v]
def aw (pn:List UInt8→Option Int) (w:List UInt8):Option (List Int):=runF (AF pn (parts 58 w)) (parts 58 w).length 0 []
/-- A word put to the lists. -/
def PW (pn:List UInt8→Option Int) (p:List Cm×List Lg) (w:List UInt8):Option (List Cm×List Lg):=match aw pn w with
 | some [a,b]=>some (p.1++[(a,b)],p.2)
 | some [a,b,c]=>some (p.1,p.2++[(a,b,c)])
 | _=>none
def fin17 (s:List UInt8) (l:List Cm) (m:List Lg) (ws:List (List UInt8)) (n i:Int):List Int→SS ⊕ RR
 | [a,b]=>.inl (s,l++[(a,b)],m,ws,n,i)
 | [a,b,c]=>.inl (s,l,m++[(a,b,c)],ws,n,i)
 | _=>.inr bad
theorem word_step (N : Nat) {num : List UInt8 → Option (Int × Bool)} {q : Bool → Bool} {pn : List UInt8 → Option Int} (h1 : ∀ x v, x.length ≤ 100000 → pn x = some v → ∃ e, num x = some (v, e) ∧ q e = false) (h2 : ∀ x, x.length ≤ 100000 → pn x = none → ∃ p, num x = some p ∧ q p.2 = true)
  {s w:List UInt8} {l:List Cm} {m:List Lg} {ws:List (List UInt8)} {n:Int} {i:Nat} (hw:w.length≤100000) (hN:w.length+1 < N) (hl:l.length≤100000) (hm:m.length≤100000) (hi:i≤100000) :
  WB (N+1) num q (s,l,m,ws,n,(i:Int)) w (fun p11=>aJy (IntKind.i64.wrap (p11.2.2.2.2.2+(1:Int))) fun v13=>tN (p11.1,p11.2.1,p11.2.2.1,p11.2.2.2.1,p11.2.2.2.2.1,v13))=match PW pn (l,m) w with
   | some p=>some (.inl (s,p.1,p.2,ws,n,((i+1:Nat):Int)))
   | none=>some (.inr bad):=by
 unfold WB
 have h39:n39 (N+1) (w,[58])=some (parts 58 w):=by
  rw [e39,← split_parts]
  exact aJA ⟨by omega,by simp⟩
 have hpl:(parts 58 w).length≤w.length+1:=by
  rw [parts_length]
  have:=List.count_le_length (a:=(58:UInt8)) (l:=w)
  omega
 have hmem:=parts_mem 58 w
 have hlen:∀ x∈parts 58 w,x.length≤100000:=fun x hx=>by
  have h3:∀ (l:List (List UInt8)) (x:List UInt8),x∈l→x.length≤(Lib.join l [58]).length:=by
   intro l
   induction l with
   | nil=>intro x hx; cases hx
   | cons a l ih =>
    intro x hx
    cases l with
    | nil=>rw [Lib.join_one,List.mem_singleton.1 hx]; exact Nat.le_refl _
    | cons b l =>
     rw [join_cons2,List.length_append,List.length_cons]
     rcases List.mem_cons.1 hx with rfl | hx
     · omega
     · have:=ih x hx; omega
  have:=h3 _ x hx
  rw [join_parts] at this
  omega
 refine bindB h39 (jB ?_)
 unfold PW aw
 generalize parts 58 w=ps at *
 have nx:IntKind.i64.wrap ((i:Int)+1)=((i+1:Nat):Int):=wv _ (by omega) (by omega) (by omega)
 have hR : (match (match runF (AF pn ps) ps.length 0 [] with
     | some [a,b]=>some (l++[(a,b)],m)
     | some [a,b,c]=>some (l,m++[(a,b,c)])
     | _=>none:Option (List Cm×List Lg)) with
     | some p=>some (.inl (s,p.1,p.2,ws,n,((i+1:Nat):Int)))
     | none=>some (.inr bad))=(some (match runF (AF pn ps) ps.length 0 [] with
     | some acc=>fin17 s l m ws n ((i+1:Nat):Int) acc
     | none=>.inr bad):Option (SS ⊕ RR)):=by
  cases runF (AF pn ps) ps.length 0 [] with
  | none=>rfl
  | some acc =>
   cases acc with
   | nil=>rfl
   | cons a acc=>cases acc with
    | nil=>rfl
    | cons b acc=>cases acc with
     | nil=>rfl
     | cons c acc=>cases acc with
      | nil=>rfl
      | cons d acc=>rfl
 refine Eq.trans ?_ hR.symm
 refine loopF_go (AF pn ps) (fun i acc=>acc.length≤i) (fun k acc=>((s,l,m,acc,ws,n,(i:Int),ps,aJO ps,(k:Int)):SI)) ps.length (.inr bad) (fin17 s l m ws n ((i+1:Nat):Int)) [] rfl (Nat.le_refl _) (fun k hk acc hP=>?_) (fun acc hP=>?_) (by omega) (by cases runF (AF pn ps) ps.length 0 [] <;> rfl)
 · have hx:aEU ps (k:Int)=some (ps.getD k []):=by rw [aJo hk,List.getD,List.getElem?_eq_getElem hk]; rfl
   have hxl:(ps.getD k []).length≤100000:=by
    rw [List.getD,List.getElem?_eq_getElem hk]
    exact hlen _ (List.getElem_mem hk)
   have hd:((k:Int) < aJO ps):=by unfold aJO; omega
   unfold AF
   generalize ps.getD k []=x at *
   cases hp:pn x with
   | none =>
    obtain ⟨p,g1,g2⟩:=h2 x hxl hp
    exact ⟨fun b hb=>(by cases hb),fun _=>letB (v:=true) (decide_eq_true hd) (bifT rfl (bindB hx (bindB g1 (bifT g2 (leaveB (leaveB rfl))))))⟩
   | some v =>
    obtain ⟨e,g1,g2⟩:=h1 x v hxl hp
    refine ⟨fun b hb=>?_,fun hb=>(by cases hb)⟩
    have hb:=Option.some.inj hb
    subst hb
    refine ⟨by rw [List.length_append]; simp; omega,letB (v:=true) (decide_eq_true hd) (bifT rfl (bindB hx (bindB g1 (bifF g2 (bindB (aJm (by simp; omega) (by simp; omega)) (letB (v:=((k+1:Nat):Int)) (wv _ (show (k:Int)+1=((k+1:Nat):Int) by omega) (by omega) (by omega)) rfl))))))⟩
 · have hd:¬ ((ps.length:Int) < aJO ps):=by unfold aJO; omega
   refine letB (v:=false) (decide_eq_false hd) (bifF rfl (leaveB (jB ?_)))
   cases acc with
   | nil=>exact letB (v:=false) rfl (jB (bifF rfl (letB (v:=false) rfl (bifF rfl rfl))))
   | cons a acc=>cases acc with
    | nil=>exact letB (v:=false) rfl (jB (bifF rfl (letB (v:=false) rfl (bifF rfl rfl))))
    | cons b acc=>cases acc with
     | nil=>exact letB (v:=true) rfl (jB (bifT rfl (bindB rfl (bindB rfl (letB rfl (bindB (aJm (by simp; omega) (by simp; omega)) (letB nx rfl)))))))
     | cons c acc=>cases acc with
      | nil=>exact letB (v:=false) rfl (jB (bifF rfl (letB (v:=true) rfl (bifT rfl (bindB rfl (bindB rfl (bindB rfl (letB rfl (bindB (aJm (by simp; omega) (by simp; omega)) (letB nx rfl))))))))))
      | cons d acc =>
       have e2:(aJO (a::b::c::d::acc)==(2:Int))=false:=beq_false_of_ne (by unfold aJO; simp only [List.length_cons]; omega)
       have e3:(aJO (a::b::c::d::acc)==(3:Int))=false:=beq_false_of_ne (by unfold aJO; simp only [List.length_cons]; omega)
       exact letB (v:=false) e2 (jB (bifF rfl (letB (v:=false) e3 (bifF rfl rfl))))
end Go.Proofs.YtghpknbkecolnaaGreatDoor
