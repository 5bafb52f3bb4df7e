/- Chapter 15, plainly: the program's answers are the document's: first, last, all numbers, length, reserved ones. -/
import Derived.Test.YtajoneenakjifaaGreatDoorED
namespace Go.Proofs.YtajoneenakjifaaGreatDoor
open Go.VM
set_option maxRecDepth 10000
theorem pvd_ne {p:List Seg} (h:pvd p=true):∀ s∈p,0 < s.2.length:=by
 unfold pvd at h
 rw [Bool.and_eq_true,List.all_eq_true] at h
 intro s hs
 obtain ⟨i,hi,e⟩:=List.getElem_of_mem hs
 have h1:=h.1 i (by simp [List.mem_range']; omega)
 unfold segOk at h1
 rw [Bool.and_eq_true,Bool.and_eq_true,getD_lt zS hi,e] at h1
 have h2:=h1.1.1
 cases hq:s.2 with
 | nil=>rw [hq] at h2; cases h2
 | cons a l=>simp
/-- The first gT. -/
def fst1 (p:List Seg):Int×Bool:=if (!p.isEmpty&&pvd p&&!(p.getD 0 zS).1)=true then ((p.getD 0 zS).2.getD 0 0,true) else (0,false)
theorem isE {T:Type} (p:List T):(aJO p==(0:Int))=p.isEmpty:=by
 unfold aJO
 cases p with
 | nil=>rfl
 | cons a l=>simp; omega
theorem first_n (N:Nat) (hN:100001 < N) {p:List Seg} (hp:p.length≤1000) (hs:∀ s∈p,s.2.length≤100000):n14 (N+3) p=some (fst1 p):=by
 rw [e14,isE]
 have hv:=valid_p N hN hp hs
 unfold fst1
 cases he:p.isEmpty with
 | true=>exact bindB rfl (letB (v:=true) rfl (bindB rfl (bifT rfl rfl)))
 | false =>
  have h0:0 < p.length:=by cases p with | nil=>cases he | cons=>simp
  have hx:aEU p 0=some (p.getD 0 zS):=nIdx_gD (i:=0) zS h0
  cases hq:pvd p with
  | false=>rw [hq] at hv; exact bindB (bifT rfl hv) (letB (v:=true) rfl (bindB rfl (bifT rfl rfl)))
  | true =>
   rw [hq] at hv
   refine bindB (bifT rfl hv) (letB (v:=false) rfl (bindB (bifT rfl hx) ?_))
   have hn:=pvd_ne hq (p.getD 0 zS) (by rw [getD_lt zS h0]; exact List.getElem_mem h0)
   cases hb:(p.getD 0 zS).1 with
   | true=>exact bifT rfl rfl
   | false=>exact bifF rfl (bindB hx (bindB (nIdx_gD (i:=0) 0 hn) rfl))
/-- The last gT. -/
def lst1 (p:List Seg):Int×Bool:=if (!p.isEmpty&&pvd p&&!(p.getD (p.length - 1) zS).1)=true then ((flat p).getD ((flat p).length - 1) 0,true) else (0,false)
theorem flat_last {p:List Seg} (h0:0 < p.length) (hn:0 < (p.getD (p.length - 1) zS).2.length):(flat p).getD ((flat p).length - 1) 0=(p.getD (p.length - 1) zS).2.getD ((p.getD (p.length - 1) zS).2.length - 1) 0∧0 < (flat p).length:=by
 have e:flat p=flat (p.take (p.length - 1))++(p.getD (p.length - 1) zS).2:=by
  have:=flat_take (p:=p) (i:=p.length - 1) (by omega)
  rw [show p.length - 1+1=p.length by omega,List.take_length] at this
  rw [this,getD_lt zS (show p.length - 1 < p.length by omega)]
 generalize (p.getD (p.length - 1) zS).2=l at *
 rw [e]
 constructor
 · rw [List.getD,List.getD,List.length_append,List.getElem?_append_right (by omega)]
   congr 2
   omega
 · rw [List.length_append]; omega
theorem origin_n (N:Nat) (hN:100001 < N) {p:List Seg} (hp:p.length≤1000) (hs:∀ s∈p,s.2.length≤100000):n15 (N+3) p=some (lst1 p):=by
 rw [e15,isE]
 have hv:=valid_p N hN hp hs
 unfold lst1
 cases he:p.isEmpty with
 | true=>exact bindB rfl (letB (v:=true) rfl (letB rfl (bindB rfl (bifT rfl rfl))))
 | false =>
  have h0:0 < p.length:=by cases p with | nil=>cases he | cons=>simp
  have hw:IntKind.i64.wrap (aJO p - 1)=((p.length - 1:Nat):Int):=wv _ (by unfold aJO; omega) (by omega) (by omega)
  have hx:aEU p ((p.length - 1:Nat):Int)=some (p.getD (p.length - 1) zS):=nIdx_gD zS (by omega)
  cases hq:pvd p with
  | false=>rw [hq] at hv; exact bindB (bifT rfl hv) (letB (v:=true) rfl (letB rfl (bindB rfl (bifT rfl rfl))))
  | true =>
   rw [hq] at hv
   refine bindB (bifT rfl hv) (letB (v:=false) rfl (letB hw (bindB (bifT rfl hx) ?_)))
   have hm:p.getD (p.length - 1) zS∈p:=by rw [getD_lt zS (show p.length - 1 < p.length by omega)]; exact List.getElem_mem _
   have hn:=pvd_ne hq _ hm
   have hl:=hs _ hm
   obtain ⟨f1,_⟩:=flat_last h0 hn
   rw [f1]
   cases hb:(p.getD (p.length - 1) zS).1 with
   | true=>exact bifT rfl rfl
   | false=>exact bifF rfl (letB hw (bindB hx (letB (v:=(((p.getD (p.length - 1) zS).2.length - 1:Nat):Int)) (wv _ (by unfold aJO; omega) (by omega) (by omega)) (bindB (nIdx_gD 0 (by omega)) rfl))))
end Go.Proofs.YtajoneenakjifaaGreatDoor
