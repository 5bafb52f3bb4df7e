/- Chapter 17, plainly: lists printed. -/
import Derived.Test.YtghpknbkecolnaaGreatDoorCB
namespace Go.Proofs.YtghpknbkecolnaaGreatDoor
open Go.VM Go.Txt
set_option maxRecDepth 10000
def u32 (v:Int):Prop:=0≤v∧v≤4294967295
theorem itoa_n (N:Nat) {v:Int} (h:u32 v):n35 (N+1) v=some (Lib.itoa v):=by
 rw [e35]
 exact aJ6 ⟨by have:=h.1; omega,by have:=h.2; omega⟩
theorem itoa_10 {v:Int} (h:u32 v):1≤(Lib.itoa v).length∧(Lib.itoa v).length≤10:=by
 obtain ⟨h1,h2⟩:=h
 obtain ⟨u,rfl⟩:=Int.eq_ofNat_of_zero_le h1
 rw [Lib.itoa_nonneg u]
 have:=dd_len 9 u (by omega)
 have:=List.length_pos_iff.2 (dd_facts u).1
 omega
def wordC (c:Cm):List UInt8:=Lib.itoa c.1++58::Lib.itoa c.2
def wordL (c:Lg):List UInt8:=Lib.itoa c.1++58::(Lib.itoa c.2.1++58::Lib.itoa c.2.2)
def u2 (c:Cm):Prop:=u32 c.1∧u32 c.2
def u3 (c:Lg):Prop:=u32 c.1∧u32 c.2.1∧u32 c.2.2
theorem fitC_u {c:Cm} (h:fitC c=true):u2 c:=by
 unfold fitC at h
 have h:=of_decide_eq_true h
 unfold u2 u32
 omega
theorem fitL_u {c:Lg} (h:fitL c=true):u3 c:=by
 unfold fitL at h
 have h:=of_decide_eq_true h
 unfold u3 u32
 omega
theorem wordC_len {c:Cm} (h:u2 c):(wordC c).length≤32:=by
 have h1:=itoa_10 h.1
 have h2:=itoa_10 h.2
 unfold wordC
 simp only [List.length_append,List.length_cons]
 omega
theorem wordL_len {c:Lg} (h:u3 c):(wordL c).length≤32:=by
 have h1:=itoa_10 h.1
 have h2:=itoa_10 h.2.1
 have h3:=itoa_10 h.2.2
 unfold wordL
 simp only [List.length_append,List.length_cons]
 omega
def wds (l:List Cm) (m:List Lg):List (List UInt8):=l.map wordC++m.map wordL
def prt (l:List Cm) (m:List Lg):List UInt8:=Lib.join (wds l m) [32]
theorem join_le {c:UInt8} {k:Nat}:∀ {ws:List (List UInt8)},(∀ w∈ws,w.length≤k)→(Lib.join ws [c]).length≤ws.length * (k+1)
 | [],_=>by simp [Lib.join]
 | [w],h=>by rw [Lib.join_one]; have:=h w (by simp); simp; omega
 | w::x::r,h=>by
  have:=join_le (c:=c) (ws:=x::r) (fun y hy=>h y (List.mem_cons_of_mem _ hy))
  have h1:=h w (by simp)
  rw [join_cons2,List.length_append,List.length_cons,List.length_cons,Nat.succ_mul]
  omega
/-- A word,as the program writes it. -/
theorem join_p (N:Nat) {ns:List Int} (hn:∀ v∈ns,u32 v) (hl:ns.length≤3):n37 (N+10) ns=some (Lib.join (ns.map Lib.itoa) [58]):=by
 rw [e37]
 refine jB ?_
 refine loopN_seq' (fun i=>(((ns.take i).map Lib.itoa,ns,aJO ns,(i:Int)):(List (List UInt8)×(List (Int)×(Int×Int))))) ns.length rfl (fun i hi=>?_) ?_ (by omega)
 · have hx:aEU ns (i:Int)=some ns[i]:=aJo hi
   refine letB (v:=true) (decide_eq_true (show (i:Int) < aJO ns by unfold aJO; omega)) (bifT rfl (bindB hx (bindB (itoa_n (N+8) (hn _ (List.getElem_mem hi))) (bindB (v:=(ns.take (i+1)).map Lib.itoa) ?_ (letB (v:=((i+1:Nat):Int)) (wv _ (show (i:Int)+1=((i+1:Nat):Int) by omega) (by omega) (by omega)) rfl)))))
   rw [aJm (by simp; omega) (by simp; omega),List.take_succ_eq_append_getElem hi,List.map_append]
   rfl
 · refine letB (v:=false) (decide_eq_false (show ¬ (ns.length:Int) < aJO ns by unfold aJO; omega)) (bifF rfl (leaveB (bindB (v:=Lib.join (ns.map Lib.itoa) [58]) ?_ rfl)))
   rw [List.take_length,e36,aIs]
   have hb:(Lib.join (ns.map Lib.itoa) [58]).length≤(ns.map Lib.itoa).length * (10+1):=join_le fun w hw=>by
    obtain ⟨v,hv,rfl⟩:=List.mem_map.1 hw
    exact (itoa_10 (hn v hv)).2
   rw [List.length_map] at hb
   exact if_pos ⟨by simp; omega,Nat.le_trans hb (by omega)⟩
theorem joinC (N:Nat) {c:Cm} (h:u2 c):n37 (N+10) [c.1,c.2]=some (wordC c):=by
 rw [join_p N (by intro v hv; simp at hv; rcases hv with rfl | rfl; exact h.1; exact h.2) (by simp)]
 congr 1
 show Lib.join [_,_] [58]=_
 rw [join_cons2,Lib.join_one]; rfl
theorem aBK (N:Nat) {c:Lg} (h:u3 c):n37 (N+10) [c.1,c.2.1,c.2.2]=some (wordL c):=by
 rw [join_p N (by intro v hv; simp at hv; rcases hv with rfl | rfl | rfl; exact h.1; exact h.2.1; exact h.2.2) (by simp)]
 congr 1
 show Lib.join [_,_,_] [58]=_
 rw [join_cons2,join_cons2,Lib.join_one]; rfl
theorem wds_len {l:List Cm} {m:List Lg} (hl:∀ c∈l,u2 c) (hm:∀ c∈m,u3 c):∀ w∈wds l m,w.length≤32:=fun w hw=>by
 rcases List.mem_append.1 hw with hw | hw
 · obtain ⟨c,hc,rfl⟩:=List.mem_map.1 hw; exact wordC_len (hl c hc)
 · obtain ⟨c,hc,rfl⟩:=List.mem_map.1 hw; exact wordL_len (hm c hc)
theorem prt_len {l:List Cm} {m:List Lg} (hl:∀ c∈l,u2 c) (hm:∀ c∈m,u3 c):(prt l m).length≤(l.length+m.length) * 33:=by
 have:=join_le (c:=32) (wds_len hl hm)
 unfold prt
 have e:(wds l m).length=l.length+m.length:=by unfold wds; simp
 rwa [e] at this
theorem last_join (N:Nat) {l:List Cm} {m:List Lg} (hl:∀ c∈l,u2 c) (hm:∀ c∈m,u3 c) (h1:l.length≤64) (h2:m.length≤64):n36 (N+1) (wds l m,[32])=some (prt l m):=by
 rw [e36,aIs]
 have:=prt_len hl hm
 refine if_pos ⟨by unfold wds; simp; omega,?_⟩
 show (prt l m).length≤_
 omega
/-- The text of two lists. -/
def printP (l:List Cm) (m:List Lg):List UInt8:=if (vldC l&&vldL m)=true then prt l m else []
theorem print_p (N:Nat) (hN:200 < N) {l:List Cm} {m:List Lg} (hl:l.length < N) (hm:m.length < N) (hl2:l.length≤100000) (hm2:m.length≤100000):n11 (N+60) (l,m)=some (printP l m):=by
 rw [e11]
 unfold printP
 refine bindB (valid_c (N+9) (l:=l) (by omega) hl2) ?_
 cases hc:vldC l with
 | false=>exact bindB (v:=false) rfl (letB (v:=true) rfl (bifT rfl rfl))
 | true =>
  refine bindB (bifT rfl (valid_l (N+9) (l:=m) (by omega) hm2)) ?_
  cases hd:vldL m with
  | false=>exact letB (v:=true) rfl (bifT rfl rfl)
  | true =>
   have cl:∀ c∈l,u2 c:=fun c h=>fitC_u (vld_fit hc c h)
   have cm:∀ c∈m,u3 c:=fun c h=>fitL_u (vld_fit hd c h)
   have l64:=vld_len hc
   have m64:=vld_len hd
   rw [if_pos (show (true&&true)=true from rfl)]
   refine letB (v:=false) rfl (bifF rfl (jB ?_))
   refine loopN_seq' (fun i=>((m,(l.take i).map wordC,l,aJO l,(i:Int)):(List ((Int×Int×Int))×(List (List UInt8)×(List ((Int×Int))×(Int×Int)))))) l.length rfl (fun i hi=>?_) ?_ (by omega)
   · have hx:aEU l (i:Int)=some l[i]:=aJo hi
     refine letB (v:=true) (decide_eq_true (show (i:Int) < aJO l by unfold aJO; omega)) (bifT rfl (bindB hx (letB rfl (bindB (joinC (N+49) (cl _ (List.getElem_mem hi))) (bindB (v:=(l.take (i+1)).map wordC) ?_ (letB (v:=((i+1:Nat):Int)) (wv _ (show (i:Int)+1=((i+1:Nat):Int) by omega) (by omega) (by omega)) rfl))))))
     rw [aJm (by simp; omega) (by simp; omega),List.take_succ_eq_append_getElem hi,List.map_append]
     rfl
   · rw [List.take_length]
     refine letB (v:=false) (decide_eq_false (show ¬ (l.length:Int) < aJO l by unfold aJO; omega)) (bifF rfl (leaveB ?_))
     refine jB ?_
     refine loopN_seq' (fun i=>((l.map wordC++(m.take i).map wordL,m,aJO m,(i:Int)):(List (List UInt8)×(List ((Int×Int×Int))×(Int×Int))))) m.length (by simp) (fun i hi=>?_) ?_ (by omega)
     · have hx:aEU m (i:Int)=some m[i]:=aJo hi
       refine letB (v:=true) (decide_eq_true (show (i:Int) < aJO m by unfold aJO; omega)) (bifT rfl (bindB hx (letB rfl (bindB (aBK (N+49) (cm _ (List.getElem_mem hi))) (bindB (v:=l.map wordC++(m.take (i+1)).map wordL) ?_ (letB (v:=((i+1:Nat):Int)) (wv _ (show (i:Int)+1=((i+1:Nat):Int) by omega) (by omega) (by omega)) rfl))))))
       rw [aJm (by simp; omega) (by simp; omega),List.take_succ_eq_append_getElem hi,List.map_append,List.append_assoc]
       rfl
     · rw [List.take_length]
       exact letB (v:=false) (decide_eq_false (show ¬ (m.length:Int) < aJO m by unfold aJO; omega)) (bifF rfl (leaveB (bindB (last_join (N+58) cl cm l64 m64) rfl)))
end Go.Proofs.YtghpknbkecolnaaGreatDoor
