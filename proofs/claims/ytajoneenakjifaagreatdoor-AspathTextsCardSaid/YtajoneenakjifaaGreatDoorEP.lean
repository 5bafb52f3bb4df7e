/- Chapter 15, plainly: the document's Print and its numbers. -/
import Derived.Test.YtajoneenakjifaaGreatDoorEG
import Derived.Test.YtajoneenakjifaaGreatDoorZE1
namespace Go.Proofs.YtajoneenakjifaaGreatDoor
open Go.VM Go.Txt
set_option maxRecDepth 10000
theorem join_r (N:Nat) (c:UInt8) {ns:List Int} (hN:64 < N) (hn:∀ v∈ns,num v=true) (hl:ns.length≤64):n20 (N+10) (ns,[c])=some (joinS ns c):=by
 rw [e20]
 refine jB ?_
 refine loopN_seq' (fun i=>(([c],(ns.take i).map Lib.itoa,ns,aJO ns,(i:Int)):(List UInt8×(List (List UInt8)×(List (Int)×(Int×Int)))))) ns.length rfl (fun i hi=>?_) ?_ (by omega)
 · have hx:aEU ns (i:Int)=some ns[i]:=aJo hi
   refine letB (v:=true) (decide_eq_true (show (i:Int) < aJO ns by unfold aJO; omega)) (bifT rfl (bindB hx (bindB (itoa_n (N+8) (hn _ (List.getElem_mem hi))) (bindB (v:=(ns.take (i+1)).map Lib.itoa) ?_ (letB (v:=((i+1:Nat):Int)) (wv _ (show (i:Int)+1=((i+1:Nat):Int) by omega) (by omega) (by omega)) rfl)))))
   rw [aJm (by simp; omega) (by simp; omega),List.take_succ_eq_append_getElem hi,List.map_append]
   rfl
 · refine letB (v:=false) (decide_eq_false (show ¬ (ns.length:Int) < aJO ns by unfold aJO; omega)) (bifF rfl (leaveB (bindB (v:=joinS ns c) ?_ rfl)))
   rw [List.take_length,e21,aIs]
   have hb:=joinS_len (c:=c) hn hl
   exact if_pos ⟨by simp; omega,Nat.le_trans hb (by omega)⟩
theorem print_r (N:Nat) (hN:100100 < N) {p:List Seg} (hv:pvd p=true):n8 (N+20) p=some (prt p):=by
 rw [e8]
 have h64:=pvd_len hv
 have hsz:=pvd_sz hv
 have hnm:=pvd_num hv
 have hva:=valid_r (N+17) (by omega) (p:=p) (by omega) fun s hs=>Nat.le_trans (h64 s hs) (by omega)
 rw [hv] at hva
 refine bindB hva (bifF rfl (jB ?_))
 refine loopN_seq' (fun i=>(((p.take i).map segT,p,aJO p,(i:Int)):(List (List UInt8)×(List Seg×(Int×Int))))) p.length rfl (fun i hi=>?_) ?_ (by omega)
 · have hm:=List.getElem_mem hi
   have nx:IntKind.i64.wrap ((i:Int)+1)=((i+1:Nat):Int):=wv _ (by omega) (by omega) (by omega)
   have sT:(p.take (i+1)).map segT=(p.take i).map segT++[segT p[i]]:=by
    rw [List.take_succ_eq_append_getElem hi,List.map_append]; rfl
   have ap:∀ t,t=segT p[i]→aH3 16 ((p.take i).map segT) [t]=some ((p.take (i+1)).map segT):=fun t ht=>by
    rw [sT,ht]
    exact aJm (by simp; omega) (by simp; omega)
   refine letB (v:=true) (decide_eq_true (show (i:Int) < aJO p by unfold aJO; omega)) (bifT rfl (jB (bindB (aJo hi) (jB ?_))))
   have j1:=joinS_len (c:=44) (hnm _ hm) (h64 _ hm)
   cases hb:p[i].1 with
   | true =>
    refine bifT rfl (bindB (join_r (N+9) 44 (by omega) (hnm _ hm) (h64 _ hm)) (bindB (cat_ok (by simp; omega)) (bindB (cat_ok (by simp; omega)) (bindB (ap _ ?_) (letB nx rfl)))))
    unfold segT; rw [if_pos hb]
   | false =>
    refine bifF rfl (bindB (join_r (N+9) 32 (by omega) (hnm _ hm) (h64 _ hm)) (bindB (ap _ ?_) (letB nx rfl)))
    unfold segT; rw [if_neg (by rw [hb]; simp)]
 · rw [List.take_length]
   refine letB (v:=false) (decide_eq_false (show ¬ (p.length:Int) < aJO p by unfold aJO; omega)) (bifF rfl (leaveB (bindB (v:=prt p) ?_ rfl)))
   rw [e21,aIs]
   have hb:(Lib.join (p.map segT) [32]).length≤(p.map segT).length * (706+1):=join_le fun w hw=>by
    obtain ⟨s,hs,rfl⟩:=List.mem_map.1 hw
    exact segT_len (hnm s hs) (h64 s hs)
   rw [List.length_map] at hb
   exact if_pos ⟨by simp; omega,Nat.le_trans hb (by omega)⟩
theorem print_r0 (N:Nat) (hN:100100 < N) {p:List Seg} (hm:Mid p) (hv:pvd p=false):n8 (N+20) p=some []:=by
 rw [e8]
 have hva:=valid_r (N+17) (by omega) hm.1 hm.2
 rw [hv] at hva
 exact bindB hva (bifT rfl rfl)
/-- One digit. -/
def dF (s:List UInt8) (i:Nat) (n:Int):Option Int:=if ((s.getD i 0).toNat:Int) < 48∨((s.getD i 0).toNat:Int) > 57∨n > 1099511627776 then none else some (10 * n+(((s.getD i 0).toNat:Int) - 48))
theorem run_dec (s:List UInt8):∀ (m i:Nat) (n:Int),i+m=s.length→runF (dF s) m i n=decL (s.drop i) n
 | 0,i,n,h=>by
  rw [runF,List.drop_of_length_le (by omega)]; rfl
 | m+1,i,n,h=>by
  have hi:i < s.length:=by omega
  rw [runF,List.drop_eq_getElem_cons hi,decL]
  have e:s.getD i 0=s[i]:=by rw [List.getD_eq_getElem?_getD,List.getElem?_eq_getElem hi]; rfl
  unfold dF
  rw [e]
  split
  · rfl
  · exact run_dec s m (i+1) _ (by omega)
theorem dec_n (N:Nat) {s:List UInt8} (hN:s.length < N) (hs:s.length≤1000000):Z.n30 (N+1) s=some (dec s):=by
 rw [Z.e30]
 refine jB (loopF_go (dF s) (fun _ n=>0≤n∧n≤10995116277769) (fun i n=>(s,n,aJO s,(i:Int))) s.length (0,false) (fun n=>(n,!s.isEmpty&&decide (n≤1099511627776))) 0 rfl ⟨by omega,by omega⟩ (fun i hi n hP=>?_) (fun n hP=>?_) hN ?_)
 · have e:s.getD i 0=s[i]:=by rw [List.getD_eq_getElem?_getD,List.getElem?_eq_getElem hi]; rfl
   have hb:aKH s (i:Int)=some ((s[i].toNat:Nat):Int):=(nIdxB_lt hi).trans (by rw [nBytes_get hi])
   have h255:s[i].toNat < 256:=s[i].toNat_lt
   unfold dF
   rw [e]
   by_cases h1:(s[i].toNat:Int) < 48
   · refine ⟨fun b hb'=>(by rw [if_pos (.inl h1)] at hb'; cases hb'),fun _=>?_⟩
     refine letB (v:=true) (decide_eq_true (show (i:Int) < aJO s by unfold aJO; omega)) (bifT rfl (bindB hb ?_))
     rw [decide_eq_true h1]
     exact rfl
   · by_cases h2:(s[i].toNat:Int) > 57
     · refine ⟨fun b hb'=>(by rw [if_pos (.inr (.inl h2))] at hb'; cases hb'),fun _=>?_⟩
       refine letB (v:=true) (decide_eq_true (show (i:Int) < aJO s by unfold aJO; omega)) (bifT rfl (bindB hb ?_))
       rw [decide_eq_false h1]
       refine bindB (v:=((s[i].toNat:Nat):Int)) (bifT rfl hb) ?_
       rw [decide_eq_true h2]
       exact rfl
     · by_cases h3:n > 1099511627776
       · refine ⟨fun b hb'=>(by rw [if_pos (.inr (.inr h3))] at hb'; cases hb'),fun _=>?_⟩
         refine letB (v:=true) (decide_eq_true (show (i:Int) < aJO s by unfold aJO; omega)) (bifT rfl (bindB hb ?_))
         rw [decide_eq_false h1]
         refine bindB (v:=((s[i].toNat:Nat):Int)) (bifT rfl hb) ?_
         rw [decide_eq_false h2]
         refine letB rfl (letB (v:=true) (decide_eq_true h3) ?_)
         exact rfl
       · have hc:¬ ((s[i].toNat:Int) < 48∨(s[i].toNat:Int) > 57∨n > 1099511627776):=by omega
         rw [if_neg hc]
         refine ⟨fun b hb'=>?_,fun h=>by cases h⟩
         cases hb'
         refine ⟨by omega,?_⟩
         refine letB (v:=true) (decide_eq_true (show (i:Int) < aJO s by unfold aJO; omega)) (bifT rfl (bindB hb ?_))
         rw [decide_eq_false h1]
         refine bindB (v:=((s[i].toNat:Nat):Int)) (bifT rfl hb) ?_
         rw [decide_eq_false h2]
         refine letB rfl (letB (v:=false) (decide_eq_false h3) (bifF rfl ?_))
         refine letB (v:=10 * n) (wv _ rfl (by omega) (by omega)) (bindB hb (letB (v:=(s[i].toNat:Int) - 48) ?_ (letB (v:=10 * n+((s[i].toNat:Int) - 48)) ?_ (letB (v:=((i+1:Nat):Int)) (wv _ (show (i:Int)+1=((i+1:Nat):Int) by omega) (by omega) (by omega)) rfl))))
         · show IntKind.u8.wrap _=_
           rw [IntKind.wrap_u8]; omega
         · show IntKind.i64.wrap (10 * n+IntKind.i64.wrap ((s[i].toNat:Int) - 48))=_
           have hw:IntKind.i64.wrap ((s[i].toNat:Int) - 48)=(s[i].toNat:Int) - 48:=wv _ rfl (by omega) (by omega)
           rw [hw]
           exact wv _ rfl (by omega) (by omega)
 · refine letB (v:=false) (decide_eq_false (show ¬ (s.length:Int) < aJO s by unfold aJO; omega)) (bifF rfl (leaveB ?_))
   refine letB (v:=!s.isEmpty) ?_ (letB rfl ?_)
   · show (!(s==[]))=!s.isEmpty
     cases s <;> rfl
   · cases s.isEmpty <;> rfl
 · rw [run_dec s s.length 0 0 (by omega),List.drop_zero]
   unfold dec
   cases decL s 0 <;> rfl
end Go.Proofs.YtajoneenakjifaaGreatDoor
