/- Chapter 15, plainly: what AspathReads asks. -/
import Derived.Test.YtajoneenakjifaaGreatDoorEE
namespace Go.Proofs.YtajoneenakjifaaGreatDoor
open Go.VM
set_option maxRecDepth 10000
theorem light_k (N:Nat) {p:List Seg} (hN:p.length < N) (hl:p.length≤9223372036854775807):Ok (n4 (N+1) p) fun b=>b=true→p.length≤20∧∀ s∈p,s.2.length≤80:=by
 rw [e4]
 refine ok_join (fun x=>x=p∧∀ s∈p,s.2.length≤80) (fun x ⟨e,hx⟩=>ok_let (ok_some fun hh=>⟨?_,hx⟩)) fun g hg=>?_
 · subst e
   have hh:aJO x≤20:=of_decide_eq_true hh
   unfold aJO at hh
   omega
 refine ok_loop (fun i (x:(List Seg×(List Seg×(Int×Int))))=>x=(p,p,aJO p,(i:Int))∧i≤p.length∧∀ s∈p.take i,s.2.length≤80) p.length (fun i x hx=>?_) ⟨rfl,Nat.zero_le _,by simp⟩ hN
 obtain ⟨rfl,hi,ha⟩:=hx
 refine ok_let (ok_if (fun hc=>?_) fun hc=>ok_leave (hg _ ⟨rfl,?_⟩))
 · have hc:(i:Int) < aJO p:=of_decide_eq_true hc
   unfold aJO at hc
   have hlt:i < p.length:=by omega
   refine ok_bind (aJo hlt) (ok_let (ok_if (fun _=>ok_leave (ok_some fun hh=>by cases hh)) fun h=>ok_letE (w:=((i+1:Nat):Int)) (wv _ (show (i:Int)+1=((i+1:Nat):Int) by omega) (by omega) (by omega)) (ok_again hlt ⟨rfl,hlt,fun s hs=>?_⟩)))
   have h:¬ (aJO p[i].2 > 80):=of_decide_eq_false h
   unfold aJO at h
   rw [List.take_succ_eq_append_getElem hlt] at hs
   rcases List.mem_append.1 hs with hs | hs
   · exact ha s hs
   · rw [List.mem_singleton.1 hs]; omega
 · have hc:¬ (i:Int) < aJO p:=of_decide_eq_false hc
   unfold aJO at hc
   rwa [List.take_of_length_le (by omega)] at ha
end Go.Proofs.YtajoneenakjifaaGreatDoor
