/- Chapter 15, plainly: what AspathReads asks. -/
import Derived.Test.YtajoneenakjifaaDoorEE
namespace Go.Proofs.YtajoneenakjifaaDoor
open Go.VM
set_option maxRecDepth 10000
theorem light_k (N:Nat) {p:List Seg} (hN:p.length < N) (hl:p.length≤9223372036854775807):Ok (n18 (N+1) p) fun b=>b=true→p.length≤20∧∀ s∈p,s.2.length≤80:=by
 rw [e18]
 refine ok_join (fun x=>x=p∧∀ s∈p,s.2.length≤80) (fun x ⟨e,hx⟩=>ok_let (ok_some fun hh=>⟨?_,hx⟩)) fun g hg=>?_
 · subst e
   have hh:aJO x≤20:=of_decide_eq_true hh
   unfold aJO at hh
   omega
 refine ok_loop (fun i (x:(List Seg×(List Seg×(Int×Int))))=>x=(p,p,aJO p,(i:Int))∧i≤p.length∧∀ s∈p.take i,s.2.length≤80) p.length (fun i x hx=>?_) ⟨rfl,Nat.zero_le _,by simp⟩ hN
 obtain ⟨rfl,hi,ha⟩:=hx
 refine ok_let (ok_if (fun hc=>?_) fun hc=>ok_leave (hg _ ⟨rfl,?_⟩))
 · have hc:(i:Int) < aJO p:=of_decide_eq_true hc
   unfold aJO at hc
   have hlt:i < p.length:=by omega
   refine ok_bind (aJo hlt) (ok_let (ok_if (fun _=>ok_leave (ok_some fun hh=>by cases hh)) fun h=>ok_letE (w:=((i+1:Nat):Int)) (wv _ (show (i:Int)+1=((i+1:Nat):Int) by omega) (by omega) (by omega)) (ok_again hlt ⟨rfl,hlt,fun s hs=>?_⟩)))
   have h:¬ (aJO p[i].2 > 80):=of_decide_eq_false h
   unfold aJO at h
   rw [List.take_succ_eq_append_getElem hlt] at hs
   rcases List.mem_append.1 hs with hs | hs
   · exact ha s hs
   · rw [List.mem_singleton.1 hs]; omega
 · have hc:¬ (i:Int) < aJO p:=of_decide_eq_false hc
   unfold aJO at hc
   rwa [List.take_of_length_le (by omega)] at ha
theorem modE (N:Nat) {a b:Int} (hb:0 < b) (hb2:b≤9223372036854775807):n27 (N+1) (a,b)=some (a % b):=by
 rw [e27]
 have h0:b≠0:=by omega
 simp only [↓aKO,h0,if_false,aKI,aJY,aJz,decide_eq_true_eq]
 have h1:=Int.mul_tdiv_add_tmod a b
 have h2:=Int.tmod_lt_of_pos a hb
 have h3:=Int.lt_tmod_of_pos a hb
 have h4:a % b=a.tmod b % b:=by
  conv=>lhs; rw [← h1,Int.add_comm,Int.add_mul_emod_self_left]
 by_cases hn:a.tmod b < 0
 · rw [if_pos hn,pV (by omega) (by omega),h4]
   rw [← Int.add_emod_right,Int.emod_eq_of_lt (by omega) (by omega)]
 · rw [if_neg hn,h4,Int.emod_eq_of_lt (by omega) (by omega)]
end Go.Proofs.YtajoneenakjifaaDoor
