/- Chapter 17, plainly: lists put together in any order are the same. -/
import Derived.Test.YtghpknbkecolnaaDoorDA
namespace Go.Proofs.YtghpknbkecolnaaDoor
open Go.VM Go.Txt
set_option maxRecDepth 10000
theorem inc_pw {T:Type} {les:T→T→Bool} {l:List T}:Inc les l↔l.Pairwise (fun a b=>les a b=true):=by
 rw [List.pairwise_iff_getElem]
 exact ⟨fun h i j hi hj hij=>h i j hi hj hij,fun h i j hi hj hij=>h i j hi hj hij⟩
theorem addTo_ins {T : Type} [DecidableEq T] {z : T} {fit : T → Bool} {les : T → T → Bool} (L : Les les) {l : List T} {c : T} {r : List T × Int} (h : AddTo (vld z fit les) fit les l c r) (hv : vld z fit les l = true) (hf : fit c = true) (hl : l.length < 64) :
  r.2=0∧vld z fit les r.1=true∧(∀ x,x∈r.1↔x=c∨x∈l)∧r.1.length≤l.length+1:=by
 rcases h with ⟨h1 | h1,_⟩ | ⟨_,_,i,hp,rfl⟩
 · rw [hv] at h1; cases h1
 · rw [hf] at h1; cases h1
 obtain ⟨k1,k2,k3⟩:=(vld_iff L).1 hv
 have hat:=has_at L k2 hp
 unfold addR
 by_cases hm:l[i]?=some c
 · rw [if_pos hm]
   exact ⟨rfl,hv,fun x=>⟨.inr,fun hx=>hx.elim (fun e=>by rw [e]; exact hat.2 hm) id⟩,Nat.le_succ _⟩
 rw [if_neg hm,if_neg (by omega)]
 have hlen:(l.take i++[c]++l.drop i).length≤l.length+1:=ins_len l i c
 have hmem:∀ x,x∈l.take i++[c]++l.drop i↔x=c∨x∈l:=fun x=>by
  have:x∈l↔x∈l.take i∨x∈l.drop i:=by rw [← List.mem_append,List.take_append_drop]
  rw [this,List.mem_append,List.mem_append,List.mem_singleton]
  constructor
  · rintro ((h | h) | h)
    · exact .inr (.inl h)
    · exact .inl h
    · exact .inr (.inr h)
  · rintro (h | h | h)
    · exact .inl (.inr h)
    · exact .inl (.inl h)
    · exact .inr h
 refine ⟨rfl,(vld_iff L).2 ⟨fun x hx=>?_,inc_pw.2 ?_,Nat.le_trans hlen (by omega)⟩,hmem,hlen⟩
 · rcases (hmem x).1 hx with rfl | hx
   · exact hf
   · exact k1 x hx
 · have pw:=inc_pw.1 k2
   have lo:∀ a∈l.take i,les a c=true:=fun a ha=>by
    obtain ⟨j,hj,e⟩:=List.getElem_of_mem ha
    rw [List.getElem_take] at e
    rw [List.length_take] at hj
    rw [← e]
    exact hp.2.1 j (by omega) (by omega)
   have hi:∀ a∈l.drop i,les c a=true:=fun a ha=>by
    obtain ⟨j,hj,e⟩:=List.getElem_of_mem ha
    rw [List.getElem_drop] at e
    rw [List.length_drop] at hj
    have n1:=hp.2.2 (i+j) (by omega) (by omega)
    rw [e] at n1
    cases q:les c a with
    | true=>rfl
    | false =>
     have:=L.tri _ _ n1 q
     subst this
     exact absurd (hat.1 (List.mem_of_mem_drop ha)) hm
   rw [List.append_assoc,List.pairwise_append]
   refine ⟨pw.take,?_,fun a ha b hb=>?_⟩
   · rw [List.singleton_append,List.pairwise_cons]
     exact ⟨hi,pw.drop⟩
   · rw [List.singleton_append] at hb
     rcases List.mem_cons.1 hb with rfl | hb
     · exact lo a ha
     · exact L.tr _ _ _ (lo a ha) (hi b hb)
theorem modE (N:Nat) {a b:Int} (hb:0 < b) (hb2:b≤9223372036854775807):n6 (N+1) (a,b)=some (a % b):=by
 rw [e6]
 have h0:b≠0:=by omega
 simp only [↓aKO,h0,if_false,aKI,aJY,aJz,decide_eq_true_eq]
 have h1:=Int.mul_tdiv_add_tmod a b
 have h2:=Int.tmod_lt_of_pos a hb
 have h3:=Int.lt_tmod_of_pos a hb
 have h4:a % b=a.tmod b % b:=by
  conv=>lhs; rw [← h1,Int.add_comm,Int.add_mul_emod_self_left]
 by_cases hn:a.tmod b < 0
 · rw [if_pos hn,pV (by omega) (by omega),h4]
   rw [← Int.add_emod_right,Int.emod_eq_of_lt (by omega) (by omega)]
 · rw [if_neg hn,h4,Int.emod_eq_of_lt (by omega) (by omega)]
theorem loop_inv {α R:Type} {body:α→Option (α ⊕ R)} (I:Nat→α→Prop) (n:Nat) {r:R} (h:∀ i a,I i a→(∃ b,body a=some (.inl b)∧i < n∧I (i+1) b)∨body a=some (.inr r)) {x:α} (hx:I 0 x) {M:Nat} (hM:n < M):eG M body x=some r:=by
 obtain ⟨s,hs,rfl⟩:=loop_tot I (fun s=>s=r) n (fun i a ha=>(h i a ha).imp id fun k=>⟨r,k,rfl⟩) n 0 x M hx (by omega) hM
 exact hs
end Go.Proofs.YtghpknbkecolnaaDoor
