/- Chapter 17, plainly: lists put together in any order are the same. -/
import Derived.Test.YtghpknbkecolnaaGreatDoorDA
namespace Go.Proofs.YtghpknbkecolnaaGreatDoor
open Go.VM Go.Txt
set_option maxRecDepth 10000
theorem inc_pw {T:Type} {les:T→T→Bool} {l:List T}:Inc les l↔l.Pairwise (fun a b=>les a b=true):=by
 rw [List.pairwise_iff_getElem]
 exact ⟨fun h i j hi hj hij=>h i j hi hj hij,fun h i j hi hj hij=>h i j hi hj hij⟩
theorem inc_uniq {T:Type} {les:T→T→Bool} (L:Les les):∀ (l m:List T),l.Pairwise (fun a b=>les a b=true)→m.Pairwise (fun a b=>les a b=true)→(∀ x,x∈l↔x∈m)→l=m
 | [],[],_,_,_=>rfl
 | [],b::m,_,_,h=>by have:=(h b).2 List.mem_cons_self; cases this
 | a::l,[],_,_,h=>by have:=(h a).1 List.mem_cons_self; cases this
 | a::l,b::m,h1,h2,h=>by
  obtain ⟨p1,p2⟩:=List.pairwise_cons.1 h1
  obtain ⟨q1,q2⟩:=List.pairwise_cons.1 h2
  have e:a=b:=by
   rcases List.mem_cons.1 ((h a).1 List.mem_cons_self) with e | e
   · exact e
   · rcases List.mem_cons.1 ((h b).2 List.mem_cons_self) with e2 | e2
     · exact e2.symm
     · have:=L.tr _ _ _ (p1 _ e2) (q1 _ e)
       rw [L.irr] at this; cases this
  subst e
  have no:∀ {k:List T},(∀ x∈k,les a x=true)→a∉k:=fun hk hm=>by
   have:=hk a hm
   rw [L.irr] at this; cases this
  rw [inc_uniq L l m p2 q2 fun x=>⟨fun hx=>?_,fun hx=>?_⟩]
  · rcases List.mem_cons.1 ((h x).1 (List.mem_cons_of_mem _ hx)) with e | e
    · subst e; exact absurd hx (no p1)
    · exact e
  · rcases List.mem_cons.1 ((h x).2 (List.mem_cons_of_mem _ hx)) with e | e
    · subst e; exact absurd hx (no q1)
    · exact e
theorem addTo_ins {T : Type} [DecidableEq T] {z : T} {fit : T → Bool} {les : T → T → Bool} (L : Les les) {l : List T} {c : T} {r : List T × Int} (h : AddTo (vld z fit les) fit les l c r) (hv : vld z fit les l = true) (hf : fit c = true) (hl : l.length < 64) :
  r.2=0∧vld z fit les r.1=true∧(∀ x,x∈r.1↔x=c∨x∈l)∧r.1.length≤l.length+1:=by
 rcases h with ⟨h1 | h1,_⟩ | ⟨_,_,i,hp,rfl⟩
 · rw [hv] at h1; cases h1
 · rw [hf] at h1; cases h1
 obtain ⟨k1,k2,k3⟩:=(vld_iff L).1 hv
 have hat:=has_at L k2 hp
 unfold addR
 by_cases hm:l[i]?=some c
 · rw [if_pos hm]
   exact ⟨rfl,hv,fun x=>⟨.inr,fun hx=>hx.elim (fun e=>by rw [e]; exact hat.2 hm) id⟩,Nat.le_succ _⟩
 rw [if_neg hm,if_neg (by omega)]
 have hlen:(l.take i++[c]++l.drop i).length≤l.length+1:=ins_len l i c
 have hmem:∀ x,x∈l.take i++[c]++l.drop i↔x=c∨x∈l:=fun x=>by
  have:x∈l↔x∈l.take i∨x∈l.drop i:=by rw [← List.mem_append,List.take_append_drop]
  rw [this,List.mem_append,List.mem_append,List.mem_singleton]
  constructor
  · rintro ((h | h) | h)
    · exact .inr (.inl h)
    · exact .inl h
    · exact .inr (.inr h)
  · rintro (h | h | h)
    · exact .inl (.inr h)
    · exact .inl (.inl h)
    · exact .inr h
 refine ⟨rfl,(vld_iff L).2 ⟨fun x hx=>?_,inc_pw.2 ?_,Nat.le_trans hlen (by omega)⟩,hmem,hlen⟩
 · rcases (hmem x).1 hx with rfl | hx
   · exact hf
   · exact k1 x hx
 · have pw:=inc_pw.1 k2
   have lo:∀ a∈l.take i,les a c=true:=fun a ha=>by
    obtain ⟨j,hj,e⟩:=List.getElem_of_mem ha
    rw [List.getElem_take] at e
    rw [List.length_take] at hj
    rw [← e]
    exact hp.2.1 j (by omega) (by omega)
   have hi:∀ a∈l.drop i,les c a=true:=fun a ha=>by
    obtain ⟨j,hj,e⟩:=List.getElem_of_mem ha
    rw [List.getElem_drop] at e
    rw [List.length_drop] at hj
    have n1:=hp.2.2 (i+j) (by omega) (by omega)
    rw [e] at n1
    cases q:les c a with
    | true=>rfl
    | false =>
     have:=L.tri _ _ n1 q
     subst this
     exact absurd (hat.1 (List.mem_of_mem_drop ha)) hm
   rw [List.append_assoc,List.pairwise_append]
   refine ⟨pw.take,?_,fun a ha b hb=>?_⟩
   · rw [List.singleton_append,List.pairwise_cons]
     exact ⟨hi,pw.drop⟩
   · rw [List.singleton_append] at hb
     rcases List.mem_cons.1 hb with rfl | hb
     · exact lo a ha
     · exact L.tr _ _ _ (lo a ha) (hi b hb)
/-- A list put together out of the first k of f. -/
def Col {T:Type} (z:T) (fit:T→Bool) (les:T→T→Bool) (f:Nat→T) (k:Nat) (l:List T):Prop:=vld z fit les l=true∧l.length≤k∧∀ x,x∈l↔∃ j,j < k∧x=f j
theorem col0 {T:Type} {z:T} {fit:T→Bool} {les:T→T→Bool} {f:Nat→T}:Col z fit les f 0 []:=⟨rfl,Nat.le_refl _,fun x=>by simp⟩
theorem col_step {T:Type} [DecidableEq T] {z:T} {fit:T→Bool} {les:T→T→Bool} (L:Les les) {f:Nat→T} {k:Nat} {l:List T} {r:List T×Int} (h:Col z fit les f k l) (hk:k < 64) (hf:fit (f k)=true) (ha:AddTo (vld z fit les) fit les l (f k) r):Col z fit les f (k+1) r.1:=by
 obtain ⟨h1,h2,h3⟩:=h
 obtain ⟨_,k2,k3,k4⟩:=addTo_ins L ha h1 hf (by omega)
 refine ⟨k2,by omega,fun x=>?_⟩
 rw [k3,h3]
 constructor
 · rintro (e | ⟨j,hj,e⟩)
   · exact ⟨k,by omega,e⟩
   · exact ⟨j,by omega,e⟩
 · rintro ⟨j,hj,e⟩
   by_cases hjk:j=k
   · subst hjk; exact .inl e
   · exact .inr ⟨j,by omega,e⟩
theorem col_eq {T:Type} {z:T} {fit:T→Bool} {les:T→T→Bool} (L:Les les) {f g:Nat→T} {n:Nat} {l m:List T} (h:Col z fit les f n l) (k:Col z fit les g n m) (hfg:∀ x,(∃ j,j < n∧x=f j)↔∃ j,j < n∧x=g j):l=m :=
 inc_uniq L l m (inc_pw.1 ((vld_iff L).1 h.1).2.1) (inc_pw.1 ((vld_iff L).1 k.1).2.1) fun x=>(h.2.2 x).trans ((hfg x).trans (k.2.2 x).symm)
theorem turn_all {T:Type} {F:Nat→T} {n s:Nat} (hs:s < n) (x:T):(∃ j,j < n∧x=F j)↔∃ j,j < n∧x=F ((j+s) % n):=by
 constructor
 · rintro ⟨j,hj,e⟩
   refine ⟨(j+(n - s)) % n,Nat.mod_lt _ (by omega),?_⟩
   rw [Nat.mod_add_mod,show j+(n - s)+s=j+n by omega,Nat.add_mod_right,Nat.mod_eq_of_lt hj]
   exact e
 · rintro ⟨j,hj,e⟩
   exact ⟨(j+s) % n,Nat.mod_lt _ (by omega),e⟩
theorem modE (N:Nat) {a b:Int} (hb:0 < b) (hb2:b≤9223372036854775807):n17 (N+1) (a,b)=some (a % b):=by
 rw [e17]
 have h0:b≠0:=by omega
 simp only [↓aKO,h0,if_false,aKI,aJY,aJz,decide_eq_true_eq]
 have h1:=Int.mul_tdiv_add_tmod a b
 have h2:=Int.tmod_lt_of_pos a hb
 have h3:=Int.lt_tmod_of_pos a hb
 have h4:a % b=a.tmod b % b:=by
  conv=>lhs; rw [← h1,Int.add_comm,Int.add_mul_emod_self_left]
 by_cases hn:a.tmod b < 0
 · rw [if_pos hn,pV (by omega) (by omega),h4]
   rw [← Int.add_emod_right,Int.emod_eq_of_lt (by omega) (by omega)]
 · rw [if_neg hn,h4,Int.emod_eq_of_lt (by omega) (by omega)]
theorem loop_inv {α R:Type} {body:α→Option (α ⊕ R)} (I:Nat→α→Prop) (n:Nat) {r:R} (h:∀ i a,I i a→(∃ b,body a=some (.inl b)∧i < n∧I (i+1) b)∨body a=some (.inr r)) {x:α} (hx:I 0 x) {M:Nat} (hM:n < M):eG M body x=some r:=by
 obtain ⟨s,hs,rfl⟩:=loop_tot I (fun s=>s=r) n (fun i a ha=>(h i a ha).imp id fun k=>⟨r,k,rfl⟩) n 0 x M hx (by omega) hM
 exact hs
end Go.Proofs.YtghpknbkecolnaaGreatDoor
