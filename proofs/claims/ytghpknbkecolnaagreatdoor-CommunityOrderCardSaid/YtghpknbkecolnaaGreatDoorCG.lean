/- Chapter 17, plainly: what CommunityTexts asks. -/
import Derived.Test.YtghpknbkecolnaaGreatDoorCB
namespace Go.Proofs.YtghpknbkecolnaaGreatDoor
open Go.VM Go.Txt
set_option maxRecDepth 10000
theorem loop_tot {α R:Type} {body:α→Option (α ⊕ R)} (I:Nat→α→Prop) (Q:R→Prop) (n:Nat) (h:∀ i a,I i a→(∃ b,body a=some (.inl b)∧i < n∧I (i+1) b)∨(∃ r,body a=some (.inr r)∧Q r)):∀ (m i:Nat) (a:α) (M:Nat),I i a→n≤i+m→m < M→∃ r,eG M body a=some r∧Q r
 | 0,i,a,M,ha,hm,hM=>by
  obtain ⟨M,rfl⟩:∃ k,M=k+1:=⟨M - 1,by omega⟩
  rcases h i a ha with ⟨b,_,hi,_⟩ | ⟨r,hr,hq⟩
  · omega
  · exact ⟨r,by simp only [eG,hr],hq⟩
 | m+1,i,a,M,ha,hm,hM=>by
  obtain ⟨M,rfl⟩:∃ k,M=k+1:=⟨M - 1,by omega⟩
  rcases h i a ha with ⟨b,hb,hi,hI⟩ | ⟨r,hr,hq⟩
  · obtain ⟨r,hr,hq⟩:=loop_tot I Q n h m (i+1) b M hI (by omega) (by omega)
    exact ⟨r,by simp only [eG,hb,hr],hq⟩
  · exact ⟨r,by simp only [eG,hr],hq⟩
theorem same_c (N:Nat) {l:List Cm} (hN:l.length < N) (hl:l.length≤100000):n15 (N+1) (l,l)=some true:=by
 rw [e15]
 refine bifF (by simp) (jB ?_)
 refine loopN_seq' (fun i=>((l,l,aJO l,(i:Int)):(List Cm×(List Cm×(Int×Int))))) l.length rfl (fun i hi=>?_) ?_ hN
 · exact letB (v:=true) (decide_eq_true (show (i:Int) < aJO l by unfold aJO; omega)) (bifT rfl (bindB (aJo hi) (bindB (aJo hi) (letB (v:=false) (by simp) (bifF rfl (letB (v:=((i+1:Nat):Int)) (wv _ (show (i:Int)+1=((i+1:Nat):Int) by omega) (by omega) (by omega)) rfl))))))
 · exact letB (v:=false) (decide_eq_false (show ¬ (l.length:Int) < aJO l by unfold aJO; omega)) (bifF rfl (leaveB rfl))
theorem same_l (N:Nat) {l:List Lg} (hN:l.length < N) (hl:l.length≤100000):n16 (N+1) (l,l)=some true:=by
 rw [e16]
 refine bifF (by simp) (jB ?_)
 refine loopN_seq' (fun i=>((l,l,aJO l,(i:Int)):(List Lg×(List Lg×(Int×Int))))) l.length rfl (fun i hi=>?_) ?_ hN
 · exact letB (v:=true) (decide_eq_true (show (i:Int) < aJO l by unfold aJO; omega)) (bifT rfl (bindB (aJo hi) (bindB (aJo hi) (letB (v:=false) (by simp) (bifF rfl (letB (v:=((i+1:Nat):Int)) (wv _ (show (i:Int)+1=((i+1:Nat):Int) by omega) (by omega) (by omega)) rfl))))))
 · exact letB (v:=false) (decide_eq_false (show ¬ (l.length:Int) < aJO l by unfold aJO; omega)) (bifF rfl (leaveB rfl))
theorem ins_len {T:Type} (l:List T) (i:Nat) (c:T):(l.take i++[c]++l.drop i).length≤l.length+1:=by
 simp only [List.length_append,List.length_take,List.length_drop,List.length_singleton]
 omega
end Go.Proofs.YtghpknbkecolnaaGreatDoor
