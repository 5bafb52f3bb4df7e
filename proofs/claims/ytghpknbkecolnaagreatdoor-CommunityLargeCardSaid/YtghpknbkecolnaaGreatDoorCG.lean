/- Chapter 17, plainly: what CommunityTexts asks. -/
import Derived.Test.YtghpknbkecolnaaGreatDoorCB
namespace Go.Proofs.YtghpknbkecolnaaGreatDoor
open Go.VM Go.Txt
set_option maxRecDepth 10000
theorem loop_tot {α R:Type} {body:α→Option (α ⊕ R)} (I:Nat→α→Prop) (Q:R→Prop) (n:Nat) (h:∀ i a,I i a→(∃ b,body a=some (.inl b)∧i < n∧I (i+1) b)∨(∃ r,body a=some (.inr r)∧Q r)):∀ (m i:Nat) (a:α) (M:Nat),I i a→n≤i+m→m < M→∃ r,eG M body a=some r∧Q r
 | 0,i,a,M,ha,hm,hM=>by
  obtain ⟨M,rfl⟩:∃ k,M=k+1:=⟨M - 1,by omega⟩
  rcases h i a ha with ⟨b,_,hi,_⟩ | ⟨r,hr,hq⟩
  · omega
  · exact ⟨r,by simp only [eG,hr],hq⟩
 | m+1,i,a,M,ha,hm,hM=>by
  obtain ⟨M,rfl⟩:∃ k,M=k+1:=⟨M - 1,by omega⟩
  rcases h i a ha with ⟨b,hb,hi,hI⟩ | ⟨r,hr,hq⟩
  · obtain ⟨r,hr,hq⟩:=loop_tot I Q n h m (i+1) b M hI (by omega) (by omega)
    exact ⟨r,by simp only [eG,hb,hr],hq⟩
  · exact ⟨r,by simp only [eG,hr],hq⟩
theorem same_l (N:Nat) {l:List Lg} (hN:l.length < N) (hl:l.length≤100000):n16 (N+1) (l,l)=some true:=by
 rw [e16]
 refine bifF (by simp) (jB ?_)
 refine loopN_seq' (fun i=>((l,l,aJO l,(i:Int)):(List Lg×(List Lg×(Int×Int))))) l.length rfl (fun i hi=>?_) ?_ hN
 · exact letB (v:=true) (decide_eq_true (show (i:Int) < aJO l by unfold aJO; omega)) (bifT rfl (bindB (aJo hi) (bindB (aJo hi) (letB (v:=false) (by simp) (bifF rfl (letB (v:=((i+1:Nat):Int)) (wv _ (show (i:Int)+1=((i+1:Nat):Int) by omega) (by omega) (by omega)) rfl))))))
 · exact letB (v:=false) (decide_eq_false (show ¬ (l.length:Int) < aJO l by unfold aJO; omega)) (bifF rfl (leaveB rfl))
theorem has_c (N:Nat) {l:List Cm} (c:Cm) (hN:l.length < N) (hl:l.length≤100000):∃ b,n25 (N+1) (l,c)=some b:=by
 rw [e25]
 obtain ⟨r,hr,_⟩:=loop_tot (fun i a=>i≤l.length∧a=((c,l,aJO l,(i:Int)):Cm×(List Cm×(Int×Int)))) (fun _=>True) l.length (body:=fun (p2:((Int×Int)×(List ((Int×Int))×(Int×Int)))) =>
 aJy (decide (p2.2.2.2 < p2.2.2.1)) fun v3 =>
 bif v3 then ((aEU p2.2.1 p2.2.2.2).bind fun v4 =>
 aJy (false != ((v4.1==p2.1.1)&&(v4.2==p2.1.2))) fun v5 =>
 bif v5 then (lJ (some true)) else (aJy (IntKind.i64.wrap (p2.2.2.2+(1:Int))) fun v6 =>
 tN (p2.1, p2.2.1, p2.2.2.1, v6))) else (lJ (some false))) (fun i a ha => by
  obtain ⟨hi,rfl⟩:=ha
  rcases Nat.lt_or_eq_of_le hi with hi | rfl
  · by_cases k:(false != ((l[i].1==c.1)&&(l[i].2==c.2)))=true
    · exact .inr ⟨true,letB (v:=true) (decide_eq_true (show (i:Int) < aJO l by unfold aJO; omega)) (bifT rfl (bindB (aJo hi) (letB (v:=true) k (bifT rfl (leaveB rfl))))),trivial⟩
    · exact .inl ⟨_,letB (v:=true) (decide_eq_true (show (i:Int) < aJO l by unfold aJO; omega)) (bifT rfl (bindB (aJo hi) (letB (v:=false) (Bool.eq_false_iff.2 k) (bifF rfl (letB (v:=((i+1:Nat):Int)) (wv _ (show (i:Int)+1=((i+1:Nat):Int) by omega) (by omega) (by omega)) rfl))))),hi,hi,rfl⟩
  · exact .inr ⟨false,letB (v:=false) (decide_eq_false (show ¬ (l.length:Int) < aJO l by unfold aJO; omega)) (bifF rfl (leaveB rfl)),trivial⟩) l.length 0 _ N ⟨Nat.zero_le _,rfl⟩ (by omega) hN
 exact ⟨r,jB hr⟩
theorem has_l (N:Nat) {l:List Lg} (c:Lg) (hN:l.length < N) (hl:l.length≤100000):∃ b,n33 (N+1) (l,c)=some b:=by
 rw [e33]
 obtain ⟨r,hr,_⟩:=loop_tot (fun i a=>i≤l.length∧a=((c,l,aJO l,(i:Int)):Lg×(List Lg×(Int×Int)))) (fun _=>True) l.length (body:=fun (p2:((Int×Int×Int)×(List ((Int×Int×Int))×(Int×Int)))) =>
 aJy (decide (p2.2.2.2 < p2.2.2.1)) fun v3 =>
 bif v3 then ((aEU p2.2.1 p2.2.2.2).bind fun v4 =>
 aJy (false != ((v4.1==p2.1.1)&&((v4.2.1==p2.1.2.1)&&(v4.2.2==p2.1.2.2)))) fun v5 =>
 bif v5 then (lJ (some true)) else (aJy (IntKind.i64.wrap (p2.2.2.2+(1:Int))) fun v6 =>
 tN (p2.1, p2.2.1, p2.2.2.1, v6))) else (lJ (some false))) (fun i a ha => by
  obtain ⟨hi,rfl⟩:=ha
  rcases Nat.lt_or_eq_of_le hi with hi | rfl
  · by_cases k:(false != ((l[i].1==c.1)&&((l[i].2.1==c.2.1)&&(l[i].2.2==c.2.2))))=true
    · exact .inr ⟨true,letB (v:=true) (decide_eq_true (show (i:Int) < aJO l by unfold aJO; omega)) (bifT rfl (bindB (aJo hi) (letB (v:=true) k (bifT rfl (leaveB rfl))))),trivial⟩
    · exact .inl ⟨_,letB (v:=true) (decide_eq_true (show (i:Int) < aJO l by unfold aJO; omega)) (bifT rfl (bindB (aJo hi) (letB (v:=false) (Bool.eq_false_iff.2 k) (bifF rfl (letB (v:=((i+1:Nat):Int)) (wv _ (show (i:Int)+1=((i+1:Nat):Int) by omega) (by omega) (by omega)) rfl))))),hi,hi,rfl⟩
  · exact .inr ⟨false,letB (v:=false) (decide_eq_false (show ¬ (l.length:Int) < aJO l by unfold aJO; omega)) (bifF rfl (leaveB rfl)),trivial⟩) l.length 0 _ N ⟨Nat.zero_le _,rfl⟩ (by omega) hN
 exact ⟨r,jB hr⟩
theorem put_c {l:List Cm} {i:Nat} (c:Cm) (hi:i≤l.length) (hl:l.length≤64):((aEV l (i:Int)).bind fun v8 =>
 (aH3 16 ([]:List Cm) v8).bind fun v9 =>
 aJy ([c]:List Cm) fun v10 =>
 (aH3 16 v9 v10).bind fun v11 =>
 (aEW l (i:Int)).bind fun v12 =>
 (aH3 16 v11 v12).bind fun v13 =>
 some (v13,(0:Int)))=some (l.take i++[c]++l.drop i,(0:Int)):=by
 have h1:(l.take i).length≤64:=by rw [List.length_take]; omega
 have h2:(l.drop i).length≤64:=by rw [List.length_drop]; omega
 exact bindB (aJ0 hi) (bindB (aJm (l:=[]) (by simp only [List.length_nil]; omega) (by simp only [List.length_nil]; omega)) (letB rfl (bindB (aJm (by simp; omega) (by simp; omega)) (bindB (aJ1 hi) (bindB (aJm (by simp; omega) (by simp; omega)) (by simp))))))
theorem put_l {l:List Lg} {i:Nat} (c:Lg) (hi:i≤l.length) (hl:l.length≤64):((aEV l (i:Int)).bind fun v8 =>
 (aH3 24 ([]:List Lg) v8).bind fun v9 =>
 aJy ([c]:List Lg) fun v10 =>
 (aH3 24 v9 v10).bind fun v11 =>
 (aEW l (i:Int)).bind fun v12 =>
 (aH3 24 v11 v12).bind fun v13 =>
 some (v13,(0:Int)))=some (l.take i++[c]++l.drop i,(0:Int)):=by
 have h1:(l.take i).length≤64:=by rw [List.length_take]; omega
 have h2:(l.drop i).length≤64:=by rw [List.length_drop]; omega
 exact bindB (aJ0 hi) (bindB (aJm (l:=[]) (by simp only [List.length_nil]; omega) (by simp only [List.length_nil]; omega)) (letB rfl (bindB (aJm (by simp; omega) (by simp; omega)) (bindB (aJ1 hi) (bindB (aJm (by simp; omega) (by simp; omega)) (by simp))))))
theorem ins_len {T:Type} (l:List T) (i:Nat) (c:T):(l.take i++[c]++l.drop i).length≤l.length+1:=by
 simp only [List.length_append,List.length_take,List.length_drop,List.length_singleton]
 omega
theorem add_c (N:Nat) (hN:200 < N) {l:List Cm} (c:Cm) (hl:l.length≤64):∃ r,n21 (N+60) (l,c)=some r∧r.1.length≤l.length+1:=by
 rw [e21]
 have h1:=valid_rc (N+57) (l:=l) (by omega) (by omega)
 cases hc:vldC l with
 | false =>
  rw [hc] at h1
  exact ⟨_,bindB h1 (bindB (v:=false) rfl (letB (v:=true) rfl (bifT rfl rfl))),by simp⟩
 | true =>
  rw [hc] at h1
  have h2:=right_c (N+58) c
  cases hf:fitC c with
  | false =>
   rw [hf] at h2
   exact ⟨_,bindB h1 (bindB (bifT rfl h2) (letB (v:=true) rfl (bifT rfl rfl))),by simp⟩
  | true =>
   rw [hf] at h2
   obtain ⟨b,h3⟩:=has_c (N+58) (l:=l) c (by omega) (by omega)
   cases b with
   | true=>exact ⟨(l,0),bindB h1 (bindB (bifT rfl h2) (letB (v:=false) rfl (bifF rfl (bindB h3 (bifT rfl (bindB (aJm (l:=[]) (by simp only [List.length_nil]; omega) (by simp only [List.length_nil]; omega)) rfl)))))),by simp⟩
   | false =>
    by_cases h64:aJO l≥64
    · exact ⟨_,bindB h1 (bindB (bifT rfl h2) (letB (v:=false) rfl (bifF rfl (bindB h3 (bifF rfl (letB (v:=true) (decide_eq_true h64) (bifT rfl rfl))))))),by simp⟩
    · obtain ⟨r,hr,hq⟩:=loop_tot (fun i a=>i≤l.length∧a=((l,c,(i:Int)):List Cm×(Cm×Int))) (fun (r:List Cm×Int)=>r.1.length≤l.length+1) l.length (body:=fun (p14:(List ((Int×Int))×((Int×Int)×Int))) =>
 aJy (decide (p14.2.2 < (aJO p14.1))) fun v15 =>
 (bif v15 then (aEU p14.1 p14.2.2) else some ((0:Int),(0:Int))).bind fun v16 =>
 (bif v15 then (n46 (N+59) (v16,p14.2.1)) else some false).bind fun v17 =>
 aJy (bif v15 then v17 else false) fun v18 =>
 bif v18 then (aJy (IntKind.i64.wrap (p14.2.2+(1:Int))) fun v19 =>
 tN (p14.1,p14.2.1,v19)) else (lJ ((aEV p14.1 p14.2.2).bind fun v8 =>
 (aH3 16 ([]:List ((Int×Int))) v8).bind fun v9 =>
 aJy ([p14.2.1]:List ((Int×Int))) fun v10 =>
 (aH3 16 v9 v10).bind fun v11 =>
 (aEW p14.1 p14.2.2).bind fun v12 =>
 (aH3 16 v11 v12).bind fun v13 =>
 some (v13, (0 : Int))))) (fun i a ha => by
     obtain ⟨hi,rfl⟩:=ha
     rcases Nat.lt_or_eq_of_le hi with hi | rfl
     · by_cases k:lesC l[i] c=true
       · exact .inl ⟨_,letB (v:=true) (decide_eq_true (show (i:Int) < aJO l by unfold aJO; omega)) (bindB (bifT rfl (aJo hi)) (bindB (bifT rfl (less_c (N+58) _ _)) (letB (v:=true) k (bifT rfl (letB (v:=((i+1:Nat):Int)) (wv _ (show (i:Int)+1=((i+1:Nat):Int) by omega) (by omega) (by omega)) rfl))))),hi,hi,rfl⟩
       · exact .inr ⟨_,letB (v:=true) (decide_eq_true (show (i:Int) < aJO l by unfold aJO; omega)) (bindB (bifT rfl (aJo hi)) (bindB (bifT rfl (less_c (N+58) _ _)) (letB (v:=false) (Bool.eq_false_iff.2 k) (bifF rfl (leaveB (put_c c (Nat.le_of_lt hi) hl)))))),ins_len l i c⟩
     · exact .inr ⟨_,letB (v:=false) (decide_eq_false (show ¬ (l.length:Int) < aJO l by unfold aJO; omega)) (bindB rfl (bindB rfl (letB (v:=false) rfl (bifF rfl (leaveB (put_c c (Nat.le_refl _) hl)))))),ins_len l _ c⟩) l.length 0 _ (N+59) ⟨Nat.zero_le _,rfl⟩ (by omega) (by omega)
      exact ⟨r,bindB h1 (bindB (bifT rfl h2) (letB (v:=false) rfl (bifF rfl (bindB h3 (bifF rfl (letB (v:=false) (decide_eq_false h64) (bifF rfl (jB hr)))))))),hq⟩
theorem add_l (N:Nat) (hN:200 < N) {l:List Lg} (c:Lg) (hl:l.length≤64):∃ r,n29 (N+60) (l,c)=some r∧r.1.length≤l.length+1:=by
 rw [e29]
 have h1:=valid_rl (N+57) (l:=l) (by omega) (by omega)
 cases hc:vldL l with
 | false =>
  rw [hc] at h1
  exact ⟨_,bindB h1 (bindB (v:=false) rfl (letB (v:=true) rfl (bifT rfl rfl))),by simp⟩
 | true =>
  rw [hc] at h1
  have h2:=right_l (N+58) c
  cases hf:fitL c with
  | false =>
   rw [hf] at h2
   exact ⟨_,bindB h1 (bindB (bifT rfl h2) (letB (v:=true) rfl (bifT rfl rfl))),by simp⟩
  | true =>
   rw [hf] at h2
   obtain ⟨b,h3⟩:=has_l (N+58) (l:=l) c (by omega) (by omega)
   cases b with
   | true=>exact ⟨(l,0),bindB h1 (bindB (bifT rfl h2) (letB (v:=false) rfl (bifF rfl (bindB h3 (bifT rfl (bindB (aJm (l:=[]) (by simp only [List.length_nil]; omega) (by simp only [List.length_nil]; omega)) rfl)))))),by simp⟩
   | false =>
    by_cases h64:aJO l≥64
    · exact ⟨_,bindB h1 (bindB (bifT rfl h2) (letB (v:=false) rfl (bifF rfl (bindB h3 (bifF rfl (letB (v:=true) (decide_eq_true h64) (bifT rfl rfl))))))),by simp⟩
    · obtain ⟨r,hr,hq⟩:=loop_tot (fun i a=>i≤l.length∧a=((l,c,(i:Int)):List Lg×(Lg×Int))) (fun (r:List Lg×Int)=>r.1.length≤l.length+1) l.length (body:=fun (p14:(List ((Int×Int×Int))×((Int×Int×Int)×Int))) =>
 aJy (decide (p14.2.2 < (aJO p14.1))) fun v15 =>
 (bif v15 then (aEU p14.1 p14.2.2) else some ((0:Int),(0:Int),(0:Int))).bind fun v16 =>
 (bif v15 then (n54 (N+59) (v16,p14.2.1)) else some false).bind fun v17 =>
 aJy (bif v15 then v17 else false) fun v18 =>
 bif v18 then (aJy (IntKind.i64.wrap (p14.2.2+(1:Int))) fun v19 =>
 tN (p14.1,p14.2.1,v19)) else (lJ ((aEV p14.1 p14.2.2).bind fun v8 =>
 (aH3 24 ([]:List ((Int×Int×Int))) v8).bind fun v9 =>
 aJy ([p14.2.1]:List ((Int×Int×Int))) fun v10 =>
 (aH3 24 v9 v10).bind fun v11 =>
 (aEW p14.1 p14.2.2).bind fun v12 =>
 (aH3 24 v11 v12).bind fun v13 =>
 some (v13, (0 : Int))))) (fun i a ha => by
     obtain ⟨hi,rfl⟩:=ha
     rcases Nat.lt_or_eq_of_le hi with hi | rfl
     · by_cases k:lesL l[i] c=true
       · exact .inl ⟨_,letB (v:=true) (decide_eq_true (show (i:Int) < aJO l by unfold aJO; omega)) (bindB (bifT rfl (aJo hi)) (bindB (bifT rfl (less_l (N+58) _ _)) (letB (v:=true) k (bifT rfl (letB (v:=((i+1:Nat):Int)) (wv _ (show (i:Int)+1=((i+1:Nat):Int) by omega) (by omega) (by omega)) rfl))))),hi,hi,rfl⟩
       · exact .inr ⟨_,letB (v:=true) (decide_eq_true (show (i:Int) < aJO l by unfold aJO; omega)) (bindB (bifT rfl (aJo hi)) (bindB (bifT rfl (less_l (N+58) _ _)) (letB (v:=false) (Bool.eq_false_iff.2 k) (bifF rfl (leaveB (put_l c (Nat.le_of_lt hi) hl)))))),ins_len l i c⟩
     · exact .inr ⟨_,letB (v:=false) (decide_eq_false (show ¬ (l.length:Int) < aJO l by unfold aJO; omega)) (bindB rfl (bindB rfl (letB (v:=false) rfl (bifF rfl (leaveB (put_l c (Nat.le_refl _) hl)))))),ins_len l _ c⟩) l.length 0 _ (N+59) ⟨Nat.zero_le _,rfl⟩ (by omega) (by omega)
      exact ⟨r,bindB h1 (bindB (bifT rfl h2) (letB (v:=false) rfl (bifF rfl (bindB h3 (bifF rfl (letB (v:=false) (decide_eq_false h64) (bifF rfl (jB hr)))))))),hq⟩
theorem idx_ok {l:List Int} {v:Int} (h0:0≤v) (h1:v < (l.length:Int)):∃ x,aEU l v=some x:=by
 obtain ⟨n,rfl⟩:=Int.eq_ofNat_of_zero_le h0
 exact ⟨_,aJo (n:=n) (by omega)⟩
theorem deck_ok (N:Nat) (hN:300 < N) {d:Dk} (hd:DK d):∃ l m d',n9 (N+70) d=some (l,m,d')∧l.length≤4∧m.length≤3:=by
 rw [e9]
 obtain ⟨k,d1,h1,k0,k1,hd1⟩:=next_ok (N+67) hd (b:=5) (by omega) (by omega)
 obtain ⟨r,hr,hq⟩:=loop_tot (fun i (a:List Cm×(List Lg×(Int×Dk)))=>0≤a.2.2.1∧a.2.2.1+i≤4∧a.1.length≤i∧a.2.1=[]∧DK a.2.2.2) (fun (r:List Cm×(List Lg×Dk))=>r.1.length≤4∧r.2.1.length≤3) 4
  (body:=fun (p15:(List ((Int×Int))×(List ((Int×Int×Int))×(Int×((List (Int))×Int))))) =>
 aJy (decide (p15.2.2.1 > (0:Int))) fun v16 =>
 bif v16 then (aJy ([(65000:Int),(65535:Int),(0:Int),(1:Int)]:List (Int)) fun v17 =>
 (n34 (N+69) (p15.2.2.2,(4:Int))).bind fun v18 =>
 (aEU v17 v18.1).bind fun v19 =>
 (n34 (N+69) (v18.2,(5:Int))).bind fun v20 =>
 aJy (IntKind.i64.wrap ((1:Int)+v20.1)) fun v21 =>
 aJy ([(0:Int),(666:Int),(65535:Int),v21]:List (Int)) fun v22 =>
 (n34 (N+69) (v20.2,(4:Int))).bind fun v23 =>
 (aEU v22 v23.1).bind fun v24 =>
 (n21 (N+69) (p15.1,v19,v24)).bind fun v25 =>
 aJy (IntKind.i64.wrap (p15.2.2.1 - (1:Int))) fun v26 =>
 tN (v25.1,p15.2.1,v26,v23.2)) else (lJ ((n34 (N+69) (p15.2.2.2,(4:Int))).bind fun v3 =>
 aBJ (fun (p4:(List ((Int×Int))×(List ((Int×Int×Int))×((List (Int))×Int)))) =>
 some (p4.1,p4.2.1,p4.2.2)) fun j5 =>
 eG (N+69) (fun (p6:(List ((Int×Int))×(List ((Int×Int×Int))×(Int×((List (Int))×Int))))) =>
 aJy (decide (p6.2.2.1 > (0:Int))) fun v7 =>
 bif v7 then (aJy ([(65000:Int),(4294967295:Int),(0:Int)]:List (Int)) fun v8 =>
 (n34 (N+69) (p6.2.2.2,(3:Int))).bind fun v9 =>
 (aEU v8 v9.1).bind fun v10 =>
 (n34 (N+69) (v9.2,(3:Int))).bind fun v11 =>
 (n34 (N+69) (v11.2,(4:Int))).bind fun v12 =>
 (n29 (N+69) (p6.2.1,v10,v11.1,v12.1)).bind fun v13 =>
 aJy (IntKind.i64.wrap (p6.2.2.1 - (1:Int))) fun v14 =>
 tN (p6.1, v13.1, v14, v12.2)) else (lJ (j5 (p6.1, p6.2.1, p6.2.2.2)))) (p15.1, p15.2.1, v3.1, v3.2)))) (fun i a ha => by
   obtain ⟨l,m,c,d⟩:=a
   obtain ⟨a0,a1,a2,a3,a4⟩:=ha
   simp only at a0 a1 a2 a3 a4
   subst a3
   by_cases hc:c > 0
   · obtain ⟨v1,e1,g1,u1,w1,x1⟩:=next_ok (N+67) a4 (b:=4) (by omega) (by omega)
     obtain ⟨y1,z1⟩:=idx_ok (l:=[(65000:Int),(65535:Int),(0:Int),(1:Int)]) u1 w1
     obtain ⟨v2,e2,g2,u2,w2,x2⟩:=next_ok (N+67) x1 (b:=5) (by omega) (by omega)
     obtain ⟨v3,e3,g3,u3,w3,x3⟩:=next_ok (N+67) x2 (b:=4) (by omega) (by omega)
     obtain ⟨y3,z3⟩:=idx_ok (l:=[(0:Int),(666:Int),(65535:Int),IntKind.i64.wrap ((1:Int)+v2)]) u3 w3
     obtain ⟨r,hr,hl⟩:=add_c (N+9) (by omega) (l:=l) (y1,y3) (by omega)
     refine .inl ⟨_,letB (v:=true) (decide_eq_true hc) (bifT rfl (letB rfl (bindB g1 (bindB z1 (bindB g2 (letB rfl (letB rfl (bindB g3 (bindB z3 (bindB hr (letB (v:=c - 1) (wv _ rfl (by omega) (by omega)) rfl))))))))))),by omega,?_,?_,?_,rfl,x3⟩
     · show 0≤c - 1; omega
     · show c - 1+((i+1:Nat):Int)≤4; omega
     · show r.1.length≤i+1; omega
   · obtain ⟨k2,d2,g2,q0,q1,hd2⟩:=next_ok (N+67) a4 (b:=4) (by omega) (by omega)
     obtain ⟨r,hr,hq⟩:=loop_tot (fun i (a:List Cm×(List Lg×(Int×Dk)))=>0≤a.2.2.1∧a.2.2.1+i≤3∧a.2.1.length≤i∧a.1=l∧DK a.2.2.2) (fun (r:List Cm×(List Lg×Dk))=>r.1.length≤4∧r.2.1.length≤3) 3
      (body:=fun (p6:(List ((Int×Int))×(List ((Int×Int×Int))×(Int×((List (Int))×Int))))) =>
 aJy (decide (p6.2.2.1 > (0:Int))) fun v7 =>
 bif v7 then (aJy ([(65000:Int),(4294967295:Int),(0:Int)]:List (Int)) fun v8 =>
 (n34 (N+69) (p6.2.2.2,(3:Int))).bind fun v9 =>
 (aEU v8 v9.1).bind fun v10 =>
 (n34 (N+69) (v9.2,(3:Int))).bind fun v11 =>
 (n34 (N+69) (v11.2,(4:Int))).bind fun v12 =>
 (n29 (N+69) (p6.2.1,v10,v11.1,v12.1)).bind fun v13 =>
 aJy (IntKind.i64.wrap (p6.2.2.1 - (1:Int))) fun v14 =>
 tN (p6.1, v13.1, v14, v12.2)) else (lJ (some (p6.1, p6.2.1, p6.2.2.2)))) (fun j b hb => by
       obtain ⟨l',m,c,d⟩:=b
       obtain ⟨b0,b1,b2,b3,b4⟩:=hb
       simp only at b0 b1 b2 b3 b4
       subst b3
       by_cases hc:c > 0
       · obtain ⟨v1,e1,g1,u1,w1,x1⟩:=next_ok (N+67) b4 (b:=3) (by omega) (by omega)
         obtain ⟨y1,z1⟩:=idx_ok (l:=[(65000:Int),(4294967295:Int),(0:Int)]) u1 w1
         obtain ⟨v2,e2,g2,u2,w2,x2⟩:=next_ok (N+67) x1 (b:=3) (by omega) (by omega)
         obtain ⟨v3,e3,g3,u3,w3,x3⟩:=next_ok (N+67) x2 (b:=4) (by omega) (by omega)
         obtain ⟨r,hr,hl⟩:=add_l (N+9) (by omega) (l:=m) (y1,v2,v3) (by omega)
         refine .inl ⟨_,letB (v:=true) (decide_eq_true hc) (bifT rfl (letB rfl (bindB g1 (bindB z1 (bindB g2 (bindB g3 (bindB hr (letB (v:=c - 1) (wv _ rfl (by omega) (by omega)) rfl)))))))),by omega,?_,?_,?_,rfl,x3⟩
         · show 0≤c - 1; omega
         · show c - 1+((j+1:Nat):Int)≤3; omega
         · show r.1.length≤j+1; omega
       · exact .inr ⟨_,letB (v:=false) (decide_eq_false hc) (bifF rfl (leaveB rfl)),by show l'.length≤4; omega,by show m.length≤3; omega⟩) 3 0 (l,[],k2,d2) (N+69) ⟨q0,by show k2+0≤3; omega,Nat.le_refl _,rfl,hd2⟩ (by omega) (by omega)
     exact .inr ⟨_,letB (v:=false) (decide_eq_false hc) (bifF rfl (leaveB (bindB g2 (jB hr)))),hq⟩) 4 0 ([],[],k,d1) (N+69) ⟨k0,by show k+0≤4; omega,Nat.le_refl _,rfl,hd1⟩ (by omega) (by omega)
 exact ⟨r.1,r.2.1,r.2.2,bindB h1 (jB hr),hq.1,hq.2⟩
end Go.Proofs.YtghpknbkecolnaaGreatDoor
