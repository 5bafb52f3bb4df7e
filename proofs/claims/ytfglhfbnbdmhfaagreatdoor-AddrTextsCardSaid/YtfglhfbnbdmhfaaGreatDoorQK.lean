/- Chapter 01, plainly: there and back. -/
import Derived.Test.YtfglhfbnbdmhfaaGreatDoorQZ
namespace Go.Proofs.YtfglhfbnbdmhfaaGreatDoor
open Go.VM Go.Txt
set_option maxRecDepth 10000
theorem join_ok (N:Nat) {ws:List (List UInt8)} {c:UInt8} {m:Nat} (hm:∀ w∈ws,w.length≤m) (hm2:m≤10) (hl:ws.length≤20):n15 (N+1) (ws,[c])=some (Lib.join ws [c])∧(Lib.join ws [c]).length≤220:=by
  have:=join_len (c:=c) hm
  have h2:ws.length * (m+1)≤20 * 11:=Nat.mul_le_mul hl (by omega)
  rw [e15,qJoin]
  exact ⟨if_pos ⟨by simp only; omega,by simp only; omega⟩,by omega⟩
theorem replace_len (s:List UInt8):(Lib.replace s [58,48,58] [58,58] 1).length≤s.length+2:=by
  unfold Lib.replace
  rw [if_neg (by decide)]
  have hn:Lib.replaceNum s [58,48,58] 1≤1:=by
    unfold Lib.replaceNum
    split
    · rename_i h
      rcases h with h | h
      · omega
      · omega
    · decide
  cases hr:Lib.replaceNum s [58,48,58] 1 with
  | zero=>exact Nat.le_add_right _ _
  | succ k =>
    have:k=0:=by omega
    subst this
    unfold Lib.replaceK
    split
    · exact Nat.le_add_right _ _
    · simp only [Lib.replaceK,List.length_append,List.length_take,List.length_drop,List.length_cons,List.length_nil]
      omega
theorem deck_text (N:Nat) {d:Dk} (hd:DK d):∃ t d',n7 (N+40) d=some (t,d')∧t.length≤300∧DK d':=by
  rw [e7]
  have nx:∀ {d:Dk} (_:DK d) {b:Int} (_:0 < b) (_:b≤9223372036854775807),∃ v d',n14 (N+39) (d,b)=some (v,d')∧0≤v∧v < b∧DK d':=fun hd _ hb hb2=>next_ok (N+37) hd hb hb2
  obtain ⟨v0,d0,h0,a0,b0,g0⟩:=nx hd (b:=3) (by omega) (by omega)
  have fin:∀ {x:Option (List UInt8×Dk)},(∃ r,x=some r∧r.1.length≤300∧DK r.2)→∃ t d',x=some (t,d')∧t.length≤300∧DK d':=fun ⟨r,h1,h2,h3⟩=>⟨r.1,r.2,h1,h2,h3⟩
  by_cases hv:v0=0
  · obtain ⟨v1,d1,h1,a1,b1,g1⟩:=nx g0 (b:=3) (by omega) (by omega)
    obtain ⟨n,hn⟩:=Int.eq_ofNat_of_zero_le (show 0≤3+v1 by omega)
    have hw:IntKind.i64.wrap (3+v1)=(n:Int):=by rw [wrap_i64 (by omega) (by omega),hn]
    obtain ⟨r,hr,hq⟩:=words_loop (N+37) (L:=[[48],[49],[50,53,53],[50,53,54],[48,49],[57],[]]) (m:=3) (by decide) (by omega) (by decide) (by decide) (n:=n) (by omega) g1
      (K:=fun p=>(n15 (N+39) (p.1,[46])).bind fun v5=>some (v5,p.2)) (Q:=fun r=>r.1.length≤300∧DK r.2) (fun ws d' k1 k2 k3=>by
        obtain ⟨j1,j2⟩:=join_ok (N+38) (c:=46) k2 (by omega) (by omega)
        exact ⟨_,bindB j1 rfl,by simp only; omega,k3⟩) (body:=fun p6=>bif (decide (p6.2.2.1 < p6.2.1)) then (letK ([([48]:List UInt8),([49]:List UInt8),([50,53,53]:List UInt8),([50,53,54]:List UInt8),([48,49]:List UInt8),([57]:List UInt8),([]:List UInt8)]:List (List UInt8)) fun v7 =>
 (n14 (N+39) (p6.2.2.2,(7:Int))).bind fun v8 =>
 (nIdx v7 v8.1).bind fun v9 =>
 (nApp 16 p6.1 ([v9]:List (List UInt8))).bind fun v10 =>
 letK (IntKind.i64.wrap (p6.2.2.1+(1:Int))) fun v11 =>
 again (v10, p6.2.1, v11, v8.2)) else (leave ((n15 (N + 39) (p6.1, ([46] : List UInt8))).bind fun v5 => some (v5, p6.2.2.2)))) (fun ws i d hi => by
        have hwi:IntKind.i64.wrap ((i:Int)+1)=((i+1:Nat):Int):=by rw [wrap_i64 (by omega) (by omega)]; omega
        by_cases hlt:i < n
        · rw [if_pos hlt]
          refine bifT (decide_eq_true (by show (i:Int) < n; omega)) ?_
          simp only [letS,hwi]
          rfl
        · rw [if_neg hlt]
          exact bifF (decide_eq_false (by show ¬ (i:Int) < n; omega)) rfl) (M:=N+39) (by omega)
    exact fin ⟨r,bindB h0 (bifT (by rw [hv]; rfl) (bindB h1 (letB hw (jB hr)))),hq⟩
  · obtain ⟨v1,d1,h1,a1,b1,g1⟩:=nx g0 (b:=9) (by omega) (by omega)
    obtain ⟨n,hn⟩:=Int.eq_ofNat_of_zero_le (show 0≤1+v1 by omega)
    have hw:IntKind.i64.wrap (1+v1)=(n:Int):=by rw [wrap_i64 (by omega) (by omega),hn]
    obtain ⟨r,hr,hq⟩:=words_loop (N+37) (L:=[[48],[49],[65,66,67,68],[100,98,56],[48,48,48,48],[48,48,97],[],[102,102,102,102,102],[103],[48]]) (m:=5) (by decide) (by omega) (by decide) (by decide) (n:=n) (by omega) g1
      (K:=fun p14=>(n15 (N+39) (p14.1,([58]:List UInt8))).bind fun v16 =>
 (n14 (N+39) (p14.2,(5:Int))).bind fun v17 =>
 joinK (fun (p18:(List UInt8×((List (Int))×Int))) =>
 some (p18.1,p18.2)) fun j19 =>
 joinK (fun (p20:(List UInt8×((List (Int))×Int))) =>
 j19 (p20.1,p20.2)) fun j21 =>
 bif (v17.1==(0:Int)) then ((nCat ([58,58]:List UInt8) v16).bind fun v22 =>
 j21 (v22,v17.2)) else (joinK (fun (p23:(List UInt8×((List (Int))×Int))) =>
 j21 (p23.1,p23.2)) fun j24 =>
 bif (v17.1==(1:Int)) then ((nCat v16 ([58,58]:List UInt8)).bind fun v25 =>
 j24 (v25,v17.2)) else (joinK (fun (p26:(List UInt8×((List (Int))×Int))) =>
 j24 (p26.1,p26.2)) fun j27 =>
 bif (v17.1==(2:Int)) then ((nCat v16 ([58,49,46,50,46,51,46,52]:List UInt8)).bind fun v28 =>
 j27 (v28,v17.2)) else (joinK (fun (p29:(List UInt8×((List (Int))×Int))) =>
 j27 (p29.1,p29.2)) fun j30 =>
 bif (v17.1==(3:Int)) then ((n16 (N+39) (v16,([58,48,58]:List UInt8),([58,58]:List UInt8),(1:Int))).bind fun v31 =>
 j30 (v31, v17.2)) else (j30 (v16, v17.2)))))) (Q := fun r => r.1.length ≤ 300 ∧ DK r.2) (fun ws d' k1 k2 k3 => by
        obtain ⟨j1,j2⟩:=join_ok (N+38) (c:=58) k2 (by omega) (by omega)
        obtain ⟨v17,d17,h17,_,_,g17⟩:=nx k3 (b:=5) (by omega) (by omega)
        have cat:∀ {x y:List UInt8},x.length+y.length≤300→nCat x y=some (x++y):=fun h=>if_pos (by omega)
        by_cases q0:v17=0
        · exact ⟨(_,_),bindB j1 (bindB h17 (jB (jB (bifT (by rw [q0]; rfl) (bindB (cat (by simp only [List.length_cons,List.length_nil]; omega)) rfl))))),by simp only [List.length_append,List.length_cons,List.length_nil]; omega,g17⟩
        · by_cases q1:v17=1
          · exact ⟨(_,_),bindB j1 (bindB h17 (jB (jB (bifF (by simpa using q0) (jB (bifT (by rw [q1]; rfl) (bindB (cat (by simp only [List.length_cons,List.length_nil]; omega)) rfl))))))),by simp only [List.length_append,List.length_cons,List.length_nil]; omega,g17⟩
          · by_cases q2:v17=2
            · exact ⟨(_,_),bindB j1 (bindB h17 (jB (jB (bifF (by simpa using q0) (jB (bifF (by simpa using q1) (jB (bifT (by rw [q2]; rfl) (bindB (cat (by simp only [List.length_cons,List.length_nil]; omega)) rfl))))))))),by simp only [List.length_append,List.length_cons,List.length_nil]; omega,g17⟩
            · by_cases q3:v17=3
              · have hrl:=replace_len (Lib.join ws [58])
                have h46:n16 (N+39) (Lib.join ws [58],[58,48,58],[58,58],1)=some (Lib.replace (Lib.join ws [58]) [58,48,58] [58,58] 1):=by
                  rw [e16]; exact qReplace_ok ⟨by omega,by simp,by simp⟩
                exact ⟨(_,_),bindB j1 (bindB h17 (jB (jB (bifF (by simpa using q0) (jB (bifF (by simpa using q1) (jB (bifF (by simpa using q2) (jB (bifT (by rw [q3]; rfl) (bindB h46 rfl))))))))))),by simp only; omega,g17⟩
              · exact ⟨(_,_),bindB j1 (bindB h17 (jB (jB (bifF (by simpa using q0) (jB (bifF (by simpa using q1) (jB (bifF (by simpa using q2) (jB (bifF (by simpa using q3) rfl)))))))))),by simp only; omega,g17⟩) (body:=fun p32=>letK (decide (p32.2.2.1 < p32.2.1)) fun v33 =>
 bif v33 then (letK ([([48]:List UInt8),([49]:List UInt8),([65,66,67,68]:List UInt8),([100,98,56]:List UInt8),([48,48,48,48]:List UInt8),([48,48,97]:List UInt8),([]:List UInt8),([102,102,102,102,102]:List UInt8),([103]:List UInt8),([48]:List UInt8)]:List (List UInt8)) fun v34 =>
 (n14 (N+39) (p32.2.2.2,(10:Int))).bind fun v35 =>
 (nIdx v34 v35.1).bind fun v36 =>
 (nApp 16 p32.1 ([v36]:List (List UInt8))).bind fun v37 =>
 letK (IntKind.i64.wrap (p32.2.2.1+(1:Int))) fun v38 =>
 again (v37,p32.2.1,v38,v35.2)) else (leave ((n15 (N+39) (p32.1,([58]:List UInt8))).bind fun v16 =>
 (n14 (N+39) (p32.2.2.2,(5:Int))).bind fun v17 =>
 joinK (fun (p18:(List UInt8×((List (Int))×Int))) =>
 some (p18.1,p18.2)) fun j19 =>
 joinK (fun (p20:(List UInt8×((List (Int))×Int))) =>
 j19 (p20.1,p20.2)) fun j21 =>
 bif (v17.1==(0:Int)) then ((nCat ([58,58]:List UInt8) v16).bind fun v22 =>
 j21 (v22,v17.2)) else (joinK (fun (p23:(List UInt8×((List (Int))×Int))) =>
 j21 (p23.1,p23.2)) fun j24 =>
 bif (v17.1==(1:Int)) then ((nCat v16 ([58,58]:List UInt8)).bind fun v25 =>
 j24 (v25,v17.2)) else (joinK (fun (p26:(List UInt8×((List (Int))×Int))) =>
 j24 (p26.1,p26.2)) fun j27 =>
 bif (v17.1==(2:Int)) then ((nCat v16 ([58,49,46,50,46,51,46,52]:List UInt8)).bind fun v28 =>
 j27 (v28,v17.2)) else (joinK (fun (p29:(List UInt8×((List (Int))×Int))) =>
 j27 (p29.1,p29.2)) fun j30 =>
 bif (v17.1==(3:Int)) then ((n16 (N+39) (v16,([58,48,58]:List UInt8),([58,58]:List UInt8),(1:Int))).bind fun v31 =>
 j30 (v31, v17.2)) else (j30 (v16, v17.2)))))))) (fun ws i d hi => by
        have hwi:IntKind.i64.wrap ((i:Int)+1)=((i+1:Nat):Int):=by rw [wrap_i64 (by omega) (by omega)]; omega
        by_cases hlt:i < n
        · rw [if_pos hlt]
          refine letB (v:=true) (decide_eq_true (by show (i:Int) < n; omega)) (bifT rfl ?_)
          simp only [letS,hwi]
          rfl
        · rw [if_neg hlt]
          exact letB (v:=false) (decide_eq_false (by show ¬ (i:Int) < n; omega)) (bifF rfl rfl)) (M:=N+39) (by omega)
    exact fin ⟨r,bindB h0 (bifF (by simpa using hv) (bindB h1 (letB hw (jB hr)))),hq⟩
end Go.Proofs.YtfglhfbnbdmhfaaGreatDoor
