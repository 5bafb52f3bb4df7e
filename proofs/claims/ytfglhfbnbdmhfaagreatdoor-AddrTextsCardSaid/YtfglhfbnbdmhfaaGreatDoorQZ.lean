/- Chapter 01, plainly: back from text and bytes. -/
import Derived.Test.YtfglhfbnbdmhfaaGreatDoorQY
namespace Go.Proofs.YtfglhfbnbdmhfaaGreatDoor
open Go.VM Go.Txt
set_option maxRecDepth 10000
theorem txt_mem {a:Ad} (h:OkA a) {c:UInt8} (hc:c∈txt a):c.toNat < 65∨(97≤c.toNat∧c.toNat≤102):=by
  have hJ:∀ {l:List Int},G16 l→c∈J l→c.toNat < 65∨(97≤c.toNat∧c.toNat≤102):=fun {l} hl hm=>by
    rcases join_mem hm with rfl | ⟨w,hw,hm⟩
    · exact .inl (by decide)
    · obtain ⟨g,hg,rfl⟩:=List.mem_map.1 hw
      have:=hexW_mem (hl g hg).1 (hl g hg).2 hm
      omega
  unfold txt at hc
  split at hc
  · unfold txt6 at hc
    split at hc
    · exact hJ (gsL_rng _) hc
    · rcases List.mem_append.1 hc with hc | hc
      · exact hJ (fun g hg=>gsL_rng _ g (List.mem_of_mem_take hg)) hc
      · rcases List.mem_append.1 hc with hc | hc
        · simp only [List.mem_cons,List.not_mem_nil,or_false,or_self] at hc
          subst hc
          exact .inl (by decide)
        · exact hJ (fun g hg=>gsL_rng _ g (List.mem_of_mem_drop hg)) hc
  · rcases join_mem hc with rfl | ⟨w,hw,hm⟩
    · exact .inl (by decide)
    · obtain ⟨b,hb,rfl⟩:=List.mem_map.1 hw
      have:=List.all_eq_true.1 (itoa_fact (bytesA_Bs a b hb)).2.2.1 c hm
      have:=of_decide_eq_true this
      omega
theorem join_len' {c:UInt8} {m:Nat}:∀ {ws:List (List UInt8)},ws≠[]→(∀ w∈ws,w.length≤m)→(Lib.join ws [c]).length+1≤ws.length * (m+1)
  | [],h,_=>absurd rfl h
  | [w],_,h=>by
    rw [Lib.join_one]
    have:=h w (List.mem_singleton.2 rfl)
    simp only [List.length_singleton]; omega
  | x::y::r,_,h=>by
    have ih:=join_len' (c:=c) (ws:=y::r) (by simp) fun w hw=>h w (List.mem_cons_of_mem _ hw)
    have hx:=h x (List.mem_cons_self ..)
    rw [join_cons2,List.length_append,List.length_cons,List.length_cons (a:=x),Nat.add_mul,Nat.one_mul]
    omega
theorem txt_len (a:Ad):(txt a).length≤39:=by
  unfold txt
  split
  · have hgs:(gsL (val a)).length=8:=rfl
    unfold txt6
    split
    · have := join_len' (c := 58) (m := 4) (ws := (gsL (val a)).map hexW) (by simp [gsL]) fun w hw => by
        obtain ⟨g,_,rfl⟩:=List.mem_map.1 hw
        exact (hexW_length g).2
      rw [List.length_map,hgs] at this
      show (Lib.join ((gsL (val a)).map hexW) [58]).length≤39
      omega
    · rename_i h
      have hle:=lgM_le (zs (gsL (val a))) rfl 8 (Nat.le_refl _)
      have h2:2≤(lgM (zs (gsL (val a))) 8).2:=by
        have rel:(lgM (zs (gsL (val a))) 8).2=if (rbM (zs (gsL (val a))) 8).2 < 2 then 0 else (rbM (zs (gsL (val a))) 8).2:=lg_rb _ _ _ _ _ _ _ _
        split at rel <;> omega
      have l1:=J_len ((gsL (val a)).take (lgM (zs (gsL (val a))) 8).1)
      have l2:=J_len ((gsL (val a)).drop ((lgM (zs (gsL (val a))) 8).1+(lgM (zs (gsL (val a))) 8).2))
      rw [List.length_take,hgs] at l1
      rw [List.length_drop,hgs] at l2
      simp only [List.length_append,List.length_cons,List.length_nil]
      omega
  · rename_i hf
    have hl:(bytesA a).length≤4:=by
      unfold bytesA
      split
      · rw [beI_length]; unfold wid; rw [if_neg hf]; exact Nat.le_refl _
      · exact Nat.zero_le _
    have:=join_len (c:=46) (m:=3) (ws:=(bytesA a).map Lib.itoa) fun w hw=>by
      obtain ⟨b,hb,rfl⟩:=List.mem_map.1 hw
      exact (itoa_fact (bytesA_Bs a b hb)).2.1
    rw [List.length_map] at this
    show (Lib.join ((bytesA a).map Lib.itoa) [46]).length≤39
    omega
/-- A text out of the deck: some words,joined. -/
theorem words_loop (N : Nat) {L : List (List UInt8)} {m : Nat} (hm : ∀ w ∈ L, w.length ≤ m) (hm2 : m ≤ 10) (hL : 0 < L.length) (hL2 : L.length ≤ 100) {R : Type} {n : Nat} (hn : n ≤ 20) {d : Dk} (hd : DK d) {K : List (List UInt8) × Dk → Option R} {Q : R → Prop}
    (hK:∀ ws d',ws.length=n→(∀ w∈ws,w.length≤m)→DK d'→∃ r,K (ws,d')=some r∧Q r) {body:(List (List UInt8)×(Int×(Int×((List (Int))×Int))))→Option ((List (List UInt8)×(Int×(Int×((List (Int))×Int)))) ⊕ R)}
    (hb:∀ ws i d,i≤n→body (ws,(n:Int),(i:Int),d)=if i < n then (n14 (N+2) (d,(L.length:Int))).bind fun v8=>(nIdx L v8.1).bind fun v9=>(nApp 16 ws ([v9]:List (List UInt8))).bind fun v10=>again (v10,(n:Int),((i+1:Nat):Int),v8.2) else leave (K (ws,d))) {M:Nat} (hM:n < M) :
    ∃ r,loopN M body (([]:List (List UInt8)),(n:Int),(0:Int),d)=some r∧Q r:=by
  refine loopN_run (fun k p=>∃ (ws:List (List UInt8)) (i:Nat) (d:Dk),p=(ws,(n:Int),(i:Int),d)∧i+k=n∧ws.length=i∧(∀ w∈ws,w.length≤m)∧DK d) Q (fun k p ⟨ws,i,d,hp,hik,hws,hwm,hd⟩=>?_) M n _ ⟨[],0,d,rfl,Nat.zero_add _,rfl,fun w hw=>(List.not_mem_nil hw).elim,hd⟩ hM
  subst hp
  rw [hb ws i d (by omega)]
  by_cases hi:i < n
  · obtain ⟨v,d',h1,h2,h3,h4⟩:=next_ok N hd (b:=(L.length:Int)) (by omega) (by omega)
    obtain ⟨w,hw,hx⟩:=idx_mem (l:=L) h2 h3
    refine .inl ⟨(ws++[w],(n:Int),((i+1:Nat):Int),d'),?_,k - 1,by omega,ws++[w],i+1,d',rfl,by omega,by rw [List.length_append,hws]; rfl,fun x hx=>?_,h4⟩
    · rw [if_pos hi]
      refine bindB h1 (bindB hx (bindB (nApp_ok (by simp only [List.length_singleton]; omega) (by simp only [List.length_singleton]; omega)) rfl))
    · rcases List.mem_append.1 hx with hx | hx
      · exact hwm x hx
      · rw [List.mem_singleton.1 hx]; exact hm w hw
  · obtain ⟨r,hr,hQ⟩:=hK ws d (by omega) hwm hd
    refine .inr ⟨r,?_,hQ⟩
    rw [if_neg hi]
    exact leaveB hr
end Go.Proofs.YtfglhfbnbdmhfaaGreatDoor
