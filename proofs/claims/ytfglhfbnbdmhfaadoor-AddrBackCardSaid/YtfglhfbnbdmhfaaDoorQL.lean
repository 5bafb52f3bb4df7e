/- Chapter 01, plainly: steps and orders. -/
import Derived.Test.YtfglhfbnbdmhfaaDoorQC
namespace Go.Proofs.YtfglhfbnbdmhfaaDoor
open Go.VM
set_option maxRecDepth 100000
theorem awake80:n15 80 ()=some true:=by kernel_rfl
theorem awake' {N:Nat} (h:80≤N):n15 N ()=some true:=nfN_mono (T:=TN) h 15 () true awake80
set_option maxRecDepth 10000
theorem new_eq (N:Nat) (l:List Int):n8 (N+1) l=some (l,0):=e8 N l
theorem DK0 {l:List Int} (h:l.length≤9223372036854775807):DK (l,0):=⟨Int.le_refl _,by show (0:Int)≤(l.length:Int); omega,h⟩
theorem joinB {α:Type} (b:Bool) (x y:α) (j:α→Option Bool):(bif b then j x else j y)=j (if b then x else y):=by cases b <;> rfl

theorem steps {l:List Int} {k:Int} (h:l.length≤9223372036854775807):n4 200 (l,k)=some true:=by
  rw [e4,new_eq]
  obtain ⟨a,d,h1,ha,hd⟩:=addr_ok 195 (DK0 h)
  rw [bindS,h1,bindS]
  obtain ⟨n,h2,n0,n1⟩:=mod_ok 198 (a:=k) (b:=30) (by omega) (by omega)
  rw [h2,bindS]
  simp only [joinK_eq]
  have hr:=ha.rng
  have hl:lim a.1≤340282366920938463463374607431768211456:=by unfold lim; split <;> omega
  obtain ⟨r,h3,h4⟩:=loopN_run (body:=fun (p11:((Bool×Int×Int)×((Bool×Int×Int)×(Int×(Int×Int))))) =>
 letK (decide (p11.2.2.2.2 < p11.2.2.2.1)) fun v12 =>
 bif v12 then ((n17 199 p11.2.1).bind fun v13 =>
 bif (!v13.2) then (letK (p11.2.1.2.1==(18446744073709551615:Int)) fun v14 =>
 letK (bif p11.2.1.1 then v14 else false) fun v15 =>
 letK (p11.2.1.2.2==(18446744073709551615:Int)) fun v16 =>
 letK (bif v15 then v16 else false) fun v17 =>
 letK (p11.2.1.2.2==(4294967295:Int)) fun v18 =>
 letK (bif (!p11.2.1.1) then v18 else false) fun v19 =>
 (bif (bif v17 then true else v19) then (n15 199 ()) else some false).bind fun v20 =>
 letK (bif (bif v17 then true else v19) then v20 else false) fun v21 =>
 leave (some v21)) else (letK (IntKind.i64.wrap (p11.2.2.2.2+(1:Int))) fun v22 =>
 again (p11.1,v13.1,p11.2.2.1,p11.2.2.2.1,v22))) else (leave (
 letK (IntKind.u64.wrap (p11.1.2.2+(IntKind.u64.wrap p11.2.2.1))) fun v5 =>
 bif (decide (v5 < p11.1.2.2)) then (
 letK (IntKind.u64.wrap (p11.1.2.1+1)) fun v8 =>
 letK (false != ((p11.2.1.1==p11.1.1)&&((p11.2.1.2.1==v8)&&(p11.2.1.2.2==v5)))) fun v9 =>
 (bif v9 then (n15 199 ()) else some false).bind fun v10 =>
 some (bif v9 then v10 else false)) else (
 letK (IntKind.u64.wrap (p11.1.2.1+0)) fun v8 =>
 letK (false != ((p11.2.1.1==p11.1.1)&&((p11.2.1.2.1==v8)&&(p11.2.1.2.2==v5)))) fun v9 =>
 (bif v9 then (n15 199 ()) else some false).bind fun v10 =>
 some (bif v9 then v10 else false))))) (fun m p => ∃ (c : Ad) (i : Int), p = (a, c, n, n, i) ∧ OkA c ∧ c.1 = a.1 ∧ val c = val a + i ∧ 0 ≤ i ∧ i + m = n) (fun r => r = true) (fun m p ⟨c, i, hp, hc, hf, hv, hi, him⟩ => by
      subst hp
      have hcr:=hc.rng
      simp only [letS]
      by_cases hlt:i < n
      · simp only [hlt,decide_true,condT]
        rw [(next_eq 197 hc).1,bindS]
        by_cases hlim:val c+1 < lim c.1
        · rw [if_pos hlim]
          refine .inl ⟨_,rfl,m - 1,by omega,mkA c.1 (val c+1),i+1,?_,OkA.mk (by omega) hlim,hf,?_,by omega,by omega⟩
          · rw [wrap_i64 (by omega) (by omega)]
          · rw [val_mk]; omega
        · rw [if_neg hlim]
          refine .inr ⟨true,?_,rfl⟩
          simp only [Bool.not_false,condT]
          have hall:(bif (bif (bif c.1 then c.2.1==18446744073709551615 else false) then c.2.2==18446744073709551615 else false) then true else bif (!c.1) then c.2.2==4294967295 else false)=true:=by
            obtain ⟨f,x,y⟩:=c
            obtain ⟨⟨k1,k2⟩,⟨k3,k4⟩,k5⟩:=hc
            simp only [val,lim] at hlim hcr k1 k2 k3 k4 k5 ⊢
            cases f with
            | true =>
              simp only [if_true] at hlim hcr
              have e1:x=18446744073709551615:=by omega
              have e2:y=18446744073709551615:=by omega
              subst e1 e2; rfl
            | false =>
              simp only [Bool.false_eq_true,if_false] at hlim hcr
              have:=k5 rfl
              have e2:y=4294967295:=by omega
              subst e2; rfl
          rw [hall,condT,awake' (by omega),bindS,condT,leave_some]
      · have hin:i=n:=by omega
        subst hin
        refine .inr ⟨true,?_,rfl⟩
        simp only [hlt,decide_false,condF]
        have main:∀ (v8:Int),v8=c.2.1→∀ v5,v5=c.2.2→((bif (false != ((c.1==a.1)&&((c.2.1==v8)&&(c.2.2==v5)))) then (n15 199 ()) else some false).bind fun v10=>some (bif (false != ((c.1==a.1)&&((c.2.1==v8)&&(c.2.2==v5)))) then v10 else false))=some true:=by
          intro v8 e8 v5 e5
          subst e8 e5
          rw [hf]
          simp only [beq_self_eq_true,Bool.and_self,false_bne',condT]
          rw [awake' (by omega)]; rfl
        obtain ⟨f,x,y⟩:=c
        obtain ⟨g,z,w⟩:=a
        obtain ⟨⟨k1,k2⟩,⟨k3,k4⟩,k5⟩:=hc
        obtain ⟨⟨j1,j2⟩,⟨j3,j4⟩,j5⟩:=ha
        simp only [val,lim,wrap_u64] at *
        have en:i % 18446744073709551616=i:=by omega
        simp only [en]
        by_cases ho:(w+i) % 18446744073709551616 < w
        · simp only [ho,decide_true,condT]
          rw [main _ (by omega) _ (by omega)]; rfl
        · simp only [ho,decide_false,condF]
          rw [main _ (by omega) _ (by omega)]; rfl) 199 n.toNat (a,a,n,n,0) ⟨a,0,rfl,ha,rfl,by omega,by omega,by omega⟩ (by omega)
  subst h4
  exact h3
end Go.Proofs.YtfglhfbnbdmhfaaDoor
