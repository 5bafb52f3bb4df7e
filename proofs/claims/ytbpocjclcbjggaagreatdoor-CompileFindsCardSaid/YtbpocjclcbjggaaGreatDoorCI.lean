/- Chapter 09, plainly: the document's Bindings of a drawn database. -/
import Derived.Test.YtbpocjclcbjggaaGreatDoorCH
namespace Go.Proofs.YtbpocjclcbjggaaGreatDoor
open Go.VM
set_option maxRecDepth 10000
abbrev BiT:=AddrT×MacT×Int
theorem cmp41(N:Nat)(a b:AddrT):Ok (n41 (N+1) (a,b)) fun _=>True:=by
 rw[e41];exact ok_let (ok_if (fun _=>ok_some trivial) fun _=>ok_if (fun _=>ok_if (fun _=>ok_some trivial) fun _=>ok_some trivial) fun _=>ok_let (ok_let (ok_if (fun _=>ok_some trivial) fun _=>ok_some trivial)))
theorem PIn.some{p:PortT}(h:PIn p):eqA (v4L p) z3=true->eqA (v6L p) z3=false:=by
 obtain⟨k,k1,k2,r,kd,cp,ma,ad,l1,l2,l3,l4,l5,rfl⟩:=h
 match ad,l5 with
 |0,_=>
  intro h;have:eqA (fourV k) z3=true:=h;simp only[eqA,fourV,z3,bne_iff_ne,ne_eq,Bool.and_eq_true,beq_iff_eq,Bool.false_eq,Bool.not_eq_false]at this;omega
 |1,_=>exact fun _=>rfl
 |2,_=>exact fun _=>rfl
theorem bind12{N:Nat}(hN:40000<=N){d:DbT}(h:DbAt d):Ok (n12 (N+5) d) fun l=>l≠[]/\l.length<=28000:=by
 rw[e12];refine ok_bind' (ports26 (N:=N+1) (by omega) h) fun Q ⟨hQ,hQl,hQn⟩=>?_
 have hQ0:0<Q.length:=List.length_pos_iff.2 hQn;refine ok_join (fun l=>l≠[]/\l.length<=28000) (fun l hl=>ok_some hl) fun g hg=>?_
 refine ok_loop (fun i q=>∃l,q=(l,Q,(Q.length:Int),(i:Int))/\i<=Q.length/\l.length<=2*i/\(0<i->l≠[])) Q.length (fun i q ⟨l,e1,hi,hl,hx⟩=>?_) ⟨[],rfl,Nat.zero_le _,Nat.zero_le _,fun h=>absurd h (Nat.lt_irrefl 0)⟩ (by omega);subst e1;refine ok_let (ok_if (fun hc=>?_) fun hc=>?_)
 .have hlt:i<Q.length:=by simpa using hc
  refine ok_join (fun q=>∃l,q=(l,Q,(Q.length:Int),(i:Int))/\l.length<=2*(i+1)/\l≠[]) ?_ fun g2 hg2=>?_
  .rintro q ⟨l,e1,a1,a2⟩;subst e1;exact ok_letE (w:=((i+1:Nat):Int)) (wv _ rfl (by omega) (by omega)) (ok_again hlt ⟨l,rfl,hlt,a1,fun _=>a2⟩)
  refine ok_bind (aJo hlt) ?_;have hp:=hQ _ (List.getElem_mem hlt);generalize Q[i]=p at hp;have hma:=hp.ma;have hso:=hp.some;refine ok_let (ok_join (fun q=>∃l,q=(l,Q,(Q.length:Int),(i:Int))/\l.length<=2*(i+1)/\l≠[]) (fun q hq=>?_) fun g3 hg3=>?_)
  .obtain⟨l,e1,a⟩:=hq;subst e1;exact hg2 _ ⟨l,rfl,a⟩
  refine ok_loop (fun j q=>∃l,q=(l,p,Q,(Q.length:Int),(i:Int),[v4L p,v6L p],2,(j:Int))/\j<=2/\l.length<=2*i+j/\(0<i\/(1<=j/\eqA (v4L p) z3=false)\/(2<=j/\eqA (v6L p) z3=false)->l≠[])) 2 (fun j q ⟨l,e1,hj,hl,hx⟩=>?_) ⟨l,rfl,Nat.zero_le _,hl,fun h=>hx (by omega)⟩ (by omega);subst e1;refine ok_let (ok_if (fun hc=>?_) fun hc=>?_)
  · have hjt : j < 2 := by
      have:(j:Int)<2:=of_decide_eq_true hc;omega
    refine ok_join (fun q=>∃l,q=(l,p,Q,(Q.length:Int),(i:Int),[v4L p,v6L p],2,(j:Int))/\l.length<=2*i+(j+1)/\(0<i\/(1<=j+1/\eqA (v4L p) z3=false)\/(2<=j+1/\eqA (v6L p) z3=false)->l≠[])) ?_ fun g4 hg4=>?_
    .rintro q ⟨l,e1,a1,a2⟩;subst e1;exact ok_letE (w:=((j+1:Nat):Int)) (wv _ rfl (by omega) (by omega)) (ok_again hjt ⟨l,rfl,hjt,a1,a2⟩)
    obtain⟨a,ha,ha1,ha2⟩:∃a,aEU [v4L p,v6L p] (j:Int)=some a/\(j=0->a=v4L p)/\(j=1->a=v6L p):=by
     match j,hjt with
     |0,_=>exact⟨v4L p,rfl,fun _=>rfl,fun h=>(by cases h)⟩
     |1,_=>exact⟨v6L p,rfl,fun h=>(by cases h),fun _=>rfl⟩
    have hm0:(aJO (maL p)==(0:Int))=false:=by
     have:(aJO (maL p):Int)=((maL p).length:Int):=rfl;rw[this,beq_eq_false_iff_ne];omega
    refine ok_bind ha (ok_letE (w:=eqA a z3) rfl (ok_letE (w:=false) hm0 (ok_if (fun hz=>hg4 _ ⟨l,rfl,by omega,fun h=>hx ?_⟩) fun _=>?_)))
    · have hz' : eqA a z3 = true := by
        cases hb:eqA a z3
        .rw[hb]at hz;cases hz
        .rfl
      rcases h with h|⟨_,h⟩|⟨h1,h⟩
      .exact .inl h
      .by_cases h0:j=0
       .rw[<-ha1 h0,hz']at h;cases h
       .exact .inr (.inl ⟨by omega,h⟩)
      .rw[<-ha2 (by omega),hz']at h;cases h
    .refine ok_join (fun q=>∃k:Nat,k<=l.length/\q=(l,p,a,(k:Int),Q,(Q.length:Int),(i:Int),[v4L p,v6L p],2,(j:Int))) ?_ fun g5 hg5=>?_
     .rintro q ⟨k,hk,e1⟩;subst e1;have hl1:(l.take k).length<=28000:=by rw[List.length_take];omega
      have hl2:(l.drop k).length<=28000:=by rw[List.length_drop];omega
      refine ok_bind (aJ0 hk) (ok_bind (aJm (l:=[]) (by simp only[List.length_nil];omega) (by simp only[List.length_nil];omega)) (ok_bind (aJo (l:=maL p) (n:=0) (by omega)) (ok_let (ok_bind (aJm (by simp only[List.length_append,List.length_nil,List.length_singleton];omega) (by simp only[List.length_append,List.length_nil,List.length_singleton];omega)) (ok_bind (aJ1 hk) (ok_bind (aJm (by simp only[List.length_append,List.length_nil,List.length_singleton];omega) (by simp only[List.length_append,List.length_nil,List.length_singleton];omega)) (hg4 _ ⟨_,rfl,?_,fun _ h=>by simp at h⟩)))))));have:l.length=(l.take k).length+(l.drop k).length:=by rw[List.length_take,List.length_drop];omega
      simp only[List.length_append,List.length_nil,List.length_singleton];omega
     .show Ok (eG _ _ (l,p,a,((0:Nat):Int),Q,(Q.length:Int),(i:Int),[v4L p,v6L p],2,(j:Int))) _;refine ok_loop (fun(k:Nat) (q:List BiT×PortT×AddrT×Int×List PortT×Int×Int×List AddrT×Int×Int)=>k<=l.length/\q=(l,p,a,(k:Int),Q,(Q.length:Int),(i:Int),[v4L p,v6L p],(2:Int),(j:Int))) l.length (fun k q hq=>?_) ⟨Nat.zero_le _,rfl⟩ (show l.length<N+4 by omega);obtain⟨hk,e1⟩:=hq;subst e1;by_cases hkt:k<l.length
      .refine ok_letE (w:=true) (decide_eq_true (by show(k:Int)<(l.length:Int);omega)) (ok_bind (bifT rfl (aJo hkt)) ?_);obtain⟨c,hc2,_⟩:=cmp41 (N+3) (l[k]).1 a;refine ok_bind (bifT rfl hc2) (ok_let (ok_if (fun _=>ok_letE (w:=((k+1:Nat):Int)) (wv _ rfl (by omega) (by omega)) (ok_again hkt ⟨hkt,rfl⟩)) fun _=>ok_leave (hg5 _ ⟨k,hk,rfl⟩)))
      .refine ok_letE (w:=false) (decide_eq_false (by show ¬(k:Int)<(l.length:Int);omega)) (ok_bind (bifF rfl rfl) (ok_bind (bifF rfl rfl) (ok_letE (w:=false) rfl (ok_if (fun h=>by cases h) fun _=>ok_leave (hg5 _ ⟨k,hk,rfl⟩)))))
  · have : j = 2 := by
      have:¬(j:Int)<2:=of_decide_eq_false hc;omega
    refine ok_leave (hg3 _ ⟨l,rfl,by omega,hx ?_⟩);cases hb:eqA (v4L p) z3
    .exact .inr (.inl ⟨by omega,rfl⟩)
    .exact .inr (.inr ⟨by omega,hso hb⟩)
 · have hle : i = Q.length := by
     have h1:Q.length<=i:=by simpa using hc
     omega
   exact ok_leave (hg _ ⟨hx (by omega),by show l.length<=28000;omega⟩)
end Go.Proofs.YtbpocjclcbjggaaGreatDoor
