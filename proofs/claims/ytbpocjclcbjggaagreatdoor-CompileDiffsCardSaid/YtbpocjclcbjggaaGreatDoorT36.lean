/- What is read ends, with an answer of which something is known: rules for each step. No program. -/
import Derived.Test.YtbpocjclcbjggaaGreatDoorT34
namespace Go.VM
/-- There is an yH,and Q is known of it. -/
def Ok{R:Type}(x:Option R)(Q:R->Prop):Prop:=∃r,x=some r/\Q r
variable{A B R S:Type}
theorem ok_some{r:R}{Q:R->Prop}(h:Q r):Ok (some r) Q:=⟨r,rfl,h⟩
theorem ok_eq{x:Option R}{r:R}{Q:R->Prop}(h:x=some r)(k:Q r):Ok x Q:=⟨r,h,k⟩
theorem ok_mono{x:Option R}{P Q:R->Prop}(h:Ok x P)(k:∀r,P r->Q r):Ok x Q:=h.imp fun r h=>⟨h.1,k r h.2⟩
theorem ok_bind{x:Option A}{f:A->Option R}{v:A}{Q:R->Prop}(h:x=some v)(k:Ok (f v) Q):Ok (x.bind f) Q:=by subst h;exact k
theorem ok_bind'{x:Option A}{f:A->Option R}{P:A->Prop}{Q:R->Prop}(h:Ok x P)(k:∀v,P v->Ok (f v) Q):Ok (x.bind f) Q:=by
 obtain⟨v,rfl,hv⟩:=h;exact k v hv
theorem ok_let{v:A}{f:A->Option R}{Q:R->Prop}(k:Ok (f v) Q):Ok (aJy v f) Q:=by rw[aJl];exact k
theorem ok_letE{v w:A}{f:A->Option R}{Q:R->Prop}(e:v=w)(k:Ok (f w) Q):Ok (aJy v f) Q:=by subst e;exact ok_let k
theorem ok_if{c:Bool}{x y:Option R}{Q:R->Prop}(h:c=true->Ok x Q)(k:c=false->Ok y Q):Ok (bif c then x else y) Q:=by
 cases c
 .exact k rfl
 .exact h rfl
theorem ok_join{f:A->Option R}{k:(A->Option R)->Option R}(P:A->Prop){Q:R->Prop}(hf:∀x,P x->Ok (f x) Q)(hk:∀g:A->Option R,(∀x,P x->Ok (g x) Q)->Ok (k g) Q):Ok (aBJ f k) Q:=by
 rw[aJY];exact hk f hf
/-- What a round of a loop may come to. -/
def Round(n i:Nat)(I:Nat->A->Prop)(Q:R->Prop):A ⊕ R->Prop
 |.inl b=>i<n/\I (i+1) b
 |.inr r=>Q r
theorem ok_again{n i:Nat}{I:Nat->A->Prop}{Q:R->Prop}{b:A}(h:i<n)(k:I (i+1) b):Ok (tN b) (Round n i I Q):=⟨.inl b,rfl,h,k⟩
theorem ok_leave{n i:Nat}{I:Nat->A->Prop}{Q:R->Prop}{x:Option R}(h:Ok x Q):Ok (lJ x) (Round n i I Q):=by
 obtain⟨r,rfl,hr⟩:=h;exact⟨.inr r,rfl,hr⟩
theorem ok_loop{body:A->Option (A ⊕ R)}(I:Nat->A->Prop)(n:Nat){Q:R->Prop}(h:∀i a,I i a->Ok (body a) (Round n i I Q)){x:A}(hx:I 0 x){M:Nat}(hM:n<M):Ok (eG M body x) Q:=by
 have key:∀(m i:Nat) (a:A) (M:Nat),I i a->n<=i+m->m<M->Ok (eG M body a) Q:=by
  intro m
  induction m with
  |zero=>
   intro i a M ha hm hM;obtain⟨M,rfl⟩:∃k,M=k+1:=⟨M-1,by omega⟩;obtain⟨s,hs,hq⟩:=h i a ha;cases s with
   |inl b=>exact absurd hq.1 (by omega)
   |inr r=>exact⟨r,by simp only[eG,hs],hq⟩
  |succ m ih=>
   intro i a M ha hm hM;obtain⟨M,rfl⟩:∃k,M=k+1:=⟨M-1,by omega⟩;obtain⟨s,hs,hq⟩:=h i a ha;cases s with
   |inl b=>
    obtain⟨r,hr,hq'⟩:=ih (i+1) b M hq.2 (by omega) (by omega);exact⟨r,by simp only[eG,hs,hr],hq'⟩
   |inr r=>exact⟨r,by simp only[eG,hs],hq⟩
 exact key n 0 x M hx (by omega) hM
end Go.VM
