/- Plain steps through what is read; rounds that may end early; decimal numbers as texts. No program. -/
import Derived.Test.YtgfmodmeimhhpaaDoorTC
import Derived.Lib.ItoaMem
namespace Go.VM
set_option maxRecDepth 10000
theorem letB{α β:Type}{x v:α}{f:α->β}{r:β}(h:x=v)(h2:f v=r):aJy x f=r:=by rw[aKO,h,h2]
theorem bindB{α β:Type}{x:Option α}{v:α}{f:α->Option β}{r:Option β}(h:x=some v)(h2:f v=r):x.bind f=r:=by rw[h,aKI,h2]
theorem bifF{α:Type}{b:Bool}{x y r:α}(h:b=false)(h2:y=r):(bif b then x else y)=r:=by rw[h,aKK,h2]
theorem bifT{α:Type}{b:Bool}{x y r:α}(h:b=true)(h2:x=r):(bif b then x else y)=r:=by rw[h,aKJ,h2]
theorem jB{α R:Type}{k:α->Option R}{f:(α->Option R)->Option R}{r:Option R}(h:f k=r):aBJ k f=r:=by rw[aJY,h]
theorem leaveB{α R:Type}{x:Option R}{r:R}(h:x=some r):(lJ x:Option (α ⊕ R))=some (.inr r):=by rw[h];exact aIE r
theorem loopN_seq'{α R:Type}{body:α->Option (α ⊕ R)}(s:Nat->α)(n:Nat){r:R}{x:α}(hx:x=s 0)(h:∀k,k<n->body (s k)=some (.inl (s (k+1))))(hr:body (s n)=some (.inr r)){m:Nat}(hm:n<m):eG m body x=some r:=by rw[hx];exact aIu s n h hr hm
theorem wv{n:Int}(m:Int)(h:n=m)(h1:-9223372036854775808<=m)(h2:m<=9223372036854775807):IntKind.i64.wrap n=m:=by rw[h];exact pV h1 h2
def runF{A:Type}(F:Nat->A->Option A):Nat->Nat->A->Option A
 |0,_,a=>some a|m+1,i,a=>(F i a).bind (runF F m (i+1))
theorem loopN_F{α R A:Type}{body:α->Option (α ⊕ R)}(F:Nat->A->Option A)(P:Nat->A->Prop)(s:Nat->A->α)(n:Nat)(bad:R)(fin:A->R)
  (h:∀i,i<n->∀a,P i a->(∀b,F i a=some b->P (i+1) b/\body (s i a)=some (.inl (s (i+1) b)))/\(F i a=none->body (s i a)=some (.inr bad)))
  (he:∀a,P n a->body (s n a)=some (.inr (fin a))):∀(m i:Nat) (a:A),i+m=n->P i a->∀M,m<M->eG M body (s i a)=some (match runF F m i a with|some b=>fin b|none=>bad)/\∀b,runF F m i a=some b->P n b
 |0,i,a,hi,hP,M+1,hM=>by
  have:i=n:=by omega
  subst this;exact⟨by simp only[eG,he a hP,runF],fun b hb=>by cases hb;exact hP⟩
 |m+1,i,a,hi,hP,M+1,hM=>by
  obtain⟨h1,h2⟩:=h i (by omega) a hP;cases hF:F i a with
  |none=>exact⟨by simp only[eG,h2 hF,runF,hF,Option.bind_none],fun b hb=>by simp only[runF,hF,Option.bind_none]at hb;cases hb⟩|some b=>obtain⟨h3,h4⟩:=h1 b hF;obtain⟨k1,k2⟩:=loopN_F F P s n bad fin h he m (i+1) b (by omega) h3 M (by omega);refine⟨?_,?_⟩;simp only[eG,h4,runF,hF,Option.bind_some];exact k1;simp only[runF,hF,Option.bind_some];exact k2
theorem loopF_go{α R A:Type}{body:α->Option (α ⊕ R)}(F:Nat->A->Option A)(P:Nat->A->Prop)(s:Nat->A->α)(n:Nat)(bad:R)(fin:A->R)(a:A){x:α}{r:R}{M:Nat}(hx:x=s 0 a)(hP:P 0 a)
  (h:∀i,i<n->∀a,P i a->(∀b,F i a=some b->P (i+1) b/\body (s i a)=some (.inl (s (i+1) b)))/\(F i a=none->body (s i a)=some (.inr bad)))
  (he:∀a,P n a->body (s n a)=some (.inr (fin a))) (hM:n<M) (hr:(match runF F n 0 a with|some b=>fin b|none=>bad)=r):eG M body x=some r:=by
 rw[hx,<-hr];exact(loopN_F F P s n bad fin h he n 0 a (Nat.zero_add n) hP M hM).1
end Go.VM
namespace Go.VM
def Ok{R:Type}(x:Option R)(Q:R->Prop):Prop:=∃r,x=some r/\Q r
variable{A B R S:Type}
theorem ok_some{r:R}{Q:R->Prop}(h:Q r):Ok (some r) Q:=⟨r,rfl,h⟩
theorem ok_eq{x:Option R}{r:R}{Q:R->Prop}(h:x=some r)(k:Q r):Ok x Q:=⟨r,h,k⟩
theorem ok_bind{x:Option A}{f:A->Option R}{v:A}{Q:R->Prop}(h:x=some v)(k:Ok (f v) Q):Ok (x.bind f) Q:=by subst h;exact k
theorem ok_bind'{x:Option A}{f:A->Option R}{P:A->Prop}{Q:R->Prop}(h:Ok x P)(k:∀v,P v->Ok (f v) Q):Ok (x.bind f) Q:=by obtain⟨v,rfl,hv⟩:=h;exact k v hv
theorem ok_let{v:A}{f:A->Option R}{Q:R->Prop}(k:Ok (f v) Q):Ok (aJy v f) Q:=by rw[aJl];exact k
theorem ok_letE{v w:A}{f:A->Option R}{Q:R->Prop}(e:v=w)(k:Ok (f w) Q):Ok (aJy v f) Q:=by subst e;exact ok_let k
theorem ok_if{c:Bool}{x y:Option R}{Q:R->Prop}(h:c=true->Ok x Q)(k:c=false->Ok y Q):Ok (bif c then x else y) Q:=by cases c;exact k rfl;exact h rfl
theorem ok_join{f:A->Option R}{k:(A->Option R)->Option R}(P:A->Prop){Q:R->Prop}(hf:∀x,P x->Ok (f x) Q)(hk:∀g:A->Option R,(∀x,P x->Ok (g x) Q)->Ok (k g) Q):Ok (aBJ f k) Q:=by rw[aJY];exact hk f hf
def Round(n i:Nat)(I:Nat->A->Prop)(Q:R->Prop):A ⊕ R->Prop
 |.inl b=>i<n/\I (i+1) b|.inr r=>Q r
theorem ok_again{n i:Nat}{I:Nat->A->Prop}{Q:R->Prop}{b:A}(h:i<n)(k:I (i+1) b):Ok (tN b) (Round n i I Q):=⟨.inl b,rfl,h,k⟩
theorem ok_leave{n i:Nat}{I:Nat->A->Prop}{Q:R->Prop}{x:Option R}(h:Ok x Q):Ok (lJ x) (Round n i I Q):=by obtain⟨r,rfl,hr⟩:=h;exact⟨.inr r,rfl,hr⟩
theorem ok_loop{body:A->Option (A ⊕ R)}(I:Nat->A->Prop)(n:Nat){Q:R->Prop}(h:∀i a,I i a->Ok (body a) (Round n i I Q)){x:A}(hx:I 0 x){M:Nat}(hM:n<M):Ok (eG M body x) Q:=by
 have key:∀(m i:Nat) (a:A) (M:Nat),I i a->n<=i+m->m<M->Ok (eG M body a) Q:=by
  intro m
  induction m with
  |zero=>
   intro i a M ha hm hM;obtain⟨M,rfl⟩:∃k,M=k+1:=⟨M-1,by omega⟩;obtain⟨s,hs,hq⟩:=h i a ha;cases s with
   |inl b=>exact absurd hq.1 (by omega)|inr r=>exact⟨r,by simp only[eG,hs],hq⟩
  |succ m ih=>
   intro i a M ha hm hM;obtain⟨M,rfl⟩:∃k,M=k+1:=⟨M-1,by omega⟩;obtain⟨s,hs,hq⟩:=h i a ha;cases s with
   |inl b=>
    obtain⟨r,hr,hq'⟩:=ih (i+1) b M hq.2 (by omega) (by omega);exact⟨r,by simp only[eG,hs,hr],hq'⟩
   |inr r=>exact⟨r,by simp only[eG,hs],hq⟩
 exact key n 0 x M hx (by omega) hM
end Go.VM
