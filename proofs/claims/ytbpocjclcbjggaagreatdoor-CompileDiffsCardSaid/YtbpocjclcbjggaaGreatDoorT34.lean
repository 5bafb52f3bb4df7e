/- Plain steps through what is read; rounds that may end early; decimal numbers as texts. No program. -/
import Derived.Test.YtbpocjclcbjggaaGreatDoorTC
import Derived.Lib.ItoaMem
namespace Go.VM
set_option maxRecDepth 10000
theorem letB{α β:Type}{x v:α}{f:α->β}{r:β}(h:x=v)(h2:f v=r):aJy x f=r:=by rw[aKO,h,h2]
theorem bindB{α β:Type}{x:Option α}{v:α}{f:α->Option β}{r:Option β}(h:x=some v)(h2:f v=r):x.bind f=r:=by rw[h,aKI,h2]
theorem bifF{α:Type}{b:Bool}{x y r:α}(h:b=false)(h2:y=r):(bif b then x else y)=r:=by rw[h,aKK,h2]
theorem bifT{α:Type}{b:Bool}{x y r:α}(h:b=true)(h2:x=r):(bif b then x else y)=r:=by rw[h,aKJ,h2]
theorem leaveB{α R:Type}{x:Option R}{r:R}(h:x=some r):(lJ x:Option (α ⊕ R))=some (.inr r):=by rw[h];exact aIE r
theorem loopN_seq'{α R:Type}{body:α->Option (α ⊕ R)}(s:Nat->α)(n:Nat){r:R}{x:α}(hx:x=s 0)(h:∀k,k<n->body (s k)=some (.inl (s (k+1))))(hr:body (s n)=some (.inr r)){m:Nat}(hm:n<m):eG m body x=some r:=by
 rw[hx];exact aIu s n h hr hm
theorem wv{n:Int}(m:Int)(h:n=m)(h1:-9223372036854775808<=m)(h2:m<=9223372036854775807):IntKind.i64.wrap n=m:=by rw[h];exact pV h1 h2
theorem idx_mem{α:Type}{l:List α}{v:Int}(h:0<=v)(h2:v<(l.length:Int)):∃x∈l,aEU l v=some x:=by
 obtain⟨n,rfl⟩:=Int.eq_ofNat_of_zero_le h;exact⟨l[n]'(by omega),List.getElem_mem _,aJo (by omega)⟩
end Go.VM
