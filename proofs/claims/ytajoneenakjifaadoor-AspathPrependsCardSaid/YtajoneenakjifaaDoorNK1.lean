/- The code is the program's; what is checked of it. -/
import Derived.Test.YtajoneenakjifaaDoorNT
namespace Go.Proofs.YtajoneenakjifaaDoor
open Go.VM
set_option maxRecDepth 100000
theorem tab6:mM Tryd.prog hh6 vf6.kept vf6.cons Tryd.f6=some vf6:=by kernel_rfl
theorem sig6:(⟨vf6.cons,vf6.quiet⟩:Sig)=⟨[],false⟩:=by kernel_rfl
theorem chk6:aH8 sgN vsN (sgN 6) fi6 vf6=true:=by kernel_rfl
theorem tab8:mM Tryd.prog hh8 vf8.kept vf8.cons Tryd.f8=some vf8:=by kernel_rfl
theorem sig8:(⟨vf8.cons,vf8.quiet⟩:Sig)=⟨[],true⟩:=by kernel_rfl
theorem chk8:aH8 sgN vsN (sgN 8) fi8 vf8=true:=by kernel_rfl
theorem tab9:mM Tryd.prog hh9 vf9.kept vf9.cons Tryd.f9=some vf9:=by kernel_rfl
theorem sig9:(⟨vf9.cons,vf9.quiet⟩:Sig)=⟨[],false⟩:=by kernel_rfl
theorem chk9:aH8 sgN vsN (sgN 9) fi9 vf9=true:=by kernel_rfl
theorem tab11:mM Tryd.prog hh11 vf11.kept vf11.cons Tryd.f11=some vf11:=by kernel_rfl
theorem sig11:(⟨vf11.cons,vf11.quiet⟩:Sig)=⟨[],true⟩:=by kernel_rfl
theorem chk11:aH8 sgN vsN (sgN 11) fi11 vf11=true:=by kernel_rfl
theorem tab12:mM Tryd.prog hh12 vf12.kept vf12.cons Tryd.f12=some vf12:=by kernel_rfl
theorem sig12:(⟨vf12.cons,vf12.quiet⟩:Sig)=⟨[],true⟩:=by kernel_rfl
theorem chk12:aH8 sgN vsN (sgN 12) fi12 vf12=true:=by kernel_rfl
theorem tab13:mM Tryd.prog hh13 vf13.kept vf13.cons Tryd.f13=some vf13:=by kernel_rfl
theorem sig13:(⟨vf13.cons,vf13.quiet⟩:Sig)=⟨[],true⟩:=by kernel_rfl
theorem chk13:aH8 sgN vsN (sgN 13) fi13 vf13=true:=by kernel_rfl
theorem tab14:mM Tryd.prog hh14 vf14.kept vf14.cons Tryd.f14=some vf14:=by kernel_rfl
theorem sig14:(⟨vf14.cons,vf14.quiet⟩:Sig)=⟨[],true⟩:=by kernel_rfl
theorem chk14:aH8 sgN vsN (sgN 14) fi14 vf14=true:=by kernel_rfl
theorem tab16:mM Tryd.prog hh16 vf16.kept vf16.cons Tryd.f16=some vf16:=by kernel_rfl
theorem sig16:(⟨vf16.cons,vf16.quiet⟩:Sig)=⟨[],true⟩:=by kernel_rfl
theorem chk16:aH8 sgN vsN (sgN 16) fi16 vf16=true:=by kernel_rfl
theorem tab17:mM Tryd.prog hh17 vf17.kept vf17.cons Tryd.f17=some vf17:=by kernel_rfl
theorem sig17:(⟨vf17.cons,vf17.quiet⟩:Sig)=⟨[],true⟩:=by kernel_rfl
theorem chk17:aH8 sgN vsN (sgN 17) fi17 vf17=true:=by kernel_rfl
theorem tab18:mM Tryd.prog hh18 vf18.kept vf18.cons Tryd.f18=some vf18:=by kernel_rfl
theorem sig18:(⟨vf18.cons,vf18.quiet⟩:Sig)=⟨[],true⟩:=by kernel_rfl
theorem chk18:aH8 sgN vsN (sgN 18) fi18 vf18=true:=by kernel_rfl
theorem tab20:mM Tryd.prog hh20 vf20.kept vf20.cons Tryd.f20=some vf20:=by kernel_rfl
theorem sig20:(⟨vf20.cons,vf20.quiet⟩:Sig)=⟨[],true⟩:=by kernel_rfl
theorem chk20:aH8 sgN vsN (sgN 20) fi20 vf20=true:=by kernel_rfl
end Go.Proofs.YtajoneenakjifaaDoor
