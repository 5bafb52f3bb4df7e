/- The code is the program's; what is checked of it. -/
import Derived.Test.YtajoneenakjifaaDoorNT
namespace Go.Proofs.YtajoneenakjifaaDoor
open Go.VM
set_option maxRecDepth 100000
theorem tab3:mM Tryd.prog hh3 vf3.kept vf3.cons Tryd.f3=some vf3:=by kernel_rfl
theorem sig3:(⟨vf3.cons,vf3.quiet⟩:Sig)=⟨[],false⟩:=by kernel_rfl
theorem chk3:aH8 sgN vsN (sgN 3) fi3 vf3=true:=by kernel_rfl
theorem tab8:mM Tryd.prog hh8 vf8.kept vf8.cons Tryd.f8=some vf8:=by kernel_rfl
theorem sig8:(⟨vf8.cons,vf8.quiet⟩:Sig)=⟨[],true⟩:=by kernel_rfl
theorem chk8:aH8 sgN vsN (sgN 8) fi8 vf8=true:=by kernel_rfl
theorem tab9:mM Tryd.prog hh9 vf9.kept vf9.cons Tryd.f9=some vf9:=by kernel_rfl
theorem sig9:(⟨vf9.cons,vf9.quiet⟩:Sig)=⟨[],false⟩:=by kernel_rfl
theorem chk9:aH8 sgN vsN (sgN 9) fi9 vf9=true:=by kernel_rfl
theorem tab11:mM Tryd.prog hh11 vf11.kept vf11.cons Tryd.f11=some vf11:=by kernel_rfl
theorem sig11:(⟨vf11.cons,vf11.quiet⟩:Sig)=⟨[],true⟩:=by kernel_rfl
theorem chk11:aH8 sgN vsN (sgN 11) fi11 vf11=true:=by kernel_rfl
theorem tab12:mM Tryd.prog hh12 vf12.kept vf12.cons Tryd.f12=some vf12:=by kernel_rfl
theorem sig12:(⟨vf12.cons,vf12.quiet⟩:Sig)=⟨[],true⟩:=by kernel_rfl
theorem chk12:aH8 sgN vsN (sgN 12) fi12 vf12=true:=by kernel_rfl
theorem tab13:mM Tryd.prog hh13 vf13.kept vf13.cons Tryd.f13=some vf13:=by kernel_rfl
theorem sig13:(⟨vf13.cons,vf13.quiet⟩:Sig)=⟨[],true⟩:=by kernel_rfl
theorem chk13:aH8 sgN vsN (sgN 13) fi13 vf13=true:=by kernel_rfl
theorem tab14:mM Tryd.prog hh14 vf14.kept vf14.cons Tryd.f14=some vf14:=by kernel_rfl
theorem sig14:(⟨vf14.cons,vf14.quiet⟩:Sig)=⟨[],true⟩:=by kernel_rfl
theorem chk14:aH8 sgN vsN (sgN 14) fi14 vf14=true:=by kernel_rfl
theorem tab16:mM Tryd.prog hh16 vf16.kept vf16.cons Tryd.f16=some vf16:=by kernel_rfl
theorem sig16:(⟨vf16.cons,vf16.quiet⟩:Sig)=⟨[],true⟩:=by kernel_rfl
theorem chk16:aH8 sgN vsN (sgN 16) fi16 vf16=true:=by kernel_rfl
theorem tab17:mM Tryd.prog hh17 vf17.kept vf17.cons Tryd.f17=some vf17:=by kernel_rfl
theorem sig17:(⟨vf17.cons,vf17.quiet⟩:Sig)=⟨[],true⟩:=by kernel_rfl
theorem chk17:aH8 sgN vsN (sgN 17) fi17 vf17=true:=by kernel_rfl
end Go.Proofs.YtajoneenakjifaaDoor
