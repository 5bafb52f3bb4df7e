/- The code is the program's; what is checked of it. -/
import Derived.Test.YtghpknbkecolnaaDoorZT
namespace Go.Proofs.YtghpknbkecolnaaDoor.Z
open Go.VM
set_option maxRecDepth 100000
theorem tab13:mM Tryd.prog hh13 vf13.kept vf13.cons Tryd.f13=some vf13:=by kernel_rfl
theorem sig13:(⟨vf13.cons,vf13.quiet⟩:Sig)=⟨[],true⟩:=by kernel_rfl
theorem chk13:aH8 sgN vsN (sgN 13) fi13 vf13=true:=by kernel_rfl
theorem tab22:mM Tryd.prog hh22 vf22.kept vf22.cons Tryd.f22=some vf22:=by kernel_rfl
theorem sig22:(⟨vf22.cons,vf22.quiet⟩:Sig)=⟨[],true⟩:=by kernel_rfl
theorem chk22:aH8 sgN vsN (sgN 22) fi22 vf22=true:=by kernel_rfl
theorem tab25:mM Tryd.prog hh25 vf25.kept vf25.cons Tryd.f25=some vf25:=by kernel_rfl
theorem sig25:(⟨vf25.cons,vf25.quiet⟩:Sig)=⟨[],true⟩:=by kernel_rfl
theorem chk25:aH8 sgN vsN (sgN 25) fi25 vf25=true:=by kernel_rfl
theorem tab26:mM Tryd.prog hh26 vf26.kept vf26.cons Tryd.f26=some vf26:=by kernel_rfl
theorem sig26:(⟨vf26.cons,vf26.quiet⟩:Sig)=⟨[],true⟩:=by kernel_rfl
theorem chk26:aH8 sgN vsN (sgN 26) fi26 vf26=true:=by kernel_rfl
theorem tab42:mM Tryd.prog hh42 vf42.kept vf42.cons Tryd.f42=some vf42:=by kernel_rfl
theorem sig42:(⟨vf42.cons,vf42.quiet⟩:Sig)=⟨[],true⟩:=by kernel_rfl
theorem chk42:aH8 sgN vsN (sgN 42) fi42 vf42=true:=by kernel_rfl
end Go.Proofs.YtghpknbkecolnaaDoor.Z
