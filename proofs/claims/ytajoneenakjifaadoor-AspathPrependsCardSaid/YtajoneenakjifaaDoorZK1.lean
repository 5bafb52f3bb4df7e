/- The code is the program's; what is checked of it. -/
import Derived.Test.YtajoneenakjifaaDoorZT
namespace Go.Proofs.YtajoneenakjifaaDoor.Z
open Go.VM
set_option maxRecDepth 100000
theorem tab11:mM Tryd.prog hh11 vf11.kept vf11.cons Tryd.f11=some vf11:=by kernel_rfl
theorem sig11:(⟨vf11.cons,vf11.quiet⟩:Sig)=⟨[],true⟩:=by kernel_rfl
theorem chk11:aH8 sgN vsN (sgN 11) fi11 vf11=true:=by kernel_rfl
theorem tab14:mM Tryd.prog hh14 vf14.kept vf14.cons Tryd.f14=some vf14:=by kernel_rfl
theorem sig14:(⟨vf14.cons,vf14.quiet⟩:Sig)=⟨[],true⟩:=by kernel_rfl
theorem chk14:aH8 sgN vsN (sgN 14) fi14 vf14=true:=by kernel_rfl
theorem tab17:mM Tryd.prog hh17 vf17.kept vf17.cons Tryd.f17=some vf17:=by kernel_rfl
theorem sig17:(⟨vf17.cons,vf17.quiet⟩:Sig)=⟨[],true⟩:=by kernel_rfl
theorem chk17:aH8 sgN vsN (sgN 17) fi17 vf17=true:=by kernel_rfl
theorem tab27:mM Tryd.prog hh27 vf27.kept vf27.cons Tryd.f27=some vf27:=by kernel_rfl
theorem sig27:(⟨vf27.cons,vf27.quiet⟩:Sig)=⟨[],true⟩:=by kernel_rfl
theorem chk27:aH8 sgN vsN (sgN 27) fi27 vf27=true:=by kernel_rfl
theorem tab36:mM Tryd.prog hh36 vf36.kept vf36.cons Tryd.f36=some vf36:=by kernel_rfl
theorem sig36:(⟨vf36.cons,vf36.quiet⟩:Sig)=⟨[],true⟩:=by kernel_rfl
theorem chk36:aH8 sgN vsN (sgN 36) fi36 vf36=true:=by kernel_rfl
theorem tab37:mM Tryd.prog hh37 vf37.kept vf37.cons Tryd.f37=some vf37:=by kernel_rfl
theorem sig37:(⟨vf37.cons,vf37.quiet⟩:Sig)=⟨[],true⟩:=by kernel_rfl
theorem chk37:aH8 sgN vsN (sgN 37) fi37 vf37=true:=by kernel_rfl
theorem tab40:mM Tryd.prog hh40 vf40.kept vf40.cons Tryd.f40=some vf40:=by kernel_rfl
theorem sig40:(⟨vf40.cons,vf40.quiet⟩:Sig)=⟨[],true⟩:=by kernel_rfl
theorem chk40:aH8 sgN vsN (sgN 40) fi40 vf40=true:=by kernel_rfl
end Go.Proofs.YtajoneenakjifaaDoor.Z
