/- The code is the program's; what is checked of it. -/
import Derived.Test.YtajoneenakjifaaGreatDoorZT
namespace Go.Proofs.YtajoneenakjifaaGreatDoor.Z
open Go.VM
set_option maxRecDepth 100000
theorem tab8:mM Tryz.prog hh8 vf8.kept vf8.cons Tryz.f8=some vf8:=by kernel_rfl
theorem sig8:(⟨vf8.cons,vf8.quiet⟩:Sig)=⟨[],true⟩:=by kernel_rfl
theorem chk8:aH8 sgN vsN (sgN 8) fi8 vf8=true:=by kernel_rfl
theorem tab9:mM Tryz.prog hh9 vf9.kept vf9.cons Tryz.f9=some vf9:=by kernel_rfl
theorem sig9:(⟨vf9.cons,vf9.quiet⟩:Sig)=⟨[],true⟩:=by kernel_rfl
theorem chk9:aH8 sgN vsN (sgN 9) fi9 vf9=true:=by kernel_rfl
theorem tab19:mM Tryz.prog hh19 vf19.kept vf19.cons Tryz.f19=some vf19:=by kernel_rfl
theorem sig19:(⟨vf19.cons,vf19.quiet⟩:Sig)=⟨[],true⟩:=by kernel_rfl
theorem chk19:aH8 sgN vsN (sgN 19) fi19 vf19=true:=by kernel_rfl
theorem tab20:mM Tryz.prog hh20 vf20.kept vf20.cons Tryz.f20=some vf20:=by kernel_rfl
theorem sig20:(⟨vf20.cons,vf20.quiet⟩:Sig)=⟨[],true⟩:=by kernel_rfl
theorem chk20:aH8 sgN vsN (sgN 20) fi20 vf20=true:=by kernel_rfl
theorem tab22:mM Tryz.prog hh22 vf22.kept vf22.cons Tryz.f22=some vf22:=by kernel_rfl
theorem sig22:(⟨vf22.cons,vf22.quiet⟩:Sig)=⟨[],true⟩:=by kernel_rfl
theorem chk22:aH8 sgN vsN (sgN 22) fi22 vf22=true:=by kernel_rfl
theorem tab23:mM Tryz.prog hh23 vf23.kept vf23.cons Tryz.f23=some vf23:=by kernel_rfl
theorem sig23:(⟨vf23.cons,vf23.quiet⟩:Sig)=⟨[],true⟩:=by kernel_rfl
theorem chk23:aH8 sgN vsN (sgN 23) fi23 vf23=true:=by kernel_rfl
theorem tab26:mM Tryz.prog hh26 vf26.kept vf26.cons Tryz.f26=some vf26:=by kernel_rfl
theorem sig26:(⟨vf26.cons,vf26.quiet⟩:Sig)=⟨[],true⟩:=by kernel_rfl
theorem chk26:aH8 sgN vsN (sgN 26) fi26 vf26=true:=by kernel_rfl
theorem tab30:mM Tryz.prog hh30 vf30.kept vf30.cons Tryz.f30=some vf30:=by kernel_rfl
theorem sig30:(⟨vf30.cons,vf30.quiet⟩:Sig)=⟨[],true⟩:=by kernel_rfl
theorem chk30:aH8 sgN vsN (sgN 30) fi30 vf30=true:=by kernel_rfl
theorem tab35:mM Tryz.prog hh35 vf35.kept vf35.cons Tryz.f35=some vf35:=by kernel_rfl
theorem sig35:(⟨vf35.cons,vf35.quiet⟩:Sig)=⟨[],true⟩:=by kernel_rfl
theorem chk35:aH8 sgN vsN (sgN 35) fi35 vf35=true:=by kernel_rfl
end Go.Proofs.YtajoneenakjifaaGreatDoor.Z
