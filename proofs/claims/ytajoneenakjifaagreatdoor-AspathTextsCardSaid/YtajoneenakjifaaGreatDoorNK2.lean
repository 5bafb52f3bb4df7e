/- The code is the program's; what is checked of it. -/
import Derived.Test.YtajoneenakjifaaGreatDoorNT
namespace Go.Proofs.YtajoneenakjifaaGreatDoor
open Go.VM
set_option maxRecDepth 100000
theorem tab15:mM Tryz.prog hh15 vf15.kept vf15.cons Tryz.f15=some vf15:=by kernel_rfl
theorem sig15:(⟨vf15.cons,vf15.quiet⟩:Sig)=⟨[],true⟩:=by kernel_rfl
theorem chk15:aH8 sgN vsN (sgN 15) fi15 vf15=true:=by kernel_rfl
theorem tab16:mM Tryz.prog hh16 vf16.kept vf16.cons Tryz.f16=some vf16:=by kernel_rfl
theorem sig16:(⟨vf16.cons,vf16.quiet⟩:Sig)=⟨[],true⟩:=by kernel_rfl
theorem chk16:aH8 sgN vsN (sgN 16) fi16 vf16=true:=by kernel_rfl
theorem tab17:mM Tryz.prog hh17 vf17.kept vf17.cons Tryz.f17=some vf17:=by kernel_rfl
theorem sig17:(⟨vf17.cons,vf17.quiet⟩:Sig)=⟨[],false⟩:=by kernel_rfl
theorem chk17:aH8 sgN vsN (sgN 17) fi17 vf17=true:=by kernel_rfl
theorem tab18:mM Tryz.prog hh18 vf18.kept vf18.cons Tryz.f18=some vf18:=by kernel_rfl
theorem sig18:(⟨vf18.cons,vf18.quiet⟩:Sig)=⟨[],false⟩:=by kernel_rfl
theorem chk18:aH8 sgN vsN (sgN 18) fi18 vf18=true:=by kernel_rfl
theorem tab19:mM Tryz.prog hh19 vf19.kept vf19.cons Tryz.f19=some vf19:=by kernel_rfl
theorem sig19:(⟨vf19.cons,vf19.quiet⟩:Sig)=⟨[],true⟩:=by kernel_rfl
theorem chk19:aH8 sgN vsN (sgN 19) fi19 vf19=true:=by kernel_rfl
theorem tab20:mM Tryz.prog hh20 vf20.kept vf20.cons Tryz.f20=some vf20:=by kernel_rfl
theorem sig20:(⟨vf20.cons,vf20.quiet⟩:Sig)=⟨[],true⟩:=by kernel_rfl
theorem chk20:aH8 sgN vsN (sgN 20) fi20 vf20=true:=by kernel_rfl
theorem tab22:mM Tryz.prog hh22 vf22.kept vf22.cons Tryz.f22=some vf22:=by kernel_rfl
theorem sig22:(⟨vf22.cons,vf22.quiet⟩:Sig)=⟨[],true⟩:=by kernel_rfl
theorem chk22:aH8 sgN vsN (sgN 22) fi22 vf22=true:=by kernel_rfl
theorem tab23:mM Tryz.prog hh23 vf23.kept vf23.cons Tryz.f23=some vf23:=by kernel_rfl
theorem sig23:(⟨vf23.cons,vf23.quiet⟩:Sig)=⟨[],true⟩:=by kernel_rfl
theorem chk23:aH8 sgN vsN (sgN 23) fi23 vf23=true:=by kernel_rfl
theorem tab24:mM Tryz.prog hh24 vf24.kept vf24.cons Tryz.f24=some vf24:=by kernel_rfl
theorem sig24:(⟨vf24.cons,vf24.quiet⟩:Sig)=⟨[],true⟩:=by kernel_rfl
theorem chk24:aH8 sgN vsN (sgN 24) fi24 vf24=true:=by kernel_rfl
theorem tab35:mM Tryz.prog hh35 vf35.kept vf35.cons Tryz.f35=some vf35:=by kernel_rfl
theorem sig35:(⟨vf35.cons,vf35.quiet⟩:Sig)=⟨[],true⟩:=by kernel_rfl
theorem chk35:aH8 sgN vsN (sgN 35) fi35 vf35=true:=by kernel_rfl
end Go.Proofs.YtajoneenakjifaaGreatDoor
