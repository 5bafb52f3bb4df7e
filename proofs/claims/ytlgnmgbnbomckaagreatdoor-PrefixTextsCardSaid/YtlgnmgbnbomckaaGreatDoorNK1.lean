/- The code is the program's; what is checked of it. -/
import Derived.Test.YtlgnmgbnbomckaaGreatDoorNT
namespace Go.Proofs.YtlgnmgbnbomckaaGreatDoor
open Go.VM
set_option maxRecDepth 100000
theorem tab3:mM Tryz.prog hh3 vf3.kept vf3.cons Tryz.f3=some vf3:=by kernel_rfl
theorem sig3:(⟨vf3.cons,vf3.quiet⟩:Sig)=⟨[],false⟩:=by kernel_rfl
theorem chk3:aH8 sgN vsN (sgN 3) fi3 vf3=true:=by kernel_rfl
theorem tab5:mM Tryz.prog hh5 vf5.kept vf5.cons Tryz.f5=some vf5:=by kernel_rfl
theorem sig5:(⟨vf5.cons,vf5.quiet⟩:Sig)=⟨[],false⟩:=by kernel_rfl
theorem chk5:aH8 sgN vsN (sgN 5) fi5 vf5=true:=by kernel_rfl
theorem tab11:mM Tryz.prog hh11 vf11.kept vf11.cons Tryz.f11=some vf11:=by kernel_rfl
theorem sig11:(⟨vf11.cons,vf11.quiet⟩:Sig)=⟨[],true⟩:=by kernel_rfl
theorem chk11:aH8 sgN vsN (sgN 11) fi11 vf11=true:=by kernel_rfl
theorem tab12:mM Tryz.prog hh12 vf12.kept vf12.cons Tryz.f12=some vf12:=by kernel_rfl
theorem sig12:(⟨vf12.cons,vf12.quiet⟩:Sig)=⟨[],false⟩:=by kernel_rfl
theorem chk12:aH8 sgN vsN (sgN 12) fi12 vf12=true:=by kernel_rfl
theorem tab13:mM Tryz.prog hh13 vf13.kept vf13.cons Tryz.f13=some vf13:=by kernel_rfl
theorem sig13:(⟨vf13.cons,vf13.quiet⟩:Sig)=⟨[],true⟩:=by kernel_rfl
theorem chk13:aH8 sgN vsN (sgN 13) fi13 vf13=true:=by kernel_rfl
theorem tab14:mM Tryz.prog hh14 vf14.kept vf14.cons Tryz.f14=some vf14:=by kernel_rfl
theorem sig14:(⟨vf14.cons,vf14.quiet⟩:Sig)=⟨[],true⟩:=by kernel_rfl
theorem chk14:aH8 sgN vsN (sgN 14) fi14 vf14=true:=by kernel_rfl
theorem tab15:mM Tryz.prog hh15 vf15.kept vf15.cons Tryz.f15=some vf15:=by kernel_rfl
theorem sig15:(⟨vf15.cons,vf15.quiet⟩:Sig)=⟨[],true⟩:=by kernel_rfl
theorem chk15:aH8 sgN vsN (sgN 15) fi15 vf15=true:=by kernel_rfl
theorem tab16:mM Tryz.prog hh16 vf16.kept vf16.cons Tryz.f16=some vf16:=by kernel_rfl
theorem sig16:(⟨vf16.cons,vf16.quiet⟩:Sig)=⟨[],false⟩:=by kernel_rfl
theorem chk16:aH8 sgN vsN (sgN 16) fi16 vf16=true:=by kernel_rfl
theorem tab21:mM Tryz.prog hh21 vf21.kept vf21.cons Tryz.f21=some vf21:=by kernel_rfl
theorem sig21:(⟨vf21.cons,vf21.quiet⟩:Sig)=⟨[],true⟩:=by kernel_rfl
theorem chk21:aH8 sgN vsN (sgN 21) fi21 vf21=true:=by kernel_rfl
theorem tab22:mM Tryz.prog hh22 vf22.kept vf22.cons Tryz.f22=some vf22:=by kernel_rfl
theorem sig22:(⟨vf22.cons,vf22.quiet⟩:Sig)=⟨[],true⟩:=by kernel_rfl
theorem chk22:aH8 sgN vsN (sgN 22) fi22 vf22=true:=by kernel_rfl
theorem tab23:mM Tryz.prog hh23 vf23.kept vf23.cons Tryz.f23=some vf23:=by kernel_rfl
theorem sig23:(⟨vf23.cons,vf23.quiet⟩:Sig)=⟨[],true⟩:=by kernel_rfl
theorem chk23:aH8 sgN vsN (sgN 23) fi23 vf23=true:=by kernel_rfl
theorem tab24:mM Tryz.prog hh24 vf24.kept vf24.cons Tryz.f24=some vf24:=by kernel_rfl
theorem sig24:(⟨vf24.cons,vf24.quiet⟩:Sig)=⟨[],true⟩:=by kernel_rfl
theorem chk24:aH8 sgN vsN (sgN 24) fi24 vf24=true:=by kernel_rfl
theorem tab25:mM Tryz.prog hh25 vf25.kept vf25.cons Tryz.f25=some vf25:=by kernel_rfl
theorem sig25:(⟨vf25.cons,vf25.quiet⟩:Sig)=⟨[],true⟩:=by kernel_rfl
theorem chk25:aH8 sgN vsN (sgN 25) fi25 vf25=true:=by kernel_rfl
theorem tab26:mM Tryz.prog hh26 vf26.kept vf26.cons Tryz.f26=some vf26:=by kernel_rfl
theorem sig26:(⟨vf26.cons,vf26.quiet⟩:Sig)=⟨[],true⟩:=by kernel_rfl
theorem chk26:aH8 sgN vsN (sgN 26) fi26 vf26=true:=by kernel_rfl
theorem tab27:mM Tryz.prog hh27 vf27.kept vf27.cons Tryz.f27=some vf27:=by kernel_rfl
theorem sig27:(⟨vf27.cons,vf27.quiet⟩:Sig)=⟨[],false⟩:=by kernel_rfl
theorem chk27:aH8 sgN vsN (sgN 27) fi27 vf27=true:=by kernel_rfl
theorem tab34:mM Tryz.prog hh34 vf34.kept vf34.cons Tryz.f34=some vf34:=by kernel_rfl
theorem sig34:(⟨vf34.cons,vf34.quiet⟩:Sig)=⟨[],true⟩:=by kernel_rfl
theorem chk34:aH8 sgN vsN (sgN 34) fi34 vf34=true:=by kernel_rfl
theorem tab38:mM Tryz.prog hh38 vf38.kept vf38.cons Tryz.f38=some vf38:=by kernel_rfl
theorem sig38:(⟨vf38.cons,vf38.quiet⟩:Sig)=⟨[],true⟩:=by kernel_rfl
theorem chk38:aH8 sgN vsN (sgN 38) fi38 vf38=true:=by kernel_rfl
theorem tab39:mM Tryz.prog hh39 vf39.kept vf39.cons Tryz.f39=some vf39:=by kernel_rfl
theorem sig39:(⟨vf39.cons,vf39.quiet⟩:Sig)=⟨[],true⟩:=by kernel_rfl
theorem chk39:aH8 sgN vsN (sgN 39) fi39 vf39=true:=by kernel_rfl
theorem tab44:mM Tryz.prog hh44 vf44.kept vf44.cons Tryz.f44=some vf44:=by kernel_rfl
theorem sig44:(⟨vf44.cons,vf44.quiet⟩:Sig)=⟨[],true⟩:=by kernel_rfl
theorem chk44:aH8 sgN vsN (sgN 44) fi44 vf44=true:=by kernel_rfl
theorem tab45:mM Tryz.prog hh45 vf45.kept vf45.cons Tryz.f45=some vf45:=by kernel_rfl
theorem sig45:(⟨vf45.cons,vf45.quiet⟩:Sig)=⟨[],true⟩:=by kernel_rfl
theorem chk45:aH8 sgN vsN (sgN 45) fi45 vf45=true:=by kernel_rfl
theorem tab46:mM Tryz.prog hh46 vf46.kept vf46.cons Tryz.f46=some vf46:=by kernel_rfl
theorem sig46:(⟨vf46.cons,vf46.quiet⟩:Sig)=⟨[],true⟩:=by kernel_rfl
theorem chk46:aH8 sgN vsN (sgN 46) fi46 vf46=true:=by kernel_rfl
theorem tab47:mM Tryz.prog hh47 vf47.kept vf47.cons Tryz.f47=some vf47:=by kernel_rfl
theorem sig47:(⟨vf47.cons,vf47.quiet⟩:Sig)=⟨[],true⟩:=by kernel_rfl
theorem chk47:aH8 sgN vsN (sgN 47) fi47 vf47=true:=by kernel_rfl
theorem tab49:mM Tryz.prog hh49 vf49.kept vf49.cons Tryz.f49=some vf49:=by kernel_rfl
theorem sig49:(⟨vf49.cons,vf49.quiet⟩:Sig)=⟨[],true⟩:=by kernel_rfl
theorem chk49:aH8 sgN vsN (sgN 49) fi49 vf49=true:=by kernel_rfl
theorem tab50:mM Tryz.prog hh50 vf50.kept vf50.cons Tryz.f50=some vf50:=by kernel_rfl
theorem sig50:(⟨vf50.cons,vf50.quiet⟩:Sig)=⟨[],true⟩:=by kernel_rfl
theorem chk50:aH8 sgN vsN (sgN 50) fi50 vf50=true:=by kernel_rfl
end Go.Proofs.YtlgnmgbnbomckaaGreatDoor
