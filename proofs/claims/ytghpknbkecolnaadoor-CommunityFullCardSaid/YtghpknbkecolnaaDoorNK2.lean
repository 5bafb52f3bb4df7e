/- The code is the program's; what is checked of it. -/
import Derived.Test.YtghpknbkecolnaaDoorNT
namespace Go.Proofs.YtghpknbkecolnaaDoor
open Go.VM
set_option maxRecDepth 100000
theorem tab20:mM Tryd.prog hh20 vf20.kept vf20.cons Tryd.f20=some vf20:=by kernel_rfl
theorem sig20:(⟨vf20.cons,vf20.quiet⟩:Sig)=⟨[],true⟩:=by kernel_rfl
theorem chk20:aH8 sgN vsN (sgN 20) fi20 vf20=true:=by kernel_rfl
theorem tab21:mM Tryd.prog hh21 vf21.kept vf21.cons Tryd.f21=some vf21:=by kernel_rfl
theorem sig21:(⟨vf21.cons,vf21.quiet⟩:Sig)=⟨[],true⟩:=by kernel_rfl
theorem chk21:aH8 sgN vsN (sgN 21) fi21 vf21=true:=by kernel_rfl
theorem tab25:mM Tryd.prog hh25 vf25.kept vf25.cons Tryd.f25=some vf25:=by kernel_rfl
theorem sig25:(⟨vf25.cons,vf25.quiet⟩:Sig)=⟨[],true⟩:=by kernel_rfl
theorem chk25:aH8 sgN vsN (sgN 25) fi25 vf25=true:=by kernel_rfl
theorem tab26:mM Tryd.prog hh26 vf26.kept vf26.cons Tryd.f26=some vf26:=by kernel_rfl
theorem sig26:(⟨vf26.cons,vf26.quiet⟩:Sig)=⟨[],true⟩:=by kernel_rfl
theorem chk26:aH8 sgN vsN (sgN 26) fi26 vf26=true:=by kernel_rfl
theorem tab32:mM Tryd.prog hh32 vf32.kept vf32.cons Tryd.f32=some vf32:=by kernel_rfl
theorem sig32:(⟨vf32.cons,vf32.quiet⟩:Sig)=⟨[],true⟩:=by kernel_rfl
theorem chk32:aH8 sgN vsN (sgN 32) fi32 vf32=true:=by kernel_rfl
theorem tab33:mM Tryd.prog hh33 vf33.kept vf33.cons Tryd.f33=some vf33:=by kernel_rfl
theorem sig33:(⟨vf33.cons,vf33.quiet⟩:Sig)=⟨[],true⟩:=by kernel_rfl
theorem chk33:aH8 sgN vsN (sgN 33) fi33 vf33=true:=by kernel_rfl
theorem tab34:mM Tryd.prog hh34 vf34.kept vf34.cons Tryd.f34=some vf34:=by kernel_rfl
theorem sig34:(⟨vf34.cons,vf34.quiet⟩:Sig)=⟨[],true⟩:=by kernel_rfl
theorem chk34:aH8 sgN vsN (sgN 34) fi34 vf34=true:=by kernel_rfl
theorem tab35:mM Tryd.prog hh35 vf35.kept vf35.cons Tryd.f35=some vf35:=by kernel_rfl
theorem sig35:(⟨vf35.cons,vf35.quiet⟩:Sig)=⟨[],true⟩:=by kernel_rfl
theorem chk35:aH8 sgN vsN (sgN 35) fi35 vf35=true:=by kernel_rfl
theorem tab37:mM Tryd.prog hh37 vf37.kept vf37.cons Tryd.f37=some vf37:=by kernel_rfl
theorem sig37:(⟨vf37.cons,vf37.quiet⟩:Sig)=⟨[],true⟩:=by kernel_rfl
theorem chk37:aH8 sgN vsN (sgN 37) fi37 vf37=true:=by kernel_rfl
theorem tab38:mM Tryd.prog hh38 vf38.kept vf38.cons Tryd.f38=some vf38:=by kernel_rfl
theorem sig38:(⟨vf38.cons,vf38.quiet⟩:Sig)=⟨[],true⟩:=by kernel_rfl
theorem chk38:aH8 sgN vsN (sgN 38) fi38 vf38=true:=by kernel_rfl
theorem tab39:mM Tryd.prog hh39 vf39.kept vf39.cons Tryd.f39=some vf39:=by kernel_rfl
theorem sig39:(⟨vf39.cons,vf39.quiet⟩:Sig)=⟨[],true⟩:=by kernel_rfl
theorem chk39:aH8 sgN vsN (sgN 39) fi39 vf39=true:=by kernel_rfl
theorem tab42:mM Tryd.prog hh42 vf42.kept vf42.cons Tryd.f42=some vf42:=by kernel_rfl
theorem sig42:(⟨vf42.cons,vf42.quiet⟩:Sig)=⟨[],true⟩:=by kernel_rfl
theorem chk42:aH8 sgN vsN (sgN 42) fi42 vf42=true:=by kernel_rfl
end Go.Proofs.YtghpknbkecolnaaDoor
