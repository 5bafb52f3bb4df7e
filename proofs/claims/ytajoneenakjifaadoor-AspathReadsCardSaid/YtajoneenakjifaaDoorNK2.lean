/- The code is the program's; what is checked of it. -/
import Derived.Test.YtajoneenakjifaaDoorNT
namespace Go.Proofs.YtajoneenakjifaaDoor
open Go.VM
set_option maxRecDepth 100000
theorem tab24:mM Tryd.prog hh24 vf24.kept vf24.cons Tryd.f24=some vf24:=by kernel_rfl
theorem sig24:(⟨vf24.cons,vf24.quiet⟩:Sig)=⟨[],true⟩:=by kernel_rfl
theorem chk24:aH8 sgN vsN (sgN 24) fi24 vf24=true:=by kernel_rfl
theorem tab25:mM Tryd.prog hh25 vf25.kept vf25.cons Tryd.f25=some vf25:=by kernel_rfl
theorem sig25:(⟨vf25.cons,vf25.quiet⟩:Sig)=⟨[],true⟩:=by kernel_rfl
theorem chk25:aH8 sgN vsN (sgN 25) fi25 vf25=true:=by kernel_rfl
theorem tab26:mM Tryd.prog hh26 vf26.kept vf26.cons Tryd.f26=some vf26:=by kernel_rfl
theorem sig26:(⟨vf26.cons,vf26.quiet⟩:Sig)=⟨[],true⟩:=by kernel_rfl
theorem chk26:aH8 sgN vsN (sgN 26) fi26 vf26=true:=by kernel_rfl
theorem tab27:mM Tryd.prog hh27 vf27.kept vf27.cons Tryd.f27=some vf27:=by kernel_rfl
theorem sig27:(⟨vf27.cons,vf27.quiet⟩:Sig)=⟨[],true⟩:=by kernel_rfl
theorem chk27:aH8 sgN vsN (sgN 27) fi27 vf27=true:=by kernel_rfl
theorem tab28:mM Tryd.prog hh28 vf28.kept vf28.cons Tryd.f28=some vf28:=by kernel_rfl
theorem sig28:(⟨vf28.cons,vf28.quiet⟩:Sig)=⟨[],true⟩:=by kernel_rfl
theorem chk28:aH8 sgN vsN (sgN 28) fi28 vf28=true:=by kernel_rfl
theorem tab29:mM Tryd.prog hh29 vf29.kept vf29.cons Tryd.f29=some vf29:=by kernel_rfl
theorem sig29:(⟨vf29.cons,vf29.quiet⟩:Sig)=⟨[],true⟩:=by kernel_rfl
theorem chk29:aH8 sgN vsN (sgN 29) fi29 vf29=true:=by kernel_rfl
theorem tab30:mM Tryd.prog hh30 vf30.kept vf30.cons Tryd.f30=some vf30:=by kernel_rfl
theorem sig30:(⟨vf30.cons,vf30.quiet⟩:Sig)=⟨[],true⟩:=by kernel_rfl
theorem chk30:aH8 sgN vsN (sgN 30) fi30 vf30=true:=by kernel_rfl
theorem tab33:mM Tryd.prog hh33 vf33.kept vf33.cons Tryd.f33=some vf33:=by kernel_rfl
theorem sig33:(⟨vf33.cons,vf33.quiet⟩:Sig)=⟨[],false⟩:=by kernel_rfl
theorem chk33:aH8 sgN vsN (sgN 33) fi33 vf33=true:=by kernel_rfl
theorem tab34:mM Tryd.prog hh34 vf34.kept vf34.cons Tryd.f34=some vf34:=by kernel_rfl
theorem sig34:(⟨vf34.cons,vf34.quiet⟩:Sig)=⟨[],false⟩:=by kernel_rfl
theorem chk34:aH8 sgN vsN (sgN 34) fi34 vf34=true:=by kernel_rfl
theorem tab37:mM Tryd.prog hh37 vf37.kept vf37.cons Tryd.f37=some vf37:=by kernel_rfl
theorem sig37:(⟨vf37.cons,vf37.quiet⟩:Sig)=⟨[],true⟩:=by kernel_rfl
theorem chk37:aH8 sgN vsN (sgN 37) fi37 vf37=true:=by kernel_rfl
theorem tab39:mM Tryd.prog hh39 vf39.kept vf39.cons Tryd.f39=some vf39:=by kernel_rfl
theorem sig39:(⟨vf39.cons,vf39.quiet⟩:Sig)=⟨[],true⟩:=by kernel_rfl
theorem chk39:aH8 sgN vsN (sgN 39) fi39 vf39=true:=by kernel_rfl
theorem tab40:mM Tryd.prog hh40 vf40.kept vf40.cons Tryd.f40=some vf40:=by kernel_rfl
theorem sig40:(⟨vf40.cons,vf40.quiet⟩:Sig)=⟨[],true⟩:=by kernel_rfl
theorem chk40:aH8 sgN vsN (sgN 40) fi40 vf40=true:=by kernel_rfl
theorem tab53:mM Tryd.prog hh53 vf53.kept vf53.cons Tryd.f53=some vf53:=by kernel_rfl
theorem sig53:(⟨vf53.cons,vf53.quiet⟩:Sig)=⟨[],true⟩:=by kernel_rfl
theorem chk53:aH8 sgN vsN (sgN 53) fi53 vf53=true:=by kernel_rfl
end Go.Proofs.YtajoneenakjifaaDoor
