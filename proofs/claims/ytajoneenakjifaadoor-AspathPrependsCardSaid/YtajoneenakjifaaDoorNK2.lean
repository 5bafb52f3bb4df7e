/- The code is the program's; what is checked of it. -/
import Derived.Test.YtajoneenakjifaaDoorNT
namespace Go.Proofs.YtajoneenakjifaaDoor
open Go.VM
set_option maxRecDepth 100000
theorem tab22:mM Tryd.prog hh22 vf22.kept vf22.cons Tryd.f22=some vf22:=by kernel_rfl
theorem sig22:(⟨vf22.cons,vf22.quiet⟩:Sig)=⟨[],true⟩:=by kernel_rfl
theorem chk22:aH8 sgN vsN (sgN 22) fi22 vf22=true:=by kernel_rfl
theorem tab24:mM Tryd.prog hh24 vf24.kept vf24.cons Tryd.f24=some vf24:=by kernel_rfl
theorem sig24:(⟨vf24.cons,vf24.quiet⟩:Sig)=⟨[],true⟩:=by kernel_rfl
theorem chk24:aH8 sgN vsN (sgN 24) fi24 vf24=true:=by kernel_rfl
theorem tab26:mM Tryd.prog hh26 vf26.kept vf26.cons Tryd.f26=some vf26:=by kernel_rfl
theorem sig26:(⟨vf26.cons,vf26.quiet⟩:Sig)=⟨[],true⟩:=by kernel_rfl
theorem chk26:aH8 sgN vsN (sgN 26) fi26 vf26=true:=by kernel_rfl
theorem tab27:mM Tryd.prog hh27 vf27.kept vf27.cons Tryd.f27=some vf27:=by kernel_rfl
theorem sig27:(⟨vf27.cons,vf27.quiet⟩:Sig)=⟨[],true⟩:=by kernel_rfl
theorem chk27:aH8 sgN vsN (sgN 27) fi27 vf27=true:=by kernel_rfl
theorem tab32:mM Tryd.prog hh32 vf32.kept vf32.cons Tryd.f32=some vf32:=by kernel_rfl
theorem sig32:(⟨vf32.cons,vf32.quiet⟩:Sig)=⟨[],true⟩:=by kernel_rfl
theorem chk32:aH8 sgN vsN (sgN 32) fi32 vf32=true:=by kernel_rfl
theorem tab33:mM Tryd.prog hh33 vf33.kept vf33.cons Tryd.f33=some vf33:=by kernel_rfl
theorem sig33:(⟨vf33.cons,vf33.quiet⟩:Sig)=⟨[],false⟩:=by kernel_rfl
theorem chk33:aH8 sgN vsN (sgN 33) fi33 vf33=true:=by kernel_rfl
theorem tab34:mM Tryd.prog hh34 vf34.kept vf34.cons Tryd.f34=some vf34:=by kernel_rfl
theorem sig34:(⟨vf34.cons,vf34.quiet⟩:Sig)=⟨[],false⟩:=by kernel_rfl
theorem chk34:aH8 sgN vsN (sgN 34) fi34 vf34=true:=by kernel_rfl
theorem tab37:mM Tryd.prog hh37 vf37.kept vf37.cons Tryd.f37=some vf37:=by kernel_rfl
theorem sig37:(⟨vf37.cons,vf37.quiet⟩:Sig)=⟨[],true⟩:=by kernel_rfl
theorem chk37:aH8 sgN vsN (sgN 37) fi37 vf37=true:=by kernel_rfl
theorem tab40:mM Tryd.prog hh40 vf40.kept vf40.cons Tryd.f40=some vf40:=by kernel_rfl
theorem sig40:(⟨vf40.cons,vf40.quiet⟩:Sig)=⟨[],true⟩:=by kernel_rfl
theorem chk40:aH8 sgN vsN (sgN 40) fi40 vf40=true:=by kernel_rfl
theorem tab41:mM Tryd.prog hh41 vf41.kept vf41.cons Tryd.f41=some vf41:=by kernel_rfl
theorem sig41:(⟨vf41.cons,vf41.quiet⟩:Sig)=⟨[],true⟩:=by kernel_rfl
theorem chk41:aH8 sgN vsN (sgN 41) fi41 vf41=true:=by kernel_rfl
end Go.Proofs.YtajoneenakjifaaDoor
