/- The code is the program's; what is checked of it. -/
import Derived.Test.YtgfmodmeimhhpaaDoorZT
namespace Go.Proofs.YtgfmodmeimhhpaaDoor.Z
open Go.VM
set_option maxRecDepth 100000
theorem tab9:mM Tryd.prog hh9 vf9.kept vf9.cons Tryd.f9=some vf9:=by kernel_rfl
theorem sig9:(⟨vf9.cons,vf9.quiet⟩:Sig)=⟨[],true⟩:=by kernel_rfl
theorem chk9:aH8 sgN vsN (sgN 9) fi9 vf9=true:=by kernel_rfl
theorem tab13:mM Tryd.prog hh13 vf13.kept vf13.cons Tryd.f13=some vf13:=by kernel_rfl
theorem sig13:(⟨vf13.cons,vf13.quiet⟩:Sig)=⟨[],false⟩:=by kernel_rfl
theorem chk13:aH8 sgN vsN (sgN 13) fi13 vf13=true:=by kernel_rfl
theorem tab30:mM Tryd.prog hh30 vf30.kept vf30.cons Tryd.f30=some vf30:=by kernel_rfl
theorem sig30:(⟨vf30.cons,vf30.quiet⟩:Sig)=⟨[],true⟩:=by kernel_rfl
theorem chk30:aH8 sgN vsN (sgN 30) fi30 vf30=true:=by kernel_rfl
theorem tab31:mM Tryd.prog hh31 vf31.kept vf31.cons Tryd.f31=some vf31:=by kernel_rfl
theorem sig31:(⟨vf31.cons,vf31.quiet⟩:Sig)=⟨[],true⟩:=by kernel_rfl
theorem chk31:aH8 sgN vsN (sgN 31) fi31 vf31=true:=by kernel_rfl
theorem tab32:mM Tryd.prog hh32 vf32.kept vf32.cons Tryd.f32=some vf32:=by kernel_rfl
theorem sig32:(⟨vf32.cons,vf32.quiet⟩:Sig)=⟨[],false⟩:=by kernel_rfl
theorem chk32:aH8 sgN vsN (sgN 32) fi32 vf32=true:=by kernel_rfl
theorem tab33:mM Tryd.prog hh33 vf33.kept vf33.cons Tryd.f33=some vf33:=by kernel_rfl
theorem sig33:(⟨vf33.cons,vf33.quiet⟩:Sig)=⟨[],false⟩:=by kernel_rfl
theorem chk33:aH8 sgN vsN (sgN 33) fi33 vf33=true:=by kernel_rfl
theorem tab38:mM Tryd.prog hh38 vf38.kept vf38.cons Tryd.f38=some vf38:=by kernel_rfl
theorem sig38:(⟨vf38.cons,vf38.quiet⟩:Sig)=⟨[],true⟩:=by kernel_rfl
theorem chk38:aH8 sgN vsN (sgN 38) fi38 vf38=true:=by kernel_rfl
theorem tab39:mM Tryd.prog hh39 vf39.kept vf39.cons Tryd.f39=some vf39:=by kernel_rfl
theorem sig39:(⟨vf39.cons,vf39.quiet⟩:Sig)=⟨[],true⟩:=by kernel_rfl
theorem chk39:aH8 sgN vsN (sgN 39) fi39 vf39=true:=by kernel_rfl
theorem tab48:mM Tryd.prog hh48 vf48.kept vf48.cons Tryd.f48=some vf48:=by kernel_rfl
theorem sig48:(⟨vf48.cons,vf48.quiet⟩:Sig)=⟨[],true⟩:=by kernel_rfl
theorem chk48:aH8 sgN vsN (sgN 48) fi48 vf48=true:=by kernel_rfl
theorem tab52:mM Tryd.prog hh52 vf52.kept vf52.cons Tryd.f52=some vf52:=by kernel_rfl
theorem sig52:(⟨vf52.cons,vf52.quiet⟩:Sig)=⟨[],true⟩:=by kernel_rfl
theorem chk52:aH8 sgN vsN (sgN 52) fi52 vf52=true:=by kernel_rfl
theorem tab78:mM Tryd.prog hh78 vf78.kept vf78.cons Tryd.f78=some vf78:=by kernel_rfl
theorem sig78:(⟨vf78.cons,vf78.quiet⟩:Sig)=⟨[],true⟩:=by kernel_rfl
theorem chk78:aH8 sgN vsN (sgN 78) fi78 vf78=true:=by kernel_rfl
theorem tab79:mM Tryd.prog hh79 vf79.kept vf79.cons Tryd.f79=some vf79:=by kernel_rfl
theorem sig79:(⟨vf79.cons,vf79.quiet⟩:Sig)=⟨[],true⟩:=by kernel_rfl
theorem chk79:aH8 sgN vsN (sgN 79) fi79 vf79=true:=by kernel_rfl
theorem tab80:mM Tryd.prog hh80 vf80.kept vf80.cons Tryd.f80=some vf80:=by kernel_rfl
theorem sig80:(⟨vf80.cons,vf80.quiet⟩:Sig)=⟨[],true⟩:=by kernel_rfl
theorem chk80:aH8 sgN vsN (sgN 80) fi80 vf80=true:=by kernel_rfl
theorem tab81:mM Tryd.prog hh81 vf81.kept vf81.cons Tryd.f81=some vf81:=by kernel_rfl
theorem sig81:(⟨vf81.cons,vf81.quiet⟩:Sig)=⟨[],true⟩:=by kernel_rfl
theorem chk81:aH8 sgN vsN (sgN 81) fi81 vf81=true:=by kernel_rfl
end Go.Proofs.YtgfmodmeimhhpaaDoor.Z
