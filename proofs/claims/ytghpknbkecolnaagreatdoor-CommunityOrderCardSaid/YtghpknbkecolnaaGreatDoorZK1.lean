/- The code is the program's; what is checked of it. -/
import Derived.Test.YtghpknbkecolnaaGreatDoorZT
namespace Go.Proofs.YtghpknbkecolnaaGreatDoor.Z
open Go.VM
set_option maxRecDepth 100000
theorem tab44:mM Tryz.prog hh44 vf44.kept vf44.cons Tryz.f44=some vf44:=by kernel_rfl
theorem sig44:(⟨vf44.cons,vf44.quiet⟩:Sig)=⟨[],true⟩:=by kernel_rfl
theorem chk44:aH8 sgN vsN (sgN 44) fi44 vf44=true:=by kernel_rfl
theorem tab52:mM Tryz.prog hh52 vf52.kept vf52.cons Tryz.f52=some vf52:=by kernel_rfl
theorem sig52:(⟨vf52.cons,vf52.quiet⟩:Sig)=⟨[],true⟩:=by kernel_rfl
theorem chk52:aH8 sgN vsN (sgN 52) fi52 vf52=true:=by kernel_rfl
theorem tab68:mM Tryz.prog hh68 vf68.kept vf68.cons Tryz.f68=some vf68:=by kernel_rfl
theorem sig68:(⟨vf68.cons,vf68.quiet⟩:Sig)=⟨[],true⟩:=by kernel_rfl
theorem chk68:aH8 sgN vsN (sgN 68) fi68 vf68=true:=by kernel_rfl
theorem tab69:mM Tryz.prog hh69 vf69.kept vf69.cons Tryz.f69=some vf69:=by kernel_rfl
theorem sig69:(⟨vf69.cons,vf69.quiet⟩:Sig)=⟨[],true⟩:=by kernel_rfl
theorem chk69:aH8 sgN vsN (sgN 69) fi69 vf69=true:=by kernel_rfl
theorem tab70:mM Tryz.prog hh70 vf70.kept vf70.cons Tryz.f70=some vf70:=by kernel_rfl
theorem sig70:(⟨vf70.cons,vf70.quiet⟩:Sig)=⟨[],true⟩:=by kernel_rfl
theorem chk70:aH8 sgN vsN (sgN 70) fi70 vf70=true:=by kernel_rfl
theorem tab76:mM Tryz.prog hh76 vf76.kept vf76.cons Tryz.f76=some vf76:=by kernel_rfl
theorem sig76:(⟨vf76.cons,vf76.quiet⟩:Sig)=⟨[],true⟩:=by kernel_rfl
theorem chk76:aH8 sgN vsN (sgN 76) fi76 vf76=true:=by kernel_rfl
theorem tab96:mM Tryz.prog hh96 vf96.kept vf96.cons Tryz.f96=some vf96:=by kernel_rfl
theorem sig96:(⟨vf96.cons,vf96.quiet⟩:Sig)=⟨[],true⟩:=by kernel_rfl
theorem chk96:aH8 sgN vsN (sgN 96) fi96 vf96=true:=by kernel_rfl
end Go.Proofs.YtghpknbkecolnaaGreatDoor.Z
