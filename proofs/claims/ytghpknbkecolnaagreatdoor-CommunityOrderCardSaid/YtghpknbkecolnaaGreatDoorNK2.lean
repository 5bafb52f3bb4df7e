/- The code is the program's; what is checked of it. -/
import Derived.Test.YtghpknbkecolnaaGreatDoorNT
namespace Go.Proofs.YtghpknbkecolnaaGreatDoor
open Go.VM
set_option maxRecDepth 100000
theorem tab42:mM Tryz.prog hh42 vf42.kept vf42.cons Tryz.f42=some vf42:=by kernel_rfl
theorem sig42:(⟨vf42.cons,vf42.quiet⟩:Sig)=⟨[],true⟩:=by kernel_rfl
theorem chk42:aH8 sgN vsN (sgN 42) fi42 vf42=true:=by kernel_rfl
theorem tab43:mM Tryz.prog hh43 vf43.kept vf43.cons Tryz.f43=some vf43:=by kernel_rfl
theorem sig43:(⟨vf43.cons,vf43.quiet⟩:Sig)=⟨[],true⟩:=by kernel_rfl
theorem chk43:aH8 sgN vsN (sgN 43) fi43 vf43=true:=by kernel_rfl
theorem tab44:mM Tryz.prog hh44 vf44.kept vf44.cons Tryz.f44=some vf44:=by kernel_rfl
theorem sig44:(⟨vf44.cons,vf44.quiet⟩:Sig)=⟨[],true⟩:=by kernel_rfl
theorem chk44:aH8 sgN vsN (sgN 44) fi44 vf44=true:=by kernel_rfl
theorem tab49:mM Tryz.prog hh49 vf49.kept vf49.cons Tryz.f49=some vf49:=by kernel_rfl
theorem sig49:(⟨vf49.cons,vf49.quiet⟩:Sig)=⟨[],true⟩:=by kernel_rfl
theorem chk49:aH8 sgN vsN (sgN 49) fi49 vf49=true:=by kernel_rfl
theorem tab50:mM Tryz.prog hh50 vf50.kept vf50.cons Tryz.f50=some vf50:=by kernel_rfl
theorem sig50:(⟨vf50.cons,vf50.quiet⟩:Sig)=⟨[],true⟩:=by kernel_rfl
theorem chk50:aH8 sgN vsN (sgN 50) fi50 vf50=true:=by kernel_rfl
theorem tab51:mM Tryz.prog hh51 vf51.kept vf51.cons Tryz.f51=some vf51:=by kernel_rfl
theorem sig51:(⟨vf51.cons,vf51.quiet⟩:Sig)=⟨[],true⟩:=by kernel_rfl
theorem chk51:aH8 sgN vsN (sgN 51) fi51 vf51=true:=by kernel_rfl
theorem tab52:mM Tryz.prog hh52 vf52.kept vf52.cons Tryz.f52=some vf52:=by kernel_rfl
theorem sig52:(⟨vf52.cons,vf52.quiet⟩:Sig)=⟨[],true⟩:=by kernel_rfl
theorem chk52:aH8 sgN vsN (sgN 52) fi52 vf52=true:=by kernel_rfl
theorem tab67:mM Tryz.prog hh67 vf67.kept vf67.cons Tryz.f67=some vf67:=by kernel_rfl
theorem sig67:(⟨vf67.cons,vf67.quiet⟩:Sig)=⟨[],true⟩:=by kernel_rfl
theorem chk67:aH8 sgN vsN (sgN 67) fi67 vf67=true:=by kernel_rfl
theorem tab68:mM Tryz.prog hh68 vf68.kept vf68.cons Tryz.f68=some vf68:=by kernel_rfl
theorem sig68:(⟨vf68.cons,vf68.quiet⟩:Sig)=⟨[],true⟩:=by kernel_rfl
theorem chk68:aH8 sgN vsN (sgN 68) fi68 vf68=true:=by kernel_rfl
theorem tab69:mM Tryz.prog hh69 vf69.kept vf69.cons Tryz.f69=some vf69:=by kernel_rfl
theorem sig69:(⟨vf69.cons,vf69.quiet⟩:Sig)=⟨[],true⟩:=by kernel_rfl
theorem chk69:aH8 sgN vsN (sgN 69) fi69 vf69=true:=by kernel_rfl
theorem tab75:mM Tryz.prog hh75 vf75.kept vf75.cons Tryz.f75=some vf75:=by kernel_rfl
theorem sig75:(⟨vf75.cons,vf75.quiet⟩:Sig)=⟨[],true⟩:=by kernel_rfl
theorem chk75:aH8 sgN vsN (sgN 75) fi75 vf75=true:=by kernel_rfl
theorem tab94:mM Tryz.prog hh94 vf94.kept vf94.cons Tryz.f94=some vf94:=by kernel_rfl
theorem sig94:(⟨vf94.cons,vf94.quiet⟩:Sig)=⟨[],true⟩:=by kernel_rfl
theorem chk94:aH8 sgN vsN (sgN 94) fi94 vf94=true:=by kernel_rfl
theorem tab95:mM Tryz.prog hh95 vf95.kept vf95.cons Tryz.f95=some vf95:=by kernel_rfl
theorem sig95:(⟨vf95.cons,vf95.quiet⟩:Sig)=⟨[],true⟩:=by kernel_rfl
theorem chk95:aH8 sgN vsN (sgN 95) fi95 vf95=true:=by kernel_rfl
theorem tab96:mM Tryz.prog hh96 vf96.kept vf96.cons Tryz.f96=some vf96:=by kernel_rfl
theorem sig96:(⟨vf96.cons,vf96.quiet⟩:Sig)=⟨[],true⟩:=by kernel_rfl
theorem chk96:aH8 sgN vsN (sgN 96) fi96 vf96=true:=by kernel_rfl
end Go.Proofs.YtghpknbkecolnaaGreatDoor
