/- The code is the program's; what is checked of it. -/
import Derived.Test.YtghpknbkecolnaaGreatDoorNT
namespace Go.Proofs.YtghpknbkecolnaaGreatDoor
open Go.VM
set_option maxRecDepth 100000
theorem tab6:mM Tryz.prog hh6 vf6.kept vf6.cons Tryz.f6=some vf6:=by kernel_rfl
theorem sig6:(⟨vf6.cons,vf6.quiet⟩:Sig)=⟨[],true⟩:=by kernel_rfl
theorem chk6:aH8 sgN vsN (sgN 6) fi6 vf6=true:=by kernel_rfl
theorem tab7:mM Tryz.prog hh7 vf7.kept vf7.cons Tryz.f7=some vf7:=by kernel_rfl
theorem sig7:(⟨vf7.cons,vf7.quiet⟩:Sig)=⟨[],true⟩:=by kernel_rfl
theorem chk7:aH8 sgN vsN (sgN 7) fi7 vf7=true:=by kernel_rfl
theorem tab11:mM Tryz.prog hh11 vf11.kept vf11.cons Tryz.f11=some vf11:=by kernel_rfl
theorem sig11:(⟨vf11.cons,vf11.quiet⟩:Sig)=⟨[],true⟩:=by kernel_rfl
theorem chk11:aH8 sgN vsN (sgN 11) fi11 vf11=true:=by kernel_rfl
theorem tab13:mM Tryz.prog hh13 vf13.kept vf13.cons Tryz.f13=some vf13:=by kernel_rfl
theorem sig13:(⟨vf13.cons,vf13.quiet⟩:Sig)=⟨[],true⟩:=by kernel_rfl
theorem chk13:aH8 sgN vsN (sgN 13) fi13 vf13=true:=by kernel_rfl
theorem tab15:mM Tryz.prog hh15 vf15.kept vf15.cons Tryz.f15=some vf15:=by kernel_rfl
theorem sig15:(⟨vf15.cons,vf15.quiet⟩:Sig)=⟨[],true⟩:=by kernel_rfl
theorem chk15:aH8 sgN vsN (sgN 15) fi15 vf15=true:=by kernel_rfl
theorem tab16:mM Tryz.prog hh16 vf16.kept vf16.cons Tryz.f16=some vf16:=by kernel_rfl
theorem sig16:(⟨vf16.cons,vf16.quiet⟩:Sig)=⟨[],true⟩:=by kernel_rfl
theorem chk16:aH8 sgN vsN (sgN 16) fi16 vf16=true:=by kernel_rfl
theorem tab17:mM Tryz.prog hh17 vf17.kept vf17.cons Tryz.f17=some vf17:=by kernel_rfl
theorem sig17:(⟨vf17.cons,vf17.quiet⟩:Sig)=⟨[],true⟩:=by kernel_rfl
theorem chk17:aH8 sgN vsN (sgN 17) fi17 vf17=true:=by kernel_rfl
theorem tab18:mM Tryz.prog hh18 vf18.kept vf18.cons Tryz.f18=some vf18:=by kernel_rfl
theorem sig18:(⟨vf18.cons,vf18.quiet⟩:Sig)=⟨[],true⟩:=by kernel_rfl
theorem chk18:aH8 sgN vsN (sgN 18) fi18 vf18=true:=by kernel_rfl
theorem tab20:mM Tryz.prog hh20 vf20.kept vf20.cons Tryz.f20=some vf20:=by kernel_rfl
theorem sig20:(⟨vf20.cons,vf20.quiet⟩:Sig)=⟨[],true⟩:=by kernel_rfl
theorem chk20:aH8 sgN vsN (sgN 20) fi20 vf20=true:=by kernel_rfl
theorem tab22:mM Tryz.prog hh22 vf22.kept vf22.cons Tryz.f22=some vf22:=by kernel_rfl
theorem sig22:(⟨vf22.cons,vf22.quiet⟩:Sig)=⟨[],true⟩:=by kernel_rfl
theorem chk22:aH8 sgN vsN (sgN 22) fi22 vf22=true:=by kernel_rfl
theorem tab24:mM Tryz.prog hh24 vf24.kept vf24.cons Tryz.f24=some vf24:=by kernel_rfl
theorem sig24:(⟨vf24.cons,vf24.quiet⟩:Sig)=⟨[],true⟩:=by kernel_rfl
theorem chk24:aH8 sgN vsN (sgN 24) fi24 vf24=true:=by kernel_rfl
theorem tab26:mM Tryz.prog hh26 vf26.kept vf26.cons Tryz.f26=some vf26:=by kernel_rfl
theorem sig26:(⟨vf26.cons,vf26.quiet⟩:Sig)=⟨[],true⟩:=by kernel_rfl
theorem chk26:aH8 sgN vsN (sgN 26) fi26 vf26=true:=by kernel_rfl
theorem tab28:mM Tryz.prog hh28 vf28.kept vf28.cons Tryz.f28=some vf28:=by kernel_rfl
theorem sig28:(⟨vf28.cons,vf28.quiet⟩:Sig)=⟨[],true⟩:=by kernel_rfl
theorem chk28:aH8 sgN vsN (sgN 28) fi28 vf28=true:=by kernel_rfl
theorem tab37:mM Tryz.prog hh37 vf37.kept vf37.cons Tryz.f37=some vf37:=by kernel_rfl
theorem sig37:(⟨vf37.cons,vf37.quiet⟩:Sig)=⟨[],true⟩:=by kernel_rfl
theorem chk37:aH8 sgN vsN (sgN 37) fi37 vf37=true:=by kernel_rfl
end Go.Proofs.YtghpknbkecolnaaGreatDoor
