/- The code is the program's; what is checked of it. -/
import Derived.Test.YtghpknbkecolnaaGreatDoorNT
namespace Go.Proofs.YtghpknbkecolnaaGreatDoor
open Go.VM
set_option maxRecDepth 100000
theorem tab5:mM Tryz.prog hh5 vf5.kept vf5.cons Tryz.f5=some vf5:=by kernel_rfl
theorem sig5:(⟨vf5.cons,vf5.quiet⟩:Sig)=⟨[],false⟩:=by kernel_rfl
theorem chk5:aH8 sgN vsN (sgN 5) fi5 vf5=true:=by kernel_rfl
theorem tab7:mM Tryz.prog hh7 vf7.kept vf7.cons Tryz.f7=some vf7:=by kernel_rfl
theorem sig7:(⟨vf7.cons,vf7.quiet⟩:Sig)=⟨[],true⟩:=by kernel_rfl
theorem chk7:aH8 sgN vsN (sgN 7) fi7 vf7=true:=by kernel_rfl
theorem tab8:mM Tryz.prog hh8 vf8.kept vf8.cons Tryz.f8=some vf8:=by kernel_rfl
theorem sig8:(⟨vf8.cons,vf8.quiet⟩:Sig)=⟨[],true⟩:=by kernel_rfl
theorem chk8:aH8 sgN vsN (sgN 8) fi8 vf8=true:=by kernel_rfl
theorem tab9:mM Tryz.prog hh9 vf9.kept vf9.cons Tryz.f9=some vf9:=by kernel_rfl
theorem sig9:(⟨vf9.cons,vf9.quiet⟩:Sig)=⟨[],false⟩:=by kernel_rfl
theorem chk9:aH8 sgN vsN (sgN 9) fi9 vf9=true:=by kernel_rfl
theorem tab11:mM Tryz.prog hh11 vf11.kept vf11.cons Tryz.f11=some vf11:=by kernel_rfl
theorem sig11:(⟨vf11.cons,vf11.quiet⟩:Sig)=⟨[],true⟩:=by kernel_rfl
theorem chk11:aH8 sgN vsN (sgN 11) fi11 vf11=true:=by kernel_rfl
theorem tab13:mM Tryz.prog hh13 vf13.kept vf13.cons Tryz.f13=some vf13:=by kernel_rfl
theorem sig13:(⟨vf13.cons,vf13.quiet⟩:Sig)=⟨[],true⟩:=by kernel_rfl
theorem chk13:aH8 sgN vsN (sgN 13) fi13 vf13=true:=by kernel_rfl
theorem tab16:mM Tryz.prog hh16 vf16.kept vf16.cons Tryz.f16=some vf16:=by kernel_rfl
theorem sig16:(⟨vf16.cons,vf16.quiet⟩:Sig)=⟨[],true⟩:=by kernel_rfl
theorem chk16:aH8 sgN vsN (sgN 16) fi16 vf16=true:=by kernel_rfl
theorem tab17:mM Tryz.prog hh17 vf17.kept vf17.cons Tryz.f17=some vf17:=by kernel_rfl
theorem sig17:(⟨vf17.cons,vf17.quiet⟩:Sig)=⟨[],true⟩:=by kernel_rfl
theorem chk17:aH8 sgN vsN (sgN 17) fi17 vf17=true:=by kernel_rfl
theorem tab18:mM Tryz.prog hh18 vf18.kept vf18.cons Tryz.f18=some vf18:=by kernel_rfl
theorem sig18:(⟨vf18.cons,vf18.quiet⟩:Sig)=⟨[],true⟩:=by kernel_rfl
theorem chk18:aH8 sgN vsN (sgN 18) fi18 vf18=true:=by kernel_rfl
theorem tab19:mM Tryz.prog hh19 vf19.kept vf19.cons Tryz.f19=some vf19:=by kernel_rfl
theorem sig19:(⟨vf19.cons,vf19.quiet⟩:Sig)=⟨[],true⟩:=by kernel_rfl
theorem chk19:aH8 sgN vsN (sgN 19) fi19 vf19=true:=by kernel_rfl
theorem tab21:mM Tryz.prog hh21 vf21.kept vf21.cons Tryz.f21=some vf21:=by kernel_rfl
theorem sig21:(⟨vf21.cons,vf21.quiet⟩:Sig)=⟨[],true⟩:=by kernel_rfl
theorem chk21:aH8 sgN vsN (sgN 21) fi21 vf21=true:=by kernel_rfl
theorem tab24:mM Tryz.prog hh24 vf24.kept vf24.cons Tryz.f24=some vf24:=by kernel_rfl
theorem sig24:(⟨vf24.cons,vf24.quiet⟩:Sig)=⟨[],true⟩:=by kernel_rfl
theorem chk24:aH8 sgN vsN (sgN 24) fi24 vf24=true:=by kernel_rfl
theorem tab25:mM Tryz.prog hh25 vf25.kept vf25.cons Tryz.f25=some vf25:=by kernel_rfl
theorem sig25:(⟨vf25.cons,vf25.quiet⟩:Sig)=⟨[],true⟩:=by kernel_rfl
theorem chk25:aH8 sgN vsN (sgN 25) fi25 vf25=true:=by kernel_rfl
theorem tab26:mM Tryz.prog hh26 vf26.kept vf26.cons Tryz.f26=some vf26:=by kernel_rfl
theorem sig26:(⟨vf26.cons,vf26.quiet⟩:Sig)=⟨[],true⟩:=by kernel_rfl
theorem chk26:aH8 sgN vsN (sgN 26) fi26 vf26=true:=by kernel_rfl
theorem tab27:mM Tryz.prog hh27 vf27.kept vf27.cons Tryz.f27=some vf27:=by kernel_rfl
theorem sig27:(⟨vf27.cons,vf27.quiet⟩:Sig)=⟨[],true⟩:=by kernel_rfl
theorem chk27:aH8 sgN vsN (sgN 27) fi27 vf27=true:=by kernel_rfl
theorem tab28:mM Tryz.prog hh28 vf28.kept vf28.cons Tryz.f28=some vf28:=by kernel_rfl
theorem sig28:(⟨vf28.cons,vf28.quiet⟩:Sig)=⟨[],true⟩:=by kernel_rfl
theorem chk28:aH8 sgN vsN (sgN 28) fi28 vf28=true:=by kernel_rfl
theorem tab29:mM Tryz.prog hh29 vf29.kept vf29.cons Tryz.f29=some vf29:=by kernel_rfl
theorem sig29:(⟨vf29.cons,vf29.quiet⟩:Sig)=⟨[],true⟩:=by kernel_rfl
theorem chk29:aH8 sgN vsN (sgN 29) fi29 vf29=true:=by kernel_rfl
theorem tab30:mM Tryz.prog hh30 vf30.kept vf30.cons Tryz.f30=some vf30:=by kernel_rfl
theorem sig30:(⟨vf30.cons,vf30.quiet⟩:Sig)=⟨[],true⟩:=by kernel_rfl
theorem chk30:aH8 sgN vsN (sgN 30) fi30 vf30=true:=by kernel_rfl
theorem tab31:mM Tryz.prog hh31 vf31.kept vf31.cons Tryz.f31=some vf31:=by kernel_rfl
theorem sig31:(⟨vf31.cons,vf31.quiet⟩:Sig)=⟨[],true⟩:=by kernel_rfl
theorem chk31:aH8 sgN vsN (sgN 31) fi31 vf31=true:=by kernel_rfl
theorem tab32:mM Tryz.prog hh32 vf32.kept vf32.cons Tryz.f32=some vf32:=by kernel_rfl
theorem sig32:(⟨vf32.cons,vf32.quiet⟩:Sig)=⟨[],true⟩:=by kernel_rfl
theorem chk32:aH8 sgN vsN (sgN 32) fi32 vf32=true:=by kernel_rfl
theorem tab33:mM Tryz.prog hh33 vf33.kept vf33.cons Tryz.f33=some vf33:=by kernel_rfl
theorem sig33:(⟨vf33.cons,vf33.quiet⟩:Sig)=⟨[],true⟩:=by kernel_rfl
theorem chk33:aH8 sgN vsN (sgN 33) fi33 vf33=true:=by kernel_rfl
theorem tab34:mM Tryz.prog hh34 vf34.kept vf34.cons Tryz.f34=some vf34:=by kernel_rfl
theorem sig34:(⟨vf34.cons,vf34.quiet⟩:Sig)=⟨[],false⟩:=by kernel_rfl
theorem chk34:aH8 sgN vsN (sgN 34) fi34 vf34=true:=by kernel_rfl
end Go.Proofs.YtghpknbkecolnaaGreatDoor
