/- The code is the program's; what is checked of it. -/
import Derived.Test.YtajoneenakjifaaGreatDoorNT
namespace Go.Proofs.YtajoneenakjifaaGreatDoor
open Go.VM
set_option maxRecDepth 100000
theorem tab3:mM Tryz.prog hh3 vf3.kept vf3.cons Tryz.f3=some vf3:=by kernel_rfl
theorem sig3:(⟨vf3.cons,vf3.quiet⟩:Sig)=⟨[],false⟩:=by kernel_rfl
theorem chk3:aH8 sgN vsN (sgN 3) fi3 vf3=true:=by kernel_rfl
theorem tab4:mM Tryz.prog hh4 vf4.kept vf4.cons Tryz.f4=some vf4:=by kernel_rfl
theorem sig4:(⟨vf4.cons,vf4.quiet⟩:Sig)=⟨[],true⟩:=by kernel_rfl
theorem chk4:aH8 sgN vsN (sgN 4) fi4 vf4=true:=by kernel_rfl
theorem tab5:mM Tryz.prog hh5 vf5.kept vf5.cons Tryz.f5=some vf5:=by kernel_rfl
theorem sig5:(⟨vf5.cons,vf5.quiet⟩:Sig)=⟨[],true⟩:=by kernel_rfl
theorem chk5:aH8 sgN vsN (sgN 5) fi5 vf5=true:=by kernel_rfl
theorem tab6:mM Tryz.prog hh6 vf6.kept vf6.cons Tryz.f6=some vf6:=by kernel_rfl
theorem sig6:(⟨vf6.cons,vf6.quiet⟩:Sig)=⟨[],true⟩:=by kernel_rfl
theorem chk6:aH8 sgN vsN (sgN 6) fi6 vf6=true:=by kernel_rfl
theorem tab7:mM Tryz.prog hh7 vf7.kept vf7.cons Tryz.f7=some vf7:=by kernel_rfl
theorem sig7:(⟨vf7.cons,vf7.quiet⟩:Sig)=⟨[],false⟩:=by kernel_rfl
theorem chk7:aH8 sgN vsN (sgN 7) fi7 vf7=true:=by kernel_rfl
theorem tab8:mM Tryz.prog hh8 vf8.kept vf8.cons Tryz.f8=some vf8:=by kernel_rfl
theorem sig8:(⟨vf8.cons,vf8.quiet⟩:Sig)=⟨[],true⟩:=by kernel_rfl
theorem chk8:aH8 sgN vsN (sgN 8) fi8 vf8=true:=by kernel_rfl
theorem tab9:mM Tryz.prog hh9 vf9.kept vf9.cons Tryz.f9=some vf9:=by kernel_rfl
theorem sig9:(⟨vf9.cons,vf9.quiet⟩:Sig)=⟨[],true⟩:=by kernel_rfl
theorem chk9:aH8 sgN vsN (sgN 9) fi9 vf9=true:=by kernel_rfl
theorem tab10:mM Tryz.prog hh10 vf10.kept vf10.cons Tryz.f10=some vf10:=by kernel_rfl
theorem sig10:(⟨vf10.cons,vf10.quiet⟩:Sig)=⟨[],true⟩:=by kernel_rfl
theorem chk10:aH8 sgN vsN (sgN 10) fi10 vf10=true:=by kernel_rfl
theorem tab13:mM Tryz.prog hh13 vf13.kept vf13.cons Tryz.f13=some vf13:=by kernel_rfl
theorem sig13:(⟨vf13.cons,vf13.quiet⟩:Sig)=⟨[],true⟩:=by kernel_rfl
theorem chk13:aH8 sgN vsN (sgN 13) fi13 vf13=true:=by kernel_rfl
theorem tab14:mM Tryz.prog hh14 vf14.kept vf14.cons Tryz.f14=some vf14:=by kernel_rfl
theorem sig14:(⟨vf14.cons,vf14.quiet⟩:Sig)=⟨[],true⟩:=by kernel_rfl
theorem chk14:aH8 sgN vsN (sgN 14) fi14 vf14=true:=by kernel_rfl
end Go.Proofs.YtajoneenakjifaaGreatDoor
