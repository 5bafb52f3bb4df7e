/- The code is the program's; what is checked of it. -/
import Derived.Test.YtfglhfbnbdmhfaaDoorNT
namespace Go.Proofs.YtfglhfbnbdmhfaaDoor
open Go.VM
set_option maxRecDepth 100000
theorem tab3:compileFn Tryd.prog hh3 vf3.kept vf3.cons Tryd.f3=some vf3:=by kernel_rfl
theorem sig3:(⟨vf3.cons,vf3.quiet⟩:Sig)=⟨[],false⟩:=by kernel_rfl
theorem chk3:chkFn sgN vsN (sgN 3) fi3 vf3=true:=by kernel_rfl
theorem tab4:compileFn Tryd.prog hh4 vf4.kept vf4.cons Tryd.f4=some vf4:=by kernel_rfl
theorem sig4:(⟨vf4.cons,vf4.quiet⟩:Sig)=⟨[],false⟩:=by kernel_rfl
theorem chk4:chkFn sgN vsN (sgN 4) fi4 vf4=true:=by kernel_rfl
theorem tab5:compileFn Tryd.prog hh5 vf5.kept vf5.cons Tryd.f5=some vf5:=by kernel_rfl
theorem sig5:(⟨vf5.cons,vf5.quiet⟩:Sig)=⟨[],false⟩:=by kernel_rfl
theorem chk5:chkFn sgN vsN (sgN 5) fi5 vf5=true:=by kernel_rfl
theorem tab6:compileFn Tryd.prog hh6 vf6.kept vf6.cons Tryd.f6=some vf6:=by kernel_rfl
theorem sig6:(⟨vf6.cons,vf6.quiet⟩:Sig)=⟨[],false⟩:=by kernel_rfl
theorem chk6:chkFn sgN vsN (sgN 6) fi6 vf6=true:=by kernel_rfl
theorem tab7:compileFn Tryd.prog hh7 vf7.kept vf7.cons Tryd.f7=some vf7:=by kernel_rfl
theorem sig7:(⟨vf7.cons,vf7.quiet⟩:Sig)=⟨[],false⟩:=by kernel_rfl
theorem chk7:chkFn sgN vsN (sgN 7) fi7 vf7=true:=by kernel_rfl
theorem tab8:compileFn Tryd.prog hh8 vf8.kept vf8.cons Tryd.f8=some vf8:=by kernel_rfl
theorem sig8:(⟨vf8.cons,vf8.quiet⟩:Sig)=⟨[],true⟩:=by kernel_rfl
theorem chk8:chkFn sgN vsN (sgN 8) fi8 vf8=true:=by kernel_rfl
theorem tab9:compileFn Tryd.prog hh9 vf9.kept vf9.cons Tryd.f9=some vf9:=by kernel_rfl
theorem sig9:(⟨vf9.cons,vf9.quiet⟩:Sig)=⟨[],false⟩:=by kernel_rfl
theorem chk9:chkFn sgN vsN (sgN 9) fi9 vf9=true:=by kernel_rfl
theorem tab10:compileFn Tryd.prog hh10 vf10.kept vf10.cons Tryd.f10=some vf10:=by kernel_rfl
theorem sig10:(⟨vf10.cons,vf10.quiet⟩:Sig)=⟨[],true⟩:=by kernel_rfl
theorem chk10:chkFn sgN vsN (sgN 10) fi10 vf10=true:=by kernel_rfl
theorem tab11:compileFn Tryd.prog hh11 vf11.kept vf11.cons Tryd.f11=some vf11:=by kernel_rfl
theorem sig11:(⟨vf11.cons,vf11.quiet⟩:Sig)=⟨[],true⟩:=by kernel_rfl
theorem chk11:chkFn sgN vsN (sgN 11) fi11 vf11=true:=by kernel_rfl
theorem tab15:compileFn Tryd.prog hh15 vf15.kept vf15.cons Tryd.f15=some vf15:=by kernel_rfl
theorem sig15:(⟨vf15.cons,vf15.quiet⟩:Sig)=⟨[],true⟩:=by kernel_rfl
theorem chk15:chkFn sgN vsN (sgN 15) fi15 vf15=true:=by kernel_rfl
theorem tab16:compileFn Tryd.prog hh16 vf16.kept vf16.cons Tryd.f16=some vf16:=by kernel_rfl
theorem sig16:(⟨vf16.cons,vf16.quiet⟩:Sig)=⟨[],true⟩:=by kernel_rfl
theorem chk16:chkFn sgN vsN (sgN 16) fi16 vf16=true:=by kernel_rfl
theorem tab17:compileFn Tryd.prog hh17 vf17.kept vf17.cons Tryd.f17=some vf17:=by kernel_rfl
theorem sig17:(⟨vf17.cons,vf17.quiet⟩:Sig)=⟨[],true⟩:=by kernel_rfl
theorem chk17:chkFn sgN vsN (sgN 17) fi17 vf17=true:=by kernel_rfl
theorem tab18:compileFn Tryd.prog hh18 vf18.kept vf18.cons Tryd.f18=some vf18:=by kernel_rfl
theorem sig18:(⟨vf18.cons,vf18.quiet⟩:Sig)=⟨[],true⟩:=by kernel_rfl
theorem chk18:chkFn sgN vsN (sgN 18) fi18 vf18=true:=by kernel_rfl
theorem tab19:compileFn Tryd.prog hh19 vf19.kept vf19.cons Tryd.f19=some vf19:=by kernel_rfl
theorem sig19:(⟨vf19.cons,vf19.quiet⟩:Sig)=⟨[],true⟩:=by kernel_rfl
theorem chk19:chkFn sgN vsN (sgN 19) fi19 vf19=true:=by kernel_rfl
theorem tab20:compileFn Tryd.prog hh20 vf20.kept vf20.cons Tryd.f20=some vf20:=by kernel_rfl
theorem sig20:(⟨vf20.cons,vf20.quiet⟩:Sig)=⟨[],true⟩:=by kernel_rfl
theorem chk20:chkFn sgN vsN (sgN 20) fi20 vf20=true:=by kernel_rfl
theorem tab21:compileFn Tryd.prog hh21 vf21.kept vf21.cons Tryd.f21=some vf21:=by kernel_rfl
theorem sig21:(⟨vf21.cons,vf21.quiet⟩:Sig)=⟨[],true⟩:=by kernel_rfl
theorem chk21:chkFn sgN vsN (sgN 21) fi21 vf21=true:=by kernel_rfl
theorem tab22:compileFn Tryd.prog hh22 vf22.kept vf22.cons Tryd.f22=some vf22:=by kernel_rfl
theorem sig22:(⟨vf22.cons,vf22.quiet⟩:Sig)=⟨[],true⟩:=by kernel_rfl
theorem chk22:chkFn sgN vsN (sgN 22) fi22 vf22=true:=by kernel_rfl
theorem tab23:compileFn Tryd.prog hh23 vf23.kept vf23.cons Tryd.f23=some vf23:=by kernel_rfl
theorem sig23:(⟨vf23.cons,vf23.quiet⟩:Sig)=⟨[],true⟩:=by kernel_rfl
theorem chk23:chkFn sgN vsN (sgN 23) fi23 vf23=true:=by kernel_rfl
theorem tab24:compileFn Tryd.prog hh24 vf24.kept vf24.cons Tryd.f24=some vf24:=by kernel_rfl
theorem sig24:(⟨vf24.cons,vf24.quiet⟩:Sig)=⟨[],true⟩:=by kernel_rfl
theorem chk24:chkFn sgN vsN (sgN 24) fi24 vf24=true:=by kernel_rfl
theorem tab25:compileFn Tryd.prog hh25 vf25.kept vf25.cons Tryd.f25=some vf25:=by kernel_rfl
theorem sig25:(⟨vf25.cons,vf25.quiet⟩:Sig)=⟨[],true⟩:=by kernel_rfl
theorem chk25:chkFn sgN vsN (sgN 25) fi25 vf25=true:=by kernel_rfl
theorem tab26:compileFn Tryd.prog hh26 vf26.kept vf26.cons Tryd.f26=some vf26:=by kernel_rfl
theorem sig26:(⟨vf26.cons,vf26.quiet⟩:Sig)=⟨[],true⟩:=by kernel_rfl
theorem chk26:chkFn sgN vsN (sgN 26) fi26 vf26=true:=by kernel_rfl
end Go.Proofs.YtfglhfbnbdmhfaaDoor
