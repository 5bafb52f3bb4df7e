/- The code is the program's; what is checked of it. -/
import Derived.Test.YtfglhfbnbdmhfaaDoorNT
namespace Go.Proofs.YtfglhfbnbdmhfaaDoor
open Go.VM
set_option maxRecDepth 100000
theorem tab27:compileFn Tryd.prog hh27 vf27.kept vf27.cons Tryd.f27=some vf27:=by kernel_rfl
theorem sig27:(⟨vf27.cons,vf27.quiet⟩:Sig)=⟨[],true⟩:=by kernel_rfl
theorem chk27:chkFn sgN vsN (sgN 27) fi27 vf27=true:=by kernel_rfl
theorem tab28:compileFn Tryd.prog hh28 vf28.kept vf28.cons Tryd.f28=some vf28:=by kernel_rfl
theorem sig28:(⟨vf28.cons,vf28.quiet⟩:Sig)=⟨[],false⟩:=by kernel_rfl
theorem chk28:chkFn sgN vsN (sgN 28) fi28 vf28=true:=by kernel_rfl
theorem tab30:compileFn Tryd.prog hh30 vf30.kept vf30.cons Tryd.f30=some vf30:=by kernel_rfl
theorem sig30:(⟨vf30.cons,vf30.quiet⟩:Sig)=⟨[],false⟩:=by kernel_rfl
theorem chk30:chkFn sgN vsN (sgN 30) fi30 vf30=true:=by kernel_rfl
theorem tab33:compileFn Tryd.prog hh33 vf33.kept vf33.cons Tryd.f33=some vf33:=by kernel_rfl
theorem sig33:(⟨vf33.cons,vf33.quiet⟩:Sig)=⟨[],true⟩:=by kernel_rfl
theorem chk33:chkFn sgN vsN (sgN 33) fi33 vf33=true:=by kernel_rfl
theorem tab34:compileFn Tryd.prog hh34 vf34.kept vf34.cons Tryd.f34=some vf34:=by kernel_rfl
theorem sig34:(⟨vf34.cons,vf34.quiet⟩:Sig)=⟨[],true⟩:=by kernel_rfl
theorem chk34:chkFn sgN vsN (sgN 34) fi34 vf34=true:=by kernel_rfl
theorem tab35:compileFn Tryd.prog hh35 vf35.kept vf35.cons Tryd.f35=some vf35:=by kernel_rfl
theorem sig35:(⟨vf35.cons,vf35.quiet⟩:Sig)=⟨[],true⟩:=by kernel_rfl
theorem chk35:chkFn sgN vsN (sgN 35) fi35 vf35=true:=by kernel_rfl
theorem tab40:compileFn Tryd.prog hh40 vf40.kept vf40.cons Tryd.f40=some vf40:=by kernel_rfl
theorem sig40:(⟨vf40.cons,vf40.quiet⟩:Sig)=⟨[],true⟩:=by kernel_rfl
theorem chk40:chkFn sgN vsN (sgN 40) fi40 vf40=true:=by kernel_rfl
theorem tab41:compileFn Tryd.prog hh41 vf41.kept vf41.cons Tryd.f41=some vf41:=by kernel_rfl
theorem sig41:(⟨vf41.cons,vf41.quiet⟩:Sig)=⟨[],true⟩:=by kernel_rfl
theorem chk41:chkFn sgN vsN (sgN 41) fi41 vf41=true:=by kernel_rfl
theorem tab42:compileFn Tryd.prog hh42 vf42.kept vf42.cons Tryd.f42=some vf42:=by kernel_rfl
theorem sig42:(⟨vf42.cons,vf42.quiet⟩:Sig)=⟨[],true⟩:=by kernel_rfl
theorem chk42:chkFn sgN vsN (sgN 42) fi42 vf42=true:=by kernel_rfl
theorem tab43:compileFn Tryd.prog hh43 vf43.kept vf43.cons Tryd.f43=some vf43:=by kernel_rfl
theorem sig43:(⟨vf43.cons,vf43.quiet⟩:Sig)=⟨[],true⟩:=by kernel_rfl
theorem chk43:chkFn sgN vsN (sgN 43) fi43 vf43=true:=by kernel_rfl
theorem tab44:compileFn Tryd.prog hh44 vf44.kept vf44.cons Tryd.f44=some vf44:=by kernel_rfl
theorem sig44:(⟨vf44.cons,vf44.quiet⟩:Sig)=⟨[],true⟩:=by kernel_rfl
theorem chk44:chkFn sgN vsN (sgN 44) fi44 vf44=true:=by kernel_rfl
theorem tab45:compileFn Tryd.prog hh45 vf45.kept vf45.cons Tryd.f45=some vf45:=by kernel_rfl
theorem sig45:(⟨vf45.cons,vf45.quiet⟩:Sig)=⟨[],true⟩:=by kernel_rfl
theorem chk45:chkFn sgN vsN (sgN 45) fi45 vf45=true:=by kernel_rfl
theorem tab54:compileFn Tryd.prog hh54 vf54.kept vf54.cons Tryd.f54=some vf54:=by kernel_rfl
theorem sig54:(⟨vf54.cons,vf54.quiet⟩:Sig)=⟨[],true⟩:=by kernel_rfl
theorem chk54:chkFn sgN vsN (sgN 54) fi54 vf54=true:=by kernel_rfl
theorem tab57:compileFn Tryd.prog hh57 vf57.kept vf57.cons Tryd.f57=some vf57:=by kernel_rfl
theorem sig57:(⟨vf57.cons,vf57.quiet⟩:Sig)=⟨[],true⟩:=by kernel_rfl
theorem chk57:chkFn sgN vsN (sgN 57) fi57 vf57=true:=by kernel_rfl
theorem tab58:compileFn Tryd.prog hh58 vf58.kept vf58.cons Tryd.f58=some vf58:=by kernel_rfl
theorem sig58:(⟨vf58.cons,vf58.quiet⟩:Sig)=⟨[],true⟩:=by kernel_rfl
theorem chk58:chkFn sgN vsN (sgN 58) fi58 vf58=true:=by kernel_rfl
theorem tab61:compileFn Tryd.prog hh61 vf61.kept vf61.cons Tryd.f61=some vf61:=by kernel_rfl
theorem sig61:(⟨vf61.cons,vf61.quiet⟩:Sig)=⟨[],true⟩:=by kernel_rfl
theorem chk61:chkFn sgN vsN (sgN 61) fi61 vf61=true:=by kernel_rfl
theorem tab70:compileFn Tryd.prog hh70 vf70.kept vf70.cons Tryd.f70=some vf70:=by kernel_rfl
theorem sig70:(⟨vf70.cons,vf70.quiet⟩:Sig)=⟨[],true⟩:=by kernel_rfl
theorem chk70:chkFn sgN vsN (sgN 70) fi70 vf70=true:=by kernel_rfl
theorem tab78:compileFn Tryd.prog hh78 vf78.kept vf78.cons Tryd.f78=some vf78:=by kernel_rfl
theorem sig78:(⟨vf78.cons,vf78.quiet⟩:Sig)=⟨[],true⟩:=by kernel_rfl
theorem chk78:chkFn sgN vsN (sgN 78) fi78 vf78=true:=by kernel_rfl
theorem tab87:compileFn Tryd.prog hh87 vf87.kept vf87.cons Tryd.f87=some vf87:=by kernel_rfl
theorem sig87:(⟨vf87.cons,vf87.quiet⟩:Sig)=⟨[0],true⟩:=by kernel_rfl
theorem chk87:chkFn sgN vsN (sgN 87) fi87 vf87=true:=by kernel_rfl
theorem tab102:compileFn Tryd.prog hh102 vf102.kept vf102.cons Tryd.f102=some vf102:=by kernel_rfl
theorem sig102:(⟨vf102.cons,vf102.quiet⟩:Sig)=⟨[],true⟩:=by kernel_rfl
theorem chk102:chkFn sgN vsN (sgN 102) fi102 vf102=true:=by kernel_rfl
end Go.Proofs.YtfglhfbnbdmhfaaDoor
