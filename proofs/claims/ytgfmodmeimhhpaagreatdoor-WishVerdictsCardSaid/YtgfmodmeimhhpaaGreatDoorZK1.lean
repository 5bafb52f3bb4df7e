/- The code is the program's; what is checked of it. -/
import Derived.Test.YtgfmodmeimhhpaaGreatDoorZT
namespace Go.Proofs.YtgfmodmeimhhpaaGreatDoor.Z
open Go.VM
set_option maxRecDepth 100000
theorem tab8:mM Tryz.prog hh8 vf8.kept vf8.cons Tryz.f8=some vf8:=by kernel_rfl
theorem sig8:(⟨vf8.cons,vf8.quiet⟩:Sig)=⟨[],false⟩:=by kernel_rfl
theorem chk8:aH8 sgN vsN (sgN 8) fi8 vf8=true:=by kernel_rfl
theorem tab10:mM Tryz.prog hh10 vf10.kept vf10.cons Tryz.f10=some vf10:=by kernel_rfl
theorem sig10:(⟨vf10.cons,vf10.quiet⟩:Sig)=⟨[],true⟩:=by kernel_rfl
theorem chk10:aH8 sgN vsN (sgN 10) fi10 vf10=true:=by kernel_rfl
theorem tab39:mM Tryz.prog hh39 vf39.kept vf39.cons Tryz.f39=some vf39:=by kernel_rfl
theorem sig39:(⟨vf39.cons,vf39.quiet⟩:Sig)=⟨[],true⟩:=by kernel_rfl
theorem chk39:aH8 sgN vsN (sgN 39) fi39 vf39=true:=by kernel_rfl
theorem tab63:mM Tryz.prog hh63 vf63.kept vf63.cons Tryz.f63=some vf63:=by kernel_rfl
theorem sig63:(⟨vf63.cons,vf63.quiet⟩:Sig)=⟨[],true⟩:=by kernel_rfl
theorem chk63:aH8 sgN vsN (sgN 63) fi63 vf63=true:=by kernel_rfl
theorem tab64:mM Tryz.prog hh64 vf64.kept vf64.cons Tryz.f64=some vf64:=by kernel_rfl
theorem sig64:(⟨vf64.cons,vf64.quiet⟩:Sig)=⟨[],true⟩:=by kernel_rfl
theorem chk64:aH8 sgN vsN (sgN 64) fi64 vf64=true:=by kernel_rfl
theorem tab65:mM Tryz.prog hh65 vf65.kept vf65.cons Tryz.f65=some vf65:=by kernel_rfl
theorem sig65:(⟨vf65.cons,vf65.quiet⟩:Sig)=⟨[],false⟩:=by kernel_rfl
theorem chk65:aH8 sgN vsN (sgN 65) fi65 vf65=true:=by kernel_rfl
theorem tab66:mM Tryz.prog hh66 vf66.kept vf66.cons Tryz.f66=some vf66:=by kernel_rfl
theorem sig66:(⟨vf66.cons,vf66.quiet⟩:Sig)=⟨[],false⟩:=by kernel_rfl
theorem chk66:aH8 sgN vsN (sgN 66) fi66 vf66=true:=by kernel_rfl
theorem tab72:mM Tryz.prog hh72 vf72.kept vf72.cons Tryz.f72=some vf72:=by kernel_rfl
theorem sig72:(⟨vf72.cons,vf72.quiet⟩:Sig)=⟨[],true⟩:=by kernel_rfl
theorem chk72:aH8 sgN vsN (sgN 72) fi72 vf72=true:=by kernel_rfl
theorem tab73:mM Tryz.prog hh73 vf73.kept vf73.cons Tryz.f73=some vf73:=by kernel_rfl
theorem sig73:(⟨vf73.cons,vf73.quiet⟩:Sig)=⟨[],true⟩:=by kernel_rfl
theorem chk73:aH8 sgN vsN (sgN 73) fi73 vf73=true:=by kernel_rfl
theorem tab74:mM Tryz.prog hh74 vf74.kept vf74.cons Tryz.f74=some vf74:=by kernel_rfl
theorem sig74:(⟨vf74.cons,vf74.quiet⟩:Sig)=⟨[],true⟩:=by kernel_rfl
theorem chk74:aH8 sgN vsN (sgN 74) fi74 vf74=true:=by kernel_rfl
theorem tab75:mM Tryz.prog hh75 vf75.kept vf75.cons Tryz.f75=some vf75:=by kernel_rfl
theorem sig75:(⟨vf75.cons,vf75.quiet⟩:Sig)=⟨[],true⟩:=by kernel_rfl
theorem chk75:aH8 sgN vsN (sgN 75) fi75 vf75=true:=by kernel_rfl
theorem tab76:mM Tryz.prog hh76 vf76.kept vf76.cons Tryz.f76=some vf76:=by kernel_rfl
theorem sig76:(⟨vf76.cons,vf76.quiet⟩:Sig)=⟨[],true⟩:=by kernel_rfl
theorem chk76:aH8 sgN vsN (sgN 76) fi76 vf76=true:=by kernel_rfl
theorem tab83:mM Tryz.prog hh83 vf83.kept vf83.cons Tryz.f83=some vf83:=by kernel_rfl
theorem sig83:(⟨vf83.cons,vf83.quiet⟩:Sig)=⟨[],true⟩:=by kernel_rfl
theorem chk83:aH8 sgN vsN (sgN 83) fi83 vf83=true:=by kernel_rfl
theorem tab84:mM Tryz.prog hh84 vf84.kept vf84.cons Tryz.f84=some vf84:=by kernel_rfl
theorem sig84:(⟨vf84.cons,vf84.quiet⟩:Sig)=⟨[],true⟩:=by kernel_rfl
theorem chk84:aH8 sgN vsN (sgN 84) fi84 vf84=true:=by kernel_rfl
end Go.Proofs.YtgfmodmeimhhpaaGreatDoor.Z
