/- The code is the program's; what is checked of it. -/
import Derived.Test.YtbpocjclcbjggaaGreatDoorZT
namespace Go.Proofs.YtbpocjclcbjggaaGreatDoor.Z
open Go.VM
set_option maxRecDepth 100000
theorem tab39:mM Tryz.prog hh39 vf39.kept vf39.cons Tryz.f39=some vf39:=by kernel_rfl
theorem sig39:(⟨vf39.cons,vf39.quiet⟩:Sig)=⟨[],true⟩:=by kernel_rfl
theorem chk39:aH8 sgN vsN (sgN 39) fi39 vf39=true:=by kernel_rfl
theorem tab40:mM Tryz.prog hh40 vf40.kept vf40.cons Tryz.f40=some vf40:=by kernel_rfl
theorem sig40:(⟨vf40.cons,vf40.quiet⟩:Sig)=⟨[],true⟩:=by kernel_rfl
theorem chk40:aH8 sgN vsN (sgN 40) fi40 vf40=true:=by kernel_rfl
theorem tab49:mM Tryz.prog hh49 vf49.kept vf49.cons Tryz.f49=some vf49:=by kernel_rfl
theorem sig49:(⟨vf49.cons,vf49.quiet⟩:Sig)=⟨[],true⟩:=by kernel_rfl
theorem chk49:aH8 sgN vsN (sgN 49) fi49 vf49=true:=by kernel_rfl
theorem tab59:mM Tryz.prog hh59 vf59.kept vf59.cons Tryz.f59=some vf59:=by kernel_rfl
theorem sig59:(⟨vf59.cons,vf59.quiet⟩:Sig)=⟨[],true⟩:=by kernel_rfl
theorem chk59:aH8 sgN vsN (sgN 59) fi59 vf59=true:=by kernel_rfl
theorem tab61:mM Tryz.prog hh61 vf61.kept vf61.cons Tryz.f61=some vf61:=by kernel_rfl
theorem sig61:(⟨vf61.cons,vf61.quiet⟩:Sig)=⟨[],true⟩:=by kernel_rfl
theorem chk61:aH8 sgN vsN (sgN 61) fi61 vf61=true:=by kernel_rfl
theorem tab62:mM Tryz.prog hh62 vf62.kept vf62.cons Tryz.f62=some vf62:=by kernel_rfl
theorem sig62:(⟨vf62.cons,vf62.quiet⟩:Sig)=⟨[],true⟩:=by kernel_rfl
theorem chk62:aH8 sgN vsN (sgN 62) fi62 vf62=true:=by kernel_rfl
theorem tab64:mM Tryz.prog hh64 vf64.kept vf64.cons Tryz.f64=some vf64:=by kernel_rfl
theorem sig64:(⟨vf64.cons,vf64.quiet⟩:Sig)=⟨[],true⟩:=by kernel_rfl
theorem chk64:aH8 sgN vsN (sgN 64) fi64 vf64=true:=by kernel_rfl
theorem tab65:mM Tryz.prog hh65 vf65.kept vf65.cons Tryz.f65=some vf65:=by kernel_rfl
theorem sig65:(⟨vf65.cons,vf65.quiet⟩:Sig)=⟨[],true⟩:=by kernel_rfl
theorem chk65:aH8 sgN vsN (sgN 65) fi65 vf65=true:=by kernel_rfl
theorem tab66:mM Tryz.prog hh66 vf66.kept vf66.cons Tryz.f66=some vf66:=by kernel_rfl
theorem sig66:(⟨vf66.cons,vf66.quiet⟩:Sig)=⟨[],true⟩:=by kernel_rfl
theorem chk66:aH8 sgN vsN (sgN 66) fi66 vf66=true:=by kernel_rfl
theorem tab71:mM Tryz.prog hh71 vf71.kept vf71.cons Tryz.f71=some vf71:=by kernel_rfl
theorem sig71:(⟨vf71.cons,vf71.quiet⟩:Sig)=⟨[],true⟩:=by kernel_rfl
theorem chk71:aH8 sgN vsN (sgN 71) fi71 vf71=true:=by kernel_rfl
theorem tab93:mM Tryz.prog hh93 vf93.kept vf93.cons Tryz.f93=some vf93:=by kernel_rfl
theorem sig93:(⟨vf93.cons,vf93.quiet⟩:Sig)=⟨[],true⟩:=by kernel_rfl
theorem chk93:aH8 sgN vsN (sgN 93) fi93 vf93=true:=by kernel_rfl
theorem tab96:mM Tryz.prog hh96 vf96.kept vf96.cons Tryz.f96=some vf96:=by kernel_rfl
theorem sig96:(⟨vf96.cons,vf96.quiet⟩:Sig)=⟨[],true⟩:=by kernel_rfl
theorem chk96:aH8 sgN vsN (sgN 96) fi96 vf96=true:=by kernel_rfl
theorem tab115:mM Tryz.prog hh115 vf115.kept vf115.cons Tryz.f115=some vf115:=by kernel_rfl
theorem sig115:(⟨vf115.cons,vf115.quiet⟩:Sig)=⟨[],true⟩:=by kernel_rfl
theorem chk115:aH8 sgN vsN (sgN 115) fi115 vf115=true:=by kernel_rfl
end Go.Proofs.YtbpocjclcbjggaaGreatDoor.Z
