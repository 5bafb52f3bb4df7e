/- The code is the program's; what is checked of it. -/
import Derived.Test.YtlgnmgbnbomckaaGreatDoorNT
namespace Go.Proofs.YtlgnmgbnbomckaaGreatDoor
open Go.VM
set_option maxRecDepth 100000
theorem tab51:mM Tryz.prog hh51 vf51.kept vf51.cons Tryz.f51=some vf51:=by kernel_rfl
theorem sig51:(⟨vf51.cons,vf51.quiet⟩:Sig)=⟨[],true⟩:=by kernel_rfl
theorem chk51:aH8 sgN vsN (sgN 51) fi51 vf51=true:=by kernel_rfl
theorem tab53:mM Tryz.prog hh53 vf53.kept vf53.cons Tryz.f53=some vf53:=by kernel_rfl
theorem sig53:(⟨vf53.cons,vf53.quiet⟩:Sig)=⟨[],true⟩:=by kernel_rfl
theorem chk53:aH8 sgN vsN (sgN 53) fi53 vf53=true:=by kernel_rfl
theorem tab55:mM Tryz.prog hh55 vf55.kept vf55.cons Tryz.f55=some vf55:=by kernel_rfl
theorem sig55:(⟨vf55.cons,vf55.quiet⟩:Sig)=⟨[],true⟩:=by kernel_rfl
theorem chk55:aH8 sgN vsN (sgN 55) fi55 vf55=true:=by kernel_rfl
theorem tab56:mM Tryz.prog hh56 vf56.kept vf56.cons Tryz.f56=some vf56:=by kernel_rfl
theorem sig56:(⟨vf56.cons,vf56.quiet⟩:Sig)=⟨[],true⟩:=by kernel_rfl
theorem chk56:aH8 sgN vsN (sgN 56) fi56 vf56=true:=by kernel_rfl
theorem tab57:mM Tryz.prog hh57 vf57.kept vf57.cons Tryz.f57=some vf57:=by kernel_rfl
theorem sig57:(⟨vf57.cons,vf57.quiet⟩:Sig)=⟨[],true⟩:=by kernel_rfl
theorem chk57:aH8 sgN vsN (sgN 57) fi57 vf57=true:=by kernel_rfl
theorem tab58:mM Tryz.prog hh58 vf58.kept vf58.cons Tryz.f58=some vf58:=by kernel_rfl
theorem sig58:(⟨vf58.cons,vf58.quiet⟩:Sig)=⟨[],true⟩:=by kernel_rfl
theorem chk58:aH8 sgN vsN (sgN 58) fi58 vf58=true:=by kernel_rfl
theorem tab59:mM Tryz.prog hh59 vf59.kept vf59.cons Tryz.f59=some vf59:=by kernel_rfl
theorem sig59:(⟨vf59.cons,vf59.quiet⟩:Sig)=⟨[],true⟩:=by kernel_rfl
theorem chk59:aH8 sgN vsN (sgN 59) fi59 vf59=true:=by kernel_rfl
theorem tab61:mM Tryz.prog hh61 vf61.kept vf61.cons Tryz.f61=some vf61:=by kernel_rfl
theorem sig61:(⟨vf61.cons,vf61.quiet⟩:Sig)=⟨[],true⟩:=by kernel_rfl
theorem chk61:aH8 sgN vsN (sgN 61) fi61 vf61=true:=by kernel_rfl
theorem tab67:mM Tryz.prog hh67 vf67.kept vf67.cons Tryz.f67=some vf67:=by kernel_rfl
theorem sig67:(⟨vf67.cons,vf67.quiet⟩:Sig)=⟨[],true⟩:=by kernel_rfl
theorem chk67:aH8 sgN vsN (sgN 67) fi67 vf67=true:=by kernel_rfl
theorem tab68:mM Tryz.prog hh68 vf68.kept vf68.cons Tryz.f68=some vf68:=by kernel_rfl
theorem sig68:(⟨vf68.cons,vf68.quiet⟩:Sig)=⟨[],true⟩:=by kernel_rfl
theorem chk68:aH8 sgN vsN (sgN 68) fi68 vf68=true:=by kernel_rfl
theorem tab71:mM Tryz.prog hh71 vf71.kept vf71.cons Tryz.f71=some vf71:=by kernel_rfl
theorem sig71:(⟨vf71.cons,vf71.quiet⟩:Sig)=⟨[],true⟩:=by kernel_rfl
theorem chk71:aH8 sgN vsN (sgN 71) fi71 vf71=true:=by kernel_rfl
theorem tab73:mM Tryz.prog hh73 vf73.kept vf73.cons Tryz.f73=some vf73:=by kernel_rfl
theorem sig73:(⟨vf73.cons,vf73.quiet⟩:Sig)=⟨[],true⟩:=by kernel_rfl
theorem chk73:aH8 sgN vsN (sgN 73) fi73 vf73=true:=by kernel_rfl
theorem tab74:mM Tryz.prog hh74 vf74.kept vf74.cons Tryz.f74=some vf74:=by kernel_rfl
theorem sig74:(⟨vf74.cons,vf74.quiet⟩:Sig)=⟨[],true⟩:=by kernel_rfl
theorem chk74:aH8 sgN vsN (sgN 74) fi74 vf74=true:=by kernel_rfl
theorem tab75:mM Tryz.prog hh75 vf75.kept vf75.cons Tryz.f75=some vf75:=by kernel_rfl
theorem sig75:(⟨vf75.cons,vf75.quiet⟩:Sig)=⟨[],true⟩:=by kernel_rfl
theorem chk75:aH8 sgN vsN (sgN 75) fi75 vf75=true:=by kernel_rfl
theorem tab78:mM Tryz.prog hh78 vf78.kept vf78.cons Tryz.f78=some vf78:=by kernel_rfl
theorem sig78:(⟨vf78.cons,vf78.quiet⟩:Sig)=⟨[],true⟩:=by kernel_rfl
theorem chk78:aH8 sgN vsN (sgN 78) fi78 vf78=true:=by kernel_rfl
theorem tab80:mM Tryz.prog hh80 vf80.kept vf80.cons Tryz.f80=some vf80:=by kernel_rfl
theorem sig80:(⟨vf80.cons,vf80.quiet⟩:Sig)=⟨[],true⟩:=by kernel_rfl
theorem chk80:aH8 sgN vsN (sgN 80) fi80 vf80=true:=by kernel_rfl
theorem tab82:mM Tryz.prog hh82 vf82.kept vf82.cons Tryz.f82=some vf82:=by kernel_rfl
theorem sig82:(⟨vf82.cons,vf82.quiet⟩:Sig)=⟨[],true⟩:=by kernel_rfl
theorem chk82:aH8 sgN vsN (sgN 82) fi82 vf82=true:=by kernel_rfl
theorem tab89:mM Tryz.prog hh89 vf89.kept vf89.cons Tryz.f89=some vf89:=by kernel_rfl
theorem sig89:(⟨vf89.cons,vf89.quiet⟩:Sig)=⟨[],true⟩:=by kernel_rfl
theorem chk89:aH8 sgN vsN (sgN 89) fi89 vf89=true:=by kernel_rfl
theorem tab106:mM Tryz.prog hh106 vf106.kept vf106.cons Tryz.f106=some vf106:=by kernel_rfl
theorem sig106:(⟨vf106.cons,vf106.quiet⟩:Sig)=⟨[0],true⟩:=by kernel_rfl
theorem chk106:aH8 sgN vsN (sgN 106) fi106 vf106=true:=by kernel_rfl
theorem tab107:mM Tryz.prog hh107 vf107.kept vf107.cons Tryz.f107=some vf107:=by kernel_rfl
theorem sig107:(⟨vf107.cons,vf107.quiet⟩:Sig)=⟨[],true⟩:=by kernel_rfl
theorem chk107:aH8 sgN vsN (sgN 107) fi107 vf107=true:=by kernel_rfl
theorem tab108:mM Tryz.prog hh108 vf108.kept vf108.cons Tryz.f108=some vf108:=by kernel_rfl
theorem sig108:(⟨vf108.cons,vf108.quiet⟩:Sig)=⟨[],true⟩:=by kernel_rfl
theorem chk108:aH8 sgN vsN (sgN 108) fi108 vf108=true:=by kernel_rfl
theorem tab115:mM Tryz.prog hh115 vf115.kept vf115.cons Tryz.f115=some vf115:=by kernel_rfl
theorem sig115:(⟨vf115.cons,vf115.quiet⟩:Sig)=⟨[],true⟩:=by kernel_rfl
theorem chk115:aH8 sgN vsN (sgN 115) fi115 vf115=true:=by kernel_rfl
theorem tab129:mM Tryz.prog hh129 vf129.kept vf129.cons Tryz.f129=some vf129:=by kernel_rfl
theorem sig129:(⟨vf129.cons,vf129.quiet⟩:Sig)=⟨[],true⟩:=by kernel_rfl
theorem chk129:aH8 sgN vsN (sgN 129) fi129 vf129=true:=by kernel_rfl
end Go.Proofs.YtlgnmgbnbomckaaGreatDoor
