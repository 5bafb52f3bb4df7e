/- The code is the program's; what is checked of it. -/
import Derived.Test.YtlgnmgbnbomckaaGreatDoorNT
namespace Go.Proofs.YtlgnmgbnbomckaaGreatDoor
open Go.VM
set_option maxRecDepth 100000
theorem tab59 : mM Tryz.prog hh59 vf59.kept vf59.cons Tryz.f59 = some vf59 := by kernel_rfl
theorem sig59 : (⟨vf59.cons, vf59.quiet⟩ : Sig) = ⟨[], true⟩ := by kernel_rfl
theorem chk59 : aH8 sgN vsN (sgN 59) fi59 vf59 = true := by kernel_rfl
theorem tab61 : mM Tryz.prog hh61 vf61.kept vf61.cons Tryz.f61 = some vf61 := by kernel_rfl
theorem sig61 : (⟨vf61.cons, vf61.quiet⟩ : Sig) = ⟨[], true⟩ := by kernel_rfl
theorem chk61 : aH8 sgN vsN (sgN 61) fi61 vf61 = true := by kernel_rfl
theorem tab62 : mM Tryz.prog hh62 vf62.kept vf62.cons Tryz.f62 = some vf62 := by kernel_rfl
theorem sig62 : (⟨vf62.cons, vf62.quiet⟩ : Sig) = ⟨[], true⟩ := by kernel_rfl
theorem chk62 : aH8 sgN vsN (sgN 62) fi62 vf62 = true := by kernel_rfl
theorem tab63 : mM Tryz.prog hh63 vf63.kept vf63.cons Tryz.f63 = some vf63 := by kernel_rfl
theorem sig63 : (⟨vf63.cons, vf63.quiet⟩ : Sig) = ⟨[], true⟩ := by kernel_rfl
theorem chk63 : aH8 sgN vsN (sgN 63) fi63 vf63 = true := by kernel_rfl
theorem tab64 : mM Tryz.prog hh64 vf64.kept vf64.cons Tryz.f64 = some vf64 := by kernel_rfl
theorem sig64 : (⟨vf64.cons, vf64.quiet⟩ : Sig) = ⟨[], true⟩ := by kernel_rfl
theorem chk64 : aH8 sgN vsN (sgN 64) fi64 vf64 = true := by kernel_rfl
theorem tab67 : mM Tryz.prog hh67 vf67.kept vf67.cons Tryz.f67 = some vf67 := by kernel_rfl
theorem sig67 : (⟨vf67.cons, vf67.quiet⟩ : Sig) = ⟨[], true⟩ := by kernel_rfl
theorem chk67 : aH8 sgN vsN (sgN 67) fi67 vf67 = true := by kernel_rfl
theorem tab68 : mM Tryz.prog hh68 vf68.kept vf68.cons Tryz.f68 = some vf68 := by kernel_rfl
theorem sig68 : (⟨vf68.cons, vf68.quiet⟩ : Sig) = ⟨[], true⟩ := by kernel_rfl
theorem chk68 : aH8 sgN vsN (sgN 68) fi68 vf68 = true := by kernel_rfl
theorem tab71 : mM Tryz.prog hh71 vf71.kept vf71.cons Tryz.f71 = some vf71 := by kernel_rfl
theorem sig71 : (⟨vf71.cons, vf71.quiet⟩ : Sig) = ⟨[], true⟩ := by kernel_rfl
theorem chk71 : aH8 sgN vsN (sgN 71) fi71 vf71 = true := by kernel_rfl
theorem tab73 : mM Tryz.prog hh73 vf73.kept vf73.cons Tryz.f73 = some vf73 := by kernel_rfl
theorem sig73 : (⟨vf73.cons, vf73.quiet⟩ : Sig) = ⟨[], true⟩ := by kernel_rfl
theorem chk73 : aH8 sgN vsN (sgN 73) fi73 vf73 = true := by kernel_rfl
theorem tab74 : mM Tryz.prog hh74 vf74.kept vf74.cons Tryz.f74 = some vf74 := by kernel_rfl
theorem sig74 : (⟨vf74.cons, vf74.quiet⟩ : Sig) = ⟨[], true⟩ := by kernel_rfl
theorem chk74 : aH8 sgN vsN (sgN 74) fi74 vf74 = true := by kernel_rfl
theorem tab75 : mM Tryz.prog hh75 vf75.kept vf75.cons Tryz.f75 = some vf75 := by kernel_rfl
theorem sig75 : (⟨vf75.cons, vf75.quiet⟩ : Sig) = ⟨[], true⟩ := by kernel_rfl
theorem chk75 : aH8 sgN vsN (sgN 75) fi75 vf75 = true := by kernel_rfl
theorem tab78 : mM Tryz.prog hh78 vf78.kept vf78.cons Tryz.f78 = some vf78 := by kernel_rfl
theorem sig78 : (⟨vf78.cons, vf78.quiet⟩ : Sig) = ⟨[], true⟩ := by kernel_rfl
theorem chk78 : aH8 sgN vsN (sgN 78) fi78 vf78 = true := by kernel_rfl
theorem tab80 : mM Tryz.prog hh80 vf80.kept vf80.cons Tryz.f80 = some vf80 := by kernel_rfl
theorem sig80 : (⟨vf80.cons, vf80.quiet⟩ : Sig) = ⟨[], true⟩ := by kernel_rfl
theorem chk80 : aH8 sgN vsN (sgN 80) fi80 vf80 = true := by kernel_rfl
theorem tab82 : mM Tryz.prog hh82 vf82.kept vf82.cons Tryz.f82 = some vf82 := by kernel_rfl
theorem sig82 : (⟨vf82.cons, vf82.quiet⟩ : Sig) = ⟨[], true⟩ := by kernel_rfl
theorem chk82 : aH8 sgN vsN (sgN 82) fi82 vf82 = true := by kernel_rfl
theorem tab84 : mM Tryz.prog hh84 vf84.kept vf84.cons Tryz.f84 = some vf84 := by kernel_rfl
theorem sig84 : (⟨vf84.cons, vf84.quiet⟩ : Sig) = ⟨[], true⟩ := by kernel_rfl
theorem chk84 : aH8 sgN vsN (sgN 84) fi84 vf84 = true := by kernel_rfl
theorem tab85 : mM Tryz.prog hh85 vf85.kept vf85.cons Tryz.f85 = some vf85 := by kernel_rfl
theorem sig85 : (⟨vf85.cons, vf85.quiet⟩ : Sig) = ⟨[], true⟩ := by kernel_rfl
theorem chk85 : aH8 sgN vsN (sgN 85) fi85 vf85 = true := by kernel_rfl
theorem tab86 : mM Tryz.prog hh86 vf86.kept vf86.cons Tryz.f86 = some vf86 := by kernel_rfl
theorem sig86 : (⟨vf86.cons, vf86.quiet⟩ : Sig) = ⟨[], true⟩ := by kernel_rfl
theorem chk86 : aH8 sgN vsN (sgN 86) fi86 vf86 = true := by kernel_rfl
theorem tab89 : mM Tryz.prog hh89 vf89.kept vf89.cons Tryz.f89 = some vf89 := by kernel_rfl
theorem sig89 : (⟨vf89.cons, vf89.quiet⟩ : Sig) = ⟨[], true⟩ := by kernel_rfl
theorem chk89 : aH8 sgN vsN (sgN 89) fi89 vf89 = true := by kernel_rfl
theorem tab106 : mM Tryz.prog hh106 vf106.kept vf106.cons Tryz.f106 = some vf106 := by kernel_rfl
theorem sig106 : (⟨vf106.cons, vf106.quiet⟩ : Sig) = ⟨[0], true⟩ := by kernel_rfl
theorem chk106 : aH8 sgN vsN (sgN 106) fi106 vf106 = true := by kernel_rfl
theorem tab107 : mM Tryz.prog hh107 vf107.kept vf107.cons Tryz.f107 = some vf107 := by kernel_rfl
theorem sig107 : (⟨vf107.cons, vf107.quiet⟩ : Sig) = ⟨[], true⟩ := by kernel_rfl
theorem chk107 : aH8 sgN vsN (sgN 107) fi107 vf107 = true := by kernel_rfl
theorem tab108 : mM Tryz.prog hh108 vf108.kept vf108.cons Tryz.f108 = some vf108 := by kernel_rfl
theorem sig108 : (⟨vf108.cons, vf108.quiet⟩ : Sig) = ⟨[], true⟩ := by kernel_rfl
theorem chk108 : aH8 sgN vsN (sgN 108) fi108 vf108 = true := by kernel_rfl
theorem tab109 : mM Tryz.prog hh109 vf109.kept vf109.cons Tryz.f109 = some vf109 := by kernel_rfl
theorem sig109 : (⟨vf109.cons, vf109.quiet⟩ : Sig) = ⟨[], true⟩ := by kernel_rfl
theorem chk109 : aH8 sgN vsN (sgN 109) fi109 vf109 = true := by kernel_rfl
theorem tab115 : mM Tryz.prog hh115 vf115.kept vf115.cons Tryz.f115 = some vf115 := by kernel_rfl
theorem sig115 : (⟨vf115.cons, vf115.quiet⟩ : Sig) = ⟨[], true⟩ := by kernel_rfl
theorem chk115 : aH8 sgN vsN (sgN 115) fi115 vf115 = true := by kernel_rfl
theorem tab129 : mM Tryz.prog hh129 vf129.kept vf129.cons Tryz.f129 = some vf129 := by kernel_rfl
theorem sig129 : (⟨vf129.cons, vf129.quiet⟩ : Sig) = ⟨[], true⟩ := by kernel_rfl
theorem chk129 : aH8 sgN vsN (sgN 129) fi129 vf129 = true := by kernel_rfl
end Go.Proofs.YtlgnmgbnbomckaaGreatDoor
