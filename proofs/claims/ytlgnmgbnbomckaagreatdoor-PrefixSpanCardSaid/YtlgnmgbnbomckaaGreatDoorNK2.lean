/- The code is the program's; what is checked of it. -/
import Derived.Test.YtlgnmgbnbomckaaGreatDoorNT
namespace Go.Proofs.YtlgnmgbnbomckaaGreatDoor
open Go.VM
set_option maxRecDepth 100000
theorem tab29 : mM Tryz.prog hh29 vf29.kept vf29.cons Tryz.f29 = some vf29 := by kernel_rfl
theorem sig29 : (⟨vf29.cons, vf29.quiet⟩ : Sig) = ⟨[], true⟩ := by kernel_rfl
theorem chk29 : aH8 sgN vsN (sgN 29) fi29 vf29 = true := by kernel_rfl
theorem tab30 : mM Tryz.prog hh30 vf30.kept vf30.cons Tryz.f30 = some vf30 := by kernel_rfl
theorem sig30 : (⟨vf30.cons, vf30.quiet⟩ : Sig) = ⟨[], true⟩ := by kernel_rfl
theorem chk30 : aH8 sgN vsN (sgN 30) fi30 vf30 = true := by kernel_rfl
theorem tab31 : mM Tryz.prog hh31 vf31.kept vf31.cons Tryz.f31 = some vf31 := by kernel_rfl
theorem sig31 : (⟨vf31.cons, vf31.quiet⟩ : Sig) = ⟨[], true⟩ := by kernel_rfl
theorem chk31 : aH8 sgN vsN (sgN 31) fi31 vf31 = true := by kernel_rfl
theorem tab32 : mM Tryz.prog hh32 vf32.kept vf32.cons Tryz.f32 = some vf32 := by kernel_rfl
theorem sig32 : (⟨vf32.cons, vf32.quiet⟩ : Sig) = ⟨[], true⟩ := by kernel_rfl
theorem chk32 : aH8 sgN vsN (sgN 32) fi32 vf32 = true := by kernel_rfl
theorem tab33 : mM Tryz.prog hh33 vf33.kept vf33.cons Tryz.f33 = some vf33 := by kernel_rfl
theorem sig33 : (⟨vf33.cons, vf33.quiet⟩ : Sig) = ⟨[], true⟩ := by kernel_rfl
theorem chk33 : aH8 sgN vsN (sgN 33) fi33 vf33 = true := by kernel_rfl
theorem tab34 : mM Tryz.prog hh34 vf34.kept vf34.cons Tryz.f34 = some vf34 := by kernel_rfl
theorem sig34 : (⟨vf34.cons, vf34.quiet⟩ : Sig) = ⟨[], true⟩ := by kernel_rfl
theorem chk34 : aH8 sgN vsN (sgN 34) fi34 vf34 = true := by kernel_rfl
theorem tab35 : mM Tryz.prog hh35 vf35.kept vf35.cons Tryz.f35 = some vf35 := by kernel_rfl
theorem sig35 : (⟨vf35.cons, vf35.quiet⟩ : Sig) = ⟨[], true⟩ := by kernel_rfl
theorem chk35 : aH8 sgN vsN (sgN 35) fi35 vf35 = true := by kernel_rfl
theorem tab36 : mM Tryz.prog hh36 vf36.kept vf36.cons Tryz.f36 = some vf36 := by kernel_rfl
theorem sig36 : (⟨vf36.cons, vf36.quiet⟩ : Sig) = ⟨[], true⟩ := by kernel_rfl
theorem chk36 : aH8 sgN vsN (sgN 36) fi36 vf36 = true := by kernel_rfl
theorem tab37 : mM Tryz.prog hh37 vf37.kept vf37.cons Tryz.f37 = some vf37 := by kernel_rfl
theorem sig37 : (⟨vf37.cons, vf37.quiet⟩ : Sig) = ⟨[], true⟩ := by kernel_rfl
theorem chk37 : aH8 sgN vsN (sgN 37) fi37 vf37 = true := by kernel_rfl
theorem tab38 : mM Tryz.prog hh38 vf38.kept vf38.cons Tryz.f38 = some vf38 := by kernel_rfl
theorem sig38 : (⟨vf38.cons, vf38.quiet⟩ : Sig) = ⟨[], true⟩ := by kernel_rfl
theorem chk38 : aH8 sgN vsN (sgN 38) fi38 vf38 = true := by kernel_rfl
theorem tab39 : mM Tryz.prog hh39 vf39.kept vf39.cons Tryz.f39 = some vf39 := by kernel_rfl
theorem sig39 : (⟨vf39.cons, vf39.quiet⟩ : Sig) = ⟨[], true⟩ := by kernel_rfl
theorem chk39 : aH8 sgN vsN (sgN 39) fi39 vf39 = true := by kernel_rfl
theorem tab40 : mM Tryz.prog hh40 vf40.kept vf40.cons Tryz.f40 = some vf40 := by kernel_rfl
theorem sig40 : (⟨vf40.cons, vf40.quiet⟩ : Sig) = ⟨[], true⟩ := by kernel_rfl
theorem chk40 : aH8 sgN vsN (sgN 40) fi40 vf40 = true := by kernel_rfl
theorem tab41 : mM Tryz.prog hh41 vf41.kept vf41.cons Tryz.f41 = some vf41 := by kernel_rfl
theorem sig41 : (⟨vf41.cons, vf41.quiet⟩ : Sig) = ⟨[], true⟩ := by kernel_rfl
theorem chk41 : aH8 sgN vsN (sgN 41) fi41 vf41 = true := by kernel_rfl
theorem tab42 : mM Tryz.prog hh42 vf42.kept vf42.cons Tryz.f42 = some vf42 := by kernel_rfl
theorem sig42 : (⟨vf42.cons, vf42.quiet⟩ : Sig) = ⟨[], true⟩ := by kernel_rfl
theorem chk42 : aH8 sgN vsN (sgN 42) fi42 vf42 = true := by kernel_rfl
theorem tab44 : mM Tryz.prog hh44 vf44.kept vf44.cons Tryz.f44 = some vf44 := by kernel_rfl
theorem sig44 : (⟨vf44.cons, vf44.quiet⟩ : Sig) = ⟨[], true⟩ := by kernel_rfl
theorem chk44 : aH8 sgN vsN (sgN 44) fi44 vf44 = true := by kernel_rfl
theorem tab45 : mM Tryz.prog hh45 vf45.kept vf45.cons Tryz.f45 = some vf45 := by kernel_rfl
theorem sig45 : (⟨vf45.cons, vf45.quiet⟩ : Sig) = ⟨[], true⟩ := by kernel_rfl
theorem chk45 : aH8 sgN vsN (sgN 45) fi45 vf45 = true := by kernel_rfl
theorem tab46 : mM Tryz.prog hh46 vf46.kept vf46.cons Tryz.f46 = some vf46 := by kernel_rfl
theorem sig46 : (⟨vf46.cons, vf46.quiet⟩ : Sig) = ⟨[], true⟩ := by kernel_rfl
theorem chk46 : aH8 sgN vsN (sgN 46) fi46 vf46 = true := by kernel_rfl
theorem tab47 : mM Tryz.prog hh47 vf47.kept vf47.cons Tryz.f47 = some vf47 := by kernel_rfl
theorem sig47 : (⟨vf47.cons, vf47.quiet⟩ : Sig) = ⟨[], true⟩ := by kernel_rfl
theorem chk47 : aH8 sgN vsN (sgN 47) fi47 vf47 = true := by kernel_rfl
theorem tab49 : mM Tryz.prog hh49 vf49.kept vf49.cons Tryz.f49 = some vf49 := by kernel_rfl
theorem sig49 : (⟨vf49.cons, vf49.quiet⟩ : Sig) = ⟨[], true⟩ := by kernel_rfl
theorem chk49 : aH8 sgN vsN (sgN 49) fi49 vf49 = true := by kernel_rfl
theorem tab50 : mM Tryz.prog hh50 vf50.kept vf50.cons Tryz.f50 = some vf50 := by kernel_rfl
theorem sig50 : (⟨vf50.cons, vf50.quiet⟩ : Sig) = ⟨[], true⟩ := by kernel_rfl
theorem chk50 : aH8 sgN vsN (sgN 50) fi50 vf50 = true := by kernel_rfl
theorem tab51 : mM Tryz.prog hh51 vf51.kept vf51.cons Tryz.f51 = some vf51 := by kernel_rfl
theorem sig51 : (⟨vf51.cons, vf51.quiet⟩ : Sig) = ⟨[], true⟩ := by kernel_rfl
theorem chk51 : aH8 sgN vsN (sgN 51) fi51 vf51 = true := by kernel_rfl
theorem tab53 : mM Tryz.prog hh53 vf53.kept vf53.cons Tryz.f53 = some vf53 := by kernel_rfl
theorem sig53 : (⟨vf53.cons, vf53.quiet⟩ : Sig) = ⟨[], true⟩ := by kernel_rfl
theorem chk53 : aH8 sgN vsN (sgN 53) fi53 vf53 = true := by kernel_rfl
theorem tab55 : mM Tryz.prog hh55 vf55.kept vf55.cons Tryz.f55 = some vf55 := by kernel_rfl
theorem sig55 : (⟨vf55.cons, vf55.quiet⟩ : Sig) = ⟨[], true⟩ := by kernel_rfl
theorem chk55 : aH8 sgN vsN (sgN 55) fi55 vf55 = true := by kernel_rfl
theorem tab56 : mM Tryz.prog hh56 vf56.kept vf56.cons Tryz.f56 = some vf56 := by kernel_rfl
theorem sig56 : (⟨vf56.cons, vf56.quiet⟩ : Sig) = ⟨[], true⟩ := by kernel_rfl
theorem chk56 : aH8 sgN vsN (sgN 56) fi56 vf56 = true := by kernel_rfl
theorem tab57 : mM Tryz.prog hh57 vf57.kept vf57.cons Tryz.f57 = some vf57 := by kernel_rfl
theorem sig57 : (⟨vf57.cons, vf57.quiet⟩ : Sig) = ⟨[], true⟩ := by kernel_rfl
theorem chk57 : aH8 sgN vsN (sgN 57) fi57 vf57 = true := by kernel_rfl
theorem tab58 : mM Tryz.prog hh58 vf58.kept vf58.cons Tryz.f58 = some vf58 := by kernel_rfl
theorem sig58 : (⟨vf58.cons, vf58.quiet⟩ : Sig) = ⟨[], true⟩ := by kernel_rfl
theorem chk58 : aH8 sgN vsN (sgN 58) fi58 vf58 = true := by kernel_rfl
end Go.Proofs.YtlgnmgbnbomckaaGreatDoor
