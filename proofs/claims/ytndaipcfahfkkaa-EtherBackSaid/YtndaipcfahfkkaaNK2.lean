/- The code is the program's; what is checked of it. -/
import Derived.Test.YtndaipcfahfkkaaNT
namespace Go.Proofs.Ytndaipcfahfkkaa
open Go.VM
set_option maxRecDepth 100000
theorem tab21 : compileFn Try.prog hh21 vf21.kept vf21.cons Try.f21 = some vf21 := by kernel_rfl
theorem sig21 : (⟨vf21.cons, vf21.quiet⟩ : Sig) = ⟨[], true⟩ := by kernel_rfl
theorem chk21 : chkFn sgN vsN (sgN 21) fi21 vf21 = true := by kernel_rfl
theorem tab22 : compileFn Try.prog hh22 vf22.kept vf22.cons Try.f22 = some vf22 := by kernel_rfl
theorem sig22 : (⟨vf22.cons, vf22.quiet⟩ : Sig) = ⟨[], true⟩ := by kernel_rfl
theorem chk22 : chkFn sgN vsN (sgN 22) fi22 vf22 = true := by kernel_rfl
theorem tab23 : compileFn Try.prog hh23 vf23.kept vf23.cons Try.f23 = some vf23 := by kernel_rfl
theorem sig23 : (⟨vf23.cons, vf23.quiet⟩ : Sig) = ⟨[], true⟩ := by kernel_rfl
theorem chk23 : chkFn sgN vsN (sgN 23) fi23 vf23 = true := by kernel_rfl
theorem tab24 : compileFn Try.prog hh24 vf24.kept vf24.cons Try.f24 = some vf24 := by kernel_rfl
theorem sig24 : (⟨vf24.cons, vf24.quiet⟩ : Sig) = ⟨[], true⟩ := by kernel_rfl
theorem chk24 : chkFn sgN vsN (sgN 24) fi24 vf24 = true := by kernel_rfl
theorem tab25 : compileFn Try.prog hh25 vf25.kept vf25.cons Try.f25 = some vf25 := by kernel_rfl
theorem sig25 : (⟨vf25.cons, vf25.quiet⟩ : Sig) = ⟨[], false⟩ := by kernel_rfl
theorem chk25 : chkFn sgN vsN (sgN 25) fi25 vf25 = true := by kernel_rfl
theorem tab26 : compileFn Try.prog hh26 vf26.kept vf26.cons Try.f26 = some vf26 := by kernel_rfl
theorem sig26 : (⟨vf26.cons, vf26.quiet⟩ : Sig) = ⟨[], true⟩ := by kernel_rfl
theorem chk26 : chkFn sgN vsN (sgN 26) fi26 vf26 = true := by kernel_rfl
theorem tab27 : compileFn Try.prog hh27 vf27.kept vf27.cons Try.f27 = some vf27 := by kernel_rfl
theorem sig27 : (⟨vf27.cons, vf27.quiet⟩ : Sig) = ⟨[], true⟩ := by kernel_rfl
theorem chk27 : chkFn sgN vsN (sgN 27) fi27 vf27 = true := by kernel_rfl
theorem tab28 : compileFn Try.prog hh28 vf28.kept vf28.cons Try.f28 = some vf28 := by kernel_rfl
theorem sig28 : (⟨vf28.cons, vf28.quiet⟩ : Sig) = ⟨[], true⟩ := by kernel_rfl
theorem chk28 : chkFn sgN vsN (sgN 28) fi28 vf28 = true := by kernel_rfl
theorem tab29 : compileFn Try.prog hh29 vf29.kept vf29.cons Try.f29 = some vf29 := by kernel_rfl
theorem sig29 : (⟨vf29.cons, vf29.quiet⟩ : Sig) = ⟨[], true⟩ := by kernel_rfl
theorem chk29 : chkFn sgN vsN (sgN 29) fi29 vf29 = true := by kernel_rfl
theorem tab30 : compileFn Try.prog hh30 vf30.kept vf30.cons Try.f30 = some vf30 := by kernel_rfl
theorem sig30 : (⟨vf30.cons, vf30.quiet⟩ : Sig) = ⟨[], true⟩ := by kernel_rfl
theorem chk30 : chkFn sgN vsN (sgN 30) fi30 vf30 = true := by kernel_rfl
theorem tab31 : compileFn Try.prog hh31 vf31.kept vf31.cons Try.f31 = some vf31 := by kernel_rfl
theorem sig31 : (⟨vf31.cons, vf31.quiet⟩ : Sig) = ⟨[], true⟩ := by kernel_rfl
theorem chk31 : chkFn sgN vsN (sgN 31) fi31 vf31 = true := by kernel_rfl
theorem tab32 : compileFn Try.prog hh32 vf32.kept vf32.cons Try.f32 = some vf32 := by kernel_rfl
theorem sig32 : (⟨vf32.cons, vf32.quiet⟩ : Sig) = ⟨[], true⟩ := by kernel_rfl
theorem chk32 : chkFn sgN vsN (sgN 32) fi32 vf32 = true := by kernel_rfl
theorem tab33 : compileFn Try.prog hh33 vf33.kept vf33.cons Try.f33 = some vf33 := by kernel_rfl
theorem sig33 : (⟨vf33.cons, vf33.quiet⟩ : Sig) = ⟨[], true⟩ := by kernel_rfl
theorem chk33 : chkFn sgN vsN (sgN 33) fi33 vf33 = true := by kernel_rfl
theorem tab36 : compileFn Try.prog hh36 vf36.kept vf36.cons Try.f36 = some vf36 := by kernel_rfl
theorem sig36 : (⟨vf36.cons, vf36.quiet⟩ : Sig) = ⟨[], true⟩ := by kernel_rfl
theorem chk36 : chkFn sgN vsN (sgN 36) fi36 vf36 = true := by kernel_rfl
theorem tab37 : compileFn Try.prog hh37 vf37.kept vf37.cons Try.f37 = some vf37 := by kernel_rfl
theorem sig37 : (⟨vf37.cons, vf37.quiet⟩ : Sig) = ⟨[], false⟩ := by kernel_rfl
theorem chk37 : chkFn sgN vsN (sgN 37) fi37 vf37 = true := by kernel_rfl
theorem tab38 : compileFn Try.prog hh38 vf38.kept vf38.cons Try.f38 = some vf38 := by kernel_rfl
theorem sig38 : (⟨vf38.cons, vf38.quiet⟩ : Sig) = ⟨[], false⟩ := by kernel_rfl
theorem chk38 : chkFn sgN vsN (sgN 38) fi38 vf38 = true := by kernel_rfl
theorem tab39 : compileFn Try.prog hh39 vf39.kept vf39.cons Try.f39 = some vf39 := by kernel_rfl
theorem sig39 : (⟨vf39.cons, vf39.quiet⟩ : Sig) = ⟨[0], true⟩ := by kernel_rfl
theorem chk39 : chkFn sgN vsN (sgN 39) fi39 vf39 = true := by kernel_rfl
theorem tab40 : compileFn Try.prog hh40 vf40.kept vf40.cons Try.f40 = some vf40 := by kernel_rfl
theorem sig40 : (⟨vf40.cons, vf40.quiet⟩ : Sig) = ⟨[], true⟩ := by kernel_rfl
theorem chk40 : chkFn sgN vsN (sgN 40) fi40 vf40 = true := by kernel_rfl
end Go.Proofs.Ytndaipcfahfkkaa
