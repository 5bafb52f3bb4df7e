/- The code is the program's; what is checked of it. -/
import Derived.Test.YtfglhfbnbdmhfaaGreatDoorNT
namespace Go.Proofs.YtfglhfbnbdmhfaaGreatDoor
open Go.VM
set_option maxRecDepth 100000
theorem tab24 : compileFn Tryz.prog hh24 vf24.kept vf24.cons Tryz.f24 = some vf24 := by kernel_rfl
theorem sig24 : (⟨vf24.cons, vf24.quiet⟩ : Sig) = ⟨[], true⟩ := by kernel_rfl
theorem chk24 : chkFn sgN vsN (sgN 24) fi24 vf24 = true := by kernel_rfl
theorem tab25 : compileFn Tryz.prog hh25 vf25.kept vf25.cons Tryz.f25 = some vf25 := by kernel_rfl
theorem sig25 : (⟨vf25.cons, vf25.quiet⟩ : Sig) = ⟨[], true⟩ := by kernel_rfl
theorem chk25 : chkFn sgN vsN (sgN 25) fi25 vf25 = true := by kernel_rfl
theorem tab33 : compileFn Tryz.prog hh33 vf33.kept vf33.cons Tryz.f33 = some vf33 := by kernel_rfl
theorem sig33 : (⟨vf33.cons, vf33.quiet⟩ : Sig) = ⟨[], true⟩ := by kernel_rfl
theorem chk33 : chkFn sgN vsN (sgN 33) fi33 vf33 = true := by kernel_rfl
theorem tab34 : compileFn Tryz.prog hh34 vf34.kept vf34.cons Tryz.f34 = some vf34 := by kernel_rfl
theorem sig34 : (⟨vf34.cons, vf34.quiet⟩ : Sig) = ⟨[], true⟩ := by kernel_rfl
theorem chk34 : chkFn sgN vsN (sgN 34) fi34 vf34 = true := by kernel_rfl
theorem tab35 : compileFn Tryz.prog hh35 vf35.kept vf35.cons Tryz.f35 = some vf35 := by kernel_rfl
theorem sig35 : (⟨vf35.cons, vf35.quiet⟩ : Sig) = ⟨[], true⟩ := by kernel_rfl
theorem chk35 : chkFn sgN vsN (sgN 35) fi35 vf35 = true := by kernel_rfl
theorem tab36 : compileFn Tryz.prog hh36 vf36.kept vf36.cons Tryz.f36 = some vf36 := by kernel_rfl
theorem sig36 : (⟨vf36.cons, vf36.quiet⟩ : Sig) = ⟨[], true⟩ := by kernel_rfl
theorem chk36 : chkFn sgN vsN (sgN 36) fi36 vf36 = true := by kernel_rfl
theorem tab38 : compileFn Tryz.prog hh38 vf38.kept vf38.cons Tryz.f38 = some vf38 := by kernel_rfl
theorem sig38 : (⟨vf38.cons, vf38.quiet⟩ : Sig) = ⟨[], true⟩ := by kernel_rfl
theorem chk38 : chkFn sgN vsN (sgN 38) fi38 vf38 = true := by kernel_rfl
theorem tab41 : compileFn Tryz.prog hh41 vf41.kept vf41.cons Tryz.f41 = some vf41 := by kernel_rfl
theorem sig41 : (⟨vf41.cons, vf41.quiet⟩ : Sig) = ⟨[], true⟩ := by kernel_rfl
theorem chk41 : chkFn sgN vsN (sgN 41) fi41 vf41 = true := by kernel_rfl
theorem tab43 : compileFn Tryz.prog hh43 vf43.kept vf43.cons Tryz.f43 = some vf43 := by kernel_rfl
theorem sig43 : (⟨vf43.cons, vf43.quiet⟩ : Sig) = ⟨[], true⟩ := by kernel_rfl
theorem chk43 : chkFn sgN vsN (sgN 43) fi43 vf43 = true := by kernel_rfl
theorem tab45 : compileFn Tryz.prog hh45 vf45.kept vf45.cons Tryz.f45 = some vf45 := by kernel_rfl
theorem sig45 : (⟨vf45.cons, vf45.quiet⟩ : Sig) = ⟨[], true⟩ := by kernel_rfl
theorem chk45 : chkFn sgN vsN (sgN 45) fi45 vf45 = true := by kernel_rfl
theorem tab55 : compileFn Tryz.prog hh55 vf55.kept vf55.cons Tryz.f55 = some vf55 := by kernel_rfl
theorem sig55 : (⟨vf55.cons, vf55.quiet⟩ : Sig) = ⟨[], true⟩ := by kernel_rfl
theorem chk55 : chkFn sgN vsN (sgN 55) fi55 vf55 = true := by kernel_rfl
theorem tab56 : compileFn Tryz.prog hh56 vf56.kept vf56.cons Tryz.f56 = some vf56 := by kernel_rfl
theorem sig56 : (⟨vf56.cons, vf56.quiet⟩ : Sig) = ⟨[], true⟩ := by kernel_rfl
theorem chk56 : chkFn sgN vsN (sgN 56) fi56 vf56 = true := by kernel_rfl
theorem tab58 : compileFn Tryz.prog hh58 vf58.kept vf58.cons Tryz.f58 = some vf58 := by kernel_rfl
theorem sig58 : (⟨vf58.cons, vf58.quiet⟩ : Sig) = ⟨[], true⟩ := by kernel_rfl
theorem chk58 : chkFn sgN vsN (sgN 58) fi58 vf58 = true := by kernel_rfl
theorem tab66 : compileFn Tryz.prog hh66 vf66.kept vf66.cons Tryz.f66 = some vf66 := by kernel_rfl
theorem sig66 : (⟨vf66.cons, vf66.quiet⟩ : Sig) = ⟨[0], true⟩ := by kernel_rfl
theorem chk66 : chkFn sgN vsN (sgN 66) fi66 vf66 = true := by kernel_rfl
theorem tab75 : compileFn Tryz.prog hh75 vf75.kept vf75.cons Tryz.f75 = some vf75 := by kernel_rfl
theorem sig75 : (⟨vf75.cons, vf75.quiet⟩ : Sig) = ⟨[], true⟩ := by kernel_rfl
theorem chk75 : chkFn sgN vsN (sgN 75) fi75 vf75 = true := by kernel_rfl
theorem tab83 : compileFn Tryz.prog hh83 vf83.kept vf83.cons Tryz.f83 = some vf83 := by kernel_rfl
theorem sig83 : (⟨vf83.cons, vf83.quiet⟩ : Sig) = ⟨[], true⟩ := by kernel_rfl
theorem chk83 : chkFn sgN vsN (sgN 83) fi83 vf83 = true := by kernel_rfl
end Go.Proofs.YtfglhfbnbdmhfaaGreatDoor
