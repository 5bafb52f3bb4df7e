/- The code is the program's; what is checked of it. -/
import Derived.Test.YtgajbpiclnekkaaDoorNT
namespace Go.Proofs.YtgajbpiclnekkaaDoor
open Go.VM
set_option maxRecDepth 100000
theorem tab3 : compileFn Tryd.prog hh3 vf3.kept vf3.cons Tryd.f3 = some vf3 := by kernel_rfl
theorem sig3 : (⟨vf3.cons, vf3.quiet⟩ : Sig) = ⟨[], true⟩ := by kernel_rfl
theorem chk3 : chkFn sgN vsN (sgN 3) fi3 vf3 = true := by kernel_rfl
theorem tab4 : compileFn Tryd.prog hh4 vf4.kept vf4.cons Tryd.f4 = some vf4 := by kernel_rfl
theorem sig4 : (⟨vf4.cons, vf4.quiet⟩ : Sig) = ⟨[], true⟩ := by kernel_rfl
theorem chk4 : chkFn sgN vsN (sgN 4) fi4 vf4 = true := by kernel_rfl
theorem tab5 : compileFn Tryd.prog hh5 vf5.kept vf5.cons Tryd.f5 = some vf5 := by kernel_rfl
theorem sig5 : (⟨vf5.cons, vf5.quiet⟩ : Sig) = ⟨[], true⟩ := by kernel_rfl
theorem chk5 : chkFn sgN vsN (sgN 5) fi5 vf5 = true := by kernel_rfl
theorem tab6 : compileFn Tryd.prog hh6 vf6.kept vf6.cons Tryd.f6 = some vf6 := by kernel_rfl
theorem sig6 : (⟨vf6.cons, vf6.quiet⟩ : Sig) = ⟨[], true⟩ := by kernel_rfl
theorem chk6 : chkFn sgN vsN (sgN 6) fi6 vf6 = true := by kernel_rfl
theorem tab7 : compileFn Tryd.prog hh7 vf7.kept vf7.cons Tryd.f7 = some vf7 := by kernel_rfl
theorem sig7 : (⟨vf7.cons, vf7.quiet⟩ : Sig) = ⟨[], true⟩ := by kernel_rfl
theorem chk7 : chkFn sgN vsN (sgN 7) fi7 vf7 = true := by kernel_rfl
theorem tab8 : compileFn Tryd.prog hh8 vf8.kept vf8.cons Tryd.f8 = some vf8 := by kernel_rfl
theorem sig8 : (⟨vf8.cons, vf8.quiet⟩ : Sig) = ⟨[], true⟩ := by kernel_rfl
theorem chk8 : chkFn sgN vsN (sgN 8) fi8 vf8 = true := by kernel_rfl
theorem tab9 : compileFn Tryd.prog hh9 vf9.kept vf9.cons Tryd.f9 = some vf9 := by kernel_rfl
theorem sig9 : (⟨vf9.cons, vf9.quiet⟩ : Sig) = ⟨[], true⟩ := by kernel_rfl
theorem chk9 : chkFn sgN vsN (sgN 9) fi9 vf9 = true := by kernel_rfl
end Go.Proofs.YtgajbpiclnekkaaDoor
