/- The table is the program's. -/
import Derived.Test.YtndaipcfahfkkaaTab
import Derived.Test.YtndaipcfahfkkaaShelf
namespace Go.Proofs.Ytndaipcfahfkkaa
open Go.VM
theorem join_ok : PrimOk Try.prog 34 [] pJoin := by
  have hb : ∃ c, Try.f34.body = some c := ⟨_, rfl⟩
  obtain ⟨c, hb⟩ := hb
  exact pJoin_ok Try.func34 hb (by kernel_rfl) Try.strings_Join_none Try.strings_Join
theorem indexByte_ok : PrimOk Try.prog 35 [] pIndexByte := by
  have hb : ∃ c, Try.f35.body = some c := ⟨_, rfl⟩
  obtain ⟨c, hb⟩ := hb
  exact pIndexByte_ok Try.func35 hb (by kernel_rfl) Try.strings_IndexByte
theorem tableOk : TableOk Try.prog FT := by
  intro f e h
  unfold FT at h
  split at h
  · cases h; exact ⟨Try.f3, hh3, Try.func3, tab3⟩
  · cases h; exact ⟨Try.f4, hh4, Try.func4, tab4⟩
  · cases h; exact ⟨Try.f5, hh5, Try.func5, tab5⟩
  · cases h; exact ⟨Try.f6, hh6, Try.func6, tab6⟩
  · cases h; exact ⟨Try.f7, hh7, Try.func7, tab7⟩
  · cases h; exact ⟨Try.f8, hh8, Try.func8, tab8⟩
  · cases h; exact ⟨Try.f9, hh9, Try.func9, tab9⟩
  · cases h; exact ⟨Try.f10, hh10, Try.func10, tab10⟩
  · cases h; exact ⟨Try.f11, hh11, Try.func11, tab11⟩
  · cases h; exact ⟨Try.f12, hh12, Try.func12, tab12⟩
  · cases h; exact ⟨Try.f13, hh13, Try.func13, tab13⟩
  · cases h; exact ⟨Try.f14, hh14, Try.func14, tab14⟩
  · cases h; exact ⟨Try.f15, hh15, Try.func15, tab15⟩
  · cases h; exact ⟨Try.f16, hh16, Try.func16, tab16⟩
  · cases h; exact ⟨Try.f17, hh17, Try.func17, tab17⟩
  · cases h; exact ⟨Try.f18, hh18, Try.func18, tab18⟩
  · cases h; exact ⟨Try.f19, hh19, Try.func19, tab19⟩
  · cases h; exact ⟨Try.f20, hh20, Try.func20, tab20⟩
  · cases h; exact ⟨Try.f21, hh21, Try.func21, tab21⟩
  · cases h; exact ⟨Try.f22, hh22, Try.func22, tab22⟩
  · cases h; exact ⟨Try.f23, hh23, Try.func23, tab23⟩
  · cases h; exact ⟨Try.f24, hh24, Try.func24, tab24⟩
  · cases h; exact ⟨Try.f25, hh25, Try.func25, tab25⟩
  · cases h; exact ⟨Try.f26, hh26, Try.func26, tab26⟩
  · cases h; exact ⟨Try.f27, hh27, Try.func27, tab27⟩
  · cases h; exact ⟨Try.f28, hh28, Try.func28, tab28⟩
  · cases h; exact ⟨Try.f29, hh29, Try.func29, tab29⟩
  · cases h; exact ⟨Try.f30, hh30, Try.func30, tab30⟩
  · cases h; exact ⟨Try.f31, hh31, Try.func31, tab31⟩
  · cases h; exact ⟨Try.f32, hh32, Try.func32, tab32⟩
  · cases h; exact ⟨Try.f33, hh33, Try.func33, tab33⟩
  · cases h; exact ⟨Try.f36, hh36, Try.func36, tab36⟩
  · cases h; exact ⟨Try.f37, hh37, Try.func37, tab37⟩
  · cases h; exact ⟨Try.f38, hh38, Try.func38, tab38⟩
  · cases h; exact ⟨Try.f39, hh39, Try.func39, tab39⟩
  · cases h; exact ⟨Try.f40, hh40, Try.func40, tab40⟩
  · cases h; exact join_ok
  · cases h; exact indexByte_ok
  · cases h
end Go.Proofs.Ytndaipcfahfkkaa
