/- The table is the program's, and the readings are the machine's. -/
import Derived.Test.YtndaipcfahfkkaaNK1
import Derived.Test.YtndaipcfahfkkaaNK2
import Derived.Test.YtndaipcfahfkkaaShelf
namespace Go.Proofs.Ytndaipcfahfkkaa
open Go.VM
set_option maxRecDepth 100000
theorem prim34 : PrimOk Try.prog 34 [] pJoin := by
  obtain ⟨c, hb⟩ : ∃ c, Try.f34.body = some c := ⟨_, rfl⟩
  exact pJoin_ok Try.func34 hb (by kernel_rfl) Try.strings_Join_none Try.strings_Join
theorem prim35 : PrimOk Try.prog 35 [] pIndexByte := by
  obtain ⟨c, hb⟩ : ∃ c, Try.f35.body = some c := ⟨_, rfl⟩
  exact pIndexByte_ok Try.func35 hb (by kernel_rfl) Try.strings_IndexByte
theorem tableOk : TableOk Try.prog FT := by
  intro f e h
  unfold FT at h
  split at h
  · cases h; exact ⟨Try.f3, hh3, Try.func3, tab3⟩
  · cases h; exact ⟨Try.f4, hh4, Try.func4, tab4⟩
  · cases h; exact ⟨Try.f5, hh5, Try.func5, tab5⟩
  · cases h; exact ⟨Try.f6, hh6, Try.func6, tab6⟩
  · cases h; exact ⟨Try.f7, hh7, Try.func7, tab7⟩
  · cases h; exact ⟨Try.f8, hh8, Try.func8, tab8⟩
  · cases h; exact ⟨Try.f9, hh9, Try.func9, tab9⟩
  · cases h; exact ⟨Try.f10, hh10, Try.func10, tab10⟩
  · cases h; exact ⟨Try.f11, hh11, Try.func11, tab11⟩
  · cases h; exact ⟨Try.f12, hh12, Try.func12, tab12⟩
  · cases h; exact ⟨Try.f13, hh13, Try.func13, tab13⟩
  · cases h; exact ⟨Try.f14, hh14, Try.func14, tab14⟩
  · cases h; exact ⟨Try.f15, hh15, Try.func15, tab15⟩
  · cases h; exact ⟨Try.f16, hh16, Try.func16, tab16⟩
  · cases h; exact ⟨Try.f17, hh17, Try.func17, tab17⟩
  · cases h; exact ⟨Try.f18, hh18, Try.func18, tab18⟩
  · cases h; exact ⟨Try.f19, hh19, Try.func19, tab19⟩
  · cases h; exact ⟨Try.f20, hh20, Try.func20, tab20⟩
  · cases h; exact ⟨Try.f21, hh21, Try.func21, tab21⟩
  · cases h; exact ⟨Try.f22, hh22, Try.func22, tab22⟩
  · cases h; exact ⟨Try.f23, hh23, Try.func23, tab23⟩
  · cases h; exact ⟨Try.f24, hh24, Try.func24, tab24⟩
  · cases h; exact ⟨Try.f25, hh25, Try.func25, tab25⟩
  · cases h; exact ⟨Try.f26, hh26, Try.func26, tab26⟩
  · cases h; exact ⟨Try.f27, hh27, Try.func27, tab27⟩
  · cases h; exact ⟨Try.f28, hh28, Try.func28, tab28⟩
  · cases h; exact ⟨Try.f29, hh29, Try.func29, tab29⟩
  · cases h; exact ⟨Try.f30, hh30, Try.func30, tab30⟩
  · cases h; exact ⟨Try.f31, hh31, Try.func31, tab31⟩
  · cases h; exact ⟨Try.f32, hh32, Try.func32, tab32⟩
  · cases h; exact ⟨Try.f33, hh33, Try.func33, tab33⟩
  · cases h; exact ⟨Try.f36, hh36, Try.func36, tab36⟩
  · cases h; exact ⟨Try.f37, hh37, Try.func37, tab37⟩
  · cases h; exact ⟨Try.f38, hh38, Try.func38, tab38⟩
  · cases h; exact ⟨Try.f39, hh39, Try.func39, tab39⟩
  · cases h; exact ⟨Try.f40, hh40, Try.func40, tab40⟩
  · cases h; exact prim34
  · cases h; exact prim35
  · cases h
theorem neOk : ∀ f, NEOk sgN vsN FT f (TN f) := by
  intro f
  unfold TN
  split
  · exact ⟨rfl, chk3⟩
  · exact ⟨rfl, chk4⟩
  · exact ⟨rfl, chk5⟩
  · exact ⟨rfl, chk6⟩
  · exact ⟨rfl, chk7⟩
  · exact ⟨rfl, chk8⟩
  · exact ⟨rfl, chk9⟩
  · exact ⟨rfl, chk10⟩
  · exact ⟨rfl, chk11⟩
  · exact ⟨rfl, chk12⟩
  · exact ⟨rfl, chk13⟩
  · exact ⟨rfl, chk14⟩
  · exact ⟨rfl, chk15⟩
  · exact ⟨rfl, chk16⟩
  · exact ⟨rfl, chk17⟩
  · exact ⟨rfl, chk18⟩
  · exact ⟨rfl, chk19⟩
  · exact ⟨rfl, chk20⟩
  · exact ⟨rfl, chk21⟩
  · exact ⟨rfl, chk22⟩
  · exact ⟨rfl, chk23⟩
  · exact ⟨rfl, chk24⟩
  · exact ⟨rfl, chk25⟩
  · exact ⟨rfl, chk26⟩
  · exact ⟨rfl, chk27⟩
  · exact ⟨rfl, chk28⟩
  · exact ⟨rfl, chk29⟩
  · exact ⟨rfl, chk30⟩
  · exact ⟨rfl, chk31⟩
  · exact ⟨rfl, chk32⟩
  · exact ⟨rfl, chk33⟩
  · exact ⟨rfl, chk36⟩
  · exact ⟨rfl, chk37⟩
  · exact ⟨rfl, chk38⟩
  · exact ⟨rfl, chk39⟩
  · exact ⟨rfl, chk40⟩
  · exact fun N => qJoin_ok rfl N
  · exact fun N => qIndexByte_ok rfl N
  · trivial
theorem sigOk (f : Nat) : sigOf FT f = vsN f := by
  unfold vsN
  split
  · exact sig3
  · exact sig4
  · exact sig5
  · exact sig6
  · exact sig7
  · exact sig8
  · exact sig9
  · exact sig10
  · exact sig11
  · exact sig12
  · exact sig13
  · exact sig14
  · exact sig15
  · exact sig16
  · exact sig17
  · exact sig18
  · exact sig19
  · exact sig20
  · exact sig21
  · exact sig22
  · exact sig23
  · exact sig24
  · exact sig25
  · exact sig26
  · exact sig27
  · exact sig28
  · exact sig29
  · exact sig30
  · exact sig31
  · exact sig32
  · exact sig33
  · exact sig36
  · exact sig37
  · exact sig38
  · exact sig39
  · exact sig40
  · rfl
  · rfl
  · rename_i h3 h4 h5 h6 h7 h8 h9 h10 h11 h12 h13 h14 h15 h16 h17 h18 h19 h20 h21 h22 h23 h24 h25 h26 h27 h28 h29 h30 h31 h32 h33 h36 h37 h38 h39 h40 h34 h35
    unfold sigOf FT
    split
    · rename_i h; split at h <;> simp_all
    · rename_i h; split at h <;> simp_all
    · rfl
theorem typed : ∀ N f, FnOk (sigOf FT) (call FT N) f (nfN TN N f) := tab_sound sigOk neOk
end Go.Proofs.Ytndaipcfahfkkaa
