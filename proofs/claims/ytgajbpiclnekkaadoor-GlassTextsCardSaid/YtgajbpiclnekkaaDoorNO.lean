/- The table is the program's, and the readings are the machine's. -/
import Derived.Test.YtgajbpiclnekkaaDoorNK1
import Derived.Test.YtgajbpiclnekkaaDoorShelf
namespace Go.Proofs.YtgajbpiclnekkaaDoor
open Go.VM
set_option maxRecDepth 100000
abbrev Ow : World → Prop := Om Tryd.prog true true none
theorem prim10 : PrimOk Ow Tryd.prog 10 [] (pF gItoa) := by
 obtain ⟨c, hb⟩ : ∃ c, Tryd.f10.body = some c := ⟨_, rfl⟩
 exact gItoa_ok Tryd.func10 hb (by kernel_rfl) (fun _ h => h.2.1 rfl) (fun n h0 h1 w h => Tryd.strconv_Itoa n h0 h1 w h)
theorem prim11 : PrimOk Ow Tryd.prog 11 [] pJoin := by
 obtain ⟨c, hb⟩ : ∃ c, Tryd.f11.body = some c := ⟨_, rfl⟩
 exact pJoin_ok Tryd.func11 hb (by kernel_rfl) Tryd.strings_Join_none Tryd.strings_Join
theorem prim12 : PrimOk Ow Tryd.prog 12 [] (pF gSplit) := by
 obtain ⟨c, hb⟩ : ∃ c, Tryd.f12.body = some c := ⟨_, rfl⟩
 exact gSplit_ok Tryd.func12 hb (by kernel_rfl) (fun _ h => h.1) (fun s t w h hs h2 => Tryd.strings_Split_shaped s t w h hs h2)
theorem prim13 : PrimOk Ow Tryd.prog 13 [] (pF (gParseInt 60)) := by
 obtain ⟨c, hb⟩ : ∃ c, Tryd.f13.body = some c := ⟨_, rfl⟩
 exact gParseInt_ok Tryd.func13 hb (by kernel_rfl) (fun _ h => h.2.2.1 rfl) Tryd.strconv_ParseInt_10_at64_ok Tryd.strconv_ParseInt_10_at64_syntax_var Tryd.strconv_ParseInt_10_at64_range_var
theorem prim14 : PrimOk Ow Tryd.prog 14 [] (pF gFormatInt) := by
 obtain ⟨c, hb⟩ : ∃ c, Tryd.f14.body = some c := ⟨_, rfl⟩
 exact gFormatInt_ok Tryd.func14 hb (by kernel_rfl) (fun _ h => h.2.1 rfl) (fun n h0 h1 w h => Tryd.strconv_FormatInt_10 n h0 h1 w h)
theorem tableOk : TableOk Ow Tryd.prog FT := by
  intro f e h
  unfold FT at h
  split at h
  · cases h; exact ⟨Tryd.f3, hh3, Tryd.func3, tab3⟩
  · cases h; exact ⟨Tryd.f4, hh4, Tryd.func4, tab4⟩
  · cases h; exact ⟨Tryd.f5, hh5, Tryd.func5, tab5⟩
  · cases h; exact ⟨Tryd.f6, hh6, Tryd.func6, tab6⟩
  · cases h; exact ⟨Tryd.f7, hh7, Tryd.func7, tab7⟩
  · cases h; exact ⟨Tryd.f8, hh8, Tryd.func8, tab8⟩
  · cases h; exact ⟨Tryd.f9, hh9, Tryd.func9, tab9⟩
  · cases h; exact prim10
  · cases h; exact prim11
  · cases h; exact prim12
  · cases h; exact prim13
  · cases h; exact prim14
  · cases h
theorem neOk : ∀ f, NEOk sgN vsN FT f (TN f) := by
  intro f
  unfold TN
  split
  · exact ⟨rfl, chk3⟩
  · exact ⟨rfl, chk4⟩
  · exact ⟨rfl, chk5⟩
  · exact ⟨rfl, chk6⟩
  · exact ⟨rfl, chk7⟩
  · exact ⟨rfl, chk8⟩
  · exact ⟨rfl, chk9⟩
  · exact fun N => qF_ok (s := sgN 10) rfl rfl (pksD rfl) (rsE rfl) N
  · exact fun N => qJoin_ok rfl N
  · exact fun N => qF_ok (s := sgN 12) rfl rfl (pksD rfl) (rsE rfl) N
  · exact fun N => qF_ok (s := sgN 13) rfl rfl (pksD rfl) (rsE rfl) N
  · exact fun N => qF_ok (s := sgN 14) rfl rfl (pksD rfl) (rsE rfl) N
  · trivial
theorem sigOk (f : Nat) : sigOf FT f = vsN f := by
  unfold vsN
  split
  · exact sig3
  · exact sig4
  · exact sig5
  · exact sig6
  · exact sig7
  · exact sig8
  · exact sig9
  · rfl
  · rfl
  · rfl
  · rfl
  · rfl
  · rename_i h3 h4 h5 h6 h7 h8 h9 h10 h11 h12 h13 h14
    have e : FT f = none := by
      unfold FT
      split
      · exact (h3 rfl).elim
      · exact (h4 rfl).elim
      · exact (h5 rfl).elim
      · exact (h6 rfl).elim
      · exact (h7 rfl).elim
      · exact (h8 rfl).elim
      · exact (h9 rfl).elim
      · exact (h10 rfl).elim
      · exact (h11 rfl).elim
      · exact (h12 rfl).elim
      · exact (h13 rfl).elim
      · exact (h14 rfl).elim
      · rfl
    unfold sigOf; rw [e]
theorem typed : ∀ N f, FnOk (sigOf FT) (call FT N) f (nfN TN N f) := tab_sound sigOk neOk
end Go.Proofs.YtgajbpiclnekkaaDoor
