/- The table is the program's, and the readings are the machine's. -/
import Derived.Test.YtfglhfbnbdmhfaaGreatDoorNK1
import Derived.Test.YtfglhfbnbdmhfaaGreatDoorNK2
import Derived.Test.YtfglhfbnbdmhfaaGreatDoorShelf
import Derived.Test.YtfglhfbnbdmhfaaGreatDoorTZ
namespace Go.Proofs.YtfglhfbnbdmhfaaGreatDoor
open Go.VM
set_option maxRecDepth 100000
abbrev Ow : World → Prop := Om Tryz.prog true true (some dbTab)
theorem prim11 : PrimOk Ow Tryz.prog 11 [] (pF gUpper) := by
 obtain ⟨c, hb⟩ : ∃ c, Tryz.f11.body = some c := ⟨_, rfl⟩
 exact gUpper_ok Tryz.func11 hb (by kernel_rfl) (fun s w h h2 => Tryz.strings_ToUpper_ascii s w h h2)
theorem prim15 : PrimOk Ow Tryz.prog 15 [] pJoin := by
 obtain ⟨c, hb⟩ : ∃ c, Tryz.f15.body = some c := ⟨_, rfl⟩
 exact pJoin_ok Tryz.func15 hb (by kernel_rfl) Tryz.strings_Join_none Tryz.strings_Join
theorem prim16 : PrimOk Ow Tryz.prog 16 [] (pF gReplace) := by
 obtain ⟨c, hb⟩ : ∃ c, Tryz.f16.body = some c := ⟨_, rfl⟩
 exact gReplace_ok Tryz.func16 hb (by kernel_rfl) (fun _ h => h.1) (fun s o n k w h hs h1 h2 => Tryz.strings_Replace_shaped s o n k w h hs h1 h2)
theorem prim18 : PrimOk Ow Tryz.prog 18 [] (pF gItoa) := by
 obtain ⟨c, hb⟩ : ∃ c, Tryz.f18.body = some c := ⟨_, rfl⟩
 exact gItoa_ok Tryz.func18 hb (by kernel_rfl) (fun _ h => h.2.1 rfl) (fun n h0 h1 w h => Tryz.strconv_Itoa n h0 h1 w h)
theorem prim23 : PrimOk Ow Tryz.prog 23 [] (pF gHasSuffix) := by
 obtain ⟨c, hb⟩ : ∃ c, Tryz.f23.body = some c := ⟨_, rfl⟩
 exact gHasSuffix_ok Tryz.func23 hb (by kernel_rfl) (fun s t w h => Tryz.strings_HasSuffix s t w h)
theorem prim32 : PrimOk Ow Tryz.prog 32 [] (pF gContains) := by
 obtain ⟨c, hb⟩ : ∃ c, Tryz.f32.body = some c := ⟨_, rfl⟩
 exact gContains_ok Tryz.func32 hb (by kernel_rfl) (fun _ h => h.1) (fun s t w h hs => Tryz.strings_Contains_shaped s t w h hs)
theorem prim37 : PrimOk Ow Tryz.prog 37 [] (pF gIndex) := by
 obtain ⟨c, hb⟩ : ∃ c, Tryz.f37.body = some c := ⟨_, rfl⟩
 exact gIndex_ok Tryz.func37 hb (by kernel_rfl) (fun _ h => h.1) (fun s t w h hs => Tryz.strings_Index_shaped s t w h hs)
theorem prim52 : PrimOk Ow Tryz.prog 52 [] (pF gSplit) := by
 obtain ⟨c, hb⟩ : ∃ c, Tryz.f52.body = some c := ⟨_, rfl⟩
 exact gSplit_ok Tryz.func52 hb (by kernel_rfl) (fun _ h => h.1) (fun s t w h hs h2 => Tryz.strings_Split_shaped s t w h hs h2)
theorem prim53 : PrimOk Ow Tryz.prog 53 [] (pF (gAtoi 128)) := by
 obtain ⟨c, hb⟩ : ∃ c, Tryz.f53.body = some c := ⟨_, rfl⟩
 exact gAtoi_ok Tryz.func53 hb (by kernel_rfl) (fun _ h => h.2.2.1 rfl) Tryz.strconv_Atoi_ok Tryz.strconv_Atoi_syntax_var Tryz.strconv_Atoi_range_var
theorem prim54 : PrimOk Ow Tryz.prog 54 [] (pF gCut) := by
 obtain ⟨c, hb⟩ : ∃ c, Tryz.f54.body = some c := ⟨_, rfl⟩
 exact gCut_ok Tryz.func54 hb (by kernel_rfl) (fun _ h => h.1) (fun s t w h hs => Tryz.strings_Cut_shaped s t w h hs)
theorem prim84 : PrimOk Ow Tryz.prog 84 [] (pF gTZ) := by
 obtain ⟨c, hb⟩ : ∃ c, Tryz.f84.body = some c := ⟨_, rfl⟩
 exact gTZ_ok Tryz.func84 hb (by kernel_rfl) (fun _ h => h.2.2.2 _ rfl) tz16
theorem prim94 : PrimOk Ow Tryz.prog 94 [] pIndexByte := by
 obtain ⟨c, hb⟩ : ∃ c, Tryz.f94.body = some c := ⟨_, rfl⟩
 exact pIndexByte_ok Tryz.func94 hb (by kernel_rfl) Tryz.strings_IndexByte
theorem tableOk : TableOk Ow Tryz.prog FT := by
  intro f e h
  unfold FT at h
  split at h
  · cases h; exact ⟨Tryz.f3, hh3, Tryz.func3, tab3⟩
  · cases h; exact ⟨Tryz.f4, hh4, Tryz.func4, tab4⟩
  · cases h; exact ⟨Tryz.f5, hh5, Tryz.func5, tab5⟩
  · cases h; exact ⟨Tryz.f6, hh6, Tryz.func6, tab6⟩
  · cases h; exact ⟨Tryz.f7, hh7, Tryz.func7, tab7⟩
  · cases h; exact ⟨Tryz.f8, hh8, Tryz.func8, tab8⟩
  · cases h; exact ⟨Tryz.f9, hh9, Tryz.func9, tab9⟩
  · cases h; exact ⟨Tryz.f10, hh10, Tryz.func10, tab10⟩
  · cases h; exact ⟨Tryz.f12, hh12, Tryz.func12, tab12⟩
  · cases h; exact ⟨Tryz.f13, hh13, Tryz.func13, tab13⟩
  · cases h; exact ⟨Tryz.f14, hh14, Tryz.func14, tab14⟩
  · cases h; exact ⟨Tryz.f17, hh17, Tryz.func17, tab17⟩
  · cases h; exact ⟨Tryz.f19, hh19, Tryz.func19, tab19⟩
  · cases h; exact ⟨Tryz.f20, hh20, Tryz.func20, tab20⟩
  · cases h; exact ⟨Tryz.f21, hh21, Tryz.func21, tab21⟩
  · cases h; exact ⟨Tryz.f22, hh22, Tryz.func22, tab22⟩
  · cases h; exact ⟨Tryz.f24, hh24, Tryz.func24, tab24⟩
  · cases h; exact ⟨Tryz.f25, hh25, Tryz.func25, tab25⟩
  · cases h; exact ⟨Tryz.f33, hh33, Tryz.func33, tab33⟩
  · cases h; exact ⟨Tryz.f34, hh34, Tryz.func34, tab34⟩
  · cases h; exact ⟨Tryz.f35, hh35, Tryz.func35, tab35⟩
  · cases h; exact ⟨Tryz.f36, hh36, Tryz.func36, tab36⟩
  · cases h; exact ⟨Tryz.f38, hh38, Tryz.func38, tab38⟩
  · cases h; exact ⟨Tryz.f41, hh41, Tryz.func41, tab41⟩
  · cases h; exact ⟨Tryz.f43, hh43, Tryz.func43, tab43⟩
  · cases h; exact ⟨Tryz.f45, hh45, Tryz.func45, tab45⟩
  · cases h; exact ⟨Tryz.f55, hh55, Tryz.func55, tab55⟩
  · cases h; exact ⟨Tryz.f56, hh56, Tryz.func56, tab56⟩
  · cases h; exact ⟨Tryz.f58, hh58, Tryz.func58, tab58⟩
  · cases h; exact ⟨Tryz.f66, hh66, Tryz.func66, tab66⟩
  · cases h; exact ⟨Tryz.f75, hh75, Tryz.func75, tab75⟩
  · cases h; exact ⟨Tryz.f83, hh83, Tryz.func83, tab83⟩
  · cases h; exact prim11
  · cases h; exact prim15
  · cases h; exact prim16
  · cases h; exact prim18
  · cases h; exact prim23
  · cases h; exact prim32
  · cases h; exact prim37
  · cases h; exact prim52
  · cases h; exact prim53
  · cases h; exact prim54
  · cases h; exact prim84
  · cases h; exact prim94
  · cases h
theorem neOk : ∀ f, NEOk sgN vsN FT f (TN f) := by
  intro f
  unfold TN
  split
  · exact ⟨rfl, chk3⟩
  · exact ⟨rfl, chk4⟩
  · exact ⟨rfl, chk5⟩
  · exact ⟨rfl, chk6⟩
  · exact ⟨rfl, chk7⟩
  · exact ⟨rfl, chk8⟩
  · exact ⟨rfl, chk9⟩
  · exact ⟨rfl, chk10⟩
  · exact ⟨rfl, chk12⟩
  · exact ⟨rfl, chk13⟩
  · exact ⟨rfl, chk14⟩
  · exact ⟨rfl, chk17⟩
  · exact ⟨rfl, chk19⟩
  · exact ⟨rfl, chk20⟩
  · exact ⟨rfl, chk21⟩
  · exact ⟨rfl, chk22⟩
  · exact ⟨rfl, chk24⟩
  · exact ⟨rfl, chk25⟩
  · exact ⟨rfl, chk33⟩
  · exact ⟨rfl, chk34⟩
  · exact ⟨rfl, chk35⟩
  · exact ⟨rfl, chk36⟩
  · exact ⟨rfl, chk38⟩
  · exact ⟨rfl, chk41⟩
  · exact ⟨rfl, chk43⟩
  · exact ⟨rfl, chk45⟩
  · exact ⟨rfl, chk55⟩
  · exact ⟨rfl, chk56⟩
  · exact ⟨rfl, chk58⟩
  · exact ⟨rfl, chk66⟩
  · exact ⟨rfl, chk75⟩
  · exact ⟨rfl, chk83⟩
  · exact fun N => qF_ok (s := sgN 11) rfl rfl (pksD rfl) (rsE rfl) N
  · exact fun N => qJoin_ok rfl N
  · exact fun N => qF_ok (s := sgN 16) rfl rfl (pksD rfl) (rsE rfl) N
  · exact fun N => qF_ok (s := sgN 18) rfl rfl (pksD rfl) (rsE rfl) N
  · exact fun N => qF_ok (s := sgN 23) rfl rfl (pksD rfl) (rsE rfl) N
  · exact fun N => qF_ok (s := sgN 32) rfl rfl (pksD rfl) (rsE rfl) N
  · exact fun N => qF_ok (s := sgN 37) rfl rfl (pksD rfl) (rsE rfl) N
  · exact fun N => qF_ok (s := sgN 52) rfl rfl (pksD rfl) (rsE rfl) N
  · exact fun N => qF_ok (s := sgN 53) rfl rfl (pksD rfl) (rsE rfl) N
  · exact fun N => qF_ok (s := sgN 54) rfl rfl (pksD rfl) (rsE rfl) N
  · exact fun N => qF_ok (s := sgN 84) rfl rfl (pksD rfl) (rsE rfl) N
  · exact fun N => qIndexByte_ok rfl N
  · trivial
theorem sigOk (f : Nat) : sigOf FT f = vsN f := by
  unfold vsN
  split
  · exact sig3
  · exact sig4
  · exact sig5
  · exact sig6
  · exact sig7
  · exact sig8
  · exact sig9
  · exact sig10
  · exact sig12
  · exact sig13
  · exact sig14
  · exact sig17
  · exact sig19
  · exact sig20
  · exact sig21
  · exact sig22
  · exact sig24
  · exact sig25
  · exact sig33
  · exact sig34
  · exact sig35
  · exact sig36
  · exact sig38
  · exact sig41
  · exact sig43
  · exact sig45
  · exact sig55
  · exact sig56
  · exact sig58
  · exact sig66
  · exact sig75
  · exact sig83
  · rfl
  · rfl
  · rfl
  · rfl
  · rfl
  · rfl
  · rfl
  · rfl
  · rfl
  · rfl
  · rfl
  · rfl
  · rename_i h3 h4 h5 h6 h7 h8 h9 h10 h12 h13 h14 h17 h19 h20 h21 h22 h24 h25 h33 h34 h35 h36 h38 h41 h43 h45 h55 h56 h58 h66 h75 h83 h11 h15 h16 h18 h23 h32 h37 h52 h53 h54 h84 h94
    have e : FT f = none := by
      unfold FT
      split
      · exact (h3 rfl).elim
      · exact (h4 rfl).elim
      · exact (h5 rfl).elim
      · exact (h6 rfl).elim
      · exact (h7 rfl).elim
      · exact (h8 rfl).elim
      · exact (h9 rfl).elim
      · exact (h10 rfl).elim
      · exact (h12 rfl).elim
      · exact (h13 rfl).elim
      · exact (h14 rfl).elim
      · exact (h17 rfl).elim
      · exact (h19 rfl).elim
      · exact (h20 rfl).elim
      · exact (h21 rfl).elim
      · exact (h22 rfl).elim
      · exact (h24 rfl).elim
      · exact (h25 rfl).elim
      · exact (h33 rfl).elim
      · exact (h34 rfl).elim
      · exact (h35 rfl).elim
      · exact (h36 rfl).elim
      · exact (h38 rfl).elim
      · exact (h41 rfl).elim
      · exact (h43 rfl).elim
      · exact (h45 rfl).elim
      · exact (h55 rfl).elim
      · exact (h56 rfl).elim
      · exact (h58 rfl).elim
      · exact (h66 rfl).elim
      · exact (h75 rfl).elim
      · exact (h83 rfl).elim
      · exact (h11 rfl).elim
      · exact (h15 rfl).elim
      · exact (h16 rfl).elim
      · exact (h18 rfl).elim
      · exact (h23 rfl).elim
      · exact (h32 rfl).elim
      · exact (h37 rfl).elim
      · exact (h52 rfl).elim
      · exact (h53 rfl).elim
      · exact (h54 rfl).elim
      · exact (h84 rfl).elim
      · exact (h94 rfl).elim
      · rfl
    unfold sigOf; rw [e]
theorem typed : ∀ N f, FnOk (sigOf FT) (call FT N) f (nfN TN N f) := tab_sound sigOk neOk
end Go.Proofs.YtfglhfbnbdmhfaaGreatDoor
