/- The table is the program's, and the readings are the machine's. -/
import Derived.Test.YtfglhfbnbdmhfaaDoorNK1
import Derived.Test.YtfglhfbnbdmhfaaDoorNK2
import Derived.Test.YtfglhfbnbdmhfaaDoorShelf
import Derived.Test.YtfglhfbnbdmhfaaDoorTZ
namespace Go.Proofs.YtfglhfbnbdmhfaaDoor
open Go.VM
set_option maxRecDepth 100000
abbrev Ow:World→Prop:=Om Tryd.prog true true (some dbTab)
theorem prim12:PrimOk Ow Tryd.prog 12 [] (pF gCount):=by
 obtain ⟨c,hb⟩:∃ c,Tryd.f12.body=some c:=⟨_,rfl⟩
 exact gCount_ok Tryd.func12 hb (by kernel_rfl) (fun _ h=>h.1) (fun s t w h hs h2=>Tryd.strings_Count_shaped s t w h hs h2)
theorem prim13:PrimOk Ow Tryd.prog 13 [] (pF gContains):=by
 obtain ⟨c,hb⟩:∃ c,Tryd.f13.body=some c:=⟨_,rfl⟩
 exact gContains_ok Tryd.func13 hb (by kernel_rfl) (fun _ h=>h.1) (fun s t w h hs=>Tryd.strings_Contains_shaped s t w h hs)
theorem prim14:PrimOk Ow Tryd.prog 14 [] (pF gSplit):=by
 obtain ⟨c,hb⟩:∃ c,Tryd.f14.body=some c:=⟨_,rfl⟩
 exact gSplit_ok Tryd.func14 hb (by kernel_rfl) (fun _ h=>h.1) (fun s t w h hs h2=>Tryd.strings_Split_shaped s t w h hs h2)
theorem prim29:PrimOk Ow Tryd.prog 29 [] (pF gLower):=by
 obtain ⟨c,hb⟩:∃ c,Tryd.f29.body=some c:=⟨_,rfl⟩
 exact gLower_ok Tryd.func29 hb (by kernel_rfl) (fun s w h h2=>Tryd.strings_ToLower_ascii s w h h2)
theorem prim31:PrimOk Ow Tryd.prog 31 [] (pF gItoa):=by
 obtain ⟨c,hb⟩:∃ c,Tryd.f31.body=some c:=⟨_,rfl⟩
 exact gItoa_ok Tryd.func31 hb (by kernel_rfl) (fun _ h=>h.2.1 rfl) (fun n h0 h1 w h=>Tryd.strconv_Itoa n h0 h1 w h)
theorem prim32:PrimOk Ow Tryd.prog 32 [] pJoin:=by
 obtain ⟨c,hb⟩:∃ c,Tryd.f32.body=some c:=⟨_,rfl⟩
 exact pJoin_ok Tryd.func32 hb (by kernel_rfl) Tryd.strings_Join_none Tryd.strings_Join
theorem prim46:PrimOk Ow Tryd.prog 46 [] (pF gReplace):=by
 obtain ⟨c,hb⟩:∃ c,Tryd.f46.body=some c:=⟨_,rfl⟩
 exact gReplace_ok Tryd.func46 hb (by kernel_rfl) (fun _ h=>h.1) (fun s o n k w h hs h1 h2=>Tryd.strings_Replace_shaped s o n k w h hs h1 h2)
theorem prim59:PrimOk Ow Tryd.prog 59 [] (pF (gAtoi 126)):=by
 obtain ⟨c,hb⟩:∃ c,Tryd.f59.body=some c:=⟨_,rfl⟩
 exact gAtoi_ok Tryd.func59 hb (by kernel_rfl) (fun _ h=>h.2.2.1 rfl) Tryd.strconv_Atoi_ok Tryd.strconv_Atoi_syntax_var Tryd.strconv_Atoi_range_var
theorem prim60:PrimOk Ow Tryd.prog 60 [] (pF gCut):=by
 obtain ⟨c,hb⟩:∃ c,Tryd.f60.body=some c:=⟨_,rfl⟩
 exact gCut_ok Tryd.func60 hb (by kernel_rfl) (fun _ h=>h.1) (fun s t w h hs=>Tryd.strings_Cut_shaped s t w h hs)
theorem prim95:PrimOk Ow Tryd.prog 95 [] pIndexByte:=by
 obtain ⟨c,hb⟩:∃ c,Tryd.f95.body=some c:=⟨_,rfl⟩
 exact pIndexByte_ok Tryd.func95 hb (by kernel_rfl) Tryd.strings_IndexByte
theorem prim103:PrimOk Ow Tryd.prog 103 [] (pF gTZ):=by
 obtain ⟨c,hb⟩:∃ c,Tryd.f103.body=some c:=⟨_,rfl⟩
 exact gTZ_ok Tryd.func103 hb (by kernel_rfl) (fun _ h=>h.2.2.2 _ rfl) tz16
theorem tableOk:TableOk Ow Tryd.prog FT:=by
  intro f e h
  unfold FT at h
  split at h
  · cases h; exact ⟨Tryd.f3,hh3,Tryd.func3,tab3⟩
  · cases h; exact ⟨Tryd.f4,hh4,Tryd.func4,tab4⟩
  · cases h; exact ⟨Tryd.f5,hh5,Tryd.func5,tab5⟩
  · cases h; exact ⟨Tryd.f6,hh6,Tryd.func6,tab6⟩
  · cases h; exact ⟨Tryd.f7,hh7,Tryd.func7,tab7⟩
  · cases h; exact ⟨Tryd.f8,hh8,Tryd.func8,tab8⟩
  · cases h; exact ⟨Tryd.f9,hh9,Tryd.func9,tab9⟩
  · cases h; exact ⟨Tryd.f10,hh10,Tryd.func10,tab10⟩
  · cases h; exact ⟨Tryd.f11,hh11,Tryd.func11,tab11⟩
  · cases h; exact ⟨Tryd.f15,hh15,Tryd.func15,tab15⟩
  · cases h; exact ⟨Tryd.f16,hh16,Tryd.func16,tab16⟩
  · cases h; exact ⟨Tryd.f17,hh17,Tryd.func17,tab17⟩
  · cases h; exact ⟨Tryd.f18,hh18,Tryd.func18,tab18⟩
  · cases h; exact ⟨Tryd.f19,hh19,Tryd.func19,tab19⟩
  · cases h; exact ⟨Tryd.f20,hh20,Tryd.func20,tab20⟩
  · cases h; exact ⟨Tryd.f21,hh21,Tryd.func21,tab21⟩
  · cases h; exact ⟨Tryd.f22,hh22,Tryd.func22,tab22⟩
  · cases h; exact ⟨Tryd.f23,hh23,Tryd.func23,tab23⟩
  · cases h; exact ⟨Tryd.f24,hh24,Tryd.func24,tab24⟩
  · cases h; exact ⟨Tryd.f25,hh25,Tryd.func25,tab25⟩
  · cases h; exact ⟨Tryd.f26,hh26,Tryd.func26,tab26⟩
  · cases h; exact ⟨Tryd.f27,hh27,Tryd.func27,tab27⟩
  · cases h; exact ⟨Tryd.f28,hh28,Tryd.func28,tab28⟩
  · cases h; exact ⟨Tryd.f30,hh30,Tryd.func30,tab30⟩
  · cases h; exact ⟨Tryd.f33,hh33,Tryd.func33,tab33⟩
  · cases h; exact ⟨Tryd.f34,hh34,Tryd.func34,tab34⟩
  · cases h; exact ⟨Tryd.f35,hh35,Tryd.func35,tab35⟩
  · cases h; exact ⟨Tryd.f40,hh40,Tryd.func40,tab40⟩
  · cases h; exact ⟨Tryd.f41,hh41,Tryd.func41,tab41⟩
  · cases h; exact ⟨Tryd.f42,hh42,Tryd.func42,tab42⟩
  · cases h; exact ⟨Tryd.f43,hh43,Tryd.func43,tab43⟩
  · cases h; exact ⟨Tryd.f44,hh44,Tryd.func44,tab44⟩
  · cases h; exact ⟨Tryd.f45,hh45,Tryd.func45,tab45⟩
  · cases h; exact ⟨Tryd.f54,hh54,Tryd.func54,tab54⟩
  · cases h; exact ⟨Tryd.f57,hh57,Tryd.func57,tab57⟩
  · cases h; exact ⟨Tryd.f58,hh58,Tryd.func58,tab58⟩
  · cases h; exact ⟨Tryd.f61,hh61,Tryd.func61,tab61⟩
  · cases h; exact ⟨Tryd.f70,hh70,Tryd.func70,tab70⟩
  · cases h; exact ⟨Tryd.f78,hh78,Tryd.func78,tab78⟩
  · cases h; exact ⟨Tryd.f87,hh87,Tryd.func87,tab87⟩
  · cases h; exact ⟨Tryd.f102,hh102,Tryd.func102,tab102⟩
  · cases h; exact prim12
  · cases h; exact prim13
  · cases h; exact prim14
  · cases h; exact prim29
  · cases h; exact prim31
  · cases h; exact prim32
  · cases h; exact prim46
  · cases h; exact prim59
  · cases h; exact prim60
  · cases h; exact prim95
  · cases h; exact prim103
  · cases h
theorem neOk:∀ f,NEOk sgN vsN FT f (TN f):=by
  intro f
  unfold TN
  split
  · exact ⟨rfl,chk3⟩
  · exact ⟨rfl,chk4⟩
  · exact ⟨rfl,chk5⟩
  · exact ⟨rfl,chk6⟩
  · exact ⟨rfl,chk7⟩
  · exact ⟨rfl,chk8⟩
  · exact ⟨rfl,chk9⟩
  · exact ⟨rfl,chk10⟩
  · exact ⟨rfl,chk11⟩
  · exact ⟨rfl,chk15⟩
  · exact ⟨rfl,chk16⟩
  · exact ⟨rfl,chk17⟩
  · exact ⟨rfl,chk18⟩
  · exact ⟨rfl,chk19⟩
  · exact ⟨rfl,chk20⟩
  · exact ⟨rfl,chk21⟩
  · exact ⟨rfl,chk22⟩
  · exact ⟨rfl,chk23⟩
  · exact ⟨rfl,chk24⟩
  · exact ⟨rfl,chk25⟩
  · exact ⟨rfl,chk26⟩
  · exact ⟨rfl,chk27⟩
  · exact ⟨rfl,chk28⟩
  · exact ⟨rfl,chk30⟩
  · exact ⟨rfl,chk33⟩
  · exact ⟨rfl,chk34⟩
  · exact ⟨rfl,chk35⟩
  · exact ⟨rfl,chk40⟩
  · exact ⟨rfl,chk41⟩
  · exact ⟨rfl,chk42⟩
  · exact ⟨rfl,chk43⟩
  · exact ⟨rfl,chk44⟩
  · exact ⟨rfl,chk45⟩
  · exact ⟨rfl,chk54⟩
  · exact ⟨rfl,chk57⟩
  · exact ⟨rfl,chk58⟩
  · exact ⟨rfl,chk61⟩
  · exact ⟨rfl,chk70⟩
  · exact ⟨rfl,chk78⟩
  · exact ⟨rfl,chk87⟩
  · exact ⟨rfl,chk102⟩
  · exact fun N=>qF_ok (s:=sgN 12) rfl rfl (pksD rfl) (rsE rfl) N
  · exact fun N=>qF_ok (s:=sgN 13) rfl rfl (pksD rfl) (rsE rfl) N
  · exact fun N=>qF_ok (s:=sgN 14) rfl rfl (pksD rfl) (rsE rfl) N
  · exact fun N=>qF_ok (s:=sgN 29) rfl rfl (pksD rfl) (rsE rfl) N
  · exact fun N=>qF_ok (s:=sgN 31) rfl rfl (pksD rfl) (rsE rfl) N
  · exact fun N=>qJoin_ok rfl N
  · exact fun N=>qF_ok (s:=sgN 46) rfl rfl (pksD rfl) (rsE rfl) N
  · exact fun N=>qF_ok (s:=sgN 59) rfl rfl (pksD rfl) (rsE rfl) N
  · exact fun N=>qF_ok (s:=sgN 60) rfl rfl (pksD rfl) (rsE rfl) N
  · exact fun N=>qIndexByte_ok rfl N
  · exact fun N=>qF_ok (s:=sgN 103) rfl rfl (pksD rfl) (rsE rfl) N
  · trivial
theorem sigOk (f:Nat):sigOf FT f=vsN f:=by
  unfold vsN
  split
  · exact sig3
  · exact sig4
  · exact sig5
  · exact sig6
  · exact sig7
  · exact sig8
  · exact sig9
  · exact sig10
  · exact sig11
  · exact sig15
  · exact sig16
  · exact sig17
  · exact sig18
  · exact sig19
  · exact sig20
  · exact sig21
  · exact sig22
  · exact sig23
  · exact sig24
  · exact sig25
  · exact sig26
  · exact sig27
  · exact sig28
  · exact sig30
  · exact sig33
  · exact sig34
  · exact sig35
  · exact sig40
  · exact sig41
  · exact sig42
  · exact sig43
  · exact sig44
  · exact sig45
  · exact sig54
  · exact sig57
  · exact sig58
  · exact sig61
  · exact sig70
  · exact sig78
  · exact sig87
  · exact sig102
  · rfl
  · rfl
  · rfl
  · rfl
  · rfl
  · rfl
  · rfl
  · rfl
  · rfl
  · rfl
  · rfl
  · rename_i h3 h4 h5 h6 h7 h8 h9 h10 h11 h15 h16 h17 h18 h19 h20 h21 h22 h23 h24 h25 h26 h27 h28 h30 h33 h34 h35 h40 h41 h42 h43 h44 h45 h54 h57 h58 h61 h70 h78 h87 h102 h12 h13 h14 h29 h31 h32 h46 h59 h60 h95 h103
    have e:FT f=none:=by
      unfold FT
      split
      · exact (h3 rfl).elim
      · exact (h4 rfl).elim
      · exact (h5 rfl).elim
      · exact (h6 rfl).elim
      · exact (h7 rfl).elim
      · exact (h8 rfl).elim
      · exact (h9 rfl).elim
      · exact (h10 rfl).elim
      · exact (h11 rfl).elim
      · exact (h15 rfl).elim
      · exact (h16 rfl).elim
      · exact (h17 rfl).elim
      · exact (h18 rfl).elim
      · exact (h19 rfl).elim
      · exact (h20 rfl).elim
      · exact (h21 rfl).elim
      · exact (h22 rfl).elim
      · exact (h23 rfl).elim
      · exact (h24 rfl).elim
      · exact (h25 rfl).elim
      · exact (h26 rfl).elim
      · exact (h27 rfl).elim
      · exact (h28 rfl).elim
      · exact (h30 rfl).elim
      · exact (h33 rfl).elim
      · exact (h34 rfl).elim
      · exact (h35 rfl).elim
      · exact (h40 rfl).elim
      · exact (h41 rfl).elim
      · exact (h42 rfl).elim
      · exact (h43 rfl).elim
      · exact (h44 rfl).elim
      · exact (h45 rfl).elim
      · exact (h54 rfl).elim
      · exact (h57 rfl).elim
      · exact (h58 rfl).elim
      · exact (h61 rfl).elim
      · exact (h70 rfl).elim
      · exact (h78 rfl).elim
      · exact (h87 rfl).elim
      · exact (h102 rfl).elim
      · exact (h12 rfl).elim
      · exact (h13 rfl).elim
      · exact (h14 rfl).elim
      · exact (h29 rfl).elim
      · exact (h31 rfl).elim
      · exact (h32 rfl).elim
      · exact (h46 rfl).elim
      · exact (h59 rfl).elim
      · exact (h60 rfl).elim
      · exact (h95 rfl).elim
      · exact (h103 rfl).elim
      · rfl
    unfold sigOf; rw [e]
theorem typed:∀ N f,FnOk (sigOf FT) (call FT N) f (nfN TN N f):=tab_sound sigOk neOk
end Go.Proofs.YtfglhfbnbdmhfaaDoor
