/- The table is the program's, and the readings are the machine's. -/
import Derived.Test.YtlgnmgbnbomckaaGreatDoorNK1
import Derived.Test.YtlgnmgbnbomckaaGreatDoorNK2
import Derived.Test.YtlgnmgbnbomckaaGreatDoorShelf
import Derived.Test.YtlgnmgbnbomckaaGreatDoorTZ
namespace Go.Proofs.YtlgnmgbnbomckaaGreatDoor
open Go.VM
set_option maxRecDepth 100000
abbrev Ow:World→Prop:=Om Tryz.prog true true (some dbTab)
theorem prim43:PrimOk Ow Tryz.prog 43 [] (pF aJd):=by
 obtain ⟨c,hb⟩:∃ c,Tryz.f43.body=some c:=⟨_,rfl⟩
 exact aJe Tryz.func43 hb (by kernel_rfl) (fun _ h=>h.1) (fun s t w h hs=>Tryz.strings_Cut_shaped s t w h hs)
theorem prim48:PrimOk Ow Tryz.prog 48 [] (pF aH1):=by
 obtain ⟨c,hb⟩:∃ c,Tryz.f48.body=some c:=⟨_,rfl⟩
 exact aJL Tryz.func48 hb (by kernel_rfl) (fun _ h=>h.2.1 rfl) (fun n h0 h1 w h=>Tryz.strconv_Itoa n h0 h1 w h)
theorem prim52:PrimOk Ow Tryz.prog 52 [] (pF oK):=by
 obtain ⟨c,hb⟩:∃ c,Tryz.f52.body=some c:=⟨_,rfl⟩
 exact aGE Tryz.func52 hb (by kernel_rfl) (fun s t w h=>Tryz.strings_HasSuffix s t w h)
theorem prim54:PrimOk Ow Tryz.prog 54 [] (pF iA):=by
 obtain ⟨c,hb⟩:∃ c,Tryz.f54.body=some c:=⟨_,rfl⟩
 exact aCr Tryz.func54 hb (by kernel_rfl) (fun s c h w=>Tryz.strings_LastIndexByte s c h w)
theorem prim60:PrimOk Ow Tryz.prog 60 [] (pF gLZ):=by
 obtain ⟨c,hb⟩:∃ c,Tryz.f60.body=some c:=⟨_,rfl⟩
 exact aJr Tryz.func60 hb (by kernel_rfl) (fun x w h0 h1=>Tryz.bits_LeadingZeros64 x w h0 h1)
theorem prim66:PrimOk Ow Tryz.prog 66 [] (pF rQ):=by
 obtain ⟨c,hb⟩:∃ c,Tryz.f66.body=some c:=⟨_,rfl⟩
 exact aGv Tryz.func66 hb (by kernel_rfl) (fun _ h=>h.1) (fun s t w h hs=>Tryz.strings_Contains_shaped s t w h hs)
theorem prim69:PrimOk Ow Tryz.prog 69 [] (pF aH0):=by
 obtain ⟨c,hb⟩:∃ c,Tryz.f69.body=some c:=⟨_,rfl⟩
 exact aJK Tryz.func69 hb (by kernel_rfl) (fun s t w h h2 h3=>Tryz.strings_Trim_laid s t w h h2 h3)
theorem prim70:PrimOk Ow Tryz.prog 70 [] (pF (aET 140)):=by
 obtain ⟨c,hb⟩:∃ c,Tryz.f70.body=some c:=⟨_,rfl⟩
 exact aJM Tryz.func70 hb (by kernel_rfl) (fun _ h=>h.2.2.1 rfl) Tryz.strconv_Atoi_ok Tryz.strconv_Atoi_syntax_var Tryz.strconv_Atoi_range_var
theorem prim72:PrimOk Ow Tryz.prog 72 [] aGB:=by
 obtain ⟨c,hb⟩:∃ c,Tryz.f72.body=some c:=⟨_,rfl⟩
 exact aJG Tryz.func72 hb (by kernel_rfl) Tryz.strings_Join_none Tryz.strings_Join
theorem prim81:PrimOk Ow Tryz.prog 81 [] (pF aEO):=by
 obtain ⟨c,hb⟩:∃ c,Tryz.f81.body=some c:=⟨_,rfl⟩
 exact aI4 Tryz.func81 hb (by kernel_rfl) (fun _ h=>h.1) (fun s t w h hs=>Tryz.strings_Index_shaped s t w h hs)
theorem prim88:PrimOk Ow Tryz.prog 88 [] (pF aEQ):=by
 obtain ⟨c,hb⟩:∃ c,Tryz.f88.body=some c:=⟨_,rfl⟩
 exact aI6 Tryz.func88 hb (by kernel_rfl) (fun _ h=>h.1) (fun s t w h hs h2=>Tryz.strings_Split_shaped s t w h hs h2)
theorem prim130:PrimOk Ow Tryz.prog 130 [] (pF gTZ):=by
 obtain ⟨c,hb⟩:∃ c,Tryz.f130.body=some c:=⟨_,rfl⟩
 exact aJs Tryz.func130 hb (by kernel_rfl) (fun _ h=>h.2.2.2 _ rfl) tz16
theorem prim135:PrimOk Ow Tryz.prog 135 [] kZ:=by
 obtain ⟨c,hb⟩:∃ c,Tryz.f135.body=some c:=⟨_,rfl⟩
 exact aGC Tryz.func135 hb (by kernel_rfl) Tryz.strings_IndexByte
theorem tableOk:rJ Ow Tryz.prog FT:=by
 intro f e h
 unfold FT at h
 split at h
 · cases h; exact ⟨Tryz.f3,hh3,Tryz.func3,tab3⟩
 · cases h; exact ⟨Tryz.f5,hh5,Tryz.func5,tab5⟩
 · cases h; exact ⟨Tryz.f11,hh11,Tryz.func11,tab11⟩
 · cases h; exact ⟨Tryz.f12,hh12,Tryz.func12,tab12⟩
 · cases h; exact ⟨Tryz.f13,hh13,Tryz.func13,tab13⟩
 · cases h; exact ⟨Tryz.f14,hh14,Tryz.func14,tab14⟩
 · cases h; exact ⟨Tryz.f15,hh15,Tryz.func15,tab15⟩
 · cases h; exact ⟨Tryz.f16,hh16,Tryz.func16,tab16⟩
 · cases h; exact ⟨Tryz.f21,hh21,Tryz.func21,tab21⟩
 · cases h; exact ⟨Tryz.f22,hh22,Tryz.func22,tab22⟩
 · cases h; exact ⟨Tryz.f23,hh23,Tryz.func23,tab23⟩
 · cases h; exact ⟨Tryz.f24,hh24,Tryz.func24,tab24⟩
 · cases h; exact ⟨Tryz.f25,hh25,Tryz.func25,tab25⟩
 · cases h; exact ⟨Tryz.f26,hh26,Tryz.func26,tab26⟩
 · cases h; exact ⟨Tryz.f27,hh27,Tryz.func27,tab27⟩
 · cases h; exact ⟨Tryz.f34,hh34,Tryz.func34,tab34⟩
 · cases h; exact ⟨Tryz.f38,hh38,Tryz.func38,tab38⟩
 · cases h; exact ⟨Tryz.f39,hh39,Tryz.func39,tab39⟩
 · cases h; exact ⟨Tryz.f44,hh44,Tryz.func44,tab44⟩
 · cases h; exact ⟨Tryz.f45,hh45,Tryz.func45,tab45⟩
 · cases h; exact ⟨Tryz.f46,hh46,Tryz.func46,tab46⟩
 · cases h; exact ⟨Tryz.f47,hh47,Tryz.func47,tab47⟩
 · cases h; exact ⟨Tryz.f49,hh49,Tryz.func49,tab49⟩
 · cases h; exact ⟨Tryz.f50,hh50,Tryz.func50,tab50⟩
 · cases h; exact ⟨Tryz.f51,hh51,Tryz.func51,tab51⟩
 · cases h; exact ⟨Tryz.f53,hh53,Tryz.func53,tab53⟩
 · cases h; exact ⟨Tryz.f55,hh55,Tryz.func55,tab55⟩
 · cases h; exact ⟨Tryz.f56,hh56,Tryz.func56,tab56⟩
 · cases h; exact ⟨Tryz.f57,hh57,Tryz.func57,tab57⟩
 · cases h; exact ⟨Tryz.f58,hh58,Tryz.func58,tab58⟩
 · cases h; exact ⟨Tryz.f59,hh59,Tryz.func59,tab59⟩
 · cases h; exact ⟨Tryz.f61,hh61,Tryz.func61,tab61⟩
 · cases h; exact ⟨Tryz.f67,hh67,Tryz.func67,tab67⟩
 · cases h; exact ⟨Tryz.f68,hh68,Tryz.func68,tab68⟩
 · cases h; exact ⟨Tryz.f71,hh71,Tryz.func71,tab71⟩
 · cases h; exact ⟨Tryz.f73,hh73,Tryz.func73,tab73⟩
 · cases h; exact ⟨Tryz.f74,hh74,Tryz.func74,tab74⟩
 · cases h; exact ⟨Tryz.f75,hh75,Tryz.func75,tab75⟩
 · cases h; exact ⟨Tryz.f78,hh78,Tryz.func78,tab78⟩
 · cases h; exact ⟨Tryz.f80,hh80,Tryz.func80,tab80⟩
 · cases h; exact ⟨Tryz.f82,hh82,Tryz.func82,tab82⟩
 · cases h; exact ⟨Tryz.f89,hh89,Tryz.func89,tab89⟩
 · cases h; exact ⟨Tryz.f106,hh106,Tryz.func106,tab106⟩
 · cases h; exact ⟨Tryz.f107,hh107,Tryz.func107,tab107⟩
 · cases h; exact ⟨Tryz.f108,hh108,Tryz.func108,tab108⟩
 · cases h; exact ⟨Tryz.f115,hh115,Tryz.func115,tab115⟩
 · cases h; exact ⟨Tryz.f129,hh129,Tryz.func129,tab129⟩
 · cases h; exact prim43
 · cases h; exact prim48
 · cases h; exact prim52
 · cases h; exact prim54
 · cases h; exact prim60
 · cases h; exact prim66
 · cases h; exact prim69
 · cases h; exact prim70
 · cases h; exact prim72
 · cases h; exact prim81
 · cases h; exact prim88
 · cases h; exact prim130
 · cases h; exact prim135
 · cases h
theorem neOk:∀ f,aKG sgN vsN FT f (TN f):=by
 intro f
 unfold TN
 split
 · exact ⟨rfl,chk3⟩
 · exact ⟨rfl,chk5⟩
 · exact ⟨rfl,chk11⟩
 · exact ⟨rfl,chk12⟩
 · exact ⟨rfl,chk13⟩
 · exact ⟨rfl,chk14⟩
 · exact ⟨rfl,chk15⟩
 · exact ⟨rfl,chk16⟩
 · exact ⟨rfl,chk21⟩
 · exact ⟨rfl,chk22⟩
 · exact ⟨rfl,chk23⟩
 · exact ⟨rfl,chk24⟩
 · exact ⟨rfl,chk25⟩
 · exact ⟨rfl,chk26⟩
 · exact ⟨rfl,chk27⟩
 · exact ⟨rfl,chk34⟩
 · exact ⟨rfl,chk38⟩
 · exact ⟨rfl,chk39⟩
 · exact ⟨rfl,chk44⟩
 · exact ⟨rfl,chk45⟩
 · exact ⟨rfl,chk46⟩
 · exact ⟨rfl,chk47⟩
 · exact ⟨rfl,chk49⟩
 · exact ⟨rfl,chk50⟩
 · exact ⟨rfl,chk51⟩
 · exact ⟨rfl,chk53⟩
 · exact ⟨rfl,chk55⟩
 · exact ⟨rfl,chk56⟩
 · exact ⟨rfl,chk57⟩
 · exact ⟨rfl,chk58⟩
 · exact ⟨rfl,chk59⟩
 · exact ⟨rfl,chk61⟩
 · exact ⟨rfl,chk67⟩
 · exact ⟨rfl,chk68⟩
 · exact ⟨rfl,chk71⟩
 · exact ⟨rfl,chk73⟩
 · exact ⟨rfl,chk74⟩
 · exact ⟨rfl,chk75⟩
 · exact ⟨rfl,chk78⟩
 · exact ⟨rfl,chk80⟩
 · exact ⟨rfl,chk82⟩
 · exact ⟨rfl,chk89⟩
 · exact ⟨rfl,chk106⟩
 · exact ⟨rfl,chk107⟩
 · exact ⟨rfl,chk108⟩
 · exact ⟨rfl,chk115⟩
 · exact ⟨rfl,chk129⟩
 · exact fun N=>aKL (s:=sgN 43) rfl rfl (aKP rfl) (rsE rfl) N
 · exact fun N=>aKL (s:=sgN 48) rfl rfl (aKP rfl) (rsE rfl) N
 · exact fun N=>aKL (s:=sgN 52) rfl rfl (aKP rfl) (rsE rfl) N
 · exact fun N=>aKL (s:=sgN 54) rfl rfl (aKP rfl) (rsE rfl) N
 · exact fun N=>aKL (s:=sgN 60) rfl rfl (aKP rfl) (rsE rfl) N
 · exact fun N=>aKL (s:=sgN 66) rfl rfl (aKP rfl) (rsE rfl) N
 · exact fun N=>aKL (s:=sgN 69) rfl rfl (aKP rfl) (rsE rfl) N
 · exact fun N=>aKL (s:=sgN 70) rfl rfl (aKP rfl) (rsE rfl) N
 · exact fun N=>aJX rfl N
 · exact fun N=>aKL (s:=sgN 81) rfl rfl (aKP rfl) (rsE rfl) N
 · exact fun N=>aKL (s:=sgN 88) rfl rfl (aKP rfl) (rsE rfl) N
 · exact fun N=>aKL (s:=sgN 130) rfl rfl (aKP rfl) (rsE rfl) N
 · exact fun N=>aGf rfl N
 · trivial
theorem sigOk (f:Nat):aAW FT f=vsN f:=by
 unfold vsN
 split
 · exact sig3
 · exact sig5
 · exact sig11
 · exact sig12
 · exact sig13
 · exact sig14
 · exact sig15
 · exact sig16
 · exact sig21
 · exact sig22
 · exact sig23
 · exact sig24
 · exact sig25
 · exact sig26
 · exact sig27
 · exact sig34
 · exact sig38
 · exact sig39
 · exact sig44
 · exact sig45
 · exact sig46
 · exact sig47
 · exact sig49
 · exact sig50
 · exact sig51
 · exact sig53
 · exact sig55
 · exact sig56
 · exact sig57
 · exact sig58
 · exact sig59
 · exact sig61
 · exact sig67
 · exact sig68
 · exact sig71
 · exact sig73
 · exact sig74
 · exact sig75
 · exact sig78
 · exact sig80
 · exact sig82
 · exact sig89
 · exact sig106
 · exact sig107
 · exact sig108
 · exact sig115
 · exact sig129
 · rfl
 · rfl
 · rfl
 · rfl
 · rfl
 · rfl
 · rfl
 · rfl
 · rfl
 · rfl
 · rfl
 · rfl
 · rfl
 · rename_i h3 h5 h11 h12 h13 h14 h15 h16 h21 h22 h23 h24 h25 h26 h27 h34 h38 h39 h44 h45 h46 h47 h49 h50 h51 h53 h55 h56 h57 h58 h59 h61 h67 h68 h71 h73 h74 h75 h78 h80 h82 h89 h106 h107 h108 h115 h129 h43 h48 h52 h54 h60 h66 h69 h70 h72 h81 h88 h130 h135
   have e:FT f=none:=by
    unfold FT
    split
    · exact (h3 rfl).elim
    · exact (h5 rfl).elim
    · exact (h11 rfl).elim
    · exact (h12 rfl).elim
    · exact (h13 rfl).elim
    · exact (h14 rfl).elim
    · exact (h15 rfl).elim
    · exact (h16 rfl).elim
    · exact (h21 rfl).elim
    · exact (h22 rfl).elim
    · exact (h23 rfl).elim
    · exact (h24 rfl).elim
    · exact (h25 rfl).elim
    · exact (h26 rfl).elim
    · exact (h27 rfl).elim
    · exact (h34 rfl).elim
    · exact (h38 rfl).elim
    · exact (h39 rfl).elim
    · exact (h44 rfl).elim
    · exact (h45 rfl).elim
    · exact (h46 rfl).elim
    · exact (h47 rfl).elim
    · exact (h49 rfl).elim
    · exact (h50 rfl).elim
    · exact (h51 rfl).elim
    · exact (h53 rfl).elim
    · exact (h55 rfl).elim
    · exact (h56 rfl).elim
    · exact (h57 rfl).elim
    · exact (h58 rfl).elim
    · exact (h59 rfl).elim
    · exact (h61 rfl).elim
    · exact (h67 rfl).elim
    · exact (h68 rfl).elim
    · exact (h71 rfl).elim
    · exact (h73 rfl).elim
    · exact (h74 rfl).elim
    · exact (h75 rfl).elim
    · exact (h78 rfl).elim
    · exact (h80 rfl).elim
    · exact (h82 rfl).elim
    · exact (h89 rfl).elim
    · exact (h106 rfl).elim
    · exact (h107 rfl).elim
    · exact (h108 rfl).elim
    · exact (h115 rfl).elim
    · exact (h129 rfl).elim
    · exact (h43 rfl).elim
    · exact (h48 rfl).elim
    · exact (h52 rfl).elim
    · exact (h54 rfl).elim
    · exact (h60 rfl).elim
    · exact (h66 rfl).elim
    · exact (h69 rfl).elim
    · exact (h70 rfl).elim
    · exact (h72 rfl).elim
    · exact (h81 rfl).elim
    · exact (h88 rfl).elim
    · exact (h130 rfl).elim
    · exact (h135 rfl).elim
    · rfl
   unfold aAW; rw [e]
theorem typed:∀ N f,aF7 (aAW FT) (call FT N) f (nfN TN N f):=aIr sigOk neOk
end Go.Proofs.YtlgnmgbnbomckaaGreatDoor
