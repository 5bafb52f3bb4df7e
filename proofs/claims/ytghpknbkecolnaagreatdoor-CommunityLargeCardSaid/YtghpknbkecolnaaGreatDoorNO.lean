/- The table is the program's, and the readings are the machine's. -/
import Derived.Test.YtghpknbkecolnaaGreatDoorNK1
import Derived.Test.YtghpknbkecolnaaGreatDoorNK2
import Derived.Test.YtghpknbkecolnaaGreatDoorShelf
import Derived.Test.YtghpknbkecolnaaGreatDoorHP
namespace Go.Proofs.YtghpknbkecolnaaGreatDoor
open Go.VM
set_option maxRecDepth 100000
abbrev Ow:World→Prop:=OmW Tryz.prog true true none (some 1)
theorem prim35:PrimOk Ow Tryz.prog 35 [] (pF aH1):=by
 obtain ⟨c,hb⟩:∃ c,Tryz.f35.body=some c:=⟨_,rfl⟩
 exact aJL Tryz.func35 hb (by kernel_rfl) (fun _ h=>h.1.2.1 rfl) (fun n h0 h1 w h=>Tryz.strconv_Itoa n h0 h1 w h)
theorem prim36:PrimOk Ow Tryz.prog 36 [] aGB:=by
 obtain ⟨c,hb⟩:∃ c,Tryz.f36.body=some c:=⟨_,rfl⟩
 exact aJG Tryz.func36 hb (by kernel_rfl) Tryz.strings_Join_none Tryz.strings_Join
theorem prim38:PrimOk Ow Tryz.prog 38 [] (pF gFields):=by
 obtain ⟨c,hb⟩:∃ c,Tryz.f38.body=some c:=⟨_,rfl⟩
 exact gFields_ok Tryz.func38 hb (by kernel_rfl) (g:=1) (fun _ h=>h.2 _ rfl) (fun s w h1 h2 h3=>Tryz.strings_Fields_any s w h1 h2 h3)
theorem prim39:PrimOk Ow Tryz.prog 39 [] (pF aEQ):=by
 obtain ⟨c,hb⟩:∃ c,Tryz.f39.body=some c:=⟨_,rfl⟩
 exact aI6 Tryz.func39 hb (by kernel_rfl) (fun _ h=>h.1.1) (fun s t w h hs h2=>Tryz.strings_Split_shaped s t w h hs h2)
theorem prim40:PrimOk Ow Tryz.prog 40 [] (pF (aET 119)):=by
 obtain ⟨c,hb⟩:∃ c,Tryz.f40.body=some c:=⟨_,rfl⟩
 exact aJM Tryz.func40 hb (by kernel_rfl) (fun _ h=>h.1.2.2.1 rfl) Tryz.strconv_Atoi_ok Tryz.strconv_Atoi_syntax_var Tryz.strconv_Atoi_range_var
theorem prim55:PrimOk Ow Tryz.prog 55 [] (pH [.sl tyL,tyL,.fn 52] (gAdd Z.lesL) (enAdd 3 vcL)):=primAddL
theorem prim56:PrimOk Ow Tryz.prog 56 [] (pH [.sl tyL,tyL] gWithout (enWithout 3 vcL)):=primWoL
theorem tableOk:rJ Ow Tryz.prog FT:=by
 intro f e h
 unfold FT at h
 split at h
 · cases h; exact ⟨Tryz.f5,hh5,Tryz.func5,tab5⟩
 · cases h; exact ⟨Tryz.f7,hh7,Tryz.func7,tab7⟩
 · cases h; exact ⟨Tryz.f8,hh8,Tryz.func8,tab8⟩
 · cases h; exact ⟨Tryz.f9,hh9,Tryz.func9,tab9⟩
 · cases h; exact ⟨Tryz.f11,hh11,Tryz.func11,tab11⟩
 · cases h; exact ⟨Tryz.f13,hh13,Tryz.func13,tab13⟩
 · cases h; exact ⟨Tryz.f16,hh16,Tryz.func16,tab16⟩
 · cases h; exact ⟨Tryz.f17,hh17,Tryz.func17,tab17⟩
 · cases h; exact ⟨Tryz.f18,hh18,Tryz.func18,tab18⟩
 · cases h; exact ⟨Tryz.f19,hh19,Tryz.func19,tab19⟩
 · cases h; exact ⟨Tryz.f21,hh21,Tryz.func21,tab21⟩
 · cases h; exact ⟨Tryz.f24,hh24,Tryz.func24,tab24⟩
 · cases h; exact ⟨Tryz.f25,hh25,Tryz.func25,tab25⟩
 · cases h; exact ⟨Tryz.f26,hh26,Tryz.func26,tab26⟩
 · cases h; exact ⟨Tryz.f27,hh27,Tryz.func27,tab27⟩
 · cases h; exact ⟨Tryz.f28,hh28,Tryz.func28,tab28⟩
 · cases h; exact ⟨Tryz.f29,hh29,Tryz.func29,tab29⟩
 · cases h; exact ⟨Tryz.f30,hh30,Tryz.func30,tab30⟩
 · cases h; exact ⟨Tryz.f31,hh31,Tryz.func31,tab31⟩
 · cases h; exact ⟨Tryz.f32,hh32,Tryz.func32,tab32⟩
 · cases h; exact ⟨Tryz.f33,hh33,Tryz.func33,tab33⟩
 · cases h; exact ⟨Tryz.f34,hh34,Tryz.func34,tab34⟩
 · cases h; exact ⟨Tryz.f37,hh37,Tryz.func37,tab37⟩
 · cases h; exact ⟨Tryz.f42,hh42,Tryz.func42,tab42⟩
 · cases h; exact ⟨Tryz.f43,hh43,Tryz.func43,tab43⟩
 · cases h; exact ⟨Tryz.f44,hh44,Tryz.func44,tab44⟩
 · cases h; exact ⟨Tryz.f45,hh45,Tryz.func45,tab45⟩
 · cases h; exact ⟨Tryz.f46,hh46,Tryz.func46,tab46⟩
 · cases h; exact ⟨Tryz.f49,hh49,Tryz.func49,tab49⟩
 · cases h; exact ⟨Tryz.f50,hh50,Tryz.func50,tab50⟩
 · cases h; exact ⟨Tryz.f51,hh51,Tryz.func51,tab51⟩
 · cases h; exact ⟨Tryz.f52,hh52,Tryz.func52,tab52⟩
 · cases h; exact ⟨Tryz.f53,hh53,Tryz.func53,tab53⟩
 · cases h; exact ⟨Tryz.f54,hh54,Tryz.func54,tab54⟩
 · cases h; exact ⟨Tryz.f57,hh57,Tryz.func57,tab57⟩
 · cases h; exact ⟨Tryz.f67,hh67,Tryz.func67,tab67⟩
 · cases h; exact ⟨Tryz.f68,hh68,Tryz.func68,tab68⟩
 · cases h; exact ⟨Tryz.f69,hh69,Tryz.func69,tab69⟩
 · cases h; exact ⟨Tryz.f75,hh75,Tryz.func75,tab75⟩
 · cases h; exact ⟨Tryz.f81,hh81,Tryz.func81,tab81⟩
 · cases h; exact ⟨Tryz.f94,hh94,Tryz.func94,tab94⟩
 · cases h; exact ⟨Tryz.f95,hh95,Tryz.func95,tab95⟩
 · cases h; exact ⟨Tryz.f96,hh96,Tryz.func96,tab96⟩
 · cases h; exact prim35
 · cases h; exact prim36
 · cases h; exact prim38
 · cases h; exact prim39
 · cases h; exact prim40
 · cases h; exact prim55
 · cases h; exact prim56
 · cases h
theorem neOk:∀ f,aKG sgN vsN FT f (TN f):=by
 intro f
 unfold TN
 split
 · exact ⟨rfl,chk5⟩
 · exact ⟨rfl,chk7⟩
 · exact ⟨rfl,chk8⟩
 · exact ⟨rfl,chk9⟩
 · exact ⟨rfl,chk11⟩
 · exact ⟨rfl,chk13⟩
 · exact ⟨rfl,chk16⟩
 · exact ⟨rfl,chk17⟩
 · exact ⟨rfl,chk18⟩
 · exact ⟨rfl,chk19⟩
 · exact ⟨rfl,chk21⟩
 · exact ⟨rfl,chk24⟩
 · exact ⟨rfl,chk25⟩
 · exact ⟨rfl,chk26⟩
 · exact ⟨rfl,chk27⟩
 · exact ⟨rfl,chk28⟩
 · exact ⟨rfl,chk29⟩
 · exact ⟨rfl,chk30⟩
 · exact ⟨rfl,chk31⟩
 · exact ⟨rfl,chk32⟩
 · exact ⟨rfl,chk33⟩
 · exact ⟨rfl,chk34⟩
 · exact ⟨rfl,chk37⟩
 · exact ⟨rfl,chk42⟩
 · exact ⟨rfl,chk43⟩
 · exact ⟨rfl,chk44⟩
 · exact ⟨rfl,chk45⟩
 · exact ⟨rfl,chk46⟩
 · exact ⟨rfl,chk49⟩
 · exact ⟨rfl,chk50⟩
 · exact ⟨rfl,chk51⟩
 · exact ⟨rfl,chk52⟩
 · exact ⟨rfl,chk53⟩
 · exact ⟨rfl,chk54⟩
 · exact ⟨rfl,chk57⟩
 · exact ⟨rfl,chk67⟩
 · exact ⟨rfl,chk68⟩
 · exact ⟨rfl,chk69⟩
 · exact ⟨rfl,chk75⟩
 · exact ⟨rfl,chk81⟩
 · exact ⟨rfl,chk94⟩
 · exact ⟨rfl,chk95⟩
 · exact ⟨rfl,chk96⟩
 · exact fun N=>aKL (s:=sgN 35) rfl rfl (aKP rfl) (rsE rfl) N
 · exact fun N=>aJX rfl N
 · exact fun N=>aKL (s:=sgN 38) rfl rfl (aKP rfl) (rsE rfl) N
 · exact fun N=>aKL (s:=sgN 39) rfl rfl (aKP rfl) (rsE rfl) N
 · exact fun N=>aKL (s:=sgN 40) rfl rfl (aKP rfl) (rsE rfl) N
 · exact fun N=>qH_ok (ps:=[.d (.sl tyL),.d tyL,.d (.fn 52)]) (rs:=[(.sl tyL,[]),(.int .i64,[])]) rfl (aKP rfl) (rsE rfl) hAddL N
 · exact fun N=>qH_ok (ps:=[.d (.sl tyL),.d tyL]) (rs:=[(.sl tyL,[])]) rfl (aKP rfl) (rsE rfl) hWoL N
 · trivial
theorem sigOk (f:Nat):aAW FT f=vsN f:=by
 unfold vsN
 split
 · exact sig5
 · exact sig7
 · exact sig8
 · exact sig9
 · exact sig11
 · exact sig13
 · exact sig16
 · exact sig17
 · exact sig18
 · exact sig19
 · exact sig21
 · exact sig24
 · exact sig25
 · exact sig26
 · exact sig27
 · exact sig28
 · exact sig29
 · exact sig30
 · exact sig31
 · exact sig32
 · exact sig33
 · exact sig34
 · exact sig37
 · exact sig42
 · exact sig43
 · exact sig44
 · exact sig45
 · exact sig46
 · exact sig49
 · exact sig50
 · exact sig51
 · exact sig52
 · exact sig53
 · exact sig54
 · exact sig57
 · exact sig67
 · exact sig68
 · exact sig69
 · exact sig75
 · exact sig81
 · exact sig94
 · exact sig95
 · exact sig96
 · rfl
 · rfl
 · rfl
 · rfl
 · rfl
 · rfl
 · rfl
 · rename_i h5 h7 h8 h9 h11 h13 h16 h17 h18 h19 h21 h24 h25 h26 h27 h28 h29 h30 h31 h32 h33 h34 h37 h42 h43 h44 h45 h46 h49 h50 h51 h52 h53 h54 h57 h67 h68 h69 h75 h81 h94 h95 h96 h35 h36 h38 h39 h40 h55 h56
   have e:FT f=none:=by
    unfold FT
    split
    · exact (h5 rfl).elim
    · exact (h7 rfl).elim
    · exact (h8 rfl).elim
    · exact (h9 rfl).elim
    · exact (h11 rfl).elim
    · exact (h13 rfl).elim
    · exact (h16 rfl).elim
    · exact (h17 rfl).elim
    · exact (h18 rfl).elim
    · exact (h19 rfl).elim
    · exact (h21 rfl).elim
    · exact (h24 rfl).elim
    · exact (h25 rfl).elim
    · exact (h26 rfl).elim
    · exact (h27 rfl).elim
    · exact (h28 rfl).elim
    · exact (h29 rfl).elim
    · exact (h30 rfl).elim
    · exact (h31 rfl).elim
    · exact (h32 rfl).elim
    · exact (h33 rfl).elim
    · exact (h34 rfl).elim
    · exact (h37 rfl).elim
    · exact (h42 rfl).elim
    · exact (h43 rfl).elim
    · exact (h44 rfl).elim
    · exact (h45 rfl).elim
    · exact (h46 rfl).elim
    · exact (h49 rfl).elim
    · exact (h50 rfl).elim
    · exact (h51 rfl).elim
    · exact (h52 rfl).elim
    · exact (h53 rfl).elim
    · exact (h54 rfl).elim
    · exact (h57 rfl).elim
    · exact (h67 rfl).elim
    · exact (h68 rfl).elim
    · exact (h69 rfl).elim
    · exact (h75 rfl).elim
    · exact (h81 rfl).elim
    · exact (h94 rfl).elim
    · exact (h95 rfl).elim
    · exact (h96 rfl).elim
    · exact (h35 rfl).elim
    · exact (h36 rfl).elim
    · exact (h38 rfl).elim
    · exact (h39 rfl).elim
    · exact (h40 rfl).elim
    · exact (h55 rfl).elim
    · exact (h56 rfl).elim
    · rfl
   unfold aAW; rw [e]
theorem typed:∀ N f,aF7 (aAW FT) (call FT N) f (nfN TN N f):=aIr sigOk neOk
end Go.Proofs.YtghpknbkecolnaaGreatDoor
