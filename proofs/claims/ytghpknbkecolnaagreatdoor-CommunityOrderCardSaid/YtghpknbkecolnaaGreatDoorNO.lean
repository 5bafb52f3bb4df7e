/- The table is the program's, and the readings are the machine's. -/
import Derived.Test.YtghpknbkecolnaaGreatDoorNK1
import Derived.Test.YtghpknbkecolnaaGreatDoorNK2
import Derived.Test.YtghpknbkecolnaaGreatDoorShelf
import Derived.Test.YtghpknbkecolnaaGreatDoorHP
namespace Go.Proofs.YtghpknbkecolnaaGreatDoor
open Go.VM
set_option maxRecDepth 100000
abbrev Ow:World→Prop:=OmW Tryz.prog true true none (some 1)
theorem prim35:PrimOk Ow Tryz.prog 35 [] (pF aH1):=by
 obtain ⟨c,hb⟩:∃ c,Tryz.f35.body=some c:=⟨_,rfl⟩
 exact aJL Tryz.func35 hb (by kernel_rfl) (fun _ h=>h.1.2.1 rfl) (fun n h0 h1 w h=>Tryz.strconv_Itoa n h0 h1 w h)
theorem prim36:PrimOk Ow Tryz.prog 36 [] aGB:=by
 obtain ⟨c,hb⟩:∃ c,Tryz.f36.body=some c:=⟨_,rfl⟩
 exact aJG Tryz.func36 hb (by kernel_rfl) Tryz.strings_Join_none Tryz.strings_Join
theorem prim38:PrimOk Ow Tryz.prog 38 [] (pF gFields):=by
 obtain ⟨c,hb⟩:∃ c,Tryz.f38.body=some c:=⟨_,rfl⟩
 exact gFields_ok Tryz.func38 hb (by kernel_rfl) (g:=1) (fun _ h=>h.2 _ rfl) (fun s w h1 h2 h3=>Tryz.strings_Fields_any s w h1 h2 h3)
theorem prim39:PrimOk Ow Tryz.prog 39 [] (pF aEQ):=by
 obtain ⟨c,hb⟩:∃ c,Tryz.f39.body=some c:=⟨_,rfl⟩
 exact aI6 Tryz.func39 hb (by kernel_rfl) (fun _ h=>h.1.1) (fun s t w h hs h2=>Tryz.strings_Split_shaped s t w h hs h2)
theorem prim40:PrimOk Ow Tryz.prog 40 [] (pF (aET 119)):=by
 obtain ⟨c,hb⟩:∃ c,Tryz.f40.body=some c:=⟨_,rfl⟩
 exact aJM Tryz.func40 hb (by kernel_rfl) (fun _ h=>h.1.2.2.1 rfl) Tryz.strconv_Atoi_ok Tryz.strconv_Atoi_syntax_var Tryz.strconv_Atoi_range_var
theorem prim47:PrimOk Ow Tryz.prog 47 [] (pH [.sl tyC,tyC,.fn 44] (gAdd Z.lesC) (enAdd 2 vcC)):=primAddC
theorem prim48:PrimOk Ow Tryz.prog 48 [] (pH [.sl tyC,tyC] gWithout (enWithout 2 vcC)):=primWoC
theorem prim55:PrimOk Ow Tryz.prog 55 [] (pH [.sl tyL,tyL,.fn 52] (gAdd Z.lesL) (enAdd 3 vcL)):=primAddL
theorem tableOk:rJ Ow Tryz.prog FT:=by
 intro f e h
 unfold FT at h
 split at h
 · cases h; exact ⟨Tryz.f6,hh6,Tryz.func6,tab6⟩
 · cases h; exact ⟨Tryz.f7,hh7,Tryz.func7,tab7⟩
 · cases h; exact ⟨Tryz.f11,hh11,Tryz.func11,tab11⟩
 · cases h; exact ⟨Tryz.f13,hh13,Tryz.func13,tab13⟩
 · cases h; exact ⟨Tryz.f15,hh15,Tryz.func15,tab15⟩
 · cases h; exact ⟨Tryz.f16,hh16,Tryz.func16,tab16⟩
 · cases h; exact ⟨Tryz.f17,hh17,Tryz.func17,tab17⟩
 · cases h; exact ⟨Tryz.f18,hh18,Tryz.func18,tab18⟩
 · cases h; exact ⟨Tryz.f20,hh20,Tryz.func20,tab20⟩
 · cases h; exact ⟨Tryz.f22,hh22,Tryz.func22,tab22⟩
 · cases h; exact ⟨Tryz.f24,hh24,Tryz.func24,tab24⟩
 · cases h; exact ⟨Tryz.f26,hh26,Tryz.func26,tab26⟩
 · cases h; exact ⟨Tryz.f28,hh28,Tryz.func28,tab28⟩
 · cases h; exact ⟨Tryz.f37,hh37,Tryz.func37,tab37⟩
 · cases h; exact ⟨Tryz.f42,hh42,Tryz.func42,tab42⟩
 · cases h; exact ⟨Tryz.f43,hh43,Tryz.func43,tab43⟩
 · cases h; exact ⟨Tryz.f44,hh44,Tryz.func44,tab44⟩
 · cases h; exact ⟨Tryz.f49,hh49,Tryz.func49,tab49⟩
 · cases h; exact ⟨Tryz.f50,hh50,Tryz.func50,tab50⟩
 · cases h; exact ⟨Tryz.f51,hh51,Tryz.func51,tab51⟩
 · cases h; exact ⟨Tryz.f52,hh52,Tryz.func52,tab52⟩
 · cases h; exact ⟨Tryz.f67,hh67,Tryz.func67,tab67⟩
 · cases h; exact ⟨Tryz.f68,hh68,Tryz.func68,tab68⟩
 · cases h; exact ⟨Tryz.f69,hh69,Tryz.func69,tab69⟩
 · cases h; exact ⟨Tryz.f75,hh75,Tryz.func75,tab75⟩
 · cases h; exact ⟨Tryz.f94,hh94,Tryz.func94,tab94⟩
 · cases h; exact ⟨Tryz.f95,hh95,Tryz.func95,tab95⟩
 · cases h; exact ⟨Tryz.f96,hh96,Tryz.func96,tab96⟩
 · cases h; exact prim35
 · cases h; exact prim36
 · cases h; exact prim38
 · cases h; exact prim39
 · cases h; exact prim40
 · cases h; exact prim47
 · cases h; exact prim48
 · cases h; exact prim55
 · cases h
theorem neOk:∀ f,aKG sgN vsN FT f (TN f):=by
 intro f
 unfold TN
 split
 · exact ⟨rfl,chk6⟩
 · exact ⟨rfl,chk7⟩
 · exact ⟨rfl,chk11⟩
 · exact ⟨rfl,chk13⟩
 · exact ⟨rfl,chk15⟩
 · exact ⟨rfl,chk16⟩
 · exact ⟨rfl,chk17⟩
 · exact ⟨rfl,chk18⟩
 · exact ⟨rfl,chk20⟩
 · exact ⟨rfl,chk22⟩
 · exact ⟨rfl,chk24⟩
 · exact ⟨rfl,chk26⟩
 · exact ⟨rfl,chk28⟩
 · exact ⟨rfl,chk37⟩
 · exact ⟨rfl,chk42⟩
 · exact ⟨rfl,chk43⟩
 · exact ⟨rfl,chk44⟩
 · exact ⟨rfl,chk49⟩
 · exact ⟨rfl,chk50⟩
 · exact ⟨rfl,chk51⟩
 · exact ⟨rfl,chk52⟩
 · exact ⟨rfl,chk67⟩
 · exact ⟨rfl,chk68⟩
 · exact ⟨rfl,chk69⟩
 · exact ⟨rfl,chk75⟩
 · exact ⟨rfl,chk94⟩
 · exact ⟨rfl,chk95⟩
 · exact ⟨rfl,chk96⟩
 · exact fun N=>aKL (s:=sgN 35) rfl rfl (aKP rfl) (rsE rfl) N
 · exact fun N=>aJX rfl N
 · exact fun N=>aKL (s:=sgN 38) rfl rfl (aKP rfl) (rsE rfl) N
 · exact fun N=>aKL (s:=sgN 39) rfl rfl (aKP rfl) (rsE rfl) N
 · exact fun N=>aKL (s:=sgN 40) rfl rfl (aKP rfl) (rsE rfl) N
 · exact fun N=>qH_ok (ps:=[.d (.sl tyC),.d tyC,.d (.fn 44)]) (rs:=[(.sl tyC,[]),(.int .i64,[])]) rfl (aKP rfl) (rsE rfl) hAddC N
 · exact fun N=>qH_ok (ps:=[.d (.sl tyC),.d tyC]) (rs:=[(.sl tyC,[])]) rfl (aKP rfl) (rsE rfl) hWoC N
 · exact fun N=>qH_ok (ps:=[.d (.sl tyL),.d tyL,.d (.fn 52)]) (rs:=[(.sl tyL,[]),(.int .i64,[])]) rfl (aKP rfl) (rsE rfl) hAddL N
 · trivial
theorem sigOk (f:Nat):aAW FT f=vsN f:=by
 unfold vsN
 split
 · exact sig6
 · exact sig7
 · exact sig11
 · exact sig13
 · exact sig15
 · exact sig16
 · exact sig17
 · exact sig18
 · exact sig20
 · exact sig22
 · exact sig24
 · exact sig26
 · exact sig28
 · exact sig37
 · exact sig42
 · exact sig43
 · exact sig44
 · exact sig49
 · exact sig50
 · exact sig51
 · exact sig52
 · exact sig67
 · exact sig68
 · exact sig69
 · exact sig75
 · exact sig94
 · exact sig95
 · exact sig96
 · rfl
 · rfl
 · rfl
 · rfl
 · rfl
 · rfl
 · rfl
 · rfl
 · rename_i h6 h7 h11 h13 h15 h16 h17 h18 h20 h22 h24 h26 h28 h37 h42 h43 h44 h49 h50 h51 h52 h67 h68 h69 h75 h94 h95 h96 h35 h36 h38 h39 h40 h47 h48 h55
   have e:FT f=none:=by
    unfold FT
    split
    · exact (h6 rfl).elim
    · exact (h7 rfl).elim
    · exact (h11 rfl).elim
    · exact (h13 rfl).elim
    · exact (h15 rfl).elim
    · exact (h16 rfl).elim
    · exact (h17 rfl).elim
    · exact (h18 rfl).elim
    · exact (h20 rfl).elim
    · exact (h22 rfl).elim
    · exact (h24 rfl).elim
    · exact (h26 rfl).elim
    · exact (h28 rfl).elim
    · exact (h37 rfl).elim
    · exact (h42 rfl).elim
    · exact (h43 rfl).elim
    · exact (h44 rfl).elim
    · exact (h49 rfl).elim
    · exact (h50 rfl).elim
    · exact (h51 rfl).elim
    · exact (h52 rfl).elim
    · exact (h67 rfl).elim
    · exact (h68 rfl).elim
    · exact (h69 rfl).elim
    · exact (h75 rfl).elim
    · exact (h94 rfl).elim
    · exact (h95 rfl).elim
    · exact (h96 rfl).elim
    · exact (h35 rfl).elim
    · exact (h36 rfl).elim
    · exact (h38 rfl).elim
    · exact (h39 rfl).elim
    · exact (h40 rfl).elim
    · exact (h47 rfl).elim
    · exact (h48 rfl).elim
    · exact (h55 rfl).elim
    · rfl
   unfold aAW; rw [e]
theorem typed:∀ N f,aF7 (aAW FT) (call FT N) f (nfN TN N f):=aIr sigOk neOk
end Go.Proofs.YtghpknbkecolnaaGreatDoor
