/- The table is the program's, and the readings are the machine's. -/
import Derived.Test.YtghpknbkecolnaaDoorNK1
import Derived.Test.YtghpknbkecolnaaDoorNK2
import Derived.Test.YtghpknbkecolnaaDoorShelf
import Derived.Test.YtghpknbkecolnaaDoorHP
namespace Go.Proofs.YtghpknbkecolnaaDoor
open Go.VM
set_option maxRecDepth 100000
abbrev Ow:World→Prop:=OmW Tryd.prog true true none (some 1)
theorem prim12:PrimOk Ow Tryd.prog 12 [] (pH [.sl tyC,tyC,.fn 13] (gAdd Z.lesC) (enAdd 2 vcC)):=primAddC
theorem prim15:PrimOk Ow Tryd.prog 15 [] (pF gFields):=by
 obtain ⟨c,hb⟩:∃ c,Tryd.f15.body=some c:=⟨_,rfl⟩
 exact gFields_ok Tryd.func15 hb (by kernel_rfl) (g:=1) (fun _ h=>h.2 _ rfl) (fun s w h1 h2 h3=>Tryd.strings_Fields_any s w h1 h2 h3)
theorem prim16:PrimOk Ow Tryd.prog 16 [] (pF aEQ):=by
 obtain ⟨c,hb⟩:∃ c,Tryd.f16.body=some c:=⟨_,rfl⟩
 exact aI6 Tryd.func16 hb (by kernel_rfl) (fun _ h=>h.1.1) (fun s t w h hs h2=>Tryd.strings_Split_shaped s t w h hs h2)
theorem prim17:PrimOk Ow Tryd.prog 17 [] (pF (aET 86)):=by
 obtain ⟨c,hb⟩:∃ c,Tryd.f17.body=some c:=⟨_,rfl⟩
 exact aJM Tryd.func17 hb (by kernel_rfl) (fun _ h=>h.1.2.2.1 rfl) Tryd.strconv_Atoi_ok Tryd.strconv_Atoi_syntax_var Tryd.strconv_Atoi_range_var
theorem prim36:PrimOk Ow Tryd.prog 36 [] aGB:=by
 obtain ⟨c,hb⟩:∃ c,Tryd.f36.body=some c:=⟨_,rfl⟩
 exact aJG Tryd.func36 hb (by kernel_rfl) Tryd.strings_Join_none Tryd.strings_Join
theorem prim52:PrimOk Ow Tryd.prog 52 [] (pF aH1):=by
 obtain ⟨c,hb⟩:∃ c,Tryd.f52.body=some c:=⟨_,rfl⟩
 exact aJL Tryd.func52 hb (by kernel_rfl) (fun _ h=>h.1.2.1 rfl) (fun n h0 h1 w h=>Tryd.strconv_Itoa n h0 h1 w h)
theorem tableOk:rJ Ow Tryd.prog FT:=by
 intro f e h
 unfold FT at h
 split at h
 · cases h; exact ⟨Tryd.f3,hh3,Tryd.func3,tab3⟩
 · cases h; exact ⟨Tryd.f4,hh4,Tryd.func4,tab4⟩
 · cases h; exact ⟨Tryd.f5,hh5,Tryd.func5,tab5⟩
 · cases h; exact ⟨Tryd.f6,hh6,Tryd.func6,tab6⟩
 · cases h; exact ⟨Tryd.f7,hh7,Tryd.func7,tab7⟩
 · cases h; exact ⟨Tryd.f8,hh8,Tryd.func8,tab8⟩
 · cases h; exact ⟨Tryd.f9,hh9,Tryd.func9,tab9⟩
 · cases h; exact ⟨Tryd.f10,hh10,Tryd.func10,tab10⟩
 · cases h; exact ⟨Tryd.f11,hh11,Tryd.func11,tab11⟩
 · cases h; exact ⟨Tryd.f13,hh13,Tryd.func13,tab13⟩
 · cases h; exact ⟨Tryd.f14,hh14,Tryd.func14,tab14⟩
 · cases h; exact ⟨Tryd.f18,hh18,Tryd.func18,tab18⟩
 · cases h; exact ⟨Tryd.f19,hh19,Tryd.func19,tab19⟩
 · cases h; exact ⟨Tryd.f20,hh20,Tryd.func20,tab20⟩
 · cases h; exact ⟨Tryd.f21,hh21,Tryd.func21,tab21⟩
 · cases h; exact ⟨Tryd.f25,hh25,Tryd.func25,tab25⟩
 · cases h; exact ⟨Tryd.f26,hh26,Tryd.func26,tab26⟩
 · cases h; exact ⟨Tryd.f32,hh32,Tryd.func32,tab32⟩
 · cases h; exact ⟨Tryd.f33,hh33,Tryd.func33,tab33⟩
 · cases h; exact ⟨Tryd.f34,hh34,Tryd.func34,tab34⟩
 · cases h; exact ⟨Tryd.f35,hh35,Tryd.func35,tab35⟩
 · cases h; exact ⟨Tryd.f37,hh37,Tryd.func37,tab37⟩
 · cases h; exact ⟨Tryd.f38,hh38,Tryd.func38,tab38⟩
 · cases h; exact ⟨Tryd.f39,hh39,Tryd.func39,tab39⟩
 · cases h; exact ⟨Tryd.f42,hh42,Tryd.func42,tab42⟩
 · cases h; exact prim12
 · cases h; exact prim15
 · cases h; exact prim16
 · cases h; exact prim17
 · cases h; exact prim36
 · cases h; exact prim52
 · cases h
theorem neOk:∀ f,aKG sgN vsN FT f (TN f):=by
 intro f
 unfold TN
 split
 · exact ⟨rfl,chk3⟩
 · exact ⟨rfl,chk4⟩
 · exact ⟨rfl,chk5⟩
 · exact ⟨rfl,chk6⟩
 · exact ⟨rfl,chk7⟩
 · exact ⟨rfl,chk8⟩
 · exact ⟨rfl,chk9⟩
 · exact ⟨rfl,chk10⟩
 · exact ⟨rfl,chk11⟩
 · exact ⟨rfl,chk13⟩
 · exact ⟨rfl,chk14⟩
 · exact ⟨rfl,chk18⟩
 · exact ⟨rfl,chk19⟩
 · exact ⟨rfl,chk20⟩
 · exact ⟨rfl,chk21⟩
 · exact ⟨rfl,chk25⟩
 · exact ⟨rfl,chk26⟩
 · exact ⟨rfl,chk32⟩
 · exact ⟨rfl,chk33⟩
 · exact ⟨rfl,chk34⟩
 · exact ⟨rfl,chk35⟩
 · exact ⟨rfl,chk37⟩
 · exact ⟨rfl,chk38⟩
 · exact ⟨rfl,chk39⟩
 · exact ⟨rfl,chk42⟩
 · exact fun N=>qH_ok (ps:=[.d (.sl tyC),.d tyC,.d (.fn 13)]) (rs:=[(.sl tyC,[]),(.int .i64,[])]) rfl (aKP rfl) (rsE rfl) hAddC N
 · exact fun N=>aKL (s:=sgN 15) rfl rfl (aKP rfl) (rsE rfl) N
 · exact fun N=>aKL (s:=sgN 16) rfl rfl (aKP rfl) (rsE rfl) N
 · exact fun N=>aKL (s:=sgN 17) rfl rfl (aKP rfl) (rsE rfl) N
 · exact fun N=>aJX rfl N
 · exact fun N=>aKL (s:=sgN 52) rfl rfl (aKP rfl) (rsE rfl) N
 · trivial
theorem sigOk (f:Nat):aAW FT f=vsN f:=by
 unfold vsN
 split
 · exact sig3
 · exact sig4
 · exact sig5
 · exact sig6
 · exact sig7
 · exact sig8
 · exact sig9
 · exact sig10
 · exact sig11
 · exact sig13
 · exact sig14
 · exact sig18
 · exact sig19
 · exact sig20
 · exact sig21
 · exact sig25
 · exact sig26
 · exact sig32
 · exact sig33
 · exact sig34
 · exact sig35
 · exact sig37
 · exact sig38
 · exact sig39
 · exact sig42
 · rfl
 · rfl
 · rfl
 · rfl
 · rfl
 · rfl
 · rename_i h3 h4 h5 h6 h7 h8 h9 h10 h11 h13 h14 h18 h19 h20 h21 h25 h26 h32 h33 h34 h35 h37 h38 h39 h42 h12 h15 h16 h17 h36 h52
   have e:FT f=none:=by
    unfold FT
    split
    · exact (h3 rfl).elim
    · exact (h4 rfl).elim
    · exact (h5 rfl).elim
    · exact (h6 rfl).elim
    · exact (h7 rfl).elim
    · exact (h8 rfl).elim
    · exact (h9 rfl).elim
    · exact (h10 rfl).elim
    · exact (h11 rfl).elim
    · exact (h13 rfl).elim
    · exact (h14 rfl).elim
    · exact (h18 rfl).elim
    · exact (h19 rfl).elim
    · exact (h20 rfl).elim
    · exact (h21 rfl).elim
    · exact (h25 rfl).elim
    · exact (h26 rfl).elim
    · exact (h32 rfl).elim
    · exact (h33 rfl).elim
    · exact (h34 rfl).elim
    · exact (h35 rfl).elim
    · exact (h37 rfl).elim
    · exact (h38 rfl).elim
    · exact (h39 rfl).elim
    · exact (h42 rfl).elim
    · exact (h12 rfl).elim
    · exact (h15 rfl).elim
    · exact (h16 rfl).elim
    · exact (h17 rfl).elim
    · exact (h36 rfl).elim
    · exact (h52 rfl).elim
    · rfl
   unfold aAW; rw [e]
theorem typed:∀ N f,aF7 (aAW FT) (call FT N) f (nfN TN N f):=aIr sigOk neOk
end Go.Proofs.YtghpknbkecolnaaDoor
