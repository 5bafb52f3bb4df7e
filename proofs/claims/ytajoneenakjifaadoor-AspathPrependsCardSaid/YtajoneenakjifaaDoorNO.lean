/- The table is the program's, and the readings are the machine's. -/
import Derived.Test.YtajoneenakjifaaDoorNK1
import Derived.Test.YtajoneenakjifaaDoorNK2
import Derived.Test.YtajoneenakjifaaDoorShelf
import Derived.Test.YtajoneenakjifaaDoorHN1
namespace Go.Proofs.YtajoneenakjifaaDoor
open Go.VM
set_option maxRecDepth 100000
abbrev Ow:World→Prop:=OmW Tryd.prog true true none (some 1)
theorem prim10:PrimOk Ow Tryd.prog 10 [] (pH [.str] gParse enParse):=primParse
theorem prim19:PrimOk Ow Tryd.prog 19 [] (pH [.sl tyS,.int .i64,.int .i64] gNear enNear):=primNear
theorem prim31:PrimOk Ow Tryd.prog 31 [] (pH [.sl tyS,.int .i64,.int .i64] gPrep enPrep):=primPrep
theorem prim38:PrimOk Ow Tryd.prog 38 [] aGB:=by
 obtain ⟨c,hb⟩:∃ c,Tryd.f38.body=some c:=⟨_,rfl⟩
 exact aJG Tryd.func38 hb (by kernel_rfl) Tryd.strings_Join_none Tryd.strings_Join
theorem prim49:PrimOk Ow Tryd.prog 49 [] (pF aH1):=by
 obtain ⟨c,hb⟩:∃ c,Tryd.f49.body=some c:=⟨_,rfl⟩
 exact aJL Tryd.func49 hb (by kernel_rfl) (fun _ h=>h.1.2.1 rfl) (fun n h0 h1 w h=>Tryd.strconv_Itoa n h0 h1 w h)
theorem tableOk:rJ Ow Tryd.prog FT:=by
 intro f e h
 unfold FT at h
 split at h
 · cases h; exact ⟨Tryd.f6,hh6,Tryd.func6,tab6⟩
 · cases h; exact ⟨Tryd.f8,hh8,Tryd.func8,tab8⟩
 · cases h; exact ⟨Tryd.f9,hh9,Tryd.func9,tab9⟩
 · cases h; exact ⟨Tryd.f11,hh11,Tryd.func11,tab11⟩
 · cases h; exact ⟨Tryd.f12,hh12,Tryd.func12,tab12⟩
 · cases h; exact ⟨Tryd.f13,hh13,Tryd.func13,tab13⟩
 · cases h; exact ⟨Tryd.f14,hh14,Tryd.func14,tab14⟩
 · cases h; exact ⟨Tryd.f16,hh16,Tryd.func16,tab16⟩
 · cases h; exact ⟨Tryd.f17,hh17,Tryd.func17,tab17⟩
 · cases h; exact ⟨Tryd.f18,hh18,Tryd.func18,tab18⟩
 · cases h; exact ⟨Tryd.f20,hh20,Tryd.func20,tab20⟩
 · cases h; exact ⟨Tryd.f22,hh22,Tryd.func22,tab22⟩
 · cases h; exact ⟨Tryd.f24,hh24,Tryd.func24,tab24⟩
 · cases h; exact ⟨Tryd.f26,hh26,Tryd.func26,tab26⟩
 · cases h; exact ⟨Tryd.f27,hh27,Tryd.func27,tab27⟩
 · cases h; exact ⟨Tryd.f32,hh32,Tryd.func32,tab32⟩
 · cases h; exact ⟨Tryd.f33,hh33,Tryd.func33,tab33⟩
 · cases h; exact ⟨Tryd.f34,hh34,Tryd.func34,tab34⟩
 · cases h; exact ⟨Tryd.f37,hh37,Tryd.func37,tab37⟩
 · cases h; exact ⟨Tryd.f40,hh40,Tryd.func40,tab40⟩
 · cases h; exact ⟨Tryd.f41,hh41,Tryd.func41,tab41⟩
 · cases h; exact prim10
 · cases h; exact prim19
 · cases h; exact prim31
 · cases h; exact prim38
 · cases h; exact prim49
 · cases h
theorem neOk:∀ f,aKG sgN vsN FT f (TN f):=by
 intro f
 unfold TN
 split
 · exact ⟨rfl,chk6⟩
 · exact ⟨rfl,chk8⟩
 · exact ⟨rfl,chk9⟩
 · exact ⟨rfl,chk11⟩
 · exact ⟨rfl,chk12⟩
 · exact ⟨rfl,chk13⟩
 · exact ⟨rfl,chk14⟩
 · exact ⟨rfl,chk16⟩
 · exact ⟨rfl,chk17⟩
 · exact ⟨rfl,chk18⟩
 · exact ⟨rfl,chk20⟩
 · exact ⟨rfl,chk22⟩
 · exact ⟨rfl,chk24⟩
 · exact ⟨rfl,chk26⟩
 · exact ⟨rfl,chk27⟩
 · exact ⟨rfl,chk32⟩
 · exact ⟨rfl,chk33⟩
 · exact ⟨rfl,chk34⟩
 · exact ⟨rfl,chk37⟩
 · exact ⟨rfl,chk40⟩
 · exact ⟨rfl,chk41⟩
 · exact fun N=>qH_ok (ps:=[.d .str]) (rs:=[(.sl tyS,[]),(.int .i64,[])]) rfl (aKP rfl) (rsE rfl) hParse N
 · exact fun N=>qH_ok (ps:=[.d (.sl tyS),.d (.int .i64),.d (.int .i64)]) (rs:=[(.sl tyS,[])]) rfl (aKP rfl) (rsE rfl) hNear N
 · exact fun N=>qH_ok (ps:=[.d (.sl tyS),.d (.int .i64),.d (.int .i64)]) (rs:=[(.sl tyS,[]),(.int .i64,[])]) rfl (aKP rfl) (rsE rfl) hPrep N
 · exact fun N=>aJX rfl N
 · exact fun N=>aKL (s:=sgN 49) rfl rfl (aKP rfl) (rsE rfl) N
 · trivial
theorem sigOk (f:Nat):aAW FT f=vsN f:=by
 unfold vsN
 split
 · exact sig6
 · exact sig8
 · exact sig9
 · exact sig11
 · exact sig12
 · exact sig13
 · exact sig14
 · exact sig16
 · exact sig17
 · exact sig18
 · exact sig20
 · exact sig22
 · exact sig24
 · exact sig26
 · exact sig27
 · exact sig32
 · exact sig33
 · exact sig34
 · exact sig37
 · exact sig40
 · exact sig41
 · rfl
 · rfl
 · rfl
 · rfl
 · rfl
 · rename_i h6 h8 h9 h11 h12 h13 h14 h16 h17 h18 h20 h22 h24 h26 h27 h32 h33 h34 h37 h40 h41 h10 h19 h31 h38 h49
   have e:FT f=none:=by
    unfold FT
    split
    · exact (h6 rfl).elim
    · exact (h8 rfl).elim
    · exact (h9 rfl).elim
    · exact (h11 rfl).elim
    · exact (h12 rfl).elim
    · exact (h13 rfl).elim
    · exact (h14 rfl).elim
    · exact (h16 rfl).elim
    · exact (h17 rfl).elim
    · exact (h18 rfl).elim
    · exact (h20 rfl).elim
    · exact (h22 rfl).elim
    · exact (h24 rfl).elim
    · exact (h26 rfl).elim
    · exact (h27 rfl).elim
    · exact (h32 rfl).elim
    · exact (h33 rfl).elim
    · exact (h34 rfl).elim
    · exact (h37 rfl).elim
    · exact (h40 rfl).elim
    · exact (h41 rfl).elim
    · exact (h10 rfl).elim
    · exact (h19 rfl).elim
    · exact (h31 rfl).elim
    · exact (h38 rfl).elim
    · exact (h49 rfl).elim
    · rfl
   unfold aAW; rw [e]
theorem typed:∀ N f,aF7 (aAW FT) (call FT N) f (nfN TN N f):=aIr sigOk neOk
end Go.Proofs.YtajoneenakjifaaDoor
