/- The table is the program's, and the readings are the machine's. -/
import Derived.Test.YtajoneenakjifaaGreatDoorNK1
import Derived.Test.YtajoneenakjifaaGreatDoorNK2
import Derived.Test.YtajoneenakjifaaGreatDoorShelf
import Derived.Test.YtajoneenakjifaaGreatDoorHPQ
import Derived.Test.YtajoneenakjifaaGreatDoorHR1
namespace Go.Proofs.YtajoneenakjifaaGreatDoor
open Go.VM
set_option maxRecDepth 100000
abbrev Ow:World→Prop:=OmW Tryz.prog true true none (some 1)
theorem prim11:PrimOk Ow Tryz.prog 11 [] (pH [.str] gParse enParse):=primParse
theorem prim12:PrimOk Ow Tryz.prog 12 [] (pH [.str] gRef enParse):=primRef
theorem prim21:PrimOk Ow Tryz.prog 21 [] aGB:=by
 obtain ⟨c,hb⟩:∃ c,Tryz.f21.body=some c:=⟨_,rfl⟩
 exact aJG Tryz.func21 hb (by kernel_rfl) Tryz.strings_Join_none Tryz.strings_Join
theorem prim31:PrimOk Ow Tryz.prog 31 [] (pF aH1):=by
 obtain ⟨c,hb⟩:∃ c,Tryz.f31.body=some c:=⟨_,rfl⟩
 exact aJL Tryz.func31 hb (by kernel_rfl) (fun _ h=>h.1.2.1 rfl) (fun n h0 h1 w h=>Tryz.strconv_Itoa n h0 h1 w h)
theorem tableOk:rJ Ow Tryz.prog FT:=by
 intro f e h
 unfold FT at h
 split at h
 · cases h; exact ⟨Tryz.f3,hh3,Tryz.func3,tab3⟩
 · cases h; exact ⟨Tryz.f4,hh4,Tryz.func4,tab4⟩
 · cases h; exact ⟨Tryz.f5,hh5,Tryz.func5,tab5⟩
 · cases h; exact ⟨Tryz.f6,hh6,Tryz.func6,tab6⟩
 · cases h; exact ⟨Tryz.f7,hh7,Tryz.func7,tab7⟩
 · cases h; exact ⟨Tryz.f8,hh8,Tryz.func8,tab8⟩
 · cases h; exact ⟨Tryz.f9,hh9,Tryz.func9,tab9⟩
 · cases h; exact ⟨Tryz.f10,hh10,Tryz.func10,tab10⟩
 · cases h; exact ⟨Tryz.f13,hh13,Tryz.func13,tab13⟩
 · cases h; exact ⟨Tryz.f14,hh14,Tryz.func14,tab14⟩
 · cases h; exact ⟨Tryz.f15,hh15,Tryz.func15,tab15⟩
 · cases h; exact ⟨Tryz.f16,hh16,Tryz.func16,tab16⟩
 · cases h; exact ⟨Tryz.f17,hh17,Tryz.func17,tab17⟩
 · cases h; exact ⟨Tryz.f18,hh18,Tryz.func18,tab18⟩
 · cases h; exact ⟨Tryz.f19,hh19,Tryz.func19,tab19⟩
 · cases h; exact ⟨Tryz.f20,hh20,Tryz.func20,tab20⟩
 · cases h; exact ⟨Tryz.f22,hh22,Tryz.func22,tab22⟩
 · cases h; exact ⟨Tryz.f23,hh23,Tryz.func23,tab23⟩
 · cases h; exact ⟨Tryz.f24,hh24,Tryz.func24,tab24⟩
 · cases h; exact ⟨Tryz.f35,hh35,Tryz.func35,tab35⟩
 · cases h; exact prim11
 · cases h; exact prim12
 · cases h; exact prim21
 · cases h; exact prim31
 · cases h
theorem neOk:∀ f,aKG sgN vsN FT f (TN f):=by
 intro f
 unfold TN
 split
 · exact ⟨rfl,chk3⟩
 · exact ⟨rfl,chk4⟩
 · exact ⟨rfl,chk5⟩
 · exact ⟨rfl,chk6⟩
 · exact ⟨rfl,chk7⟩
 · exact ⟨rfl,chk8⟩
 · exact ⟨rfl,chk9⟩
 · exact ⟨rfl,chk10⟩
 · exact ⟨rfl,chk13⟩
 · exact ⟨rfl,chk14⟩
 · exact ⟨rfl,chk15⟩
 · exact ⟨rfl,chk16⟩
 · exact ⟨rfl,chk17⟩
 · exact ⟨rfl,chk18⟩
 · exact ⟨rfl,chk19⟩
 · exact ⟨rfl,chk20⟩
 · exact ⟨rfl,chk22⟩
 · exact ⟨rfl,chk23⟩
 · exact ⟨rfl,chk24⟩
 · exact ⟨rfl,chk35⟩
 · exact fun N=>qH_ok (ps:=[.d .str]) (rs:=[(.sl tyS,[]),(.int .i64,[])]) rfl (aKP rfl) (rsE rfl) hParse N
 · exact fun N=>qH_ok (ps:=[.d .str]) (rs:=[(.sl tyS,[]),(.int .i64,[])]) rfl (aKP rfl) (rsE rfl) hRef N
 · exact fun N=>aJX rfl N
 · exact fun N=>aKL (s:=sgN 31) rfl rfl (aKP rfl) (rsE rfl) N
 · trivial
theorem sigOk (f:Nat):aAW FT f=vsN f:=by
 unfold vsN
 split
 · exact sig3
 · exact sig4
 · exact sig5
 · exact sig6
 · exact sig7
 · exact sig8
 · exact sig9
 · exact sig10
 · exact sig13
 · exact sig14
 · exact sig15
 · exact sig16
 · exact sig17
 · exact sig18
 · exact sig19
 · exact sig20
 · exact sig22
 · exact sig23
 · exact sig24
 · exact sig35
 · rfl
 · rfl
 · rfl
 · rfl
 · rename_i h3 h4 h5 h6 h7 h8 h9 h10 h13 h14 h15 h16 h17 h18 h19 h20 h22 h23 h24 h35 h11 h12 h21 h31
   have e:FT f=none:=by
    unfold FT
    split
    · exact (h3 rfl).elim
    · exact (h4 rfl).elim
    · exact (h5 rfl).elim
    · exact (h6 rfl).elim
    · exact (h7 rfl).elim
    · exact (h8 rfl).elim
    · exact (h9 rfl).elim
    · exact (h10 rfl).elim
    · exact (h13 rfl).elim
    · exact (h14 rfl).elim
    · exact (h15 rfl).elim
    · exact (h16 rfl).elim
    · exact (h17 rfl).elim
    · exact (h18 rfl).elim
    · exact (h19 rfl).elim
    · exact (h20 rfl).elim
    · exact (h22 rfl).elim
    · exact (h23 rfl).elim
    · exact (h24 rfl).elim
    · exact (h35 rfl).elim
    · exact (h11 rfl).elim
    · exact (h12 rfl).elim
    · exact (h21 rfl).elim
    · exact (h31 rfl).elim
    · rfl
   unfold aAW; rw [e]
theorem typed:∀ N f,aF7 (aAW FT) (call FT N) f (nfN TN N f):=aIr sigOk neOk
end Go.Proofs.YtajoneenakjifaaGreatDoor
