/- The table is the program's, and the readings are the machine's. -/
import Derived.Test.YtajoneenakjifaaDoorZK1
import Derived.Test.YtajoneenakjifaaDoorShelf
namespace Go.Proofs.YtajoneenakjifaaDoor.Z
open Go.VM
set_option maxRecDepth 100000
abbrev Ow:World→Prop:=Om Tryd.prog true true none
theorem prim38:PrimOk Ow Tryd.prog 38 [] aGB:=by
 obtain ⟨c,hb⟩:∃ c,Tryd.f38.body=some c:=⟨_,rfl⟩
 exact aJG Tryd.func38 hb (by kernel_rfl) Tryd.strings_Join_none Tryd.strings_Join
theorem prim47:PrimOk Ow Tryd.prog 47 [] (pF aEQ):=by
 obtain ⟨c,hb⟩:∃ c,Tryd.f47.body=some c:=⟨_,rfl⟩
 exact aI6 Tryd.func47 hb (by kernel_rfl) (fun _ h=>h.1) (fun s t w h hs h2=>Tryd.strings_Split_shaped s t w h hs h2)
theorem prim48:PrimOk Ow Tryd.prog 48 [] (pF (aET 119)):=by
 obtain ⟨c,hb⟩:∃ c,Tryd.f48.body=some c:=⟨_,rfl⟩
 exact aJM Tryd.func48 hb (by kernel_rfl) (fun _ h=>h.2.2.1 rfl) Tryd.strconv_Atoi_ok Tryd.strconv_Atoi_syntax_var Tryd.strconv_Atoi_range_var
theorem prim49:PrimOk Ow Tryd.prog 49 [] (pF aH1):=by
 obtain ⟨c,hb⟩:∃ c,Tryd.f49.body=some c:=⟨_,rfl⟩
 exact aJL Tryd.func49 hb (by kernel_rfl) (fun _ h=>h.2.1 rfl) (fun n h0 h1 w h=>Tryd.strconv_Itoa n h0 h1 w h)
theorem tableOk:rJ Ow Tryd.prog FT:=by
 intro f e h
 unfold FT at h
 split at h
 · cases h; exact ⟨Tryd.f11,hh11,Tryd.func11,tab11⟩
 · cases h; exact ⟨Tryd.f14,hh14,Tryd.func14,tab14⟩
 · cases h; exact ⟨Tryd.f17,hh17,Tryd.func17,tab17⟩
 · cases h; exact ⟨Tryd.f27,hh27,Tryd.func27,tab27⟩
 · cases h; exact ⟨Tryd.f36,hh36,Tryd.func36,tab36⟩
 · cases h; exact ⟨Tryd.f37,hh37,Tryd.func37,tab37⟩
 · cases h; exact ⟨Tryd.f40,hh40,Tryd.func40,tab40⟩
 · cases h; exact prim38
 · cases h; exact prim47
 · cases h; exact prim48
 · cases h; exact prim49
 · cases h
theorem neOk:∀ f,aKG sgN vsN FT f (TN f):=by
 intro f
 unfold TN
 split
 · exact ⟨rfl,chk11⟩
 · exact ⟨rfl,chk14⟩
 · exact ⟨rfl,chk17⟩
 · exact ⟨rfl,chk27⟩
 · exact ⟨rfl,chk36⟩
 · exact ⟨rfl,chk37⟩
 · exact ⟨rfl,chk40⟩
 · exact fun N=>aJX rfl N
 · exact fun N=>aKL (s:=sgN 47) rfl rfl (aKP rfl) (rsE rfl) N
 · exact fun N=>aKL (s:=sgN 48) rfl rfl (aKP rfl) (rsE rfl) N
 · exact fun N=>aKL (s:=sgN 49) rfl rfl (aKP rfl) (rsE rfl) N
 · trivial
theorem sigOk (f:Nat):aAW FT f=vsN f:=by
 unfold vsN
 split
 · exact sig11
 · exact sig14
 · exact sig17
 · exact sig27
 · exact sig36
 · exact sig37
 · exact sig40
 · rfl
 · rfl
 · rfl
 · rfl
 · rename_i h11 h14 h17 h27 h36 h37 h40 h38 h47 h48 h49
   have e:FT f=none:=by
    unfold FT
    split
    · exact (h11 rfl).elim
    · exact (h14 rfl).elim
    · exact (h17 rfl).elim
    · exact (h27 rfl).elim
    · exact (h36 rfl).elim
    · exact (h37 rfl).elim
    · exact (h40 rfl).elim
    · exact (h38 rfl).elim
    · exact (h47 rfl).elim
    · exact (h48 rfl).elim
    · exact (h49 rfl).elim
    · rfl
   unfold aAW; rw [e]
theorem typed:∀ N f,aF7 (aAW FT) (call FT N) f (nfN TN N f):=aIr sigOk neOk
end Go.Proofs.YtajoneenakjifaaDoor.Z
