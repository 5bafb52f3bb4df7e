/- The table is the program's, and the readings are the machine's. -/
import Derived.Test.YtajoneenakjifaaGreatDoorZK1
import Derived.Test.YtajoneenakjifaaGreatDoorShelf
namespace Go.Proofs.YtajoneenakjifaaGreatDoor.Z
open Go.VM
set_option maxRecDepth 100000
abbrev Ow:World→Prop:=Om Tryz.prog true true none
theorem prim21:PrimOk Ow Tryz.prog 21 [] aGB:=by
 obtain ⟨c,hb⟩:∃ c,Tryz.f21.body=some c:=⟨_,rfl⟩
 exact aJG Tryz.func21 hb (by kernel_rfl) Tryz.strings_Join_none Tryz.strings_Join
theorem prim27:PrimOk Ow Tryz.prog 27 [] (pF aEQ):=by
 obtain ⟨c,hb⟩:∃ c,Tryz.f27.body=some c:=⟨_,rfl⟩
 exact aI6 Tryz.func27 hb (by kernel_rfl) (fun _ h=>h.1) (fun s t w h hs h2=>Tryz.strings_Split_shaped s t w h hs h2)
theorem prim31:PrimOk Ow Tryz.prog 31 [] (pF aH1):=by
 obtain ⟨c,hb⟩:∃ c,Tryz.f31.body=some c:=⟨_,rfl⟩
 exact aJL Tryz.func31 hb (by kernel_rfl) (fun _ h=>h.2.1 rfl) (fun n h0 h1 w h=>Tryz.strconv_Itoa n h0 h1 w h)
theorem prim38:PrimOk Ow Tryz.prog 38 [] (pF (aET 111)):=by
 obtain ⟨c,hb⟩:∃ c,Tryz.f38.body=some c:=⟨_,rfl⟩
 exact aJM Tryz.func38 hb (by kernel_rfl) (fun _ h=>h.2.2.1 rfl) Tryz.strconv_Atoi_ok Tryz.strconv_Atoi_syntax_var Tryz.strconv_Atoi_range_var
theorem tableOk:rJ Ow Tryz.prog FT:=by
 intro f e h
 unfold FT at h
 split at h
 · cases h; exact ⟨Tryz.f8,hh8,Tryz.func8,tab8⟩
 · cases h; exact ⟨Tryz.f9,hh9,Tryz.func9,tab9⟩
 · cases h; exact ⟨Tryz.f19,hh19,Tryz.func19,tab19⟩
 · cases h; exact ⟨Tryz.f20,hh20,Tryz.func20,tab20⟩
 · cases h; exact ⟨Tryz.f22,hh22,Tryz.func22,tab22⟩
 · cases h; exact ⟨Tryz.f23,hh23,Tryz.func23,tab23⟩
 · cases h; exact ⟨Tryz.f26,hh26,Tryz.func26,tab26⟩
 · cases h; exact ⟨Tryz.f30,hh30,Tryz.func30,tab30⟩
 · cases h; exact ⟨Tryz.f35,hh35,Tryz.func35,tab35⟩
 · cases h; exact prim21
 · cases h; exact prim27
 · cases h; exact prim31
 · cases h; exact prim38
 · cases h
theorem neOk:∀ f,aKG sgN vsN FT f (TN f):=by
 intro f
 unfold TN
 split
 · exact ⟨rfl,chk8⟩
 · exact ⟨rfl,chk9⟩
 · exact ⟨rfl,chk19⟩
 · exact ⟨rfl,chk20⟩
 · exact ⟨rfl,chk22⟩
 · exact ⟨rfl,chk23⟩
 · exact ⟨rfl,chk26⟩
 · exact ⟨rfl,chk30⟩
 · exact ⟨rfl,chk35⟩
 · exact fun N=>aJX rfl N
 · exact fun N=>aKL (s:=sgN 27) rfl rfl (aKP rfl) (rsE rfl) N
 · exact fun N=>aKL (s:=sgN 31) rfl rfl (aKP rfl) (rsE rfl) N
 · exact fun N=>aKL (s:=sgN 38) rfl rfl (aKP rfl) (rsE rfl) N
 · trivial
theorem sigOk (f:Nat):aAW FT f=vsN f:=by
 unfold vsN
 split
 · exact sig8
 · exact sig9
 · exact sig19
 · exact sig20
 · exact sig22
 · exact sig23
 · exact sig26
 · exact sig30
 · exact sig35
 · rfl
 · rfl
 · rfl
 · rfl
 · rename_i h8 h9 h19 h20 h22 h23 h26 h30 h35 h21 h27 h31 h38
   have e:FT f=none:=by
    unfold FT
    split
    · exact (h8 rfl).elim
    · exact (h9 rfl).elim
    · exact (h19 rfl).elim
    · exact (h20 rfl).elim
    · exact (h22 rfl).elim
    · exact (h23 rfl).elim
    · exact (h26 rfl).elim
    · exact (h30 rfl).elim
    · exact (h35 rfl).elim
    · exact (h21 rfl).elim
    · exact (h27 rfl).elim
    · exact (h31 rfl).elim
    · exact (h38 rfl).elim
    · rfl
   unfold aAW; rw [e]
theorem typed:∀ N f,aF7 (aAW FT) (call FT N) f (nfN TN N f):=aIr sigOk neOk
end Go.Proofs.YtajoneenakjifaaGreatDoor.Z
