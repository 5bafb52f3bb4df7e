/- The table is the program's, and the readings are the machine's. -/
import Derived.Test.YtghpknbkecolnaaDoorZK1
namespace Go.Proofs.YtghpknbkecolnaaDoor.Z
open Go.VM
set_option maxRecDepth 100000
abbrev Ow:World→Prop:=fun _=>True
theorem tableOk:rJ Ow Tryd.prog FT:=by
 intro f e h
 unfold FT at h
 split at h
 · cases h; exact ⟨Tryd.f13,hh13,Tryd.func13,tab13⟩
 · cases h; exact ⟨Tryd.f22,hh22,Tryd.func22,tab22⟩
 · cases h; exact ⟨Tryd.f25,hh25,Tryd.func25,tab25⟩
 · cases h; exact ⟨Tryd.f26,hh26,Tryd.func26,tab26⟩
 · cases h; exact ⟨Tryd.f42,hh42,Tryd.func42,tab42⟩
 · cases h
theorem neOk:∀ f,aKG sgN vsN FT f (TN f):=by
 intro f
 unfold TN
 split
 · exact ⟨rfl,chk13⟩
 · exact ⟨rfl,chk22⟩
 · exact ⟨rfl,chk25⟩
 · exact ⟨rfl,chk26⟩
 · exact ⟨rfl,chk42⟩
 · trivial
theorem sigOk (f:Nat):aAW FT f=vsN f:=by
 unfold vsN
 split
 · exact sig13
 · exact sig22
 · exact sig25
 · exact sig26
 · exact sig42
 · rename_i h13 h22 h25 h26 h42
   have e:FT f=none:=by
    unfold FT
    split
    · exact (h13 rfl).elim
    · exact (h22 rfl).elim
    · exact (h25 rfl).elim
    · exact (h26 rfl).elim
    · exact (h42 rfl).elim
    · rfl
   unfold aAW; rw [e]
theorem typed:∀ N f,aF7 (aAW FT) (call FT N) f (nfN TN N f):=aIr sigOk neOk
end Go.Proofs.YtghpknbkecolnaaDoor.Z
