/- The table is the program's, and the readings are the machine's. -/
import Derived.Test.YtghpknbkecolnaaGreatDoorZK1
namespace Go.Proofs.YtghpknbkecolnaaGreatDoor.Z
open Go.VM
set_option maxRecDepth 100000
abbrev Ow:World→Prop:=fun _=>True
theorem tableOk:rJ Ow Tryz.prog FT:=by
 intro f e h
 unfold FT at h
 split at h
 · cases h; exact ⟨Tryz.f44,hh44,Tryz.func44,tab44⟩
 · cases h; exact ⟨Tryz.f52,hh52,Tryz.func52,tab52⟩
 · cases h; exact ⟨Tryz.f68,hh68,Tryz.func68,tab68⟩
 · cases h; exact ⟨Tryz.f69,hh69,Tryz.func69,tab69⟩
 · cases h; exact ⟨Tryz.f70,hh70,Tryz.func70,tab70⟩
 · cases h; exact ⟨Tryz.f76,hh76,Tryz.func76,tab76⟩
 · cases h; exact ⟨Tryz.f96,hh96,Tryz.func96,tab96⟩
 · cases h
theorem neOk:∀ f,aKG sgN vsN FT f (TN f):=by
 intro f
 unfold TN
 split
 · exact ⟨rfl,chk44⟩
 · exact ⟨rfl,chk52⟩
 · exact ⟨rfl,chk68⟩
 · exact ⟨rfl,chk69⟩
 · exact ⟨rfl,chk70⟩
 · exact ⟨rfl,chk76⟩
 · exact ⟨rfl,chk96⟩
 · trivial
theorem sigOk (f:Nat):aAW FT f=vsN f:=by
 unfold vsN
 split
 · exact sig44
 · exact sig52
 · exact sig68
 · exact sig69
 · exact sig70
 · exact sig76
 · exact sig96
 · rename_i h44 h52 h68 h69 h70 h76 h96
   have e:FT f=none:=by
    unfold FT
    split
    · exact (h44 rfl).elim
    · exact (h52 rfl).elim
    · exact (h68 rfl).elim
    · exact (h69 rfl).elim
    · exact (h70 rfl).elim
    · exact (h76 rfl).elim
    · exact (h96 rfl).elim
    · rfl
   unfold aAW; rw [e]
theorem typed:∀ N f,aF7 (aAW FT) (call FT N) f (nfN TN N f):=aIr sigOk neOk
end Go.Proofs.YtghpknbkecolnaaGreatDoor.Z
