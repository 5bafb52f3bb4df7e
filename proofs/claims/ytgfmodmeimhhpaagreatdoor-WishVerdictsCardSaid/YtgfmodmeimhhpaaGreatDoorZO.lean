/- The table is the program's, and the readings are the machine's. -/
import Derived.Test.YtgfmodmeimhhpaaGreatDoorZK1
namespace Go.Proofs.YtgfmodmeimhhpaaGreatDoor.Z
open Go.VM
set_option maxRecDepth 100000
abbrev Ow:World->Prop:=fun _=>True
theorem tableOk:rJ Ow Tryz.prog FT:=by
 intro f e h;unfold FT at h;split at h
 .cases h;exact⟨Tryz.f8,hh8,Tryz.func8,tab8⟩
 .cases h;exact⟨Tryz.f10,hh10,Tryz.func10,tab10⟩
 .cases h;exact⟨Tryz.f39,hh39,Tryz.func39,tab39⟩
 .cases h;exact⟨Tryz.f63,hh63,Tryz.func63,tab63⟩
 .cases h;exact⟨Tryz.f64,hh64,Tryz.func64,tab64⟩
 .cases h;exact⟨Tryz.f65,hh65,Tryz.func65,tab65⟩
 .cases h;exact⟨Tryz.f66,hh66,Tryz.func66,tab66⟩
 .cases h;exact⟨Tryz.f72,hh72,Tryz.func72,tab72⟩
 .cases h;exact⟨Tryz.f73,hh73,Tryz.func73,tab73⟩
 .cases h;exact⟨Tryz.f74,hh74,Tryz.func74,tab74⟩
 .cases h;exact⟨Tryz.f75,hh75,Tryz.func75,tab75⟩
 .cases h;exact⟨Tryz.f76,hh76,Tryz.func76,tab76⟩
 .cases h;exact⟨Tryz.f83,hh83,Tryz.func83,tab83⟩
 .cases h;exact⟨Tryz.f84,hh84,Tryz.func84,tab84⟩
 .cases h
theorem neOk:∀f,aKG sgN vsN FT f (TN f):=by
 intro f;unfold TN;split
 .exact⟨rfl,chk8⟩
 .exact⟨rfl,chk10⟩
 .exact⟨rfl,chk39⟩
 .exact⟨rfl,chk63⟩
 .exact⟨rfl,chk64⟩
 .exact⟨rfl,chk65⟩
 .exact⟨rfl,chk66⟩
 .exact⟨rfl,chk72⟩
 .exact⟨rfl,chk73⟩
 .exact⟨rfl,chk74⟩
 .exact⟨rfl,chk75⟩
 .exact⟨rfl,chk76⟩
 .exact⟨rfl,chk83⟩
 .exact⟨rfl,chk84⟩
 .trivial
theorem sigOk(f:Nat):aAW FT f=vsN f:=by
 unfold vsN;split
 .exact sig8
 .exact sig10
 .exact sig39
 .exact sig63
 .exact sig64
 .exact sig65
 .exact sig66
 .exact sig72
 .exact sig73
 .exact sig74
 .exact sig75
 .exact sig76
 .exact sig83
 .exact sig84
 .rename_i h8 h10 h39 h63 h64 h65 h66 h72 h73 h74 h75 h76 h83 h84;have e:FT f=none:=by
   unfold FT;split
   .exact(h8 rfl).elim
   .exact(h10 rfl).elim
   .exact(h39 rfl).elim
   .exact(h63 rfl).elim
   .exact(h64 rfl).elim
   .exact(h65 rfl).elim
   .exact(h66 rfl).elim
   .exact(h72 rfl).elim
   .exact(h73 rfl).elim
   .exact(h74 rfl).elim
   .exact(h75 rfl).elim
   .exact(h76 rfl).elim
   .exact(h83 rfl).elim
   .exact(h84 rfl).elim
   .rfl
  unfold aAW;rw[e]
theorem typed:∀N f,aF7 (aAW FT) (call FT N) f (nfN TN N f):=aIr sigOk neOk
end Go.Proofs.YtgfmodmeimhhpaaGreatDoor.Z
