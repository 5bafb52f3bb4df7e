/- The table is the program's, and the readings are the machine's. -/
import Derived.Test.YtgfmodmeimhhpaaDoorZK1
namespace Go.Proofs.YtgfmodmeimhhpaaDoor.Z
open Go.VM
set_option maxRecDepth 100000
abbrev Ow:World->Prop:=fun _=>True
theorem tableOk:rJ Ow Tryd.prog FT:=by intro f e h;unfold FT at h;split at h;cases h;exact⟨Tryd.f9,hh9,Tryd.func9,tab9⟩;cases h;exact⟨Tryd.f13,hh13,Tryd.func13,tab13⟩;cases h;exact⟨Tryd.f30,hh30,Tryd.func30,tab30⟩;cases h;exact⟨Tryd.f31,hh31,Tryd.func31,tab31⟩;cases h;exact⟨Tryd.f32,hh32,Tryd.func32,tab32⟩;cases h;exact⟨Tryd.f33,hh33,Tryd.func33,tab33⟩;cases h;exact⟨Tryd.f38,hh38,Tryd.func38,tab38⟩;cases h;exact⟨Tryd.f39,hh39,Tryd.func39,tab39⟩;cases h;exact⟨Tryd.f48,hh48,Tryd.func48,tab48⟩;cases h;exact⟨Tryd.f52,hh52,Tryd.func52,tab52⟩;cases h;exact⟨Tryd.f78,hh78,Tryd.func78,tab78⟩;cases h;exact⟨Tryd.f79,hh79,Tryd.func79,tab79⟩;cases h;exact⟨Tryd.f80,hh80,Tryd.func80,tab80⟩;cases h;exact⟨Tryd.f81,hh81,Tryd.func81,tab81⟩;cases h
theorem neOk:∀f,aKG sgN vsN FT f (TN f):=by intro f;unfold TN;split;exact⟨rfl,chk9⟩;exact⟨rfl,chk13⟩;exact⟨rfl,chk30⟩;exact⟨rfl,chk31⟩;exact⟨rfl,chk32⟩;exact⟨rfl,chk33⟩;exact⟨rfl,chk38⟩;exact⟨rfl,chk39⟩;exact⟨rfl,chk48⟩;exact⟨rfl,chk52⟩;exact⟨rfl,chk78⟩;exact⟨rfl,chk79⟩;exact⟨rfl,chk80⟩;exact⟨rfl,chk81⟩;trivial
theorem sigOk(f:Nat):aAW FT f=vsN f:=by
 unfold vsN;split;exact sig9;exact sig13;exact sig30;exact sig31;exact sig32;exact sig33;exact sig38;exact sig39;exact sig48;exact sig52;exact sig78;exact sig79;exact sig80;exact sig81;rename_i h9 h13 h30 h31 h32 h33 h38 h39 h48 h52 h78 h79 h80 h81;have e:FT f=none:=by unfold FT;split;exact(h9 rfl).elim;exact(h13 rfl).elim;exact(h30 rfl).elim;exact(h31 rfl).elim;exact(h32 rfl).elim;exact(h33 rfl).elim;exact(h38 rfl).elim;exact(h39 rfl).elim;exact(h48 rfl).elim;exact(h52 rfl).elim;exact(h78 rfl).elim;exact(h79 rfl).elim;exact(h80 rfl).elim;exact(h81 rfl).elim;rfl
 unfold aAW;rw[e]
theorem typed:∀N f,aF7 (aAW FT) (call FT N) f (nfN TN N f):=aIr sigOk neOk
end Go.Proofs.YtgfmodmeimhhpaaDoor.Z
