/- The table is the program's, and the readings are the machine's. -/
import Derived.Test.YtbpocjclcbjggaaGreatDoorZK1
import Derived.Test.YtbpocjclcbjggaaGreatDoorHCX
namespace Go.Proofs.YtbpocjclcbjggaaGreatDoor.Z
open Go.VM
set_option maxRecDepth 100000
abbrev Ow:World->Prop:=fun _=>True
theorem prim110:PrimOk Ow Tryz.prog 110 [] (pM [.sl (.sl tyMe)] gCat enCat):=primCat
theorem tableOk:rJ Ow Tryz.prog FT:=by
 intro f e h;unfold FT at h;split at h
 .cases h;exact⟨Tryz.f39,hh39,Tryz.func39,tab39⟩
 .cases h;exact⟨Tryz.f40,hh40,Tryz.func40,tab40⟩
 .cases h;exact⟨Tryz.f49,hh49,Tryz.func49,tab49⟩
 .cases h;exact⟨Tryz.f59,hh59,Tryz.func59,tab59⟩
 .cases h;exact⟨Tryz.f61,hh61,Tryz.func61,tab61⟩
 .cases h;exact⟨Tryz.f62,hh62,Tryz.func62,tab62⟩
 .cases h;exact⟨Tryz.f64,hh64,Tryz.func64,tab64⟩
 .cases h;exact⟨Tryz.f65,hh65,Tryz.func65,tab65⟩
 .cases h;exact⟨Tryz.f66,hh66,Tryz.func66,tab66⟩
 .cases h;exact⟨Tryz.f71,hh71,Tryz.func71,tab71⟩
 .cases h;exact⟨Tryz.f93,hh93,Tryz.func93,tab93⟩
 .cases h;exact⟨Tryz.f96,hh96,Tryz.func96,tab96⟩
 .cases h;exact⟨Tryz.f115,hh115,Tryz.func115,tab115⟩
 .cases h;exact prim110
 .cases h
theorem neOk:∀f,aKG sgN vsN FT f (TN f):=by
 intro f;unfold TN;split
 .exact⟨rfl,chk39⟩
 .exact⟨rfl,chk40⟩
 .exact⟨rfl,chk49⟩
 .exact⟨rfl,chk59⟩
 .exact⟨rfl,chk61⟩
 .exact⟨rfl,chk62⟩
 .exact⟨rfl,chk64⟩
 .exact⟨rfl,chk65⟩
 .exact⟨rfl,chk66⟩
 .exact⟨rfl,chk71⟩
 .exact⟨rfl,chk93⟩
 .exact⟨rfl,chk96⟩
 .exact⟨rfl,chk115⟩
 .exact fun N=>qM_ok (ps:=[.d (.sl (.sl tyMe))]) (rs:=[(.sl tyMe,[])]) rfl (aKP rfl) (rsE rfl) hCat N
 .trivial
theorem sigOk(f:Nat):aAW FT f=vsN f:=by
 unfold vsN;split
 .exact sig39
 .exact sig40
 .exact sig49
 .exact sig59
 .exact sig61
 .exact sig62
 .exact sig64
 .exact sig65
 .exact sig66
 .exact sig71
 .exact sig93
 .exact sig96
 .exact sig115
 .rfl
 .rename_i h39 h40 h49 h59 h61 h62 h64 h65 h66 h71 h93 h96 h115 h110;have e:FT f=none:=by
   unfold FT;split
   .exact(h39 rfl).elim
   .exact(h40 rfl).elim
   .exact(h49 rfl).elim
   .exact(h59 rfl).elim
   .exact(h61 rfl).elim
   .exact(h62 rfl).elim
   .exact(h64 rfl).elim
   .exact(h65 rfl).elim
   .exact(h66 rfl).elim
   .exact(h71 rfl).elim
   .exact(h93 rfl).elim
   .exact(h96 rfl).elim
   .exact(h115 rfl).elim
   .exact(h110 rfl).elim
   .rfl
  unfold aAW;rw[e]
theorem typed:∀N f,aF7 (aAW FT) (call FT N) f (nfN TN N f):=aIr sigOk neOk
end Go.Proofs.YtbpocjclcbjggaaGreatDoor.Z
