/- The functions that the laws reach: how they are compiled and read. Definitions alone. -/
import Derived.Test.YtbpocjclcbjggaaGreatDoorTC
import Derived.Test.YtbpocjclcbjggaaGreatDoorProg
import Derived.KernelRfl
import Derived.Test.YtbpocjclcbjggaaGreatDoorHCX
namespace Go.Proofs.YtbpocjclcbjggaaGreatDoor.Z
open Go.VM
set_option maxRecDepth 100000
abbrev t0:Ty:=.pair (.int .u8) (.int .u8)
abbrev t1:Ty:=.pair (.int .u8) t0
abbrev t2:Ty:=.pair (.int .u8) t1
abbrev t3:Ty:=.pair (.int .u8) t2
abbrev t4:Ty:=.pair (.int .u8) t3
abbrev t5:Ty:=.pair (.int .u64) (.int .u64)
abbrev t6:Ty:=.st (.pair .bool t5)
abbrev t7:Ty:=.pair (.sl (.st t4)) (.pair t6 t6)
abbrev t8:Ty:=.pair (.int .i64) t7
abbrev t9:Ty:=.pair (.int .i64) t8
abbrev t10:Ty:=.pair (.int .i64) t9
abbrev t11:Ty:=.pair (.int .i64) (.sl (.st t10))
abbrev t12:Ty:=.pair (.int .i64) t11
abbrev t13:Ty:=.pair .str (.pair .str t12)
abbrev t14:Ty:=.pair (.int .i64) t13
abbrev t15:Ty:=.pair (.st t4) (.int .i64)
abbrev t16:Ty:=.st (.pair t6 t15)
abbrev t17:Ty:=.pair t6 (.int .i64)
abbrev t18:Ty:=.pair (.sl (.st t14)) (.sl (.st t14))
abbrev t19:Ty:=.pair (.st t17) t18
abbrev t20:Ty:=.pair (.st t17) t19
def q:Nat->List SY->List (Nat×SY)
 |_,[]=>[]
 |n,s::r=>(n,s)::q (n+1) r
abbrev y0:SY:=.d (.int .i64)
abbrev y1:SY:=.d .bool
abbrev y2:SY:=.d (.int .u64)
abbrev y3:SY:=.d (.sl (.st t14))
abbrev y4:SY:=.d (.sl (.st t10))
abbrev y5:SY:=.d (.st t20)
abbrev y6:SY:=.d (.sl (.int .i64))
abbrev y7:SY:=.reg (.st t20)
noncomputable def hh39:Hints:=⟨[],[(5,.r 2),(7,.r 3)],[],[9],[],[]⟩
noncomputable def vf39:VF:=aKN Tryz.prog hh39 [0,1,2,3,4] [] Tryz.f39
noncomputable def fi39:FI:=⟨q 0 [.d t16,.d t16,.reg t16,.reg t16,y0,.rp 2 0,.d t6,.rp 3 0,.d t6,y0],[]⟩
noncomputable def hh40:Hints:=⟨[],[(2,.r 2),(3,.r 3),(10,.r 2),(12,.r 3),(15,.r 2),(17,.r 3)],[],[6,8,9,14,19,21],[],[]⟩
noncomputable def vf40:VF:=aKN Tryz.prog hh40 [0,1,2,3,4] [] Tryz.f40
noncomputable def fi40:FI:=⟨q 0 [.d t6,.d t6,.reg t6,.reg t6,y0,.d t6,y0,.d t6,y0,y0,.rp 2 1,y2,.rp 3 1,y2,y0,.rp 2 2,y2,.rp 3 2,y2,y0,y6,y0],[]⟩
noncomputable def hh49:Hints:=⟨[],[(3,.r 1),(6,.r 1)],[],[],[],[]⟩
noncomputable def vf49:VF:=aKN Tryz.prog hh49 [0,1,2] [] Tryz.f49
noncomputable def fi49:FI:=⟨q 0 [y5,y7,y3,.rp 1 8,y3,y3,.rp 1 9,y3,y3],[]⟩
noncomputable def hh59:Hints:=⟨[],[(1,.r 1),(11,.e []),(5,.r 5),(14,.r 5)],[],[7],[],[]⟩
noncomputable def vf59:VF:=aKN Tryz.prog hh59 [0,1,2,3,5,7,8,9,10] [] Tryz.f59
noncomputable def fi59:FI:=⟨q 0 [y5,y7,y4,y4]++q 6 [y5,y3,y0,y0,y1,.ep (.st t14) 0 (some (7,none)),.d (.st t14)]++q 5 [.reg (.st t14)]++q 13 [y4,.rp 5 5,y4,y4,y0,y4],[.j [3],.l [3,7,8,9] (some [(9,⟨[],none⟩),(8,⟨[],none⟩),(7,⟨[(0,⟨[512],true,false,false,false,none⟩)],none⟩),(3,⟨[(0,⟨[1088],true,true,true,true,none⟩)],none⟩)]),.n,.n]⟩
noncomputable def hh61:Hints:=⟨[],[(5,.r 2),(7,.r 3)],[],[9],[],[]⟩
noncomputable def vf61:VF:=aKN Tryz.prog hh61 [0,1,2,3,4] [] Tryz.f61
noncomputable def fi61:FI:=⟨q 0 [.d (.st t10),.d (.st t10),.reg (.st t10),.reg (.st t10),y0,.rp 2 0,y0,.rp 3 0,y0,y0],[]⟩
noncomputable def hh62:Hints:=⟨[],[],[],[8,10],[],[]⟩
noncomputable def vf62:VF:=aKN Tryz.prog hh62 [0,1,4,5,6,11,12,13,16,19] [] Tryz.f62
noncomputable def fi62:FI:=⟨q 0 [y0,y0]++q 4 [y0]++q 7 [y0,y1]++q 5 [y1]++q 9 [y0,y1]++q 6 [y1]++q 11 [y1,y1,y1,y0,y0,y1,y0,y0,y1],[.n,.n,.n,.n,.n]⟩
noncomputable def hh64:Hints:=⟨[],[(10,.e [])],[],[],[],[]⟩
noncomputable def vf64:VF:=aKN Tryz.prog hh64 [0,2,3,5,6,7,8,9,14] [] Tryz.f64
noncomputable def fi64:FI:=⟨q 0 [y6]++q 2 [y0,y0]++q 6 [y6,y0,y0,y1,.ep (.int .i64) 0 (some (0,none)),y0]++q 5 [y0]++q 12 [y0,y0,y1,y0,y0,y0],[.j [3],.l [3,6,7,8] none,.n,.n,.n]⟩
noncomputable def hh65:Hints:=⟨[],[(3,.r 1)],[],[],[],[]⟩
noncomputable def vf65:VF:=aKN Tryz.prog hh65 [0,1,2,4] [] Tryz.f65
noncomputable def fi65:FI:=⟨q 0 [.d t6,.reg t6,y0,.rp 1 0,y1],[.n]⟩
noncomputable def hh66:Hints:=⟨[],[],[],[8,10],[],[]⟩
noncomputable def vf66:VF:=aKN Tryz.prog hh66 [0,1,4,5,6,11,12,13,16,19] [] Tryz.f66
noncomputable def fi66:FI:=⟨q 0 [y2,y2]++q 4 [y0]++q 7 [y2,y1]++q 5 [y1]++q 9 [y2,y1]++q 6 [y1]++q 11 [y1,y1,y1,y2,y2,y1,y2,y2,y1],[.n,.n,.n,.n,.n]⟩
noncomputable def hh71:Hints:=⟨[],[(3,.r 1),(5,.r 1)],[],[8],[],[]⟩
noncomputable def vf71:VF:=aKN Tryz.prog hh71 [0,1,2] [] Tryz.f71
noncomputable def fi71:FI:=⟨q 0 [y5,y7,y3,.rp 1 8,y3,.rp 1 9,y3,.d (.sl (.sl (.st t14))),y3],[]⟩
noncomputable def hh93:Hints:=⟨[],[],[],[],[],[]⟩
noncomputable def vf93:VF:=aKN Tryz.prog hh93 [0,2] [] Tryz.f93
noncomputable def fi93:FI:=⟨q 0 [y0]++q 2 [y1,y0,y0,y1],[]⟩
noncomputable def hh96:Hints:=⟨[],[],[],[],[],[]⟩
noncomputable def vf96:VF:=aKN Tryz.prog hh96 [0,2] [] Tryz.f96
noncomputable def fi96:FI:=⟨q 0 [y2]++q 2 [y1,y2,y2,y1],[]⟩
noncomputable def hh115:Hints:=⟨[],[(1,.r 1)],[],[],[],[]⟩
noncomputable def vf115:VF:=aKN Tryz.prog hh115 [0,1,2] [] Tryz.f115
noncomputable def fi115:FI:=⟨q 0 [.d t6,.reg t6,y1,.d t6,.d t6,y1],[]⟩
noncomputable def FT:Nat->Option Entry
 |39=>some (.code vf39)
 |40=>some (.code vf40)
 |49=>some (.code vf49)
 |59=>some (.code vf59)
 |61=>some (.code vf61)
 |62=>some (.code vf62)
 |64=>some (.code vf64)
 |65=>some (.code vf65)
 |66=>some (.code vf66)
 |71=>some (.code vf71)
 |93=>some (.code vf93)
 |96=>some (.code vf96)
 |115=>some (.code vf115)
 |110=>some (.prim [] (pM [.sl (.sl tyMe)] gCat enCat))
 |_=>none
noncomputable def sgN:Nat->Sg
 |110=>⟨[.d (.sl (.sl (.st t14)))],[(.sl (.st t14),[])],none⟩
 |39=>⟨[.d t16,.d t16],[(.int .i64,[])],none⟩
 |40=>⟨[.d t6,.d t6],[(.int .i64,[])],none⟩
 |49=>⟨[.d (.st t20)],[(.sl (.st t14),[(0,true)])],none⟩
 |59=>⟨[.d (.st t20)],[(.sl (.st t10),[(0,true)])],none⟩
 |61=>⟨[.d (.st t10),.d (.st t10)],[(.int .i64,[])],none⟩
 |62=>⟨[.d (.int .i64),.d (.int .i64)],[(.int .i64,[])],none⟩
 |64=>⟨[.d (.sl (.int .i64))],[(.int .i64,[])],none⟩
 |65=>⟨[.d t6],[(.int .i64,[])],none⟩
 |66=>⟨[.d (.int .u64),.d (.int .u64)],[(.int .i64,[])],none⟩
 |71=>⟨[.d (.st t20)],[(.sl (.st t14),[])],none⟩
 |93=>⟨[.d (.int .i64)],[(.bool,[])],none⟩
 |96=>⟨[.d (.int .u64)],[(.bool,[])],none⟩
 |115=>⟨[.d t6],[(.bool,[])],none⟩
 |_=>⟨[],[],none⟩
noncomputable def vsN:Nat->Sig
 |39=>⟨[],true⟩
 |40=>⟨[],true⟩
 |49=>⟨[],true⟩
 |59=>⟨[],true⟩
 |61=>⟨[],true⟩
 |62=>⟨[],true⟩
 |64=>⟨[],true⟩
 |65=>⟨[],true⟩
 |66=>⟨[],true⟩
 |71=>⟨[],true⟩
 |93=>⟨[],true⟩
 |96=>⟨[],true⟩
 |115=>⟨[],true⟩
 |110=>⟨[],true⟩
 |_=>⟨[],false⟩
noncomputable def TN:(f:Nat)->NE (sgN f)
 |39=>.code fi39 vf39
 |40=>.code fi40 vf40
 |49=>.code fi49 vf49
 |59=>.code fi59 vf59
 |61=>.code fi61 vf61
 |62=>.code fi62 vf62
 |64=>.code fi64 vf64
 |65=>.code fi65 vf65
 |66=>.code fi66 vf66
 |71=>.code fi71 vf71
 |93=>.code fi93 vf93
 |96=>.code fi96 vf96
 |115=>.code fi115 vf115
 |110=>.prim gCat
 |_=>.no
end Go.Proofs.YtbpocjclcbjggaaGreatDoor.Z
