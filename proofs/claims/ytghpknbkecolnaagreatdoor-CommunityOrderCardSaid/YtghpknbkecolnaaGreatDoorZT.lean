/- The functions that the laws reach: how they are compiled and read. Definitions alone. -/
import Derived.Test.YtghpknbkecolnaaGreatDoorTC
import Derived.Test.YtghpknbkecolnaaGreatDoorProg
import Derived.KernelRfl
namespace Go.Proofs.YtghpknbkecolnaaGreatDoor.Z
open Go.VM
set_option maxRecDepth 100000
abbrev t0:Ty:=.pair (.int .i64) (.int .i64)
abbrev t1:Ty:=.pair (.int .i64) t0
def q:Nat→List SY→List (Nat×SY)
 | _,[]=>[]
 | n,s::r=>(n,s)::q (n+1) r
abbrev y0:SY:=.d (.int .i64)
abbrev y1:SY:=.d .bool
abbrev y2:SY:=.d (.st t0)
abbrev y3:SY:=.d (.st t1)
abbrev y4:SY:=.d (.sl (.int .i64))
abbrev y5:SY:=.d (.sl (.st t0))
abbrev y6:SY:=.d (.int .u64)
abbrev y7:SY:=.d (.sl (.st t1))
abbrev y8:SY:=.ep (.st t0) 0 (some (0,none))
abbrev y9:SY:=.ep (.st t1) 0 (some (0,none))
noncomputable def hh44:Hints:=⟨[],[(5,.r 2),(7,.r 3),(10,.r 2),(12,.r 3)],[],[9,14,16],[],[]⟩
noncomputable def vf44:VF:=aKN Tryz.prog hh44 [0,1,2,3,4] [] Tryz.f44
noncomputable def fi44:FI:=⟨q 0 [y2,y2,.reg (.st t0),.reg (.st t0),y0,.rp 2 0,y0,.rp 3 0,y0,y0,.rp 2 1,y0,.rp 3 1,y0,y0,y4,y0],[]⟩
noncomputable def hh52:Hints:=⟨[],[(5,.r 2),(7,.r 3),(10,.r 2),(12,.r 3),(15,.r 2),(17,.r 3)],[],[9,14,19,21],[],[]⟩
noncomputable def vf52:VF:=aKN Tryz.prog hh52 [0,1,2,3,4] [] Tryz.f52
noncomputable def fi52:FI:=⟨q 0 [y3,y3,.reg (.st t1),.reg (.st t1),y0,.rp 2 0,y0,.rp 3 0,y0,y0,.rp 2 1,y0,.rp 3 1,y0,y0,.rp 2 2,y0,.rp 3 2,y0,y0,y4,y0],[]⟩
noncomputable def hh68:Hints:=⟨[],[(10,.e [])],[],[],[],[]⟩
noncomputable def vf68:VF:=aKN Tryz.prog hh68 [0,2,3,5,6,7,8,9,14] [] Tryz.f68
noncomputable def fi68:FI:=⟨q 0 [y4]++q 2 [y0,y0]++q 6 [y4,y0,y0,y1,.ep (.int .i64) 0 (some (0,none)),y0]++q 5 [y0]++q 12 [y0,y0,y1,y0,y0,y0],[.j [3],.l [3,6,7,8] none,.n,.n,.n]⟩
noncomputable def hh69:Hints:=⟨[],[],[],[8,10],[],[]⟩
noncomputable def vf69:VF:=aKN Tryz.prog hh69 [0,1,4,5,6,11,12,13,16,19] [] Tryz.f69
noncomputable def fi69:FI:=⟨q 0 [y0,y0]++q 4 [y0]++q 7 [y0,y1]++q 5 [y1]++q 9 [y0,y1]++q 6 [y1]++q 11 [y1,y1,y1,y0,y0,y1,y0,y0,y1],[.n,.n,.n,.n,.n]⟩
noncomputable def hh70:Hints:=⟨[],[(4,.r 4),(27,.e []),(43,.e [])],[],[30,46],[],[]⟩
noncomputable def vf70:VF:=aKN Tryz.prog hh70 [0,1,2,4,6,7,8,9,10,11,17,31] [] Tryz.f70
noncomputable def fi70:FI:=⟨q 0 [y5,y2,.d (.fn 44)]++q 4 [.reg (.st t0)]++q 6 [y0,y1]++q 12 [y5,y0]++q 8 [y0]++q 14 [y0]++q 9 [y0,y0]++q 15 [y0,y0,y1,y0,y0,y0,y6,y6,y0]++q 11 [y0]++q 24 [.d (.fn 44),y5,y0,y8,y2,y2,y0,y1,y0,y0,y0,y0,y0,y0,y1,y1,.d (.fn 44),y5,y0,y8,y2,y2,y0,y1,y1],[.j [0,4,8,9],.l [0,4,8,9,10] (some [(10,⟨[],none⟩),(9,⟨[],none⟩),(8,⟨[],none⟩),(4,⟨[],none⟩),(0,⟨[],none⟩),(2,⟨[],none⟩)]),.n,.j [0,4,8,9,10],.j [0,4,8,9,10]]⟩
noncomputable def hh76:Hints:=⟨[],[(4,.r 4),(27,.e []),(43,.e [])],[],[30,46],[],[]⟩
noncomputable def vf76:VF:=aKN Tryz.prog hh76 [0,1,2,4,6,7,8,9,10,11,17,31] [] Tryz.f76
noncomputable def fi76:FI:=⟨q 0 [y7,y3,.d (.fn 52)]++q 4 [.reg (.st t1)]++q 6 [y0,y1]++q 12 [y7,y0]++q 8 [y0]++q 14 [y0]++q 9 [y0,y0]++q 15 [y0,y0,y1,y0,y0,y0,y6,y6,y0]++q 11 [y0]++q 24 [.d (.fn 52),y7,y0,y9,y3,y3,y0,y1,y0,y0,y0,y0,y0,y0,y1,y1,.d (.fn 52),y7,y0,y9,y3,y3,y0,y1,y1],[.j [0,4,8,9],.l [0,4,8,9,10] (some [(10,⟨[],none⟩),(9,⟨[],none⟩),(8,⟨[],none⟩),(4,⟨[],none⟩),(0,⟨[],none⟩),(2,⟨[],none⟩)]),.n,.j [0,4,8,9,10],.j [0,4,8,9,10]]⟩
noncomputable def hh96:Hints:=⟨[],[],[],[],[],[]⟩
noncomputable def vf96:VF:=aKN Tryz.prog hh96 [0,2] [] Tryz.f96
noncomputable def fi96:FI:=⟨q 0 [y0]++q 2 [y1,y0,y0,y1],[]⟩
noncomputable def FT:Nat→Option Entry
 | 44=>some (.code vf44)
 | 52=>some (.code vf52)
 | 68=>some (.code vf68)
 | 69=>some (.code vf69)
 | 70=>some (.code vf70)
 | 76=>some (.code vf76)
 | 96=>some (.code vf96)
 | _=>none
noncomputable def sgN:Nat→Sg
 | 44=>⟨[.d (.st t0),.d (.st t0)],[(.int .i64,[])],none⟩
 | 52=>⟨[.d (.st t1),.d (.st t1)],[(.int .i64,[])],none⟩
 | 68=>⟨[.d (.sl (.int .i64))],[(.int .i64,[])],none⟩
 | 69=>⟨[.d (.int .i64),.d (.int .i64)],[(.int .i64,[])],none⟩
 | 70=>⟨[.d (.sl (.st t0)),.d (.st t0),.d (.fn 44)],[(.int .i64,[]),(.bool,[])],none⟩
 | 76=>⟨[.d (.sl (.st t1)),.d (.st t1),.d (.fn 52)],[(.int .i64,[]),(.bool,[])],none⟩
 | 96=>⟨[.d (.int .i64)],[(.bool,[])],none⟩
 | _=>⟨[],[],none⟩
noncomputable def vsN:Nat→Sig
 | 44=>⟨[],true⟩
 | 52=>⟨[],true⟩
 | 68=>⟨[],true⟩
 | 69=>⟨[],true⟩
 | 70=>⟨[],true⟩
 | 76=>⟨[],true⟩
 | 96=>⟨[],true⟩
 | _=>⟨[],false⟩
noncomputable def TN:(f:Nat)→NE (sgN f)
 | 44=>.code fi44 vf44
 | 52=>.code fi52 vf52
 | 68=>.code fi68 vf68
 | 69=>.code fi69 vf69
 | 70=>.code fi70 vf70
 | 76=>.code fi76 vf76
 | 96=>.code fi96 vf96
 | _=>.no
end Go.Proofs.YtghpknbkecolnaaGreatDoor.Z
