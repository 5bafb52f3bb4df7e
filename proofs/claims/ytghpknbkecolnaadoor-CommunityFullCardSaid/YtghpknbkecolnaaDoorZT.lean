/- The functions that the laws reach: how they are compiled and read. Definitions alone. -/
import Derived.Test.YtghpknbkecolnaaDoorTC
import Derived.Test.YtghpknbkecolnaaDoorProg
import Derived.KernelRfl
namespace Go.Proofs.YtghpknbkecolnaaDoor.Z
open Go.VM
set_option maxRecDepth 100000
abbrev t0:Ty:=.pair (.int .i64) (.int .i64)
def q:Nat→List SY→List (Nat×SY)
 | _,[]=>[]
 | n,s::r=>(n,s)::q (n+1) r
abbrev y0:SY:=.d (.int .i64)
abbrev y1:SY:=.d .bool
abbrev y2:SY:=.d (.st t0)
abbrev y3:SY:=.d (.sl (.st t0))
abbrev y4:SY:=.d (.sl (.int .i64))
abbrev y5:SY:=.ep (.st t0) 0 (some (0,none))
noncomputable def hh13:Hints:=⟨[],[(5,.r 2),(7,.r 3),(10,.r 2),(12,.r 3)],[],[9,14,16],[],[]⟩
noncomputable def vf13:VF:=aKN Tryd.prog hh13 [0,1,2,3,4] [] Tryd.f13
noncomputable def fi13:FI:=⟨q 0 [y2,y2,.reg (.st t0),.reg (.st t0),y0,.rp 2 0,y0,.rp 3 0,y0,y0,.rp 2 1,y0,.rp 3 1,y0,y0,y4,y0],[]⟩
noncomputable def hh22:Hints:=⟨[],[(4,.r 4),(27,.e []),(43,.e [])],[],[30,46],[],[]⟩
noncomputable def vf22:VF:=aKN Tryd.prog hh22 [0,1,2,4,6,7,8,9,10,11,17,31] [] Tryd.f22
noncomputable def fi22:FI:=⟨q 0 [y3,y2,.d (.fn 13)]++q 4 [.reg (.st t0)]++q 6 [y0,y1]++q 12 [y3,y0]++q 8 [y0]++q 14 [y0]++q 9 [y0,y0]++q 15 [y0,y0,y1,y0,y0,y0,.d (.int .u64),.d (.int .u64),y0]++q 11 [y0]++q 24 [.d (.fn 13),y3,y0,y5,y2,y2,y0,y1,y0,y0,y0,y0,y0,y0,y1,y1,.d (.fn 13),y3,y0,y5,y2,y2,y0,y1,y1],[.j [0,4,8,9],.l [0,4,8,9,10] (some [(10,⟨[],none⟩),(9,⟨[],none⟩),(8,⟨[],none⟩),(4,⟨[],none⟩),(0,⟨[],none⟩),(2,⟨[],none⟩)]),.n,.j [0,4,8,9,10],.j [0,4,8,9,10]]⟩
noncomputable def hh25:Hints:=⟨[],[(10,.e [])],[],[],[],[]⟩
noncomputable def vf25:VF:=aKN Tryd.prog hh25 [0,2,3,5,6,7,8,9,14] [] Tryd.f25
noncomputable def fi25:FI:=⟨q 0 [y4]++q 2 [y0,y0]++q 6 [y4,y0,y0,y1,.ep (.int .i64) 0 (some (0,none)),y0]++q 5 [y0]++q 12 [y0,y0,y1,y0,y0,y0],[.j [3],.l [3,6,7,8] none,.n,.n,.n]⟩
noncomputable def hh26:Hints:=⟨[],[],[],[8,10],[],[]⟩
noncomputable def vf26:VF:=aKN Tryd.prog hh26 [0,1,4,5,6,11,12,13,16,19] [] Tryd.f26
noncomputable def fi26:FI:=⟨q 0 [y0,y0]++q 4 [y0]++q 7 [y0,y1]++q 5 [y1]++q 9 [y0,y1]++q 6 [y1]++q 11 [y1,y1,y1,y0,y0,y1,y0,y0,y1],[.n,.n,.n,.n,.n]⟩
noncomputable def hh42:Hints:=⟨[],[],[],[],[],[]⟩
noncomputable def vf42:VF:=aKN Tryd.prog hh42 [0,2] [] Tryd.f42
noncomputable def fi42:FI:=⟨q 0 [y0]++q 2 [y1,y0,y0,y1],[]⟩
noncomputable def FT:Nat→Option Entry
 | 13=>some (.code vf13)
 | 22=>some (.code vf22)
 | 25=>some (.code vf25)
 | 26=>some (.code vf26)
 | 42=>some (.code vf42)
 | _=>none
noncomputable def sgN:Nat→Sg
 | 13=>⟨[.d (.st t0),.d (.st t0)],[(.int .i64,[])],none⟩
 | 22=>⟨[.d (.sl (.st t0)),.d (.st t0),.d (.fn 13)],[(.int .i64,[]),(.bool,[])],none⟩
 | 25=>⟨[.d (.sl (.int .i64))],[(.int .i64,[])],none⟩
 | 26=>⟨[.d (.int .i64),.d (.int .i64)],[(.int .i64,[])],none⟩
 | 42=>⟨[.d (.int .i64)],[(.bool,[])],none⟩
 | _=>⟨[],[],none⟩
noncomputable def vsN:Nat→Sig
 | 13=>⟨[],true⟩
 | 22=>⟨[],true⟩
 | 25=>⟨[],true⟩
 | 26=>⟨[],true⟩
 | 42=>⟨[],true⟩
 | _=>⟨[],false⟩
noncomputable def TN:(f:Nat)→NE (sgN f)
 | 13=>.code fi13 vf13
 | 22=>.code fi22 vf22
 | 25=>.code fi25 vf25
 | 26=>.code fi26 vf26
 | 42=>.code fi42 vf42
 | _=>.no
end Go.Proofs.YtghpknbkecolnaaDoor.Z
