/- The functions that the laws reach: how they are compiled and read. Definitions alone. -/
import Derived.Test.YtgfmodmeimhhpaaDoorTC
import Derived.Test.YtgfmodmeimhhpaaDoorProg
import Derived.KernelRfl
noncomputable section
namespace Go.Proofs.YtgfmodmeimhhpaaDoor.Z
open Go.VM
set_option maxRecDepth 100000
abbrev t0:Ty:=.pair (.sl (.int .i64)) (.int .i64)
abbrev t1:Ty:=.pair .bool (.sl (.int .i64))
abbrev t2:Ty:=.pair (.int .u64) (.int .u64)
abbrev t3:Ty:=.st (.pair .bool t2)
abbrev t4:Ty:=.pair (.int .i64) (.int .i64)
abbrev t5:Ty:=.pair (.int .i64) t4
abbrev t6:Ty:=.pair (.int .i64) (.sl (.int .u8))
abbrev t7:Ty:=.pair (.int .i64) t6
abbrev t8:Ty:=.pair (.sl (.st t5)) (.sl (.st t7))
abbrev t9:Ty:=.pair (.sl (.st t4)) t8
abbrev t10:Ty:=.pair (.int .i64) t9
abbrev t11:Ty:=.pair (.int .i64) t10
abbrev t12:Ty:=.pair (.int .i64) t11
abbrev t13:Ty:=.pair (.sl (.st t1)) (.pair t3 t12)
abbrev t14:Ty:=.pair (.int .i64) t13
def q:Nat->List SY->List (Nat×SY)
 |_,[]=>[]|n,s::r=>(n,s)::q (n+1) r
abbrev y0:SY:=.d (.int .i64)
abbrev y1:SY:=.d .bool
abbrev y2:SY:=.ptr 200000 0
abbrev y3:SY:=.d (.sl (.int .i64))
abbrev y4:SY:=.d (.sl (.st t4))
abbrev y5:SY:=.d (.sl (.st t5))
abbrev y6:SY:=.d (.sl (.st t1))
abbrev y7:SY:=.d (.st t4)
abbrev y8:SY:=.d (.st t5)
abbrev y9:SY:=.d (.sl (.st t7))
abbrev y10:SY:=.d (.sl (.int .u8))
abbrev y11:SY:=.d (.int .u64)
abbrev y12:SY:=.ptr 200000 1
abbrev y13:SY:=.ep (.st t1) 0 (some (0,none))
abbrev y14:SY:=.d (.st t1)
abbrev y15:SY:=.reg (.st t14)
abbrev y16:SY:=.ep (.int .i64) 0 (some (5,some 1))
def hh9:Hints:=⟨[],[],[],[],[],[]⟩
def vf9:VF:=aKN Tryd.prog hh9 [0,1,4,5,10] [] Tryd.f9
def fi9:FI:=⟨q 0 [y0,y0]++q 4 [y0]++q 6 [y0,y0,y0]++q 5 [y0]++q 9 [y0,y1,y0,y0,y0,y0],[.j [5]]⟩
def hh13:Hints:=⟨[],[(31,.e [])],[],[34],[],[]⟩
def vf13:VF:=aKN Tryd.prog hh13 [0,1,4,14] [] Tryd.f13
def fi13:FI:=⟨q 0 [y2]++q 200000 [.box (.st t0)]++q 1 [y0]++q 4 [y0,y2,y2,y12,y0,y2,y2,y2,y3,y0,y1,y2,y2,y12,y0,y0,y2,y12,y2,y2,y2,y3,y2,y2,y12,y0,y0,.ep (.int .i64) 0 (some (25,none)),y0,y0,y0],[.n]⟩
def hh30:Hints:=⟨[],[(0,.r 0)],[],[],[],[]⟩
def vf30:VF:=aKN Tryd.prog hh30 [0] [] Tryd.f30
def fi30:FI:=⟨q 0 [y15,.d (.st t14)],[]⟩
def hh31:Hints:=⟨[],[(4,.r 4)],[],[],[],[]⟩
def vf31:VF:=aKN Tryd.prog hh31 [0,1,4,5] [] Tryd.f31
def fi31:FI:=⟨q 0 [y0,y1]++q 4 [.reg t3,y1,y0,y11,.d t3,y0,y0,y0,y11,y11,.d t3],[.n]⟩
def hh32:Hints:=⟨[],[(24,.e []),(7,.r 7)],[],[],[],[]⟩
def vf32:VF:=aKN Tryd.prog hh32 [0,2,3,4,5,6,7,19,20,21,22,41] [] Tryd.f32
def fi32:FI:=⟨q 0 [y2]++q 200000 [.box (.st t0)]++q 2 [y4]++q 8 [y7,y7,y7,y7,y7,y7,y7,y7,y4]++q 3 [y4,y4]++q 17 [y2,y0]++q 5 [y0]++q 19 [y4,y0,y0,y1,y0,.ep (.st t4) 0 (some (3,none)),y7]++q 7 [.reg (.st t4)]++q 6 [y0]++q 26 [y0,y0,y0,y11,y0,y0,y1,y1,y0,y1,y1,y2,y0,y1,y1,y1,y4,y7,y4,y4,y0,y4],[.j [4,200000],.l [4,5,19,20,21,200000] (some [(21,⟨[],none⟩),(20,⟨[],none⟩),(19,⟨[(0,⟨[1088],true,true,true,true,none⟩)],some (3,none)⟩),(5,⟨[],none⟩),(4,⟨[(0,⟨[2944],true,true,true,true,none⟩)],none⟩),(0,⟨[],none⟩),(200000,⟨[],none⟩)]),.n,.j [4,5,19,20,21,200000],.j [4,5,19,20,21,200000]]⟩
def hh33:Hints:=⟨[],[(23,.e []),(7,.r 7)],[],[],[],[]⟩
def vf33:VF:=aKN Tryd.prog hh33 [0,2,3,4,5,6,7,18,19,20,21,31] [] Tryd.f33
def fi33:FI:=⟨q 0 [y2]++q 200000 [.box (.st t0)]++q 2 [y5]++q 8 [y8,y8,y8,y8,y8,y8,y8,y5]++q 3 [y5,y5]++q 16 [y2,y0]++q 5 [y0]++q 18 [y5,y0,y0,y1,y0,.ep (.st t5) 0 (some (3,none)),y8]++q 7 [.reg (.st t5)]++q 6 [y0]++q 25 [y0,y0,y0,y11,y0,y0,y1,y5,y8,y5,y5,y0,y5],[.j [4,200000],.l [4,5,18,19,20,200000] (some [(20,⟨[],none⟩),(19,⟨[],none⟩),(18,⟨[(0,⟨[1024],true,true,true,true,none⟩)],some (3,none)⟩),(5,⟨[],none⟩),(4,⟨[(0,⟨[2304],true,true,true,true,none⟩)],none⟩),(0,⟨[],none⟩),(200000,⟨[],none⟩)]),.n,.j [4,5,18,19,20,200000],.j [4,5,18,19,20,200000]]⟩
def hh38:Hints:=⟨[],[(13,.e []),(5,.r 5),(15,.r 5),(23,.r 5),(32,.e []),(37,.r 5),(43,.e []),(49,.r 5),(56,.r 5),(60,.e []),(68,.r 5)],[],[46],[],[]⟩
def vf38:VF:=aKN Tryd.prog hh38 [0,2,3,4,5,6,7,8,9,10,11,36,38,39,40,41,65] [] Tryd.f38
def fi38:FI:=⟨q 0 [y6]++q 2 [y1,y0]++q 8 [y6,y0,y0,y1,y0,y13,y14]++q 5 [.reg (.st t1)]++q 4 [y0]++q 15 [.rp 5 1,y3,y0,y1,y1,y0,y1,y1,.rp 5 0,y1,y1,y1,y1,y6,y0,y0,y13,y13,y1,y1,y1,y1,.rp 5 1,y3,y0,y0,y1,y0,y16,y0]++q 6 [y0,y0]++q 45 [y0,y1,y1,y1,.rp 5 0,y1,y1,y0,y1,y1,y1,.rp 5 1,y3,y0,y0,y16,y0,y0,y1,y1,y1,y0,y0,.rp 5 1,y3,y0,y0,y0,y0,y1],[.j [3],.l [0,3,8,9,10] none,.n,.j [0,3,8,9,10],.n,.j [0,3,5,8,9,10],.l [0,3,5,8,9,10,38,39,40] none,.n,.n,.n]⟩
def hh39:Hints:=⟨[],[],[],[],[],[]⟩
def vf39:VF:=aKN Tryd.prog hh39 [0,2] [] Tryd.f39
def fi39:FI:=⟨q 0 [y0]++q 2 [y1,y0,y1,y1,y0,y1,y1],[]⟩
def hh48:Hints:=⟨[],[(10,.e []),(5,.r 5),(13,.r 5)],[],[],[],[]⟩
def vf48:VF:=aKN Tryd.prog hh48 [0,2,3,5,6,7,8,9] [] Tryd.f48
def fi48:FI:=⟨q 0 [y6]++q 2 [y3,y3]++q 6 [y6,y0,y0,y1,y13,y14]++q 5 [.reg (.st t1)]++q 12 [y3,.rp 5 1,y3,y3,y0,y3],[.j [3],.l [3,6,7,8] (some [(8,⟨[],none⟩),(7,⟨[],none⟩),(6,⟨[],some (0,none)⟩),(3,⟨[(0,⟨[1024],true,true,true,true,none⟩)],none⟩)]),.n,.n]⟩
def hh52:Hints:=⟨[],[(1,.r 1),(2,.r 2),(9,.r 1),(11,.r 1),(13,.r 1),(14,.r 1),(19,.e []),(6,.r 6),(21,.r 1),(23,.r 6),(25,.r 6),(31,.r 1),(37,.e []),(8,.r 8),(39,.r 1),(41,.r 8),(43,.r 8),(45,.r 8),(51,.r 1),(53,.r 1),(56,.r 1),(59,.r 1),(60,.r 1)],[],[27,47,55,58],[],[]⟩
def vf52:VF:=aKN Tryd.prog hh52 [0,1,2,3,4,6,8,15,16,17,18,33,34,35,36] [] Tryd.f52
def fi52:FI:=⟨q 0 [.d (.st t14),y15,y15]++q 9 [.rp 1 1,y6,.rp 1 10,y9]++q 3 [y6,y9]++q 13 [.rp 1 1,.rp 1 10,y6,y0,y0,y1,.ep (.st t1) 0 (some (3,none)),y14]++q 6 [.reg (.st t1)]++q 21 [.rp 1 1,y6,.rp 6 0,y1,.rp 6 1,y3,y3,y14,y6,y6,.rp 1 1,y0,y9,y0,y0,y1,.ep (.st t7) 0 (some (4,none)),.d (.st t7)]++q 8 [.reg (.st t7)]++q 39 [.rp 1 10,y9,.rp 8 0,y0,.rp 8 1,y0,.rp 8 2,y10,y10,.d (.st t7),y9,y9,.rp 1 10,y0,.rp 1 8,y4,y4,.rp 1 9,y5,y5,.rp 1 8,.rp 1 9,.d (.st t14)],[.j [1,2,4],.l [1,2,4,15,16,17] (some [(17,⟨[],none⟩),(16,⟨[],none⟩),(15,⟨[],some (3,none)⟩),(1,⟨[(10,⟨[],true,true,true,true,none⟩),(1,⟨[1984],true,true,true,true,none⟩)],none⟩),(4,⟨[],none⟩),(2,⟨[(1,⟨[],true,true,true,true,none⟩),(8,⟨[],true,true,true,true,none⟩),(9,⟨[],true,true,true,true,none⟩),(10,⟨[],true,true,true,true,none⟩)],none⟩)]),.n,.n,.j [1,2],.l [1,2,33,34,35] (some [(35,⟨[],none⟩),(34,⟨[],none⟩),(33,⟨[],some (4,none)⟩),(1,⟨[(10,⟨[3264],true,true,true,true,none⟩),(1,⟨[1984],true,true,true,true,none⟩)],none⟩),(2,⟨[(1,⟨[],true,true,true,true,none⟩),(8,⟨[],true,true,true,true,none⟩),(9,⟨[],true,true,true,true,none⟩),(10,⟨[],true,true,true,true,none⟩)],none⟩)]),.n,.n]⟩
def hh78:Hints:=⟨[],[],[],[],[],[]⟩
def vf78:VF:=aKN Tryd.prog hh78 [0,2] [] Tryd.f78
def fi78:FI:=⟨q 0 [y3]++q 2 [y3,y3,y3],[]⟩
def hh79:Hints:=⟨[],[],[],[],[],[]⟩
def vf79:VF:=aKN Tryd.prog hh79 [0,2] [] Tryd.f79
def fi79:FI:=⟨q 0 [y10]++q 2 [y10,y10,y10],[]⟩
def hh80:Hints:=⟨[],[],[],[],[],[]⟩
def vf80:VF:=aKN Tryd.prog hh80 [0,2] [] Tryd.f80
def fi80:FI:=⟨q 0 [y4]++q 2 [y4,y4,y4],[]⟩
def hh81:Hints:=⟨[],[],[],[],[],[]⟩
def vf81:VF:=aKN Tryd.prog hh81 [0,2] [] Tryd.f81
def fi81:FI:=⟨q 0 [y5]++q 2 [y5,y5,y5],[]⟩
def FT:Nat->Option Entry
 |9=>some (.code vf9)|13=>some (.code vf13)|30=>some (.code vf30)|31=>some (.code vf31)|32=>some (.code vf32)|33=>some (.code vf33)|38=>some (.code vf38)|39=>some (.code vf39)|48=>some (.code vf48)|52=>some (.code vf52)|78=>some (.code vf78)|79=>some (.code vf79)|80=>some (.code vf80)|81=>some (.code vf81)|_=>none
def sgN:Nat->Sg
 |9=>⟨[.d (.int .i64),.d (.int .i64)],[(.int .i64,[])],none⟩|13=>⟨[.p (.st t0),.d (.int .i64)],[(.int .i64,[])],none⟩|30=>⟨[],[(.st t14,[(1,true),(8,true),(9,true),(10,true)])],none⟩|31=>⟨[.d (.int .i64),.d .bool],[(t3,[])],none⟩|32=>⟨[.p (.st t0)],[(.sl (.st t4),[(0,true)])],none⟩|33=>⟨[.p (.st t0)],[(.sl (.st t5),[(0,true)])],none⟩|38=>⟨[.d (.sl (.st t1))],[(.bool,[])],none⟩|39=>⟨[.d (.int .i64)],[(.bool,[])],none⟩|48=>⟨[.d (.sl (.st t1))],[(.sl (.int .i64),[(0,true)])],none⟩|52=>⟨[.d (.st t14)],[(.st t14,[(1,true),(8,true),(9,true),(10,true)])],none⟩|78=>⟨[.d (.sl (.int .i64))],[(.sl (.int .i64),[(0,true)])],none⟩|79=>⟨[.d (.sl (.int .u8))],[(.sl (.int .u8),[(0,true)])],none⟩|80=>⟨[.d (.sl (.st t4))],[(.sl (.st t4),[(0,true)])],none⟩|81=>⟨[.d (.sl (.st t5))],[(.sl (.st t5),[(0,true)])],none⟩|_=>⟨[],[],none⟩
def vsN:Nat->Sig
 |9=>⟨[],true⟩|13=>⟨[],false⟩|30=>⟨[],true⟩|31=>⟨[],true⟩|32=>⟨[],false⟩|33=>⟨[],false⟩|38=>⟨[],true⟩|39=>⟨[],true⟩|48=>⟨[],true⟩|52=>⟨[],true⟩|78=>⟨[],true⟩|79=>⟨[],true⟩|80=>⟨[],true⟩|81=>⟨[],true⟩|_=>⟨[],false⟩
def TN:(f:Nat)->NE (sgN f)
 |9=>.code fi9 vf9|13=>.code fi13 vf13|30=>.code fi30 vf30|31=>.code fi31 vf31|32=>.code fi32 vf32|33=>.code fi33 vf33|38=>.code fi38 vf38|39=>.code fi39 vf39|48=>.code fi48 vf48|52=>.code fi52 vf52|78=>.code fi78 vf78|79=>.code fi79 vf79|80=>.code fi80 vf80|81=>.code fi81 vf81|_=>.no
end Go.Proofs.YtgfmodmeimhhpaaDoor.Z
end
