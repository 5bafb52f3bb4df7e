/- The functions that the laws reach: how they are compiled and read. Definitions alone. -/
import Derived.Test.YtajoneenakjifaaGreatDoorTC
import Derived.Test.YtajoneenakjifaaGreatDoorProg
import Derived.KernelRfl
namespace Go.Proofs.YtajoneenakjifaaGreatDoor.Z
open Go.VM
set_option maxRecDepth 100000
abbrev t0:Ty:=.pair .bool (.sl (.int .i64))
def q:Nat→List SY→List (Nat×SY)
 | _,[]=>[]
 | n,s::r=>(n,s)::q (n+1) r
abbrev y0:SY:=.d (.int .i64)
abbrev y1:SY:=.d .bool
abbrev y2:SY:=.d .str
abbrev y3:SY:=.d (.sl .str)
abbrev y4:SY:=.d (.sl (.int .i64))
abbrev y5:SY:=.d (.sl (.st t0))
abbrev y6:SY:=.rp 5 1
abbrev y7:SY:=.ep (.st t0) 0 (some (0,none))
abbrev y8:SY:=.d (.st t0)
abbrev y9:SY:=.reg (.st t0)
abbrev y10:SY:=.d (.int .u8)
abbrev y11:SY:=.ep (.int .i64) 0 (some (5,some 1))
abbrev y12:SY:=.ep (.int .i64) 0 (some (0,none))
noncomputable def hh8:Hints:=⟨[],[(13,.e []),(5,.r 5),(15,.r 5),(18,.r 5),(26,.r 5)],[],[7,20,28,33],[],[]⟩
noncomputable def vf8:VF:=aKN Tryz.prog hh8 [0,2,3,5,8,9,10,11,12,16] [] Tryz.f8
noncomputable def fi8:FI:=⟨q 0 [y5]++q 2 [y2]++q 6 [y5,y1,y1]++q 3 [y3]++q 9 [y5,y0,y0,y1,y7,y8]++q 5 [y9]++q 15 [.rp 5 0,y1,y3,y6,y4,y2,y2,y2,y3,y3,y3,y6,y4,y2,y3,y3,y0,y3,y2],[.n,.j [3],.l [3,9,10,11] (some [(11,⟨[],none⟩),(10,⟨[],none⟩),(9,⟨[],some (0,none)⟩),(3,⟨[(0,⟨[1600,1984],true,true,true,true,none⟩)],none⟩)]),.n,.j [3,9,10,11],.j [3,9,10,11]]⟩
noncomputable def hh9:Hints:=⟨[],[(13,.e []),(5,.r 5),(15,.r 5),(18,.r 5),(26,.r 5)],[],[7,20,28,33],[],[]⟩
noncomputable def vf9:VF:=aKN Tryz.prog hh9 [0,2,3,5,8,9,10,11,12,16] [] Tryz.f9
noncomputable def fi9:FI:=⟨q 0 [y5]++q 2 [y2]++q 6 [y5,y1,y1]++q 3 [y3]++q 9 [y5,y0,y0,y1,y7,y8]++q 5 [y9]++q 15 [.rp 5 0,y1,y3,y6,y4,y2,y2,y2,y3,y3,y3,y6,y4,y2,y3,y3,y0,y3,y2],[.n,.j [3],.l [3,9,10,11] (some [(11,⟨[],none⟩),(10,⟨[],none⟩),(9,⟨[],some (0,none)⟩),(3,⟨[(0,⟨[1600,1984],true,true,true,true,none⟩)],none⟩)]),.n,.j [3,9,10,11],.j [3,9,10,11]]⟩
noncomputable def hh19:Hints:=⟨[],[(13,.e []),(5,.r 5),(15,.r 5),(23,.r 5),(32,.e []),(37,.r 5),(43,.e []),(52,.r 5),(59,.r 5),(63,.e []),(71,.r 5)],[],[],[],[]⟩
noncomputable def vf19:VF:=aKN Tryz.prog hh19 [0,2,3,4,5,6,7,8,9,10,11,36,38,39,40,41,68] [] Tryz.f19
noncomputable def fi19:FI:=⟨q 0 [y5]++q 2 [y1,y0]++q 8 [y5,y0,y0,y1,y0,y7,y8]++q 5 [y9]++q 4 [y0]++q 15 [y6,y4,y0,y1,y1,y0,y1,y1,.rp 5 0,y1,y1,y1,y1,y5,y0,y0,y7,y7,y1,y1,y1,y1,y6,y4,y0,y0,y1,y0,y11,y0]++q 6 [y0,y0]++q 45 [y0,y1,y1,y0,y1,y1,y1,.rp 5 0,y1,y1,y0,y1,y1,y1,y6,y4,y0,y0,y11,y0,y0,y1,y1,y1,y0,y0,y6,y4,y0,y0,y0,y0,y1],[.j [3],.l [0,3,8,9,10] none,.n,.j [0,3,8,9,10],.n,.j [0,3,5,8,9,10],.l [0,3,5,8,9,10,38,39,40] none,.n,.n,.n]⟩
noncomputable def hh20:Hints:=⟨[],[(12,.e [])],[],[16,22],[],[]⟩
noncomputable def vf20:VF:=aKN Tryz.prog hh20 [0,1,4,5,7,8,9,10,11] [] Tryz.f20
noncomputable def fi20:FI:=⟨q 0 [y4,y2]++q 4 [y2,y3]++q 8 [y4,y0,y0,y1,y12,y0]++q 7 [y0]++q 14 [y3,y0,y2,y3,y3,y0,y3,y2,y2],[.j [1,5],.l [1,5,8,9,10] (some [(10,⟨[],none⟩),(9,⟨[],none⟩),(8,⟨[],some (0,none)⟩),(5,⟨[(0,⟨[1216],true,true,true,true,none⟩)],none⟩),(1,⟨[],none⟩)]),.n,.n]⟩
noncomputable def hh22:Hints:=⟨[],[(13,.e []),(5,.r 5),(15,.r 5),(23,.r 5),(32,.e []),(37,.r 5),(43,.e []),(49,.r 5),(56,.r 5),(60,.e []),(68,.r 5)],[],[46],[],[]⟩
noncomputable def vf22:VF:=aKN Tryz.prog hh22 [0,2,3,4,5,6,7,8,9,10,11,36,38,39,40,41,65] [] Tryz.f22
noncomputable def fi22:FI:=⟨q 0 [y5]++q 2 [y1,y0]++q 8 [y5,y0,y0,y1,y0,y7,y8]++q 5 [y9]++q 4 [y0]++q 15 [y6,y4,y0,y1,y1,y0,y1,y1,.rp 5 0,y1,y1,y1,y1,y5,y0,y0,y7,y7,y1,y1,y1,y1,y6,y4,y0,y0,y1,y0,y11,y0]++q 6 [y0,y0]++q 45 [y0,y1,y1,y1,.rp 5 0,y1,y1,y0,y1,y1,y1,y6,y4,y0,y0,y11,y0,y0,y1,y1,y1,y0,y0,y6,y4,y0,y0,y0,y0,y1],[.j [3],.l [0,3,8,9,10] none,.n,.j [0,3,8,9,10],.n,.j [0,3,5,8,9,10],.l [0,3,5,8,9,10,38,39,40] none,.n,.n,.n]⟩
noncomputable def hh23:Hints:=⟨[],[(12,.e [])],[],[16,22],[],[]⟩
noncomputable def vf23:VF:=aKN Tryz.prog hh23 [0,1,4,5,7,8,9,10,11] [] Tryz.f23
noncomputable def fi23:FI:=⟨q 0 [y4,y2]++q 4 [y2,y3]++q 8 [y4,y0,y0,y1,y12,y0]++q 7 [y0]++q 14 [y3,y0,y2,y3,y3,y0,y3,y2,y2],[.j [1,5],.l [1,5,8,9,10] (some [(10,⟨[],none⟩),(9,⟨[],none⟩),(8,⟨[],some (0,none)⟩),(5,⟨[(0,⟨[1216],true,true,true,true,none⟩)],none⟩),(1,⟨[],none⟩)]),.n,.n]⟩
noncomputable def hh26:Hints:=⟨[],[(2,.r 2),(4,.r 4),(25,.r 4),(36,.e []),(46,.r 4),(51,.r 4),(54,.r 4),(57,.r 4)],[],[32,40],[],[]⟩
noncomputable def vf26:VF:=aKN Tryz.prog hh26 [0,2,3,4,6,7,8,24,32,33,34,35,44] [] Tryz.f26
noncomputable def fi26:FI:=⟨q 0 [y2]++q 2 [y9,y1,y9]++q 9 [y2,y0,y1,y1,y2,y10,y1,y1,y1,y2,y2,y0,y0,y10,y1,y1,.rp 4 0,y2,y2,y0,y0,y2,y2,y3,y0,y0,y1,.ep .str 0 (some (32,none)),y2]++q 6 [y2]++q 39 [y2,.tup [.int .i64,.err]]++q 38 [.tup [.int .i64,.err]]++q 41 [y0,.d .err]++q 7 [y0,.d .err]++q 43 [.d .err,y1,y8,.rp 4 1,y4,y0,y4,y4,.rp 4 1,y0,y8,.rp 4 0,y1,y1,.rp 4 1,y4,y0,y1,y1],[.j [0,2,4],.j [2,4],.l [2,4,32,33,34] (some [(34,⟨[],none⟩),(33,⟨[],none⟩),(32,⟨[(0,⟨[2112],true,false,false,false,none⟩)],none⟩),(4,⟨[(1,⟨[3264],true,true,true,true,none⟩)],none⟩),(2,⟨[(1,⟨[],true,true,true,true,none⟩)],none⟩)]),.n,.n,.n]⟩
noncomputable def hh30:Hints:=⟨[],[],[],[],[],[]⟩
noncomputable def vf30:VF:=aKN Tryz.prog hh30 [0,2,3,4,5,7,8,9,24] [] Tryz.f30
noncomputable def fi30:FI:=⟨q 0 [y2]++q 2 [y0,y1,y0]++q 6 [y2,y0,y0,y1,y0]++q 5 [y0]++q 11 [y2,y0,y10,y1,y1,y2,y0,y10,y1,y1,y1,y0,y1,y1,y0,y0,y2,y0,y10,y10,y0,y0,y0,y0,y2,y1,y1,y0,y1,y1],[.j [0,4],.l [0,4,7,8] none,.n,.n,.n]⟩
noncomputable def hh35:Hints:=⟨[],[],[],[],[],[]⟩
noncomputable def vf35:VF:=aKN Tryz.prog hh35 [0,2] [] Tryz.f35
noncomputable def fi35:FI:=⟨q 0 [y0]++q 2 [y1,y0,y1,y1,y0,y1,y1],[]⟩
noncomputable def FT:Nat→Option Entry
 | 8=>some (.code vf8)
 | 9=>some (.code vf9)
 | 19=>some (.code vf19)
 | 20=>some (.code vf20)
 | 22=>some (.code vf22)
 | 23=>some (.code vf23)
 | 26=>some (.code vf26)
 | 30=>some (.code vf30)
 | 35=>some (.code vf35)
 | 21=>some (.prim [] aGB)
 | 27=>some (.prim [] (pF aEQ))
 | 31=>some (.prim [] (pF aH1))
 | 38=>some (.prim [] (pF (aET 111)))
 | _=>none
noncomputable def sgN:Nat→Sg
 | 21=>⟨[.d (.sl .str),.d .str],[(.str,[])],none⟩
 | 27=>⟨[.d .str,.d .str],[(.sl .str,[])],none⟩
 | 31=>⟨[.d (.int .i64)],[(.str,[])],none⟩
 | 38=>⟨[.d .str],[(.int .i64,[]),(.err,[])],none⟩
 | 8=>⟨[.d (.sl (.st t0))],[(.str,[])],none⟩
 | 9=>⟨[.d (.sl (.st t0))],[(.str,[])],none⟩
 | 19=>⟨[.d (.sl (.st t0))],[(.bool,[])],none⟩
 | 20=>⟨[.d (.sl (.int .i64)),.d .str],[(.str,[])],none⟩
 | 22=>⟨[.d (.sl (.st t0))],[(.bool,[])],none⟩
 | 23=>⟨[.d (.sl (.int .i64)),.d .str],[(.str,[])],none⟩
 | 26=>⟨[.d .str],[(.st t0,[(1,true)]),(.bool,[])],none⟩
 | 30=>⟨[.d .str],[(.int .i64,[]),(.bool,[])],none⟩
 | 35=>⟨[.d (.int .i64)],[(.bool,[])],none⟩
 | _=>⟨[],[],none⟩
noncomputable def vsN:Nat→Sig
 | 8=>⟨[],true⟩
 | 9=>⟨[],true⟩
 | 19=>⟨[],true⟩
 | 20=>⟨[],true⟩
 | 22=>⟨[],true⟩
 | 23=>⟨[],true⟩
 | 26=>⟨[],true⟩
 | 30=>⟨[],true⟩
 | 35=>⟨[],true⟩
 | 21=>⟨[],true⟩
 | 27=>⟨[],true⟩
 | 31=>⟨[],true⟩
 | 38=>⟨[],true⟩
 | _=>⟨[],false⟩
noncomputable def TN:(f:Nat)→NE (sgN f)
 | 8=>.code fi8 vf8
 | 9=>.code fi9 vf9
 | 19=>.code fi19 vf19
 | 20=>.code fi20 vf20
 | 22=>.code fi22 vf22
 | 23=>.code fi23 vf23
 | 26=>.code fi26 vf26
 | 30=>.code fi30 vf30
 | 35=>.code fi35 vf35
 | 21=>.prim aIs
 | 27=>.prim (qF aEQ _)
 | 31=>.prim (qF aH1 _)
 | 38=>.prim (qF (aET 111) _)
 | _=>.no
end Go.Proofs.YtajoneenakjifaaGreatDoor.Z
