/- The functions that the laws reach: how they are compiled and read. Definitions alone. -/
import Derived.Test.YtajoneenakjifaaDoorTC
import Derived.Test.YtajoneenakjifaaDoorProg
import Derived.KernelRfl
namespace Go.Proofs.YtajoneenakjifaaDoor.Z
open Go.VM
set_option maxRecDepth 100000
abbrev t0:Ty:=.pair .bool (.sl (.int .i64))
def q:Nat→List SY→List (Nat×SY)
 | _,[]=>[]
 | n,s::r=>(n,s)::q (n+1) r
abbrev y0:SY:=.d (.int .i64)
abbrev y1:SY:=.d .bool
abbrev y2:SY:=.d .str
abbrev y3:SY:=.d (.sl (.int .i64))
abbrev y4:SY:=.d (.sl .str)
abbrev y5:SY:=.d (.sl (.st t0))
abbrev y6:SY:=.rp 5 1
abbrev y7:SY:=.ep (.st t0) 0 (some (0,none))
abbrev y8:SY:=.d (.st t0)
abbrev y9:SY:=.reg (.st t0)
abbrev y10:SY:=.ep (.int .i64) 0 (some (5,some 1))
noncomputable def hh11:Hints:=⟨[],[(13,.e []),(5,.r 5),(15,.r 5),(18,.r 5),(26,.r 5)],[],[7,20,28,33],[],[]⟩
noncomputable def vf11:VF:=aKN Tryd.prog hh11 [0,2,3,5,8,9,10,11,12,16] [] Tryd.f11
noncomputable def fi11:FI:=⟨q 0 [y5]++q 2 [y2]++q 6 [y5,y1,y1]++q 3 [y4]++q 9 [y5,y0,y0,y1,y7,y8]++q 5 [y9]++q 15 [.rp 5 0,y1,y4,y6,y3,y2,y2,y2,y4,y4,y4,y6,y3,y2,y4,y4,y0,y4,y2],[.n,.j [3],.l [3,9,10,11] (some [(11,⟨[],none⟩),(10,⟨[],none⟩),(9,⟨[],some (0,none)⟩),(3,⟨[(0,⟨[1600,1984],true,true,true,true,none⟩)],none⟩)]),.n,.j [3,9,10,11],.j [3,9,10,11]]⟩
noncomputable def hh14:Hints:=⟨[],[(10,.e []),(5,.r 5),(13,.r 5)],[],[],[],[]⟩
noncomputable def vf14:VF:=aKN Tryd.prog hh14 [0,2,3,5,6,7,8,9] [] Tryd.f14
noncomputable def fi14:FI:=⟨q 0 [y5]++q 2 [y3,y3]++q 6 [y5,y0,y0,y1,y7,y8]++q 5 [y9]++q 12 [y3,y6,y3,y3,y0,y3],[.j [3],.l [3,6,7,8] (some [(8,⟨[],none⟩),(7,⟨[],none⟩),(6,⟨[],some (0,none)⟩),(3,⟨[(0,⟨[1024],true,true,true,true,none⟩)],none⟩)]),.n,.n]⟩
noncomputable def hh17:Hints:=⟨[],[(13,.e []),(5,.r 5),(15,.r 5),(23,.r 5),(32,.e []),(37,.r 5),(43,.e []),(49,.r 5),(56,.r 5),(60,.e []),(68,.r 5)],[],[46],[],[]⟩
noncomputable def vf17:VF:=aKN Tryd.prog hh17 [0,2,3,4,5,6,7,8,9,10,11,36,38,39,40,41,65] [] Tryd.f17
noncomputable def fi17:FI:=⟨q 0 [y5]++q 2 [y1,y0]++q 8 [y5,y0,y0,y1,y0,y7,y8]++q 5 [y9]++q 4 [y0]++q 15 [y6,y3,y0,y1,y1,y0,y1,y1,.rp 5 0,y1,y1,y1,y1,y5,y0,y0,y7,y7,y1,y1,y1,y1,y6,y3,y0,y0,y1,y0,y10,y0]++q 6 [y0,y0]++q 45 [y0,y1,y1,y1,.rp 5 0,y1,y1,y0,y1,y1,y1,y6,y3,y0,y0,y10,y0,y0,y1,y1,y1,y0,y0,y6,y3,y0,y0,y0,y0,y1],[.j [3],.l [0,3,8,9,10] none,.n,.j [0,3,8,9,10],.n,.j [0,3,5,8,9,10],.l [0,3,5,8,9,10,38,39,40] none,.n,.n,.n]⟩
noncomputable def hh27:Hints:=⟨[],[],[],[],[],[]⟩
noncomputable def vf27:VF:=aKN Tryd.prog hh27 [0,1,4,5,10] [] Tryd.f27
noncomputable def fi27:FI:=⟨q 0 [y0,y0]++q 4 [y0]++q 6 [y0,y0,y0]++q 5 [y0]++q 9 [y0,y1,y0,y0,y0,y0],[.j [5]]⟩
noncomputable def hh36:Hints:=⟨[],[(2,.r 2),(4,.r 4),(25,.r 4),(36,.e []),(46,.r 4),(51,.r 4),(54,.r 4),(57,.r 4)],[],[32,40],[],[]⟩
noncomputable def vf36:VF:=aKN Tryd.prog hh36 [0,2,3,4,6,7,8,24,32,33,34,35,44] [] Tryd.f36
noncomputable def fi36:FI:=⟨q 0 [y2]++q 2 [y9,y1,y9]++q 9 [y2,y0,y1,y1,y2,.d (.int .u8),y1,y1,y1,y2,y2,y0,y0,.d (.int .u8),y1,y1,.rp 4 0,y2,y2,y0,y0,y2,y2,y4,y0,y0,y1,.ep .str 0 (some (32,none)),y2]++q 6 [y2]++q 39 [y2,.tup [.int .i64,.err]]++q 38 [.tup [.int .i64,.err]]++q 41 [y0,.d .err]++q 7 [y0,.d .err]++q 43 [.d .err,y1,y8,.rp 4 1,y3,y0,y3,y3,.rp 4 1,y0,y8,.rp 4 0,y1,y1,.rp 4 1,y3,y0,y1,y1],[.j [0,2,4],.j [2,4],.l [2,4,32,33,34] (some [(34,⟨[],none⟩),(33,⟨[],none⟩),(32,⟨[(0,⟨[2112],true,false,false,false,none⟩)],none⟩),(4,⟨[(1,⟨[3264],true,true,true,true,none⟩)],none⟩),(2,⟨[(1,⟨[],true,true,true,true,none⟩)],none⟩)]),.n,.n,.n]⟩
noncomputable def hh37:Hints:=⟨[],[(12,.e [])],[],[16,22],[],[]⟩
noncomputable def vf37:VF:=aKN Tryd.prog hh37 [0,1,4,5,7,8,9,10,11] [] Tryd.f37
noncomputable def fi37:FI:=⟨q 0 [y3,y2]++q 4 [y2,y4]++q 8 [y3,y0,y0,y1,.ep (.int .i64) 0 (some (0,none)),y0]++q 7 [y0]++q 14 [y4,y0,y2,y4,y4,y0,y4,y2,y2],[.j [1,5],.l [1,5,8,9,10] (some [(10,⟨[],none⟩),(9,⟨[],none⟩),(8,⟨[],some (0,none)⟩),(5,⟨[(0,⟨[1216],true,true,true,true,none⟩)],none⟩),(1,⟨[],none⟩)]),.n,.n]⟩
noncomputable def hh40:Hints:=⟨[],[],[],[],[],[]⟩
noncomputable def vf40:VF:=aKN Tryd.prog hh40 [0,2] [] Tryd.f40
noncomputable def fi40:FI:=⟨q 0 [y0]++q 2 [y1,y0,y1,y1,y0,y1,y1],[]⟩
noncomputable def FT:Nat→Option Entry
 | 11=>some (.code vf11)
 | 14=>some (.code vf14)
 | 17=>some (.code vf17)
 | 27=>some (.code vf27)
 | 36=>some (.code vf36)
 | 37=>some (.code vf37)
 | 40=>some (.code vf40)
 | 38=>some (.prim [] aGB)
 | 47=>some (.prim [] (pF aEQ))
 | 48=>some (.prim [] (pF (aET 119)))
 | 49=>some (.prim [] (pF aH1))
 | _=>none
noncomputable def sgN:Nat→Sg
 | 38=>⟨[.d (.sl .str),.d .str],[(.str,[])],none⟩
 | 47=>⟨[.d .str,.d .str],[(.sl .str,[])],none⟩
 | 48=>⟨[.d .str],[(.int .i64,[]),(.err,[])],none⟩
 | 49=>⟨[.d (.int .i64)],[(.str,[])],none⟩
 | 11=>⟨[.d (.sl (.st t0))],[(.str,[])],none⟩
 | 14=>⟨[.d (.sl (.st t0))],[(.sl (.int .i64),[(0,true)])],none⟩
 | 17=>⟨[.d (.sl (.st t0))],[(.bool,[])],none⟩
 | 27=>⟨[.d (.int .i64),.d (.int .i64)],[(.int .i64,[])],none⟩
 | 36=>⟨[.d .str],[(.st t0,[(1,true)]),(.bool,[])],none⟩
 | 37=>⟨[.d (.sl (.int .i64)),.d .str],[(.str,[])],none⟩
 | 40=>⟨[.d (.int .i64)],[(.bool,[])],none⟩
 | _=>⟨[],[],none⟩
noncomputable def vsN:Nat→Sig
 | 11=>⟨[],true⟩
 | 14=>⟨[],true⟩
 | 17=>⟨[],true⟩
 | 27=>⟨[],true⟩
 | 36=>⟨[],true⟩
 | 37=>⟨[],true⟩
 | 40=>⟨[],true⟩
 | 38=>⟨[],true⟩
 | 47=>⟨[],true⟩
 | 48=>⟨[],true⟩
 | 49=>⟨[],true⟩
 | _=>⟨[],false⟩
noncomputable def TN:(f:Nat)→NE (sgN f)
 | 11=>.code fi11 vf11
 | 14=>.code fi14 vf14
 | 17=>.code fi17 vf17
 | 27=>.code fi27 vf27
 | 36=>.code fi36 vf36
 | 37=>.code fi37 vf37
 | 40=>.code fi40 vf40
 | 38=>.prim aIs
 | 47=>.prim (qF aEQ _)
 | 48=>.prim (qF (aET 119) _)
 | 49=>.prim (qF aH1 _)
 | _=>.no
end Go.Proofs.YtajoneenakjifaaDoor.Z
