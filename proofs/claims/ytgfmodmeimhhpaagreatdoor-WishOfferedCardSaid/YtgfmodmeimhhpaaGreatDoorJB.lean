/- The functions that the laws reach: how they are compiled and read. Definitions alone. -/
import Derived.Test.YtgfmodmeimhhpaaGreatDoorProg
import Derived.KernelRfl
import Derived.Test.YtgfmodmeimhhpaaGreatDoorJA
noncomputable section
namespace Go.Proofs.YtgfmodmeimhhpaaGreatDoor.Z
open Go.VM
set_option maxRecDepth 100000
abbrev t0:Ty:=.pair (.sl (.int .i64)) (.int .i64)
abbrev t1:Ty:=.pair .bool (.sl (.int .i64))
abbrev t2:Ty:=.pair (.int .u64) (.int .u64)
abbrev t3:Ty:=.st (.pair .bool t2)
abbrev t4:Ty:=.pair (.int .i64) (.int .i64)
abbrev t5:Ty:=.pair (.int .i64) t4
abbrev t6:Ty:=.pair (.int .i64) (.sl (.int .u8))
abbrev t7:Ty:=.pair (.int .i64) t6
abbrev t8:Ty:=.pair (.sl (.st t5)) (.sl (.st t7))
abbrev t9:Ty:=.pair (.sl (.st t4)) t8
abbrev t10:Ty:=.pair (.int .i64) t9
abbrev t11:Ty:=.pair (.int .i64) t10
abbrev t12:Ty:=.pair (.int .i64) t11
abbrev t13:Ty:=.pair (.sl (.st t1)) (.pair t3 t12)
abbrev t14:Ty:=.pair (.int .i64) t13
def q:Nat->List SY->List (Nat×SY)
 |_,[]=>[]|n,s::r=>(n,s)::q (n+1) r
abbrev y0:SY:=.d (.int .i64)
abbrev y1:SY:=.d .bool
abbrev y2:SY:=.ptr 200000 0
abbrev y3:SY:=.d (.sl (.int .i64))
abbrev y4:SY:=.d (.sl (.st t4))
abbrev y5:SY:=.d (.sl (.st t5))
abbrev y6:SY:=.d (.sl (.st t1))
abbrev y7:SY:=.d (.st t4)
abbrev y8:SY:=.d (.st t5)
abbrev y9:SY:=.d (.sl (.st t7))
abbrev y10:SY:=.d (.sl (.int .u8))
abbrev y11:SY:=.d (.int .u64)
abbrev y12:SY:=.ptr 200000 1
abbrev y13:SY:=.d (.st t1)
abbrev y14:SY:=.ep (.st t1) 0 (some (0,none))
abbrev y15:SY:=.reg (.st t14)
abbrev y16:SY:=.ep (.int .i64) 0 (some (5,some 1))
def hh8:Hints:=⟨[],[(31,.e [])],[],[34],[],[]⟩
def vf8:VF:=aKN Tryz.prog hh8 [0,1,4,14] [] Tryz.f8
def fi8:FI:=⟨q 0 [y2]++q 200000 [.box (.st t0)]++q 1 [y0]++q 4 [y0,y2,y2,y12,y0,y2,y2,y2,y3,y0,y1,y2,y2,y12,y0,y0,y2,y12,y2,y2,y2,y3,y2,y2,y12,y0,y0,.ep (.int .i64) 0 (some (25,none)),y0,y0,y0],[.n]⟩
def hh10:Hints:=⟨[],[],[],[],[],[]⟩
def vf10:VF:=aKN Tryz.prog hh10 [0,1,4,5,10] [] Tryz.f10
def fi10:FI:=⟨q 0 [y0,y0]++q 4 [y0]++q 6 [y0,y0,y0]++q 5 [y0]++q 9 [y0,y1,y0,y0,y0,y0],[.j [5]]⟩
def hh39:Hints:=⟨[],[(1,.r 1),(2,.r 2),(9,.r 1),(11,.r 1),(13,.r 1),(14,.r 1),(19,.e []),(6,.r 6),(21,.r 1),(23,.r 6),(25,.r 6),(31,.r 1),(37,.e []),(8,.r 8),(39,.r 1),(41,.r 8),(43,.r 8),(45,.r 8),(51,.r 1),(53,.r 1),(56,.r 1),(59,.r 1),(60,.r 1)],[],[27,47,55,58],[],[]⟩
def vf39:VF:=aKN Tryz.prog hh39 [0,1,2,3,4,6,8,15,16,17,18,33,34,35,36] [] Tryz.f39
def fi39:FI:=⟨q 0 [.d (.st t14),y15,y15]++q 9 [.rp 1 1,y6,.rp 1 10,y9]++q 3 [y6,y9]++q 13 [.rp 1 1,.rp 1 10,y6,y0,y0,y1,.ep (.st t1) 0 (some (3,none)),y13]++q 6 [.reg (.st t1)]++q 21 [.rp 1 1,y6,.rp 6 0,y1,.rp 6 1,y3,y3,y13,y6,y6,.rp 1 1,y0,y9,y0,y0,y1,.ep (.st t7) 0 (some (4,none)),.d (.st t7)]++q 8 [.reg (.st t7)]++q 39 [.rp 1 10,y9,.rp 8 0,y0,.rp 8 1,y0,.rp 8 2,y10,y10,.d (.st t7),y9,y9,.rp 1 10,y0,.rp 1 8,y4,y4,.rp 1 9,y5,y5,.rp 1 8,.rp 1 9,.d (.st t14)],[.j [1,2,4],.l [1,2,4,15,16,17] (some [(17,⟨[],none⟩),(16,⟨[],none⟩),(15,⟨[],some (3,none)⟩),(1,⟨[(10,⟨[],true,true,true,true,none⟩),(1,⟨[1984],true,true,true,true,none⟩)],none⟩),(4,⟨[],none⟩),(2,⟨[(1,⟨[],true,true,true,true,none⟩),(8,⟨[],true,true,true,true,none⟩),(9,⟨[],true,true,true,true,none⟩),(10,⟨[],true,true,true,true,none⟩)],none⟩)]),.n,.n,.j [1,2],.l [1,2,33,34,35] (some [(35,⟨[],none⟩),(34,⟨[],none⟩),(33,⟨[],some (4,none)⟩),(1,⟨[(10,⟨[3264],true,true,true,true,none⟩),(1,⟨[1984],true,true,true,true,none⟩)],none⟩),(2,⟨[(1,⟨[],true,true,true,true,none⟩),(8,⟨[],true,true,true,true,none⟩),(9,⟨[],true,true,true,true,none⟩),(10,⟨[],true,true,true,true,none⟩)],none⟩)]),.n,.n]⟩
def hh63:Hints:=⟨[],[(0,.r 0)],[],[],[],[]⟩
def vf63:VF:=aKN Tryz.prog hh63 [0] [] Tryz.f63
def fi63:FI:=⟨q 0 [y15,.d (.st t14)],[]⟩
def hh64:Hints:=⟨[],[(4,.r 4)],[],[],[],[]⟩
def vf64:VF:=aKN Tryz.prog hh64 [0,1,4,5] [] Tryz.f64
def fi64:FI:=⟨q 0 [y0,y1]++q 4 [.reg t3,y1,y0,y11,.d t3,y0,y0,y0,y11,y11,.d t3],[.n]⟩
def hh65:Hints:=⟨[],[(24,.e []),(7,.r 7)],[],[],[],[]⟩
def vf65:VF:=aKN Tryz.prog hh65 [0,2,3,4,5,6,7,19,20,21,22,41] [] Tryz.f65
def fi65:FI:=⟨q 0 [y2]++q 200000 [.box (.st t0)]++q 2 [y4]++q 8 [y7,y7,y7,y7,y7,y7,y7,y7,y4]++q 3 [y4,y4]++q 17 [y2,y0]++q 5 [y0]++q 19 [y4,y0,y0,y1,y0,.ep (.st t4) 0 (some (3,none)),y7]++q 7 [.reg (.st t4)]++q 6 [y0]++q 26 [y0,y0,y0,y11,y0,y0,y1,y1,y0,y1,y1,y2,y0,y1,y1,y1,y4,y7,y4,y4,y0,y4],[.j [4,200000],.l [4,5,19,20,21,200000] (some [(21,⟨[],none⟩),(20,⟨[],none⟩),(19,⟨[(0,⟨[1088],true,true,true,true,none⟩)],some (3,none)⟩),(5,⟨[],none⟩),(4,⟨[(0,⟨[2944],true,true,true,true,none⟩)],none⟩),(0,⟨[],none⟩),(200000,⟨[],none⟩)]),.n,.j [4,5,19,20,21,200000],.j [4,5,19,20,21,200000]]⟩
def hh66:Hints:=⟨[],[(23,.e []),(7,.r 7)],[],[],[],[]⟩
def vf66:VF:=aKN Tryz.prog hh66 [0,2,3,4,5,6,7,18,19,20,21,31] [] Tryz.f66
def fi66:FI:=⟨q 0 [y2]++q 200000 [.box (.st t0)]++q 2 [y5]++q 8 [y8,y8,y8,y8,y8,y8,y8,y5]++q 3 [y5,y5]++q 16 [y2,y0]++q 5 [y0]++q 18 [y5,y0,y0,y1,y0,.ep (.st t5) 0 (some (3,none)),y8]++q 7 [.reg (.st t5)]++q 6 [y0]++q 25 [y0,y0,y0,y11,y0,y0,y1,y5,y8,y5,y5,y0,y5],[.j [4,200000],.l [4,5,18,19,20,200000] (some [(20,⟨[],none⟩),(19,⟨[],none⟩),(18,⟨[(0,⟨[1024],true,true,true,true,none⟩)],some (3,none)⟩),(5,⟨[],none⟩),(4,⟨[(0,⟨[2304],true,true,true,true,none⟩)],none⟩),(0,⟨[],none⟩),(200000,⟨[],none⟩)]),.n,.j [4,5,18,19,20,200000],.j [4,5,18,19,20,200000]]⟩
def hh72:Hints:=⟨[],[(10,.e []),(5,.r 5),(13,.r 5)],[],[],[],[]⟩
def vf72:VF:=aKN Tryz.prog hh72 [0,2,3,5,6,7,8,9] [] Tryz.f72
def fi72:FI:=⟨q 0 [y6]++q 2 [y3,y3]++q 6 [y6,y0,y0,y1,y14,y13]++q 5 [.reg (.st t1)]++q 12 [y3,.rp 5 1,y3,y3,y0,y3],[.j [3],.l [3,6,7,8] (some [(8,⟨[],none⟩),(7,⟨[],none⟩),(6,⟨[],some (0,none)⟩),(3,⟨[(0,⟨[1024],true,true,true,true,none⟩)],none⟩)]),.n,.n]⟩
def hh73:Hints:=⟨[],[],[],[],[],[]⟩
def vf73:VF:=aKN Tryz.prog hh73 [0,2] [] Tryz.f73
def fi73:FI:=⟨q 0 [y3]++q 2 [y3,y3,y3],[]⟩
def hh74:Hints:=⟨[],[],[],[],[],[]⟩
def vf74:VF:=aKN Tryz.prog hh74 [0,2] [] Tryz.f74
def fi74:FI:=⟨q 0 [y10]++q 2 [y10,y10,y10],[]⟩
def hh75:Hints:=⟨[],[],[],[],[],[]⟩
def vf75:VF:=aKN Tryz.prog hh75 [0,2] [] Tryz.f75
def fi75:FI:=⟨q 0 [y4]++q 2 [y4,y4,y4],[]⟩
def hh76:Hints:=⟨[],[],[],[],[],[]⟩
def vf76:VF:=aKN Tryz.prog hh76 [0,2] [] Tryz.f76
def fi76:FI:=⟨q 0 [y5]++q 2 [y5,y5,y5],[]⟩
def hh83:Hints:=⟨[],[(13,.e []),(5,.r 5),(15,.r 5),(23,.r 5),(32,.e []),(37,.r 5),(43,.e []),(49,.r 5),(56,.r 5),(60,.e []),(68,.r 5)],[],[46],[],[]⟩
def vf83:VF:=aKN Tryz.prog hh83 [0,2,3,4,5,6,7,8,9,10,11,36,38,39,40,41,65] [] Tryz.f83
def fi83:FI:=⟨q 0 [y6]++q 2 [y1,y0]++q 8 [y6,y0,y0,y1,y0,y14,y13]++q 5 [.reg (.st t1)]++q 4 [y0]++q 15 [.rp 5 1,y3,y0,y1,y1,y0,y1,y1,.rp 5 0,y1,y1,y1,y1,y6,y0,y0,y14,y14,y1,y1,y1,y1,.rp 5 1,y3,y0,y0,y1,y0,y16,y0]++q 6 [y0,y0]++q 45 [y0,y1,y1,y1,.rp 5 0,y1,y1,y0,y1,y1,y1,.rp 5 1,y3,y0,y0,y16,y0,y0,y1,y1,y1,y0,y0,.rp 5 1,y3,y0,y0,y0,y0,y1],[.j [3],.l [0,3,8,9,10] none,.n,.j [0,3,8,9,10],.n,.j [0,3,5,8,9,10],.l [0,3,5,8,9,10,38,39,40] none,.n,.n,.n]⟩
def hh84:Hints:=⟨[],[],[],[],[],[]⟩
def vf84:VF:=aKN Tryz.prog hh84 [0,2] [] Tryz.f84
def fi84:FI:=⟨q 0 [y0]++q 2 [y1,y0,y1,y1,y0,y1,y1],[]⟩
def FT:Nat->Option Entry
 |8=>some (.code vf8)|10=>some (.code vf10)|39=>some (.code vf39)|63=>some (.code vf63)|64=>some (.code vf64)|65=>some (.code vf65)|66=>some (.code vf66)|72=>some (.code vf72)|73=>some (.code vf73)|74=>some (.code vf74)|75=>some (.code vf75)|76=>some (.code vf76)|83=>some (.code vf83)|84=>some (.code vf84)|_=>none
def sgN:Nat->Sg
 |8=>⟨[.p (.st t0),.d (.int .i64)],[(.int .i64,[])],none⟩|10=>⟨[.d (.int .i64),.d (.int .i64)],[(.int .i64,[])],none⟩|39=>⟨[.d (.st t14)],[(.st t14,[(1,true),(8,true),(9,true),(10,true)])],none⟩|63=>⟨[],[(.st t14,[(1,true),(8,true),(9,true),(10,true)])],none⟩|64=>⟨[.d (.int .i64),.d .bool],[(t3,[])],none⟩|65=>⟨[.p (.st t0)],[(.sl (.st t4),[(0,true)])],none⟩|66=>⟨[.p (.st t0)],[(.sl (.st t5),[(0,true)])],none⟩|72=>⟨[.d (.sl (.st t1))],[(.sl (.int .i64),[(0,true)])],none⟩|73=>⟨[.d (.sl (.int .i64))],[(.sl (.int .i64),[(0,true)])],none⟩|74=>⟨[.d (.sl (.int .u8))],[(.sl (.int .u8),[(0,true)])],none⟩|75=>⟨[.d (.sl (.st t4))],[(.sl (.st t4),[(0,true)])],none⟩|76=>⟨[.d (.sl (.st t5))],[(.sl (.st t5),[(0,true)])],none⟩|83=>⟨[.d (.sl (.st t1))],[(.bool,[])],none⟩|84=>⟨[.d (.int .i64)],[(.bool,[])],none⟩|_=>⟨[],[],none⟩
def vsN:Nat->Sig
 |8=>⟨[],false⟩|10=>⟨[],true⟩|39=>⟨[],true⟩|63=>⟨[],true⟩|64=>⟨[],true⟩|65=>⟨[],false⟩|66=>⟨[],false⟩|72=>⟨[],true⟩|73=>⟨[],true⟩|74=>⟨[],true⟩|75=>⟨[],true⟩|76=>⟨[],true⟩|83=>⟨[],true⟩|84=>⟨[],true⟩|_=>⟨[],false⟩
def TN:(f:Nat)->NE (sgN f)
 |8=>.code fi8 vf8|10=>.code fi10 vf10|39=>.code fi39 vf39|63=>.code fi63 vf63|64=>.code fi64 vf64|65=>.code fi65 vf65|66=>.code fi66 vf66|72=>.code fi72 vf72|73=>.code fi73 vf73|74=>.code fi74 vf74|75=>.code fi75 vf75|76=>.code fi76 vf76|83=>.code fi83 vf83|84=>.code fi84 vf84|_=>.no
end Go.Proofs.YtgfmodmeimhhpaaGreatDoor.Z
end
noncomputable section
namespace Go.Proofs.YtgfmodmeimhhpaaGreatDoor.Z
open Go.VM
set_option maxRecDepth 100000
def n8(N:Nat)(x:(((List (Int))×Int)×Int)):Option ((Int×((List (Int))×Int))):=nfN TN N 8 x
def n10(N:Nat)(x:(Int×Int)):Option (Int):=nfN TN N 10 x
def n39(N:Nat)(x:(Int×(List ((Bool×(List (Int)))))×(Bool×Int×Int)×Int×Int×Int×(List ((Int×Int)))×(List ((Int×Int×Int)))×(List ((Int×Int×(List (Int))))))):Option ((Int×(List ((Bool×(List (Int)))))×(Bool×Int×Int)×Int×Int×Int×(List ((Int×Int)))×(List ((Int×Int×Int)))×(List ((Int×Int×(List (Int))))))):=nfN TN N 39 x
def n63(N:Nat)(x:Unit):Option ((Int×(List ((Bool×(List (Int)))))×(Bool×Int×Int)×Int×Int×Int×(List ((Int×Int)))×(List ((Int×Int×Int)))×(List ((Int×Int×(List (Int))))))):=nfN TN N 63 x
def n64(N:Nat)(x:(Int×Bool)):Option ((Bool×Int×Int)):=nfN TN N 64 x
def n65(N:Nat)(x:((List (Int))×Int)):Option (((List ((Int×Int)))×((List (Int))×Int))):=nfN TN N 65 x
def n66(N:Nat)(x:((List (Int))×Int)):Option (((List ((Int×Int×Int)))×((List (Int))×Int))):=nfN TN N 66 x
def n72(N:Nat)(x:List ((Bool×(List (Int))))):Option (List (Int)):=nfN TN N 72 x
def n73(N:Nat)(x:List (Int)):Option (List (Int)):=nfN TN N 73 x
def n74(N:Nat)(x:List (Int)):Option (List (Int)):=nfN TN N 74 x
def n75(N:Nat)(x:List ((Int×Int))):Option (List ((Int×Int))):=nfN TN N 75 x
def n76(N:Nat)(x:List ((Int×Int×Int))):Option (List ((Int×Int×Int))):=nfN TN N 76 x
def n83(N:Nat)(x:List ((Bool×(List (Int))))):Option (Bool):=nfN TN N 83 x
def n84(N:Nat)(x:Int):Option (Bool):=nfN TN N 84 x
end Go.Proofs.YtgfmodmeimhhpaaGreatDoor.Z
end
namespace Go.Proofs.YtgfmodmeimhhpaaGreatDoor.Z
open Go.VM
set_option maxRecDepth 100000
theorem tab8:mM Tryz.prog hh8 vf8.kept vf8.cons Tryz.f8=some vf8:=by kernel_rfl
theorem sig8:(⟨vf8.cons,vf8.quiet⟩:Sig)=⟨[],false⟩:=by kernel_rfl
theorem chk8:aH8 sgN vsN (sgN 8) fi8 vf8=true:=by kernel_rfl
theorem tab10:mM Tryz.prog hh10 vf10.kept vf10.cons Tryz.f10=some vf10:=by kernel_rfl
theorem sig10:(⟨vf10.cons,vf10.quiet⟩:Sig)=⟨[],true⟩:=by kernel_rfl
theorem chk10:aH8 sgN vsN (sgN 10) fi10 vf10=true:=by kernel_rfl
theorem tab39:mM Tryz.prog hh39 vf39.kept vf39.cons Tryz.f39=some vf39:=by kernel_rfl
theorem sig39:(⟨vf39.cons,vf39.quiet⟩:Sig)=⟨[],true⟩:=by kernel_rfl
theorem chk39:aH8 sgN vsN (sgN 39) fi39 vf39=true:=by kernel_rfl
theorem tab63:mM Tryz.prog hh63 vf63.kept vf63.cons Tryz.f63=some vf63:=by kernel_rfl
theorem sig63:(⟨vf63.cons,vf63.quiet⟩:Sig)=⟨[],true⟩:=by kernel_rfl
theorem chk63:aH8 sgN vsN (sgN 63) fi63 vf63=true:=by kernel_rfl
theorem tab64:mM Tryz.prog hh64 vf64.kept vf64.cons Tryz.f64=some vf64:=by kernel_rfl
theorem sig64:(⟨vf64.cons,vf64.quiet⟩:Sig)=⟨[],true⟩:=by kernel_rfl
theorem chk64:aH8 sgN vsN (sgN 64) fi64 vf64=true:=by kernel_rfl
theorem tab65:mM Tryz.prog hh65 vf65.kept vf65.cons Tryz.f65=some vf65:=by kernel_rfl
theorem sig65:(⟨vf65.cons,vf65.quiet⟩:Sig)=⟨[],false⟩:=by kernel_rfl
theorem chk65:aH8 sgN vsN (sgN 65) fi65 vf65=true:=by kernel_rfl
theorem tab66:mM Tryz.prog hh66 vf66.kept vf66.cons Tryz.f66=some vf66:=by kernel_rfl
theorem sig66:(⟨vf66.cons,vf66.quiet⟩:Sig)=⟨[],false⟩:=by kernel_rfl
theorem chk66:aH8 sgN vsN (sgN 66) fi66 vf66=true:=by kernel_rfl
theorem tab72:mM Tryz.prog hh72 vf72.kept vf72.cons Tryz.f72=some vf72:=by kernel_rfl
theorem sig72:(⟨vf72.cons,vf72.quiet⟩:Sig)=⟨[],true⟩:=by kernel_rfl
theorem chk72:aH8 sgN vsN (sgN 72) fi72 vf72=true:=by kernel_rfl
theorem tab73:mM Tryz.prog hh73 vf73.kept vf73.cons Tryz.f73=some vf73:=by kernel_rfl
theorem sig73:(⟨vf73.cons,vf73.quiet⟩:Sig)=⟨[],true⟩:=by kernel_rfl
theorem chk73:aH8 sgN vsN (sgN 73) fi73 vf73=true:=by kernel_rfl
theorem tab74:mM Tryz.prog hh74 vf74.kept vf74.cons Tryz.f74=some vf74:=by kernel_rfl
theorem sig74:(⟨vf74.cons,vf74.quiet⟩:Sig)=⟨[],true⟩:=by kernel_rfl
theorem chk74:aH8 sgN vsN (sgN 74) fi74 vf74=true:=by kernel_rfl
theorem tab75:mM Tryz.prog hh75 vf75.kept vf75.cons Tryz.f75=some vf75:=by kernel_rfl
theorem sig75:(⟨vf75.cons,vf75.quiet⟩:Sig)=⟨[],true⟩:=by kernel_rfl
theorem chk75:aH8 sgN vsN (sgN 75) fi75 vf75=true:=by kernel_rfl
theorem tab76:mM Tryz.prog hh76 vf76.kept vf76.cons Tryz.f76=some vf76:=by kernel_rfl
theorem sig76:(⟨vf76.cons,vf76.quiet⟩:Sig)=⟨[],true⟩:=by kernel_rfl
theorem chk76:aH8 sgN vsN (sgN 76) fi76 vf76=true:=by kernel_rfl
theorem tab83:mM Tryz.prog hh83 vf83.kept vf83.cons Tryz.f83=some vf83:=by kernel_rfl
theorem sig83:(⟨vf83.cons,vf83.quiet⟩:Sig)=⟨[],true⟩:=by kernel_rfl
theorem chk83:aH8 sgN vsN (sgN 83) fi83 vf83=true:=by kernel_rfl
theorem tab84:mM Tryz.prog hh84 vf84.kept vf84.cons Tryz.f84=some vf84:=by kernel_rfl
theorem sig84:(⟨vf84.cons,vf84.quiet⟩:Sig)=⟨[],true⟩:=by kernel_rfl
theorem chk84:aH8 sgN vsN (sgN 84) fi84 vf84=true:=by kernel_rfl
end Go.Proofs.YtgfmodmeimhhpaaGreatDoor.Z
namespace Go.Proofs.YtgfmodmeimhhpaaGreatDoor.Z
open Go.VM
set_option maxRecDepth 100000
abbrev Zq1:=Bool×(List Int)
abbrev Zq5:=Int×Int
abbrev Zq4:=Int×Int×(List Int)
abbrev Zq0:=Int×(List Zq1)×(Bool×Int×Int)×Int×Int×Int×(List Zq5)×(List (Int×Int×Int))×(List Zq4)
abbrev Zq2:=List (Int×Int×Int)×(Int×(List (Int×Int×Int)×(Int×(Int×((List Int)×Int)))))
abbrev Zq3:=List Zq5×(Int×(List Zq5×(Int×(Int×((List Int)×Int)))))
theorem e8(N:Nat)(a0:((List Int)×Int))(a1:Int):n8 (N+1) (a0,a1)=
 aJy (decide (a0.2>=(aJO a0.1))) fun v0=>
 bif v0 then(some (0,a0))else(aJy (IntKind.i64.wrap (a0.2+1)) fun v1=>
 aJy (IntKind.i64.wrap (v1-1)) fun v2=>
 (aEU a0.1 v2).bind fun v3=>
 (n10 N (v3,a1)).bind fun v4=>
 some (v4,a0.1,v1)):=by kernel_rfl
theorem e10(N:Nat)(a0:Int)(a1:Int):n10 (N+1) (a0,a1)=
 (if a1=0 then none else some (Int.tmod a0 a1)).bind fun v0=>
 aBJ (fun(p1:Int)=>
 some p1) fun j2=>
 bif (decide (v0<0))then(j2 (IntKind.i64.wrap (v0+a1)))else(j2 v0):=by kernel_rfl
theorem e39(N:Nat)(a0:Zq0):n39 (N+1) a0=
 aJy ([]:List Zq1) fun v0=>
 aJy ([]:List Zq4) fun v1=>
 aBJ (fun(p2:(Zq0×(Zq0×List Zq4)))=>
 aBJ (fun(p4:(Zq0×Zq0))=>
 (n75 N p4.1.2.2.2.2.2.2.1).bind fun v6=>
 (n76 N p4.1.2.2.2.2.2.2.2.1).bind fun v7=>
 some (p4.1.1,p4.1.2.1,p4.1.2.2.1,p4.1.2.2.2.1,p4.1.2.2.2.2.1,p4.1.2.2.2.2.2.1,v6,v7,p4.1.2.2.2.2.2.2.2.2)) fun j5=>
 eG N (fun(p8:(Zq0×(Zq0×(List Zq4×Zq5))))=>
 aJy (decide (p8.2.2.2.2<p8.2.2.2.1)) fun v9=>
 bif v9 then((aEU p8.2.2.1 p8.2.2.2.2).bind fun v10=>
 (n74 N v10.2.2).bind fun v11=>
 aJy ([(v10.1,v10.2.1,v11)]:List Zq4) fun v12=>
 (aH3 40 p8.1.2.2.2.2.2.2.2.2 v12).bind fun v13=>
 aJy (IntKind.i64.wrap (p8.2.2.2.2+1)) fun v14=>
 tN ((p8.1.1,p8.1.2.1,p8.1.2.2.1,p8.1.2.2.2.1,p8.1.2.2.2.2.1,p8.1.2.2.2.2.2.1,p8.1.2.2.2.2.2.2.1,p8.1.2.2.2.2.2.2.2.1,v13),p8.2.1,p8.2.2.1,p8.2.2.2.1,v14))else(lJ (j5 (p8.1,p8.2.1)))) (p2.1,p2.2.1,p2.2.2,(aJO p2.2.2),0)) fun j3=>
 eG N (fun(p15:(Zq0×(Zq0×(List Zq4×(List Zq1×Zq5)))))=>
 aJy (decide (p15.2.2.2.2.2<p15.2.2.2.2.1)) fun v16=>
 bif v16 then((aEU p15.2.2.2.1 p15.2.2.2.2.2).bind fun v17=>
 (n73 N v17.2).bind fun v18=>
 aJy ([(v17.1,v18)]:List Zq1) fun v19=>
 (aH3 32 p15.1.2.1 v19).bind fun v20=>
 aJy (IntKind.i64.wrap (p15.2.2.2.2.2+1)) fun v21=>
 tN ((p15.1.1,v20,p15.1.2.2),p15.2.1,p15.2.2.1,p15.2.2.2.1,p15.2.2.2.2.1,v21))else(lJ (j3 (p15.1,p15.2.1,p15.2.2.1)))) ((a0.1,v0,a0.2.2.1,a0.2.2.2.1,a0.2.2.2.2.1,a0.2.2.2.2.2.1,a0.2.2.2.2.2.2.1,a0.2.2.2.2.2.2.2.1,v1),(0,([]:List Zq1),(false,0,0),0,0,0,([]:List Zq5),([]:List (Int×Int×Int)),([]:List Zq4)),a0.2.2.2.2.2.2.2.2,a0.2.1,(aJO a0.2.1),0):=by kernel_rfl
theorem e63(N:Nat):n63 (N+1) ()=
 aJy ([]:List Zq1) fun v0=>
 aJy ([]:List (Int×Int×Int)) fun v1=>
 aJy ([]:List Zq4) fun v2=>
 some ((-1),v0,(false,0,0),(-1),(-1),(-1),([]:List Zq5),v1,v2):=by kernel_rfl
theorem e64(N:Nat)(a0:Int)(a1:Bool):n64 (N+1) (a0,a1)=
 bif a1 then(some (true,2306139568115613695,(IntKind.u64.wrap a0)))else(aJy (IntKind.i64.wrap ((Int.tmod a0 250)+1)) fun v0=>
 aJy (bits .or IntKind.u64 3221225984 (IntKind.u64.wrap v0)) fun v1=>
 some (false,0,v1)):=by kernel_rfl
theorem e65(N:Nat)(a0:((List Int)×Int)):n65 (N+1) a0=
 aJy ([(0,99),(0,101),(0,102),(99,101),(99,103),(500,1),(65535,666),(65535,65282)]:List Zq5) fun v0=>
 (n8 N (a0,65536)).bind fun v1=>
 aBJ (fun(p2:(List Zq5×((List Int)×Int)))=>
 some (p2.1,p2.2)) fun j3=>
 eG N (fun(p4:Zq3)=>
 aJy (decide (p4.2.2.2.2.1<p4.2.2.2.1)) fun v5=>
 bif v5 then(aBJ (fun(p6:Zq3)=>
 aJy (IntKind.i64.wrap (p6.2.2.2.2.1+1)) fun v8=>
 tN (p6.1,p6.2.1,p6.2.2.1,p6.2.2.2.1,v8,p6.2.2.2.2.2)) fun j7=>
 (aEU p4.2.2.1 p4.2.2.2.2.1).bind fun v9=>
 aJy (IntKind.i64.wrap (2*p4.2.2.2.2.1)) fun v10=>
 (if(IntKind.u64.wrap v10)<0 then none else some (aJP IntKind.i64 p4.2.1 (IntKind.u64.wrap v10).toNat)).bind fun v11=>
 aJy (bits .and IntKind.i64 v11 3) fun v12=>
 aJy (decide (p4.2.2.2.2.1<6)) fun v13=>
 (bif ((!v13)&&(v12==3))then(n8 N (p4.2.2.2.2.2,2))else some (0,p4.2.2.2.2.2)).bind fun v14=>
 aJy (bif v13 then true else(v14.1==0)) fun v15=>
 aJy (bif (v12==3)then v15 else false) fun v16=>
 aBJ (fun(p17:Zq3)=>
 j7 (p17.1,p17.2.1,p17.2.2.1,p17.2.2.2.1,p17.2.2.2.2.1,p17.2.2.2.2.2)) fun j18=>
 bif v16 then((aH3 16 p4.1 ([v9]:List Zq5)).bind fun v19=>
 j18 (v19,p4.2.1,p4.2.2.1,p4.2.2.2.1,p4.2.2.2.2.1,v14.2))else(j18 (p4.1,p4.2.1,p4.2.2.1,p4.2.2.2.1,p4.2.2.2.2.1,v14.2)))else(lJ (j3 (p4.1,p4.2.2.2.2.2)))) (([]:List Zq5),v1.1,v0,(aJO v0),0,v1.2):=by kernel_rfl
theorem e66(N:Nat)(a0:((List Int)×Int)):n66 (N+1) a0=
 aJy ([(5,5,5),(99,0,0),(99,0,103),(99,1,102),(99,101,0),(99,102,104),(99,103,101)]:List (Int×Int×Int)) fun v0=>
 (n8 N (a0,16384)).bind fun v1=>
 aBJ (fun(p2:(List (Int×Int×Int)×((List Int)×Int)))=>
 some (p2.1,p2.2)) fun j3=>
 eG N (fun(p4:Zq2)=>
 aJy (decide (p4.2.2.2.2.1<p4.2.2.2.1)) fun v5=>
 bif v5 then(aBJ (fun(p6:Zq2)=>
 aJy (IntKind.i64.wrap (p6.2.2.2.2.1+1)) fun v8=>
 tN (p6.1,p6.2.1,p6.2.2.1,p6.2.2.2.1,v8,p6.2.2.2.2.2)) fun j7=>
 (aEU p4.2.2.1 p4.2.2.2.2.1).bind fun v9=>
 aJy (IntKind.i64.wrap (2*p4.2.2.2.2.1)) fun v10=>
 (if(IntKind.u64.wrap v10)<0 then none else some (aJP IntKind.i64 p4.2.1 (IntKind.u64.wrap v10).toNat)).bind fun v11=>
 aJy (bits .and IntKind.i64 v11 3) fun v12=>
 aBJ (fun(p13:Zq2)=>
 j7 (p13.1,p13.2.1,p13.2.2.1,p13.2.2.2.1,p13.2.2.2.2.1,p13.2.2.2.2.2)) fun j14=>
 bif (v12==3)then(aJy ([v9]:List (Int×Int×Int)) fun v15=>
 (aH3 24 p4.1 v15).bind fun v16=>
 j14 (v16,p4.2.1,p4.2.2.1,p4.2.2.2.1,p4.2.2.2.2.1,p4.2.2.2.2.2))else(j14 (p4.1,p4.2.1,p4.2.2.1,p4.2.2.2.1,p4.2.2.2.2.1,p4.2.2.2.2.2)))else(lJ (j3 (p4.1,p4.2.2.2.2.2)))) (([]:List (Int×Int×Int)),v1.1,v0,(aJO v0),0,v1.2):=by kernel_rfl
theorem e72(N:Nat)(a0:List Zq1):n72 (N+1) a0=
 aBJ (fun(p0:List Int)=>
 some p0) fun j1=>
 eG N (fun(p2:(List Int×(List Zq1×Zq5)))=>
 aJy (decide (p2.2.2.2<p2.2.2.1)) fun v3=>
 bif v3 then((aEU p2.2.1 p2.2.2.2).bind fun v4=>
 (aH3 8 p2.1 v4.2).bind fun v5=>
 aJy (IntKind.i64.wrap (p2.2.2.2+1)) fun v6=>
 tN (v5,p2.2.1,p2.2.2.1,v6))else(lJ (j1 p2.1))) (([]:List Int),a0,(aJO a0),0):=by kernel_rfl
theorem e73(N:Nat)(a0:List Int):n73 (N+1) a0=
 (aH3 8 ([]:List Int) a0).bind fun v0=>
 some v0:=by kernel_rfl
theorem e74(N:Nat)(a0:List Int):n74 (N+1) a0=
 (aH3 1 ([]:List Int) a0).bind fun v0=>
 some v0:=by kernel_rfl
theorem e75(N:Nat)(a0:List Zq5):n75 (N+1) a0=
 (aH3 16 ([]:List Zq5) a0).bind fun v0=>
 some v0:=by kernel_rfl
theorem e76(N:Nat)(a0:List (Int×Int×Int)):n76 (N+1) a0=
 (aH3 24 ([]:List (Int×Int×Int)) a0).bind fun v0=>
 some v0:=by kernel_rfl
theorem e83(N:Nat)(a0:List Zq1):n83 (N+1) a0=
 aBJ (fun(p0:Int)=>
 some (decide (p0<=64))) fun j1=>
 eG N (fun(p2:(List Zq1×(Int×(List Zq1×Zq5))))=>
 aJy (decide (p2.2.2.2.2<p2.2.2.2.1)) fun v3=>
 bif v3 then(aBJ (fun(p4:(List Zq1×(Int×(List Zq1×Zq5))))=>
 aJy (IntKind.i64.wrap (p4.2.2.2.2+1)) fun v6=>
 tN (p4.1,p4.2.1,p4.2.2.1,p4.2.2.2.1,v6)) fun j5=>
 (aEU p2.2.2.1 p2.2.2.2.2).bind fun v7=>
 aJy (decide (p2.2.2.2.2>0)) fun v8=>
 aJy (bif v8 then(!v7.1)else false) fun v9=>
 aJy (IntKind.i64.wrap (p2.2.2.2.2-1)) fun v10=>
 (bif (v9&&(!((aJO v7.2)==0)))then(aEU p2.1 v10)else some (false,([]:List Int))).bind fun v11=>
 aJy (bif v9 then(!v11.1)else false) fun v12=>
 aJy (bif ((aJO v7.2)==0)then true else v12) fun v13=>
 bif v13 then(lJ (some false))else(aBJ (fun(p14:(List Zq1×(Int×(Zq1×(List Zq1×Zq5)))))=>
 aJy (IntKind.i64.wrap (p14.2.1+(aJO p14.2.2.1.2))) fun v16=>
 j5 (p14.1,v16,p14.2.2.2.1,p14.2.2.2.2.1,p14.2.2.2.2.2)) fun j15=>
 eG N (fun(p17:(List Zq1×(Int×(Zq1×(List Zq1×(Int×(Int×(List Int×Zq5))))))))=>
 aJy (decide (p17.2.2.2.2.2.2.2.2<p17.2.2.2.2.2.2.2.1)) fun v18=>
 bif v18 then((aEU p17.2.2.2.2.2.2.1 p17.2.2.2.2.2.2.2.2).bind fun v19=>
 (n84 N v19).bind fun v20=>
 aJy (decide (p17.2.2.2.2.2.2.2.2>0)) fun v21=>
 aJy (bif p17.2.2.1.1 then v21 else false) fun v22=>
 aJy (IntKind.i64.wrap (p17.2.2.2.2.2.2.2.2-1)) fun v23=>
 (bif (v22&&(!(!v20)))then(aEU p17.2.2.1.2 v23)else some 0).bind fun v24=>
 aJy (bif v22 then(decide (v24>=v19))else false) fun v25=>
 aJy (bif (!v20)then true else v25) fun v26=>
 bif v26 then(lJ (lJ (some false)))else(aJy (IntKind.i64.wrap (p17.2.2.2.2.2.2.2.2+1)) fun v27=>
 tN (p17.1,p17.2.1,p17.2.2.1,p17.2.2.2.1,p17.2.2.2.2.1,p17.2.2.2.2.2.1,p17.2.2.2.2.2.2.1,p17.2.2.2.2.2.2.2.1,v27)))else(lJ (j15 (p17.1,p17.2.1,p17.2.2.1,p17.2.2.2.1,p17.2.2.2.2.1,p17.2.2.2.2.2.1)))) (p2.1,p2.2.1,v7,p2.2.2.1,p2.2.2.2.1,p2.2.2.2.2,v7.2,(aJO v7.2),0)))else(lJ (j1 p2.2.1))) (a0,0,a0,(aJO a0),0):=by kernel_rfl
theorem e84(N:Nat)(a0:Int):n84 (N+1) a0=
 aJy (decide (a0<=4294967295)) fun v0=>
 aJy (bif (decide (a0>=1))then v0 else false) fun v1=>
 some v1:=by kernel_rfl
end Go.Proofs.YtgfmodmeimhhpaaGreatDoor.Z
namespace Go.Proofs.YtgfmodmeimhhpaaGreatDoor.Z
open Go.VM
set_option maxRecDepth 100000
abbrev Ow:World->Prop:=fun _=>True
theorem tableOk:rJ Ow Tryz.prog FT:=by intro f e h;unfold FT at h;split at h;cases h;exact⟨Tryz.f8,hh8,Tryz.func8,tab8⟩;cases h;exact⟨Tryz.f10,hh10,Tryz.func10,tab10⟩;cases h;exact⟨Tryz.f39,hh39,Tryz.func39,tab39⟩;cases h;exact⟨Tryz.f63,hh63,Tryz.func63,tab63⟩;cases h;exact⟨Tryz.f64,hh64,Tryz.func64,tab64⟩;cases h;exact⟨Tryz.f65,hh65,Tryz.func65,tab65⟩;cases h;exact⟨Tryz.f66,hh66,Tryz.func66,tab66⟩;cases h;exact⟨Tryz.f72,hh72,Tryz.func72,tab72⟩;cases h;exact⟨Tryz.f73,hh73,Tryz.func73,tab73⟩;cases h;exact⟨Tryz.f74,hh74,Tryz.func74,tab74⟩;cases h;exact⟨Tryz.f75,hh75,Tryz.func75,tab75⟩;cases h;exact⟨Tryz.f76,hh76,Tryz.func76,tab76⟩;cases h;exact⟨Tryz.f83,hh83,Tryz.func83,tab83⟩;cases h;exact⟨Tryz.f84,hh84,Tryz.func84,tab84⟩;cases h
theorem neOk:∀f,aKG sgN vsN FT f (TN f):=by intro f;unfold TN;split;exact⟨rfl,chk8⟩;exact⟨rfl,chk10⟩;exact⟨rfl,chk39⟩;exact⟨rfl,chk63⟩;exact⟨rfl,chk64⟩;exact⟨rfl,chk65⟩;exact⟨rfl,chk66⟩;exact⟨rfl,chk72⟩;exact⟨rfl,chk73⟩;exact⟨rfl,chk74⟩;exact⟨rfl,chk75⟩;exact⟨rfl,chk76⟩;exact⟨rfl,chk83⟩;exact⟨rfl,chk84⟩;trivial
theorem sigOk(f:Nat):aAW FT f=vsN f:=by
 unfold vsN;split;exact sig8;exact sig10;exact sig39;exact sig63;exact sig64;exact sig65;exact sig66;exact sig72;exact sig73;exact sig74;exact sig75;exact sig76;exact sig83;exact sig84;rename_i h8 h10 h39 h63 h64 h65 h66 h72 h73 h74 h75 h76 h83 h84;have e:FT f=none:=by unfold FT;split;exact(h8 rfl).elim;exact(h10 rfl).elim;exact(h39 rfl).elim;exact(h63 rfl).elim;exact(h64 rfl).elim;exact(h65 rfl).elim;exact(h66 rfl).elim;exact(h72 rfl).elim;exact(h73 rfl).elim;exact(h74 rfl).elim;exact(h75 rfl).elim;exact(h76 rfl).elim;exact(h83 rfl).elim;exact(h84 rfl).elim;rfl
 unfold aAW;rw[e]
theorem typed:∀N f,aF7 (aAW FT) (call FT N) f (nfN TN N f):=aIr sigOk neOk
end Go.Proofs.YtgfmodmeimhhpaaGreatDoor.Z
namespace Go.VM
abbrev tySg:Ty:=.st (.pair .bool (.sl (.int .i64)))
abbrev tyAd:Ty:=.st (.pair .bool (.pair (.int .u64) (.int .u64)))
abbrev a4H:Ty:=.st (.pair (.int .i64) (.int .i64))
abbrev a4I:Ty:=.st (.pair (.int .i64) (.pair (.int .i64) (.int .i64)))
abbrev tyUn:Ty:=.st (.pair (.int .i64) (.pair (.int .i64) (.sl (.int .u8))))
abbrev a0t:Ty:=.st (.pair (.int .i64) (.pair (.sl tySg) (.pair tyAd (.pair (.int .i64) (.pair (.int .i64) (.pair (.int .i64) (.pair (.sl a4H) (.pair (.sl a4I) (.sl tyUn)))))))))
abbrev Seg:=Bool×List Int
abbrev Unk:=Int×Int×List Int
abbrev a0s:=Int×List Seg×(Bool×Int×Int)×Int×Int×Int×List (Int×Int)×List (Int×Int×Int)×List Unk
def a0o(a:a0s):List (Int×Int):=a.2.2.2.2.2.2.1
def a0f(a:a0s):List (Int×Int×Int):=a.2.2.2.2.2.2.2.1
def a0r(a:a0s):List Unk:=a.2.2.2.2.2.2.2.2
def smA(a:a0s):Bool:=decide (a.2.1.length<=100000)&&(a.2.1.all fun s=>decide (s.2.length<=100000))&&decide ((a0o a).length<=100000)&&decide ((a0f a).length<=100000)&&decide ((a0r a).length<=100000)&&(a0r a).all fun u=>decide (u.2.2.length<=100000)
structure SmA(a:a0s):Prop where
 path:a.2.1.length<=100000
 seg:∀s∈a.2.1,s.2.length<=100000
 comm:(a0o a).length<=100000
 large:(a0f a).length<=100000
 other:(a0r a).length<=100000
 data:∀u∈a0r a,u.2.2.length<=100000
theorem a2X{a:a0s}:smA a=true↔SmA a:=by unfold smA;simp only[Bool.and_eq_true,decide_eq_true_eq,List.all_eq_true];exact⟨fun⟨⟨⟨⟨⟨h1,h2⟩,h3⟩,h4⟩,h5⟩,h6⟩=>⟨h1,h2,h3,h4,h5,h6⟩,fun h=>⟨⟨⟨⟨⟨h.path,h.seg⟩,h.comm⟩,h.large⟩,h.other⟩,h.data⟩⟩
def a0H(own:Int)(a:a0s):a0s:=(a.1,a.2.1,a.2.2.1,a.2.2.2.1,a.2.2.2.2.1,a.2.2.2.2.2.1,(a0o a).filter (fun c=>!(c.1==0||c.1==own)),(a0f a).filter (fun c=>!(c.1==own)),a0r a)
def a1O(x:Int×a0s):Option a0s:=if smA x.2=true then some (a0H x.1 x.2)else none
end Go.VM
namespace Go.Proofs.YtgfmodmeimhhpaaGreatDoor.Z
open Go.VM
theorem list78(N:Nat){l:List Int}(h:l.length<=100000):n73 (N+1) l=some l:=by rw[e73,aJm (by simp;omega) (by simp;omega)];simp
theorem list79(N:Nat){l:List Int}(h:l.length<=100000):n74 (N+1) l=some l:=by rw[e74,aJm (by simp;omega) (by simp;omega)];simp
theorem list80(N:Nat){l:List (Int×Int)}(h:l.length<=100000):n75 (N+1) l=some l:=by rw[e75,aJm (by simp;omega) (by simp;omega)];simp
theorem list81(N:Nat){l:List (Int×Int×Int)}(h:l.length<=100000):n76 (N+1) l=some l:=by rw[e76,aJm (by simp;omega) (by simp;omega)];simp
theorem a4Z{α:Type}{l:List α}{i:Nat}(h:i<l.length):l.take i++[l[i]]=l.take (i+1):=(List.take_succ_eq_append_getElem h).symm
theorem clone_ok{a:a0s}(h:SmA a){N:Nat}(hN:100010<=N):n39 (N+1) a=some a:=by
 obtain⟨h1,h2,h3,h4,h5,h6⟩:=h;obtain⟨o,path,ad,md,pr,oc,cm,lg,ot⟩:=a;simp only[a0o,a0f,a0r]at h1 h2 h3 h4 h5 h6;obtain⟨N,rfl⟩:∃k,N=k+1:=⟨N-1,by omega⟩;have key:Ok (n39 (N+1+1) (o,path,ad,md,pr,oc,cm,lg,ot)) fun r=>r=(o,path,ad,md,pr,oc,cm,lg,ot):=by
  rw[e39];refine a0a (a0a (a0h (fun p=>p.1=(o,path,ad,md,pr,oc,cm,lg,([]:List Unk))/\p.2.2=ot) (fun p hp=>?_) fun g hg=>?_));obtain⟨p1,p2,p3⟩:=p;obtain⟨e1,e2⟩:=hp;simp only at e1 e2;subst e1;subst e2;refine a0h (fun p=>p.1=(o,path,ad,md,pr,oc,cm,lg,p3)) (fun p hp=>?_) fun g hg=>?_
  obtain⟨p1,p2⟩:=p;simp only at hp;subst hp;exact a0b (list80 N h3) (a0b (list81 N h4) (a0e rfl));refine a0v (fun i q=>q.1=(o,path,ad,md,pr,oc,cm,lg,p3.take i)/\q.2.2.1=p3/\q.2.2.2.1=(p3.length:Int)/\q.2.2.2.2=(i:Int)/\i<=p3.length) p3.length (fun i q hq=>?_) ⟨by simp,rfl,rfl,rfl,Nat.zero_le _⟩ (by omega);obtain⟨q1,q2,q3,q4,q5⟩:=q;obtain⟨e1,e2,e3,e4,e5⟩:=hq;simp only at e1 e2 e3 e4;subst e1;subst e2;subst e3;subst e4;refine a0a (a0n (fun hc=>?_) fun hc=>?_);have hlt:i<q3.length:=by simpa using hc
  refine a0b (aJo hlt) (a0b (list79 N (h6 _ (List.getElem_mem hlt))) (a0a (a0b (aJm (by simp;omega) (by simp;omega)) (a0c (wv ((i:Int)+1) rfl (by omega) (by omega)) (a0q hlt ⟨?_,rfl,rfl,by simp,hlt⟩)))));show(o,path,ad,md,pr,oc,cm,lg,q3.take i++[(q3[i].1,q3[i].2.1,q3[i].2.2)])=_;rw[a4Z hlt];have:i=q3.length:=by simp at hc;omega
  subst this;exact a0k (hg _ (by simp));refine a0v (fun i q=>q.1=(o,path.take i,ad,md,pr,oc,cm,lg,([]:List Unk))/\q.2.2.1=ot/\q.2.2.2.1=path/\q.2.2.2.2.1=(path.length:Int)/\q.2.2.2.2.2=(i:Int)/\i<=path.length) path.length (fun i q hq=>?_) ⟨by simp,rfl,rfl,rfl,rfl,Nat.zero_le _⟩ (by omega);obtain⟨q1,q2,q3,q4,q5,q6⟩:=q;obtain⟨e1,e2,e3,e4,e5,e6⟩:=hq;simp only at e1 e2 e3 e4 e5;subst e1;subst e2;subst e3;subst e4;subst e5;refine a0a (a0n (fun hc=>?_) fun hc=>?_);have hlt:i<q4.length:=by simpa using hc
  refine a0b (aJo hlt) (a0b (list78 N (h2 _ (List.getElem_mem hlt))) (a0a (a0b (aJm (by simp;omega) (by simp;omega)) (a0c (wv ((i:Int)+1) rfl (by omega) (by omega)) (a0q hlt ⟨?_,rfl,rfl,rfl,by simp,hlt⟩)))));show(o,q4.take i++[(q4[i].1,q4[i].2)],ad,md,pr,oc,cm,lg,([]:List Unk))=_;rw[a4Z hlt];have:i=q4.length:=by simp at hc;omega
  subst this;exact a0k (hg _ ⟨by simp,rfl⟩)
 obtain⟨r,hr,rfl⟩:=key;exact hr
end Go.Proofs.YtgfmodmeimhhpaaGreatDoor.Z
namespace Go.Proofs.YtgfmodmeimhhpaaGreatDoor
open Go.VM
set_option maxRecDepth 10000
abbrev Dk:=List Int×Int
def DK(d:Dk):Prop:=0<=d.2/\d.2<=d.1.length/\d.1.length<=9223372036854775807
def dkB(d:Dk):Bool:=decide (0<=d.2)&&decide (d.2<=d.1.length)&&decide (d.1.length<=9223372036854775807)
theorem a6f{d:Dk}:dkB d=true↔DK d:=by unfold dkB DK;rw[Bool.and_eq_true,Bool.and_eq_true,decide_eq_true_eq,decide_eq_true_eq,decide_eq_true_eq,and_assoc]
def nx(d:Dk)(b:Int):Int×Dk:=if(d.1.length:Int)<=d.2 then(0,d)else(d.1.getD d.2.toNat 0%b,(d.1,d.2+1))
theorem a1E{d:Dk}(h:DK d)(b:Int):DK (nx d b).2:=by unfold nx;split;exact h;obtain⟨h1,h2,h3⟩:=h;exact⟨by show 0<=d.2+1;omega,by show d.2+1<=(d.1.length:Int);omega,h3⟩
theorem a0I(d:Dk)(b:Int):(nx d b).2.1=d.1:=by unfold nx;split<;>rfl
theorem a3y(d:Dk){b:Int}(hb:0<b):0<=(nx d b).1/\(nx d b).1<b:=by unfold nx;split;exact⟨Int.le_refl _,hb⟩;exact⟨Int.emod_nonneg _ (by omega),Int.emod_lt_of_pos _ hb⟩
namespace Z
theorem mod_eq(N:Nat){a b:Int}(hb:0<b)(hb2:b<=9223372036854775807):n10 (N+1) (a,b)=some (a%b):=by
 rw[e10];have h0:b≠0:=by omega
 simp only[↓aKO,h0,if_false,aKI,aJY,aJz,decide_eq_true_eq];have h1:=Int.mul_tdiv_add_tmod a b;have h2:=Int.tmod_lt_of_pos a hb;have h3:=Int.lt_tmod_of_pos a hb;have h4:a%b=a.tmod b%b:=by conv=>lhs;rw[<-h1,Int.add_comm,Int.add_mul_emod_self_left]
 by_cases hn:a.tmod b<0;rw[if_pos hn,pV (by omega) (by omega),h4];rw[<-Int.add_emod_right,Int.emod_eq_of_lt (by omega) (by omega)];rw[if_neg hn,h4,Int.emod_eq_of_lt (by omega) (by omega)]
theorem next_eq(N:Nat){d:Dk}(hd:DK d){b:Int}(hb:0<b)(hb2:b<=9223372036854775807):n8 (N+2) (d,b)=some (nx d b):=by
 obtain⟨l,i⟩:=d;obtain⟨h1,h2,h3⟩:=hd;simp only at h1 h2 h3;rw[e8];unfold nx;simp only[↓aKO,aJz,decide_eq_true_eq,aJO,ge_iff_le];by_cases hi:(l.length:Int)<=i;rw[if_pos hi,if_pos hi];rw[if_neg hi,if_neg hi,pV (n:=i+1) (by omega) (by omega),pV (n:=i+1-1) (by omega) (by omega)];obtain⟨n,rfl⟩:=Int.eq_ofNat_of_zero_le h1;have hn:n<l.length:=by omega
 rw[show(n:Int)+1-1=(n:Int) by omega,aJo (l:=l) (n:=n) hn];simp only[↓aKO,aKI,mod_eq N (a:=l[n]) hb hb2];rw[show((n:Int)).toNat=n from rfl,List.getD,List.getElem?_eq_getElem hn];rfl
def allC:List (Int×Int):=[(0,99),(0,101),(0,102),(99,101),(99,103),(500,1),(65535,666),(65535,65282)]
def allL:List (Int×Int×Int):=[(5,5,5),(99,0,0),(99,0,103),(99,1,102),(99,101,0),(99,102,104),(99,103,101)]
theorem comm_ok(N:Nat)(hN:20<N){d:Dk}(hd:DK d):Ok (n65 (N+3) d) fun r=>r.1.Sublist allC/\r.2.1=d.1/\DK r.2:=by
 rw[e65];refine a0a (a0b (next_eq (N:=N) hd (by decide) (by decide)) (a0h (fun r=>r.1.Sublist allC/\r.2.1=d.1/\DK r.2) (fun p hp=>a0e hp) fun g hg=>?_));refine a0v (fun i q=>q.1.Sublist (allC.take i)/\q.2.2.1=allC/\q.2.2.2.1=8/\q.2.2.2.2.1=(i:Int)/\i<=8/\q.2.2.2.2.2.1=d.1/\DK q.2.2.2.2.2) 8 (fun i q ⟨q1,q2,q3,q4,q5,q6,q7⟩=>?_) ⟨List.nil_sublist _,rfl,rfl,rfl,Nat.zero_le _,a0I _ _,a1E hd _⟩ (by omega);refine a0a (a0n (fun hc=>?_) fun hc=>?_);have hi:i<8:=by have:=of_decide_eq_true hc;omega
 have hsub:∀{l:List (Int×Int)},l.Sublist (allC.take i)->l.Sublist (allC.take (i+1)):=fun h=>h.trans (List.take_sublist_take_left (by omega))
 refine a0h (fun p=>p.1.Sublist (allC.take (i+1))/\p.2.2.1=allC/\p.2.2.2.1=8/\p.2.2.2.2.1=(i:Int)/\p.2.2.2.2.2.1=d.1/\DK p.2.2.2.2.2) (fun p ⟨p1,p2,p3,p4,p5,p6⟩=>?_) fun g1 hg1=>?_
 exact a0c (w:=((i+1:Nat):Int)) (wv _ (by rw[p4];rfl) (by omega) (by omega)) (a0q hi ⟨p1,p2,p3,rfl,hi,p5,p6⟩);rw[q2,q4];refine a0b (aJo (l:=allC) hi) (a0c (w:=((2*i:Nat):Int)) (wv _ (by omega) (by omega) (by omega)) (a0d (P:=fun _=>True) ?_ fun v _=>a0a (a0a (a0d (P:=fun r=>r.2.1=d.1/\DK r.2) ?_ fun r ⟨r1,r2⟩=>a0a (a0a ?_)))));have hu:IntKind.u64.wrap ((2*i:Nat):Int)=((2*i:Nat):Int):=by rw[IntKind.wrap_u64];omega
 rw[hu,if_neg (by omega)];exact a0e trivial;refine a0n (fun _=>ok_eq (next_eq (N:=N) q7 (by decide) (by decide)) ⟨(a0I _ _).trans q6,a1E q7 _⟩) fun _=>a0e ⟨q6,q7⟩
 refine a0h (fun p=>p.1.Sublist (allC.take (i+1))/\p.2.2.1=allC/\p.2.2.2.1=8/\p.2.2.2.2.1=(i:Int)/\p.2.2.2.2.2.1=d.1/\DK p.2.2.2.2.2) (fun p hp=>hg1 _ hp) fun g2 hg2=>a0n (fun _=>?_) fun _=>hg2 _ ⟨hsub q1,rfl,q3,rfl,r1,r2⟩
 have hl:=q1.length_le;rw[List.length_take]at hl;refine a0b (aJm (by simp;omega) (by simp;omega)) (hg2 _ ⟨?_,rfl,q3,rfl,r1,r2⟩);show(q.1++[_]).Sublist _;rw[List.take_succ_eq_append_getElem (show i<allC.length from hi)];exact q1.append (List.Sublist.refl _)
 · have : i = 8 := by
     have:¬q.2.2.2.2.1<q.2.2.2.1:=of_decide_eq_false hc;omega
   subst this;exact a0k (hg _ ⟨by have:=q1;rwa [List.take_of_length_le (by decide)]at this,q6,q7⟩)
theorem large_ok(N:Nat)(hN:20<N){d:Dk}(hd:DK d):Ok (n66 (N+3) d) fun r=>r.1.Sublist allL/\r.2.1=d.1/\DK r.2:=by
 rw[e66];refine a0a (a0b (next_eq (N:=N) hd (by decide) (by decide)) (a0h (fun r=>r.1.Sublist allL/\r.2.1=d.1/\DK r.2) (fun p hp=>a0e hp) fun g hg=>?_));refine a0v (fun i q=>q.1.Sublist (allL.take i)/\q.2.2.1=allL/\q.2.2.2.1=7/\q.2.2.2.2.1=(i:Int)/\i<=7/\q.2.2.2.2.2.1=d.1/\DK q.2.2.2.2.2) 7 (fun i q ⟨q1,q2,q3,q4,q5,q6,q7⟩=>?_) ⟨List.nil_sublist _,rfl,rfl,rfl,Nat.zero_le _,a0I _ _,a1E hd _⟩ (by omega);refine a0a (a0n (fun hc=>?_) fun hc=>?_);have hi:i<7:=by have:=of_decide_eq_true hc;omega
 have hsub:∀{l:List (Int×Int×Int)},l.Sublist (allL.take i)->l.Sublist (allL.take (i+1)):=fun h=>h.trans (List.take_sublist_take_left (by omega))
 refine a0h (fun p=>p.1.Sublist (allL.take (i+1))/\p.2.2.1=allL/\p.2.2.2.1=7/\p.2.2.2.2.1=(i:Int)/\p.2.2.2.2.2.1=d.1/\DK p.2.2.2.2.2) (fun p ⟨p1,p2,p3,p4,p5,p6⟩=>?_) fun g1 hg1=>?_
 exact a0c (w:=((i+1:Nat):Int)) (wv _ (by rw[p4];rfl) (by omega) (by omega)) (a0q hi ⟨p1,p2,p3,rfl,hi,p5,p6⟩);rw[q2,q4];refine a0b (aJo (l:=allL) hi) (a0c (w:=((2*i:Nat):Int)) (wv _ (by omega) (by omega) (by omega)) (a0d (P:=fun _=>True) ?_ fun v _=>a0a ?_));have hu:IntKind.u64.wrap ((2*i:Nat):Int)=((2*i:Nat):Int):=by rw[IntKind.wrap_u64];omega
 rw[hu,if_neg (by omega)];exact a0e trivial;refine a0h (fun p=>p.1.Sublist (allL.take (i+1))/\p.2.2.1=allL/\p.2.2.2.1=7/\p.2.2.2.2.1=(i:Int)/\p.2.2.2.2.2.1=d.1/\DK p.2.2.2.2.2) (fun p hp=>hg1 _ hp) fun g2 hg2=>a0n (fun _=>a0a ?_) fun _=>hg2 _ ⟨hsub q1,rfl,q3,rfl,q6,q7⟩
 have hl:=q1.length_le;rw[List.length_take]at hl;refine a0b (aJm (by simp;omega) (by simp;omega)) (hg2 _ ⟨?_,rfl,q3,rfl,q6,q7⟩);show(q.1++[_]).Sublist _;rw[List.take_succ_eq_append_getElem (show i<allL.length from hi)];exact q1.append (List.Sublist.refl _)
 · have : i = 7 := by
     have:¬q.2.2.2.2.1<q.2.2.2.1:=of_decide_eq_false hc;omega
   subst this;exact a0k (hg _ ⟨by have:=q1;rwa [List.take_of_length_le (by decide)]at this,q6,q7⟩)
end Z
end Go.Proofs.YtgfmodmeimhhpaaGreatDoor
