/- The functions that the laws reach: how they are compiled and read. Definitions alone. -/
import Derived.KernelRfl
import Derived.Test.YtgfmodmeimhhpaaGreatDoorJE
noncomputable section
namespace Go.Proofs.YtgfmodmeimhhpaaGreatDoor
open Go.VM
set_option maxRecDepth 100000
abbrev t0:Ty:=.pair .bool (.sl (.int .i64))
abbrev t1:Ty:=.pair (.int .u64) (.int .u64)
abbrev t2:Ty:=.st (.pair .bool t1)
abbrev t3:Ty:=.pair (.int .i64) (.int .i64)
abbrev t4:Ty:=.pair (.int .i64) t3
abbrev t5:Ty:=.pair (.int .i64) (.sl (.int .u8))
abbrev t6:Ty:=.pair (.int .i64) t5
abbrev t7:Ty:=.pair (.sl (.st t4)) (.sl (.st t6))
abbrev t8:Ty:=.pair (.sl (.st t3)) t7
abbrev t9:Ty:=.pair (.int .i64) t8
abbrev t10:Ty:=.pair (.int .i64) t9
abbrev t11:Ty:=.pair (.int .i64) t10
abbrev t12:Ty:=.pair (.sl (.st t0)) (.pair t2 t11)
abbrev t13:Ty:=.pair (.int .i64) t12
abbrev t14:Ty:=.pair (.sl (.int .i64)) (.int .i64)
abbrev t15:Ty:=.pair t2 (.int .i64)
abbrev t16:Ty:=.pair (.int .i64) (.st t13)
abbrev t17:Ty:=.pair (.st t15) t16
abbrev t18:Ty:=.pair (.sl (.int .i64)) (.sl (.st t3))
abbrev t19:Ty:=.pair (.int .i64) t18
abbrev t20:Ty:=.pair .bool t19
abbrev t21:Ty:=.pair .bool t20
abbrev t22:Ty:=.pair .bool t21
abbrev t23:Ty:=.pair (.int .i64) t22
abbrev t24:Ty:=.pair .bool (.int .i64)
abbrev t25:Ty:=.pair .bool t24
abbrev t26:Ty:=.pair .bool t25
abbrev t27:Ty:=.pair .bool t26
abbrev t28:Ty:=.pair (.int .i64) t4
abbrev t29:Ty:=.pair (.int .i64) t28
def q:Nat->List SY->List (Nat×SY)
 |_,[]=>[]|n,s::r=>(n,s)::q (n+1) r
abbrev y0:SY:=.d .bool
abbrev y1:SY:=.d (.int .i64)
abbrev y2:SY:=.d (.sl (.int .i64))
abbrev y3:SY:=.d (.sl (.st t3))
abbrev y4:SY:=.d (.sl (.st t0))
abbrev y5:SY:=.d (.int .u64)
abbrev y6:SY:=.d (.st t3)
abbrev y7:SY:=.ptr 200000 0
abbrev y8:SY:=.d (.sl (.st t4))
abbrev y9:SY:=.d (.st t13)
abbrev y10:SY:=.d (.st t4)
abbrev y11:SY:=.d (.st t17)
abbrev y12:SY:=.d t2
abbrev y13:SY:=.rp 1 0
abbrev y14:SY:=.rp 4 5
abbrev y15:SY:=.rp 5 0
abbrev y16:SY:=.rp 5 1
abbrev y17:SY:=.d (.sl (.st t6))
abbrev y18:SY:=.rp 1 1
abbrev y19:SY:=.reg (.st t3)
abbrev y20:SY:=.reg (.st t4)
abbrev y21:SY:=.d (.st t15)
abbrev y22:SY:=.rp 3 0
abbrev y23:SY:=.d (.st t23)
abbrev y24:SY:=.rp 6 5
abbrev y25:SY:=.reg (.st t13)
abbrev y26:SY:=.ep (.st t0) 0 (some (0,none))
abbrev y27:SY:=.reg (.st t17)
abbrev y28:SY:=.d (.st t0)
abbrev y29:SY:=.rp 4 0
abbrev y30:SY:=.rp 1 10
abbrev y31:SY:=.d (.sl (.int .u8))
abbrev y32:SY:=.rp 4 4
abbrev y33:SY:=.reg (.st t0)
abbrev y34:SY:=.rp 4 1
abbrev y35:SY:=.rp 1 2
abbrev y36:SY:=.rp 2 1
abbrev y37:SY:=.ptr 100015 0
abbrev y38:SY:=.box (.st t14)
abbrev y39:SY:=.reg (.st t23)
abbrev y40:SY:=.tup [.st t17,.int .i64,.int .i64]
abbrev y41:SY:=.clo 67 [100004]
abbrev y42:SY:=.clo 69 [100004,100003]
abbrev y43:SY:=.ep (.int .i64) 0 (some (0,none))
abbrev y44:SY:=.reg (.st t15)
abbrev y45:SY:=.ep (.st t3) 0 (some (0,none))
abbrev y46:SY:=.ep (.st t4) 0 (some (0,none))
abbrev y47:SY:=.ptr 200000 1
abbrev y48:SY:=.d (.st t27)
abbrev y49:SY:=.d (.st t6)
abbrev y50:SY:=.ep (.int .i64) 0 (some (5,some 1))
abbrev y51:SY:=.reg (.st t27)
abbrev y52:SY:=.box (.st t13)
abbrev y53:SY:=.ep (.st t3) 0 (some (1,some 6))
abbrev y54:SY:=.tup [.sl (.st t0),.int .i64]
abbrev y55:SY:=.tup [.st t13,.int .i64]
abbrev y56:SY:=.ep (.st t6) 0 (some (1,some 10))
abbrev y57:SY:=.ep (.int .i64) 0 (some (1,some 5))
abbrev y58:SY:=.tup [.int .u64,.int .u64]
abbrev y59:SY:=.ep (.st t6) 0 (some (0,none))
def hh5:Hints:=⟨[],[(4,.r 4),(5,.r 5),(6,.r 6),(41,.r 6),(46,.e []),(10,.r 10),(48,.r 10),(52,.r 10),(58,.r 6),(63,.e []),(12,.r 12),(65,.r 12),(70,.r 6),(74,.r 4),(78,.r 6),(83,.r 6),(89,.r 6),(95,.r 6),(98,.r 4),(104,.r 6),(107,.r 4),(113,.r 6),(116,.r 4),(129,.r 6),(131,.r 4),(136,.r 6),(138,.r 4),(143,.r 4),(145,.r 5),(151,.r 4),(153,.r 5)],[],[29,39,72,76,80,155],[],[]⟩
def vf5:VF:=aKN Tryz.prog hh5 [0,2,3,4,5,6,7,8,10,12,13,38,42,43,44,45,55,59,60,61,62,67] [] Tryz.f5
def fi5:FI:=⟨q 0 [y2]++q 2 [y0]++q 14 [y2,y37]++q 100015 [y38]++q 3 [y37]++q 16 [y37,y37,y1,y1,y11,y37,y37,y1,y1,y23]++q 4 [y27,y39]++q 27 [y11,y23,y40]++q 26 [y40]++q 30 [y11,y1,y1]++q 6 [y27,y1,y1]++q 33 [y1,y0,y0,y1,y0,y0,y0,y24,.rp 6 13,y3,y1,y1,y0,.ep (.st t3) 0 (some (6,some 13)),y6]++q 10 [y19]++q 48 [.rp 10 0,y1,y0,y0,.rp 10 0,y1,y0,y0,y1,y24,.rp 6 14,y8,y1,y1,y0,.ep (.st t4) 0 (some (6,some 14)),y10]++q 12 [y20]++q 65 [.rp 12 0,y1,y0,y1,y24,.rp 6 6,y4,y1,y14,.rp 4 6,y4,y1,y1]++q 13 [y1]++q 78 [y24,y9,y0,y0,y24,.rp 6 12,y1,y0,y0,y0,y24,.rp 6 11,y1,y0,y0,y0,y24,.rp 6 7,y12,y14,.rp 4 7,y12,y0,y0,y0,y24,y24,y1,y14,y14,y1,y0,y0,y0,y24,.rp 6 10,y1,y14,.rp 4 10,y1,y0,y0,y0,y1,y0,y0,y0,y1,y0,y0,y0,.rp 6 4,y1,y32,y1,y0,y0,y0,.rp 6 0,y21,y29,y21,y0,y0,y0,y32,y1,y15,y1,y0,y0,y0,y14,.rp 4 6,y4,y15,y1,y0,y0,y0],[.n,.j [4,5,6],.l [4,5,6,42,43,44] none,.n,.n,.n,.j [4,5,6],.l [4,5,6,59,60,61] none,.n,.n,.n]⟩
def hh6:Hints:=⟨[5],[],[],[],[],[]⟩
def vf6:VF:=aKN Tryz.prog hh6 [0,2] [] Tryz.f6
def fi6:FI:=⟨q 0 [y2]++q 3 [y2,.d (.st t14),.ptr 100005 0]++q 100005 [y38]++q 2 [.ptr 100005 0],[]⟩
def hh7:Hints:=⟨[],[(4,.r 4),(5,.r 5),(13,.r 5)],[],[],[],[]⟩
def vf7:VF:=aKN Tryz.prog hh7 [0,1,4,5] [] Tryz.f7
def fi7:FI:=⟨q 0 [y7]++q 200000 [y38]++q 1 [y1]++q 4 [y27]++q 6 [y7,y21]++q 5 [y44]++q 8 [y21,y1,y7,y1,y15,y15,y0,y9,y11],[]⟩
def hh8:Hints:=⟨[],[(31,.e [])],[],[34],[],[]⟩
def vf8:VF:=aKN Tryz.prog hh8 [0,1,4,14] [] Tryz.f8
def fi8:FI:=⟨q 0 [y7]++q 200000 [y38]++q 1 [y1]++q 4 [y1,y7,y7,y47,y1,y7,y7,y7,y2,y1,y0,y7,y7,y47,y1,y1,y7,y47,y7,y7,y7,y2,y7,y7,y47,y1,y1,.ep (.int .i64) 0 (some (25,none)),y1,y1,y1],[.n]⟩
def hh9:Hints:=⟨[],[(4,.r 4),(5,.r 5),(16,.r 5),(19,.r 5),(25,.r 5),(32,.r 5),(40,.r 5),(50,.r 5)],[],[],[],[]⟩
def vf9:VF:=aKN Tryz.prog hh9 [0,1,4,5,6,13,14,17,20,26,34,39] [] Tryz.f9
def fi9:FI:=⟨q 0 [y7]++q 200000 [y38]++q 1 [y1]++q 4 [y39]++q 7 [y1,y7,y1,y0,y23]++q 5 [y39]++q 12 [y7,y1]++q 15 [y0]++q 14 [y0]++q 16 [y16]++q 18 [y0]++q 17 [y0]++q 19 [.rp 5 2]++q 21 [y0]++q 20 [y0]++q 22 [y7,y1,y1,.rp 5 4]++q 27 [y0]++q 26 [y0]++q 28 [y7,y1,y1,y2,.rp 5 5]++q 6 [y1]++q 33 [y1,y0]++q 37 [y7,y1,y0,.rp 5 6,y3,y1,y1,y7,y1,y1,y6,y3,y3,.rp 5 6]++q 35 [y1,y1]++q 51 [y23],[.j [4,5,200000],.j [4,5,200000],.j [4,5,200000],.j [4,5,200000],.j [4,5,200000],.j [4,5,200000],.l [4,5,6,200000] (some [(6,⟨[],none⟩),(5,⟨[(5,⟨[2048],true,true,true,true,none⟩),(6,⟨[3200],true,true,true,true,none⟩)],none⟩),(4,⟨[(5,⟨[],true,true,true,true,none⟩),(6,⟨[],true,true,true,true,none⟩)],none⟩),(0,⟨[],none⟩),(200000,⟨[],none⟩)]),.n,.j [4,5,6,200000],.j [4,5,6,200000]]⟩
def hh10:Hints:=⟨[],[],[],[],[],[]⟩
def vf10:VF:=aKN Tryz.prog hh10 [0,1,4,5,10] [] Tryz.f10
def fi10:FI:=⟨q 0 [y1,y1]++q 4 [y1]++q 6 [y1,y1,y1]++q 5 [y1]++q 9 [y1,y0,y1,y1,y1,y1],[.j [5]]⟩
def hh11:Hints:=⟨[],[(10,.r 4),(12,.r 5),(7,.r 7),(17,.r 4),(20,.r 4),(22,.r 5),(26,.r 7),(29,.r 7),(32,.r 7),(35,.r 7),(40,.r 5),(45,.r 5),(52,.r 5),(54,.r 4),(58,.r 4),(62,.r 5),(67,.r 5),(72,.r 4),(75,.r 7),(78,.r 5),(84,.r 4),(86,.r 5)],[],[14,56,60,74,88],[],[]⟩
def vf11:VF:=aKN Tryz.prog hh11 [0,1,2,4,5,6,7,8,19,25,28,31,39,51,57,66,82] [] Tryz.f11
def fi11:FI:=⟨q 0 [y1,y11,y23]++q 4 [y27,y39,y1]++q 9 [y1,y14,y9,y15,y1,y48]++q 7 [y51]++q 15 [y29,y29,y29,y0]++q 8 [y0]++q 20 [y32,y1,y15,y1,y0]++q 19 [y0]++q 26 [.rp 7 0,y0]++q 25 [y0]++q 29 [.rp 7 1,y0]++q 28 [y0]++q 32 [.rp 7 2,y0,y0,.rp 7 3,y0,y0,y0]++q 31 [y0]++q 40 [.rp 5 2,y0,y0,y0,y0]++q 39 [y0]++q 45 [y16,y0,y0,y0,y0,y0]++q 52 [.rp 5 5,y2,y32,y1,y0]++q 51 [y0]++q 58 [y14,y9,y0,y0,.rp 5 3,y0,y0,y0]++q 57 [y0]++q 67 [.rp 5 4,y1,y0,y0,y14,.rp 4 6,y4,y1,.rp 7 4,y1,y1,.rp 5 4,y1,y0,y0]++q 66 [y0]++q 83 [y14,.rp 4 6,y4,y15,y1,y0]++q 82 [y0],[.n,.n,.n,.n,.n,.j [4,5,7,39],.n,.n,.n,.n,.n]⟩
def hh13:Hints:=⟨[],[(4,.r 4)],[],[10],[],[]⟩
def vf13:VF:=aKN Tryz.prog hh13 [0,1,2,4,6] [] Tryz.f13
def fi13:FI:=⟨q 0 [y1,y9,y1]++q 4 [y25]++q 6 [y1,y1,y9,y1,y48,y1],[]⟩
def hh18:Hints:=⟨[],[(1,.r 1),(2,.r 2),(5,.r 5),(47,.r 2),(53,.r 2),(59,.r 2)],[],[20,27],[],[]⟩
def vf18:VF:=aKN Tryz.prog hh18 [0,1,2,3,4,6,7] [] Tryz.f18
def fi18:FI:=⟨q 0 [y0]++q 8 [y21,y2,y28,y4,y6,y6,y3,y9,y11]++q 1 [y27]++q 18 [y11,y23,y40]++q 17 [y40]++q 21 [y11,y1,y1]++q 2 [y27,y1,y1]++q 25 [y11,y23,y40]++q 24 [y40]++q 28 [y11,y1,y1]++q 5 [y27,y1,y1]++q 31 [y1,y0,y0,y1,y0,y0,y0,y1,y0,y0,y0,y1,y0,y0,y0,.rp 2 5,.rp 2 12,y1,y0,y0,y0,.rp 2 5,.rp 2 11,y1,y0,y0,y0,.rp 2 5,.rp 2 13,y3,y1,y0,y0],[]⟩
def hh21:Hints:=⟨[],[(4,.r 4),(5,.r 5),(6,.r 6),(18,.r 4),(24,.r 4),(30,.r 4),(52,.r 4),(54,.r 4),(57,.r 4),(59,.r 5),(70,.r 4),(13,.r 13),(74,.r 13),(75,.r 13),(86,.r 4),(88,.r 4)],[],[15,20,26,32,37,45,61,62,72,79],[],[]⟩
def vf21:VF:=aKN Tryz.prog hh21 [0,1,2,4,5,6,7,8,9,10,11,12,13,34,39,47,66,83] [] Tryz.f21
def fi21:FI:=⟨q 0 [y1,y11,y23]++q 4 [y27,y39,y27,y1,y1]++q 14 [y1,y0,y0,y0,y32,y1,y0,y0,y0,y0,y29,y21,y0,y0,y0,y0,y14,y9,y0,y0,y0,y11,y23,y1]++q 9 [y1]++q 38 [y1,y0,y11,y1,y1,y11,y23,y1]++q 10 [y1]++q 46 [y1,y0,y11,y1]++q 51 [y14,.rp 4 6,y4,y32,y1,y1,y14,y9,y15,y1,y1,y54]++q 50 [y54]++q 63 [y4,y1]++q 11 [y4,y1]++q 65 [y1,y0,y11,y1,y1,y14,y9,y9]++q 13 [y25]++q 73 [y4,.rp 13 1,.rp 13 6]++q 77 [y1,y9,y55]++q 76 [y55]++q 80 [y9,y1,y1,y0,y11,y1,y29,y21,y32,y1,y9,y11],[.n,.n,.n,.n,.n]⟩
def hh24:Hints:=⟨[],[(10,.e []),(5,.r 5),(12,.r 5),(17,.r 5)],[],[],[],[]⟩
def vf24:VF:=aKN Tryz.prog hh24 [0,2,3,5,6,7,8,9,13] [] Tryz.f24
def fi24:FI:=⟨q 0 [y4]++q 2 [y1,y1]++q 6 [y4,y1,y1,y0,y26,y28]++q 5 [y33]++q 12 [y15,y0,y1,y1,y1,y16,y2,y1,y1,y1,y1],[.j [3],.l [3,6,7,8] none,.n,.j [3,6,7,8],.j [3,6,7,8]]⟩
def hh25:Hints:=⟨[],[(5,.r 1),(11,.e []),(4,.r 4),(13,.r 4),(17,.r 4),(22,.r 4),(28,.r 4),(33,.r 4),(42,.r 1),(47,.e []),(49,.r 4),(55,.r 1),(59,.r 1),(64,.r 1),(69,.r 1),(74,.r 1),(79,.r 1),(84,.r 1),(89,.r 1),(94,.r 1),(98,.r 1),(102,.r 1),(109,.r 1),(114,.r 1),(119,.r 1)],[],[24,66,71,111,116],[],[]⟩
def vf25:VF:=aKN Tryz.prog hh25 [0,1,2,3,4,6,7,8,9,53] [] Tryz.f25
def fi25:FI:=⟨q 0 [y9,y25,y0]++q 5 [y30,y17,y1,y1,y0,y1,y56,y49]++q 4 [.reg (.st t6)]++q 3 [y1]++q 13 [y34,y1,y0,y0,y34,y1,y0,y0,y0,y34,y1,y0,y0,y0,y0,y29,y1,y0,y0,y0,.rp 4 2,y31,y1,y0,y0,y0,y1,y0,y0,y30,y17,y1,y1,y56,.ep (.st t6) 1 (some (1,some 10)),y1,y34,y1,y0,y0,y0,y1,y13,y1,y0,y0,y13,y1,y0,y0,y0,y18,y4,y0,y0,y0,y35,y12,y0,y0,y0,.rp 1 5,y1,y0,y0,y0,.rp 1 5,y1,y0,y0,y0,.rp 1 6,y1,y0,y0,y0,.rp 1 6,y1,y0,y0,y0,.rp 1 7,y1,y0,y0,.rp 1 7,y1,y0,y0,.rp 1 7,y1,y0,y0,y0,y0,y0,.rp 1 8,y3,y0,y0,y0,.rp 1 9,y8,y0,y0,y0,y30,y17,y1,y0,y0],[.j [1],.l [1,6,7,8] none,.n,.n,.n]⟩
def hh26:Hints:=⟨[],[(12,.e [])],[],[8],[],[]⟩
def vf26:VF:=aKN Tryz.prog hh26 [0,1,4,6,8,9,10,11,16] [] Tryz.f26
def fi26:FI:=⟨q 0 [y4,y1]++q 4 [y0]++q 7 [y4,y2,y1,y1,y0,.ep (.int .i64) 0 (some (8,none)),y1]++q 6 [y1]++q 14 [y1,y1,y0,y1],[.j [],.l [1,8,9,10] none,.n,.n,.n]⟩
def hh27:Hints:=⟨[],[(2,.r 2),(3,.r 3),(12,.r 3),(14,.r 3),(15,.r 3),(19,.r 3),(21,.r 3),(22,.r 3),(24,.r 3),(31,.r 3)],[],[6],[],[]⟩
def vf27:VF:=aKN Tryz.prog hh27 [0,2,3,8,9,13,16,20] [] Tryz.f27
def fi27:FI:=⟨q 0 [y7]++q 200000 [y38]++q 2 [y44]++q 4 [y7,y1,y21]++q 3 [y44]++q 7 [y7,y1]++q 10 [y0]++q 9 [y0]++q 11 [y22,y22,y0,.rp 3 3,.rp 3 3]++q 17 [y0]++q 16 [y0]++q 18 [y22,y22,y0,.rp 3 3,.rp 3 3,y22,.rp 3 2,y5,y7,y1,y5,y5,y22,.rp 3 2,y21],[.j [2,3,200000],.j [2,3,200000],.j [2,3,200000],.j [2,3,200000],.j [2,3,200000]]⟩
def hh29:Hints:=⟨[4,3],[(6,.r 6),(9,.r 9),(47,.e []),(52,.r 9),(64,.r 9)],[],[16,19,23,27,30,35,39,62],[(16,[9]),(19,[9]),(23,[9]),(26,[9]),(27,[9]),(30,[9]),(33,[9]),(35,[9]),(39,[9])],[]⟩
def vf29:VF:=aKN Tryz.prog hh29 [0,1,2,3,4,6,7,8,9,11,12,43,44,45,46,55,62] [] Tryz.f29
def fi29:FI:=⟨q 0 [y1,y9,y1,.ptr 100003 0]++q 100003 [.box (.int .i64)]++q 4 [.ptr 100004 0]++q 100004 [y52]++q 6 [y51]++q 13 [y41]++q 7 [y41]++q 14 [y42]++q 8 [y42]++q 15 [y41,y0,y41,y1,y0,y0,y42,y1,y0,y0,y41,y1,y0,y0,y42,y0,y0,y41,y1,y1,y0,y0,y42,y1,y0,y0,y48]++q 9 [y51]++q 42 [y1,y2,y1,y1,y0,.ep (.int .i64) 0 (some (43,none)),y1]++q 11 [y1,y1]++q 49 [y1,y0,y0,.rp 9 4,y1,y0,y0]++q 58 [y42,y1,y1,y1,y0,y1,.rp 9 4]++q 56 [y1,y1]++q 65 [y1,y48],[.j [6,9],.l [6,9,43,44,45,100003,100004] none,.n,.j [6,9,43,44,45,100003,100004],.j [6,9,43,44,45,100003,100004],.l [6,9,11,12,43,44,45,100003,100004] none,.n,.j [6,9,11,12,43,44,45,100003,100004],.j [6,9,11,12,43,44,45,100003,100004]]⟩
def hh30:Hints:=⟨[],[],[],[7],[],[]⟩
def vf30:VF:=aKN Tryz.prog hh30 [0,1,4] [] Tryz.f30
def fi30:FI:=⟨q 0 [y2,y1]++q 4 [y0,y2,y1,y1,y0],[]⟩
def hh31:Hints:=⟨[],[(3,.r 1)],[],[6],[],[]⟩
def vf31:VF:=aKN Tryz.prog hh31 [0,1,2] [] Tryz.f31
def fi31:FI:=⟨q 0 [y9,y25,y0,.rp 1 8,y3,y6,y0],[]⟩
def hh32:Hints:=⟨[],[(10,.e []),(5,.r 5),(12,.r 5),(17,.r 5)],[],[],[],[]⟩
def vf32:VF:=aKN Tryz.prog hh32 [0,2,3,5,6,7,8,9,13] [] Tryz.f32
def fi32:FI:=⟨q 0 [y4]++q 2 [y1,y1]++q 6 [y4,y1,y1,y0,y26,y28]++q 5 [y33]++q 12 [y15,y0,y1,y1,y1,y16,y2,y1,y1,y1,y1],[.j [3],.l [3,6,7,8] none,.n,.j [3,6,7,8],.j [3,6,7,8]]⟩
def hh33:Hints:=⟨[],[],[],[6,8],[],[]⟩
def vf33:VF:=aKN Tryz.prog hh33 [0,1,4] [] Tryz.f33
def fi33:FI:=⟨q 0 [y4,y1]++q 4 [y0,y4,y2,y1,y0],[]⟩
def hh39:Hints:=⟨[],[(1,.r 1),(2,.r 2),(9,.r 1),(11,.r 1),(13,.r 1),(14,.r 1),(19,.e []),(6,.r 6),(21,.r 1),(23,.r 6),(25,.r 6),(31,.r 1),(37,.e []),(8,.r 8),(39,.r 1),(41,.r 8),(43,.r 8),(45,.r 8),(51,.r 1),(53,.r 1),(56,.r 1),(59,.r 1),(60,.r 1)],[],[27,47,55,58],[],[]⟩
def vf39:VF:=aKN Tryz.prog hh39 [0,1,2,3,4,6,8,15,16,17,18,33,34,35,36] [] Tryz.f39
def fi39:FI:=⟨q 0 [y9,y25,y25]++q 9 [y18,y4,y30,y17]++q 3 [y4,y17]++q 13 [y18,y30,y4,y1,y1,y0,.ep (.st t0) 0 (some (3,none)),y28]++q 6 [y33]++q 21 [y18,y4,.rp 6 0,y0,.rp 6 1,y2,y2,y28,y4,y4,y18,y1,y17,y1,y1,y0,.ep (.st t6) 0 (some (4,none)),y49]++q 8 [.reg (.st t6)]++q 39 [y30,y17,.rp 8 0,y1,.rp 8 1,y1,.rp 8 2,y31,y31,y49,y17,y17,y30,y1,.rp 1 8,y3,y3,.rp 1 9,y8,y8,.rp 1 8,.rp 1 9,y9],[.j [1,2,4],.l [1,2,4,15,16,17] (some [(17,⟨[],none⟩),(16,⟨[],none⟩),(15,⟨[],some (3,none)⟩),(1,⟨[(10,⟨[],true,true,true,true,none⟩),(1,⟨[1984],true,true,true,true,none⟩)],none⟩),(4,⟨[],none⟩),(2,⟨[(1,⟨[],true,true,true,true,none⟩),(8,⟨[],true,true,true,true,none⟩),(9,⟨[],true,true,true,true,none⟩),(10,⟨[],true,true,true,true,none⟩)],none⟩)]),.n,.n,.j [1,2],.l [1,2,33,34,35] (some [(35,⟨[],none⟩),(34,⟨[],none⟩),(33,⟨[],some (4,none)⟩),(1,⟨[(10,⟨[3264],true,true,true,true,none⟩),(1,⟨[1984],true,true,true,true,none⟩)],none⟩),(2,⟨[(1,⟨[],true,true,true,true,none⟩),(8,⟨[],true,true,true,true,none⟩),(9,⟨[],true,true,true,true,none⟩),(10,⟨[],true,true,true,true,none⟩)],none⟩)]),.n,.n]⟩
def hh45:Hints:=⟨[],[],[],[],[],[]⟩
def vf45:VF:=aKN Tryz.prog hh45 [0,2] [] Tryz.f45
def fi45:FI:=⟨q 0 [y1]++q 2 [y0,y1,y0,y0,y1,y0,y0],[]⟩
def hh46:Hints:=⟨[],[(3,.r 1),(7,.r 1),(12,.r 1),(14,.r 1),(20,.r 1),(22,.r 1),(25,.r 1)],[],[5,16,24],[],[]⟩
def vf46:VF:=aKN Tryz.prog hh46 [0,1,2] [] Tryz.f46
def fi46:FI:=⟨q 0 [y21,y44,y0,y13,y12,y0,y0,.rp 1 3,y1,y0,y0,y0,.rp 1 3,y1,y13,y12,y1,y0,y0,y0,y13,y12,.rp 1 3,y1,y12,y13,y12,y0,y0],[]⟩
def hh47:Hints:=⟨[],[(3,.r 1),(7,.r 1),(12,.r 1),(17,.r 1),(22,.r 1),(27,.r 1),(31,.r 1),(37,.r 1),(42,.r 1),(47,.r 1)],[],[5,9,14,19,24,33,39,44,49],[],[]⟩
def vf47:VF:=aKN Tryz.prog hh47 [0,1,2] [] Tryz.f47
def fi47:FI:=⟨q 0 [y9,y25,y0,y13,y1,y0,y0,y18,y4,y0,y0,y0,y35,y12,y0,y0,y0,.rp 1 5,y1,y0,y0,y0,.rp 1 6,y1,y0,y0,y0,.rp 1 7,y1,y0,y0,.rp 1 7,y1,y0,y0,y0,y0,.rp 1 8,y3,y0,y0,y0,.rp 1 9,y8,y0,y0,y0,y30,y17,y0,y0],[]⟩
def hh48:Hints:=⟨[],[(7,.r 1),(12,.r 1),(17,.r 1),(22,.r 1),(28,.r 1),(33,.r 1),(39,.e []),(48,.r 1),(52,.e []),(59,.r 1),(65,.e []),(6,.r 6),(67,.r 6),(75,.r 1),(80,.e []),(82,.r 6),(88,.r 6),(93,.r 6)],[],[9,42,69],[],[]⟩
def vf48:VF:=aKN Tryz.prog hh48 [0,1,2,3,4,5,6,32,34,35,36,37,57,60,61,62,63,96] [] Tryz.f48
def fi48:FI:=⟨q 0 [y23,y39,y1]++q 7 [y13,y1,y0,y0,y0,.rp 1 4,y1,y0,y0,y0,.rp 1 4,y1,y0,y0,y0,.rp 1 5,y2,y1,y0,y0,y0,.rp 1 6,y3,y1,y0,y0,.rp 1 5,y2,y1,y1,y0,y1,y57,y1]++q 3 [y1,y1]++q 41 [y1,y0,y0,y0,y1,y0,y0,.rp 1 5,y2,y1,y1,y57,y1,y1,y0,y0,y0,y1,.rp 1 6,y3,y1,y1,y0,y1,y53,y6]++q 6 [y19]++q 5 [y1]++q 67 [.rp 6 0,y1,y0,y0,y0,y1,y0,y0,.rp 1 6,y3,y1,y1,y53,y53,y1,.rp 6 0,y1,y0,y0,y0,y0,.rp 6 1,y1,y0,y0,y0,.rp 6 1,y1,y0,y0,y1],[.n,.j [1],.l [1,34,35,36] none,.n,.n,.n,.j [],.l [1,60,61,62] none,.n,.n,.n]⟩
def hh50:Hints:=⟨[],[(5,.r 5),(6,.r 6),(20,.r 5),(10,.r 10),(47,.r 10)],[],[12,16,36],[],[]⟩
def vf50:VF:=aKN Tryz.prog hh50 [0,1,2,5,6,7,8,9,10,18,33,45] [] Tryz.f50
def fi50:FI:=⟨q 0 [y1,y1,y9]++q 5 [y25,y25,y1]++q 11 [y1,y0,y0,y0,y1,y0,y0,y0,y9,.rp 5 7,y1,y0]++q 8 [y0]++q 23 [y1,y0,y0,y1,y0,y0]++q 9 [y0]++q 29 [y0,y0,y0,y0,y0,y9,y9,y9]++q 10 [y25]++q 37 [y0,y0,y0,y0,y0,y1,y0,y0,y0,y1,.rp 10 7,y9],[.n,.n,.j [6,10]]⟩
def hh56:Hints:=⟨[],[],[],[4],[],[]⟩
def vf56:VF:=aKN Tryz.prog hh56 [0,2] [] Tryz.f56
def fi56:FI:=⟨q 0 [y1]++q 2 [y0,y1,y1,y0,y0,y1,y0,y0,y0,y1,y0,y0],[]⟩
def hh57:Hints:=⟨[],[(13,.e []),(5,.r 5),(15,.r 5),(23,.r 5),(32,.e []),(37,.r 5),(43,.e []),(52,.r 5),(59,.r 5),(63,.e []),(71,.r 5)],[],[],[],[]⟩
def vf57:VF:=aKN Tryz.prog hh57 [0,2,3,4,5,6,7,8,9,10,11,36,38,39,40,41,68] [] Tryz.f57
def fi57:FI:=⟨q 0 [y4]++q 2 [y0,y1]++q 8 [y4,y1,y1,y0,y1,y26,y28]++q 5 [y33]++q 4 [y1]++q 15 [y16,y2,y1,y0,y0,y1,y0,y0,y15,y0,y0,y0,y0,y4,y1,y1,y26,y26,y0,y0,y0,y0,y16,y2,y1,y1,y0,y1,y50,y1]++q 6 [y1,y1]++q 45 [y1,y0,y0,y1,y0,y0,y0,y15,y0,y0,y1,y0,y0,y0,y16,y2,y1,y1,y50,y1,y1,y0,y0,y0,y1,y1,y16,y2,y1,y1,y1,y1,y0],[.j [3],.l [0,3,8,9,10] none,.n,.j [0,3,8,9,10],.n,.j [0,3,5,8,9,10],.l [0,3,5,8,9,10,38,39,40] none,.n,.n,.n]⟩
def hh58:Hints:=⟨[],[(3,.r 1),(6,.r 1),(10,.r 1)],[],[],[],[]⟩
def vf58:VF:=aKN Tryz.prog hh58 [0,1,2] [] Tryz.f58
def fi58:FI:=⟨q 0 [y12,.reg t2,y0,y13,y0,y0,y18,y5,y0,y0,y35,y5,y0,y0,y0],[]⟩
def hh59:Hints:=⟨[],[(10,.e []),(4,.r 4),(22,.e [])],[],[13,25],[],[]⟩
def vf59:VF:=aKN Tryz.prog hh59 [0,2,3,4,5,6,7,8,28] [] Tryz.f59
def fi59:FI:=⟨q 0 [y3]++q 2 [y0]++q 5 [y3,y1,y1,y0,y1,y45,y6]++q 4 [y19]++q 3 [y1]++q 12 [y6,y0,y0,y0,y1,y0,y0,y3,y1,y1,y45,y6,y6,y0,y0,y0,y0,y1,y3,y1,y0],[.j [0],.l [0,5,6,7] none,.n,.n,.n]⟩
def hh60:Hints:=⟨[],[(10,.e []),(4,.r 4),(22,.e [])],[],[13,25],[],[]⟩
def vf60:VF:=aKN Tryz.prog hh60 [0,2,3,4,5,6,7,8,28] [] Tryz.f60
def fi60:FI:=⟨q 0 [y8]++q 2 [y0]++q 5 [y8,y1,y1,y0,y1,y46,y10]++q 4 [y20]++q 3 [y1]++q 12 [y10,y0,y0,y0,y1,y0,y0,y8,y1,y1,y46,y10,y10,y0,y0,y0,y0,y1,y8,y1,y0],[.j [0],.l [0,5,6,7] none,.n,.n,.n]⟩
def hh61:Hints:=⟨[],[(10,.e []),(5,.r 5),(13,.r 5)],[],[],[],[]⟩
def vf61:VF:=aKN Tryz.prog hh61 [0,2,3,5,6,7,8,9] [] Tryz.f61
def fi61:FI:=⟨q 0 [y4]++q 2 [y2,y2]++q 6 [y4,y1,y1,y0,y26,y28]++q 5 [y33]++q 12 [y2,y16,y2,y2,y1,y2],[.j [3],.l [3,6,7,8] (some [(8,⟨[],none⟩),(7,⟨[],none⟩),(6,⟨[],some (0,none)⟩),(3,⟨[(0,⟨[1024],true,true,true,true,none⟩)],none⟩)]),.n,.n]⟩
def hh62:Hints:=⟨[],[(2,.r 2)],[],[],[],[]⟩
def vf62:VF:=aKN Tryz.prog hh62 [0,2,4] [] Tryz.f62
def fi62:FI:=⟨q 0 [y1]++q 2 [y44,y1,y0,y1,y5,y5,y5,y12,y21,y1,y5,y5,y5,y12,y21],[.n]⟩
def hh67:Hints:=⟨[],[],[],[11],[],[]⟩
def vf67:VF:=aKN Tryz.prog hh67 [0,1,2,5] [] Tryz.f67
def fi67:FI:=⟨q 0 [y1,y1,.ptr 200002 0]++q 200002 [y52]++q 5 [y0,.ptr 200002 8,y3,y1,y1,y6,y0],[]⟩
def hh68:Hints:=⟨[],[(3,.r 3)],[],[7],[],[]⟩
def vf68:VF:=aKN Tryz.prog hh68 [0,1,3,4] [] Tryz.f68
def fi68:FI:=⟨q 0 [y3,y6]++q 3 [y19,y0,y3,y6,y0],[]⟩
def hh69:Hints:=⟨[],[],[],[13],[],[]⟩
def vf69:VF:=aKN Tryz.prog hh69 [0,1,2,3,6] [] Tryz.f69
def fi69:FI:=⟨q 0 [y1,y1,.ptr 200002 0]++q 200002 [y52]++q 3 [.ptr 200003 0]++q 200003 [.box (.int .i64)]++q 6 [y0,.ptr 200002 9,y8,y1,y1,y1,y10,y0],[]⟩
def hh70:Hints:=⟨[],[(3,.r 3)],[],[7],[],[]⟩
def vf70:VF:=aKN Tryz.prog hh70 [0,1,3,4] [] Tryz.f70
def fi70:FI:=⟨q 0 [y8,y10]++q 3 [y20,y0,y8,y10,y0],[]⟩
def hh71:Hints:=⟨[],[(14,.e [])],[],[],[],[]⟩
def vf71:VF:=aKN Tryz.prog hh71 [0,1,4,5,7,8,9,16] [] Tryz.f71
def fi71:FI:=⟨q 0 [y2,y1]++q 4 [y1]++q 6 [y2,y1,y1,y0,y1]++q 5 [y1]++q 11 [y1,y2,y1,y43,y1,y0,y1,y1],[.j [],.l [0,1,7,8] none,.n,.n,.n]⟩
def hh72:Hints:=⟨[],[(10,.e []),(5,.r 5),(13,.r 5)],[],[],[],[]⟩
def vf72:VF:=aKN Tryz.prog hh72 [0,2,3,5,6,7,8,9] [] Tryz.f72
def fi72:FI:=⟨q 0 [y4]++q 2 [y2,y2]++q 6 [y4,y1,y1,y0,y26,y28]++q 5 [y33]++q 12 [y2,y16,y2,y2,y1,y2],[.j [3],.l [3,6,7,8] (some [(8,⟨[],none⟩),(7,⟨[],none⟩),(6,⟨[],some (0,none)⟩),(3,⟨[(0,⟨[1024],true,true,true,true,none⟩)],none⟩)]),.n,.n]⟩
def hh73:Hints:=⟨[],[],[],[],[],[]⟩
def vf73:VF:=aKN Tryz.prog hh73 [0,2] [] Tryz.f73
def fi73:FI:=⟨q 0 [y2]++q 2 [y2,y2,y2],[]⟩
def hh74:Hints:=⟨[],[],[],[],[],[]⟩
def vf74:VF:=aKN Tryz.prog hh74 [0,2] [] Tryz.f74
def fi74:FI:=⟨q 0 [y31]++q 2 [y31,y31,y31],[]⟩
def hh75:Hints:=⟨[],[],[],[],[],[]⟩
def vf75:VF:=aKN Tryz.prog hh75 [0,2] [] Tryz.f75
def fi75:FI:=⟨q 0 [y3]++q 2 [y3,y3,y3],[]⟩
def hh76:Hints:=⟨[],[],[],[],[],[]⟩
def vf76:VF:=aKN Tryz.prog hh76 [0,2] [] Tryz.f76
def fi76:FI:=⟨q 0 [y8]++q 2 [y8,y8,y8],[]⟩
def hh79:Hints:=⟨[],[(3,.r 1),(6,.r 1),(10,.r 1)],[],[],[],[]⟩
def vf79:VF:=aKN Tryz.prog hh79 [0,1,2] [] Tryz.f79
def fi79:FI:=⟨q 0 [y12,.reg t2,y0,y13,y0,y0,y18,y5,y0,y0,y35,y5,y0,y0,y0],[]⟩
def hh80:Hints:=⟨[],[(3,.r 1)],[],[],[],[]⟩
def vf80:VF:=aKN Tryz.prog hh80 [0,1,2,4] [] Tryz.f80
def fi80:FI:=⟨q 0 [y12,.reg t2,y1,y13,y0],[.n]⟩
def hh81:Hints:=⟨[],[(2,.r 2),(4,.r 4),(15,.r 2),(19,.r 2),(20,.r 2),(24,.r 2)],[],[9,12],[],[]⟩
def vf81:VF:=aKN Tryz.prog hh81 [0,1,2,4,5,6] [] Tryz.f81
def fi81:FI:=⟨q 0 [y12,y1,.reg t2]++q 4 [.reg t2]++q 8 [y12,y1,y1,y1,y58]++q 7 [y58]++q 13 [y5,y5]++q 5 [y5,y5]++q 15 [y36,y5,y5,y5,y36,.rp 2 2,y5,y5,y5,.rp 2 2,y12],[]⟩
def hh82:Hints:=⟨[],[],[],[],[],[]⟩
def vf82:VF:=aKN Tryz.prog hh82 [0,1,2,6] [] Tryz.f82
def fi82:FI:=⟨q 0 [y1,y1,y1]++q 6 [y0,y1,y1,y0,y0,y1,y1,y0,y0],[]⟩
def hh83:Hints:=⟨[],[(13,.e []),(5,.r 5),(15,.r 5),(23,.r 5),(32,.e []),(37,.r 5),(43,.e []),(49,.r 5),(56,.r 5),(60,.e []),(68,.r 5)],[],[46],[],[]⟩
def vf83:VF:=aKN Tryz.prog hh83 [0,2,3,4,5,6,7,8,9,10,11,36,38,39,40,41,65] [] Tryz.f83
def fi83:FI:=⟨q 0 [y4]++q 2 [y0,y1]++q 8 [y4,y1,y1,y0,y1,y26,y28]++q 5 [y33]++q 4 [y1]++q 15 [y16,y2,y1,y0,y0,y1,y0,y0,y15,y0,y0,y0,y0,y4,y1,y1,y26,y26,y0,y0,y0,y0,y16,y2,y1,y1,y0,y1,y50,y1]++q 6 [y1,y1]++q 45 [y1,y0,y0,y0,y15,y0,y0,y1,y0,y0,y0,y16,y2,y1,y1,y50,y1,y1,y0,y0,y0,y1,y1,y16,y2,y1,y1,y1,y1,y0],[.j [3],.l [0,3,8,9,10] none,.n,.j [0,3,8,9,10],.n,.j [0,3,5,8,9,10],.l [0,3,5,8,9,10,38,39,40] none,.n,.n,.n]⟩
def hh84:Hints:=⟨[],[],[],[],[],[]⟩
def vf84:VF:=aKN Tryz.prog hh84 [0,2] [] Tryz.f84
def fi84:FI:=⟨q 0 [y1]++q 2 [y0,y1,y0,y0,y1,y0,y0],[]⟩
def hh85:Hints:=⟨[],[],[],[4],[],[]⟩
def vf85:VF:=aKN Tryz.prog hh85 [0,2] [] Tryz.f85
def fi85:FI:=⟨q 0 [y3]++q 2 [y0,y3,y0],[]⟩
def hh86:Hints:=⟨[],[],[],[4],[],[]⟩
def vf86:VF:=aKN Tryz.prog hh86 [0,2] [] Tryz.f86
def fi86:FI:=⟨q 0 [y8]++q 2 [y0,y8,y0],[]⟩
def hh87:Hints:=⟨[],[(10,.e []),(4,.r 4),(12,.r 4),(17,.r 4),(23,.r 4),(28,.r 4),(41,.e []),(43,.r 4)],[],[14,19],[],[]⟩
def vf87:VF:=aKN Tryz.prog hh87 [0,2,3,4,5,6,7,8,47] [] Tryz.f87
def fi87:FI:=⟨q 0 [y17]++q 2 [y0]++q 5 [y17,y1,y1,y0,y1,y59,y49]++q 4 [.reg (.st t6)]++q 3 [y1]++q 12 [y34,y1,y0,y0,y0,y34,y1,y0,y0,y0,y0,y29,y1,y0,y0,y0,.rp 4 2,y31,y1,y0,y0,y0,y1,y0,y0,y17,y1,y1,y59,.ep (.st t6) 1 (some (0,none)),y1,y34,y1,y0,y0,y0,y1,y17,y1,y0],[.j [0],.l [0,5,6,7] none,.n,.n,.n]⟩
def hh91:Hints:=⟨[],[],[],[7],[],[]⟩
def vf91:VF:=aKN Tryz.prog hh91 [0,2] [] Tryz.f91
def fi91:FI:=⟨q 0 [y1]++q 2 [y0,y1,y0,y0,y1,.d (.st t29),y1,y0,y0],[]⟩
def hh92:Hints:=⟨[],[],[],[],[],[]⟩
def vf92:VF:=aKN Tryz.prog hh92 [0,2] [] Tryz.f92
def fi92:FI:=⟨q 0 [y1]++q 2 [y0,y1,y0,y0,y1,y0,y0],[]⟩
def hh96:Hints:=⟨[],[],[],[],[],[]⟩
def vf96:VF:=aKN Tryz.prog hh96 [0,2,3,4,9,11] [] Tryz.f96
def fi96:FI:=⟨q 0 [y1]++q 2 [y1,y1]++q 5 [y0]++q 4 [y0]++q 6 [y0,y0,y0]++q 10 [y0]++q 9 [y0]++q 12 [y0]++q 11 [y0]++q 13 [y0,y0],[.n,.j [3,4],.j [3,4],.j [3,4],.n,.n,.j [11],.j [11],.n]⟩
def hh97:Hints:=⟨[],[(3,.r 1),(7,.r 1),(12,.r 1),(17,.r 1)],[],[],[],[]⟩
def vf97:VF:=aKN Tryz.prog hh97 [0,1,2] [] Tryz.f97
def fi97:FI:=⟨q 0 [y6,y19,y0,y13,y1,y0,y0,y13,y1,y0,y0,y0,y18,y1,y0,y0,y0,y18,y1,y0,y0],[]⟩
def hh98:Hints:=⟨[],[(5,.r 2),(7,.r 3),(11,.r 2),(13,.r 3),(17,.r 2),(19,.r 3)],[],[],[],[]⟩
def vf98:VF:=aKN Tryz.prog hh98 [0,1,2,3,4] [] Tryz.f98
def fi98:FI:=⟨q 0 [y6,y6,y19,y19,y0,.rp 2 0,y1,y22,y1,y0,y0,.rp 2 0,y1,y22,y1,y0,y0,y36,y1,.rp 3 1,y1,y0,y0,y0],[]⟩
def hh99:Hints:=⟨[],[(3,.r 1),(7,.r 1),(12,.r 1),(17,.r 1),(22,.r 1),(27,.r 1)],[],[],[],[]⟩
def vf99:VF:=aKN Tryz.prog hh99 [0,1,2] [] Tryz.f99
def fi99:FI:=⟨q 0 [y10,y20,y0,y13,y1,y0,y0,y13,y1,y0,y0,y0,y18,y1,y0,y0,y0,y18,y1,y0,y0,y0,y35,y1,y0,y0,y0,y35,y1,y0,y0],[]⟩
def hh100:Hints:=⟨[],[(5,.r 2),(7,.r 3),(11,.r 2),(13,.r 3),(17,.r 2),(19,.r 3),(23,.r 2),(25,.r 3),(29,.r 2),(31,.r 3)],[],[],[],[]⟩
def vf100:VF:=aKN Tryz.prog hh100 [0,1,2,3,4] [] Tryz.f100
def fi100:FI:=⟨q 0 [y10,y10,y20,y20,y0,.rp 2 0,y1,y22,y1,y0,y0,.rp 2 0,y1,y22,y1,y0,y0,y36,y1,.rp 3 1,y1,y0,y0,y36,y1,.rp 3 1,y1,y0,y0,.rp 2 2,y1,.rp 3 2,y1,y0,y0,y0,y0,y0],[]⟩
def hh101:Hints:=⟨[],[(3,.r 3)],[],[7],[],[]⟩
def vf101:VF:=aKN Tryz.prog hh101 [0,1,3,4] [] Tryz.f101
def fi101:FI:=⟨q 0 [y3,y6]++q 3 [y19,y0,y3,y6,y1,y0],[]⟩
def hh102:Hints:=⟨[],[(3,.r 3)],[],[7],[],[]⟩
def vf102:VF:=aKN Tryz.prog hh102 [0,1,3,4] [] Tryz.f102
def fi102:FI:=⟨q 0 [y8,y10]++q 3 [y20,y0,y8,y10,y1,y0],[]⟩
def hh103:Hints:=⟨[],[],[],[],[],[]⟩
def vf103:VF:=aKN Tryz.prog hh103 [0,2,3,5] [] Tryz.f103
def fi103:FI:=⟨q 0 [y1]++q 2 [y5,y5,y1,y0,y1,y1,y5,y5,y5,y1,y5,y5,y5],[.n]⟩
def hh104:Hints:=⟨[],[(14,.e []),(8,.r 8),(28,.e [])],[],[18,31],[],[]⟩
def vf104:VF:=aKN Tryz.prog hh104 [0,1,2,6,7,8,9,10,11,12,34] [] Tryz.f104
def fi104:FI:=⟨q 0 [y3,.d (.fn 105),.d (.fn 106)]++q 6 [y0]++q 9 [y3,y1,y1,y0,y1,y45,y6]++q 8 [y19]++q 7 [y1]++q 16 [.d (.fn 105),y6,y0,y0,y0,y1,y0,y0,.d (.fn 106),y3,y1,y1,y45,y6,y6,y1,y0,y0,y0,y1,y3,y1,y0],[.j [0],.l [0,9,10,11] none,.n,.n,.n]⟩
def hh105:Hints:=⟨[],[(3,.r 1),(5,.r 1)],[],[8],[],[]⟩
def vf105:VF:=aKN Tryz.prog hh105 [0,1,2] [] Tryz.f105
def fi105:FI:=⟨q 0 [y6,y19,y0,y13,y1,y18,y1,y2,y0],[]⟩
def hh106:Hints:=⟨[],[(5,.r 2),(7,.r 3),(10,.r 2),(12,.r 3)],[],[9,14,16],[],[]⟩
def vf106:VF:=aKN Tryz.prog hh106 [0,1,2,3,4] [] Tryz.f106
def fi106:FI:=⟨q 0 [y6,y6,y19,y19,y1,.rp 2 0,y1,y22,y1,y1,y36,y1,.rp 3 1,y1,y1,y2,y1],[]⟩
def hh107:Hints:=⟨[],[(14,.e []),(8,.r 8),(28,.e [])],[],[18,31],[],[]⟩
def vf107:VF:=aKN Tryz.prog hh107 [0,1,2,6,7,8,9,10,11,12,34] [] Tryz.f107
def fi107:FI:=⟨q 0 [y8,.d (.fn 108),.d (.fn 109)]++q 6 [y0]++q 9 [y8,y1,y1,y0,y1,y46,y10]++q 8 [y20]++q 7 [y1]++q 16 [.d (.fn 108),y10,y0,y0,y0,y1,y0,y0,.d (.fn 109),y8,y1,y1,y46,y10,y10,y1,y0,y0,y0,y1,y8,y1,y0],[.j [0],.l [0,9,10,11] none,.n,.n,.n]⟩
def hh108:Hints:=⟨[],[(3,.r 1),(5,.r 1),(7,.r 1)],[],[10],[],[]⟩
def vf108:VF:=aKN Tryz.prog hh108 [0,1,2] [] Tryz.f108
def fi108:FI:=⟨q 0 [y10,y20,y0,y13,y1,y18,y1,y35,y1,y2,y0],[]⟩
def hh109:Hints:=⟨[],[(5,.r 2),(7,.r 3),(10,.r 2),(12,.r 3),(15,.r 2),(17,.r 3)],[],[9,14,19,21],[],[]⟩
def vf109:VF:=aKN Tryz.prog hh109 [0,1,2,3,4] [] Tryz.f109
def fi109:FI:=⟨q 0 [y10,y10,y20,y20,y1,.rp 2 0,y1,y22,y1,y1,y36,y1,.rp 3 1,y1,y1,.rp 2 2,y1,.rp 3 2,y1,y1,y2,y1],[]⟩
def hh116:Hints:=⟨[],[(0,.r 0)],[],[],[],[]⟩
def vf116:VF:=aKN Tryz.prog hh116 [0] [] Tryz.f116
def fi116:FI:=⟨q 0 [.reg (.st t29),.d (.st t29)],[]⟩
def hh121:Hints:=⟨[],[(3,.r 3),(14,.e [])],[],[],[],[]⟩
def vf121:VF:=aKN Tryz.prog hh121 [0,1,3,4,5,7,8,9,16] [] Tryz.f121
def fi121:FI:=⟨q 0 [y3,y6]++q 3 [y19,y1]++q 6 [y3,y1,y1,y0,y1]++q 5 [y1]++q 11 [y6,y3,y1,y45,y6,y0,y1,y1],[.j [],.l [0,3,7,8] none,.n,.n,.n]⟩
def hh122:Hints:=⟨[],[(3,.r 3),(14,.e [])],[],[],[],[]⟩
def vf122:VF:=aKN Tryz.prog hh122 [0,1,3,4,5,7,8,9,16] [] Tryz.f122
def fi122:FI:=⟨q 0 [y8,y10]++q 3 [y20,y1]++q 6 [y8,y1,y1,y0,y1]++q 5 [y1]++q 11 [y10,y8,y1,y46,y10,y0,y1,y1],[.j [],.l [0,3,7,8] none,.n,.n,.n]⟩
def hh123:Hints:=⟨[],[],[],[6,10],[],[]⟩
def vf123:VF:=aKN Tryz.prog hh123 [0,1,4] [] Tryz.f123
def fi123:FI:=⟨q 0 [y1,y2]++q 4 [y0,y2,y1,y0,y0,y2,y1,y1,y0,y0],[]⟩
def hh124:Hints:=⟨[],[(10,.e [])],[],[],[],[]⟩
def vf124:VF:=aKN Tryz.prog hh124 [0,2,3,5,6,7,8,9,14] [] Tryz.f124
def fi124:FI:=⟨q 0 [y2]++q 2 [y1,y1]++q 6 [y2,y1,y1,y0,y43,y1]++q 5 [y1]++q 12 [y1,y1,y0,y1,y1,y1],[.j [3],.l [3,6,7,8] none,.n,.n,.n]⟩
def hh125:Hints:=⟨[],[],[],[8,10],[],[]⟩
def vf125:VF:=aKN Tryz.prog hh125 [0,1,4,5,6,11,12,13,16,19] [] Tryz.f125
def fi125:FI:=⟨q 0 [y1,y1]++q 4 [y1]++q 7 [y1,y0]++q 5 [y0]++q 9 [y1,y0]++q 6 [y0]++q 11 [y0,y0,y0,y1,y1,y0,y1,y1,y0],[.n,.n,.n,.n,.n]⟩
def hh129:Hints:=⟨[],[(10,.e []),(21,.e [])],[],[],[],[]⟩
def vf129:VF:=aKN Tryz.prog hh129 [0,2,3,4,7,15] [] Tryz.f129
def fi129:FI:=⟨q 0 [y2]++q 2 [y1]++q 5 [y2,y1,y0,.d .err,y2,y43,y1]++q 3 [y1,y1]++q 12 [y1,y2,y1,y0]++q 18 [y1,y2,y1,y43,y1,y1]++q 16 [y1,y1]++q 24 [y1],[.j [0],.j [3],.l [0,3,4] none,.n,.n]⟩
def hh130:Hints:=⟨[],[(10,.e []),(21,.e [])],[],[],[],[]⟩
def vf130:VF:=aKN Tryz.prog hh130 [0,2,3,4,7,15] [] Tryz.f130
def fi130:FI:=⟨q 0 [y2]++q 2 [y1]++q 5 [y2,y1,y0,.d .err,y2,y43,y1]++q 3 [y1,y1]++q 12 [y1,y2,y1,y0]++q 18 [y1,y2,y1,y43,y1,y1]++q 16 [y1,y1]++q 24 [y1],[.j [0],.j [3],.l [0,3,4] none,.n,.n]⟩
def hh131:Hints:=⟨[],[],[],[],[],[]⟩
def vf131:VF:=aKN Tryz.prog hh131 [0,2] [] Tryz.f131
def fi131:FI:=⟨q 0 [y1]++q 2 [y0,y1,y1,y0],[]⟩
def FT:Nat->Option Entry
 |5=>some (.code vf5)|6=>some (.code vf6)|7=>some (.code vf7)|8=>some (.code vf8)|9=>some (.code vf9)|10=>some (.code vf10)|11=>some (.code vf11)
 |13=>some (.code vf13)|18=>some (.code vf18)|21=>some (.code vf21)|24=>some (.code vf24)|25=>some (.code vf25)|26=>some (.code vf26)|27=>some (.code vf27)|29=>some (.code vf29)|30=>some (.code vf30)|31=>some (.code vf31)|32=>some (.code vf32)|33=>some (.code vf33)|39=>some (.code vf39)|45=>some (.code vf45)|46=>some (.code vf46)|47=>some (.code vf47)|48=>some (.code vf48)|50=>some (.code vf50)|56=>some (.code vf56)|57=>some (.code vf57)|58=>some (.code vf58)|59=>some (.code vf59)|60=>some (.code vf60)|61=>some (.code vf61)|62=>some (.code vf62)|67=>some (.code vf67)|68=>some (.code vf68)|69=>some (.code vf69)|70=>some (.code vf70)|71=>some (.code vf71)|72=>some (.code vf72)|73=>some (.code vf73)|74=>some (.code vf74)|75=>some (.code vf75)|76=>some (.code vf76)|79=>some (.code vf79)|80=>some (.code vf80)|81=>some (.code vf81)|82=>some (.code vf82)|83=>some (.code vf83)|84=>some (.code vf84)|85=>some (.code vf85)|86=>some (.code vf86)|87=>some (.code vf87)|91=>some (.code vf91)|92=>some (.code vf92)|96=>some (.code vf96)|97=>some (.code vf97)|98=>some (.code vf98)|99=>some (.code vf99)|100=>some (.code vf100)|101=>some (.code vf101)|102=>some (.code vf102)|103=>some (.code vf103)|104=>some (.code vf104)|105=>some (.code vf105)|106=>some (.code vf106)|107=>some (.code vf107)|108=>some (.code vf108)|109=>some (.code vf109)|116=>some (.code vf116)|121=>some (.code vf121)|122=>some (.code vf122)|123=>some (.code vf123)|124=>some (.code vf124)|125=>some (.code vf125)|129=>some (.code vf129)|130=>some (.code vf130)|131=>some (.code vf131)|16=>some (.prim [] (pM [.int .i64,a0t] a1O a1q))|28=>some (.primB (pD [.int .i64,.bool] a1P a0O))|49=>some (.prim [] (pH [.sl tyS,.int .i64,.int .i64] a3e a3G))|110=>some (.prim [] (pH [.int .i64] a4u a3d))|_=>none
def sgN:Nat->Sg
 |16=>⟨[.d (.int .i64),.d (.st t13)],[(.st t13,[])],none⟩|28=>⟨[.p (.st t14),.d (.int .i64),.d .bool],[(.st t13,[])],none⟩|49=>⟨[.d (.sl (.st t0)),.d (.int .i64),.d (.int .i64)],[(.sl (.st t0),[]),(.int .i64,[])],none⟩|110=>⟨[.d (.int .i64)],[(.bool,[])],none⟩|5=>⟨[.d (.sl (.int .i64))],[(.bool,[])],none⟩|6=>⟨[.d (.sl (.int .i64))],[],some (.st t14)⟩|7=>⟨[.p (.st t14),.d (.int .i64)],[(.st t17,[])],none⟩|8=>⟨[.p (.st t14),.d (.int .i64)],[(.int .i64,[])],none⟩|9=>⟨[.p (.st t14),.d (.int .i64)],[(.st t23,[(5,true),(6,true)])],none⟩|10=>⟨[.d (.int .i64),.d (.int .i64)],[(.int .i64,[])],none⟩|11=>⟨[.d (.int .i64),.d (.st t17),.d (.st t23)],[(.int .i64,[])],none⟩|13=>⟨[.d (.int .i64),.d (.st t13),.d (.int .i64)],[(.int .i64,[])],none⟩|18=>⟨[],[(.bool,[])],none⟩
 |21=>⟨[.d (.int .i64),.d (.st t17),.d (.st t23)],[(.st t17,[]),(.int .i64,[]),(.int .i64,[])],none⟩|24=>⟨[.d (.sl (.st t0))],[(.int .i64,[])],none⟩|25=>⟨[.d (.st t13)],[(.bool,[])],none⟩|26=>⟨[.d (.sl (.st t0)),.d (.int .i64)],[(.bool,[])],none⟩|27=>⟨[.p (.st t14)],[(.st t15,[])],none⟩|29=>⟨[.d (.int .i64),.d (.st t13),.d (.int .i64)],[(.st t27,[])],none⟩|30=>⟨[.d (.sl (.int .i64)),.d (.int .i64)],[(.bool,[])],none⟩|31=>⟨[.d (.st t13)],[(.bool,[])],none⟩|32=>⟨[.d (.sl (.st t0))],[(.int .i64,[])],none⟩|33=>⟨[.d (.sl (.st t0)),.d (.int .i64)],[(.bool,[])],none⟩|39=>⟨[.d (.st t13)],[(.st t13,[(1,true),(8,true),(9,true),(10,true)])],none⟩|45=>⟨[.d (.int .i64)],[(.bool,[])],none⟩|46=>⟨[.d (.st t15)],[(.bool,[])],none⟩|47=>⟨[.d (.st t13)],[(.bool,[])],none⟩|48=>⟨[.d (.st t23)],[(.int .i64,[])],none⟩|50=>⟨[.d (.int .i64),.d (.int .i64),.d (.st t13)],[(.st t13,[]),(.int .i64,[])],none⟩|56=>⟨[.d (.int .i64)],[(.bool,[])],none⟩|57=>⟨[.d (.sl (.st t0))],[(.bool,[])],none⟩|58=>⟨[.d t2],[(.bool,[])],none⟩|59=>⟨[.d (.sl (.st t3))],[(.bool,[])],none⟩|60=>⟨[.d (.sl (.st t4))],[(.bool,[])],none⟩|61=>⟨[.d (.sl (.st t0))],[(.sl (.int .i64),[(0,true)])],none⟩|62=>⟨[.d (.int .i64)],[(.st t15,[])],none⟩|67=>⟨[.d (.int .i64),.d (.int .i64),.p (.st t13)],[(.bool,[])],none⟩|68=>⟨[.d (.sl (.st t3)),.d (.st t3)],[(.bool,[])],none⟩|69=>⟨[.d (.int .i64),.d (.int .i64),.p (.st t13),.p (.int .i64)],[(.bool,[])],none⟩|70=>⟨[.d (.sl (.st t4)),.d (.st t4)],[(.bool,[])],none⟩|71=>⟨[.d (.sl (.int .i64)),.d (.int .i64)],[(.int .i64,[])],none⟩|72=>⟨[.d (.sl (.st t0))],[(.sl (.int .i64),[(0,true)])],none⟩|73=>⟨[.d (.sl (.int .i64))],[(.sl (.int .i64),[(0,true)])],none⟩|74=>⟨[.d (.sl (.int .u8))],[(.sl (.int .u8),[(0,true)])],none⟩|75=>⟨[.d (.sl (.st t3))],[(.sl (.st t3),[(0,true)])],none⟩
 |76=>⟨[.d (.sl (.st t4))],[(.sl (.st t4),[(0,true)])],none⟩|79=>⟨[.d t2],[(.bool,[])],none⟩|80=>⟨[.d t2],[(.int .i64,[])],none⟩|81=>⟨[.d t2,.d (.int .i64)],[(t2,[])],none⟩|82=>⟨[.d (.int .i64),.d (.int .i64),.d (.int .i64)],[(.bool,[])],none⟩|83=>⟨[.d (.sl (.st t0))],[(.bool,[])],none⟩|84=>⟨[.d (.int .i64)],[(.bool,[])],none⟩|85=>⟨[.d (.sl (.st t3))],[(.bool,[])],none⟩|86=>⟨[.d (.sl (.st t4))],[(.bool,[])],none⟩|87=>⟨[.d (.sl (.st t6))],[(.bool,[])],none⟩|91=>⟨[.d (.int .i64)],[(.bool,[])],none⟩|92=>⟨[.d (.int .i64)],[(.bool,[])],none⟩|96=>⟨[.d (.int .i64)],[(.int .i64,[])],none⟩|97=>⟨[.d (.st t3)],[(.bool,[])],none⟩|98=>⟨[.d (.st t3),.d (.st t3)],[(.bool,[])],none⟩|99=>⟨[.d (.st t4)],[(.bool,[])],none⟩|100=>⟨[.d (.st t4),.d (.st t4)],[(.bool,[])],none⟩|101=>⟨[.d (.sl (.st t3)),.d (.st t3)],[(.bool,[])],none⟩|102=>⟨[.d (.sl (.st t4)),.d (.st t4)],[(.bool,[])],none⟩|103=>⟨[.d (.int .i64)],[(.int .u64,[]),(.int .u64,[])],none⟩|104=>⟨[.d (.sl (.st t3)),.d (.fn 105),.d (.fn 106)],[(.bool,[])],none⟩|105=>⟨[.d (.st t3)],[(.bool,[])],none⟩|106=>⟨[.d (.st t3),.d (.st t3)],[(.int .i64,[])],none⟩|107=>⟨[.d (.sl (.st t4)),.d (.fn 108),.d (.fn 109)],[(.bool,[])],none⟩|108=>⟨[.d (.st t4)],[(.bool,[])],none⟩|109=>⟨[.d (.st t4),.d (.st t4)],[(.int .i64,[])],none⟩|116=>⟨[],[(.st t29,[])],none⟩|121=>⟨[.d (.sl (.st t3)),.d (.st t3)],[(.int .i64,[])],none⟩|122=>⟨[.d (.sl (.st t4)),.d (.st t4)],[(.int .i64,[])],none⟩|123=>⟨[.d (.int .i64),.d (.sl (.int .i64))],[(.bool,[])],none⟩|124=>⟨[.d (.sl (.int .i64))],[(.int .i64,[])],none⟩|125=>⟨[.d (.int .i64),.d (.int .i64)],[(.int .i64,[])],none⟩|129=>⟨[.d (.sl (.int .i64))],[(.int .i64,[])],none⟩|130=>⟨[.d (.sl (.int .i64))],[(.int .i64,[])],none⟩|131=>⟨[.d (.int .i64)],[(.bool,[])],none⟩|_=>⟨[],[],none⟩
def vsN:Nat->Sig
 |5=>⟨[],false⟩|6=>⟨[],true⟩|7=>⟨[],false⟩|8=>⟨[],false⟩|9=>⟨[],false⟩|10=>⟨[],true⟩|11=>⟨[],true⟩|13=>⟨[],true⟩|18=>⟨[],true⟩|21=>⟨[],true⟩|24=>⟨[],true⟩|25=>⟨[],true⟩|26=>⟨[],true⟩|27=>⟨[],false⟩|29=>⟨[],true⟩|30=>⟨[],true⟩|31=>⟨[],true⟩|32=>⟨[],true⟩|33=>⟨[],true⟩|39=>⟨[],true⟩|45=>⟨[],true⟩|46=>⟨[],true⟩|47=>⟨[],true⟩|48=>⟨[],true⟩|50=>⟨[],true⟩|56=>⟨[],true⟩|57=>⟨[],true⟩|58=>⟨[],true⟩|59=>⟨[],true⟩|60=>⟨[],true⟩|61=>⟨[],true⟩|62=>⟨[],true⟩|67=>⟨[],true⟩|68=>⟨[],true⟩|69=>⟨[],true⟩|70=>⟨[],true⟩|71=>⟨[],true⟩|72=>⟨[],true⟩|73=>⟨[],true⟩|74=>⟨[],true⟩|75=>⟨[],true⟩|76=>⟨[],true⟩|79=>⟨[],true⟩|80=>⟨[],true⟩|81=>⟨[],true⟩|82=>⟨[],true⟩|83=>⟨[],true⟩|84=>⟨[],true⟩|85=>⟨[],true⟩|86=>⟨[],true⟩|87=>⟨[],true⟩|91=>⟨[],true⟩|92=>⟨[],true⟩|96=>⟨[],true⟩|97=>⟨[],true⟩|98=>⟨[],true⟩|99=>⟨[],true⟩|100=>⟨[],true⟩|101=>⟨[],true⟩|102=>⟨[],true⟩|103=>⟨[],true⟩|104=>⟨[],true⟩|105=>⟨[],true⟩|106=>⟨[],true⟩|107=>⟨[],true⟩|108=>⟨[],true⟩|109=>⟨[],true⟩|116=>⟨[],true⟩|121=>⟨[],true⟩|122=>⟨[],true⟩|123=>⟨[],true⟩|124=>⟨[],true⟩|125=>⟨[],true⟩|129=>⟨[],true⟩|130=>⟨[],true⟩|131=>⟨[],true⟩|16=>⟨[],true⟩|28=>⟨[],false⟩|49=>⟨[],true⟩|110=>⟨[],true⟩|_=>⟨[],false⟩
def TN:(f:Nat)->NE (sgN f)
 |5=>.code fi5 vf5|6=>.code fi6 vf6|7=>.code fi7 vf7|8=>.code fi8 vf8|9=>.code fi9 vf9|10=>.code fi10 vf10|11=>.code fi11 vf11|13=>.code fi13 vf13|18=>.code fi18 vf18|21=>.code fi21 vf21|24=>.code fi24 vf24|25=>.code fi25 vf25|26=>.code fi26 vf26|27=>.code fi27 vf27|29=>.code fi29 vf29|30=>.code fi30 vf30|31=>.code fi31 vf31|32=>.code fi32 vf32|33=>.code fi33 vf33|39=>.code fi39 vf39|45=>.code fi45 vf45|46=>.code fi46 vf46|47=>.code fi47 vf47|48=>.code fi48 vf48|50=>.code fi50 vf50|56=>.code fi56 vf56|57=>.code fi57 vf57|58=>.code fi58 vf58|59=>.code fi59 vf59|60=>.code fi60 vf60|61=>.code fi61 vf61|62=>.code fi62 vf62|67=>.code fi67 vf67|68=>.code fi68 vf68|69=>.code fi69 vf69|70=>.code fi70 vf70|71=>.code fi71 vf71|72=>.code fi72 vf72|73=>.code fi73 vf73|74=>.code fi74 vf74|75=>.code fi75 vf75|76=>.code fi76 vf76|79=>.code fi79 vf79|80=>.code fi80 vf80|81=>.code fi81 vf81|82=>.code fi82 vf82|83=>.code fi83 vf83|84=>.code fi84 vf84|85=>.code fi85 vf85|86=>.code fi86 vf86|87=>.code fi87 vf87|91=>.code fi91 vf91|92=>.code fi92 vf92|96=>.code fi96 vf96|97=>.code fi97 vf97|98=>.code fi98 vf98|99=>.code fi99 vf99|100=>.code fi100 vf100|101=>.code fi101 vf101|102=>.code fi102 vf102|103=>.code fi103 vf103|104=>.code fi104 vf104|105=>.code fi105 vf105|106=>.code fi106 vf106|107=>.code fi107 vf107|108=>.code fi108 vf108|109=>.code fi109 vf109|116=>.code fi116 vf116|121=>.code fi121 vf121|122=>.code fi122 vf122|123=>.code fi123 vf123|124=>.code fi124 vf124|125=>.code fi125 vf125|129=>.code fi129 vf129|130=>.code fi130 vf130|131=>.code fi131 vf131|16=>.prim a1O|28=>.prim a1P|49=>.prim a3e|110=>.prim a4u|_=>.no
end Go.Proofs.YtgfmodmeimhhpaaGreatDoor
end
noncomputable section
namespace Go.Proofs.YtgfmodmeimhhpaaGreatDoor
open Go.VM
set_option maxRecDepth 100000
def n16(N:Nat)(x:(Int×(Int×(List ((Bool×(List (Int)))))×(Bool×Int×Int)×Int×Int×Int×(List ((Int×Int)))×(List ((Int×Int×Int)))×(List ((Int×Int×(List (Int)))))))):Option ((Int×(List ((Bool×(List (Int)))))×(Bool×Int×Int)×Int×Int×Int×(List ((Int×Int)))×(List ((Int×Int×Int)))×(List ((Int×Int×(List (Int))))))):=nfN TN N 16 x
def n28(N:Nat)(x:(((List (Int))×Int)×Int×Bool)):Option (((Int×(List ((Bool×(List (Int)))))×(Bool×Int×Int)×Int×Int×Int×(List ((Int×Int)))×(List ((Int×Int×Int)))×(List ((Int×Int×(List (Int))))))×((List (Int))×Int))):=nfN TN N 28 x
def n49(N:Nat)(x:((List ((Bool×(List (Int)))))×Int×Int)):Option (((List ((Bool×(List (Int)))))×Int)):=nfN TN N 49 x
def n110(N:Nat)(x:Int):Option (Bool):=nfN TN N 110 x
def n5(N:Nat)(x:List (Int)):Option (Bool):=nfN TN N 5 x
def n6(N:Nat)(x:List (Int)):Option (((List (Int))×Int)):=nfN TN N 6 x
def n7(N:Nat)(x:(((List (Int))×Int)×Int)):Option (((((Bool×Int×Int)×Int)×Int×(Int×(List ((Bool×(List (Int)))))×(Bool×Int×Int)×Int×Int×Int×(List ((Int×Int)))×(List ((Int×Int×Int)))×(List ((Int×Int×(List (Int)))))))×((List (Int))×Int))):=nfN TN N 7 x
def n8(N:Nat)(x:(((List (Int))×Int)×Int)):Option ((Int×((List (Int))×Int))):=nfN TN N 8 x
def n9(N:Nat)(x:(((List (Int))×Int)×Int)):Option (((Int×Bool×Bool×Bool×Int×(List (Int))×(List ((Int×Int))))×((List (Int))×Int))):=nfN TN N 9 x
def n10(N:Nat)(x:(Int×Int)):Option (Int):=nfN TN N 10 x
def n11(N:Nat)(x:(Int×(((Bool×Int×Int)×Int)×Int×(Int×(List ((Bool×(List (Int)))))×(Bool×Int×Int)×Int×Int×Int×(List ((Int×Int)))×(List ((Int×Int×Int)))×(List ((Int×Int×(List (Int)))))))×(Int×Bool×Bool×Bool×Int×(List (Int))×(List ((Int×Int)))))):Option (Int):=nfN TN N 11 x
def n13(N:Nat)(x:(Int×(Int×(List ((Bool×(List (Int)))))×(Bool×Int×Int)×Int×Int×Int×(List ((Int×Int)))×(List ((Int×Int×Int)))×(List ((Int×Int×(List (Int))))))×Int)):Option (Int):=nfN TN N 13 x
def n18(N:Nat)(x:Unit):Option (Bool):=nfN TN N 18 x
def n21(N:Nat)(x:(Int×(((Bool×Int×Int)×Int)×Int×(Int×(List ((Bool×(List (Int)))))×(Bool×Int×Int)×Int×Int×Int×(List ((Int×Int)))×(List ((Int×Int×Int)))×(List ((Int×Int×(List (Int)))))))×(Int×Bool×Bool×Bool×Int×(List (Int))×(List ((Int×Int)))))):Option (((((Bool×Int×Int)×Int)×Int×(Int×(List ((Bool×(List (Int)))))×(Bool×Int×Int)×Int×Int×Int×(List ((Int×Int)))×(List ((Int×Int×Int)))×(List ((Int×Int×(List (Int)))))))×Int×Int)):=nfN TN N 21 x
def n24(N:Nat)(x:List ((Bool×(List (Int))))):Option (Int):=nfN TN N 24 x
def n25(N:Nat)(x:(Int×(List ((Bool×(List (Int)))))×(Bool×Int×Int)×Int×Int×Int×(List ((Int×Int)))×(List ((Int×Int×Int)))×(List ((Int×Int×(List (Int))))))):Option (Bool):=nfN TN N 25 x
def n26(N:Nat)(x:((List ((Bool×(List (Int)))))×Int)):Option (Bool):=nfN TN N 26 x
def n27(N:Nat)(x:((List (Int))×Int)):Option ((((Bool×Int×Int)×Int)×((List (Int))×Int))):=nfN TN N 27 x
def n29(N:Nat)(x:(Int×(Int×(List ((Bool×(List (Int)))))×(Bool×Int×Int)×Int×Int×Int×(List ((Int×Int)))×(List ((Int×Int×Int)))×(List ((Int×Int×(List (Int))))))×Int)):Option ((Bool×Bool×Bool×Bool×Int)):=nfN TN N 29 x
def n30(N:Nat)(x:((List (Int))×Int)):Option (Bool):=nfN TN N 30 x
def n31(N:Nat)(x:(Int×(List ((Bool×(List (Int)))))×(Bool×Int×Int)×Int×Int×Int×(List ((Int×Int)))×(List ((Int×Int×Int)))×(List ((Int×Int×(List (Int))))))):Option (Bool):=nfN TN N 31 x
def n32(N:Nat)(x:List ((Bool×(List (Int))))):Option (Int):=nfN TN N 32 x
def n33(N:Nat)(x:((List ((Bool×(List (Int)))))×Int)):Option (Bool):=nfN TN N 33 x
def n39(N:Nat)(x:(Int×(List ((Bool×(List (Int)))))×(Bool×Int×Int)×Int×Int×Int×(List ((Int×Int)))×(List ((Int×Int×Int)))×(List ((Int×Int×(List (Int))))))):Option ((Int×(List ((Bool×(List (Int)))))×(Bool×Int×Int)×Int×Int×Int×(List ((Int×Int)))×(List ((Int×Int×Int)))×(List ((Int×Int×(List (Int))))))):=nfN TN N 39 x
def n45(N:Nat)(x:Int):Option (Bool):=nfN TN N 45 x
def n46(N:Nat)(x:((Bool×Int×Int)×Int)):Option (Bool):=nfN TN N 46 x
def n47(N:Nat)(x:(Int×(List ((Bool×(List (Int)))))×(Bool×Int×Int)×Int×Int×Int×(List ((Int×Int)))×(List ((Int×Int×Int)))×(List ((Int×Int×(List (Int))))))):Option (Bool):=nfN TN N 47 x
def n48(N:Nat)(x:(Int×Bool×Bool×Bool×Int×(List (Int))×(List ((Int×Int))))):Option (Int):=nfN TN N 48 x
def n50(N:Nat)(x:(Int×Int×(Int×(List ((Bool×(List (Int)))))×(Bool×Int×Int)×Int×Int×Int×(List ((Int×Int)))×(List ((Int×Int×Int)))×(List ((Int×Int×(List (Int)))))))):Option (((Int×(List ((Bool×(List (Int)))))×(Bool×Int×Int)×Int×Int×Int×(List ((Int×Int)))×(List ((Int×Int×Int)))×(List ((Int×Int×(List (Int))))))×Int)):=nfN TN N 50 x
def n56(N:Nat)(x:Int):Option (Bool):=nfN TN N 56 x
def n57(N:Nat)(x:List ((Bool×(List (Int))))):Option (Bool):=nfN TN N 57 x
def n58(N:Nat)(x:(Bool×Int×Int)):Option (Bool):=nfN TN N 58 x
def n59(N:Nat)(x:List ((Int×Int))):Option (Bool):=nfN TN N 59 x
def n60(N:Nat)(x:List ((Int×Int×Int))):Option (Bool):=nfN TN N 60 x
def n61(N:Nat)(x:List ((Bool×(List (Int))))):Option (List (Int)):=nfN TN N 61 x
def n62(N:Nat)(x:Int):Option (((Bool×Int×Int)×Int)):=nfN TN N 62 x
def n67(N:Nat)(x:(Int×Int×(Int×(List ((Bool×(List (Int)))))×(Bool×Int×Int)×Int×Int×Int×(List ((Int×Int)))×(List ((Int×Int×Int)))×(List ((Int×Int×(List (Int)))))))):Option ((Bool×(Int×(List ((Bool×(List (Int)))))×(Bool×Int×Int)×Int×Int×Int×(List ((Int×Int)))×(List ((Int×Int×Int)))×(List ((Int×Int×(List (Int)))))))):=nfN TN N 67 x
def n68(N:Nat)(x:((List ((Int×Int)))×(Int×Int))):Option (Bool):=nfN TN N 68 x
def n69(N:Nat)(x:(Int×Int×(Int×(List ((Bool×(List (Int)))))×(Bool×Int×Int)×Int×Int×Int×(List ((Int×Int)))×(List ((Int×Int×Int)))×(List ((Int×Int×(List (Int))))))×Int)):Option ((Bool×(Int×(List ((Bool×(List (Int)))))×(Bool×Int×Int)×Int×Int×Int×(List ((Int×Int)))×(List ((Int×Int×Int)))×(List ((Int×Int×(List (Int))))))×Int)):=nfN TN N 69 x
def n70(N:Nat)(x:((List ((Int×Int×Int)))×(Int×Int×Int))):Option (Bool):=nfN TN N 70 x
def n71(N:Nat)(x:((List (Int))×Int)):Option (Int):=nfN TN N 71 x
def n72(N:Nat)(x:List ((Bool×(List (Int))))):Option (List (Int)):=nfN TN N 72 x
def n73(N:Nat)(x:List (Int)):Option (List (Int)):=nfN TN N 73 x
def n74(N:Nat)(x:List (Int)):Option (List (Int)):=nfN TN N 74 x
def n75(N:Nat)(x:List ((Int×Int))):Option (List ((Int×Int))):=nfN TN N 75 x
def n76(N:Nat)(x:List ((Int×Int×Int))):Option (List ((Int×Int×Int))):=nfN TN N 76 x
def n79(N:Nat)(x:(Bool×Int×Int)):Option (Bool):=nfN TN N 79 x
def n80(N:Nat)(x:(Bool×Int×Int)):Option (Int):=nfN TN N 80 x
def n81(N:Nat)(x:((Bool×Int×Int)×Int)):Option ((Bool×Int×Int)):=nfN TN N 81 x
def n82(N:Nat)(x:(Int×Int×Int)):Option (Bool):=nfN TN N 82 x
def n83(N:Nat)(x:List ((Bool×(List (Int))))):Option (Bool):=nfN TN N 83 x
def n84(N:Nat)(x:Int):Option (Bool):=nfN TN N 84 x
def n85(N:Nat)(x:List ((Int×Int))):Option (Bool):=nfN TN N 85 x
def n86(N:Nat)(x:List ((Int×Int×Int))):Option (Bool):=nfN TN N 86 x
def n87(N:Nat)(x:List ((Int×Int×(List (Int))))):Option (Bool):=nfN TN N 87 x
def n91(N:Nat)(x:Int):Option (Bool):=nfN TN N 91 x
def n92(N:Nat)(x:Int):Option (Bool):=nfN TN N 92 x
def n97(N:Nat)(x:(Int×Int)):Option (Bool):=nfN TN N 97 x
def n98(N:Nat)(x:((Int×Int)×(Int×Int))):Option (Bool):=nfN TN N 98 x
def n99(N:Nat)(x:(Int×Int×Int)):Option (Bool):=nfN TN N 99 x
def n100(N:Nat)(x:((Int×Int×Int)×(Int×Int×Int))):Option (Bool):=nfN TN N 100 x
def n101(N:Nat)(x:((List ((Int×Int)))×(Int×Int))):Option (Bool):=nfN TN N 101 x
def n102(N:Nat)(x:((List ((Int×Int×Int)))×(Int×Int×Int))):Option (Bool):=nfN TN N 102 x
def n103(N:Nat)(x:Int):Option ((Int×Int)):=nfN TN N 103 x
def n104(N:Nat)(x:((List ((Int×Int)))×Unit×Unit)):Option (Bool):=nfN TN N 104 x
def n105(N:Nat)(x:(Int×Int)):Option (Bool):=nfN TN N 105 x
def n106(N:Nat)(x:((Int×Int)×(Int×Int))):Option (Int):=nfN TN N 106 x
def n107(N:Nat)(x:((List ((Int×Int×Int)))×Unit×Unit)):Option (Bool):=nfN TN N 107 x
def n108(N:Nat)(x:(Int×Int×Int)):Option (Bool):=nfN TN N 108 x
def n109(N:Nat)(x:((Int×Int×Int)×(Int×Int×Int))):Option (Int):=nfN TN N 109 x
def n116(N:Nat)(x:Unit):Option ((Int×Int×Int×Int×Int)):=nfN TN N 116 x
def n121(N:Nat)(x:((List ((Int×Int)))×(Int×Int))):Option (Int):=nfN TN N 121 x
def n122(N:Nat)(x:((List ((Int×Int×Int)))×(Int×Int×Int))):Option (Int):=nfN TN N 122 x
theorem e16(N:Nat)(x):n16 (N+1) x=a1O x:=rfl
theorem e28(N:Nat)(x):n28 (N+1) x=a1P x:=rfl
theorem e49(N:Nat)(x):n49 (N+1) x=a3e x:=rfl
theorem e110(N:Nat)(x):n110 (N+1) x=a4u x:=rfl
end Go.Proofs.YtgfmodmeimhhpaaGreatDoor
end
namespace Go.Proofs.YtgfmodmeimhhpaaGreatDoor
open Go.VM
set_option maxRecDepth 100000
abbrev a1n:=Bool×(List Int)
abbrev a0C:=Int×Int
abbrev a1Q:=Int×Int×Int
abbrev a3p:=Int×Int×(List Int)
abbrev a3i:=Int×(List a1n)×(Bool×Int×Int)×Int×Int×Int×(List a0C)×(List a1Q)×(List a3p)
abbrev a2j:=Int×Bool×Bool×Bool×Int×(List Int)×(List a0C)
abbrev a6a:=(Bool×Int×Int)×Int
abbrev a4P:=Bool×Bool×Bool×Bool×Int
abbrev a4e:=(List Int)×Int
abbrev a7a:=Int×(List a1n×a0C)
abbrev a5X:=List Int×(Int×(Int×(Int×a3i)))
abbrev a3j:=a6a×Int×a3i
theorem e5(N:Nat)(a0:List Int):n5 (N+1) a0=
 (n6 N a0).bind fun v0=>
 (n8 N (v0,4)).bind fun v1=>
 aJy (IntKind.i64.wrap (101+v1.1)) fun v2=>
 (n7 N (v1.2,v2)).bind fun v3=>
 (n8 N (v3.2,5)).bind fun v4=>
 aJy (IntKind.i64.wrap (101+v4.1)) fun v5=>
 (n9 N (v4.2,v5)).bind fun v6=>
 (n21 N (99,v3.1,v6.1)).bind fun v7=>
 aJy (bif (v7.2.2 != 0)then true else(v7.2.1 != 0)) fun v8=>
 bif v8 then((n18 N ()).bind fun v9=>
 some v9)else(aJy (aJO v7.1.2.2.2.2.2.2.2.2.1) fun v10=>
 aBJ (fun(p11:(a3j×(a2j×a3j)))=>
 aJy (aJO p11.2.2.2.2.2.2.2.2.2.2.2.1) fun v13=>
 aBJ (fun(p14:(a3j×(a2j×a3j)))=>
 (n24 N p14.2.2.2.2.2.1).bind fun v16=>
 (n24 N p14.1.2.2.2.1).bind fun v17=>
 aJy (IntKind.i64.wrap (v16-v17)) fun v18=>
 (n25 N p14.2.2.2.2).bind fun v19=>
 aJy (p14.2.2.2.2.2.2.2.2.2.1 != (-1)) fun v20=>
 aJy (bif v19 then v20 else false) fun v21=>
 aJy (p14.2.2.2.2.2.2.2.2.1==(-1)) fun v22=>
 aJy (bif v21 then v22 else false) fun v23=>
 aJy (false != ((p14.2.2.2.2.2.2.1.1==p14.1.2.2.2.2.1.1)&&((p14.2.2.2.2.2.2.1.2.1==p14.1.2.2.2.2.1.2.1)&&(p14.2.2.2.2.2.2.1.2.2==p14.1.2.2.2.2.1.2.2)))) fun v24=>
 aJy (bif v23 then v24 else false) fun v25=>
 aJy (p14.2.2.2.2.1==p14.1.2.2.1) fun v26=>
 aJy (bif v25 then v26 else false) fun v27=>
 aJy (p14.2.2.2.2.2.2.2.1==p14.1.2.2.2.2.2.1) fun v28=>
 aJy (bif v27 then v28 else false) fun v29=>
 aJy (bif v29 then(decide (v18>=0))else false) fun v30=>
 aJy (bif v30 then(decide (v18<=3))else false) fun v31=>
 aJy (bif v31 then(p14.2.2.2.1==p14.1.2.1)else false) fun v32=>
 aJy (false != (((p14.2.2.1.1.1==p14.1.1.1.1)&&((p14.2.2.1.1.2.1==p14.1.1.1.2.1)&&(p14.2.2.1.1.2.2==p14.1.1.1.2.2)))&&(p14.2.2.1.2==p14.1.1.2))) fun v33=>
 aJy (bif v32 then v33 else false) fun v34=>
 aJy (bif v34 then(p14.1.2.1 != p14.2.1.1)else false) fun v35=>
 (bif v35 then(n26 N (p14.1.2.2.2.1,p14.2.1.1))else some false).bind fun v36=>
 aJy (bif v35 then(!v36)else false) fun v37=>
 some v37) fun j15=>
 eG N (fun(p38:(a3j×(a2j×(a3j×(List a1Q×a0C)))))=>
 aJy (decide (p38.2.2.2.2.2<p38.2.2.2.2.1)) fun v39=>
 bif v39 then((aEU p38.2.2.2.1 p38.2.2.2.2.2).bind fun v40=>
 bif (v40.1==99)then(lJ (some false))else(aJy (IntKind.i64.wrap (p38.2.2.2.2.2+1)) fun v41=>
 tN (p38.1,p38.2.1,p38.2.2.1,p38.2.2.2.1,p38.2.2.2.2.1,v41)))else(lJ (j15 (p38.1,p38.2.1,p38.2.2.1)))) (p11.1,p11.2.1,p11.2.2,p11.2.2.2.2.2.2.2.2.2.2.2.1,v13,0)) fun j12=>
 eG N (fun(p42:(a3j×(a2j×(a3j×(List a0C×a0C)))))=>
 aJy (decide (p42.2.2.2.2.2<p42.2.2.2.2.1)) fun v43=>
 bif v43 then((aEU p42.2.2.2.1 p42.2.2.2.2.2).bind fun v44=>
 aJy (bif (v44.1==0)then true else(v44.1==99)) fun v45=>
 bif v45 then(lJ (some false))else(aJy (IntKind.i64.wrap (p42.2.2.2.2.2+1)) fun v46=>
 tN (p42.1,p42.2.1,p42.2.2.1,p42.2.2.2.1,p42.2.2.2.2.1,v46)))else(lJ (j12 (p42.1,p42.2.1,p42.2.2.1)))) (v3.1,v6.1,v7.1,v7.1.2.2.2.2.2.2.2.2.1,v10,0)):=by kernel_rfl
theorem e6(N:Nat)(a0:List Int):n6 (N+1) a0=
 some (a0,0):=by kernel_rfl
theorem e7(N:Nat)(a0:a4e)(a1:Int):n7 (N+1) (a0,a1)=
 (n27 N a0).bind fun v0=>
 (n28 N (v0.2,a1,v0.1.1.1)).bind fun v1=>
 some ((v0.1,a1,v1.1),v1.2):=by kernel_rfl
theorem e8(N:Nat)(a0:a4e)(a1:Int):n8 (N+1) (a0,a1)=
 aJy (decide (a0.2>=(aJO a0.1))) fun v0=>
 bif v0 then(some (0,a0))else(aJy (IntKind.i64.wrap (a0.2+1)) fun v1=>
 aJy (IntKind.i64.wrap (v1-1)) fun v2=>
 (aEU a0.1 v2).bind fun v3=>
 (n10 N (v3,a1)).bind fun v4=>
 some (v4,a0.1,v1)):=by kernel_rfl
theorem e9(N:Nat)(a0:a4e)(a1:Int):n9 (N+1) (a0,a1)=
 (n8 N (a0,2)).bind fun v0=>
 (n8 N (v0.2,8)).bind fun v1=>
 aBJ (fun(p2:(a2j×(a2j×a4e)))=>
 aBJ (fun(p4:(a2j×(a2j×a4e)))=>
 some (p4.2.1,p4.2.2)) fun j5=>
 eG N (fun(p6:(a2j×(a2j×(Int×a4e))))=>
 aJy (decide (p6.2.2.1<5)) fun v7=>
 bif v7 then(aBJ (fun(p8:(a2j×(a2j×(Int×a4e))))=>
 aJy (IntKind.i64.wrap (p8.2.2.1+1)) fun v10=>
 tN (p8.1,p8.2.1,v10,p8.2.2.2)) fun j9=>
 (n8 N (p6.2.2.2,4)).bind fun v11=>
 aBJ (fun(p12:(a2j×(a2j×(Int×a4e))))=>
 j9 (p12.1,p12.2.1,p12.2.2.1,p12.2.2.2)) fun j13=>
 bif (v11.1==0)then(aJy (IntKind.i64.wrap (101+p6.2.2.1)) fun v14=>
 (n8 N (v11.2,5)).bind fun v15=>
 aJy (IntKind.i64.wrap (v15.1-2)) fun v16=>
 aJy ([(v14,v16)]:List a0C) fun v17=>
 (aH3 16 p6.2.1.2.2.2.2.2.2 v17).bind fun v18=>
 j13 (p6.1,(p6.2.1.1,p6.2.1.2.1,p6.2.1.2.2.1,p6.2.1.2.2.2.1,p6.2.1.2.2.2.2.1,p6.2.1.2.2.2.2.2.1,v18),p6.2.2.1,v15.2))else(j13 (p6.1,p6.2.1,p6.2.2.1,v11.2)))else(lJ (j5 (p6.1,p6.2.1,p6.2.2.2)))) (p2.1,p2.2.1,0,p2.2.2)) fun j3=>
 aBJ (fun(p19:(a2j×(a2j×a4e)))=>
 j3 (p19.1,p19.2.1,p19.2.2)) fun j20=>
 bif (v1.1==0)then(j20 ((0,false,false,false,0,([]:List Int),([]:List a0C)),(a1,true,false,(v0.1==0),0,([]:List Int),([]:List a0C)),v1.2))else(aBJ (fun(p21:(a2j×(a2j×a4e)))=>
 j20 (p21.1,p21.2.1,p21.2.2)) fun j22=>
 bif (v1.1==1)then(j22 ((0,false,false,false,0,([]:List Int),([]:List a0C)),(a1,false,true,(v0.1==0),0,([]:List Int),([]:List a0C)),v1.2))else(aBJ (fun(p23:(a2j×(a2j×a4e)))=>
 j22 (p23.1,p23.2.1,p23.2.2)) fun j24=>
 bif (v1.1==2)then((n8 N (v1.2,4)).bind fun v25=>
 aJy (IntKind.i64.wrap (1+v25.1)) fun v26=>
 j24 ((0,false,false,false,0,([]:List Int),([]:List a0C)),(a1,false,false,(v0.1==0),v26,([]:List Int),([]:List a0C)),v25.2))else(aBJ (fun(p27:(a2j×(a2j×a4e)))=>
 j24 (p27.1,p27.2.1,p27.2.2)) fun j28=>
 bif (v1.1==3)then((n8 N (v1.2,4)).bind fun v29=>
 aJy (IntKind.i64.wrap (101+v29.1)) fun v30=>
 j28 ((0,false,false,false,0,([]:List Int),([]:List a0C)),(a1,false,false,(v0.1==0),0,([v30]:List Int),([]:List a0C)),v29.2))else(j28 ((0,false,false,false,0,([]:List Int),([]:List a0C)),(a1,false,false,(v0.1==0),0,([]:List Int),([]:List a0C)),v1.2))))):=by kernel_rfl
theorem e10(N:Nat)(a0:Int)(a1:Int):n10 (N+1) (a0,a1)=
 (if a1=0 then none else some (Int.tmod a0 a1)).bind fun v0=>
 aBJ (fun(p1:Int)=>
 some p1) fun j2=>
 bif (decide (v0<0))then(j2 (IntKind.i64.wrap (v0+a1)))else(j2 v0):=by kernel_rfl
theorem e11(N:Nat)(a0:Int)(a1:a3j)(a2:a2j):n11 (N+1) (a0,a1,a2)=
 (n29 N (a0,a1.2.2,a2.1)).bind fun v0=>
 bif (a1.2.1==a2.1)then(some 1)else(bif v0.1 then(some 2)else(bif v0.2.1 then(some 3)else(aJy (bif v0.2.2.1 then(!v0.2.2.2.1)else false) fun v1=>
 bif v1 then(some 4)else(aJy (bif a2.2.2.1 then a1.1.1.1 else false) fun v2=>
 aBJ (fun(p3:(a3j×(a2j×(a4P×Bool))))=>
 bif p3.2.2.2 then(some 5)else((n30 N (p3.2.1.2.2.2.2.2.1,p3.1.2.1)).bind fun v5=>
 bif v5 then(some 6)else((n31 N p3.1.2.2).bind fun v6=>
 aJy (bif v6 then(!p3.2.1.2.2.2.1)else false) fun v7=>
 bif v7 then(some 7)else(aJy (p3.2.1.2.2.2.2.1 != 0) fun v8=>
 (bif v8 then(n32 N p3.1.2.2.2.1)else some 0).bind fun v9=>
 aJy (IntKind.i64.wrap (v9+p3.2.2.1.2.2.2.2)) fun v10=>
 aJy (decide (v10>p3.2.1.2.2.2.2.1)) fun v11=>
 bif (bif v8 then v11 else false)then(some 8)else((n33 N (p3.1.2.2.2.1,p3.2.1.1)).bind fun v12=>
 bif v12 then(some 9)else(some 0)))))) fun j4=>
 bif v2 then(j4 (a1,a2,v0,v2))else(aJy (bif a2.2.1 then(!a1.1.1.1)else false) fun v13=>
 j4 (a1,a2,v0,v13)))))):=by kernel_rfl
theorem e13(N:Nat)(a0:Int)(a1:a3i)(a2:Int):n13 (N+1) (a0,a1,a2)=
 (n29 N (a0,a1,a2)).bind fun v0=>
 some v0.2.2.2.2:=by kernel_rfl
theorem e21(N:Nat)(a0:Int)(a1:a3j)(a2:a2j):n21 (N+1) (a0,a1,a2)=
 (n45 N a0).bind fun v0=>
 (bif (!(!v0))then(n45 N a1.2.1)else some false).bind fun v1=>
 aJy (bif (!v0)then true else(!v1)) fun v2=>
 (bif (!v2)then(n46 N a1.1)else some false).bind fun v3=>
 aJy (bif v2 then true else(!v3)) fun v4=>
 (bif (!v4)then(n47 N a1.2.2)else some false).bind fun v5=>
 aJy (bif v4 then true else(!v5)) fun v6=>
 bif v6 then(aJy ([]:List a1n) fun v7=>
 aJy ([]:List a1Q) fun v8=>
 aJy ([]:List a3p) fun v9=>
 some ((((false,0,0),0),0,0,v7,(false,0,0),0,0,0,([]:List a0C),v8,v9),0,1))else((n48 N a2).bind fun v10=>
 bif (v10 != 0)then(aJy ([]:List a1n) fun v11=>
 aJy ([]:List a1Q) fun v12=>
 aJy ([]:List a3p) fun v13=>
 some ((((false,0,0),0),0,0,v11,(false,0,0),0,0,0,([]:List a0C),v12,v13),0,v10))else((n11 N (a0,a1,a2)).bind fun v14=>
 bif (v14 != 0)then(aJy ([]:List a1n) fun v15=>
 aJy ([]:List a1Q) fun v16=>
 aJy ([]:List a3p) fun v17=>
 some ((((false,0,0),0),0,0,v15,(false,0,0),0,0,0,([]:List a0C),v16,v17),v14,0))else((n13 N (a0,a1.2.2,a2.1)).bind fun v18=>
 (n49 N (a1.2.2.2.1,a1.2.1,v18)).bind fun v19=>
 bif (v19.2 != 0)then(aJy ([]:List a1n) fun v20=>
 aJy ([]:List a1Q) fun v21=>
 aJy ([]:List a3p) fun v22=>
 some ((((false,0,0),0),0,0,v20,(false,0,0),0,0,0,([]:List a0C),v21,v22),0,v19.2))else((n16 N (a0,a1.2.2)).bind fun v23=>
 (n50 N (1,a0,v23.1,v19.1,v23.2.2.1,v23.2.2.2.1,(-1),v23.2.2.2.2.2)).bind fun v24=>
 bif (v24.2 != 0)then(aJy ([]:List a1n) fun v25=>
 aJy ([]:List a1Q) fun v26=>
 aJy ([]:List a3p) fun v27=>
 some ((((false,0,0),0),0,0,v25,(false,0,0),0,0,0,([]:List a0C),v26,v27),0,v24.2))else(some ((a1.1,a1.2.1,v24.1),0,0)))))):=by kernel_rfl
theorem e24(N:Nat)(a0:List a1n):n24 (N+1) a0=
 aBJ (fun(p0:Int)=>
 some p0) fun j1=>
 eG N (fun(p2:a7a)=>
 aJy (decide (p2.2.2.2<p2.2.2.1)) fun v3=>
 bif v3 then(aBJ (fun(p4:a7a)=>
 aJy (IntKind.i64.wrap (p4.2.2.2+1)) fun v6=>
 tN (p4.1,p4.2.1,p4.2.2.1,v6)) fun j5=>
 (aEU p2.2.1 p2.2.2.2).bind fun v7=>
 aBJ (fun(p8:a7a)=>
 j5 (p8.1,p8.2.1,p8.2.2.1,p8.2.2.2)) fun j9=>
 bif v7.1 then(aJy (IntKind.i64.wrap (p2.1+1)) fun v10=>
 j9 (v10,p2.2.1,p2.2.2.1,p2.2.2.2))else(aJy (IntKind.i64.wrap (p2.1+(aJO v7.2))) fun v11=>
 j9 (v11,p2.2.1,p2.2.2.1,p2.2.2.2)))else(lJ (j1 p2.1))) (0,a0,(aJO a0),0):=by kernel_rfl
theorem e25(N:Nat)(a0:a3i):n25 (N+1) a0=
 aBJ (fun(p0:a3i)=>
 aJy (bif (decide (p0.1>=(-1)))then(decide (p0.1<=2))else false) fun v2=>
 (bif v2 then(n57 N p0.2.1)else some false).bind fun v3=>
 (bif (bif v2 then v3 else false)then(n58 N p0.2.2.1)else some false).bind fun v4=>
 aJy (bif (bif v2 then v3 else false)then v4 else false) fun v5=>
 aJy (decide (p0.2.2.2.1>=(-1))) fun v6=>
 aJy (decide (p0.2.2.2.1<=4294967295)) fun v7=>
 aJy (bif (bif v5 then v6 else false)then v7 else false) fun v8=>
 aJy (decide (p0.2.2.2.2.1>=(-1))) fun v9=>
 aJy (decide (p0.2.2.2.2.1<=4294967295)) fun v10=>
 aJy (bif (bif v8 then v9 else false)then v10 else false) fun v11=>
 aJy (p0.2.2.2.2.2.1==(-1)) fun v12=>
 aJy (decide (p0.2.2.2.2.2.1>=1)) fun v13=>
 aJy (decide (p0.2.2.2.2.2.1<=4294967295)) fun v14=>
 aJy (bif v13 then v14 else false) fun v15=>
 aJy (bif v11 then(bif v12 then true else v15)else false) fun v16=>
 (bif v16 then(n59 N p0.2.2.2.2.2.2.1)else some false).bind fun v17=>
 aJy (bif v16 then v17 else false) fun v18=>
 (bif v18 then(n60 N p0.2.2.2.2.2.2.2.1)else some false).bind fun v19=>
 aJy (bif v18 then v19 else false) fun v20=>
 aJy (decide ((aJO p0.2.2.2.2.2.2.2.2)<=8)) fun v21=>
 aJy (bif v20 then v21 else false) fun v22=>
 some v22) fun j1=>
 eG N (fun(p23:(a3i×(List a3p×a0C)))=>
 aJy (decide (p23.2.2.2<p23.2.2.1)) fun v24=>
 bif v24 then((aEU p23.2.1 p23.2.2.2).bind fun v25=>
 aJy (decide (v25.2.1<1)) fun v26=>
 aJy (decide (v25.2.1>255)) fun v27=>
 (bif (!(bif v26 then true else v27))then(n56 N v25.2.1)else some false).bind fun v28=>
 aJy (bif (bif v26 then true else v27)then true else(!v28)) fun v29=>
 aJy (bif v29 then true else(v25.1 != 224)) fun v30=>
 aJy (decide ((aJO v25.2.2)>255)) fun v31=>
 aJy (decide (p23.2.2.2>0)) fun v32=>
 aJy (IntKind.i64.wrap (p23.2.2.2-1)) fun v33=>
 (bif (v32&&(!(bif v30 then true else v31)))then(aEU p23.1.2.2.2.2.2.2.2.2 v33)else some (0,0,([]:List Int))).bind fun v34=>
 aJy (bif v32 then(decide (v34.2.1>=v25.2.1))else false) fun v35=>
 aJy (bif (bif v30 then true else v31)then true else v35) fun v36=>
 bif v36 then(lJ (some false))else(aJy (IntKind.i64.wrap (p23.2.2.2+1)) fun v37=>
 tN (p23.1,p23.2.1,p23.2.2.1,v37)))else(lJ (j1 p23.1))) (a0,a0.2.2.2.2.2.2.2.2,(aJO a0.2.2.2.2.2.2.2.2),0):=by kernel_rfl
theorem e26(N:Nat)(a0:List a1n)(a1:Int):n26 (N+1) (a0,a1)=
 (n61 N a0).bind fun v0=>
 aBJ (fun(p1:Unit)=>
 some false) fun j2=>
 eG N (fun(p3:(Int×(List Int×a0C)))=>
 aJy (decide (p3.2.2.2<p3.2.2.1)) fun v4=>
 bif v4 then((aEU p3.2.1 p3.2.2.2).bind fun v5=>
 bif (v5==p3.1)then(lJ (some true))else(aJy (IntKind.i64.wrap (p3.2.2.2+1)) fun v6=>
 tN (p3.1,p3.2.1,p3.2.2.1,v6)))else(lJ (j2 ()))) (a1,v0,(aJO v0),0):=by kernel_rfl
theorem e27(N:Nat)(a0:a4e):n27 (N+1) a0=
 (n8 N (a0,8)).bind fun v0=>
 (n62 N v0.1).bind fun v1=>
 (n8 N (v0.2,8)).bind fun v2=>
 aBJ (fun(p3:(a6a×(a6a×a4e)))=>
 some (p3.2.1,p3.2.2)) fun j4=>
 aBJ (fun(p5:(a6a×(a6a×a4e)))=>
 j4 (p5.1,p5.2.1,p5.2.2)) fun j6=>
 bif (v2.1==6)then(aBJ (fun(p7:(a6a×(a6a×a4e)))=>
 j6 (p7.1,p7.2.1,p7.2.2)) fun j8=>
 bif v1.1.1 then(j8 (((false,0,0),0),(v1.1,64),v2.2))else(j8 (((false,0,0),0),(v1.1,24),v2.2)))else(aBJ (fun(p9:(a6a×(a6a×a4e)))=>
 j6 (p9.1,p9.2.1,p9.2.2)) fun j10=>
 bif (v2.1==7)then(aBJ (fun(p11:(a6a×(a6a×a4e)))=>
 (n8 N (p11.2.2,3)).bind fun v13=>
 aJy (IntKind.u64.wrap (p11.2.1.1.2.2+(IntKind.u64.wrap v13.1))) fun v14=>
 j10 (p11.1,((p11.2.1.1.1,p11.2.1.1.2.1,v14),p11.2.1.2),v13.2)) fun j12=>
 bif v1.1.1 then(j12 (((false,0,0),0),(v1.1,128),v2.2))else(j12 (((false,0,0),0),(v1.1,32),v2.2)))else(j10 (((false,0,0),0),v1,v2.2))):=by kernel_rfl
theorem e29(N:Nat)(a0:Int)(a1:a3i)(a2:Int):n29 (N+1) (a0,a1,a2)=
 (n67 N (65535,65282,a1)).bind fun v0=>
 (n67 N (0,a2,v0.2)).bind fun v1=>
 (bif (!v1.1)then(n69 N (0,a2,v1.2,a0))else some (false,v1.2,a0)).bind fun v2=>
 aJy (bif v1.1 then true else v2.1) fun v3=>
 (n67 N (0,v2.2.2,v2.2.1)).bind fun v4=>
 (bif (!v4.1)then(n69 N (0,0,v4.2,v2.2.2))else some (false,v4.2,v2.2.2)).bind fun v5=>
 aJy (bif v4.1 then true else v5.1) fun v6=>
 (n67 N (v5.2.2,a2,v5.2.1)).bind fun v7=>
 (bif (!v7.1)then(n69 N (1,a2,v7.2,v5.2.2))else some (false,v7.2,v5.2.2)).bind fun v8=>
 aJy (bif v7.1 then true else v8.1) fun v9=>
 aJy ([a2,0]:List Int) fun v10=>
 aBJ (fun(p11:(a4P×a4P))=>
 some p11.2) fun j12=>
 eG N (fun(p13:(a4P×(a4P×a5X)))=>
 aJy (decide (p13.2.2.2.2.1<p13.2.2.2.1)) fun v14=>
 bif v14 then(aBJ (fun(p15:(a4P×(a4P×a5X)))=>
 aJy (IntKind.i64.wrap (p15.2.2.2.2.1+1)) fun v17=>
 tN (p15.1,p15.2.1,p15.2.2.1,p15.2.2.2.1,v17,p15.2.2.2.2.2.1,p15.2.2.2.2.2.2)) fun j16=>
 (aEU p13.2.2.1 p13.2.2.2.2.1).bind fun v18=>
 aBJ (fun(p19:(a4P×(a4P×a5X)))=>
 j16 (p19.1,p19.2.1,p19.2.2.1,p19.2.2.2.1,p19.2.2.2.2.1,p19.2.2.2.2.2.1,p19.2.2.2.2.2.2)) fun j20=>
 eG N (fun(p21:(a4P×(a4P×(Int×(Int×a5X)))))=>
 aJy (decide (p21.2.2.2.1>0)) fun v22=>
 aJy (p21.2.1.2.2.2.2==0) fun v23=>
 aJy (bif v22 then v23 else false) fun v24=>
 bif v24 then(aBJ (fun(p25:(a4P×(a4P×(Int×(Int×a5X)))))=>
 aJy (IntKind.i64.wrap (p25.2.2.2.1-1)) fun v27=>
 tN (p25.1,p25.2.1,p25.2.2.1,v27,p25.2.2.2.2.1,p25.2.2.2.2.2.1,p25.2.2.2.2.2.2.1,p25.2.2.2.2.2.2.2.1,p25.2.2.2.2.2.2.2.2)) fun j26=>
 aJy (IntKind.i64.wrap (100+p21.2.2.2.1)) fun v28=>
 (n69 N (v28,p21.2.2.1,p21.2.2.2.2.2.2.2.2,p21.2.2.2.2.2.2.2.1)).bind fun v29=>
 aBJ (fun(p30:(a4P×(a4P×(Int×(Int×a5X)))))=>
 j26 (p30.1,p30.2.1,p30.2.2.1,p30.2.2.2.1,p30.2.2.2.2.1,p30.2.2.2.2.2.1,p30.2.2.2.2.2.2.1,p30.2.2.2.2.2.2.2.1,p30.2.2.2.2.2.2.2.2)) fun j31=>
 bif v29.1 then(j31 (p21.1,(p21.2.1.1,p21.2.1.2.1,p21.2.1.2.2.1,p21.2.1.2.2.2.1,p21.2.2.2.1),p21.2.2.1,p21.2.2.2.1,p21.2.2.2.2.1,p21.2.2.2.2.2.1,p21.2.2.2.2.2.2.1,v29.2.2,v29.2.1))else(j31 (p21.1,p21.2.1,p21.2.2.1,p21.2.2.2.1,p21.2.2.2.2.1,p21.2.2.2.2.2.1,p21.2.2.2.2.2.2.1,v29.2.2,v29.2.1)))else(lJ (j20 (p21.1,p21.2.1,p21.2.2.2.2.1,p21.2.2.2.2.2.1,p21.2.2.2.2.2.2.1,p21.2.2.2.2.2.2.2.1,p21.2.2.2.2.2.2.2.2)))) (p13.1,p13.2.1,v18,3,p13.2.2.1,p13.2.2.2.1,p13.2.2.2.2.1,p13.2.2.2.2.2.1,p13.2.2.2.2.2.2))else(lJ (j12 (p13.1,p13.2.1)))) ((false,false,false,false,0),(v0.1,v3,v6,v9,0),v10,(aJO v10),0,v8.2.2,v8.2.1):=by kernel_rfl
theorem e30(N:Nat)(a0:List Int)(a1:Int):n30 (N+1) (a0,a1)=
 (n71 N (a0,a1)).bind fun v0=>
 some (decide (v0>=0)):=by kernel_rfl
theorem e31(N:Nat)(a0:a3i):n31 (N+1) a0=
 (n68 N (a0.2.2.2.2.2.2.1,65535,666)).bind fun v0=>
 some v0:=by kernel_rfl
theorem e32(N:Nat)(a0:List a1n):n32 (N+1) a0=
 aBJ (fun(p0:Int)=>
 some p0) fun j1=>
 eG N (fun(p2:a7a)=>
 aJy (decide (p2.2.2.2<p2.2.2.1)) fun v3=>
 bif v3 then(aBJ (fun(p4:a7a)=>
 aJy (IntKind.i64.wrap (p4.2.2.2+1)) fun v6=>
 tN (p4.1,p4.2.1,p4.2.2.1,v6)) fun j5=>
 (aEU p2.2.1 p2.2.2.2).bind fun v7=>
 aBJ (fun(p8:a7a)=>
 j5 (p8.1,p8.2.1,p8.2.2.1,p8.2.2.2)) fun j9=>
 bif v7.1 then(aJy (IntKind.i64.wrap (p2.1+1)) fun v10=>
 j9 (v10,p2.2.1,p2.2.2.1,p2.2.2.2))else(aJy (IntKind.i64.wrap (p2.1+(aJO v7.2))) fun v11=>
 j9 (v11,p2.2.1,p2.2.2.1,p2.2.2.2)))else(lJ (j1 p2.1))) (0,a0,(aJO a0),0):=by kernel_rfl
theorem e33(N:Nat)(a0:List a1n)(a1:Int):n33 (N+1) (a0,a1)=
 (n72 N a0).bind fun v0=>
 (n30 N (v0,a1)).bind fun v1=>
 some v1:=by kernel_rfl
theorem e39(N:Nat)(a0:a3i):n39 (N+1) a0=
 aJy ([]:List a1n) fun v0=>
 aJy ([]:List a3p) fun v1=>
 aBJ (fun(p2:(a3i×(a3i×List a3p)))=>
 aBJ (fun(p4:(a3i×a3i))=>
 (n75 N p4.1.2.2.2.2.2.2.1).bind fun v6=>
 (n76 N p4.1.2.2.2.2.2.2.2.1).bind fun v7=>
 some (p4.1.1,p4.1.2.1,p4.1.2.2.1,p4.1.2.2.2.1,p4.1.2.2.2.2.1,p4.1.2.2.2.2.2.1,v6,v7,p4.1.2.2.2.2.2.2.2.2)) fun j5=>
 eG N (fun(p8:(a3i×(a3i×(List a3p×a0C))))=>
 aJy (decide (p8.2.2.2.2<p8.2.2.2.1)) fun v9=>
 bif v9 then((aEU p8.2.2.1 p8.2.2.2.2).bind fun v10=>
 (n74 N v10.2.2).bind fun v11=>
 aJy ([(v10.1,v10.2.1,v11)]:List a3p) fun v12=>
 (aH3 40 p8.1.2.2.2.2.2.2.2.2 v12).bind fun v13=>
 aJy (IntKind.i64.wrap (p8.2.2.2.2+1)) fun v14=>
 tN ((p8.1.1,p8.1.2.1,p8.1.2.2.1,p8.1.2.2.2.1,p8.1.2.2.2.2.1,p8.1.2.2.2.2.2.1,p8.1.2.2.2.2.2.2.1,p8.1.2.2.2.2.2.2.2.1,v13),p8.2.1,p8.2.2.1,p8.2.2.2.1,v14))else(lJ (j5 (p8.1,p8.2.1)))) (p2.1,p2.2.1,p2.2.2,(aJO p2.2.2),0)) fun j3=>
 eG N (fun(p15:(a3i×(a3i×(List a3p×(List a1n×a0C)))))=>
 aJy (decide (p15.2.2.2.2.2<p15.2.2.2.2.1)) fun v16=>
 bif v16 then((aEU p15.2.2.2.1 p15.2.2.2.2.2).bind fun v17=>
 (n73 N v17.2).bind fun v18=>
 aJy ([(v17.1,v18)]:List a1n) fun v19=>
 (aH3 32 p15.1.2.1 v19).bind fun v20=>
 aJy (IntKind.i64.wrap (p15.2.2.2.2.2+1)) fun v21=>
 tN ((p15.1.1,v20,p15.1.2.2),p15.2.1,p15.2.2.1,p15.2.2.2.1,p15.2.2.2.2.1,v21))else(lJ (j3 (p15.1,p15.2.1,p15.2.2.1)))) ((a0.1,v0,a0.2.2.1,a0.2.2.2.1,a0.2.2.2.2.1,a0.2.2.2.2.2.1,a0.2.2.2.2.2.2.1,a0.2.2.2.2.2.2.2.1,v1),(0,([]:List a1n),(false,0,0),0,0,0,([]:List a0C),([]:List a1Q),([]:List a3p)),a0.2.2.2.2.2.2.2.2,a0.2.1,(aJO a0.2.1),0):=by kernel_rfl
theorem e45(N:Nat)(a0:Int):n45 (N+1) a0=
 aJy (decide (a0<=4294967295)) fun v0=>
 aJy (bif (decide (a0>=1))then v0 else false) fun v1=>
 some v1:=by kernel_rfl
theorem e46(N:Nat)(a0:a6a):n46 (N+1) a0=
 (n79 N a0.1).bind fun v0=>
 aJy (bif v0 then(decide (a0.2>=0))else false) fun v1=>
 (bif v1 then(n80 N a0.1)else some 0).bind fun v2=>
 aJy (bif v1 then(decide (a0.2<=v2))else false) fun v3=>
 (bif v3 then(n81 N (a0.1,a0.2))else some (false,0,0)).bind fun v4=>
 aJy (false != ((v4.1==a0.1.1)&&((v4.2.1==a0.1.2.1)&&(v4.2.2==a0.1.2.2)))) fun v5=>
 some (bif v3 then v5 else false):=by kernel_rfl
theorem e47(N:Nat)(a0:a3i):n47 (N+1) a0=
 (n82 N (a0.1,(-1),2)).bind fun v0=>
 (bif v0 then(n83 N a0.2.1)else some false).bind fun v1=>
 (bif (bif v0 then v1 else false)then(n79 N a0.2.2.1)else some false).bind fun v2=>
 aJy (bif (bif v0 then v1 else false)then v2 else false) fun v3=>
 (bif v3 then(n82 N (a0.2.2.2.1,(-1),4294967295))else some false).bind fun v4=>
 (bif (bif v3 then v4 else false)then(n82 N (a0.2.2.2.2.1,(-1),4294967295))else some false).bind fun v5=>
 aJy (bif (bif v3 then v4 else false)then v5 else false) fun v6=>
 aJy (a0.2.2.2.2.2.1==(-1)) fun v7=>
 (bif ((!v7)&&v6)then(n84 N a0.2.2.2.2.2.1)else some false).bind fun v8=>
 aJy (bif v6 then(bif v7 then true else v8)else false) fun v9=>
 (bif v9 then(n85 N a0.2.2.2.2.2.2.1)else some false).bind fun v10=>
 (bif (bif v9 then v10 else false)then(n86 N a0.2.2.2.2.2.2.2.1)else some false).bind fun v11=>
 aJy (bif (bif v9 then v10 else false)then v11 else false) fun v12=>
 (bif v12 then(n87 N a0.2.2.2.2.2.2.2.2)else some false).bind fun v13=>
 aJy (bif v12 then v13 else false) fun v14=>
 some v14:=by kernel_rfl
theorem e48(N:Nat)(a0:a2j):n48 (N+1) a0=
 (n45 N a0.1).bind fun v0=>
 aJy (decide (a0.2.2.2.2.1<0)) fun v1=>
 aJy (bif (!v0)then true else v1) fun v2=>
 aJy (decide (a0.2.2.2.2.1>60)) fun v3=>
 aJy (decide ((aJO a0.2.2.2.2.2.1)>64)) fun v4=>
 aJy (bif (bif v2 then true else v3)then true else v4) fun v5=>
 aJy (decide ((aJO a0.2.2.2.2.2.2)>64)) fun v6=>
 bif (bif v5 then true else v6)then(some 33)else(aBJ (fun(p7:a2j)=>
 aBJ (fun(p9:Unit)=>
 some 0) fun j10=>
 eG N (fun(p11:(a2j×(List a0C×a0C)))=>
 aJy (decide (p11.2.2.2<p11.2.2.1)) fun v12=>
 bif v12 then((aEU p11.2.1 p11.2.2.2).bind fun v13=>
 (n45 N v13.1).bind fun v14=>
 aJy (decide (p11.2.2.2>0)) fun v15=>
 aJy (IntKind.i64.wrap (p11.2.2.2-1)) fun v16=>
 (bif (v15&&(!(!v14)))then(aEU p11.1.2.2.2.2.2.2 v16)else some (0,0)).bind fun v17=>
 aJy (bif v15 then(decide (v17.1>=v13.1))else false) fun v18=>
 aJy (bif (!v14)then true else v18) fun v19=>
 aJy (decide (v13.2<(-1000))) fun v20=>
 aJy (decide (v13.2>1000)) fun v21=>
 aJy (bif (bif v19 then true else v20)then true else v21) fun v22=>
 bif v22 then(lJ (some 33))else(aJy (IntKind.i64.wrap (p11.2.2.2+1)) fun v23=>
 tN (p11.1,p11.2.1,p11.2.2.1,v23)))else(lJ (j10 ()))) (p7,p7.2.2.2.2.2.2,(aJO p7.2.2.2.2.2.2),0)) fun j8=>
 eG N (fun(p24:(a2j×(List Int×a0C)))=>
 aJy (decide (p24.2.2.2<p24.2.2.1)) fun v25=>
 bif v25 then((aEU p24.2.1 p24.2.2.2).bind fun v26=>
 (n45 N v26).bind fun v27=>
 aJy (decide (p24.2.2.2>0)) fun v28=>
 aJy (IntKind.i64.wrap (p24.2.2.2-1)) fun v29=>
 (bif (v28&&(!(!v27)))then(aEU p24.1.2.2.2.2.2.1 v29)else some 0).bind fun v30=>
 aJy (bif v28 then(decide (v30>=v26))else false) fun v31=>
 aJy (bif (!v27)then true else v31) fun v32=>
 bif v32 then(lJ (some 33))else(aJy (IntKind.i64.wrap (p24.2.2.2+1)) fun v33=>
 tN (p24.1,p24.2.1,p24.2.2.1,v33)))else(lJ (j8 p24.1))) (a0,a0.2.2.2.2.2.1,(aJO a0.2.2.2.2.2.1),0)):=by kernel_rfl
theorem e50(N:Nat)(a0:Int)(a1:Int)(a2:a3i):n50 (N+1) (a0,a1,a2)=
 (n91 N a0).bind fun v0=>
 (bif (!(!v0))then(n92 N a1)else some false).bind fun v1=>
 aJy (bif (!v0)then true else(!v1)) fun v2=>
 bif v2 then(aJy ([]:List a1n) fun v3=>
 aJy ([]:List a1Q) fun v4=>
 aJy ([]:List a3p) fun v5=>
 some ((0,v3,(false,0,0),0,0,0,([]:List a0C),v4,v5),1))else(aJy (a2.2.2.2.2.2.1 != (-1)) fun v6=>
 aJy (bif (a0==0)then true else(a0==1)) fun v7=>
 aJy (bif v6 then(!v7)else false) fun v8=>
 bif v8 then(aJy ([]:List a1n) fun v9=>
 aJy ([]:List a1Q) fun v10=>
 aJy ([]:List a3p) fun v11=>
 some ((0,v9,(false,0,0),0,0,0,([]:List a0C),v10,v11),30))else((n39 N a2).bind fun v12=>
 aJy (bif v7 then true else(a0==4)) fun v13=>
 aJy (bif (!v6)then v13 else false) fun v14=>
 aBJ (fun(p15:(a3i×a3i))=>
 some (p15.2,0)) fun j16=>
 bif v14 then(j16 ((0,([]:List a1n),(false,0,0),0,0,0,([]:List a0C),([]:List a1Q),([]:List a3p)),v12.1,v12.2.1,v12.2.2.1,v12.2.2.2.1,v12.2.2.2.2.1,a1,v12.2.2.2.2.2.2))else(j16 ((0,([]:List a1n),(false,0,0),0,0,0,([]:List a0C),([]:List a1Q),([]:List a3p)),v12)))):=by kernel_rfl
theorem e57(N:Nat)(a0:List a1n):n57 (N+1) a0=
 aBJ (fun(p0:Int)=>
 some (decide (p0<=64))) fun j1=>
 eG N (fun(p2:(List a1n×a7a))=>
 aJy (decide (p2.2.2.2.2<p2.2.2.2.1)) fun v3=>
 bif v3 then(aBJ (fun(p4:(List a1n×a7a))=>
 aJy (IntKind.i64.wrap (p4.2.2.2.2+1)) fun v6=>
 tN (p4.1,p4.2.1,p4.2.2.1,p4.2.2.2.1,v6)) fun j5=>
 (aEU p2.2.2.1 p2.2.2.2.2).bind fun v7=>
 aJy (decide (p2.2.2.2.2>0)) fun v8=>
 aJy (bif v8 then(!v7.1)else false) fun v9=>
 aJy (IntKind.i64.wrap (p2.2.2.2.2-1)) fun v10=>
 (bif (v9&&(!((aJO v7.2)==0)))then(aEU p2.1 v10)else some (false,([]:List Int))).bind fun v11=>
 aJy (bif v9 then(!v11.1)else false) fun v12=>
 aJy (bif ((aJO v7.2)==0)then true else v12) fun v13=>
 bif v13 then(lJ (some false))else(aBJ (fun(p14:(List a1n×(Int×(a1n×(List a1n×a0C)))))=>
 aJy (IntKind.i64.wrap (p14.2.1+(aJO p14.2.2.1.2))) fun v16=>
 j5 (p14.1,v16,p14.2.2.2.1,p14.2.2.2.2.1,p14.2.2.2.2.2)) fun j15=>
 eG N (fun(p17:(List a1n×(Int×(a1n×(List a1n×(Int×(Int×(List Int×a0C))))))))=>
 aJy (decide (p17.2.2.2.2.2.2.2.2<p17.2.2.2.2.2.2.2.1)) fun v18=>
 bif v18 then((aEU p17.2.2.2.2.2.2.1 p17.2.2.2.2.2.2.2.2).bind fun v19=>
 aJy (decide (v19>4294967295)) fun v20=>
 aJy (bif (decide (v19<1))then true else v20) fun v21=>
 aJy (decide (p17.2.2.2.2.2.2.2.2>0)) fun v22=>
 aJy (bif p17.2.2.1.1 then v22 else false) fun v23=>
 aJy (IntKind.i64.wrap (p17.2.2.2.2.2.2.2.2-1)) fun v24=>
 (bif (v23&&(!v21))then(aEU p17.2.2.1.2 v24)else some 0).bind fun v25=>
 aJy (bif v23 then(decide (v25>=v19))else false) fun v26=>
 bif (bif v21 then true else v26)then(lJ (lJ (some false)))else(aJy (IntKind.i64.wrap (p17.2.2.2.2.2.2.2.2+1)) fun v27=>
 tN (p17.1,p17.2.1,p17.2.2.1,p17.2.2.2.1,p17.2.2.2.2.1,p17.2.2.2.2.2.1,p17.2.2.2.2.2.2.1,p17.2.2.2.2.2.2.2.1,v27)))else(lJ (j15 (p17.1,p17.2.1,p17.2.2.1,p17.2.2.2.1,p17.2.2.2.2.1,p17.2.2.2.2.2.1)))) (p2.1,p2.2.1,v7,p2.2.2.1,p2.2.2.2.1,p2.2.2.2.2,v7.2,(aJO v7.2),0)))else(lJ (j1 p2.2.1))) (a0,0,a0,(aJO a0),0):=by kernel_rfl
theorem e58(N:Nat)(a0:(Bool×Int×Int)):n58 (N+1) a0=
 aJy (decide (a0.2.2<4294967296)) fun v0=>
 aJy (bif (a0.2.1==0)then v0 else false) fun v1=>
 some (bif a0.1 then true else v1):=by kernel_rfl
theorem e59(N:Nat)(a0:List a0C):n59 (N+1) a0=
 aBJ (fun(p0:List a0C)=>
 aJy (decide ((aJO p0)<=64)) fun v2=>
 some v2) fun j1=>
 eG N (fun(p3:(List a0C×(List a0C×a0C)))=>
 aJy (decide (p3.2.2.2<p3.2.2.1)) fun v4=>
 bif v4 then((aEU p3.2.1 p3.2.2.2).bind fun v5=>
 (n97 N v5).bind fun v6=>
 aJy (decide (p3.2.2.2>0)) fun v7=>
 aJy (IntKind.i64.wrap (p3.2.2.2-1)) fun v8=>
 (bif (v7&&(!(!v6)))then(aEU p3.1 v8)else some (0,0)).bind fun v9=>
 (bif (v7&&(!(!v6)))then(n98 N (v9,v5))else some false).bind fun v10=>
 aJy (bif v7 then(!v10)else false) fun v11=>
 aJy (bif (!v6)then true else v11) fun v12=>
 bif v12 then(lJ (some false))else(aJy (IntKind.i64.wrap (p3.2.2.2+1)) fun v13=>
 tN (p3.1,p3.2.1,p3.2.2.1,v13)))else(lJ (j1 p3.1))) (a0,a0,(aJO a0),0):=by kernel_rfl
theorem e60(N:Nat)(a0:List a1Q):n60 (N+1) a0=
 aBJ (fun(p0:List a1Q)=>
 aJy (decide ((aJO p0)<=64)) fun v2=>
 some v2) fun j1=>
 eG N (fun(p3:(List a1Q×(List a1Q×a0C)))=>
 aJy (decide (p3.2.2.2<p3.2.2.1)) fun v4=>
 bif v4 then((aEU p3.2.1 p3.2.2.2).bind fun v5=>
 (n99 N v5).bind fun v6=>
 aJy (decide (p3.2.2.2>0)) fun v7=>
 aJy (IntKind.i64.wrap (p3.2.2.2-1)) fun v8=>
 (bif (v7&&(!(!v6)))then(aEU p3.1 v8)else some (0,0,0)).bind fun v9=>
 (bif (v7&&(!(!v6)))then(n100 N (v9,v5))else some false).bind fun v10=>
 aJy (bif v7 then(!v10)else false) fun v11=>
 aJy (bif (!v6)then true else v11) fun v12=>
 bif v12 then(lJ (some false))else(aJy (IntKind.i64.wrap (p3.2.2.2+1)) fun v13=>
 tN (p3.1,p3.2.1,p3.2.2.1,v13)))else(lJ (j1 p3.1))) (a0,a0,(aJO a0),0):=by kernel_rfl
theorem e61(N:Nat)(a0:List a1n):n61 (N+1) a0=
 aBJ (fun(p0:List Int)=>
 some p0) fun j1=>
 eG N (fun(p2:(List Int×(List a1n×a0C)))=>
 aJy (decide (p2.2.2.2<p2.2.2.1)) fun v3=>
 bif v3 then((aEU p2.2.1 p2.2.2.2).bind fun v4=>
 (aH3 8 p2.1 v4.2).bind fun v5=>
 aJy (IntKind.i64.wrap (p2.2.2.2+1)) fun v6=>
 tN (v5,p2.2.1,p2.2.2.1,v6))else(lJ (j1 p2.1))) (([]:List Int),a0,(aJO a0),0):=by kernel_rfl
theorem e62(N:Nat)(a0:Int):n62 (N+1) a0=
 bif (decide (a0>=6))then(aJy (aIc IntKind.u64 (IntKind.u64.wrap a0) 16) fun v0=>
 aJy (bits .or IntKind.u64 2306139568115548160 v0) fun v1=>
 some ((true,v1,0),48))else(aJy (aIc IntKind.u64 (IntKind.u64.wrap a0) 16) fun v2=>
 aJy (bits .or IntKind.u64 167772160 v2) fun v3=>
 some ((false,0,v3),16)):=by kernel_rfl
theorem e67(N:Nat)(a0:Int)(a1:Int)(a2:a3i):n67 (N+1) (a0,a1,a2)=
 (n68 N (a2.2.2.2.2.2.2.1,a0,a1)).bind fun v0=>
 some (v0,a2):=by kernel_rfl
theorem e68(N:Nat)(a0:List a0C)(a1:a0C):n68 (N+1) (a0,a1)=
 (n101 N (a0,a1)).bind fun v0=>
 some v0:=by kernel_rfl
theorem e69(N:Nat)(a0:Int)(a1:Int)(a2:a3i)(a3:Int):n69 (N+1) (a0,a1,a2,a3)=
 (n70 N (a2.2.2.2.2.2.2.2.1,a3,a0,a1)).bind fun v0=>
 some (v0,a2,a3):=by kernel_rfl
theorem e70(N:Nat)(a0:List a1Q)(a1:a1Q):n70 (N+1) (a0,a1)=
 (n102 N (a0,a1)).bind fun v0=>
 some v0:=by kernel_rfl
theorem e71(N:Nat)(a0:List Int)(a1:Int):n71 (N+1) (a0,a1)=
 aBJ (fun(p0:Unit)=>
 some (-1)) fun j1=>
 eG N (fun(p2:(List Int×(Int×a0C)))=>
 aJy (decide (p2.2.2.2<p2.2.2.1)) fun v3=>
 bif v3 then((aEU p2.1 p2.2.2.2).bind fun v4=>
 bif (p2.2.1==v4)then(lJ (some p2.2.2.2))else(aJy (IntKind.i64.wrap (p2.2.2.2+1)) fun v5=>
 tN (p2.1,p2.2.1,p2.2.2.1,v5)))else(lJ (j1 ()))) (a0,a1,(aJO a0),0):=by kernel_rfl
theorem e72(N:Nat)(a0:List a1n):n72 (N+1) a0=
 aBJ (fun(p0:List Int)=>
 some p0) fun j1=>
 eG N (fun(p2:(List Int×(List a1n×a0C)))=>
 aJy (decide (p2.2.2.2<p2.2.2.1)) fun v3=>
 bif v3 then((aEU p2.2.1 p2.2.2.2).bind fun v4=>
 (aH3 8 p2.1 v4.2).bind fun v5=>
 aJy (IntKind.i64.wrap (p2.2.2.2+1)) fun v6=>
 tN (v5,p2.2.1,p2.2.2.1,v6))else(lJ (j1 p2.1))) (([]:List Int),a0,(aJO a0),0):=by kernel_rfl
theorem e73(N:Nat)(a0:List Int):n73 (N+1) a0=
 (aH3 8 ([]:List Int) a0).bind fun v0=>
 some v0:=by kernel_rfl
theorem e74(N:Nat)(a0:List Int):n74 (N+1) a0=
 (aH3 1 ([]:List Int) a0).bind fun v0=>
 some v0:=by kernel_rfl
theorem e75(N:Nat)(a0:List a0C):n75 (N+1) a0=
 (aH3 16 ([]:List a0C) a0).bind fun v0=>
 some v0:=by kernel_rfl
theorem e76(N:Nat)(a0:List a1Q):n76 (N+1) a0=
 (aH3 24 ([]:List a1Q) a0).bind fun v0=>
 some v0:=by kernel_rfl
theorem e79(N:Nat)(a0:(Bool×Int×Int)):n79 (N+1) a0=
 aJy (decide (a0.2.2<4294967296)) fun v0=>
 aJy (bif (a0.2.1==0)then v0 else false) fun v1=>
 some (bif a0.1 then true else v1):=by kernel_rfl
theorem e80(N:Nat)(a0:(Bool×Int×Int)):n80 (N+1) a0=
 bif a0.1 then(some 128)else(some 32):=by kernel_rfl
theorem e81(N:Nat)(a0:(Bool×Int×Int))(a1:Int):n81 (N+1) (a0,a1)=
 (n80 N a0).bind fun v0=>
 (n103 N (IntKind.i64.wrap (v0-a1))).bind fun v1=>
 aJy (bits .andNot IntKind.u64 a0.2.1 v1.1) fun v2=>
 aJy (bits .andNot IntKind.u64 a0.2.2 v1.2) fun v3=>
 some (a0.1,v2,v3):=by kernel_rfl
theorem e82(N:Nat)(a0:Int)(a1:Int)(a2:Int):n82 (N+1) (a0,a1,a2)=
 aJy (bif (decide (a0>=a1))then(decide (a0<=a2))else false) fun v0=>
 some v0:=by kernel_rfl
theorem e83(N:Nat)(a0:List a1n):n83 (N+1) a0=
 aBJ (fun(p0:Int)=>
 some (decide (p0<=64))) fun j1=>
 eG N (fun(p2:(List a1n×a7a))=>
 aJy (decide (p2.2.2.2.2<p2.2.2.2.1)) fun v3=>
 bif v3 then(aBJ (fun(p4:(List a1n×a7a))=>
 aJy (IntKind.i64.wrap (p4.2.2.2.2+1)) fun v6=>
 tN (p4.1,p4.2.1,p4.2.2.1,p4.2.2.2.1,v6)) fun j5=>
 (aEU p2.2.2.1 p2.2.2.2.2).bind fun v7=>
 aJy (decide (p2.2.2.2.2>0)) fun v8=>
 aJy (bif v8 then(!v7.1)else false) fun v9=>
 aJy (IntKind.i64.wrap (p2.2.2.2.2-1)) fun v10=>
 (bif (v9&&(!((aJO v7.2)==0)))then(aEU p2.1 v10)else some (false,([]:List Int))).bind fun v11=>
 aJy (bif v9 then(!v11.1)else false) fun v12=>
 aJy (bif ((aJO v7.2)==0)then true else v12) fun v13=>
 bif v13 then(lJ (some false))else(aBJ (fun(p14:(List a1n×(Int×(a1n×(List a1n×a0C)))))=>
 aJy (IntKind.i64.wrap (p14.2.1+(aJO p14.2.2.1.2))) fun v16=>
 j5 (p14.1,v16,p14.2.2.2.1,p14.2.2.2.2.1,p14.2.2.2.2.2)) fun j15=>
 eG N (fun(p17:(List a1n×(Int×(a1n×(List a1n×(Int×(Int×(List Int×a0C))))))))=>
 aJy (decide (p17.2.2.2.2.2.2.2.2<p17.2.2.2.2.2.2.2.1)) fun v18=>
 bif v18 then((aEU p17.2.2.2.2.2.2.1 p17.2.2.2.2.2.2.2.2).bind fun v19=>
 (n84 N v19).bind fun v20=>
 aJy (decide (p17.2.2.2.2.2.2.2.2>0)) fun v21=>
 aJy (bif p17.2.2.1.1 then v21 else false) fun v22=>
 aJy (IntKind.i64.wrap (p17.2.2.2.2.2.2.2.2-1)) fun v23=>
 (bif (v22&&(!(!v20)))then(aEU p17.2.2.1.2 v23)else some 0).bind fun v24=>
 aJy (bif v22 then(decide (v24>=v19))else false) fun v25=>
 aJy (bif (!v20)then true else v25) fun v26=>
 bif v26 then(lJ (lJ (some false)))else(aJy (IntKind.i64.wrap (p17.2.2.2.2.2.2.2.2+1)) fun v27=>
 tN (p17.1,p17.2.1,p17.2.2.1,p17.2.2.2.1,p17.2.2.2.2.1,p17.2.2.2.2.2.1,p17.2.2.2.2.2.2.1,p17.2.2.2.2.2.2.2.1,v27)))else(lJ (j15 (p17.1,p17.2.1,p17.2.2.1,p17.2.2.2.1,p17.2.2.2.2.1,p17.2.2.2.2.2.1)))) (p2.1,p2.2.1,v7,p2.2.2.1,p2.2.2.2.1,p2.2.2.2.2,v7.2,(aJO v7.2),0)))else(lJ (j1 p2.2.1))) (a0,0,a0,(aJO a0),0):=by kernel_rfl
theorem e84(N:Nat)(a0:Int):n84 (N+1) a0=
 aJy (decide (a0<=4294967295)) fun v0=>
 aJy (bif (decide (a0>=1))then v0 else false) fun v1=>
 some v1:=by kernel_rfl
theorem e85(N:Nat)(a0:List a0C):n85 (N+1) a0=
 (n104 N (a0,(),())).bind fun v0=>
 some v0:=by kernel_rfl
theorem e86(N:Nat)(a0:List a1Q):n86 (N+1) a0=
 (n107 N (a0,(),())).bind fun v0=>
 some v0:=by kernel_rfl
theorem e87(N:Nat)(a0:List a3p):n87 (N+1) a0=
 aBJ (fun(p0:List a3p)=>
 aJy (decide ((aJO p0)<=8)) fun v2=>
 some v2) fun j1=>
 eG N (fun(p3:(List a3p×(List a3p×a0C)))=>
 aJy (decide (p3.2.2.2<p3.2.2.1)) fun v4=>
 bif v4 then((aEU p3.2.1 p3.2.2.2).bind fun v5=>
 (n110 N v5.2.1).bind fun v6=>
 (bif (!(!v6))then(n82 N (v5.2.1,1,255))else some false).bind fun v7=>
 aJy (bif (!v6)then true else(!v7)) fun v8=>
 aJy (bif v8 then true else(v5.1 != 224)) fun v9=>
 aJy (decide ((aJO v5.2.2)>255)) fun v10=>
 aJy (decide (p3.2.2.2>0)) fun v11=>
 aJy (IntKind.i64.wrap (p3.2.2.2-1)) fun v12=>
 (bif (v11&&(!(bif v9 then true else v10)))then(aEU p3.1 v12)else some (0,0,([]:List Int))).bind fun v13=>
 aJy (bif v11 then(decide (v13.2.1>=v5.2.1))else false) fun v14=>
 aJy (bif (bif v9 then true else v10)then true else v14) fun v15=>
 bif v15 then(lJ (some false))else(aJy (IntKind.i64.wrap (p3.2.2.2+1)) fun v16=>
 tN (p3.1,p3.2.1,p3.2.2.1,v16)))else(lJ (j1 p3.1))) (a0,a0,(aJO a0),0):=by kernel_rfl
theorem e91(N:Nat)(a0:Int):n91 (N+1) a0=
 (bif (decide (a0>=0))then(n116 N ())else some (0,0,0,0,0)).bind fun v0=>
 aJy (bif (decide (a0>=0))then(decide (a0<5))else false) fun v1=>
 some v1:=by kernel_rfl
theorem e92(N:Nat)(a0:Int):n92 (N+1) a0=
 aJy (decide (a0<=4294967295)) fun v0=>
 aJy (bif (decide (a0>=1))then v0 else false) fun v1=>
 some v1:=by kernel_rfl
theorem e99(N:Nat)(a0:a1Q):n99 (N+1) a0=
 aJy (decide (a0.1<=4294967295)) fun v0=>
 aJy (bif (decide (a0.1>=0))then v0 else false) fun v1=>
 aJy (decide (a0.2.1>=0)) fun v2=>
 aJy (decide (a0.2.1<=4294967295)) fun v3=>
 aJy (bif (bif v1 then v2 else false)then v3 else false) fun v4=>
 aJy (decide (a0.2.2>=0)) fun v5=>
 aJy (decide (a0.2.2<=4294967295)) fun v6=>
 aJy (bif (bif v4 then v5 else false)then v6 else false) fun v7=>
 some v7:=by kernel_rfl
theorem e101(N:Nat)(a0:List a0C)(a1:a0C):n101 (N+1) (a0,a1)=
 (n121 N (a0,a1)).bind fun v0=>
 some (decide (v0>=0)):=by kernel_rfl
theorem e102(N:Nat)(a0:List a1Q)(a1:a1Q):n102 (N+1) (a0,a1)=
 (n122 N (a0,a1)).bind fun v0=>
 some (decide (v0>=0)):=by kernel_rfl
theorem e103(N:Nat)(a0:Int):n103 (N+1) a0=
 bif (decide (a0>64))then(aJy (IntKind.i64.wrap (a0-64)) fun v0=>
 (if(IntKind.u64.wrap v0)<0 then none else some (aIc IntKind.u64 1 (IntKind.u64.wrap v0).toNat)).bind fun v1=>
 aJy (IntKind.u64.wrap (v1-1)) fun v2=>
 some (v2,18446744073709551615))else((if(IntKind.u64.wrap a0)<0 then none else some (aIc IntKind.u64 1 (IntKind.u64.wrap a0).toNat)).bind fun v3=>
 aJy (IntKind.u64.wrap (v3-1)) fun v4=>
 some (0,v4)):=by kernel_rfl
theorem e104(N:Nat)(a0:List a0C)(a1:Unit)(a2:Unit):n104 (N+1) (a0,a1,a2)=
 aBJ (fun(p0:List a0C)=>
 aJy (decide ((aJO p0)<=64)) fun v2=>
 some v2) fun j1=>
 eG N (fun(p3:(List a0C×(List a0C×a0C)))=>
 aJy (decide (p3.2.2.2<p3.2.2.1)) fun v4=>
 bif v4 then((aEU p3.2.1 p3.2.2.2).bind fun v5=>
 (n105 N v5).bind fun v6=>
 aJy (decide (p3.2.2.2>0)) fun v7=>
 aJy (IntKind.i64.wrap (p3.2.2.2-1)) fun v8=>
 (bif (v7&&(!(!v6)))then(aEU p3.1 v8)else some (0,0)).bind fun v9=>
 (bif (v7&&(!(!v6)))then(n106 N (v9,v5))else some 0).bind fun v10=>
 aJy (bif v7 then(decide (v10>=0))else false) fun v11=>
 aJy (bif (!v6)then true else v11) fun v12=>
 bif v12 then(lJ (some false))else(aJy (IntKind.i64.wrap (p3.2.2.2+1)) fun v13=>
 tN (p3.1,p3.2.1,p3.2.2.1,v13)))else(lJ (j1 p3.1))) (a0,a0,(aJO a0),0):=by kernel_rfl
theorem e107(N:Nat)(a0:List a1Q)(a1:Unit)(a2:Unit):n107 (N+1) (a0,a1,a2)=
 aBJ (fun(p0:List a1Q)=>
 aJy (decide ((aJO p0)<=64)) fun v2=>
 some v2) fun j1=>
 eG N (fun(p3:(List a1Q×(List a1Q×a0C)))=>
 aJy (decide (p3.2.2.2<p3.2.2.1)) fun v4=>
 bif v4 then((aEU p3.2.1 p3.2.2.2).bind fun v5=>
 (n108 N v5).bind fun v6=>
 aJy (decide (p3.2.2.2>0)) fun v7=>
 aJy (IntKind.i64.wrap (p3.2.2.2-1)) fun v8=>
 (bif (v7&&(!(!v6)))then(aEU p3.1 v8)else some (0,0,0)).bind fun v9=>
 (bif (v7&&(!(!v6)))then(n109 N (v9,v5))else some 0).bind fun v10=>
 aJy (bif v7 then(decide (v10>=0))else false) fun v11=>
 aJy (bif (!v6)then true else v11) fun v12=>
 bif v12 then(lJ (some false))else(aJy (IntKind.i64.wrap (p3.2.2.2+1)) fun v13=>
 tN (p3.1,p3.2.1,p3.2.2.1,v13)))else(lJ (j1 p3.1))) (a0,a0,(aJO a0),0):=by kernel_rfl
theorem e116(N:Nat):n116 (N+1) ()=
 some (3,2,1,0,4):=by kernel_rfl
theorem e121(N:Nat)(a0:List a0C)(a1:a0C):n121 (N+1) (a0,a1)=
 aBJ (fun(p0:Unit)=>
 some (-1)) fun j1=>
 eG N (fun(p2:(List a0C×(a0C×a0C)))=>
 aJy (decide (p2.2.2.2<p2.2.2.1)) fun v3=>
 bif v3 then((aEU p2.1 p2.2.2.2).bind fun v4=>
 aJy (false != ((p2.2.1.1==v4.1)&&(p2.2.1.2==v4.2))) fun v5=>
 bif v5 then(lJ (some p2.2.2.2))else(aJy (IntKind.i64.wrap (p2.2.2.2+1)) fun v6=>
 tN (p2.1,p2.2.1,p2.2.2.1,v6)))else(lJ (j1 ()))) (a0,a1,(aJO a0),0):=by kernel_rfl
theorem e122(N:Nat)(a0:List a1Q)(a1:a1Q):n122 (N+1) (a0,a1)=
 aBJ (fun(p0:Unit)=>
 some (-1)) fun j1=>
 eG N (fun(p2:(List a1Q×(a1Q×a0C)))=>
 aJy (decide (p2.2.2.2<p2.2.2.1)) fun v3=>
 bif v3 then((aEU p2.1 p2.2.2.2).bind fun v4=>
 aJy (false != ((p2.2.1.1==v4.1)&&((p2.2.1.2.1==v4.2.1)&&(p2.2.1.2.2==v4.2.2)))) fun v5=>
 bif v5 then(lJ (some p2.2.2.2))else(aJy (IntKind.i64.wrap (p2.2.2.2+1)) fun v6=>
 tN (p2.1,p2.2.1,p2.2.2.1,v6)))else(lJ (j1 ()))) (a0,a1,(aJO a0),0):=by kernel_rfl
end Go.Proofs.YtgfmodmeimhhpaaGreatDoor
