/- The table is the program's, and the readings are the machine's. -/
import Derived.Test.YtgfmodmeimhhpaaGreatDoorNK1
import Derived.Test.YtgfmodmeimhhpaaGreatDoorHSX
import Derived.Test.YtgfmodmeimhhpaaGreatDoorHAX
import Derived.Test.YtgfmodmeimhhpaaGreatDoorHPS
namespace Go.Proofs.YtgfmodmeimhhpaaGreatDoor
open Go.VM
set_option maxRecDepth 100000
abbrev Ow:World->Prop:=Om Tryz.prog false false none
theorem prim16:PrimOk Ow Tryz.prog 16 [] (pM [.int .i64,tyAttr] gStrip enStrip):=primStrip
theorem prim28:PrimBOk Ow Tryz.prog 28 (pD [.int .i64,.bool] gAttrs enAttrs):=primAttrs
theorem prim49:PrimOk Ow Tryz.prog 49 [] (pH [.sl tyS,.int .i64,.int .i64] gPrep0 enPrep0):=primPrep0
theorem prim110:PrimOk Ow Tryz.prog 110 [] (pH [.int .i64] gUnk enUnk):=primUnk
theorem tableOk:rJ Ow Tryz.prog FT:=by
 intro f e h;unfold FT at h;split at h
 .cases h;exact⟨Tryz.f3,hh3,Tryz.func3,tab3⟩
 .cases h;exact⟨Tryz.f6,hh6,Tryz.func6,tab6⟩
 .cases h;exact⟨Tryz.f7,hh7,Tryz.func7,tab7⟩
 .cases h;exact⟨Tryz.f8,hh8,Tryz.func8,tab8⟩
 .cases h;exact⟨Tryz.f9,hh9,Tryz.func9,tab9⟩
 .cases h;exact⟨Tryz.f10,hh10,Tryz.func10,tab10⟩
 .cases h;exact⟨Tryz.f11,hh11,Tryz.func11,tab11⟩
 .cases h;exact⟨Tryz.f12,hh12,Tryz.func12,tab12⟩
 .cases h;exact⟨Tryz.f13,hh13,Tryz.func13,tab13⟩
 .cases h;exact⟨Tryz.f14,hh14,Tryz.func14,tab14⟩
 .cases h;exact⟨Tryz.f15,hh15,Tryz.func15,tab15⟩
 .cases h;exact⟨Tryz.f17,hh17,Tryz.func17,tab17⟩
 .cases h;exact⟨Tryz.f18,hh18,Tryz.func18,tab18⟩
 .cases h;exact⟨Tryz.f21,hh21,Tryz.func21,tab21⟩
 .cases h;exact⟨Tryz.f24,hh24,Tryz.func24,tab24⟩
 .cases h;exact⟨Tryz.f26,hh26,Tryz.func26,tab26⟩
 .cases h;exact⟨Tryz.f27,hh27,Tryz.func27,tab27⟩
 .cases h;exact⟨Tryz.f29,hh29,Tryz.func29,tab29⟩
 .cases h;exact⟨Tryz.f30,hh30,Tryz.func30,tab30⟩
 .cases h;exact⟨Tryz.f31,hh31,Tryz.func31,tab31⟩
 .cases h;exact⟨Tryz.f32,hh32,Tryz.func32,tab32⟩
 .cases h;exact⟨Tryz.f33,hh33,Tryz.func33,tab33⟩
 .cases h;exact⟨Tryz.f34,hh34,Tryz.func34,tab34⟩
 .cases h;exact⟨Tryz.f35,hh35,Tryz.func35,tab35⟩
 .cases h;exact⟨Tryz.f36,hh36,Tryz.func36,tab36⟩
 .cases h;exact⟨Tryz.f37,hh37,Tryz.func37,tab37⟩
 .cases h;exact⟨Tryz.f38,hh38,Tryz.func38,tab38⟩
 .cases h;exact⟨Tryz.f39,hh39,Tryz.func39,tab39⟩
 .cases h;exact⟨Tryz.f44,hh44,Tryz.func44,tab44⟩
 .cases h;exact⟨Tryz.f45,hh45,Tryz.func45,tab45⟩
 .cases h;exact⟨Tryz.f46,hh46,Tryz.func46,tab46⟩
 .cases h;exact⟨Tryz.f47,hh47,Tryz.func47,tab47⟩
 .cases h;exact⟨Tryz.f48,hh48,Tryz.func48,tab48⟩
 .cases h;exact⟨Tryz.f50,hh50,Tryz.func50,tab50⟩
 .cases h;exact⟨Tryz.f61,hh61,Tryz.func61,tab61⟩
 .cases h;exact⟨Tryz.f62,hh62,Tryz.func62,tab62⟩
 .cases h;exact⟨Tryz.f67,hh67,Tryz.func67,tab67⟩
 .cases h;exact⟨Tryz.f68,hh68,Tryz.func68,tab68⟩
 .cases h;exact⟨Tryz.f69,hh69,Tryz.func69,tab69⟩
 .cases h;exact⟨Tryz.f70,hh70,Tryz.func70,tab70⟩
 .cases h;exact⟨Tryz.f71,hh71,Tryz.func71,tab71⟩
 .cases h;exact⟨Tryz.f72,hh72,Tryz.func72,tab72⟩
 .cases h;exact⟨Tryz.f73,hh73,Tryz.func73,tab73⟩
 .cases h;exact⟨Tryz.f74,hh74,Tryz.func74,tab74⟩
 .cases h;exact⟨Tryz.f75,hh75,Tryz.func75,tab75⟩
 .cases h;exact⟨Tryz.f76,hh76,Tryz.func76,tab76⟩
 .cases h;exact⟨Tryz.f79,hh79,Tryz.func79,tab79⟩
 .cases h;exact⟨Tryz.f80,hh80,Tryz.func80,tab80⟩
 .cases h;exact⟨Tryz.f81,hh81,Tryz.func81,tab81⟩
 .cases h;exact⟨Tryz.f82,hh82,Tryz.func82,tab82⟩
 .cases h;exact⟨Tryz.f83,hh83,Tryz.func83,tab83⟩
 .cases h;exact⟨Tryz.f84,hh84,Tryz.func84,tab84⟩
 .cases h;exact⟨Tryz.f85,hh85,Tryz.func85,tab85⟩
 .cases h;exact⟨Tryz.f86,hh86,Tryz.func86,tab86⟩
 .cases h;exact⟨Tryz.f87,hh87,Tryz.func87,tab87⟩
 .cases h;exact⟨Tryz.f91,hh91,Tryz.func91,tab91⟩
 .cases h;exact⟨Tryz.f92,hh92,Tryz.func92,tab92⟩
 .cases h;exact⟨Tryz.f101,hh101,Tryz.func101,tab101⟩
 .cases h;exact⟨Tryz.f102,hh102,Tryz.func102,tab102⟩
 .cases h;exact⟨Tryz.f103,hh103,Tryz.func103,tab103⟩
 .cases h;exact⟨Tryz.f104,hh104,Tryz.func104,tab104⟩
 .cases h;exact⟨Tryz.f105,hh105,Tryz.func105,tab105⟩
 .cases h;exact⟨Tryz.f106,hh106,Tryz.func106,tab106⟩
 .cases h;exact⟨Tryz.f107,hh107,Tryz.func107,tab107⟩
 .cases h;exact⟨Tryz.f108,hh108,Tryz.func108,tab108⟩
 .cases h;exact⟨Tryz.f109,hh109,Tryz.func109,tab109⟩
 .cases h;exact⟨Tryz.f116,hh116,Tryz.func116,tab116⟩
 .cases h;exact⟨Tryz.f121,hh121,Tryz.func121,tab121⟩
 .cases h;exact⟨Tryz.f122,hh122,Tryz.func122,tab122⟩
 .cases h;exact⟨Tryz.f123,hh123,Tryz.func123,tab123⟩
 .cases h;exact⟨Tryz.f124,hh124,Tryz.func124,tab124⟩
 .cases h;exact⟨Tryz.f125,hh125,Tryz.func125,tab125⟩
 .cases h;exact⟨Tryz.f129,hh129,Tryz.func129,tab129⟩
 .cases h;exact⟨Tryz.f130,hh130,Tryz.func130,tab130⟩
 .cases h;exact⟨Tryz.f131,hh131,Tryz.func131,tab131⟩
 .cases h;exact prim16
 .cases h;exact prim28
 .cases h;exact prim49
 .cases h;exact prim110
 .cases h
theorem neOk:∀f,aKG sgN vsN FT f (TN f):=by
 intro f;unfold TN;split
 .exact⟨rfl,chk3⟩
 .exact⟨rfl,chk6⟩
 .exact⟨rfl,chk7⟩
 .exact⟨rfl,chk8⟩
 .exact⟨rfl,chk9⟩
 .exact⟨rfl,chk10⟩
 .exact⟨rfl,chk11⟩
 .exact⟨rfl,chk12⟩
 .exact⟨rfl,chk13⟩
 .exact⟨rfl,chk14⟩
 .exact⟨rfl,chk15⟩
 .exact⟨rfl,chk17⟩
 .exact⟨rfl,chk18⟩
 .exact⟨rfl,chk21⟩
 .exact⟨rfl,chk24⟩
 .exact⟨rfl,chk26⟩
 .exact⟨rfl,chk27⟩
 .exact⟨rfl,chk29⟩
 .exact⟨rfl,chk30⟩
 .exact⟨rfl,chk31⟩
 .exact⟨rfl,chk32⟩
 .exact⟨rfl,chk33⟩
 .exact⟨rfl,chk34⟩
 .exact⟨rfl,chk35⟩
 .exact⟨rfl,chk36⟩
 .exact⟨rfl,chk37⟩
 .exact⟨rfl,chk38⟩
 .exact⟨rfl,chk39⟩
 .exact⟨rfl,chk44⟩
 .exact⟨rfl,chk45⟩
 .exact⟨rfl,chk46⟩
 .exact⟨rfl,chk47⟩
 .exact⟨rfl,chk48⟩
 .exact⟨rfl,chk50⟩
 .exact⟨rfl,chk61⟩
 .exact⟨rfl,chk62⟩
 .exact⟨rfl,chk67⟩
 .exact⟨rfl,chk68⟩
 .exact⟨rfl,chk69⟩
 .exact⟨rfl,chk70⟩
 .exact⟨rfl,chk71⟩
 .exact⟨rfl,chk72⟩
 .exact⟨rfl,chk73⟩
 .exact⟨rfl,chk74⟩
 .exact⟨rfl,chk75⟩
 .exact⟨rfl,chk76⟩
 .exact⟨rfl,chk79⟩
 .exact⟨rfl,chk80⟩
 .exact⟨rfl,chk81⟩
 .exact⟨rfl,chk82⟩
 .exact⟨rfl,chk83⟩
 .exact⟨rfl,chk84⟩
 .exact⟨rfl,chk85⟩
 .exact⟨rfl,chk86⟩
 .exact⟨rfl,chk87⟩
 .exact⟨rfl,chk91⟩
 .exact⟨rfl,chk92⟩
 .exact⟨rfl,chk101⟩
 .exact⟨rfl,chk102⟩
 .exact⟨rfl,chk103⟩
 .exact⟨rfl,chk104⟩
 .exact⟨rfl,chk105⟩
 .exact⟨rfl,chk106⟩
 .exact⟨rfl,chk107⟩
 .exact⟨rfl,chk108⟩
 .exact⟨rfl,chk109⟩
 .exact⟨rfl,chk116⟩
 .exact⟨rfl,chk121⟩
 .exact⟨rfl,chk122⟩
 .exact⟨rfl,chk123⟩
 .exact⟨rfl,chk124⟩
 .exact⟨rfl,chk125⟩
 .exact⟨rfl,chk129⟩
 .exact⟨rfl,chk130⟩
 .exact⟨rfl,chk131⟩
 .exact fun N=>qM_ok (ps:=[.d (.int .i64),.d tyAttr]) (rs:=[(tyAttr,[])]) rfl (aKP rfl) (rsE rfl) hStrip N
 .exact fun N=>qD2_ok (t:=tyAttr) rfl gAttrs_keep hAttrs N
 .exact fun N=>qH_ok (ps:=[.d (.sl tyS),.d (.int .i64),.d (.int .i64)]) (rs:=[(.sl tyS,[]),(.int .i64,[])]) rfl (aKP rfl) (rsE rfl) hPrep0 N
 .exact fun N=>qH_ok (ps:=[.d (.int .i64)]) (rs:=[(.bool,[])]) rfl (aKP rfl) (rsE rfl) hUnk N
 .trivial
theorem sigOk(f:Nat):aAW FT f=vsN f:=by
 unfold vsN;split
 .exact sig3
 .exact sig6
 .exact sig7
 .exact sig8
 .exact sig9
 .exact sig10
 .exact sig11
 .exact sig12
 .exact sig13
 .exact sig14
 .exact sig15
 .exact sig17
 .exact sig18
 .exact sig21
 .exact sig24
 .exact sig26
 .exact sig27
 .exact sig29
 .exact sig30
 .exact sig31
 .exact sig32
 .exact sig33
 .exact sig34
 .exact sig35
 .exact sig36
 .exact sig37
 .exact sig38
 .exact sig39
 .exact sig44
 .exact sig45
 .exact sig46
 .exact sig47
 .exact sig48
 .exact sig50
 .exact sig61
 .exact sig62
 .exact sig67
 .exact sig68
 .exact sig69
 .exact sig70
 .exact sig71
 .exact sig72
 .exact sig73
 .exact sig74
 .exact sig75
 .exact sig76
 .exact sig79
 .exact sig80
 .exact sig81
 .exact sig82
 .exact sig83
 .exact sig84
 .exact sig85
 .exact sig86
 .exact sig87
 .exact sig91
 .exact sig92
 .exact sig101
 .exact sig102
 .exact sig103
 .exact sig104
 .exact sig105
 .exact sig106
 .exact sig107
 .exact sig108
 .exact sig109
 .exact sig116
 .exact sig121
 .exact sig122
 .exact sig123
 .exact sig124
 .exact sig125
 .exact sig129
 .exact sig130
 .exact sig131
 .rfl
 .rfl
 .rfl
 .rfl
 .rename_i h3 h6 h7 h8 h9 h10 h11 h12 h13 h14 h15 h17 h18 h21 h24 h26 h27 h29 h30 h31 h32 h33 h34 h35 h36 h37 h38 h39 h44 h45 h46 h47 h48 h50 h61 h62 h67 h68 h69 h70 h71 h72 h73 h74 h75 h76 h79 h80 h81 h82 h83 h84 h85 h86 h87 h91 h92 h101 h102 h103 h104 h105 h106 h107 h108 h109 h116 h121 h122 h123 h124 h125 h129 h130 h131 h16 h28 h49 h110;have e:FT f=none:=by
   unfold FT;split
   .exact(h3 rfl).elim
   .exact(h6 rfl).elim
   .exact(h7 rfl).elim
   .exact(h8 rfl).elim
   .exact(h9 rfl).elim
   .exact(h10 rfl).elim
   .exact(h11 rfl).elim
   .exact(h12 rfl).elim
   .exact(h13 rfl).elim
   .exact(h14 rfl).elim
   .exact(h15 rfl).elim
   .exact(h17 rfl).elim
   .exact(h18 rfl).elim
   .exact(h21 rfl).elim
   .exact(h24 rfl).elim
   .exact(h26 rfl).elim
   .exact(h27 rfl).elim
   .exact(h29 rfl).elim
   .exact(h30 rfl).elim
   .exact(h31 rfl).elim
   .exact(h32 rfl).elim
   .exact(h33 rfl).elim
   .exact(h34 rfl).elim
   .exact(h35 rfl).elim
   .exact(h36 rfl).elim
   .exact(h37 rfl).elim
   .exact(h38 rfl).elim
   .exact(h39 rfl).elim
   .exact(h44 rfl).elim
   .exact(h45 rfl).elim
   .exact(h46 rfl).elim
   .exact(h47 rfl).elim
   .exact(h48 rfl).elim
   .exact(h50 rfl).elim
   .exact(h61 rfl).elim
   .exact(h62 rfl).elim
   .exact(h67 rfl).elim
   .exact(h68 rfl).elim
   .exact(h69 rfl).elim
   .exact(h70 rfl).elim
   .exact(h71 rfl).elim
   .exact(h72 rfl).elim
   .exact(h73 rfl).elim
   .exact(h74 rfl).elim
   .exact(h75 rfl).elim
   .exact(h76 rfl).elim
   .exact(h79 rfl).elim
   .exact(h80 rfl).elim
   .exact(h81 rfl).elim
   .exact(h82 rfl).elim
   .exact(h83 rfl).elim
   .exact(h84 rfl).elim
   .exact(h85 rfl).elim
   .exact(h86 rfl).elim
   .exact(h87 rfl).elim
   .exact(h91 rfl).elim
   .exact(h92 rfl).elim
   .exact(h101 rfl).elim
   .exact(h102 rfl).elim
   .exact(h103 rfl).elim
   .exact(h104 rfl).elim
   .exact(h105 rfl).elim
   .exact(h106 rfl).elim
   .exact(h107 rfl).elim
   .exact(h108 rfl).elim
   .exact(h109 rfl).elim
   .exact(h116 rfl).elim
   .exact(h121 rfl).elim
   .exact(h122 rfl).elim
   .exact(h123 rfl).elim
   .exact(h124 rfl).elim
   .exact(h125 rfl).elim
   .exact(h129 rfl).elim
   .exact(h130 rfl).elim
   .exact(h131 rfl).elim
   .exact(h16 rfl).elim
   .exact(h28 rfl).elim
   .exact(h49 rfl).elim
   .exact(h110 rfl).elim
   .rfl
  unfold aAW;rw[e]
theorem typed:∀N f,aF7 (aAW FT) (call FT N) f (nfN TN N f):=aIr sigOk neOk
end Go.Proofs.YtgfmodmeimhhpaaGreatDoor
