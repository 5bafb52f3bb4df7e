/- The table is the program's, and the readings are the machine's. -/
import Derived.Test.YtbpocjclcbjggaaGreatDoorNK1
import Derived.Test.YtbpocjclcbjggaaGreatDoorShelf
import Derived.Test.YtbpocjclcbjggaaGreatDoorHOX
namespace Go.Proofs.YtbpocjclcbjggaaGreatDoor
open Go.VM
set_option maxRecDepth 100000
abbrev Ow:World->Prop:=Om Tryz.prog false false none
theorem prim58:PrimOk Ow Tryz.prog 58 [] (pM [tyMe] gOw enOw):=primOw
theorem prim63:PrimOk Ow Tryz.prog 63 [] (pH [.sl tyBi,.int .i64,.fn 39] g63 enN):=primSo63
theorem prim70:PrimOk Ow Tryz.prog 70 [] (pH [tyDb] gDf enB):=primDf
theorem prim75:PrimOk Ow Tryz.prog 75 [] (pH [tyDb] gTw enB):=primTw
theorem prim76:PrimOk Ow Tryz.prog 76 [] (pM [.sl tyMac] gCl (fun vs r=>enCl vs r)):=primCl76
theorem prim77:PrimOk Ow Tryz.prog 77 [] (pM [.sl tyAd] gCl (fun vs r=>enCl vs r)):=primCl77
theorem prim92:PrimOk Ow Tryz.prog 92 [] (pH [.sl tyPo,.int .i64,.fn 61] g92 enN):=primSo92
theorem prim110:PrimOk Ow Tryz.prog 110 [] (pM [.sl (.sl tyMe)] gCat enCat):=primCat
theorem prim133:PrimOk Ow Tryz.prog 133 [] (pF aH0):=by
 obtain⟨c,hb⟩:∃c,Tryz.f133.body=some c:=⟨_,rfl⟩;exact aJK Tryz.func133 hb (by kernel_rfl) (fun s t w h h2 h3=>Tryz.strings_Trim_laid s t w h h2 h3)
theorem tableOk:rJ Ow Tryz.prog FT:=by
 intro f e h;unfold FT at h;split at h
 .cases h;exact⟨Tryz.f6,hh6,Tryz.func6,tab6⟩
 .cases h;exact⟨Tryz.f8,hh8,Tryz.func8,tab8⟩
 .cases h;exact⟨Tryz.f9,hh9,Tryz.func9,tab9⟩
 .cases h;exact⟨Tryz.f11,hh11,Tryz.func11,tab11⟩
 .cases h;exact⟨Tryz.f13,hh13,Tryz.func13,tab13⟩
 .cases h;exact⟨Tryz.f14,hh14,Tryz.func14,tab14⟩
 .cases h;exact⟨Tryz.f15,hh15,Tryz.func15,tab15⟩
 .cases h;exact⟨Tryz.f16,hh16,Tryz.func16,tab16⟩
 .cases h;exact⟨Tryz.f17,hh17,Tryz.func17,tab17⟩
 .cases h;exact⟨Tryz.f18,hh18,Tryz.func18,tab18⟩
 .cases h;exact⟨Tryz.f19,hh19,Tryz.func19,tab19⟩
 .cases h;exact⟨Tryz.f20,hh20,Tryz.func20,tab20⟩
 .cases h;exact⟨Tryz.f21,hh21,Tryz.func21,tab21⟩
 .cases h;exact⟨Tryz.f26,hh26,Tryz.func26,tab26⟩
 .cases h;exact⟨Tryz.f27,hh27,Tryz.func27,tab27⟩
 .cases h;exact⟨Tryz.f28,hh28,Tryz.func28,tab28⟩
 .cases h;exact⟨Tryz.f29,hh29,Tryz.func29,tab29⟩
 .cases h;exact⟨Tryz.f32,hh32,Tryz.func32,tab32⟩
 .cases h;exact⟨Tryz.f33,hh33,Tryz.func33,tab33⟩
 .cases h;exact⟨Tryz.f34,hh34,Tryz.func34,tab34⟩
 .cases h;exact⟨Tryz.f35,hh35,Tryz.func35,tab35⟩
 .cases h;exact⟨Tryz.f36,hh36,Tryz.func36,tab36⟩
 .cases h;exact⟨Tryz.f37,hh37,Tryz.func37,tab37⟩
 .cases h;exact⟨Tryz.f38,hh38,Tryz.func38,tab38⟩
 .cases h;exact⟨Tryz.f39,hh39,Tryz.func39,tab39⟩
 .cases h;exact⟨Tryz.f40,hh40,Tryz.func40,tab40⟩
 .cases h;exact⟨Tryz.f42,hh42,Tryz.func42,tab42⟩
 .cases h;exact⟨Tryz.f43,hh43,Tryz.func43,tab43⟩
 .cases h;exact⟨Tryz.f44,hh44,Tryz.func44,tab44⟩
 .cases h;exact⟨Tryz.f45,hh45,Tryz.func45,tab45⟩
 .cases h;exact⟨Tryz.f46,hh46,Tryz.func46,tab46⟩
 .cases h;exact⟨Tryz.f47,hh47,Tryz.func47,tab47⟩
 .cases h;exact⟨Tryz.f49,hh49,Tryz.func49,tab49⟩
 .cases h;exact⟨Tryz.f50,hh50,Tryz.func50,tab50⟩
 .cases h;exact⟨Tryz.f51,hh51,Tryz.func51,tab51⟩
 .cases h;exact⟨Tryz.f56,hh56,Tryz.func56,tab56⟩
 .cases h;exact⟨Tryz.f57,hh57,Tryz.func57,tab57⟩
 .cases h;exact⟨Tryz.f59,hh59,Tryz.func59,tab59⟩
 .cases h;exact⟨Tryz.f60,hh60,Tryz.func60,tab60⟩
 .cases h;exact⟨Tryz.f61,hh61,Tryz.func61,tab61⟩
 .cases h;exact⟨Tryz.f62,hh62,Tryz.func62,tab62⟩
 .cases h;exact⟨Tryz.f64,hh64,Tryz.func64,tab64⟩
 .cases h;exact⟨Tryz.f65,hh65,Tryz.func65,tab65⟩
 .cases h;exact⟨Tryz.f66,hh66,Tryz.func66,tab66⟩
 .cases h;exact⟨Tryz.f67,hh67,Tryz.func67,tab67⟩
 .cases h;exact⟨Tryz.f68,hh68,Tryz.func68,tab68⟩
 .cases h;exact⟨Tryz.f69,hh69,Tryz.func69,tab69⟩
 .cases h;exact⟨Tryz.f71,hh71,Tryz.func71,tab71⟩
 .cases h;exact⟨Tryz.f72,hh72,Tryz.func72,tab72⟩
 .cases h;exact⟨Tryz.f73,hh73,Tryz.func73,tab73⟩
 .cases h;exact⟨Tryz.f74,hh74,Tryz.func74,tab74⟩
 .cases h;exact⟨Tryz.f79,hh79,Tryz.func79,tab79⟩
 .cases h;exact⟨Tryz.f80,hh80,Tryz.func80,tab80⟩
 .cases h;exact⟨Tryz.f93,hh93,Tryz.func93,tab93⟩
 .cases h;exact⟨Tryz.f96,hh96,Tryz.func96,tab96⟩
 .cases h;exact⟨Tryz.f97,hh97,Tryz.func97,tab97⟩
 .cases h;exact⟨Tryz.f98,hh98,Tryz.func98,tab98⟩
 .cases h;exact⟨Tryz.f99,hh99,Tryz.func99,tab99⟩
 .cases h;exact⟨Tryz.f100,hh100,Tryz.func100,tab100⟩
 .cases h;exact⟨Tryz.f101,hh101,Tryz.func101,tab101⟩
 .cases h;exact⟨Tryz.f102,hh102,Tryz.func102,tab102⟩
 .cases h;exact⟨Tryz.f103,hh103,Tryz.func103,tab103⟩
 .cases h;exact⟨Tryz.f104,hh104,Tryz.func104,tab104⟩
 .cases h;exact⟨Tryz.f105,hh105,Tryz.func105,tab105⟩
 .cases h;exact⟨Tryz.f111,hh111,Tryz.func111,tab111⟩
 .cases h;exact⟨Tryz.f112,hh112,Tryz.func112,tab112⟩
 .cases h;exact⟨Tryz.f113,hh113,Tryz.func113,tab113⟩
 .cases h;exact⟨Tryz.f114,hh114,Tryz.func114,tab114⟩
 .cases h;exact⟨Tryz.f115,hh115,Tryz.func115,tab115⟩
 .cases h;exact⟨Tryz.f116,hh116,Tryz.func116,tab116⟩
 .cases h;exact⟨Tryz.f117,hh117,Tryz.func117,tab117⟩
 .cases h;exact⟨Tryz.f130,hh130,Tryz.func130,tab130⟩
 .cases h;exact⟨Tryz.f131,hh131,Tryz.func131,tab131⟩
 .cases h;exact⟨Tryz.f132,hh132,Tryz.func132,tab132⟩
 .cases h;exact⟨Tryz.f134,hh134,Tryz.func134,tab134⟩
 .cases h;exact⟨Tryz.f135,hh135,Tryz.func135,tab135⟩
 .cases h;exact⟨Tryz.f136,hh136,Tryz.func136,tab136⟩
 .cases h;exact⟨Tryz.f138,hh138,Tryz.func138,tab138⟩
 .cases h;exact⟨Tryz.f139,hh139,Tryz.func139,tab139⟩
 .cases h;exact⟨Tryz.f140,hh140,Tryz.func140,tab140⟩
 .cases h;exact⟨Tryz.f141,hh141,Tryz.func141,tab141⟩
 .cases h;exact⟨Tryz.f142,hh142,Tryz.func142,tab142⟩
 .cases h;exact⟨Tryz.f165,hh165,Tryz.func165,tab165⟩
 .cases h;exact prim58
 .cases h;exact prim63
 .cases h;exact prim70
 .cases h;exact prim75
 .cases h;exact prim76
 .cases h;exact prim77
 .cases h;exact prim92
 .cases h;exact prim110
 .cases h;exact prim133
 .cases h
theorem neOk:∀f,aKG sgN vsN FT f (TN f):=by
 intro f;unfold TN;split
 .exact⟨rfl,chk6⟩
 .exact⟨rfl,chk8⟩
 .exact⟨rfl,chk9⟩
 .exact⟨rfl,chk11⟩
 .exact⟨rfl,chk13⟩
 .exact⟨rfl,chk14⟩
 .exact⟨rfl,chk15⟩
 .exact⟨rfl,chk16⟩
 .exact⟨rfl,chk17⟩
 .exact⟨rfl,chk18⟩
 .exact⟨rfl,chk19⟩
 .exact⟨rfl,chk20⟩
 .exact⟨rfl,chk21⟩
 .exact⟨rfl,chk26⟩
 .exact⟨rfl,chk27⟩
 .exact⟨rfl,chk28⟩
 .exact⟨rfl,chk29⟩
 .exact⟨rfl,chk32⟩
 .exact⟨rfl,chk33⟩
 .exact⟨rfl,chk34⟩
 .exact⟨rfl,chk35⟩
 .exact⟨rfl,chk36⟩
 .exact⟨rfl,chk37⟩
 .exact⟨rfl,chk38⟩
 .exact⟨rfl,chk39⟩
 .exact⟨rfl,chk40⟩
 .exact⟨rfl,chk42⟩
 .exact⟨rfl,chk43⟩
 .exact⟨rfl,chk44⟩
 .exact⟨rfl,chk45⟩
 .exact⟨rfl,chk46⟩
 .exact⟨rfl,chk47⟩
 .exact⟨rfl,chk49⟩
 .exact⟨rfl,chk50⟩
 .exact⟨rfl,chk51⟩
 .exact⟨rfl,chk56⟩
 .exact⟨rfl,chk57⟩
 .exact⟨rfl,chk59⟩
 .exact⟨rfl,chk60⟩
 .exact⟨rfl,chk61⟩
 .exact⟨rfl,chk62⟩
 .exact⟨rfl,chk64⟩
 .exact⟨rfl,chk65⟩
 .exact⟨rfl,chk66⟩
 .exact⟨rfl,chk67⟩
 .exact⟨rfl,chk68⟩
 .exact⟨rfl,chk69⟩
 .exact⟨rfl,chk71⟩
 .exact⟨rfl,chk72⟩
 .exact⟨rfl,chk73⟩
 .exact⟨rfl,chk74⟩
 .exact⟨rfl,chk79⟩
 .exact⟨rfl,chk80⟩
 .exact⟨rfl,chk93⟩
 .exact⟨rfl,chk96⟩
 .exact⟨rfl,chk97⟩
 .exact⟨rfl,chk98⟩
 .exact⟨rfl,chk99⟩
 .exact⟨rfl,chk100⟩
 .exact⟨rfl,chk101⟩
 .exact⟨rfl,chk102⟩
 .exact⟨rfl,chk103⟩
 .exact⟨rfl,chk104⟩
 .exact⟨rfl,chk105⟩
 .exact⟨rfl,chk111⟩
 .exact⟨rfl,chk112⟩
 .exact⟨rfl,chk113⟩
 .exact⟨rfl,chk114⟩
 .exact⟨rfl,chk115⟩
 .exact⟨rfl,chk116⟩
 .exact⟨rfl,chk117⟩
 .exact⟨rfl,chk130⟩
 .exact⟨rfl,chk131⟩
 .exact⟨rfl,chk132⟩
 .exact⟨rfl,chk134⟩
 .exact⟨rfl,chk135⟩
 .exact⟨rfl,chk136⟩
 .exact⟨rfl,chk138⟩
 .exact⟨rfl,chk139⟩
 .exact⟨rfl,chk140⟩
 .exact⟨rfl,chk141⟩
 .exact⟨rfl,chk142⟩
 .exact⟨rfl,chk165⟩
 .exact fun N=>qM_ok (ps:=[.d tyMe]) (rs:=[(tyMe,[])]) rfl (aKP rfl) (rsE rfl) hOw N
 .exact fun N=>qH_ok (ps:=[.d (.sl tyBi),.d (.int .i64),.d (.fn 39)]) (rs:=[]) rfl (aKP rfl) (rsE rfl) h63 N
 .exact fun N=>qH_ok (ps:=[.d tyDb]) (rs:=[(.bool,[])]) rfl (aKP rfl) (rsE rfl) hB N
 .exact fun N=>qH_ok (ps:=[.d tyDb]) (rs:=[(.bool,[])]) rfl (aKP rfl) (rsE rfl) hB N
 .exact fun N=>qM_ok (ps:=[.d (.sl tyMac)]) (rs:=[(.sl tyMac,[])]) rfl (aKP rfl) (rsE rfl) hCl N
 .exact fun N=>qM_ok (ps:=[.d (.sl tyAd)]) (rs:=[(.sl tyAd,[])]) rfl (aKP rfl) (rsE rfl) hCl N
 .exact fun N=>qH_ok (ps:=[.d (.sl tyPo),.d (.int .i64),.d (.fn 61)]) (rs:=[]) rfl (aKP rfl) (rsE rfl) h92 N
 .exact fun N=>qM_ok (ps:=[.d (.sl (.sl tyMe))]) (rs:=[(.sl tyMe,[])]) rfl (aKP rfl) (rsE rfl) hCat N
 .exact fun N=>aKL (s:=sgN 133) rfl rfl (aKP rfl) (rsE rfl) N
 .trivial
theorem sigOk(f:Nat):aAW FT f=vsN f:=by
 unfold vsN;split
 .exact sig6
 .exact sig8
 .exact sig9
 .exact sig11
 .exact sig13
 .exact sig14
 .exact sig15
 .exact sig16
 .exact sig17
 .exact sig18
 .exact sig19
 .exact sig20
 .exact sig21
 .exact sig26
 .exact sig27
 .exact sig28
 .exact sig29
 .exact sig32
 .exact sig33
 .exact sig34
 .exact sig35
 .exact sig36
 .exact sig37
 .exact sig38
 .exact sig39
 .exact sig40
 .exact sig42
 .exact sig43
 .exact sig44
 .exact sig45
 .exact sig46
 .exact sig47
 .exact sig49
 .exact sig50
 .exact sig51
 .exact sig56
 .exact sig57
 .exact sig59
 .exact sig60
 .exact sig61
 .exact sig62
 .exact sig64
 .exact sig65
 .exact sig66
 .exact sig67
 .exact sig68
 .exact sig69
 .exact sig71
 .exact sig72
 .exact sig73
 .exact sig74
 .exact sig79
 .exact sig80
 .exact sig93
 .exact sig96
 .exact sig97
 .exact sig98
 .exact sig99
 .exact sig100
 .exact sig101
 .exact sig102
 .exact sig103
 .exact sig104
 .exact sig105
 .exact sig111
 .exact sig112
 .exact sig113
 .exact sig114
 .exact sig115
 .exact sig116
 .exact sig117
 .exact sig130
 .exact sig131
 .exact sig132
 .exact sig134
 .exact sig135
 .exact sig136
 .exact sig138
 .exact sig139
 .exact sig140
 .exact sig141
 .exact sig142
 .exact sig165
 .rfl
 .rfl
 .rfl
 .rfl
 .rfl
 .rfl
 .rfl
 .rfl
 .rfl
 .rename_i h6 h8 h9 h11 h13 h14 h15 h16 h17 h18 h19 h20 h21 h26 h27 h28 h29 h32 h33 h34 h35 h36 h37 h38 h39 h40 h42 h43 h44 h45 h46 h47 h49 h50 h51 h56 h57 h59 h60 h61 h62 h64 h65 h66 h67 h68 h69 h71 h72 h73 h74 h79 h80 h93 h96 h97 h98 h99 h100 h101 h102 h103 h104 h105 h111 h112 h113 h114 h115 h116 h117 h130 h131 h132 h134 h135 h136 h138 h139 h140 h141 h142 h165 h58 h63 h70 h75 h76 h77 h92 h110 h133;have e:FT f=none:=by
   unfold FT;split
   .exact(h6 rfl).elim
   .exact(h8 rfl).elim
   .exact(h9 rfl).elim
   .exact(h11 rfl).elim
   .exact(h13 rfl).elim
   .exact(h14 rfl).elim
   .exact(h15 rfl).elim
   .exact(h16 rfl).elim
   .exact(h17 rfl).elim
   .exact(h18 rfl).elim
   .exact(h19 rfl).elim
   .exact(h20 rfl).elim
   .exact(h21 rfl).elim
   .exact(h26 rfl).elim
   .exact(h27 rfl).elim
   .exact(h28 rfl).elim
   .exact(h29 rfl).elim
   .exact(h32 rfl).elim
   .exact(h33 rfl).elim
   .exact(h34 rfl).elim
   .exact(h35 rfl).elim
   .exact(h36 rfl).elim
   .exact(h37 rfl).elim
   .exact(h38 rfl).elim
   .exact(h39 rfl).elim
   .exact(h40 rfl).elim
   .exact(h42 rfl).elim
   .exact(h43 rfl).elim
   .exact(h44 rfl).elim
   .exact(h45 rfl).elim
   .exact(h46 rfl).elim
   .exact(h47 rfl).elim
   .exact(h49 rfl).elim
   .exact(h50 rfl).elim
   .exact(h51 rfl).elim
   .exact(h56 rfl).elim
   .exact(h57 rfl).elim
   .exact(h59 rfl).elim
   .exact(h60 rfl).elim
   .exact(h61 rfl).elim
   .exact(h62 rfl).elim
   .exact(h64 rfl).elim
   .exact(h65 rfl).elim
   .exact(h66 rfl).elim
   .exact(h67 rfl).elim
   .exact(h68 rfl).elim
   .exact(h69 rfl).elim
   .exact(h71 rfl).elim
   .exact(h72 rfl).elim
   .exact(h73 rfl).elim
   .exact(h74 rfl).elim
   .exact(h79 rfl).elim
   .exact(h80 rfl).elim
   .exact(h93 rfl).elim
   .exact(h96 rfl).elim
   .exact(h97 rfl).elim
   .exact(h98 rfl).elim
   .exact(h99 rfl).elim
   .exact(h100 rfl).elim
   .exact(h101 rfl).elim
   .exact(h102 rfl).elim
   .exact(h103 rfl).elim
   .exact(h104 rfl).elim
   .exact(h105 rfl).elim
   .exact(h111 rfl).elim
   .exact(h112 rfl).elim
   .exact(h113 rfl).elim
   .exact(h114 rfl).elim
   .exact(h115 rfl).elim
   .exact(h116 rfl).elim
   .exact(h117 rfl).elim
   .exact(h130 rfl).elim
   .exact(h131 rfl).elim
   .exact(h132 rfl).elim
   .exact(h134 rfl).elim
   .exact(h135 rfl).elim
   .exact(h136 rfl).elim
   .exact(h138 rfl).elim
   .exact(h139 rfl).elim
   .exact(h140 rfl).elim
   .exact(h141 rfl).elim
   .exact(h142 rfl).elim
   .exact(h165 rfl).elim
   .exact(h58 rfl).elim
   .exact(h63 rfl).elim
   .exact(h70 rfl).elim
   .exact(h75 rfl).elim
   .exact(h76 rfl).elim
   .exact(h77 rfl).elim
   .exact(h92 rfl).elim
   .exact(h110 rfl).elim
   .exact(h133 rfl).elim
   .rfl
  unfold aAW;rw[e]
theorem typed:∀N f,aF7 (aAW FT) (call FT N) f (nfN TN N f):=aIr sigOk neOk
end Go.Proofs.YtbpocjclcbjggaaGreatDoor
