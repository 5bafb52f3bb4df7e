/- The table is the program's, and the readings are the machine's. -/
import Derived.Test.YtgfmodmeimhhpaaDoorNK1
import Derived.Test.YtgfmodmeimhhpaaDoorHSX
namespace Go.Proofs.YtgfmodmeimhhpaaDoor
open Go.VM
set_option maxRecDepth 100000
abbrev Ow:World→Prop:=Om Tryd.prog false false none
theorem prim24:PrimOk Ow Tryd.prog 24 [] (pH [.sl tyS,.int .i64,.int .i64] gPrep enPrep):=primPrep
theorem prim26:PrimOk Ow Tryd.prog 26 [] (pM [.int .i64,tyAttr] gStrip enStrip):=primStrip
theorem prim67:PrimOk Ow Tryd.prog 67 [] (pH [.int .i64] gUnk enUnk):=primUnk
theorem tableOk:rJ Ow Tryd.prog FT:=by
 intro f e h
 unfold FT at h
 split at h
 · cases h; exact ⟨Tryd.f3,hh3,Tryd.func3,tab3⟩
 · cases h; exact ⟨Tryd.f5,hh5,Tryd.func5,tab5⟩
 · cases h; exact ⟨Tryd.f6,hh6,Tryd.func6,tab6⟩
 · cases h; exact ⟨Tryd.f7,hh7,Tryd.func7,tab7⟩
 · cases h; exact ⟨Tryd.f8,hh8,Tryd.func8,tab8⟩
 · cases h; exact ⟨Tryd.f9,hh9,Tryd.func9,tab9⟩
 · cases h; exact ⟨Tryd.f10,hh10,Tryd.func10,tab10⟩
 · cases h; exact ⟨Tryd.f11,hh11,Tryd.func11,tab11⟩
 · cases h; exact ⟨Tryd.f13,hh13,Tryd.func13,tab13⟩
 · cases h; exact ⟨Tryd.f15,hh15,Tryd.func15,tab15⟩
 · cases h; exact ⟨Tryd.f17,hh17,Tryd.func17,tab17⟩
 · cases h; exact ⟨Tryd.f18,hh18,Tryd.func18,tab18⟩
 · cases h; exact ⟨Tryd.f21,hh21,Tryd.func21,tab21⟩
 · cases h; exact ⟨Tryd.f22,hh22,Tryd.func22,tab22⟩
 · cases h; exact ⟨Tryd.f23,hh23,Tryd.func23,tab23⟩
 · cases h; exact ⟨Tryd.f25,hh25,Tryd.func25,tab25⟩
 · cases h; exact ⟨Tryd.f27,hh27,Tryd.func27,tab27⟩
 · cases h; exact ⟨Tryd.f34,hh34,Tryd.func34,tab34⟩
 · cases h; exact ⟨Tryd.f35,hh35,Tryd.func35,tab35⟩
 · cases h; exact ⟨Tryd.f36,hh36,Tryd.func36,tab36⟩
 · cases h; exact ⟨Tryd.f37,hh37,Tryd.func37,tab37⟩
 · cases h; exact ⟨Tryd.f38,hh38,Tryd.func38,tab38⟩
 · cases h; exact ⟨Tryd.f39,hh39,Tryd.func39,tab39⟩
 · cases h; exact ⟨Tryd.f40,hh40,Tryd.func40,tab40⟩
 · cases h; exact ⟨Tryd.f41,hh41,Tryd.func41,tab41⟩
 · cases h; exact ⟨Tryd.f42,hh42,Tryd.func42,tab42⟩
 · cases h; exact ⟨Tryd.f43,hh43,Tryd.func43,tab43⟩
 · cases h; exact ⟨Tryd.f44,hh44,Tryd.func44,tab44⟩
 · cases h; exact ⟨Tryd.f45,hh45,Tryd.func45,tab45⟩
 · cases h; exact ⟨Tryd.f46,hh46,Tryd.func46,tab46⟩
 · cases h; exact ⟨Tryd.f47,hh47,Tryd.func47,tab47⟩
 · cases h; exact ⟨Tryd.f48,hh48,Tryd.func48,tab48⟩
 · cases h; exact ⟨Tryd.f52,hh52,Tryd.func52,tab52⟩
 · cases h; exact ⟨Tryd.f57,hh57,Tryd.func57,tab57⟩
 · cases h; exact ⟨Tryd.f58,hh58,Tryd.func58,tab58⟩
 · cases h; exact ⟨Tryd.f60,hh60,Tryd.func60,tab60⟩
 · cases h; exact ⟨Tryd.f61,hh61,Tryd.func61,tab61⟩
 · cases h; exact ⟨Tryd.f62,hh62,Tryd.func62,tab62⟩
 · cases h; exact ⟨Tryd.f63,hh63,Tryd.func63,tab63⟩
 · cases h; exact ⟨Tryd.f64,hh64,Tryd.func64,tab64⟩
 · cases h; exact ⟨Tryd.f65,hh65,Tryd.func65,tab65⟩
 · cases h; exact ⟨Tryd.f66,hh66,Tryd.func66,tab66⟩
 · cases h; exact ⟨Tryd.f68,hh68,Tryd.func68,tab68⟩
 · cases h; exact ⟨Tryd.f69,hh69,Tryd.func69,tab69⟩
 · cases h; exact ⟨Tryd.f70,hh70,Tryd.func70,tab70⟩
 · cases h; exact ⟨Tryd.f71,hh71,Tryd.func71,tab71⟩
 · cases h; exact ⟨Tryd.f72,hh72,Tryd.func72,tab72⟩
 · cases h; exact ⟨Tryd.f78,hh78,Tryd.func78,tab78⟩
 · cases h; exact ⟨Tryd.f79,hh79,Tryd.func79,tab79⟩
 · cases h; exact ⟨Tryd.f80,hh80,Tryd.func80,tab80⟩
 · cases h; exact ⟨Tryd.f81,hh81,Tryd.func81,tab81⟩
 · cases h; exact ⟨Tryd.f84,hh84,Tryd.func84,tab84⟩
 · cases h; exact ⟨Tryd.f85,hh85,Tryd.func85,tab85⟩
 · cases h; exact ⟨Tryd.f86,hh86,Tryd.func86,tab86⟩
 · cases h; exact ⟨Tryd.f87,hh87,Tryd.func87,tab87⟩
 · cases h; exact ⟨Tryd.f88,hh88,Tryd.func88,tab88⟩
 · cases h; exact ⟨Tryd.f89,hh89,Tryd.func89,tab89⟩
 · cases h; exact ⟨Tryd.f93,hh93,Tryd.func93,tab93⟩
 · cases h; exact ⟨Tryd.f94,hh94,Tryd.func94,tab94⟩
 · cases h; exact ⟨Tryd.f95,hh95,Tryd.func95,tab95⟩
 · cases h; exact ⟨Tryd.f96,hh96,Tryd.func96,tab96⟩
 · cases h; exact ⟨Tryd.f97,hh97,Tryd.func97,tab97⟩
 · cases h; exact prim24
 · cases h; exact prim26
 · cases h; exact prim67
 · cases h
theorem neOk:∀ f,aKG sgN vsN FT f (TN f):=by
 intro f
 unfold TN
 split
 · exact ⟨rfl,chk3⟩
 · exact ⟨rfl,chk5⟩
 · exact ⟨rfl,chk6⟩
 · exact ⟨rfl,chk7⟩
 · exact ⟨rfl,chk8⟩
 · exact ⟨rfl,chk9⟩
 · exact ⟨rfl,chk10⟩
 · exact ⟨rfl,chk11⟩
 · exact ⟨rfl,chk13⟩
 · exact ⟨rfl,chk15⟩
 · exact ⟨rfl,chk17⟩
 · exact ⟨rfl,chk18⟩
 · exact ⟨rfl,chk21⟩
 · exact ⟨rfl,chk22⟩
 · exact ⟨rfl,chk23⟩
 · exact ⟨rfl,chk25⟩
 · exact ⟨rfl,chk27⟩
 · exact ⟨rfl,chk34⟩
 · exact ⟨rfl,chk35⟩
 · exact ⟨rfl,chk36⟩
 · exact ⟨rfl,chk37⟩
 · exact ⟨rfl,chk38⟩
 · exact ⟨rfl,chk39⟩
 · exact ⟨rfl,chk40⟩
 · exact ⟨rfl,chk41⟩
 · exact ⟨rfl,chk42⟩
 · exact ⟨rfl,chk43⟩
 · exact ⟨rfl,chk44⟩
 · exact ⟨rfl,chk45⟩
 · exact ⟨rfl,chk46⟩
 · exact ⟨rfl,chk47⟩
 · exact ⟨rfl,chk48⟩
 · exact ⟨rfl,chk52⟩
 · exact ⟨rfl,chk57⟩
 · exact ⟨rfl,chk58⟩
 · exact ⟨rfl,chk60⟩
 · exact ⟨rfl,chk61⟩
 · exact ⟨rfl,chk62⟩
 · exact ⟨rfl,chk63⟩
 · exact ⟨rfl,chk64⟩
 · exact ⟨rfl,chk65⟩
 · exact ⟨rfl,chk66⟩
 · exact ⟨rfl,chk68⟩
 · exact ⟨rfl,chk69⟩
 · exact ⟨rfl,chk70⟩
 · exact ⟨rfl,chk71⟩
 · exact ⟨rfl,chk72⟩
 · exact ⟨rfl,chk78⟩
 · exact ⟨rfl,chk79⟩
 · exact ⟨rfl,chk80⟩
 · exact ⟨rfl,chk81⟩
 · exact ⟨rfl,chk84⟩
 · exact ⟨rfl,chk85⟩
 · exact ⟨rfl,chk86⟩
 · exact ⟨rfl,chk87⟩
 · exact ⟨rfl,chk88⟩
 · exact ⟨rfl,chk89⟩
 · exact ⟨rfl,chk93⟩
 · exact ⟨rfl,chk94⟩
 · exact ⟨rfl,chk95⟩
 · exact ⟨rfl,chk96⟩
 · exact ⟨rfl,chk97⟩
 · exact fun N=>qH_ok (ps:=[.d (.sl tyS),.d (.int .i64),.d (.int .i64)]) (rs:=[(.sl tyS,[]),(.int .i64,[])]) rfl (aKP rfl) (rsE rfl) hPrep N
 · exact fun N=>qM_ok (ps:=[.d (.int .i64),.d tyAttr]) (rs:=[(tyAttr,[])]) rfl (aKP rfl) (rsE rfl) hStrip N
 · exact fun N=>qH_ok (ps:=[.d (.int .i64)]) (rs:=[(.bool,[])]) rfl (aKP rfl) (rsE rfl) hUnk N
 · trivial
theorem sigOk (f:Nat):aAW FT f=vsN f:=by
 unfold vsN
 split
 · exact sig3
 · exact sig5
 · exact sig6
 · exact sig7
 · exact sig8
 · exact sig9
 · exact sig10
 · exact sig11
 · exact sig13
 · exact sig15
 · exact sig17
 · exact sig18
 · exact sig21
 · exact sig22
 · exact sig23
 · exact sig25
 · exact sig27
 · exact sig34
 · exact sig35
 · exact sig36
 · exact sig37
 · exact sig38
 · exact sig39
 · exact sig40
 · exact sig41
 · exact sig42
 · exact sig43
 · exact sig44
 · exact sig45
 · exact sig46
 · exact sig47
 · exact sig48
 · exact sig52
 · exact sig57
 · exact sig58
 · exact sig60
 · exact sig61
 · exact sig62
 · exact sig63
 · exact sig64
 · exact sig65
 · exact sig66
 · exact sig68
 · exact sig69
 · exact sig70
 · exact sig71
 · exact sig72
 · exact sig78
 · exact sig79
 · exact sig80
 · exact sig81
 · exact sig84
 · exact sig85
 · exact sig86
 · exact sig87
 · exact sig88
 · exact sig89
 · exact sig93
 · exact sig94
 · exact sig95
 · exact sig96
 · exact sig97
 · rfl
 · rfl
 · rfl
 · rename_i h3 h5 h6 h7 h8 h9 h10 h11 h13 h15 h17 h18 h21 h22 h23 h25 h27 h34 h35 h36 h37 h38 h39 h40 h41 h42 h43 h44 h45 h46 h47 h48 h52 h57 h58 h60 h61 h62 h63 h64 h65 h66 h68 h69 h70 h71 h72 h78 h79 h80 h81 h84 h85 h86 h87 h88 h89 h93 h94 h95 h96 h97 h24 h26 h67
   have e:FT f=none:=by
    unfold FT
    split
    · exact (h3 rfl).elim
    · exact (h5 rfl).elim
    · exact (h6 rfl).elim
    · exact (h7 rfl).elim
    · exact (h8 rfl).elim
    · exact (h9 rfl).elim
    · exact (h10 rfl).elim
    · exact (h11 rfl).elim
    · exact (h13 rfl).elim
    · exact (h15 rfl).elim
    · exact (h17 rfl).elim
    · exact (h18 rfl).elim
    · exact (h21 rfl).elim
    · exact (h22 rfl).elim
    · exact (h23 rfl).elim
    · exact (h25 rfl).elim
    · exact (h27 rfl).elim
    · exact (h34 rfl).elim
    · exact (h35 rfl).elim
    · exact (h36 rfl).elim
    · exact (h37 rfl).elim
    · exact (h38 rfl).elim
    · exact (h39 rfl).elim
    · exact (h40 rfl).elim
    · exact (h41 rfl).elim
    · exact (h42 rfl).elim
    · exact (h43 rfl).elim
    · exact (h44 rfl).elim
    · exact (h45 rfl).elim
    · exact (h46 rfl).elim
    · exact (h47 rfl).elim
    · exact (h48 rfl).elim
    · exact (h52 rfl).elim
    · exact (h57 rfl).elim
    · exact (h58 rfl).elim
    · exact (h60 rfl).elim
    · exact (h61 rfl).elim
    · exact (h62 rfl).elim
    · exact (h63 rfl).elim
    · exact (h64 rfl).elim
    · exact (h65 rfl).elim
    · exact (h66 rfl).elim
    · exact (h68 rfl).elim
    · exact (h69 rfl).elim
    · exact (h70 rfl).elim
    · exact (h71 rfl).elim
    · exact (h72 rfl).elim
    · exact (h78 rfl).elim
    · exact (h79 rfl).elim
    · exact (h80 rfl).elim
    · exact (h81 rfl).elim
    · exact (h84 rfl).elim
    · exact (h85 rfl).elim
    · exact (h86 rfl).elim
    · exact (h87 rfl).elim
    · exact (h88 rfl).elim
    · exact (h89 rfl).elim
    · exact (h93 rfl).elim
    · exact (h94 rfl).elim
    · exact (h95 rfl).elim
    · exact (h96 rfl).elim
    · exact (h97 rfl).elim
    · exact (h24 rfl).elim
    · exact (h26 rfl).elim
    · exact (h67 rfl).elim
    · rfl
   unfold aAW; rw [e]
theorem typed:∀ N f,aF7 (aAW FT) (call FT N) f (nfN TN N f):=aIr sigOk neOk
end Go.Proofs.YtgfmodmeimhhpaaDoor
