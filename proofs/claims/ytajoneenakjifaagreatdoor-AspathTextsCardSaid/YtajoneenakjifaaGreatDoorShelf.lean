/- The contracts of Go's library that are used, at this program. -/
import Derived.Shelf.Strings.SlTrimAscii
import Derived.Shelf.Strings.Builder1
import Derived.Shelf.Strings.Builder2
import Derived.Shelf.Strings.OnBuilder
import Derived.Shelf.Strings.Trim
import Derived.Shelf.Small.Utf8
import Derived.Shelf.Small.Strs
import Derived.Shelf.Strings.BuilderF
import Derived.Shelf.Strings.BuilderK
import Derived.Shelf.Utf8.RuneCount
import Derived.Shelf.Strings.Builder2Cap
import Derived.Shelf.Strconv.Atoi
import Derived.Shelf.Strconv.Itoa0
import Derived.Shelf.Strconv.Itoa1
import Derived.Shelf.LaysM
import Derived.Shelf.Strconv.Itoa2
import Derived.Shelf.Strconv.Itoa3
import Derived.Shelf.Strconv.AtoiErrFast
import Derived.Shelf.Strconv.ParseIntEmpty
import Derived.Shelf.Strconv.AtoiFail
import Derived.Shelf.Strconv.Clone
import Derived.Shelf.Strconv.SyntaxError
import Derived.Shelf.LaysC
import Derived.Shelf.Strconv.ToError
import Derived.Shelf.Strconv.AtoiErr
import Derived.Shelf.Strconv.ErrVar
import Derived.Shelf.Strconv.Lower
import Derived.Shelf.Strconv.ParseUint10
import Derived.Shelf.Strconv.ParseUint10Empty
import Derived.Shelf.Strconv.ParseUint10Any
import Derived.Shelf.Strconv.ParseInt10
import Derived.Shelf.Strconv.AtoiLong
import Derived.Shelf.Strconv.AtoiInnerAll
import Derived.Shelf.Strconv.RangeError
import Derived.Shelf.Strconv.ToErrorRange
import Derived.Shelf.Strconv.AtoiAll
import Derived.Shelf.Strconv.ErrVarAll
import Derived.Shelf.Strconv.ParseUintEmpty
import Derived.Shelf.Strconv.ParseUint10b64
import Derived.Shelf.Strconv.ParseUint10b32
import Derived.Shelf.Strconv.ParseUint10b16
import Derived.Shelf.Strconv.ParseUint10b8
import Derived.Shelf.Strconv.ParseUint10At
import Derived.Shelf.Strconv.ParseInt10At64
import Derived.Shelf.Strconv.ParseInt10At32
import Derived.Shelf.Strconv.ParseInt10At16
import Derived.Shelf.Strconv.ParseInt10At8
import Derived.Shelf.Strconv.ParseInt10All
import Derived.Shelf.Strings.Search1
import Derived.Shelf.Strings.Search2
import Derived.Shelf.Strings.Search3
import Derived.Shelf.Strings.Count
import Derived.Shelf.Strings.Shaped
import Derived.Shelf.Strings.Prefix
import Derived.Shelf.Strings.Split
import Derived.Shelf.Strings.Fields
import Derived.Shelf.Strings.SplitShaped
import Derived.Shelf.Unicode.Latin
import Derived.Shelf.Unicode.Decode
import Derived.Shelf.Strings.Runes
import Derived.Shelf.Strings.RuneCount
import Derived.Shelf.Strings.AsciiSet
import Derived.Shelf.Strings.Explode
import Derived.Shelf.Unicode.DecodeSlow
import Derived.Shelf.Unicode.DecodeAny
import Derived.Shelf.Unicode.Is16White
import Derived.Shelf.Unicode.IsSpaceAny
import Derived.Shelf.Unicode.DecodeLast
import Derived.Shelf.Unicode.Is16WhiteD
import Derived.Shelf.Unicode.IsSpaceAnyD
import Derived.Shelf.Strings.FieldsAny
import Derived.Shelf.Strings.FieldsFuncAny
import Derived.Shelf.Unicode.Is16Any
import Derived.Shelf.Unicode.Is32Any
import Derived.Shelf.Unicode.ExclAny
import Derived.Shelf.Strings.FieldsFuncGrows
import Derived.Shelf.Strings.BuilderCap
import Derived.Test.YtajoneenakjifaaGreatDoorProg
namespace Go.Proofs
open Go.Shelf
def Tryz.lays156_ren:Go.Shelf.Ren:=⟨fun | 156=>21 | 165=>32 | 166=>33 | 169=>34 | 240=>49 | 241=>50 | 276=>62 | 277=>63 | n=>n,fun | 31=>32 | 9=>9 | 3=>3 | 4=>4 | 0=>0 | 20=>20 | 72=>60 | 76=>64 | 70=>58 | 37=>30 | 75=>63 | 127=>79 | 164=>94 | 5=>5 | 80=>66 | n=>n,fun | n=>n⟩
theorem Tryz.lays156:Go.Proofs.Lays.n156 Tryz.prog Tryz.lays156_ren:={
 mixed:=by kernel_rfl
 f156:=Tryz.func21.trans (congrArg some (by kernel_rfl))
 f165:=Tryz.func32.trans (congrArg some (by kernel_rfl))
 f166:=Tryz.func33.trans (congrArg some (by kernel_rfl))
 f169:=Tryz.func34.trans (congrArg some (by kernel_rfl))
 f240:=Tryz.func49.trans (congrArg some (by kernel_rfl))
 f241:=Tryz.func50.trans (congrArg some (by kernel_rfl))
 f276:=Tryz.func62.trans (congrArg some (by kernel_rfl))
 f277:=Tryz.func63.trans (congrArg some (by kernel_rfl))
 t0:=Tryz.underlying0
 a0:=Tryz.isAgg0
 z0:=Tryz.sizeOf0
 v0:=Tryz.zeroValue0
 t3:=Tryz.underlying3
 a3:=Tryz.isAgg3
 z3:=Tryz.sizeOf3
 v3:=Tryz.zeroValue3
 t4:=Tryz.underlying4
 a4:=Tryz.isAgg4
 z4:=Tryz.sizeOf4
 v4:=Tryz.zeroValue4
 t9:=Tryz.underlying9
 a9:=Tryz.isAgg9
 z9:=Tryz.sizeOf9
 v9:=Tryz.zeroValue9
 t20:=Tryz.underlying20
 a20:=Tryz.isAgg20
 z20:=Tryz.sizeOf20
 v20:=Tryz.zeroValue20
 t31:=Tryz.underlying32
 a31:=Tryz.isAgg32
 z31:=Tryz.sizeOf32
 v31:=Tryz.zeroValue32
 t37:=Tryz.underlying30
 a37:=Tryz.isAgg30
 z37:=Tryz.sizeOf30
 v37:=Tryz.zeroValue30
 t70:=Tryz.underlying58
 a70:=Tryz.isAgg58
 z70:=Tryz.sizeOf58
 v70:=Tryz.zeroValue58
 t72:=Tryz.underlying60
 a72:=Tryz.isAgg60
 z72:=Tryz.sizeOf60
 v72:=Tryz.zeroValue60
 t75:=Tryz.underlying63
 a75:=Tryz.isAgg63
 z75:=Tryz.sizeOf63
 v75:=Tryz.zeroValue63
 t76:=Tryz.underlying64
 a76:=Tryz.isAgg64
 z76:=Tryz.sizeOf64
 v76:=Tryz.zeroValue64
 t127:=Tryz.underlying79
 a127:=Tryz.isAgg79
 z127:=Tryz.sizeOf79
 v127:=Tryz.zeroValue79
 t164:=Tryz.underlying94
 a164:=Tryz.isAgg94
 z164:=Tryz.sizeOf94
 v164:=Tryz.zeroValue94 }
theorem Tryz.Builder_Extra_156:Builder.Extra Tryz.prog Tryz.lays156_ren:={
 sizeBuilder:=by kernel_rfl
 liesBuilder:=by kernel_rfl
 t5:=Tryz.underlying5
 a5:=Tryz.isAgg5
 z5:=Tryz.sizeOf5
 v5:=Tryz.zeroValue5
 infoByte:=by kernel_rfl
 cellsByte:=by kernel_rfl
 sizeByte:=by kernel_rfl
 neB5:=by decide }
open Go.RowKit in
theorem Tryz.strings_Join_none (a : Option Addr) (c : Nat) (sep : ByteArray) (w : World) :
  Calls Tryz.prog 21 #[.slice a 0 c,.string sep] w fun e w'=>e=.returned (.string ⟨#[]⟩)∧w'=w:=Any.strings_Join_none Tryz.lays156 Tryz.Builder_Extra_156 a c sep w
open Go.RowKit in
theorem Tryz.strings_Join (bk o c : Nat) (xs : List ByteArray) (sep : ByteArray) (w : World) (hcells : ∀ (j : Nat) x, xs[j]? = some x → w.cell? ⟨bk, o + j, none⟩ = some (.string x)) (hbk : bk < w.heap.size) (hN : xs.length ≤ 140737488355328) (hcap : xs.length ≤ c) (hlen : (Lib.join (xs.map (·.data.toList)) sep.data.toList).length ≤ 140737488355328) :
  Calls Tryz.prog 21 #[.slice (some ⟨bk,o,none⟩) xs.length c,.string sep] w fun e w'=>e=.returned (.string ⟨(Lib.join (xs.map (·.data.toList)) sep.data.toList).toArray⟩)∧Below w.heap.size w w':=Any.strings_Join Tryz.lays156 Tryz.Builder_Extra_156 bk o c xs sep w hcells hbk hN hcap hlen
def Tryz.lays160_ren:Go.Shelf.Ren:=⟨fun | 160=>29 | 232=>42 | 231=>41 | 227=>43 | 234=>45 | 233=>44 | 236=>47 | 235=>46 | 228=>57 | 271=>60 | 151=>59 | 197=>58 | 120=>76 | 152=>75 | 260=>74 | 137=>88 | 119=>89 | 224=>86 | 225=>85 | 217=>84 | 266=>97 | n=>n,fun | 9=>9 | 4=>4 | 3=>3 | 5=>5 | 117=>75 | 116=>74 | 0=>0 | 124=>78 | 21=>21 | 105=>90 | 46=>124 | 119=>68 | 139=>134 | 138=>133 | n=>n,fun | 3=>5 | 4=>6 | n=>n⟩
theorem Tryz.lays160:Go.Proofs.Lays.n160 Tryz.prog Tryz.lays160_ren:={
 mixed:=by kernel_rfl
 f119:=Tryz.func89.trans (congrArg some (by kernel_rfl))
 f120:=Tryz.func76.trans (congrArg some (by kernel_rfl))
 f137:=Tryz.func88.trans (congrArg some (by kernel_rfl))
 f151:=Tryz.func59.trans (congrArg some (by kernel_rfl))
 f152:=Tryz.func75.trans (congrArg some (by kernel_rfl))
 f160:=Tryz.func29.trans (congrArg some (by kernel_rfl))
 f197:=Tryz.func58.trans (congrArg some (by kernel_rfl))
 f217:=Tryz.func84.trans (congrArg some (by kernel_rfl))
 f224:=Tryz.func86.trans (congrArg some (by kernel_rfl))
 f225:=Tryz.func85.trans (congrArg some (by kernel_rfl))
 f227:=Tryz.func43.trans (congrArg some (by kernel_rfl))
 f228:=Tryz.func57.trans (congrArg some (by kernel_rfl))
 f231:=Tryz.func41.trans (congrArg some (by kernel_rfl))
 f232:=Tryz.func42.trans (congrArg some (by kernel_rfl))
 f233:=Tryz.func44.trans (congrArg some (by kernel_rfl))
 f234:=Tryz.func45.trans (congrArg some (by kernel_rfl))
 f235:=Tryz.func46.trans (congrArg some (by kernel_rfl))
 f236:=Tryz.func47.trans (congrArg some (by kernel_rfl))
 f260:=Tryz.func74.trans (congrArg some (by kernel_rfl))
 f266:=Tryz.func97.trans (congrArg some (by kernel_rfl))
 f271:=Tryz.func60.trans (congrArg some (by kernel_rfl))
 t0:=Tryz.underlying0
 a0:=Tryz.isAgg0
 z0:=Tryz.sizeOf0
 v0:=Tryz.zeroValue0
 t3:=Tryz.underlying3
 a3:=Tryz.isAgg3
 z3:=Tryz.sizeOf3
 v3:=Tryz.zeroValue3
 t4:=Tryz.underlying4
 a4:=Tryz.isAgg4
 z4:=Tryz.sizeOf4
 v4:=Tryz.zeroValue4
 t5:=Tryz.underlying5
 a5:=Tryz.isAgg5
 z5:=Tryz.sizeOf5
 v5:=Tryz.zeroValue5
 t9:=Tryz.underlying9
 a9:=Tryz.isAgg9
 z9:=Tryz.sizeOf9
 v9:=Tryz.zeroValue9
 t21:=Tryz.underlying21
 a21:=Tryz.isAgg21
 z21:=Tryz.sizeOf21
 v21:=Tryz.zeroValue21
 t46:=Tryz.underlying124
 a46:=Tryz.isAgg124
 z46:=Tryz.sizeOf124
 v46:=Tryz.zeroValue124
 t105:=Tryz.underlying90
 a105:=Tryz.isAgg90
 z105:=Tryz.sizeOf90
 v105:=Tryz.zeroValue90
 t116:=Tryz.underlying74
 a116:=Tryz.isAgg74
 z116:=Tryz.sizeOf74
 t117:=Tryz.underlying75
 a117:=Tryz.isAgg75
 z117:=Tryz.sizeOf75
 v117:=Tryz.zeroValue75
 t119:=Tryz.underlying68
 a119:=Tryz.isAgg68
 z119:=Tryz.sizeOf68
 t124:=Tryz.underlying78
 a124:=Tryz.isAgg78
 z124:=Tryz.sizeOf78
 v124:=Tryz.zeroValue78
 t138:=Tryz.underlying133
 a138:=Tryz.isAgg133
 z138:=Tryz.sizeOf133
 v138:=Tryz.zeroValue133
 t139:=Tryz.underlying134
 a139:=Tryz.isAgg134
 z139:=Tryz.sizeOf134
 v139:=Tryz.zeroValue134
 g3:=by kernel_rfl
 g4:=by kernel_rfl }
open Go.RowKit in
def Tryz.laysM171_ren:Go.Shelf.Ren:=⟨fun | 171=>31 | 243=>48 | 246=>61 | 283=>77 | 284=>78 | 285=>79 | 286=>80 | 129=>91 | 317=>90 | 318=>92 | 319=>93 | 320=>94 | 337=>99 | 338=>100 | n=>n,fun | 3=>3 | 9=>9 | 2=>2 | 4=>4 | 171=>117 | 0=>0 | 53=>118 | 37=>30 | 5=>5 | 173=>121 | 212=>136 | 51=>83 | 20=>20 | 213=>137 | 46=>124 | 232=>147 | 233=>148 | n=>n,fun | 17=>7 | 18=>8 | 19=>9 | n=>n⟩
theorem Tryz.laysM171:Go.Proofs.LaysM.n171 Tryz.prog Tryz.laysM171_ren:={
 mixed:=by kernel_rfl
 f129:=Tryz.func91.trans (congrArg some (by kernel_rfl))
 f171:=Tryz.func31.trans (congrArg some (by kernel_rfl))
 f243:=Tryz.func48.trans (congrArg some (by kernel_rfl))
 f246:=Tryz.func61.trans (congrArg some (by kernel_rfl))
 f283:=Tryz.func77.trans (congrArg some (by kernel_rfl))
 f284:=Tryz.func78.trans (congrArg some (by kernel_rfl))
 f285:=Tryz.func79.trans (congrArg some (by kernel_rfl))
 f286:=Tryz.func80.trans (congrArg some (by kernel_rfl))
 f317:=Tryz.func90.trans (congrArg some (by kernel_rfl))
 f318:=Tryz.func92.trans (congrArg some (by kernel_rfl))
 f319:=Tryz.func93.trans (congrArg some (by kernel_rfl))
 f320:=Tryz.func94.trans (congrArg some (by kernel_rfl))
 f337:=Tryz.func99.trans (congrArg some (by kernel_rfl))
 f338:=Tryz.func100.trans (congrArg some (by kernel_rfl))
 t0:=Tryz.underlying0
 a0:=Tryz.isAgg0
 z0:=Tryz.sizeOf0
 v0:=Tryz.zeroValue0
 t2:=Tryz.underlying2
 a2:=Tryz.isAgg2
 z2:=Tryz.sizeOf2
 v2:=Tryz.zeroValue2
 t3:=Tryz.underlying3
 a3:=Tryz.isAgg3
 z3:=Tryz.sizeOf3
 v3:=Tryz.zeroValue3
 t4:=Tryz.underlying4
 a4:=Tryz.isAgg4
 z4:=Tryz.sizeOf4
 v4:=Tryz.zeroValue4
 t5:=Tryz.underlying5
 a5:=Tryz.isAgg5
 z5:=Tryz.sizeOf5
 v5:=Tryz.zeroValue5
 t9:=Tryz.underlying9
 a9:=Tryz.isAgg9
 z9:=Tryz.sizeOf9
 v9:=Tryz.zeroValue9
 t20:=Tryz.underlying20
 a20:=Tryz.isAgg20
 z20:=Tryz.sizeOf20
 v20:=Tryz.zeroValue20
 t37:=Tryz.underlying30
 a37:=Tryz.isAgg30
 z37:=Tryz.sizeOf30
 v37:=Tryz.zeroValue30
 t46:=Tryz.underlying124
 a46:=Tryz.isAgg124
 z46:=Tryz.sizeOf124
 v46:=Tryz.zeroValue124
 t51:=Tryz.underlying83
 a51:=Tryz.isAgg83
 z51:=Tryz.sizeOf83
 v51:=Tryz.zeroValue83
 t53:=Tryz.underlying118
 a53:=Tryz.isAgg118
 z53:=Tryz.sizeOf118
 v53:=Tryz.zeroValue118
 t171:=Tryz.underlying117
 a171:=Tryz.isAgg117
 z171:=Tryz.sizeOf117
 v171:=Tryz.zeroValue117
 t173:=Tryz.underlying121
 a173:=Tryz.isAgg121
 z173:=Tryz.sizeOf121
 v173:=Tryz.zeroValue121
 t212:=Tryz.underlying136
 a212:=Tryz.isAgg136
 z212:=Tryz.sizeOf136
 v212:=Tryz.zeroValue136
 t213:=Tryz.underlying137
 a213:=Tryz.isAgg137
 z213:=Tryz.sizeOf137
 t232:=Tryz.underlying147
 a232:=Tryz.isAgg147
 z232:=Tryz.sizeOf147
 v232:=Tryz.zeroValue147
 t233:=Tryz.underlying148
 a233:=Tryz.isAgg148
 z233:=Tryz.sizeOf148
 v233:=Tryz.zeroValue148
 g17:=by kernel_rfl
 g18:=by kernel_rfl
 g19:=by kernel_rfl
 i0:=by kernel_rfl
 i2:=by kernel_rfl
 i3:=by kernel_rfl
 i4:=by kernel_rfl
 i5:=by kernel_rfl
 i9:=by kernel_rfl
 i20:=by kernel_rfl
 i37:=by kernel_rfl
 i46:=by kernel_rfl
 i51:=by kernel_rfl
 i53:=by kernel_rfl
 i171:=by kernel_rfl
 i173:=by kernel_rfl
 i212:=by kernel_rfl
 i232:=by kernel_rfl
 i233:=by kernel_rfl
 m17:=by kernel_rfl
 m18:=by kernel_rfl
 m19:=by kernel_rfl }
open Go.RowKit Go.Sort Go.Lib in
theorem Tryz.strconv_Itoa (n : Int) (h0 : -9223372036854775808 ≤ n) (h1 : n ≤ 9223372036854775807) (w : World) (htab : Lib.TabIs Tryz.prog w "internal/strconv.uint64pow10" .u64 Lib.pow10Tab) :
  Calls Tryz.prog 31 #[.int .i64 n] w fun e w'=>e=.returned (.string ⟨(Lib.itoa n).toArray⟩)∧∃ k os,w'=grow (w.drewN k) os:=Any.strconv_Itoa Tryz.laysM171 n h0 h1 w htab
def Tryz.laysC172_ren:Go.Shelf.Ren:=⟨fun | 172=>38 | 244=>52 | 245=>53 | 247=>66 | 279=>67 | 280=>68 | 281=>69 | 282=>70 | 287=>81 | 316=>82 | 171=>31 | 205=>83 | 321=>95 | 322=>96 | 243=>48 | 246=>61 | 283=>77 | 284=>78 | 285=>79 | 286=>80 | 129=>91 | 317=>90 | 318=>92 | 319=>93 | 320=>94 | 337=>99 | 338=>100 | n=>n,fun | 9=>9 | 3=>3 | 75=>63 | 76=>64 | 4=>4 | 5=>5 | 167=>108 | 37=>30 | 0=>0 | 85=>109 | 2=>2 | 168=>111 | 53=>118 | 175=>126 | 46=>124 | 210=>130 | 127=>79 | 145=>143 | 143=>141 | 21=>21 | 171=>117 | 173=>121 | 212=>136 | 51=>83 | 20=>20 | 213=>137 | 232=>147 | 233=>148 | 80=>66 | n=>n,fun | 15=>3 | 16=>4 | 17=>7 | 18=>8 | 19=>9 | n=>n⟩
theorem Tryz.laysC172:Go.Proofs.LaysC.n172 Tryz.prog Tryz.laysC172_ren:={
 mixed:=by kernel_rfl
 f129:=Tryz.func91.trans (congrArg some (by kernel_rfl))
 f171:=Tryz.func31.trans (congrArg some (by kernel_rfl))
 f172:=Tryz.func38.trans (congrArg some (by kernel_rfl))
 f205:=Tryz.func83.trans (congrArg some (by kernel_rfl))
 f243:=Tryz.func48.trans (congrArg some (by kernel_rfl))
 f244:=Tryz.func52.trans (congrArg some (by kernel_rfl))
 f245:=Tryz.func53.trans (congrArg some (by kernel_rfl))
 f246:=Tryz.func61.trans (congrArg some (by kernel_rfl))
 f247:=Tryz.func66.trans (congrArg some (by kernel_rfl))
 f279:=Tryz.func67.trans (congrArg some (by kernel_rfl))
 f280:=Tryz.func68.trans (congrArg some (by kernel_rfl))
 f281:=Tryz.func69.trans (congrArg some (by kernel_rfl))
 f282:=Tryz.func70.trans (congrArg some (by kernel_rfl))
 f283:=Tryz.func77.trans (congrArg some (by kernel_rfl))
 f284:=Tryz.func78.trans (congrArg some (by kernel_rfl))
 f285:=Tryz.func79.trans (congrArg some (by kernel_rfl))
 f286:=Tryz.func80.trans (congrArg some (by kernel_rfl))
 f287:=Tryz.func81.trans (congrArg some (by kernel_rfl))
 f316:=Tryz.func82.trans (congrArg some (by kernel_rfl))
 f317:=Tryz.func90.trans (congrArg some (by kernel_rfl))
 f318:=Tryz.func92.trans (congrArg some (by kernel_rfl))
 f319:=Tryz.func93.trans (congrArg some (by kernel_rfl))
 f320:=Tryz.func94.trans (congrArg some (by kernel_rfl))
 f321:=Tryz.func95.trans (congrArg some (by kernel_rfl))
 f322:=Tryz.func96.trans (congrArg some (by kernel_rfl))
 f337:=Tryz.func99.trans (congrArg some (by kernel_rfl))
 f338:=Tryz.func100.trans (congrArg some (by kernel_rfl))
 t0:=Tryz.underlying0
 a0:=Tryz.isAgg0
 z0:=Tryz.sizeOf0
 v0:=Tryz.zeroValue0
 t2:=Tryz.underlying2
 a2:=Tryz.isAgg2
 z2:=Tryz.sizeOf2
 v2:=Tryz.zeroValue2
 t3:=Tryz.underlying3
 a3:=Tryz.isAgg3
 z3:=Tryz.sizeOf3
 v3:=Tryz.zeroValue3
 t4:=Tryz.underlying4
 a4:=Tryz.isAgg4
 z4:=Tryz.sizeOf4
 v4:=Tryz.zeroValue4
 t5:=Tryz.underlying5
 a5:=Tryz.isAgg5
 z5:=Tryz.sizeOf5
 v5:=Tryz.zeroValue5
 t9:=Tryz.underlying9
 a9:=Tryz.isAgg9
 z9:=Tryz.sizeOf9
 v9:=Tryz.zeroValue9
 t20:=Tryz.underlying20
 a20:=Tryz.isAgg20
 z20:=Tryz.sizeOf20
 v20:=Tryz.zeroValue20
 t21:=Tryz.underlying21
 a21:=Tryz.isAgg21
 z21:=Tryz.sizeOf21
 v21:=Tryz.zeroValue21
 t37:=Tryz.underlying30
 a37:=Tryz.isAgg30
 z37:=Tryz.sizeOf30
 v37:=Tryz.zeroValue30
 t46:=Tryz.underlying124
 a46:=Tryz.isAgg124
 z46:=Tryz.sizeOf124
 v46:=Tryz.zeroValue124
 t51:=Tryz.underlying83
 a51:=Tryz.isAgg83
 z51:=Tryz.sizeOf83
 v51:=Tryz.zeroValue83
 t53:=Tryz.underlying118
 a53:=Tryz.isAgg118
 z53:=Tryz.sizeOf118
 v53:=Tryz.zeroValue118
 t75:=Tryz.underlying63
 a75:=Tryz.isAgg63
 z75:=Tryz.sizeOf63
 v75:=Tryz.zeroValue63
 t76:=Tryz.underlying64
 a76:=Tryz.isAgg64
 z76:=Tryz.sizeOf64
 v76:=Tryz.zeroValue64
 t85:=Tryz.underlying109
 a85:=Tryz.isAgg109
 z85:=Tryz.sizeOf109
 v85:=Tryz.zeroValue109
 t127:=Tryz.underlying79
 a127:=Tryz.isAgg79
 z127:=Tryz.sizeOf79
 v127:=Tryz.zeroValue79
 t143:=Tryz.underlying141
 a143:=Tryz.isAgg141
 z143:=Tryz.sizeOf141
 v143:=Tryz.zeroValue141
 t145:=Tryz.underlying143
 a145:=Tryz.isAgg143
 z145:=Tryz.sizeOf143
 v145:=Tryz.zeroValue143
 t167:=Tryz.underlying108
 a167:=Tryz.isAgg108
 z167:=Tryz.sizeOf108
 v167:=Tryz.zeroValue108
 t168:=Tryz.underlying111
 a168:=Tryz.isAgg111
 z168:=Tryz.sizeOf111
 v168:=Tryz.zeroValue111
 t171:=Tryz.underlying117
 a171:=Tryz.isAgg117
 z171:=Tryz.sizeOf117
 v171:=Tryz.zeroValue117
 t173:=Tryz.underlying121
 a173:=Tryz.isAgg121
 z173:=Tryz.sizeOf121
 v173:=Tryz.zeroValue121
 t175:=Tryz.underlying126
 a175:=Tryz.isAgg126
 z175:=Tryz.sizeOf126
 v175:=Tryz.zeroValue126
 t210:=Tryz.underlying130
 a210:=Tryz.isAgg130
 z210:=Tryz.sizeOf130
 v210:=Tryz.zeroValue130
 t212:=Tryz.underlying136
 a212:=Tryz.isAgg136
 z212:=Tryz.sizeOf136
 v212:=Tryz.zeroValue136
 t213:=Tryz.underlying137
 a213:=Tryz.isAgg137
 z213:=Tryz.sizeOf137
 t232:=Tryz.underlying147
 a232:=Tryz.isAgg147
 z232:=Tryz.sizeOf147
 v232:=Tryz.zeroValue147
 t233:=Tryz.underlying148
 a233:=Tryz.isAgg148
 z233:=Tryz.sizeOf148
 v233:=Tryz.zeroValue148
 g15:=by kernel_rfl
 g16:=by kernel_rfl
 g17:=by kernel_rfl
 g18:=by kernel_rfl
 g19:=by kernel_rfl
 t80:=Tryz.underlying66
 a80:=Tryz.isAgg66
 z80:=Tryz.sizeOf66
 v80:=Tryz.zeroValue66
 i0:=by kernel_rfl
 i2:=by kernel_rfl
 i3:=by kernel_rfl
 i4:=by kernel_rfl
 i5:=by kernel_rfl
 i9:=by kernel_rfl
 i20:=by kernel_rfl
 i21:=by kernel_rfl
 i37:=by kernel_rfl
 i46:=by kernel_rfl
 i51:=by kernel_rfl
 i53:=by kernel_rfl
 i75:=by kernel_rfl
 i76:=by kernel_rfl
 i80:=by kernel_rfl
 i85:=by kernel_rfl
 i127:=by kernel_rfl
 i143:=by kernel_rfl
 i145:=by kernel_rfl
 i167:=by kernel_rfl
 i168:=by kernel_rfl
 i171:=by kernel_rfl
 i173:=by kernel_rfl
 i175:=by kernel_rfl
 i210:=by kernel_rfl
 i212:=by kernel_rfl
 i232:=by kernel_rfl
 i233:=by kernel_rfl
 m15:=by kernel_rfl
 m16:=by kernel_rfl
 m17:=by kernel_rfl
 m18:=by kernel_rfl
 m19:=by kernel_rfl
 c0:=by kernel_rfl
 c2:=by kernel_rfl
 c3:=by kernel_rfl
 c4:=by kernel_rfl
 c5:=by kernel_rfl
 c9:=by kernel_rfl
 c20:=by kernel_rfl
 c21:=by kernel_rfl
 c37:=by kernel_rfl
 c46:=by kernel_rfl
 c51:=by kernel_rfl
 c53:=by kernel_rfl
 c75:=by kernel_rfl
 c76:=by kernel_rfl
 c80:=by kernel_rfl
 c85:=by kernel_rfl
 c127:=by kernel_rfl
 c143:=by kernel_rfl
 c145:=by kernel_rfl
 c167:=by kernel_rfl
 c168:=by kernel_rfl
 c171:=by kernel_rfl
 c173:=by kernel_rfl
 c175:=by kernel_rfl
 c210:=by kernel_rfl
 c212:=by kernel_rfl
 c213:=by kernel_rfl
 c232:=by kernel_rfl
 c233:=by kernel_rfl }
open Go.RowKit in
theorem Tryz.strconv_Atoi_ok (s : ByteArray) (hmax : s.size ≤ 9223372036854775806) (v : Int) (h : Lib.atoiAll s.data.toList = .ok v) (w : World) :
  Calls Tryz.prog 38 #[.string s] w fun e w'=>e=.returned (.tuple #[.int .i64 v,.nilIface])∧(w'=w∨∃ t,w'=Lib.bytesWorld w 5 t):=Any.strconv_Atoi_ok Tryz.laysC172 s hmax v h w
open Go.RowKit in
theorem Tryz.strconv_Atoi_syntax_var (s : ByteArray) (hlim : s.size ≤ 281474976710656) (h : Lib.atoiAll s.data.toList = Lib.atoiAll []) (tp : TypeId) (p : Value) (w : World) (hvar : w.var? Tryz.prog "strconv.ErrSyntax" = some #[.iface tp p]) :
  Calls Tryz.prog 38 #[.string s] w fun e w'=>∃ N,e=.returned (.tuple #[.int .i64 0,.iface 111 (.pointer (some ⟨N,0,none⟩))])∧w.heap.size≤N∧w'.heap[N]?=some (.cells #[.string ⟨#[65,116,111,105]⟩,.string s,.iface tp p] 130 (0,0))∧Below w.heap.size w w':=Any.strconv_Atoi_syntax_var Tryz.laysC172 s hlim h tp p w hvar
open Go.RowKit in
theorem Tryz.strconv_Atoi_range_var (s : ByteArray) (hlim : s.size ≤ 281474976710656) (h : Lib.atoiAll s.data.toList = .range) (tp : TypeId) (p : Value) (w : World) (hvar : w.var? Tryz.prog "strconv.ErrRange" = some #[.iface tp p]) :
  Calls Tryz.prog 38 #[.string s] w fun e w'=>∃ N,e=.returned (.tuple #[.int .i64 (Lib.atoiSat s.data.toList),.iface 111 (.pointer (some ⟨N,0,none⟩))])∧w.heap.size≤N∧w'.heap[N]?=some (.cells #[.string ⟨#[65,116,111,105]⟩,.string s,.iface tp p] 130 (0,0))∧Below w.heap.size w w':=Any.strconv_Atoi_range_var Tryz.laysC172 s hlim h tp p w hvar
def Tryz.lays99_ren:Go.Shelf.Ren:=⟨fun | 99=>28 | 206=>40 | n=>n,fun | 9=>9 | 4=>4 | 3=>3 | n=>n,fun | n=>n⟩
theorem Tryz.lays99:Go.Proofs.Lays.n99 Tryz.prog Tryz.lays99_ren:={
 mixed:=by kernel_rfl
 f99:=Tryz.func28.trans (congrArg some (by kernel_rfl))
 f206:=Tryz.func40.trans (congrArg some (by kernel_rfl))
 t3:=Tryz.underlying3
 a3:=Tryz.isAgg3
 z3:=Tryz.sizeOf3
 v3:=Tryz.zeroValue3
 t4:=Tryz.underlying4
 a4:=Tryz.isAgg4
 z4:=Tryz.sizeOf4
 v4:=Tryz.zeroValue4
 t9:=Tryz.underlying9
 a9:=Tryz.isAgg9
 z9:=Tryz.sizeOf9
 v9:=Tryz.zeroValue9 }
open Go.RowKit Go.Lib in
theorem Tryz.strings_HasPrefix (s p : ByteArray) (w : World) :
  Calls Tryz.prog 28 #[.string s,.string p] w fun e w'=>e=.returned (.bool (Lib.hasPrefix s.data.toList p.data.toList))∧w'=w:=Any.strings_HasPrefix Tryz.lays99 s p w
def Tryz.lays157_ren:Go.Shelf.Ren:=⟨fun | 157=>25 | 229=>36 | 199=>37 | 261=>51 | 311=>64 | 312=>65 | n=>n,fun | 9=>9 | 31=>32 | 3=>3 | 5=>5 | 4=>4 | 119=>68 | 0=>0 | 40=>70 | 152=>80 | 21=>21 | 154=>82 | 51=>83 | 141=>85 | 196=>100 | 193=>97 | 198=>103 | 49=>101 | 194=>98 | 201=>106 | 226=>123 | 46=>124 | 227=>125 | n=>n,fun | 0=>0 | 6=>1 | n=>n⟩
theorem Tryz.lays157:Go.Proofs.Lays.n157 Tryz.prog Tryz.lays157_ren:={
 mixed:=by kernel_rfl
 f157:=Tryz.func25.trans (congrArg some (by kernel_rfl))
 f199:=Tryz.func37.trans (congrArg some (by kernel_rfl))
 f229:=Tryz.func36.trans (congrArg some (by kernel_rfl))
 f261:=Tryz.func51.trans (congrArg some (by kernel_rfl))
 f311:=Tryz.func64.trans (congrArg some (by kernel_rfl))
 f312:=Tryz.func65.trans (congrArg some (by kernel_rfl))
 t0:=Tryz.underlying0
 a0:=Tryz.isAgg0
 z0:=Tryz.sizeOf0
 v0:=Tryz.zeroValue0
 t3:=Tryz.underlying3
 a3:=Tryz.isAgg3
 z3:=Tryz.sizeOf3
 v3:=Tryz.zeroValue3
 t4:=Tryz.underlying4
 a4:=Tryz.isAgg4
 z4:=Tryz.sizeOf4
 v4:=Tryz.zeroValue4
 t5:=Tryz.underlying5
 a5:=Tryz.isAgg5
 z5:=Tryz.sizeOf5
 v5:=Tryz.zeroValue5
 t9:=Tryz.underlying9
 a9:=Tryz.isAgg9
 z9:=Tryz.sizeOf9
 v9:=Tryz.zeroValue9
 t21:=Tryz.underlying21
 a21:=Tryz.isAgg21
 z21:=Tryz.sizeOf21
 v21:=Tryz.zeroValue21
 t31:=Tryz.underlying32
 a31:=Tryz.isAgg32
 z31:=Tryz.sizeOf32
 v31:=Tryz.zeroValue32
 t40:=Tryz.underlying70
 a40:=Tryz.isAgg70
 z40:=Tryz.sizeOf70
 v40:=Tryz.zeroValue70
 t46:=Tryz.underlying124
 a46:=Tryz.isAgg124
 z46:=Tryz.sizeOf124
 v46:=Tryz.zeroValue124
 t49:=Tryz.underlying101
 a49:=Tryz.isAgg101
 z49:=Tryz.sizeOf101
 v49:=Tryz.zeroValue101
 t51:=Tryz.underlying83
 a51:=Tryz.isAgg83
 z51:=Tryz.sizeOf83
 v51:=Tryz.zeroValue83
 t119:=Tryz.underlying68
 a119:=Tryz.isAgg68
 z119:=Tryz.sizeOf68
 t141:=Tryz.underlying85
 a141:=Tryz.isAgg85
 z141:=Tryz.sizeOf85
 v141:=Tryz.zeroValue85
 t152:=Tryz.underlying80
 a152:=Tryz.isAgg80
 z152:=Tryz.sizeOf80
 v152:=Tryz.zeroValue80
 t154:=Tryz.underlying82
 a154:=Tryz.isAgg82
 z154:=Tryz.sizeOf82
 v154:=Tryz.zeroValue82
 t193:=Tryz.underlying97
 a193:=Tryz.isAgg97
 z193:=Tryz.sizeOf97
 v193:=Tryz.zeroValue97
 t194:=Tryz.underlying98
 a194:=Tryz.isAgg98
 z194:=Tryz.sizeOf98
 v194:=Tryz.zeroValue98
 t196:=Tryz.underlying100
 a196:=Tryz.isAgg100
 z196:=Tryz.sizeOf100
 v196:=Tryz.zeroValue100
 t198:=Tryz.underlying103
 a198:=Tryz.isAgg103
 z198:=Tryz.sizeOf103
 v198:=Tryz.zeroValue103
 t201:=Tryz.underlying106
 a201:=Tryz.isAgg106
 z201:=Tryz.sizeOf106
 v201:=Tryz.zeroValue106
 t226:=Tryz.underlying123
 a226:=Tryz.isAgg123
 z226:=Tryz.sizeOf123
 v226:=Tryz.zeroValue123
 t227:=Tryz.underlying125
 a227:=Tryz.isAgg125
 z227:=Tryz.sizeOf125
 v227:=Tryz.zeroValue125
 g0:=by kernel_rfl
 g6:=by kernel_rfl }
def Tryz.laysM146_ren:Go.Shelf.Ren:=⟨fun | 146=>27 | 221=>39 | 268=>54 | 138=>55 | 143=>56 | 195=>71 | 197=>58 | 218=>72 | 219=>73 | 260=>74 | 217=>84 | 225=>85 | 224=>86 | 267=>87 | 266=>97 | 314=>98 | n=>n,fun | 9=>9 | 31=>32 | 3=>3 | 4=>4 | 0=>0 | 105=>90 | 21=>21 | 5=>5 | 46=>124 | 119=>68 | 139=>134 | 138=>133 | 146=>144 | 51=>83 | n=>n,fun | 1=>2 | 3=>5 | 4=>6 | n=>n⟩
theorem Tryz.laysM146:Go.Proofs.LaysM.n146 Tryz.prog Tryz.laysM146_ren:={
 mixed:=by kernel_rfl
 f138:=Tryz.func55.trans (congrArg some (by kernel_rfl))
 f143:=Tryz.func56.trans (congrArg some (by kernel_rfl))
 f146:=Tryz.func27.trans (congrArg some (by kernel_rfl))
 f195:=Tryz.func71.trans (congrArg some (by kernel_rfl))
 f197:=Tryz.func58.trans (congrArg some (by kernel_rfl))
 f217:=Tryz.func84.trans (congrArg some (by kernel_rfl))
 f218:=Tryz.func72.trans (congrArg some (by kernel_rfl))
 f219:=Tryz.func73.trans (congrArg some (by kernel_rfl))
 f221:=Tryz.func39.trans (congrArg some (by kernel_rfl))
 f224:=Tryz.func86.trans (congrArg some (by kernel_rfl))
 f225:=Tryz.func85.trans (congrArg some (by kernel_rfl))
 f260:=Tryz.func74.trans (congrArg some (by kernel_rfl))
 f266:=Tryz.func97.trans (congrArg some (by kernel_rfl))
 f267:=Tryz.func87.trans (congrArg some (by kernel_rfl))
 f268:=Tryz.func54.trans (congrArg some (by kernel_rfl))
 f314:=Tryz.func98.trans (congrArg some (by kernel_rfl))
 t0:=Tryz.underlying0
 a0:=Tryz.isAgg0
 z0:=Tryz.sizeOf0
 v0:=Tryz.zeroValue0
 t3:=Tryz.underlying3
 a3:=Tryz.isAgg3
 z3:=Tryz.sizeOf3
 v3:=Tryz.zeroValue3
 t4:=Tryz.underlying4
 a4:=Tryz.isAgg4
 z4:=Tryz.sizeOf4
 v4:=Tryz.zeroValue4
 t5:=Tryz.underlying5
 a5:=Tryz.isAgg5
 z5:=Tryz.sizeOf5
 v5:=Tryz.zeroValue5
 t9:=Tryz.underlying9
 a9:=Tryz.isAgg9
 z9:=Tryz.sizeOf9
 v9:=Tryz.zeroValue9
 t21:=Tryz.underlying21
 a21:=Tryz.isAgg21
 z21:=Tryz.sizeOf21
 v21:=Tryz.zeroValue21
 t31:=Tryz.underlying32
 a31:=Tryz.isAgg32
 z31:=Tryz.sizeOf32
 v31:=Tryz.zeroValue32
 t46:=Tryz.underlying124
 a46:=Tryz.isAgg124
 z46:=Tryz.sizeOf124
 v46:=Tryz.zeroValue124
 t51:=Tryz.underlying83
 a51:=Tryz.isAgg83
 z51:=Tryz.sizeOf83
 v51:=Tryz.zeroValue83
 t105:=Tryz.underlying90
 a105:=Tryz.isAgg90
 z105:=Tryz.sizeOf90
 v105:=Tryz.zeroValue90
 t119:=Tryz.underlying68
 a119:=Tryz.isAgg68
 z119:=Tryz.sizeOf68
 t138:=Tryz.underlying133
 a138:=Tryz.isAgg133
 z138:=Tryz.sizeOf133
 v138:=Tryz.zeroValue133
 t139:=Tryz.underlying134
 a139:=Tryz.isAgg134
 z139:=Tryz.sizeOf134
 v139:=Tryz.zeroValue134
 t146:=Tryz.underlying144
 a146:=Tryz.isAgg144
 z146:=Tryz.sizeOf144
 v146:=Tryz.zeroValue144
 g1:=by kernel_rfl
 g3:=by kernel_rfl
 g4:=by kernel_rfl
 i0:=by kernel_rfl
 i3:=by kernel_rfl
 i4:=by kernel_rfl
 i5:=by kernel_rfl
 i9:=by kernel_rfl
 i21:=by kernel_rfl
 i31:=by kernel_rfl
 i46:=by kernel_rfl
 i51:=by kernel_rfl
 i105:=by kernel_rfl
 i138:=by kernel_rfl
 i139:=by kernel_rfl
 i146:=by kernel_rfl
 m1:=by kernel_rfl
 s1_3:=fun w h=>Go.Proofs.cell_of_shapedOpen_int (zero:=#[.int .i64 0]) (t:=3) h (of_decide_eq_true (by kernel_rfl)) (by kernel_rfl) rfl (by kernel_rfl) (by kernel_rfl) Tryz.underlying3
 m3:=by kernel_rfl
 m4:=by kernel_rfl }
open Go.RowKit Go.Lib in
theorem Tryz.strings_Split_shaped (s sep : ByteArray) (w : World) (h : w.ShapedOpen Tryz.prog) (hs : s.size < 4294967281) (h1 : 1 ≤ sep.size) :
  Calls Tryz.prog 27 #[.string s,.string sep] w fun e w' =>
   e=.returned (.slice (some ⟨w.heap.size,0,none⟩) (Lib.countB s sep+1) (Lib.countB s sep+1))∧w'=w.alloc (.cells ((Lib.splitB sep 0 (Lib.countB s sep) s).map Value.string).toArray 9):=Any.strings_Split_shaped Tryz.laysM146 s sep w h hs h1
open Go.RowKit Go.Lib in
theorem Tryz.strings_Fields_any (s : ByteArray) (w : World) (hs : s.size < 4294967281) (htab : Lib.TabIs Tryz.prog w "strings.asciiSpace" .u8 Lib.asciiSpaceTab) (hW : Lib.WhiteTab 1 w) :
  Calls Tryz.prog 25 #[.string s] w fun e w'=>∃ A,e=.returned (.slice (some ⟨A,0,none⟩) (Lib.fieldsD s.data.toList).length (Lib.fieldsD s.data.toList).length)∧w.heap.size≤A ∧
   w'.ownsRow w.heap.size 9 1 (.slice (some ⟨A,0,none⟩) (Lib.fieldsD s.data.toList).length (Lib.fieldsD s.data.toList).length) (Lib.fieldsD s.data.toList).length ((Lib.fieldsD s.data.toList).map fun x=>Value.string ⟨x.toArray⟩)∧Below w.heap.size w w':=Any.strings_Fields_any Tryz.lays157 (by kernel_rfl) (by kernel_rfl) (by kernel_rfl) s w hs htab hW
def Tryz.lays199_ren:Go.Shelf.Ren:=⟨fun | 199=>37 | 261=>51 | 311=>64 | 312=>65 | n=>n,fun | 21=>21 | 4=>4 | 51=>83 | 141=>85 | 0=>0 | 196=>100 | 193=>97 | 3=>3 | 198=>103 | 49=>101 | 194=>98 | 201=>106 | 226=>123 | 46=>124 | 227=>125 | n=>n,fun | 6=>1 | n=>n⟩
theorem Tryz.lays199:Go.Proofs.Lays.n199 Tryz.prog Tryz.lays199_ren:={
 mixed:=by kernel_rfl
 f199:=Tryz.func37.trans (congrArg some (by kernel_rfl))
 f261:=Tryz.func51.trans (congrArg some (by kernel_rfl))
 f311:=Tryz.func64.trans (congrArg some (by kernel_rfl))
 f312:=Tryz.func65.trans (congrArg some (by kernel_rfl))
 t0:=Tryz.underlying0
 a0:=Tryz.isAgg0
 z0:=Tryz.sizeOf0
 v0:=Tryz.zeroValue0
 t3:=Tryz.underlying3
 a3:=Tryz.isAgg3
 z3:=Tryz.sizeOf3
 v3:=Tryz.zeroValue3
 t4:=Tryz.underlying4
 a4:=Tryz.isAgg4
 z4:=Tryz.sizeOf4
 v4:=Tryz.zeroValue4
 t21:=Tryz.underlying21
 a21:=Tryz.isAgg21
 z21:=Tryz.sizeOf21
 v21:=Tryz.zeroValue21
 t46:=Tryz.underlying124
 a46:=Tryz.isAgg124
 z46:=Tryz.sizeOf124
 v46:=Tryz.zeroValue124
 t49:=Tryz.underlying101
 a49:=Tryz.isAgg101
 z49:=Tryz.sizeOf101
 v49:=Tryz.zeroValue101
 t51:=Tryz.underlying83
 a51:=Tryz.isAgg83
 z51:=Tryz.sizeOf83
 v51:=Tryz.zeroValue83
 t141:=Tryz.underlying85
 a141:=Tryz.isAgg85
 z141:=Tryz.sizeOf85
 v141:=Tryz.zeroValue85
 t193:=Tryz.underlying97
 a193:=Tryz.isAgg97
 z193:=Tryz.sizeOf97
 v193:=Tryz.zeroValue97
 t194:=Tryz.underlying98
 a194:=Tryz.isAgg98
 z194:=Tryz.sizeOf98
 v194:=Tryz.zeroValue98
 t196:=Tryz.underlying100
 a196:=Tryz.isAgg100
 z196:=Tryz.sizeOf100
 v196:=Tryz.zeroValue100
 t198:=Tryz.underlying103
 a198:=Tryz.isAgg103
 z198:=Tryz.sizeOf103
 v198:=Tryz.zeroValue103
 t201:=Tryz.underlying106
 a201:=Tryz.isAgg106
 z201:=Tryz.sizeOf106
 v201:=Tryz.zeroValue106
 t226:=Tryz.underlying123
 a226:=Tryz.isAgg123
 z226:=Tryz.sizeOf123
 v226:=Tryz.zeroValue123
 t227:=Tryz.underlying125
 a227:=Tryz.isAgg125
 z227:=Tryz.sizeOf125
 v227:=Tryz.zeroValue125
 g6:=by kernel_rfl }
theorem Tryz.strings_Trim_laid (s cutset:ByteArray) (w:World) (hs:s.size≤9223372036854775807) (hcs:cutset.size < 4294967281) (hascii:∀ (j:Nat) b,cutset.data.toList[j]?=some b→b.toNat < 128) :
 Calls Tryz.prog 29 #[.string s,.string cutset] w fun e w'=>e=.returned (.string ⟨(Lib.trimS s.data.toList cutset.data.toList).toArray⟩)∧Go.RowKit.Below w.heap.size w w':=Any.strings_Trim_laid Tryz.lays160 (by kernel_rfl) s cutset w hs hcs hascii
end Go.Proofs
