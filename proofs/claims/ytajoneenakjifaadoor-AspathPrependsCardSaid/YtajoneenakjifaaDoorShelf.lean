/- The contracts of Go's library that are used, at this program. -/
import Derived.Shelf.Strings.Builder1
import Derived.Shelf.Strings.Builder2
import Derived.Shelf.Strings.OnBuilder
import Derived.Shelf.Strings.BuilderF
import Derived.Shelf.Strings.BuilderK
import Derived.Shelf.Utf8.RuneCount
import Derived.Shelf.Strings.Builder2Cap
import Derived.Shelf.Strconv.Atoi
import Derived.Shelf.Strconv.Itoa0
import Derived.Shelf.Strconv.Itoa1
import Derived.Shelf.LaysM
import Derived.Shelf.Strconv.Itoa2
import Derived.Shelf.Strconv.Itoa3
import Derived.Shelf.Strconv.AtoiErrFast
import Derived.Shelf.Strconv.ParseIntEmpty
import Derived.Shelf.Strconv.AtoiFail
import Derived.Shelf.Strconv.Clone
import Derived.Shelf.Strconv.SyntaxError
import Derived.Shelf.LaysC
import Derived.Shelf.Strconv.ToError
import Derived.Shelf.Strconv.AtoiErr
import Derived.Shelf.Strconv.ErrVar
import Derived.Shelf.Strconv.Lower
import Derived.Shelf.Strconv.ParseUint10
import Derived.Shelf.Strconv.ParseUint10Empty
import Derived.Shelf.Strconv.ParseUint10Any
import Derived.Shelf.Strconv.ParseInt10
import Derived.Shelf.Strconv.AtoiLong
import Derived.Shelf.Strconv.AtoiInnerAll
import Derived.Shelf.Strconv.RangeError
import Derived.Shelf.Strconv.ToErrorRange
import Derived.Shelf.Strconv.AtoiAll
import Derived.Shelf.Strconv.ErrVarAll
import Derived.Shelf.Strconv.ParseUintEmpty
import Derived.Shelf.Strconv.ParseUint10b64
import Derived.Shelf.Strconv.ParseUint10b32
import Derived.Shelf.Strconv.ParseUint10b16
import Derived.Shelf.Strconv.ParseUint10b8
import Derived.Shelf.Strconv.ParseUint10At
import Derived.Shelf.Strconv.ParseInt10At64
import Derived.Shelf.Strconv.ParseInt10At32
import Derived.Shelf.Strconv.ParseInt10At16
import Derived.Shelf.Strconv.ParseInt10At8
import Derived.Shelf.Strconv.ParseInt10All
import Derived.Shelf.Strings.Search1
import Derived.Shelf.Strings.Search2
import Derived.Shelf.Strings.Search3
import Derived.Shelf.Strings.Count
import Derived.Shelf.Strings.Shaped
import Derived.Shelf.Strings.Split
import Derived.Shelf.Strings.Fields
import Derived.Shelf.Strings.SplitShaped
import Derived.Shelf.Unicode.Latin
import Derived.Shelf.Unicode.Decode
import Derived.Shelf.Strings.RuneCount
import Derived.Shelf.Strings.Explode
import Derived.Shelf.Bits.Mul64
import Derived.Shelf.Unicode.DecodeSlow
import Derived.Shelf.Unicode.DecodeAny
import Derived.Shelf.Unicode.Is16White
import Derived.Shelf.Unicode.IsSpaceAny
import Derived.Shelf.Unicode.Is16WhiteD
import Derived.Shelf.Unicode.IsSpaceAnyD
import Derived.Shelf.Strings.FieldsAny
import Derived.Shelf.Strings.FieldsFuncAny
import Derived.Shelf.Unicode.Is16Any
import Derived.Shelf.Unicode.Is32Any
import Derived.Shelf.Unicode.ExclAny
import Derived.Shelf.Strings.FieldsFuncGrows
import Derived.Shelf.Strings.BuilderCap
import Derived.Shelf.Slices.Turned
import Derived.Ground.Names2Prog
import Derived.Shelf.Slices.Clone
import Derived.Ground.SlgnProg
import Derived.Shelf.SlicesE.Clone
import Derived.Test.YtajoneenakjifaaDoorProg
namespace Go.Proofs
open Go.Shelf
def Tryd.lays156_ren:Go.Shelf.Ren:=⟨fun | 156=>38 | 165=>50 | 166=>51 | 169=>52 | 240=>64 | 241=>65 | 276=>80 | 277=>81 | n=>n,fun | 31=>57 | 9=>9 | 3=>3 | 4=>4 | 0=>0 | 20=>20 | 72=>80 | 76=>74 | 70=>77 | 37=>78 | 75=>73 | 127=>97 | 164=>123 | 5=>5 | 80=>82 | n=>n,fun | n=>n⟩
theorem Tryd.lays156:Go.Proofs.Lays.n156 Tryd.prog Tryd.lays156_ren:={
 mixed:=by kernel_rfl
 f156:=Tryd.func38.trans (congrArg some (by kernel_rfl))
 f165:=Tryd.func50.trans (congrArg some (by kernel_rfl))
 f166:=Tryd.func51.trans (congrArg some (by kernel_rfl))
 f169:=Tryd.func52.trans (congrArg some (by kernel_rfl))
 f240:=Tryd.func64.trans (congrArg some (by kernel_rfl))
 f241:=Tryd.func65.trans (congrArg some (by kernel_rfl))
 f276:=Tryd.func80.trans (congrArg some (by kernel_rfl))
 f277:=Tryd.func81.trans (congrArg some (by kernel_rfl))
 t0:=Tryd.underlying0
 a0:=Tryd.isAgg0
 z0:=Tryd.sizeOf0
 v0:=Tryd.zeroValue0
 t3:=Tryd.underlying3
 a3:=Tryd.isAgg3
 z3:=Tryd.sizeOf3
 v3:=Tryd.zeroValue3
 t4:=Tryd.underlying4
 a4:=Tryd.isAgg4
 z4:=Tryd.sizeOf4
 v4:=Tryd.zeroValue4
 t9:=Tryd.underlying9
 a9:=Tryd.isAgg9
 z9:=Tryd.sizeOf9
 v9:=Tryd.zeroValue9
 t20:=Tryd.underlying20
 a20:=Tryd.isAgg20
 z20:=Tryd.sizeOf20
 v20:=Tryd.zeroValue20
 t31:=Tryd.underlying57
 a31:=Tryd.isAgg57
 z31:=Tryd.sizeOf57
 v31:=Tryd.zeroValue57
 t37:=Tryd.underlying78
 a37:=Tryd.isAgg78
 z37:=Tryd.sizeOf78
 v37:=Tryd.zeroValue78
 t70:=Tryd.underlying77
 a70:=Tryd.isAgg77
 z70:=Tryd.sizeOf77
 v70:=Tryd.zeroValue77
 t72:=Tryd.underlying80
 a72:=Tryd.isAgg80
 z72:=Tryd.sizeOf80
 v72:=Tryd.zeroValue80
 t75:=Tryd.underlying73
 a75:=Tryd.isAgg73
 z75:=Tryd.sizeOf73
 v75:=Tryd.zeroValue73
 t76:=Tryd.underlying74
 a76:=Tryd.isAgg74
 z76:=Tryd.sizeOf74
 v76:=Tryd.zeroValue74
 t127:=Tryd.underlying97
 a127:=Tryd.isAgg97
 z127:=Tryd.sizeOf97
 v127:=Tryd.zeroValue97
 t164:=Tryd.underlying123
 a164:=Tryd.isAgg123
 z164:=Tryd.sizeOf123
 v164:=Tryd.zeroValue123 }
theorem Tryd.Builder_Extra_156:Builder.Extra Tryd.prog Tryd.lays156_ren:={
 sizeBuilder:=by kernel_rfl
 liesBuilder:=by kernel_rfl
 t5:=Tryd.underlying5
 a5:=Tryd.isAgg5
 z5:=Tryd.sizeOf5
 v5:=Tryd.zeroValue5
 infoByte:=by kernel_rfl
 cellsByte:=by kernel_rfl
 sizeByte:=by kernel_rfl
 neB5:=by decide }
open Go.RowKit in
theorem Tryd.strings_Join_none (a : Option Addr) (c : Nat) (sep : ByteArray) (w : World) :
  Calls Tryd.prog 38 #[.slice a 0 c,.string sep] w fun e w'=>e=.returned (.string ⟨#[]⟩)∧w'=w:=Any.strings_Join_none Tryd.lays156 Tryd.Builder_Extra_156 a c sep w
open Go.RowKit in
theorem Tryd.strings_Join (bk o c : Nat) (xs : List ByteArray) (sep : ByteArray) (w : World) (hcells : ∀ (j : Nat) x, xs[j]? = some x → w.cell? ⟨bk, o + j, none⟩ = some (.string x)) (hbk : bk < w.heap.size) (hN : xs.length ≤ 140737488355328) (hcap : xs.length ≤ c) (hlen : (Lib.join (xs.map (·.data.toList)) sep.data.toList).length ≤ 140737488355328) :
  Calls Tryd.prog 38 #[.slice (some ⟨bk,o,none⟩) xs.length c,.string sep] w fun e w'=>e=.returned (.string ⟨(Lib.join (xs.map (·.data.toList)) sep.data.toList).toArray⟩)∧Below w.heap.size w w':=Any.strings_Join Tryd.lays156 Tryd.Builder_Extra_156 bk o c xs sep w hcells hbk hN hcap hlen
def Tryd.laysM171_ren:Go.Shelf.Ren:=⟨fun | 171=>49 | 243=>63 | 246=>79 | 283=>90 | 284=>91 | 285=>92 | 286=>93 | 129=>102 | 317=>101 | 318=>103 | 319=>104 | 320=>105 | 337=>108 | 338=>109 | n=>n,fun | 3=>3 | 9=>9 | 2=>2 | 4=>4 | 171=>139 | 0=>0 | 53=>100 | 37=>78 | 5=>5 | 173=>142 | 212=>150 | 51=>92 | 20=>20 | 213=>151 | 46=>86 | 232=>158 | 233=>159 | n=>n,fun | 17=>5 | 18=>8 | 19=>9 | n=>n⟩
theorem Tryd.laysM171:Go.Proofs.LaysM.n171 Tryd.prog Tryd.laysM171_ren:={
 mixed:=by kernel_rfl
 f129:=Tryd.func102.trans (congrArg some (by kernel_rfl))
 f171:=Tryd.func49.trans (congrArg some (by kernel_rfl))
 f243:=Tryd.func63.trans (congrArg some (by kernel_rfl))
 f246:=Tryd.func79.trans (congrArg some (by kernel_rfl))
 f283:=Tryd.func90.trans (congrArg some (by kernel_rfl))
 f284:=Tryd.func91.trans (congrArg some (by kernel_rfl))
 f285:=Tryd.func92.trans (congrArg some (by kernel_rfl))
 f286:=Tryd.func93.trans (congrArg some (by kernel_rfl))
 f317:=Tryd.func101.trans (congrArg some (by kernel_rfl))
 f318:=Tryd.func103.trans (congrArg some (by kernel_rfl))
 f319:=Tryd.func104.trans (congrArg some (by kernel_rfl))
 f320:=Tryd.func105.trans (congrArg some (by kernel_rfl))
 f337:=Tryd.func108.trans (congrArg some (by kernel_rfl))
 f338:=Tryd.func109.trans (congrArg some (by kernel_rfl))
 t0:=Tryd.underlying0
 a0:=Tryd.isAgg0
 z0:=Tryd.sizeOf0
 v0:=Tryd.zeroValue0
 t2:=Tryd.underlying2
 a2:=Tryd.isAgg2
 z2:=Tryd.sizeOf2
 v2:=Tryd.zeroValue2
 t3:=Tryd.underlying3
 a3:=Tryd.isAgg3
 z3:=Tryd.sizeOf3
 v3:=Tryd.zeroValue3
 t4:=Tryd.underlying4
 a4:=Tryd.isAgg4
 z4:=Tryd.sizeOf4
 v4:=Tryd.zeroValue4
 t5:=Tryd.underlying5
 a5:=Tryd.isAgg5
 z5:=Tryd.sizeOf5
 v5:=Tryd.zeroValue5
 t9:=Tryd.underlying9
 a9:=Tryd.isAgg9
 z9:=Tryd.sizeOf9
 v9:=Tryd.zeroValue9
 t20:=Tryd.underlying20
 a20:=Tryd.isAgg20
 z20:=Tryd.sizeOf20
 v20:=Tryd.zeroValue20
 t37:=Tryd.underlying78
 a37:=Tryd.isAgg78
 z37:=Tryd.sizeOf78
 v37:=Tryd.zeroValue78
 t46:=Tryd.underlying86
 a46:=Tryd.isAgg86
 z46:=Tryd.sizeOf86
 v46:=Tryd.zeroValue86
 t51:=Tryd.underlying92
 a51:=Tryd.isAgg92
 z51:=Tryd.sizeOf92
 v51:=Tryd.zeroValue92
 t53:=Tryd.underlying100
 a53:=Tryd.isAgg100
 z53:=Tryd.sizeOf100
 v53:=Tryd.zeroValue100
 t171:=Tryd.underlying139
 a171:=Tryd.isAgg139
 z171:=Tryd.sizeOf139
 v171:=Tryd.zeroValue139
 t173:=Tryd.underlying142
 a173:=Tryd.isAgg142
 z173:=Tryd.sizeOf142
 v173:=Tryd.zeroValue142
 t212:=Tryd.underlying150
 a212:=Tryd.isAgg150
 z212:=Tryd.sizeOf150
 v212:=Tryd.zeroValue150
 t213:=Tryd.underlying151
 a213:=Tryd.isAgg151
 z213:=Tryd.sizeOf151
 t232:=Tryd.underlying158
 a232:=Tryd.isAgg158
 z232:=Tryd.sizeOf158
 v232:=Tryd.zeroValue158
 t233:=Tryd.underlying159
 a233:=Tryd.isAgg159
 z233:=Tryd.sizeOf159
 v233:=Tryd.zeroValue159
 g17:=by kernel_rfl
 g18:=by kernel_rfl
 g19:=by kernel_rfl
 i0:=by kernel_rfl
 i2:=by kernel_rfl
 i3:=by kernel_rfl
 i4:=by kernel_rfl
 i5:=by kernel_rfl
 i9:=by kernel_rfl
 i20:=by kernel_rfl
 i37:=by kernel_rfl
 i46:=by kernel_rfl
 i51:=by kernel_rfl
 i53:=by kernel_rfl
 i171:=by kernel_rfl
 i173:=by kernel_rfl
 i212:=by kernel_rfl
 i232:=by kernel_rfl
 i233:=by kernel_rfl
 m17:=by kernel_rfl
 m18:=by kernel_rfl
 m19:=by kernel_rfl }
open Go.RowKit Go.Sort Go.Lib in
theorem Tryd.strconv_Itoa (n : Int) (h0 : -9223372036854775808 ≤ n) (h1 : n ≤ 9223372036854775807) (w : World) (htab : Lib.TabIs Tryd.prog w "internal/strconv.uint64pow10" .u64 Lib.pow10Tab) :
  Calls Tryd.prog 49 #[.int .i64 n] w fun e w'=>e=.returned (.string ⟨(Lib.itoa n).toArray⟩)∧∃ k os,w'=grow (w.drewN k) os:=Any.strconv_Itoa Tryd.laysM171 n h0 h1 w htab
def Tryd.laysC172_ren:Go.Shelf.Ren:=⟨fun | 172=>48 | 244=>61 | 245=>62 | 247=>74 | 279=>75 | 280=>76 | 281=>77 | 282=>78 | 287=>87 | 316=>88 | 171=>49 | 205=>89 | 321=>99 | 322=>100 | 243=>63 | 246=>79 | 283=>90 | 284=>91 | 285=>92 | 286=>93 | 129=>102 | 317=>101 | 318=>103 | 319=>104 | 320=>105 | 337=>108 | 338=>109 | n=>n,fun | 9=>9 | 3=>3 | 75=>73 | 76=>74 | 4=>4 | 5=>5 | 167=>116 | 37=>78 | 0=>0 | 85=>117 | 2=>2 | 168=>119 | 53=>100 | 175=>133 | 46=>86 | 210=>137 | 127=>97 | 145=>148 | 143=>146 | 21=>21 | 171=>139 | 173=>142 | 212=>150 | 51=>92 | 20=>20 | 213=>151 | 232=>158 | 233=>159 | 80=>82 | n=>n,fun | 15=>2 | 16=>3 | 17=>5 | 18=>8 | 19=>9 | n=>n⟩
theorem Tryd.laysC172:Go.Proofs.LaysC.n172 Tryd.prog Tryd.laysC172_ren:={
 mixed:=by kernel_rfl
 f129:=Tryd.func102.trans (congrArg some (by kernel_rfl))
 f171:=Tryd.func49.trans (congrArg some (by kernel_rfl))
 f172:=Tryd.func48.trans (congrArg some (by kernel_rfl))
 f205:=Tryd.func89.trans (congrArg some (by kernel_rfl))
 f243:=Tryd.func63.trans (congrArg some (by kernel_rfl))
 f244:=Tryd.func61.trans (congrArg some (by kernel_rfl))
 f245:=Tryd.func62.trans (congrArg some (by kernel_rfl))
 f246:=Tryd.func79.trans (congrArg some (by kernel_rfl))
 f247:=Tryd.func74.trans (congrArg some (by kernel_rfl))
 f279:=Tryd.func75.trans (congrArg some (by kernel_rfl))
 f280:=Tryd.func76.trans (congrArg some (by kernel_rfl))
 f281:=Tryd.func77.trans (congrArg some (by kernel_rfl))
 f282:=Tryd.func78.trans (congrArg some (by kernel_rfl))
 f283:=Tryd.func90.trans (congrArg some (by kernel_rfl))
 f284:=Tryd.func91.trans (congrArg some (by kernel_rfl))
 f285:=Tryd.func92.trans (congrArg some (by kernel_rfl))
 f286:=Tryd.func93.trans (congrArg some (by kernel_rfl))
 f287:=Tryd.func87.trans (congrArg some (by kernel_rfl))
 f316:=Tryd.func88.trans (congrArg some (by kernel_rfl))
 f317:=Tryd.func101.trans (congrArg some (by kernel_rfl))
 f318:=Tryd.func103.trans (congrArg some (by kernel_rfl))
 f319:=Tryd.func104.trans (congrArg some (by kernel_rfl))
 f320:=Tryd.func105.trans (congrArg some (by kernel_rfl))
 f321:=Tryd.func99.trans (congrArg some (by kernel_rfl))
 f322:=Tryd.func100.trans (congrArg some (by kernel_rfl))
 f337:=Tryd.func108.trans (congrArg some (by kernel_rfl))
 f338:=Tryd.func109.trans (congrArg some (by kernel_rfl))
 t0:=Tryd.underlying0
 a0:=Tryd.isAgg0
 z0:=Tryd.sizeOf0
 v0:=Tryd.zeroValue0
 t2:=Tryd.underlying2
 a2:=Tryd.isAgg2
 z2:=Tryd.sizeOf2
 v2:=Tryd.zeroValue2
 t3:=Tryd.underlying3
 a3:=Tryd.isAgg3
 z3:=Tryd.sizeOf3
 v3:=Tryd.zeroValue3
 t4:=Tryd.underlying4
 a4:=Tryd.isAgg4
 z4:=Tryd.sizeOf4
 v4:=Tryd.zeroValue4
 t5:=Tryd.underlying5
 a5:=Tryd.isAgg5
 z5:=Tryd.sizeOf5
 v5:=Tryd.zeroValue5
 t9:=Tryd.underlying9
 a9:=Tryd.isAgg9
 z9:=Tryd.sizeOf9
 v9:=Tryd.zeroValue9
 t20:=Tryd.underlying20
 a20:=Tryd.isAgg20
 z20:=Tryd.sizeOf20
 v20:=Tryd.zeroValue20
 t21:=Tryd.underlying21
 a21:=Tryd.isAgg21
 z21:=Tryd.sizeOf21
 v21:=Tryd.zeroValue21
 t37:=Tryd.underlying78
 a37:=Tryd.isAgg78
 z37:=Tryd.sizeOf78
 v37:=Tryd.zeroValue78
 t46:=Tryd.underlying86
 a46:=Tryd.isAgg86
 z46:=Tryd.sizeOf86
 v46:=Tryd.zeroValue86
 t51:=Tryd.underlying92
 a51:=Tryd.isAgg92
 z51:=Tryd.sizeOf92
 v51:=Tryd.zeroValue92
 t53:=Tryd.underlying100
 a53:=Tryd.isAgg100
 z53:=Tryd.sizeOf100
 v53:=Tryd.zeroValue100
 t75:=Tryd.underlying73
 a75:=Tryd.isAgg73
 z75:=Tryd.sizeOf73
 v75:=Tryd.zeroValue73
 t76:=Tryd.underlying74
 a76:=Tryd.isAgg74
 z76:=Tryd.sizeOf74
 v76:=Tryd.zeroValue74
 t85:=Tryd.underlying117
 a85:=Tryd.isAgg117
 z85:=Tryd.sizeOf117
 v85:=Tryd.zeroValue117
 t127:=Tryd.underlying97
 a127:=Tryd.isAgg97
 z127:=Tryd.sizeOf97
 v127:=Tryd.zeroValue97
 t143:=Tryd.underlying146
 a143:=Tryd.isAgg146
 z143:=Tryd.sizeOf146
 v143:=Tryd.zeroValue146
 t145:=Tryd.underlying148
 a145:=Tryd.isAgg148
 z145:=Tryd.sizeOf148
 v145:=Tryd.zeroValue148
 t167:=Tryd.underlying116
 a167:=Tryd.isAgg116
 z167:=Tryd.sizeOf116
 v167:=Tryd.zeroValue116
 t168:=Tryd.underlying119
 a168:=Tryd.isAgg119
 z168:=Tryd.sizeOf119
 v168:=Tryd.zeroValue119
 t171:=Tryd.underlying139
 a171:=Tryd.isAgg139
 z171:=Tryd.sizeOf139
 v171:=Tryd.zeroValue139
 t173:=Tryd.underlying142
 a173:=Tryd.isAgg142
 z173:=Tryd.sizeOf142
 v173:=Tryd.zeroValue142
 t175:=Tryd.underlying133
 a175:=Tryd.isAgg133
 z175:=Tryd.sizeOf133
 v175:=Tryd.zeroValue133
 t210:=Tryd.underlying137
 a210:=Tryd.isAgg137
 z210:=Tryd.sizeOf137
 v210:=Tryd.zeroValue137
 t212:=Tryd.underlying150
 a212:=Tryd.isAgg150
 z212:=Tryd.sizeOf150
 v212:=Tryd.zeroValue150
 t213:=Tryd.underlying151
 a213:=Tryd.isAgg151
 z213:=Tryd.sizeOf151
 t232:=Tryd.underlying158
 a232:=Tryd.isAgg158
 z232:=Tryd.sizeOf158
 v232:=Tryd.zeroValue158
 t233:=Tryd.underlying159
 a233:=Tryd.isAgg159
 z233:=Tryd.sizeOf159
 v233:=Tryd.zeroValue159
 g15:=by kernel_rfl
 g16:=by kernel_rfl
 g17:=by kernel_rfl
 g18:=by kernel_rfl
 g19:=by kernel_rfl
 t80:=Tryd.underlying82
 a80:=Tryd.isAgg82
 z80:=Tryd.sizeOf82
 v80:=Tryd.zeroValue82
 i0:=by kernel_rfl
 i2:=by kernel_rfl
 i3:=by kernel_rfl
 i4:=by kernel_rfl
 i5:=by kernel_rfl
 i9:=by kernel_rfl
 i20:=by kernel_rfl
 i21:=by kernel_rfl
 i37:=by kernel_rfl
 i46:=by kernel_rfl
 i51:=by kernel_rfl
 i53:=by kernel_rfl
 i75:=by kernel_rfl
 i76:=by kernel_rfl
 i80:=by kernel_rfl
 i85:=by kernel_rfl
 i127:=by kernel_rfl
 i143:=by kernel_rfl
 i145:=by kernel_rfl
 i167:=by kernel_rfl
 i168:=by kernel_rfl
 i171:=by kernel_rfl
 i173:=by kernel_rfl
 i175:=by kernel_rfl
 i210:=by kernel_rfl
 i212:=by kernel_rfl
 i232:=by kernel_rfl
 i233:=by kernel_rfl
 m15:=by kernel_rfl
 m16:=by kernel_rfl
 m17:=by kernel_rfl
 m18:=by kernel_rfl
 m19:=by kernel_rfl
 c0:=by kernel_rfl
 c2:=by kernel_rfl
 c3:=by kernel_rfl
 c4:=by kernel_rfl
 c5:=by kernel_rfl
 c9:=by kernel_rfl
 c20:=by kernel_rfl
 c21:=by kernel_rfl
 c37:=by kernel_rfl
 c46:=by kernel_rfl
 c51:=by kernel_rfl
 c53:=by kernel_rfl
 c75:=by kernel_rfl
 c76:=by kernel_rfl
 c80:=by kernel_rfl
 c85:=by kernel_rfl
 c127:=by kernel_rfl
 c143:=by kernel_rfl
 c145:=by kernel_rfl
 c167:=by kernel_rfl
 c168:=by kernel_rfl
 c171:=by kernel_rfl
 c173:=by kernel_rfl
 c175:=by kernel_rfl
 c210:=by kernel_rfl
 c212:=by kernel_rfl
 c213:=by kernel_rfl
 c232:=by kernel_rfl
 c233:=by kernel_rfl }
open Go.RowKit in
theorem Tryd.strconv_Atoi_ok (s : ByteArray) (hmax : s.size ≤ 9223372036854775806) (v : Int) (h : Lib.atoiAll s.data.toList = .ok v) (w : World) :
  Calls Tryd.prog 48 #[.string s] w fun e w'=>e=.returned (.tuple #[.int .i64 v,.nilIface])∧(w'=w∨∃ t,w'=Lib.bytesWorld w 5 t):=Any.strconv_Atoi_ok Tryd.laysC172 s hmax v h w
open Go.RowKit in
theorem Tryd.strconv_Atoi_syntax_var (s : ByteArray) (hlim : s.size ≤ 281474976710656) (h : Lib.atoiAll s.data.toList = Lib.atoiAll []) (tp : TypeId) (p : Value) (w : World) (hvar : w.var? Tryd.prog "strconv.ErrSyntax" = some #[.iface tp p]) :
  Calls Tryd.prog 48 #[.string s] w fun e w'=>∃ N,e=.returned (.tuple #[.int .i64 0,.iface 119 (.pointer (some ⟨N,0,none⟩))])∧w.heap.size≤N∧w'.heap[N]?=some (.cells #[.string ⟨#[65,116,111,105]⟩,.string s,.iface tp p] 137 (0,0))∧Below w.heap.size w w':=Any.strconv_Atoi_syntax_var Tryd.laysC172 s hlim h tp p w hvar
open Go.RowKit in
theorem Tryd.strconv_Atoi_range_var (s : ByteArray) (hlim : s.size ≤ 281474976710656) (h : Lib.atoiAll s.data.toList = .range) (tp : TypeId) (p : Value) (w : World) (hvar : w.var? Tryd.prog "strconv.ErrRange" = some #[.iface tp p]) :
  Calls Tryd.prog 48 #[.string s] w fun e w'=>∃ N,e=.returned (.tuple #[.int .i64 (Lib.atoiSat s.data.toList),.iface 119 (.pointer (some ⟨N,0,none⟩))])∧w.heap.size≤N∧w'.heap[N]?=some (.cells #[.string ⟨#[65,116,111,105]⟩,.string s,.iface tp p] 137 (0,0))∧Below w.heap.size w w':=Any.strconv_Atoi_range_var Tryd.laysC172 s hlim h tp p w hvar
def Tryd.lays157_ren:Go.Shelf.Ren:=⟨fun | 157=>35 | 229=>45 | 199=>46 | 261=>59 | 311=>69 | 312=>70 | n=>n,fun | 9=>9 | 31=>57 | 3=>3 | 5=>5 | 4=>4 | 119=>68 | 0=>0 | 40=>70 | 152=>89 | 21=>21 | 154=>91 | 51=>92 | 141=>94 | 196=>106 | 193=>103 | 198=>109 | 49=>107 | 194=>104 | 201=>112 | 226=>127 | 46=>86 | 227=>128 | n=>n,fun | 0=>0 | 6=>1 | n=>n⟩
theorem Tryd.lays157:Go.Proofs.Lays.n157 Tryd.prog Tryd.lays157_ren:={
 mixed:=by kernel_rfl
 f157:=Tryd.func35.trans (congrArg some (by kernel_rfl))
 f199:=Tryd.func46.trans (congrArg some (by kernel_rfl))
 f229:=Tryd.func45.trans (congrArg some (by kernel_rfl))
 f261:=Tryd.func59.trans (congrArg some (by kernel_rfl))
 f311:=Tryd.func69.trans (congrArg some (by kernel_rfl))
 f312:=Tryd.func70.trans (congrArg some (by kernel_rfl))
 t0:=Tryd.underlying0
 a0:=Tryd.isAgg0
 z0:=Tryd.sizeOf0
 v0:=Tryd.zeroValue0
 t3:=Tryd.underlying3
 a3:=Tryd.isAgg3
 z3:=Tryd.sizeOf3
 v3:=Tryd.zeroValue3
 t4:=Tryd.underlying4
 a4:=Tryd.isAgg4
 z4:=Tryd.sizeOf4
 v4:=Tryd.zeroValue4
 t5:=Tryd.underlying5
 a5:=Tryd.isAgg5
 z5:=Tryd.sizeOf5
 v5:=Tryd.zeroValue5
 t9:=Tryd.underlying9
 a9:=Tryd.isAgg9
 z9:=Tryd.sizeOf9
 v9:=Tryd.zeroValue9
 t21:=Tryd.underlying21
 a21:=Tryd.isAgg21
 z21:=Tryd.sizeOf21
 v21:=Tryd.zeroValue21
 t31:=Tryd.underlying57
 a31:=Tryd.isAgg57
 z31:=Tryd.sizeOf57
 v31:=Tryd.zeroValue57
 t40:=Tryd.underlying70
 a40:=Tryd.isAgg70
 z40:=Tryd.sizeOf70
 v40:=Tryd.zeroValue70
 t46:=Tryd.underlying86
 a46:=Tryd.isAgg86
 z46:=Tryd.sizeOf86
 v46:=Tryd.zeroValue86
 t49:=Tryd.underlying107
 a49:=Tryd.isAgg107
 z49:=Tryd.sizeOf107
 v49:=Tryd.zeroValue107
 t51:=Tryd.underlying92
 a51:=Tryd.isAgg92
 z51:=Tryd.sizeOf92
 v51:=Tryd.zeroValue92
 t119:=Tryd.underlying68
 a119:=Tryd.isAgg68
 z119:=Tryd.sizeOf68
 t141:=Tryd.underlying94
 a141:=Tryd.isAgg94
 z141:=Tryd.sizeOf94
 v141:=Tryd.zeroValue94
 t152:=Tryd.underlying89
 a152:=Tryd.isAgg89
 z152:=Tryd.sizeOf89
 v152:=Tryd.zeroValue89
 t154:=Tryd.underlying91
 a154:=Tryd.isAgg91
 z154:=Tryd.sizeOf91
 v154:=Tryd.zeroValue91
 t193:=Tryd.underlying103
 a193:=Tryd.isAgg103
 z193:=Tryd.sizeOf103
 v193:=Tryd.zeroValue103
 t194:=Tryd.underlying104
 a194:=Tryd.isAgg104
 z194:=Tryd.sizeOf104
 v194:=Tryd.zeroValue104
 t196:=Tryd.underlying106
 a196:=Tryd.isAgg106
 z196:=Tryd.sizeOf106
 v196:=Tryd.zeroValue106
 t198:=Tryd.underlying109
 a198:=Tryd.isAgg109
 z198:=Tryd.sizeOf109
 v198:=Tryd.zeroValue109
 t201:=Tryd.underlying112
 a201:=Tryd.isAgg112
 z201:=Tryd.sizeOf112
 v201:=Tryd.zeroValue112
 t226:=Tryd.underlying127
 a226:=Tryd.isAgg127
 z226:=Tryd.sizeOf127
 v226:=Tryd.zeroValue127
 t227:=Tryd.underlying128
 a227:=Tryd.isAgg128
 z227:=Tryd.sizeOf128
 v227:=Tryd.zeroValue128
 g0:=by kernel_rfl
 g6:=by kernel_rfl }
def Tryd.laysM146_ren:Go.Shelf.Ren:=⟨fun | 146=>47 | 221=>60 | 268=>71 | 138=>72 | 143=>73 | 195=>83 | 197=>84 | 218=>85 | 219=>86 | 260=>94 | 217=>95 | 225=>96 | 224=>97 | 267=>98 | 266=>106 | 314=>107 | n=>n,fun | 9=>9 | 31=>57 | 3=>3 | 4=>4 | 0=>0 | 105=>130 | 21=>21 | 5=>5 | 46=>86 | 119=>68 | 139=>155 | 138=>154 | 146=>98 | 51=>92 | n=>n,fun | 1=>4 | 3=>6 | 4=>7 | n=>n⟩
theorem Tryd.laysM146:Go.Proofs.LaysM.n146 Tryd.prog Tryd.laysM146_ren:={
 mixed:=by kernel_rfl
 f138:=Tryd.func72.trans (congrArg some (by kernel_rfl))
 f143:=Tryd.func73.trans (congrArg some (by kernel_rfl))
 f146:=Tryd.func47.trans (congrArg some (by kernel_rfl))
 f195:=Tryd.func83.trans (congrArg some (by kernel_rfl))
 f197:=Tryd.func84.trans (congrArg some (by kernel_rfl))
 f217:=Tryd.func95.trans (congrArg some (by kernel_rfl))
 f218:=Tryd.func85.trans (congrArg some (by kernel_rfl))
 f219:=Tryd.func86.trans (congrArg some (by kernel_rfl))
 f221:=Tryd.func60.trans (congrArg some (by kernel_rfl))
 f224:=Tryd.func97.trans (congrArg some (by kernel_rfl))
 f225:=Tryd.func96.trans (congrArg some (by kernel_rfl))
 f260:=Tryd.func94.trans (congrArg some (by kernel_rfl))
 f266:=Tryd.func106.trans (congrArg some (by kernel_rfl))
 f267:=Tryd.func98.trans (congrArg some (by kernel_rfl))
 f268:=Tryd.func71.trans (congrArg some (by kernel_rfl))
 f314:=Tryd.func107.trans (congrArg some (by kernel_rfl))
 t0:=Tryd.underlying0
 a0:=Tryd.isAgg0
 z0:=Tryd.sizeOf0
 v0:=Tryd.zeroValue0
 t3:=Tryd.underlying3
 a3:=Tryd.isAgg3
 z3:=Tryd.sizeOf3
 v3:=Tryd.zeroValue3
 t4:=Tryd.underlying4
 a4:=Tryd.isAgg4
 z4:=Tryd.sizeOf4
 v4:=Tryd.zeroValue4
 t5:=Tryd.underlying5
 a5:=Tryd.isAgg5
 z5:=Tryd.sizeOf5
 v5:=Tryd.zeroValue5
 t9:=Tryd.underlying9
 a9:=Tryd.isAgg9
 z9:=Tryd.sizeOf9
 v9:=Tryd.zeroValue9
 t21:=Tryd.underlying21
 a21:=Tryd.isAgg21
 z21:=Tryd.sizeOf21
 v21:=Tryd.zeroValue21
 t31:=Tryd.underlying57
 a31:=Tryd.isAgg57
 z31:=Tryd.sizeOf57
 v31:=Tryd.zeroValue57
 t46:=Tryd.underlying86
 a46:=Tryd.isAgg86
 z46:=Tryd.sizeOf86
 v46:=Tryd.zeroValue86
 t51:=Tryd.underlying92
 a51:=Tryd.isAgg92
 z51:=Tryd.sizeOf92
 v51:=Tryd.zeroValue92
 t105:=Tryd.underlying130
 a105:=Tryd.isAgg130
 z105:=Tryd.sizeOf130
 v105:=Tryd.zeroValue130
 t119:=Tryd.underlying68
 a119:=Tryd.isAgg68
 z119:=Tryd.sizeOf68
 t138:=Tryd.underlying154
 a138:=Tryd.isAgg154
 z138:=Tryd.sizeOf154
 v138:=Tryd.zeroValue154
 t139:=Tryd.underlying155
 a139:=Tryd.isAgg155
 z139:=Tryd.sizeOf155
 v139:=Tryd.zeroValue155
 t146:=Tryd.underlying98
 a146:=Tryd.isAgg98
 z146:=Tryd.sizeOf98
 v146:=Tryd.zeroValue98
 g1:=by kernel_rfl
 g3:=by kernel_rfl
 g4:=by kernel_rfl
 i0:=by kernel_rfl
 i3:=by kernel_rfl
 i4:=by kernel_rfl
 i5:=by kernel_rfl
 i9:=by kernel_rfl
 i21:=by kernel_rfl
 i31:=by kernel_rfl
 i46:=by kernel_rfl
 i51:=by kernel_rfl
 i105:=by kernel_rfl
 i138:=by kernel_rfl
 i139:=by kernel_rfl
 i146:=by kernel_rfl
 m1:=by kernel_rfl
 s1_3:=fun w h=>Go.Proofs.cell_of_shapedOpen_int (zero:=#[.int .i64 0]) (t:=3) h (of_decide_eq_true (by kernel_rfl)) (by kernel_rfl) rfl (by kernel_rfl) (by kernel_rfl) Tryd.underlying3
 m3:=by kernel_rfl
 m4:=by kernel_rfl }
open Go.RowKit Go.Lib in
theorem Tryd.strings_Split_shaped (s sep : ByteArray) (w : World) (h : w.ShapedOpen Tryd.prog) (hs : s.size < 4294967281) (h1 : 1 ≤ sep.size) :
  Calls Tryd.prog 47 #[.string s,.string sep] w fun e w' =>
   e=.returned (.slice (some ⟨w.heap.size,0,none⟩) (Lib.countB s sep+1) (Lib.countB s sep+1))∧w'=w.alloc (.cells ((Lib.splitB sep 0 (Lib.countB s sep) s).map Value.string).toArray 9):=Any.strings_Split_shaped Tryd.laysM146 s sep w h hs h1
def Tryd.lays199_ren:Go.Shelf.Ren:=⟨fun | 199=>46 | 261=>59 | 311=>69 | 312=>70 | n=>n,fun | 21=>21 | 4=>4 | 51=>92 | 141=>94 | 0=>0 | 196=>106 | 193=>103 | 3=>3 | 198=>109 | 49=>107 | 194=>104 | 201=>112 | 226=>127 | 46=>86 | 227=>128 | n=>n,fun | 6=>1 | n=>n⟩
theorem Tryd.lays199:Go.Proofs.Lays.n199 Tryd.prog Tryd.lays199_ren:={
 mixed:=by kernel_rfl
 f199:=Tryd.func46.trans (congrArg some (by kernel_rfl))
 f261:=Tryd.func59.trans (congrArg some (by kernel_rfl))
 f311:=Tryd.func69.trans (congrArg some (by kernel_rfl))
 f312:=Tryd.func70.trans (congrArg some (by kernel_rfl))
 t0:=Tryd.underlying0
 a0:=Tryd.isAgg0
 z0:=Tryd.sizeOf0
 v0:=Tryd.zeroValue0
 t3:=Tryd.underlying3
 a3:=Tryd.isAgg3
 z3:=Tryd.sizeOf3
 v3:=Tryd.zeroValue3
 t4:=Tryd.underlying4
 a4:=Tryd.isAgg4
 z4:=Tryd.sizeOf4
 v4:=Tryd.zeroValue4
 t21:=Tryd.underlying21
 a21:=Tryd.isAgg21
 z21:=Tryd.sizeOf21
 v21:=Tryd.zeroValue21
 t46:=Tryd.underlying86
 a46:=Tryd.isAgg86
 z46:=Tryd.sizeOf86
 v46:=Tryd.zeroValue86
 t49:=Tryd.underlying107
 a49:=Tryd.isAgg107
 z49:=Tryd.sizeOf107
 v49:=Tryd.zeroValue107
 t51:=Tryd.underlying92
 a51:=Tryd.isAgg92
 z51:=Tryd.sizeOf92
 v51:=Tryd.zeroValue92
 t141:=Tryd.underlying94
 a141:=Tryd.isAgg94
 z141:=Tryd.sizeOf94
 v141:=Tryd.zeroValue94
 t193:=Tryd.underlying103
 a193:=Tryd.isAgg103
 z193:=Tryd.sizeOf103
 v193:=Tryd.zeroValue103
 t194:=Tryd.underlying104
 a194:=Tryd.isAgg104
 z194:=Tryd.sizeOf104
 v194:=Tryd.zeroValue104
 t196:=Tryd.underlying106
 a196:=Tryd.isAgg106
 z196:=Tryd.sizeOf106
 v196:=Tryd.zeroValue106
 t198:=Tryd.underlying109
 a198:=Tryd.isAgg109
 z198:=Tryd.sizeOf109
 v198:=Tryd.zeroValue109
 t201:=Tryd.underlying112
 a201:=Tryd.isAgg112
 z201:=Tryd.sizeOf112
 v201:=Tryd.zeroValue112
 t226:=Tryd.underlying127
 a226:=Tryd.isAgg127
 z226:=Tryd.sizeOf127
 v226:=Tryd.zeroValue127
 t227:=Tryd.underlying128
 a227:=Tryd.isAgg128
 z227:=Tryd.sizeOf128
 v227:=Tryd.zeroValue128
 g6:=by kernel_rfl }
def Tryd.lays212_ren:Go.Shelf.Ren:=⟨fun | 212=>58 | 263=>67 | 264=>68 | n=>n,fun | 46=>86 | 51=>92 | 146=>98 | 53=>100 | 148=>101 | n=>n,fun | n=>n⟩
theorem Tryd.lays212:Go.Proofs.Lays.n212 Tryd.prog Tryd.lays212_ren:={
 mixed:=by kernel_rfl
 f212:=Tryd.func58.trans (congrArg some (by kernel_rfl))
 f263:=Tryd.func67.trans (congrArg some (by kernel_rfl))
 f264:=Tryd.func68.trans (congrArg some (by kernel_rfl))
 t46:=Tryd.underlying86
 a46:=Tryd.isAgg86
 z46:=Tryd.sizeOf86
 v46:=Tryd.zeroValue86
 t51:=Tryd.underlying92
 a51:=Tryd.isAgg92
 z51:=Tryd.sizeOf92
 v51:=Tryd.zeroValue92
 t53:=Tryd.underlying100
 a53:=Tryd.isAgg100
 z53:=Tryd.sizeOf100
 v53:=Tryd.zeroValue100
 t146:=Tryd.underlying98
 a146:=Tryd.isAgg98
 z146:=Tryd.sizeOf98
 v146:=Tryd.zeroValue98
 t148:=Tryd.underlying101
 a148:=Tryd.isAgg101
 z148:=Tryd.sizeOf101
 v148:=Tryd.zeroValue101 }
open Go.RowKit Go.Lib in
theorem Tryd.bits_Mul (x y : Nat) (hx : x < 18446744073709551616) (hy : y < 18446744073709551616) (w : World) :
  Calls Tryd.prog 58 #[.int .u64 x,.int .u64 y] w fun e w'=>e=.returned (.tuple #[.int .u64 ((x * y / 18446744073709551616:Nat):Int),.int .u64 ((x * y % 18446744073709551616:Nat):Int)])∧w'=w:=Any.bits_Mul Tryd.lays212 x y hx hy w
open Go.RowKit Go.Lib in
theorem Tryd.strings_Fields_any (s : ByteArray) (w : World) (hs : s.size < 4294967281) (htab : Lib.TabIs Tryd.prog w "strings.asciiSpace" .u8 Lib.asciiSpaceTab) (hW : Lib.WhiteTab 1 w) :
  Calls Tryd.prog 35 #[.string s] w fun e w'=>∃ A,e=.returned (.slice (some ⟨A,0,none⟩) (Lib.fieldsD s.data.toList).length (Lib.fieldsD s.data.toList).length)∧w.heap.size≤A ∧
   w'.ownsRow w.heap.size 9 1 (.slice (some ⟨A,0,none⟩) (Lib.fieldsD s.data.toList).length (Lib.fieldsD s.data.toList).length) (Lib.fieldsD s.data.toList).length ((Lib.fieldsD s.data.toList).map fun x=>Value.string ⟨x.toArray⟩)∧Below w.heap.size w w':=Any.strings_Fields_any Tryd.lays157 (by kernel_rfl) (by kernel_rfl) (by kernel_rfl) s w hs htab hW
end Go.Proofs
