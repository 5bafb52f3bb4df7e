/- The contracts of Go's library that are used, at this program. -/
import Derived.Shelf.Strings.Builder1
import Derived.Shelf.Strings.Builder2
import Derived.Shelf.Strings.OnBuilder
import Derived.Shelf.Small.Wraps
import Derived.Shelf.Strings.BuilderF
import Derived.Shelf.Strings.BuilderK
import Derived.Shelf.Utf8.RuneCount
import Derived.Shelf.Strings.Builder2Cap
import Derived.Shelf.Strconv.Atoi
import Derived.Shelf.Strconv.Itoa0
import Derived.Shelf.Strconv.Itoa1
import Derived.Shelf.LaysM
import Derived.Shelf.Strconv.Itoa2
import Derived.Shelf.Strconv.Itoa3
import Derived.Shelf.Strconv.AtoiErrFast
import Derived.Shelf.Strconv.ParseIntEmpty
import Derived.Shelf.Strconv.AtoiFail
import Derived.Shelf.Strconv.Clone
import Derived.Shelf.Strconv.SyntaxError
import Derived.Shelf.LaysC
import Derived.Shelf.Strconv.ToError
import Derived.Shelf.Strconv.Lower
import Derived.Shelf.Strconv.ParseUint10
import Derived.Shelf.Strconv.ParseUint10Empty
import Derived.Shelf.Strconv.ParseUint10Any
import Derived.Shelf.Strconv.ParseInt10
import Derived.Shelf.Strconv.AtoiLong
import Derived.Shelf.Strconv.AtoiInnerAll
import Derived.Shelf.Strconv.RangeError
import Derived.Shelf.Strconv.ToErrorRange
import Derived.Shelf.Strconv.AtoiAll
import Derived.Shelf.Strconv.ErrVarAll
import Derived.Shelf.Strconv.ParseUintEmpty
import Derived.Shelf.Strconv.ParseUint10b64
import Derived.Shelf.Strconv.ParseUint10b32
import Derived.Shelf.Strconv.ParseUint10b16
import Derived.Shelf.Strconv.ParseUint10b8
import Derived.Shelf.Strconv.ParseUint10At
import Derived.Shelf.Strconv.ParseInt10At64
import Derived.Shelf.Strconv.ParseInt10At32
import Derived.Shelf.Strconv.ParseInt10At16
import Derived.Shelf.Strconv.ParseInt10At8
import Derived.Shelf.Strconv.ParseInt10All
import Derived.Shelf.Strings.Search1
import Derived.Shelf.Strings.Search2
import Derived.Shelf.Strings.Search3
import Derived.Shelf.Strings.Count
import Derived.Shelf.Strings.Shaped
import Derived.Shelf.Strings.Split
import Derived.Shelf.Strings.Fields
import Derived.Shelf.Strings.SplitShaped
import Derived.Shelf.Unicode.Latin
import Derived.Shelf.Unicode.Decode
import Derived.Shelf.Strings.RuneCount
import Derived.Shelf.Strings.Explode
import Derived.Shelf.Unicode.DecodeSlow
import Derived.Shelf.Unicode.DecodeAny
import Derived.Shelf.Unicode.Is16White
import Derived.Shelf.Unicode.IsSpaceAny
import Derived.Shelf.Unicode.Is16WhiteD
import Derived.Shelf.Unicode.IsSpaceAnyD
import Derived.Shelf.Strings.FieldsAny
import Derived.Shelf.Strings.FieldsFuncAny
import Derived.Shelf.Unicode.Is16Any
import Derived.Shelf.Unicode.Is32Any
import Derived.Shelf.Unicode.ExclAny
import Derived.Shelf.Slices.Turned
import Derived.Ground.Names2Prog
import Derived.Shelf.Slices.SearchI
import Derived.Test.YtghpknbkecolnaaGreatDoorProg
namespace Go.Proofs
open Go.Shelf
def Tryz.lays156_ren:Go.Shelf.Ren:=⟨fun | 156=>36 | 165=>59 | 166=>60 | 169=>61 | 240=>83 | 241=>84 | 276=>107 | 277=>108 | n=>n,fun | 31=>33 | 9=>9 | 3=>3 | 4=>4 | 0=>0 | 20=>20 | 72=>86 | 76=>70 | 70=>84 | 37=>31 | 75=>69 | 127=>107 | 164=>135 | 5=>5 | 80=>88 | n=>n,fun | n=>n⟩
theorem Tryz.lays156:Go.Proofs.Lays.n156 Tryz.prog Tryz.lays156_ren:={
 mixed:=by kernel_rfl
 f156:=Tryz.func36.trans (congrArg some (by kernel_rfl))
 f165:=Tryz.func59.trans (congrArg some (by kernel_rfl))
 f166:=Tryz.func60.trans (congrArg some (by kernel_rfl))
 f169:=Tryz.func61.trans (congrArg some (by kernel_rfl))
 f240:=Tryz.func83.trans (congrArg some (by kernel_rfl))
 f241:=Tryz.func84.trans (congrArg some (by kernel_rfl))
 f276:=Tryz.func107.trans (congrArg some (by kernel_rfl))
 f277:=Tryz.func108.trans (congrArg some (by kernel_rfl))
 t0:=Tryz.underlying0
 a0:=Tryz.isAgg0
 z0:=Tryz.sizeOf0
 v0:=Tryz.zeroValue0
 t3:=Tryz.underlying3
 a3:=Tryz.isAgg3
 z3:=Tryz.sizeOf3
 v3:=Tryz.zeroValue3
 t4:=Tryz.underlying4
 a4:=Tryz.isAgg4
 z4:=Tryz.sizeOf4
 v4:=Tryz.zeroValue4
 t9:=Tryz.underlying9
 a9:=Tryz.isAgg9
 z9:=Tryz.sizeOf9
 v9:=Tryz.zeroValue9
 t20:=Tryz.underlying20
 a20:=Tryz.isAgg20
 z20:=Tryz.sizeOf20
 v20:=Tryz.zeroValue20
 t31:=Tryz.underlying33
 a31:=Tryz.isAgg33
 z31:=Tryz.sizeOf33
 v31:=Tryz.zeroValue33
 t37:=Tryz.underlying31
 a37:=Tryz.isAgg31
 z37:=Tryz.sizeOf31
 v37:=Tryz.zeroValue31
 t70:=Tryz.underlying84
 a70:=Tryz.isAgg84
 z70:=Tryz.sizeOf84
 v70:=Tryz.zeroValue84
 t72:=Tryz.underlying86
 a72:=Tryz.isAgg86
 z72:=Tryz.sizeOf86
 v72:=Tryz.zeroValue86
 t75:=Tryz.underlying69
 a75:=Tryz.isAgg69
 z75:=Tryz.sizeOf69
 v75:=Tryz.zeroValue69
 t76:=Tryz.underlying70
 a76:=Tryz.isAgg70
 z76:=Tryz.sizeOf70
 v76:=Tryz.zeroValue70
 t127:=Tryz.underlying107
 a127:=Tryz.isAgg107
 z127:=Tryz.sizeOf107
 v127:=Tryz.zeroValue107
 t164:=Tryz.underlying135
 a164:=Tryz.isAgg135
 z164:=Tryz.sizeOf135
 v164:=Tryz.zeroValue135 }
theorem Tryz.Builder_Extra_156:Builder.Extra Tryz.prog Tryz.lays156_ren:={
 sizeBuilder:=by kernel_rfl
 liesBuilder:=by kernel_rfl
 t5:=Tryz.underlying5
 a5:=Tryz.isAgg5
 z5:=Tryz.sizeOf5
 v5:=Tryz.zeroValue5
 infoByte:=by kernel_rfl
 cellsByte:=by kernel_rfl
 sizeByte:=by kernel_rfl
 neB5:=by decide }
open Go.RowKit in
theorem Tryz.strings_Join_none (a : Option Addr) (c : Nat) (sep : ByteArray) (w : World) :
  Calls Tryz.prog 36 #[.slice a 0 c,.string sep] w fun e w'=>e=.returned (.string ⟨#[]⟩)∧w'=w:=Any.strings_Join_none Tryz.lays156 Tryz.Builder_Extra_156 a c sep w
open Go.RowKit in
theorem Tryz.strings_Join (bk o c : Nat) (xs : List ByteArray) (sep : ByteArray) (w : World) (hcells : ∀ (j : Nat) x, xs[j]? = some x → w.cell? ⟨bk, o + j, none⟩ = some (.string x)) (hbk : bk < w.heap.size) (hN : xs.length ≤ 140737488355328) (hcap : xs.length ≤ c) (hlen : (Lib.join (xs.map (·.data.toList)) sep.data.toList).length ≤ 140737488355328) :
  Calls Tryz.prog 36 #[.slice (some ⟨bk,o,none⟩) xs.length c,.string sep] w fun e w'=>e=.returned (.string ⟨(Lib.join (xs.map (·.data.toList)) sep.data.toList).toArray⟩)∧Below w.heap.size w w':=Any.strings_Join Tryz.lays156 Tryz.Builder_Extra_156 bk o c xs sep w hcells hbk hN hcap hlen
def Tryz.laysM171_ren:Go.Shelf.Ren:=⟨fun | 171=>35 | 243=>58 | 246=>82 | 283=>103 | 284=>104 | 285=>105 | 286=>106 | 129=>121 | 317=>120 | 318=>122 | 319=>123 | 320=>124 | 337=>134 | 338=>135 | n=>n,fun | 3=>3 | 9=>9 | 2=>2 | 4=>4 | 171=>129 | 0=>0 | 53=>130 | 37=>31 | 5=>5 | 173=>133 | 212=>160 | 51=>111 | 20=>20 | 213=>161 | 46=>124 | 232=>178 | 233=>179 | n=>n,fun | 17=>4 | 18=>8 | 19=>9 | n=>n⟩
theorem Tryz.laysM171:Go.Proofs.LaysM.n171 Tryz.prog Tryz.laysM171_ren:={
 mixed:=by kernel_rfl
 f129:=Tryz.func121.trans (congrArg some (by kernel_rfl))
 f171:=Tryz.func35.trans (congrArg some (by kernel_rfl))
 f243:=Tryz.func58.trans (congrArg some (by kernel_rfl))
 f246:=Tryz.func82.trans (congrArg some (by kernel_rfl))
 f283:=Tryz.func103.trans (congrArg some (by kernel_rfl))
 f284:=Tryz.func104.trans (congrArg some (by kernel_rfl))
 f285:=Tryz.func105.trans (congrArg some (by kernel_rfl))
 f286:=Tryz.func106.trans (congrArg some (by kernel_rfl))
 f317:=Tryz.func120.trans (congrArg some (by kernel_rfl))
 f318:=Tryz.func122.trans (congrArg some (by kernel_rfl))
 f319:=Tryz.func123.trans (congrArg some (by kernel_rfl))
 f320:=Tryz.func124.trans (congrArg some (by kernel_rfl))
 f337:=Tryz.func134.trans (congrArg some (by kernel_rfl))
 f338:=Tryz.func135.trans (congrArg some (by kernel_rfl))
 t0:=Tryz.underlying0
 a0:=Tryz.isAgg0
 z0:=Tryz.sizeOf0
 v0:=Tryz.zeroValue0
 t2:=Tryz.underlying2
 a2:=Tryz.isAgg2
 z2:=Tryz.sizeOf2
 v2:=Tryz.zeroValue2
 t3:=Tryz.underlying3
 a3:=Tryz.isAgg3
 z3:=Tryz.sizeOf3
 v3:=Tryz.zeroValue3
 t4:=Tryz.underlying4
 a4:=Tryz.isAgg4
 z4:=Tryz.sizeOf4
 v4:=Tryz.zeroValue4
 t5:=Tryz.underlying5
 a5:=Tryz.isAgg5
 z5:=Tryz.sizeOf5
 v5:=Tryz.zeroValue5
 t9:=Tryz.underlying9
 a9:=Tryz.isAgg9
 z9:=Tryz.sizeOf9
 v9:=Tryz.zeroValue9
 t20:=Tryz.underlying20
 a20:=Tryz.isAgg20
 z20:=Tryz.sizeOf20
 v20:=Tryz.zeroValue20
 t37:=Tryz.underlying31
 a37:=Tryz.isAgg31
 z37:=Tryz.sizeOf31
 v37:=Tryz.zeroValue31
 t46:=Tryz.underlying124
 a46:=Tryz.isAgg124
 z46:=Tryz.sizeOf124
 v46:=Tryz.zeroValue124
 t51:=Tryz.underlying111
 a51:=Tryz.isAgg111
 z51:=Tryz.sizeOf111
 v51:=Tryz.zeroValue111
 t53:=Tryz.underlying130
 a53:=Tryz.isAgg130
 z53:=Tryz.sizeOf130
 v53:=Tryz.zeroValue130
 t171:=Tryz.underlying129
 a171:=Tryz.isAgg129
 z171:=Tryz.sizeOf129
 v171:=Tryz.zeroValue129
 t173:=Tryz.underlying133
 a173:=Tryz.isAgg133
 z173:=Tryz.sizeOf133
 v173:=Tryz.zeroValue133
 t212:=Tryz.underlying160
 a212:=Tryz.isAgg160
 z212:=Tryz.sizeOf160
 v212:=Tryz.zeroValue160
 t213:=Tryz.underlying161
 a213:=Tryz.isAgg161
 z213:=Tryz.sizeOf161
 t232:=Tryz.underlying178
 a232:=Tryz.isAgg178
 z232:=Tryz.sizeOf178
 v232:=Tryz.zeroValue178
 t233:=Tryz.underlying179
 a233:=Tryz.isAgg179
 z233:=Tryz.sizeOf179
 v233:=Tryz.zeroValue179
 g17:=by kernel_rfl
 g18:=by kernel_rfl
 g19:=by kernel_rfl
 i0:=by kernel_rfl
 i2:=by kernel_rfl
 i3:=by kernel_rfl
 i4:=by kernel_rfl
 i5:=by kernel_rfl
 i9:=by kernel_rfl
 i20:=by kernel_rfl
 i37:=by kernel_rfl
 i46:=by kernel_rfl
 i51:=by kernel_rfl
 i53:=by kernel_rfl
 i171:=by kernel_rfl
 i173:=by kernel_rfl
 i212:=by kernel_rfl
 i232:=by kernel_rfl
 i233:=by kernel_rfl
 m17:=by kernel_rfl
 m18:=by kernel_rfl
 m19:=by kernel_rfl }
open Go.RowKit Go.Sort Go.Lib in
theorem Tryz.strconv_Itoa (n : Int) (h0 : -9223372036854775808 ≤ n) (h1 : n ≤ 9223372036854775807) (w : World) (htab : Lib.TabIs Tryz.prog w "internal/strconv.uint64pow10" .u64 Lib.pow10Tab) :
  Calls Tryz.prog 35 #[.int .i64 n] w fun e w'=>e=.returned (.string ⟨(Lib.itoa n).toArray⟩)∧∃ k os,w'=grow (w.drewN k) os:=Any.strconv_Itoa Tryz.laysM171 n h0 h1 w htab
def Tryz.laysC172_ren:Go.Shelf.Ren:=⟨fun | 172=>40 | 244=>65 | 245=>66 | 247=>89 | 279=>90 | 280=>91 | 281=>92 | 282=>93 | 287=>115 | 316=>116 | 171=>35 | 205=>117 | 321=>130 | 322=>131 | 243=>58 | 246=>82 | 283=>103 | 284=>104 | 285=>105 | 286=>106 | 129=>121 | 317=>120 | 318=>122 | 319=>123 | 320=>124 | 337=>134 | 338=>135 | n=>n,fun | 9=>9 | 3=>3 | 75=>69 | 76=>70 | 4=>4 | 5=>5 | 167=>116 | 37=>31 | 0=>0 | 85=>117 | 2=>2 | 168=>119 | 53=>130 | 175=>153 | 46=>124 | 210=>157 | 127=>107 | 145=>169 | 143=>167 | 21=>21 | 171=>129 | 173=>133 | 212=>160 | 51=>111 | 20=>20 | 213=>161 | 232=>178 | 233=>179 | 80=>88 | n=>n,fun | 15=>2 | 16=>3 | 17=>4 | 18=>8 | 19=>9 | n=>n⟩
theorem Tryz.laysC172:Go.Proofs.LaysC.n172 Tryz.prog Tryz.laysC172_ren:={
 mixed:=by kernel_rfl
 f129:=Tryz.func121.trans (congrArg some (by kernel_rfl))
 f171:=Tryz.func35.trans (congrArg some (by kernel_rfl))
 f172:=Tryz.func40.trans (congrArg some (by kernel_rfl))
 f205:=Tryz.func117.trans (congrArg some (by kernel_rfl))
 f243:=Tryz.func58.trans (congrArg some (by kernel_rfl))
 f244:=Tryz.func65.trans (congrArg some (by kernel_rfl))
 f245:=Tryz.func66.trans (congrArg some (by kernel_rfl))
 f246:=Tryz.func82.trans (congrArg some (by kernel_rfl))
 f247:=Tryz.func89.trans (congrArg some (by kernel_rfl))
 f279:=Tryz.func90.trans (congrArg some (by kernel_rfl))
 f280:=Tryz.func91.trans (congrArg some (by kernel_rfl))
 f281:=Tryz.func92.trans (congrArg some (by kernel_rfl))
 f282:=Tryz.func93.trans (congrArg some (by kernel_rfl))
 f283:=Tryz.func103.trans (congrArg some (by kernel_rfl))
 f284:=Tryz.func104.trans (congrArg some (by kernel_rfl))
 f285:=Tryz.func105.trans (congrArg some (by kernel_rfl))
 f286:=Tryz.func106.trans (congrArg some (by kernel_rfl))
 f287:=Tryz.func115.trans (congrArg some (by kernel_rfl))
 f316:=Tryz.func116.trans (congrArg some (by kernel_rfl))
 f317:=Tryz.func120.trans (congrArg some (by kernel_rfl))
 f318:=Tryz.func122.trans (congrArg some (by kernel_rfl))
 f319:=Tryz.func123.trans (congrArg some (by kernel_rfl))
 f320:=Tryz.func124.trans (congrArg some (by kernel_rfl))
 f321:=Tryz.func130.trans (congrArg some (by kernel_rfl))
 f322:=Tryz.func131.trans (congrArg some (by kernel_rfl))
 f337:=Tryz.func134.trans (congrArg some (by kernel_rfl))
 f338:=Tryz.func135.trans (congrArg some (by kernel_rfl))
 t0:=Tryz.underlying0
 a0:=Tryz.isAgg0
 z0:=Tryz.sizeOf0
 v0:=Tryz.zeroValue0
 t2:=Tryz.underlying2
 a2:=Tryz.isAgg2
 z2:=Tryz.sizeOf2
 v2:=Tryz.zeroValue2
 t3:=Tryz.underlying3
 a3:=Tryz.isAgg3
 z3:=Tryz.sizeOf3
 v3:=Tryz.zeroValue3
 t4:=Tryz.underlying4
 a4:=Tryz.isAgg4
 z4:=Tryz.sizeOf4
 v4:=Tryz.zeroValue4
 t5:=Tryz.underlying5
 a5:=Tryz.isAgg5
 z5:=Tryz.sizeOf5
 v5:=Tryz.zeroValue5
 t9:=Tryz.underlying9
 a9:=Tryz.isAgg9
 z9:=Tryz.sizeOf9
 v9:=Tryz.zeroValue9
 t20:=Tryz.underlying20
 a20:=Tryz.isAgg20
 z20:=Tryz.sizeOf20
 v20:=Tryz.zeroValue20
 t21:=Tryz.underlying21
 a21:=Tryz.isAgg21
 z21:=Tryz.sizeOf21
 v21:=Tryz.zeroValue21
 t37:=Tryz.underlying31
 a37:=Tryz.isAgg31
 z37:=Tryz.sizeOf31
 v37:=Tryz.zeroValue31
 t46:=Tryz.underlying124
 a46:=Tryz.isAgg124
 z46:=Tryz.sizeOf124
 v46:=Tryz.zeroValue124
 t51:=Tryz.underlying111
 a51:=Tryz.isAgg111
 z51:=Tryz.sizeOf111
 v51:=Tryz.zeroValue111
 t53:=Tryz.underlying130
 a53:=Tryz.isAgg130
 z53:=Tryz.sizeOf130
 v53:=Tryz.zeroValue130
 t75:=Tryz.underlying69
 a75:=Tryz.isAgg69
 z75:=Tryz.sizeOf69
 v75:=Tryz.zeroValue69
 t76:=Tryz.underlying70
 a76:=Tryz.isAgg70
 z76:=Tryz.sizeOf70
 v76:=Tryz.zeroValue70
 t85:=Tryz.underlying117
 a85:=Tryz.isAgg117
 z85:=Tryz.sizeOf117
 v85:=Tryz.zeroValue117
 t127:=Tryz.underlying107
 a127:=Tryz.isAgg107
 z127:=Tryz.sizeOf107
 v127:=Tryz.zeroValue107
 t143:=Tryz.underlying167
 a143:=Tryz.isAgg167
 z143:=Tryz.sizeOf167
 v143:=Tryz.zeroValue167
 t145:=Tryz.underlying169
 a145:=Tryz.isAgg169
 z145:=Tryz.sizeOf169
 v145:=Tryz.zeroValue169
 t167:=Tryz.underlying116
 a167:=Tryz.isAgg116
 z167:=Tryz.sizeOf116
 v167:=Tryz.zeroValue116
 t168:=Tryz.underlying119
 a168:=Tryz.isAgg119
 z168:=Tryz.sizeOf119
 v168:=Tryz.zeroValue119
 t171:=Tryz.underlying129
 a171:=Tryz.isAgg129
 z171:=Tryz.sizeOf129
 v171:=Tryz.zeroValue129
 t173:=Tryz.underlying133
 a173:=Tryz.isAgg133
 z173:=Tryz.sizeOf133
 v173:=Tryz.zeroValue133
 t175:=Tryz.underlying153
 a175:=Tryz.isAgg153
 z175:=Tryz.sizeOf153
 v175:=Tryz.zeroValue153
 t210:=Tryz.underlying157
 a210:=Tryz.isAgg157
 z210:=Tryz.sizeOf157
 v210:=Tryz.zeroValue157
 t212:=Tryz.underlying160
 a212:=Tryz.isAgg160
 z212:=Tryz.sizeOf160
 v212:=Tryz.zeroValue160
 t213:=Tryz.underlying161
 a213:=Tryz.isAgg161
 z213:=Tryz.sizeOf161
 t232:=Tryz.underlying178
 a232:=Tryz.isAgg178
 z232:=Tryz.sizeOf178
 v232:=Tryz.zeroValue178
 t233:=Tryz.underlying179
 a233:=Tryz.isAgg179
 z233:=Tryz.sizeOf179
 v233:=Tryz.zeroValue179
 g15:=by kernel_rfl
 g16:=by kernel_rfl
 g17:=by kernel_rfl
 g18:=by kernel_rfl
 g19:=by kernel_rfl
 t80:=Tryz.underlying88
 a80:=Tryz.isAgg88
 z80:=Tryz.sizeOf88
 v80:=Tryz.zeroValue88
 i0:=by kernel_rfl
 i2:=by kernel_rfl
 i3:=by kernel_rfl
 i4:=by kernel_rfl
 i5:=by kernel_rfl
 i9:=by kernel_rfl
 i20:=by kernel_rfl
 i21:=by kernel_rfl
 i37:=by kernel_rfl
 i46:=by kernel_rfl
 i51:=by kernel_rfl
 i53:=by kernel_rfl
 i75:=by kernel_rfl
 i76:=by kernel_rfl
 i80:=by kernel_rfl
 i85:=by kernel_rfl
 i127:=by kernel_rfl
 i143:=by kernel_rfl
 i145:=by kernel_rfl
 i167:=by kernel_rfl
 i168:=by kernel_rfl
 i171:=by kernel_rfl
 i173:=by kernel_rfl
 i175:=by kernel_rfl
 i210:=by kernel_rfl
 i212:=by kernel_rfl
 i232:=by kernel_rfl
 i233:=by kernel_rfl
 m15:=by kernel_rfl
 m16:=by kernel_rfl
 m17:=by kernel_rfl
 m18:=by kernel_rfl
 m19:=by kernel_rfl
 c0:=by kernel_rfl
 c2:=by kernel_rfl
 c3:=by kernel_rfl
 c4:=by kernel_rfl
 c5:=by kernel_rfl
 c9:=by kernel_rfl
 c20:=by kernel_rfl
 c21:=by kernel_rfl
 c37:=by kernel_rfl
 c46:=by kernel_rfl
 c51:=by kernel_rfl
 c53:=by kernel_rfl
 c75:=by kernel_rfl
 c76:=by kernel_rfl
 c80:=by kernel_rfl
 c85:=by kernel_rfl
 c127:=by kernel_rfl
 c143:=by kernel_rfl
 c145:=by kernel_rfl
 c167:=by kernel_rfl
 c168:=by kernel_rfl
 c171:=by kernel_rfl
 c173:=by kernel_rfl
 c175:=by kernel_rfl
 c210:=by kernel_rfl
 c212:=by kernel_rfl
 c213:=by kernel_rfl
 c232:=by kernel_rfl
 c233:=by kernel_rfl }
open Go.RowKit in
theorem Tryz.strconv_Atoi_ok (s : ByteArray) (hmax : s.size ≤ 9223372036854775806) (v : Int) (h : Lib.atoiAll s.data.toList = .ok v) (w : World) :
  Calls Tryz.prog 40 #[.string s] w fun e w'=>e=.returned (.tuple #[.int .i64 v,.nilIface])∧(w'=w∨∃ t,w'=Lib.bytesWorld w 5 t):=Any.strconv_Atoi_ok Tryz.laysC172 s hmax v h w
open Go.RowKit in
theorem Tryz.strconv_Atoi_syntax_var (s : ByteArray) (hlim : s.size ≤ 281474976710656) (h : Lib.atoiAll s.data.toList = Lib.atoiAll []) (tp : TypeId) (p : Value) (w : World) (hvar : w.var? Tryz.prog "strconv.ErrSyntax" = some #[.iface tp p]) :
  Calls Tryz.prog 40 #[.string s] w fun e w'=>∃ N,e=.returned (.tuple #[.int .i64 0,.iface 119 (.pointer (some ⟨N,0,none⟩))])∧w.heap.size≤N∧w'.heap[N]?=some (.cells #[.string ⟨#[65,116,111,105]⟩,.string s,.iface tp p] 157 (0,0))∧Below w.heap.size w w':=Any.strconv_Atoi_syntax_var Tryz.laysC172 s hlim h tp p w hvar
open Go.RowKit in
theorem Tryz.strconv_Atoi_range_var (s : ByteArray) (hlim : s.size ≤ 281474976710656) (h : Lib.atoiAll s.data.toList = .range) (tp : TypeId) (p : Value) (w : World) (hvar : w.var? Tryz.prog "strconv.ErrRange" = some #[.iface tp p]) :
  Calls Tryz.prog 40 #[.string s] w fun e w'=>∃ N,e=.returned (.tuple #[.int .i64 (Lib.atoiSat s.data.toList),.iface 119 (.pointer (some ⟨N,0,none⟩))])∧w.heap.size≤N∧w'.heap[N]?=some (.cells #[.string ⟨#[65,116,111,105]⟩,.string s,.iface tp p] 157 (0,0))∧Below w.heap.size w w':=Any.strconv_Atoi_range_var Tryz.laysC172 s hlim h tp p w hvar
def Tryz.lays157_ren:Go.Shelf.Ren:=⟨fun | 157=>38 | 229=>62 | 199=>63 | 261=>85 | 311=>109 | 312=>110 | n=>n,fun | 9=>9 | 31=>33 | 3=>3 | 5=>5 | 4=>4 | 119=>89 | 0=>0 | 40=>91 | 152=>108 | 21=>21 | 154=>110 | 51=>111 | 141=>113 | 196=>141 | 193=>138 | 198=>144 | 49=>142 | 194=>139 | 201=>147 | 226=>163 | 46=>124 | 227=>164 | n=>n,fun | 0=>0 | 6=>1 | n=>n⟩
theorem Tryz.lays157:Go.Proofs.Lays.n157 Tryz.prog Tryz.lays157_ren:={
 mixed:=by kernel_rfl
 f157:=Tryz.func38.trans (congrArg some (by kernel_rfl))
 f199:=Tryz.func63.trans (congrArg some (by kernel_rfl))
 f229:=Tryz.func62.trans (congrArg some (by kernel_rfl))
 f261:=Tryz.func85.trans (congrArg some (by kernel_rfl))
 f311:=Tryz.func109.trans (congrArg some (by kernel_rfl))
 f312:=Tryz.func110.trans (congrArg some (by kernel_rfl))
 t0:=Tryz.underlying0
 a0:=Tryz.isAgg0
 z0:=Tryz.sizeOf0
 v0:=Tryz.zeroValue0
 t3:=Tryz.underlying3
 a3:=Tryz.isAgg3
 z3:=Tryz.sizeOf3
 v3:=Tryz.zeroValue3
 t4:=Tryz.underlying4
 a4:=Tryz.isAgg4
 z4:=Tryz.sizeOf4
 v4:=Tryz.zeroValue4
 t5:=Tryz.underlying5
 a5:=Tryz.isAgg5
 z5:=Tryz.sizeOf5
 v5:=Tryz.zeroValue5
 t9:=Tryz.underlying9
 a9:=Tryz.isAgg9
 z9:=Tryz.sizeOf9
 v9:=Tryz.zeroValue9
 t21:=Tryz.underlying21
 a21:=Tryz.isAgg21
 z21:=Tryz.sizeOf21
 v21:=Tryz.zeroValue21
 t31:=Tryz.underlying33
 a31:=Tryz.isAgg33
 z31:=Tryz.sizeOf33
 v31:=Tryz.zeroValue33
 t40:=Tryz.underlying91
 a40:=Tryz.isAgg91
 z40:=Tryz.sizeOf91
 v40:=Tryz.zeroValue91
 t46:=Tryz.underlying124
 a46:=Tryz.isAgg124
 z46:=Tryz.sizeOf124
 v46:=Tryz.zeroValue124
 t49:=Tryz.underlying142
 a49:=Tryz.isAgg142
 z49:=Tryz.sizeOf142
 v49:=Tryz.zeroValue142
 t51:=Tryz.underlying111
 a51:=Tryz.isAgg111
 z51:=Tryz.sizeOf111
 v51:=Tryz.zeroValue111
 t119:=Tryz.underlying89
 a119:=Tryz.isAgg89
 z119:=Tryz.sizeOf89
 t141:=Tryz.underlying113
 a141:=Tryz.isAgg113
 z141:=Tryz.sizeOf113
 v141:=Tryz.zeroValue113
 t152:=Tryz.underlying108
 a152:=Tryz.isAgg108
 z152:=Tryz.sizeOf108
 v152:=Tryz.zeroValue108
 t154:=Tryz.underlying110
 a154:=Tryz.isAgg110
 z154:=Tryz.sizeOf110
 v154:=Tryz.zeroValue110
 t193:=Tryz.underlying138
 a193:=Tryz.isAgg138
 z193:=Tryz.sizeOf138
 v193:=Tryz.zeroValue138
 t194:=Tryz.underlying139
 a194:=Tryz.isAgg139
 z194:=Tryz.sizeOf139
 v194:=Tryz.zeroValue139
 t196:=Tryz.underlying141
 a196:=Tryz.isAgg141
 z196:=Tryz.sizeOf141
 v196:=Tryz.zeroValue141
 t198:=Tryz.underlying144
 a198:=Tryz.isAgg144
 z198:=Tryz.sizeOf144
 v198:=Tryz.zeroValue144
 t201:=Tryz.underlying147
 a201:=Tryz.isAgg147
 z201:=Tryz.sizeOf147
 v201:=Tryz.zeroValue147
 t226:=Tryz.underlying163
 a226:=Tryz.isAgg163
 z226:=Tryz.sizeOf163
 v226:=Tryz.zeroValue163
 t227:=Tryz.underlying164
 a227:=Tryz.isAgg164
 z227:=Tryz.sizeOf164
 v227:=Tryz.zeroValue164
 g0:=by kernel_rfl
 g6:=by kernel_rfl }
def Tryz.laysM146_ren:Go.Shelf.Ren:=⟨fun | 146=>39 | 221=>64 | 268=>86 | 138=>87 | 143=>88 | 195=>111 | 197=>112 | 218=>113 | 219=>114 | 260=>125 | 217=>126 | 225=>127 | 224=>128 | 267=>129 | 266=>136 | 314=>137 | n=>n,fun | 9=>9 | 31=>33 | 3=>3 | 4=>4 | 0=>0 | 105=>150 | 21=>21 | 5=>5 | 46=>124 | 119=>89 | 139=>175 | 138=>174 | 146=>176 | 51=>111 | n=>n,fun | 1=>5 | 3=>6 | 4=>7 | n=>n⟩
theorem Tryz.laysM146:Go.Proofs.LaysM.n146 Tryz.prog Tryz.laysM146_ren:={
 mixed:=by kernel_rfl
 f138:=Tryz.func87.trans (congrArg some (by kernel_rfl))
 f143:=Tryz.func88.trans (congrArg some (by kernel_rfl))
 f146:=Tryz.func39.trans (congrArg some (by kernel_rfl))
 f195:=Tryz.func111.trans (congrArg some (by kernel_rfl))
 f197:=Tryz.func112.trans (congrArg some (by kernel_rfl))
 f217:=Tryz.func126.trans (congrArg some (by kernel_rfl))
 f218:=Tryz.func113.trans (congrArg some (by kernel_rfl))
 f219:=Tryz.func114.trans (congrArg some (by kernel_rfl))
 f221:=Tryz.func64.trans (congrArg some (by kernel_rfl))
 f224:=Tryz.func128.trans (congrArg some (by kernel_rfl))
 f225:=Tryz.func127.trans (congrArg some (by kernel_rfl))
 f260:=Tryz.func125.trans (congrArg some (by kernel_rfl))
 f266:=Tryz.func136.trans (congrArg some (by kernel_rfl))
 f267:=Tryz.func129.trans (congrArg some (by kernel_rfl))
 f268:=Tryz.func86.trans (congrArg some (by kernel_rfl))
 f314:=Tryz.func137.trans (congrArg some (by kernel_rfl))
 t0:=Tryz.underlying0
 a0:=Tryz.isAgg0
 z0:=Tryz.sizeOf0
 v0:=Tryz.zeroValue0
 t3:=Tryz.underlying3
 a3:=Tryz.isAgg3
 z3:=Tryz.sizeOf3
 v3:=Tryz.zeroValue3
 t4:=Tryz.underlying4
 a4:=Tryz.isAgg4
 z4:=Tryz.sizeOf4
 v4:=Tryz.zeroValue4
 t5:=Tryz.underlying5
 a5:=Tryz.isAgg5
 z5:=Tryz.sizeOf5
 v5:=Tryz.zeroValue5
 t9:=Tryz.underlying9
 a9:=Tryz.isAgg9
 z9:=Tryz.sizeOf9
 v9:=Tryz.zeroValue9
 t21:=Tryz.underlying21
 a21:=Tryz.isAgg21
 z21:=Tryz.sizeOf21
 v21:=Tryz.zeroValue21
 t31:=Tryz.underlying33
 a31:=Tryz.isAgg33
 z31:=Tryz.sizeOf33
 v31:=Tryz.zeroValue33
 t46:=Tryz.underlying124
 a46:=Tryz.isAgg124
 z46:=Tryz.sizeOf124
 v46:=Tryz.zeroValue124
 t51:=Tryz.underlying111
 a51:=Tryz.isAgg111
 z51:=Tryz.sizeOf111
 v51:=Tryz.zeroValue111
 t105:=Tryz.underlying150
 a105:=Tryz.isAgg150
 z105:=Tryz.sizeOf150
 v105:=Tryz.zeroValue150
 t119:=Tryz.underlying89
 a119:=Tryz.isAgg89
 z119:=Tryz.sizeOf89
 t138:=Tryz.underlying174
 a138:=Tryz.isAgg174
 z138:=Tryz.sizeOf174
 v138:=Tryz.zeroValue174
 t139:=Tryz.underlying175
 a139:=Tryz.isAgg175
 z139:=Tryz.sizeOf175
 v139:=Tryz.zeroValue175
 t146:=Tryz.underlying176
 a146:=Tryz.isAgg176
 z146:=Tryz.sizeOf176
 v146:=Tryz.zeroValue176
 g1:=by kernel_rfl
 g3:=by kernel_rfl
 g4:=by kernel_rfl
 i0:=by kernel_rfl
 i3:=by kernel_rfl
 i4:=by kernel_rfl
 i5:=by kernel_rfl
 i9:=by kernel_rfl
 i21:=by kernel_rfl
 i31:=by kernel_rfl
 i46:=by kernel_rfl
 i51:=by kernel_rfl
 i105:=by kernel_rfl
 i138:=by kernel_rfl
 i139:=by kernel_rfl
 i146:=by kernel_rfl
 m1:=by kernel_rfl
 s1_3:=fun w h=>Go.Proofs.cell_of_shapedOpen_int (zero:=#[.int .i64 0]) (t:=3) h (of_decide_eq_true (by kernel_rfl)) (by kernel_rfl) rfl (by kernel_rfl) (by kernel_rfl) Tryz.underlying3
 m3:=by kernel_rfl
 m4:=by kernel_rfl }
open Go.RowKit Go.Lib in
theorem Tryz.strings_Split_shaped (s sep : ByteArray) (w : World) (h : w.ShapedOpen Tryz.prog) (hs : s.size < 4294967281) (h1 : 1 ≤ sep.size) :
  Calls Tryz.prog 39 #[.string s,.string sep] w fun e w' =>
   e=.returned (.slice (some ⟨w.heap.size,0,none⟩) (Lib.countB s sep+1) (Lib.countB s sep+1))∧w'=w.alloc (.cells ((Lib.splitB sep 0 (Lib.countB s sep) s).map Value.string).toArray 9):=Any.strings_Split_shaped Tryz.laysM146 s sep w h hs h1
def Tryz.lays199_ren:Go.Shelf.Ren:=⟨fun | 199=>63 | 261=>85 | 311=>109 | 312=>110 | n=>n,fun | 21=>21 | 4=>4 | 51=>111 | 141=>113 | 0=>0 | 196=>141 | 193=>138 | 3=>3 | 198=>144 | 49=>142 | 194=>139 | 201=>147 | 226=>163 | 46=>124 | 227=>164 | n=>n,fun | 6=>1 | n=>n⟩
theorem Tryz.lays199:Go.Proofs.Lays.n199 Tryz.prog Tryz.lays199_ren:={
 mixed:=by kernel_rfl
 f199:=Tryz.func63.trans (congrArg some (by kernel_rfl))
 f261:=Tryz.func85.trans (congrArg some (by kernel_rfl))
 f311:=Tryz.func109.trans (congrArg some (by kernel_rfl))
 f312:=Tryz.func110.trans (congrArg some (by kernel_rfl))
 t0:=Tryz.underlying0
 a0:=Tryz.isAgg0
 z0:=Tryz.sizeOf0
 v0:=Tryz.zeroValue0
 t3:=Tryz.underlying3
 a3:=Tryz.isAgg3
 z3:=Tryz.sizeOf3
 v3:=Tryz.zeroValue3
 t4:=Tryz.underlying4
 a4:=Tryz.isAgg4
 z4:=Tryz.sizeOf4
 v4:=Tryz.zeroValue4
 t21:=Tryz.underlying21
 a21:=Tryz.isAgg21
 z21:=Tryz.sizeOf21
 v21:=Tryz.zeroValue21
 t46:=Tryz.underlying124
 a46:=Tryz.isAgg124
 z46:=Tryz.sizeOf124
 v46:=Tryz.zeroValue124
 t49:=Tryz.underlying142
 a49:=Tryz.isAgg142
 z49:=Tryz.sizeOf142
 v49:=Tryz.zeroValue142
 t51:=Tryz.underlying111
 a51:=Tryz.isAgg111
 z51:=Tryz.sizeOf111
 v51:=Tryz.zeroValue111
 t141:=Tryz.underlying113
 a141:=Tryz.isAgg113
 z141:=Tryz.sizeOf113
 v141:=Tryz.zeroValue113
 t193:=Tryz.underlying138
 a193:=Tryz.isAgg138
 z193:=Tryz.sizeOf138
 v193:=Tryz.zeroValue138
 t194:=Tryz.underlying139
 a194:=Tryz.isAgg139
 z194:=Tryz.sizeOf139
 v194:=Tryz.zeroValue139
 t196:=Tryz.underlying141
 a196:=Tryz.isAgg141
 z196:=Tryz.sizeOf141
 v196:=Tryz.zeroValue141
 t198:=Tryz.underlying144
 a198:=Tryz.isAgg144
 z198:=Tryz.sizeOf144
 v198:=Tryz.zeroValue144
 t201:=Tryz.underlying147
 a201:=Tryz.isAgg147
 z201:=Tryz.sizeOf147
 v201:=Tryz.zeroValue147
 t226:=Tryz.underlying163
 a226:=Tryz.isAgg163
 z226:=Tryz.sizeOf163
 v226:=Tryz.zeroValue163
 t227:=Tryz.underlying164
 a227:=Tryz.isAgg164
 z227:=Tryz.sizeOf164
 v227:=Tryz.zeroValue164
 g6:=by kernel_rfl }
open Go.RowKit Go.Lib in
theorem Tryz.strings_Fields_any (s : ByteArray) (w : World) (hs : s.size < 4294967281) (htab : Lib.TabIs Tryz.prog w "strings.asciiSpace" .u8 Lib.asciiSpaceTab) (hW : Lib.WhiteTab 1 w) :
  Calls Tryz.prog 38 #[.string s] w fun e w'=>∃ A,e=.returned (.slice (some ⟨A,0,none⟩) (Lib.fieldsD s.data.toList).length (Lib.fieldsD s.data.toList).length)∧w.heap.size≤A ∧
   w'.ownsRow w.heap.size 9 1 (.slice (some ⟨A,0,none⟩) (Lib.fieldsD s.data.toList).length (Lib.fieldsD s.data.toList).length) (Lib.fieldsD s.data.toList).length ((Lib.fieldsD s.data.toList).map fun x=>Value.string ⟨x.toArray⟩)∧Below w.heap.size w w':=Any.strings_Fields_any Tryz.lays157 (by kernel_rfl) (by kernel_rfl) (by kernel_rfl) s w hs htab hW
end Go.Proofs
