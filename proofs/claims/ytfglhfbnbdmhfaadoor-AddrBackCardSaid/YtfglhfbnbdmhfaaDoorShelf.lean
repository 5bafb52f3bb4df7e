/- The contracts of Go's library that are used, at this program. -/
import Derived.Shelf.Strings.Builder1
import Derived.Shelf.Strings.Builder2
import Derived.Shelf.Strings.OnBuilder
import Derived.Shelf.Small.Utf8
import Derived.Shelf.Small.Strs
import Derived.Shelf.Strings.BuilderF
import Derived.Shelf.Strings.BuilderK
import Derived.Shelf.Utf8.RuneCount
import Derived.Shelf.Strings.Builder2Cap
import Derived.Shelf.Strconv.Atoi
import Derived.Shelf.Strconv.Itoa0
import Derived.Shelf.Strconv.Itoa1
import Derived.Shelf.LaysM
import Derived.Shelf.Strconv.Itoa2
import Derived.Shelf.Strconv.Itoa3
import Derived.Shelf.Strconv.AtoiErrFast
import Derived.Shelf.Strconv.ParseIntEmpty
import Derived.Shelf.Strconv.AtoiFail
import Derived.Shelf.Strconv.Clone
import Derived.Shelf.Strconv.SyntaxError
import Derived.Shelf.LaysC
import Derived.Shelf.Strconv.ToError
import Derived.Shelf.Strconv.Lower
import Derived.Shelf.Strconv.ParseUint10
import Derived.Shelf.Strconv.ParseUint10Empty
import Derived.Shelf.Strconv.ParseUint10Any
import Derived.Shelf.Strconv.ParseInt10
import Derived.Shelf.Strconv.AtoiLong
import Derived.Shelf.Strconv.AtoiInnerAll
import Derived.Shelf.Strconv.RangeError
import Derived.Shelf.Strconv.ToErrorRange
import Derived.Shelf.Strconv.AtoiAll
import Derived.Shelf.Strconv.ErrVarAll
import Derived.Shelf.Strings.Search1
import Derived.Shelf.Strings.Search2
import Derived.Shelf.Strings.Search3
import Derived.Shelf.Strings.Cut
import Derived.Shelf.Strings.Count
import Derived.Shelf.Strings.Shaped
import Derived.Shelf.Strings.Split
import Derived.Shelf.Strings.Replace
import Derived.Shelf.Strings.SplitShaped
import Derived.Shelf.Unicode.Latin
import Derived.Shelf.Unicode.Decode
import Derived.Shelf.Strings.RuneCount
import Derived.Shelf.Strings.Explode
import Derived.Shelf.Unicode.DecodeSlow
import Derived.Shelf.Unicode.DecodeAny
import Derived.Shelf.Unicode.CaseLookup
import Derived.Shelf.Unicode.CaseConvert
import Derived.Shelf.Unicode.CaseTo
import Derived.Shelf.Unicode.CaseLaid
import Derived.Ground.Names2Prog
import Derived.Shelf.Slices.SearchI
import Derived.Test.YtfglhfbnbdmhfaaDoorProg
namespace Go.Proofs
open Go.Shelf
def Tryd.lays159_ren:Go.Shelf.Ren:=⟨fun | 159=>29 | 165=>47 | 166=>48 | 167=>49 | 169=>50 | 230=>51 | 204=>52 | 240=>63 | 241=>64 | 197=>62 | 118=>65 | 168=>66 | 270=>67 | 262=>68 | 276=>80 | 277=>81 | 260=>79 | 242=>82 | 313=>83 | 278=>96 | 274=>97 | 275=>98 | n=>n,fun | 9=>9 | 4=>4 | 3=>3 | 5=>5 | 72=>80 | 0=>0 | 76=>84 | 75=>83 | 107=>89 | 70=>78 | 20=>20 | 37=>30 | 127=>99 | 21=>21 | 105=>97 | 164=>108 | 162=>114 | 203=>112 | 119=>129 | 46=>59 | 139=>132 | 138=>131 | 51=>120 | 160=>133 | 208=>148 | 206=>146 | 80=>87 | n=>n,fun | 13=>1 | 3=>2 | 4=>3 | n=>n⟩
theorem Tryd.lays159:Go.Proofs.Lays.n159 Tryd.prog Tryd.lays159_ren:={
  mixed:=by kernel_rfl
  f118:=Tryd.func65.trans (congrArg some (by kernel_rfl))
  f159:=Tryd.func29.trans (congrArg some (by kernel_rfl))
  f165:=Tryd.func47.trans (congrArg some (by kernel_rfl))
  f166:=Tryd.func48.trans (congrArg some (by kernel_rfl))
  f167:=Tryd.func49.trans (congrArg some (by kernel_rfl))
  f168:=Tryd.func66.trans (congrArg some (by kernel_rfl))
  f169:=Tryd.func50.trans (congrArg some (by kernel_rfl))
  f197:=Tryd.func62.trans (congrArg some (by kernel_rfl))
  f204:=Tryd.func52.trans (congrArg some (by kernel_rfl))
  f230:=Tryd.func51.trans (congrArg some (by kernel_rfl))
  f240:=Tryd.func63.trans (congrArg some (by kernel_rfl))
  f241:=Tryd.func64.trans (congrArg some (by kernel_rfl))
  f242:=Tryd.func82.trans (congrArg some (by kernel_rfl))
  f260:=Tryd.func79.trans (congrArg some (by kernel_rfl))
  f262:=Tryd.func68.trans (congrArg some (by kernel_rfl))
  f270:=Tryd.func67.trans (congrArg some (by kernel_rfl))
  f274:=Tryd.func97.trans (congrArg some (by kernel_rfl))
  f275:=Tryd.func98.trans (congrArg some (by kernel_rfl))
  f276:=Tryd.func80.trans (congrArg some (by kernel_rfl))
  f277:=Tryd.func81.trans (congrArg some (by kernel_rfl))
  f278:=Tryd.func96.trans (congrArg some (by kernel_rfl))
  f313:=Tryd.func83.trans (congrArg some (by kernel_rfl))
  t0:=Tryd.underlying0
  a0:=Tryd.isAgg0
  z0:=Tryd.sizeOf0
  v0:=Tryd.zeroValue0
  t3:=Tryd.underlying3
  a3:=Tryd.isAgg3
  z3:=Tryd.sizeOf3
  v3:=Tryd.zeroValue3
  t4:=Tryd.underlying4
  a4:=Tryd.isAgg4
  z4:=Tryd.sizeOf4
  v4:=Tryd.zeroValue4
  t5:=Tryd.underlying5
  a5:=Tryd.isAgg5
  z5:=Tryd.sizeOf5
  v5:=Tryd.zeroValue5
  t9:=Tryd.underlying9
  a9:=Tryd.isAgg9
  z9:=Tryd.sizeOf9
  v9:=Tryd.zeroValue9
  t20:=Tryd.underlying20
  a20:=Tryd.isAgg20
  z20:=Tryd.sizeOf20
  v20:=Tryd.zeroValue20
  t21:=Tryd.underlying21
  a21:=Tryd.isAgg21
  z21:=Tryd.sizeOf21
  v21:=Tryd.zeroValue21
  t37:=Tryd.underlying30
  a37:=Tryd.isAgg30
  z37:=Tryd.sizeOf30
  v37:=Tryd.zeroValue30
  t46:=Tryd.underlying59
  a46:=Tryd.isAgg59
  z46:=Tryd.sizeOf59
  v46:=Tryd.zeroValue59
  t51:=Tryd.underlying120
  a51:=Tryd.isAgg120
  z51:=Tryd.sizeOf120
  v51:=Tryd.zeroValue120
  t70:=Tryd.underlying78
  a70:=Tryd.isAgg78
  z70:=Tryd.sizeOf78
  v70:=Tryd.zeroValue78
  t72:=Tryd.underlying80
  a72:=Tryd.isAgg80
  z72:=Tryd.sizeOf80
  v72:=Tryd.zeroValue80
  t75:=Tryd.underlying83
  a75:=Tryd.isAgg83
  z75:=Tryd.sizeOf83
  v75:=Tryd.zeroValue83
  t76:=Tryd.underlying84
  a76:=Tryd.isAgg84
  z76:=Tryd.sizeOf84
  v76:=Tryd.zeroValue84
  t105:=Tryd.underlying97
  a105:=Tryd.isAgg97
  z105:=Tryd.sizeOf97
  v105:=Tryd.zeroValue97
  t107:=Tryd.underlying89
  a107:=Tryd.isAgg89
  z107:=Tryd.sizeOf89
  v107:=Tryd.zeroValue89
  t119:=Tryd.underlying129
  a119:=Tryd.isAgg129
  z119:=Tryd.sizeOf129
  t127:=Tryd.underlying99
  a127:=Tryd.isAgg99
  z127:=Tryd.sizeOf99
  v127:=Tryd.zeroValue99
  t138:=Tryd.underlying131
  a138:=Tryd.isAgg131
  z138:=Tryd.sizeOf131
  v138:=Tryd.zeroValue131
  t139:=Tryd.underlying132
  a139:=Tryd.isAgg132
  z139:=Tryd.sizeOf132
  v139:=Tryd.zeroValue132
  t160:=Tryd.underlying133
  a160:=Tryd.isAgg133
  z160:=Tryd.sizeOf133
  v160:=Tryd.zeroValue133
  t162:=Tryd.underlying114
  a162:=Tryd.isAgg114
  z162:=Tryd.sizeOf114
  v162:=Tryd.zeroValue114
  t164:=Tryd.underlying108
  a164:=Tryd.isAgg108
  z164:=Tryd.sizeOf108
  v164:=Tryd.zeroValue108
  t203:=Tryd.underlying112
  a203:=Tryd.isAgg112
  z203:=Tryd.sizeOf112
  v203:=Tryd.zeroValue112
  t206:=Tryd.underlying146
  a206:=Tryd.isAgg146
  z206:=Tryd.sizeOf146
  v206:=Tryd.zeroValue146
  t208:=Tryd.underlying148
  a208:=Tryd.isAgg148
  z208:=Tryd.sizeOf148
  v208:=Tryd.zeroValue148
  g3:=by kernel_rfl
  g4:=by kernel_rfl
  g13:=by kernel_rfl }
theorem Tryd.Builder_Extra_159:Builder.Extra Tryd.prog Tryd.lays159_ren:={
  sizeBuilder:=by kernel_rfl
  liesBuilder:=by kernel_rfl
  t5:=Tryd.underlying5
  a5:=Tryd.isAgg5
  z5:=Tryd.sizeOf5
  v5:=Tryd.zeroValue5
  infoByte:=by kernel_rfl
  cellsByte:=by kernel_rfl
  sizeByte:=by kernel_rfl
  neB5:=by decide }
open Go.RowKit in
theorem Tryd.strings_ToLower_ascii (s : ByteArray) (w : World) (hs : s.size ≤ 140737488355328) (hascii : ∀ (j : Nat) (b : UInt8), s.data.toList[j]? = some b → b.toNat < 128) :
    Calls Tryd.prog 29 #[.string s] w fun e w'=>e=.returned (.string ⟨(Lib.toLowerA s.data.toList).toArray⟩)∧Below w.heap.size w w':=Any.strings_ToLower_ascii Tryd.lays159 Tryd.Builder_Extra_159 s w hs hascii
def Tryd.lays156_ren:Go.Shelf.Ren:=⟨fun | 156=>32 | 165=>47 | 166=>48 | 169=>50 | 240=>63 | 241=>64 | 276=>80 | 277=>81 | n=>n,fun | 31=>34 | 9=>9 | 3=>3 | 4=>4 | 0=>0 | 20=>20 | 72=>80 | 76=>84 | 70=>78 | 37=>30 | 75=>83 | 127=>99 | 164=>108 | 5=>5 | 80=>87 | n=>n,fun | n=>n⟩
theorem Tryd.lays156:Go.Proofs.Lays.n156 Tryd.prog Tryd.lays156_ren:={
  mixed:=by kernel_rfl
  f156:=Tryd.func32.trans (congrArg some (by kernel_rfl))
  f165:=Tryd.func47.trans (congrArg some (by kernel_rfl))
  f166:=Tryd.func48.trans (congrArg some (by kernel_rfl))
  f169:=Tryd.func50.trans (congrArg some (by kernel_rfl))
  f240:=Tryd.func63.trans (congrArg some (by kernel_rfl))
  f241:=Tryd.func64.trans (congrArg some (by kernel_rfl))
  f276:=Tryd.func80.trans (congrArg some (by kernel_rfl))
  f277:=Tryd.func81.trans (congrArg some (by kernel_rfl))
  t0:=Tryd.underlying0
  a0:=Tryd.isAgg0
  z0:=Tryd.sizeOf0
  v0:=Tryd.zeroValue0
  t3:=Tryd.underlying3
  a3:=Tryd.isAgg3
  z3:=Tryd.sizeOf3
  v3:=Tryd.zeroValue3
  t4:=Tryd.underlying4
  a4:=Tryd.isAgg4
  z4:=Tryd.sizeOf4
  v4:=Tryd.zeroValue4
  t9:=Tryd.underlying9
  a9:=Tryd.isAgg9
  z9:=Tryd.sizeOf9
  v9:=Tryd.zeroValue9
  t20:=Tryd.underlying20
  a20:=Tryd.isAgg20
  z20:=Tryd.sizeOf20
  v20:=Tryd.zeroValue20
  t31:=Tryd.underlying34
  a31:=Tryd.isAgg34
  z31:=Tryd.sizeOf34
  v31:=Tryd.zeroValue34
  t37:=Tryd.underlying30
  a37:=Tryd.isAgg30
  z37:=Tryd.sizeOf30
  v37:=Tryd.zeroValue30
  t70:=Tryd.underlying78
  a70:=Tryd.isAgg78
  z70:=Tryd.sizeOf78
  v70:=Tryd.zeroValue78
  t72:=Tryd.underlying80
  a72:=Tryd.isAgg80
  z72:=Tryd.sizeOf80
  v72:=Tryd.zeroValue80
  t75:=Tryd.underlying83
  a75:=Tryd.isAgg83
  z75:=Tryd.sizeOf83
  v75:=Tryd.zeroValue83
  t76:=Tryd.underlying84
  a76:=Tryd.isAgg84
  z76:=Tryd.sizeOf84
  v76:=Tryd.zeroValue84
  t127:=Tryd.underlying99
  a127:=Tryd.isAgg99
  z127:=Tryd.sizeOf99
  v127:=Tryd.zeroValue99
  t164:=Tryd.underlying108
  a164:=Tryd.isAgg108
  z164:=Tryd.sizeOf108
  v164:=Tryd.zeroValue108 }
theorem Tryd.Builder_Extra_156:Builder.Extra Tryd.prog Tryd.lays156_ren:={
  sizeBuilder:=by kernel_rfl
  liesBuilder:=by kernel_rfl
  t5:=Tryd.underlying5
  a5:=Tryd.isAgg5
  z5:=Tryd.sizeOf5
  v5:=Tryd.zeroValue5
  infoByte:=by kernel_rfl
  cellsByte:=by kernel_rfl
  sizeByte:=by kernel_rfl
  neB5:=by decide }
open Go.RowKit in
theorem Tryd.strings_Join_none (a : Option Addr) (c : Nat) (sep : ByteArray) (w : World) :
    Calls Tryd.prog 32 #[.slice a 0 c,.string sep] w fun e w'=>e=.returned (.string ⟨#[]⟩)∧w'=w:=Any.strings_Join_none Tryd.lays156 Tryd.Builder_Extra_156 a c sep w
open Go.RowKit in
theorem Tryd.strings_Join (bk o c : Nat) (xs : List ByteArray) (sep : ByteArray) (w : World) (hcells : ∀ (j : Nat) x, xs[j]? = some x → w.cell? ⟨bk, o + j, none⟩ = some (.string x)) (hbk : bk < w.heap.size) (hN : xs.length ≤ 140737488355328) (hcap : xs.length ≤ c) (hlen : (Lib.join (xs.map (·.data.toList)) sep.data.toList).length ≤ 140737488355328) :
    Calls Tryd.prog 32 #[.slice (some ⟨bk,o,none⟩) xs.length c,.string sep] w fun e w'=>e=.returned (.string ⟨(Lib.join (xs.map (·.data.toList)) sep.data.toList).toArray⟩)∧Below w.heap.size w w':=Any.strings_Join Tryd.lays156 Tryd.Builder_Extra_156 bk o c xs sep w hcells hbk hN hcap hlen
def Tryd.lays137_ren:Go.Shelf.Ren:=⟨fun | 137=>95 | 217=>71 | 266=>88 | n=>n,fun | 9=>9 | 5=>5 | 3=>3 | n=>n,fun | n=>n⟩
theorem Tryd.lays137:Go.Proofs.Lays.n137 Tryd.prog Tryd.lays137_ren:={
  mixed:=by kernel_rfl
  f137:=Tryd.func95.trans (congrArg some (by kernel_rfl))
  f217:=Tryd.func71.trans (congrArg some (by kernel_rfl))
  f266:=Tryd.func88.trans (congrArg some (by kernel_rfl))
  t3:=Tryd.underlying3
  a3:=Tryd.isAgg3
  z3:=Tryd.sizeOf3
  v3:=Tryd.zeroValue3
  t5:=Tryd.underlying5
  a5:=Tryd.isAgg5
  z5:=Tryd.sizeOf5
  v5:=Tryd.zeroValue5
  t9:=Tryd.underlying9
  a9:=Tryd.isAgg9
  z9:=Tryd.sizeOf9
  v9:=Tryd.zeroValue9 }
open Go.RowKit in
theorem Tryd.strings_IndexByte (s : ByteArray) (c : Int) (w : World) :
    Calls Tryd.prog 95 #[.string s,.int .u8 c] w fun e w'=>e=.returned (.int .i64 (Lib.indexByte s.data.toList c.toNat.toUInt8))∧w'=w:=Any.strings_IndexByte Tryd.lays137 s c w
def Tryd.laysM171_ren:Go.Shelf.Ren:=⟨fun | 171=>31 | 243=>53 | 246=>69 | 283=>84 | 284=>85 | 285=>86 | 286=>87 | 129=>100 | 317=>99 | 318=>101 | 319=>102 | 320=>103 | 337=>107 | 338=>108 | n=>n,fun | 3=>3 | 9=>9 | 2=>2 | 4=>4 | 171=>115 | 0=>0 | 53=>23 | 37=>30 | 5=>5 | 173=>118 | 212=>137 | 51=>120 | 20=>20 | 213=>138 | 46=>59 | 232=>155 | 233=>156 | n=>n,fun | 17=>4 | 18=>7 | 19=>8 | n=>n⟩
theorem Tryd.laysM171:Go.Proofs.LaysM.n171 Tryd.prog Tryd.laysM171_ren:={
  mixed:=by kernel_rfl
  f129:=Tryd.func100.trans (congrArg some (by kernel_rfl))
  f171:=Tryd.func31.trans (congrArg some (by kernel_rfl))
  f243:=Tryd.func53.trans (congrArg some (by kernel_rfl))
  f246:=Tryd.func69.trans (congrArg some (by kernel_rfl))
  f283:=Tryd.func84.trans (congrArg some (by kernel_rfl))
  f284:=Tryd.func85.trans (congrArg some (by kernel_rfl))
  f285:=Tryd.func86.trans (congrArg some (by kernel_rfl))
  f286:=Tryd.func87.trans (congrArg some (by kernel_rfl))
  f317:=Tryd.func99.trans (congrArg some (by kernel_rfl))
  f318:=Tryd.func101.trans (congrArg some (by kernel_rfl))
  f319:=Tryd.func102.trans (congrArg some (by kernel_rfl))
  f320:=Tryd.func103.trans (congrArg some (by kernel_rfl))
  f337:=Tryd.func107.trans (congrArg some (by kernel_rfl))
  f338:=Tryd.func108.trans (congrArg some (by kernel_rfl))
  t0:=Tryd.underlying0
  a0:=Tryd.isAgg0
  z0:=Tryd.sizeOf0
  v0:=Tryd.zeroValue0
  t2:=Tryd.underlying2
  a2:=Tryd.isAgg2
  z2:=Tryd.sizeOf2
  v2:=Tryd.zeroValue2
  t3:=Tryd.underlying3
  a3:=Tryd.isAgg3
  z3:=Tryd.sizeOf3
  v3:=Tryd.zeroValue3
  t4:=Tryd.underlying4
  a4:=Tryd.isAgg4
  z4:=Tryd.sizeOf4
  v4:=Tryd.zeroValue4
  t5:=Tryd.underlying5
  a5:=Tryd.isAgg5
  z5:=Tryd.sizeOf5
  v5:=Tryd.zeroValue5
  t9:=Tryd.underlying9
  a9:=Tryd.isAgg9
  z9:=Tryd.sizeOf9
  v9:=Tryd.zeroValue9
  t20:=Tryd.underlying20
  a20:=Tryd.isAgg20
  z20:=Tryd.sizeOf20
  v20:=Tryd.zeroValue20
  t37:=Tryd.underlying30
  a37:=Tryd.isAgg30
  z37:=Tryd.sizeOf30
  v37:=Tryd.zeroValue30
  t46:=Tryd.underlying59
  a46:=Tryd.isAgg59
  z46:=Tryd.sizeOf59
  v46:=Tryd.zeroValue59
  t51:=Tryd.underlying120
  a51:=Tryd.isAgg120
  z51:=Tryd.sizeOf120
  v51:=Tryd.zeroValue120
  t53:=Tryd.underlying23
  a53:=Tryd.isAgg23
  z53:=Tryd.sizeOf23
  v53:=Tryd.zeroValue23
  t171:=Tryd.underlying115
  a171:=Tryd.isAgg115
  z171:=Tryd.sizeOf115
  v171:=Tryd.zeroValue115
  t173:=Tryd.underlying118
  a173:=Tryd.isAgg118
  z173:=Tryd.sizeOf118
  v173:=Tryd.zeroValue118
  t212:=Tryd.underlying137
  a212:=Tryd.isAgg137
  z212:=Tryd.sizeOf137
  v212:=Tryd.zeroValue137
  t213:=Tryd.underlying138
  a213:=Tryd.isAgg138
  z213:=Tryd.sizeOf138
  t232:=Tryd.underlying155
  a232:=Tryd.isAgg155
  z232:=Tryd.sizeOf155
  v232:=Tryd.zeroValue155
  t233:=Tryd.underlying156
  a233:=Tryd.isAgg156
  z233:=Tryd.sizeOf156
  v233:=Tryd.zeroValue156
  g17:=by kernel_rfl
  g18:=by kernel_rfl
  g19:=by kernel_rfl
  i0:=by kernel_rfl
  i2:=by kernel_rfl
  i3:=by kernel_rfl
  i4:=by kernel_rfl
  i5:=by kernel_rfl
  i9:=by kernel_rfl
  i20:=by kernel_rfl
  i37:=by kernel_rfl
  i46:=by kernel_rfl
  i51:=by kernel_rfl
  i53:=by kernel_rfl
  i171:=by kernel_rfl
  i173:=by kernel_rfl
  i212:=by kernel_rfl
  i232:=by kernel_rfl
  i233:=by kernel_rfl
  m17:=by kernel_rfl
  m18:=by kernel_rfl
  m19:=by kernel_rfl }
open Go.RowKit Go.Sort Go.Lib in
theorem Tryd.strconv_Itoa (n : Int) (h0 : -9223372036854775808 ≤ n) (h1 : n ≤ 9223372036854775807) (w : World) (htab : Lib.TabIs Tryd.prog w "internal/strconv.uint64pow10" .u64 Lib.pow10Tab) :
    Calls Tryd.prog 31 #[.int .i64 n] w fun e w'=>e=.returned (.string ⟨(Lib.itoa n).toArray⟩)∧∃ k os,w'=grow (w.drewN k) os:=Any.strconv_Itoa Tryd.laysM171 n h0 h1 w htab
def Tryd.laysC172_ren:Go.Shelf.Ren:=⟨fun | 172=>59 | 244=>75 | 245=>76 | 247=>90 | 279=>91 | 280=>92 | 281=>93 | 282=>94 | 287=>104 | 316=>105 | 171=>31 | 205=>106 | 321=>109 | 322=>110 | 243=>53 | 246=>69 | 283=>84 | 284=>85 | 285=>86 | 286=>87 | 129=>100 | 317=>99 | 318=>101 | 319=>102 | 320=>103 | 337=>107 | 338=>108 | n=>n,fun | 9=>9 | 3=>3 | 75=>83 | 76=>84 | 4=>4 | 5=>5 | 167=>123 | 37=>30 | 0=>0 | 85=>124 | 2=>2 | 168=>126 | 53=>23 | 175=>140 | 46=>59 | 210=>143 | 127=>99 | 145=>154 | 143=>152 | 21=>21 | 171=>115 | 173=>118 | 212=>137 | 51=>120 | 20=>20 | 213=>138 | 232=>155 | 233=>156 | 80=>87 | n=>n,fun | 15=>5 | 16=>6 | 17=>4 | 18=>7 | 19=>8 | n=>n⟩
theorem Tryd.laysC172:Go.Proofs.LaysC.n172 Tryd.prog Tryd.laysC172_ren:={
  mixed:=by kernel_rfl
  f129:=Tryd.func100.trans (congrArg some (by kernel_rfl))
  f171:=Tryd.func31.trans (congrArg some (by kernel_rfl))
  f172:=Tryd.func59.trans (congrArg some (by kernel_rfl))
  f205:=Tryd.func106.trans (congrArg some (by kernel_rfl))
  f243:=Tryd.func53.trans (congrArg some (by kernel_rfl))
  f244:=Tryd.func75.trans (congrArg some (by kernel_rfl))
  f245:=Tryd.func76.trans (congrArg some (by kernel_rfl))
  f246:=Tryd.func69.trans (congrArg some (by kernel_rfl))
  f247:=Tryd.func90.trans (congrArg some (by kernel_rfl))
  f279:=Tryd.func91.trans (congrArg some (by kernel_rfl))
  f280:=Tryd.func92.trans (congrArg some (by kernel_rfl))
  f281:=Tryd.func93.trans (congrArg some (by kernel_rfl))
  f282:=Tryd.func94.trans (congrArg some (by kernel_rfl))
  f283:=Tryd.func84.trans (congrArg some (by kernel_rfl))
  f284:=Tryd.func85.trans (congrArg some (by kernel_rfl))
  f285:=Tryd.func86.trans (congrArg some (by kernel_rfl))
  f286:=Tryd.func87.trans (congrArg some (by kernel_rfl))
  f287:=Tryd.func104.trans (congrArg some (by kernel_rfl))
  f316:=Tryd.func105.trans (congrArg some (by kernel_rfl))
  f317:=Tryd.func99.trans (congrArg some (by kernel_rfl))
  f318:=Tryd.func101.trans (congrArg some (by kernel_rfl))
  f319:=Tryd.func102.trans (congrArg some (by kernel_rfl))
  f320:=Tryd.func103.trans (congrArg some (by kernel_rfl))
  f321:=Tryd.func109.trans (congrArg some (by kernel_rfl))
  f322:=Tryd.func110.trans (congrArg some (by kernel_rfl))
  f337:=Tryd.func107.trans (congrArg some (by kernel_rfl))
  f338:=Tryd.func108.trans (congrArg some (by kernel_rfl))
  t0:=Tryd.underlying0
  a0:=Tryd.isAgg0
  z0:=Tryd.sizeOf0
  v0:=Tryd.zeroValue0
  t2:=Tryd.underlying2
  a2:=Tryd.isAgg2
  z2:=Tryd.sizeOf2
  v2:=Tryd.zeroValue2
  t3:=Tryd.underlying3
  a3:=Tryd.isAgg3
  z3:=Tryd.sizeOf3
  v3:=Tryd.zeroValue3
  t4:=Tryd.underlying4
  a4:=Tryd.isAgg4
  z4:=Tryd.sizeOf4
  v4:=Tryd.zeroValue4
  t5:=Tryd.underlying5
  a5:=Tryd.isAgg5
  z5:=Tryd.sizeOf5
  v5:=Tryd.zeroValue5
  t9:=Tryd.underlying9
  a9:=Tryd.isAgg9
  z9:=Tryd.sizeOf9
  v9:=Tryd.zeroValue9
  t20:=Tryd.underlying20
  a20:=Tryd.isAgg20
  z20:=Tryd.sizeOf20
  v20:=Tryd.zeroValue20
  t21:=Tryd.underlying21
  a21:=Tryd.isAgg21
  z21:=Tryd.sizeOf21
  v21:=Tryd.zeroValue21
  t37:=Tryd.underlying30
  a37:=Tryd.isAgg30
  z37:=Tryd.sizeOf30
  v37:=Tryd.zeroValue30
  t46:=Tryd.underlying59
  a46:=Tryd.isAgg59
  z46:=Tryd.sizeOf59
  v46:=Tryd.zeroValue59
  t51:=Tryd.underlying120
  a51:=Tryd.isAgg120
  z51:=Tryd.sizeOf120
  v51:=Tryd.zeroValue120
  t53:=Tryd.underlying23
  a53:=Tryd.isAgg23
  z53:=Tryd.sizeOf23
  v53:=Tryd.zeroValue23
  t75:=Tryd.underlying83
  a75:=Tryd.isAgg83
  z75:=Tryd.sizeOf83
  v75:=Tryd.zeroValue83
  t76:=Tryd.underlying84
  a76:=Tryd.isAgg84
  z76:=Tryd.sizeOf84
  v76:=Tryd.zeroValue84
  t85:=Tryd.underlying124
  a85:=Tryd.isAgg124
  z85:=Tryd.sizeOf124
  v85:=Tryd.zeroValue124
  t127:=Tryd.underlying99
  a127:=Tryd.isAgg99
  z127:=Tryd.sizeOf99
  v127:=Tryd.zeroValue99
  t143:=Tryd.underlying152
  a143:=Tryd.isAgg152
  z143:=Tryd.sizeOf152
  v143:=Tryd.zeroValue152
  t145:=Tryd.underlying154
  a145:=Tryd.isAgg154
  z145:=Tryd.sizeOf154
  v145:=Tryd.zeroValue154
  t167:=Tryd.underlying123
  a167:=Tryd.isAgg123
  z167:=Tryd.sizeOf123
  v167:=Tryd.zeroValue123
  t168:=Tryd.underlying126
  a168:=Tryd.isAgg126
  z168:=Tryd.sizeOf126
  v168:=Tryd.zeroValue126
  t171:=Tryd.underlying115
  a171:=Tryd.isAgg115
  z171:=Tryd.sizeOf115
  v171:=Tryd.zeroValue115
  t173:=Tryd.underlying118
  a173:=Tryd.isAgg118
  z173:=Tryd.sizeOf118
  v173:=Tryd.zeroValue118
  t175:=Tryd.underlying140
  a175:=Tryd.isAgg140
  z175:=Tryd.sizeOf140
  v175:=Tryd.zeroValue140
  t210:=Tryd.underlying143
  a210:=Tryd.isAgg143
  z210:=Tryd.sizeOf143
  v210:=Tryd.zeroValue143
  t212:=Tryd.underlying137
  a212:=Tryd.isAgg137
  z212:=Tryd.sizeOf137
  v212:=Tryd.zeroValue137
  t213:=Tryd.underlying138
  a213:=Tryd.isAgg138
  z213:=Tryd.sizeOf138
  t232:=Tryd.underlying155
  a232:=Tryd.isAgg155
  z232:=Tryd.sizeOf155
  v232:=Tryd.zeroValue155
  t233:=Tryd.underlying156
  a233:=Tryd.isAgg156
  z233:=Tryd.sizeOf156
  v233:=Tryd.zeroValue156
  g15:=by kernel_rfl
  g16:=by kernel_rfl
  g17:=by kernel_rfl
  g18:=by kernel_rfl
  g19:=by kernel_rfl
  t80:=Tryd.underlying87
  a80:=Tryd.isAgg87
  z80:=Tryd.sizeOf87
  v80:=Tryd.zeroValue87
  i0:=by kernel_rfl
  i2:=by kernel_rfl
  i3:=by kernel_rfl
  i4:=by kernel_rfl
  i5:=by kernel_rfl
  i9:=by kernel_rfl
  i20:=by kernel_rfl
  i21:=by kernel_rfl
  i37:=by kernel_rfl
  i46:=by kernel_rfl
  i51:=by kernel_rfl
  i53:=by kernel_rfl
  i75:=by kernel_rfl
  i76:=by kernel_rfl
  i80:=by kernel_rfl
  i85:=by kernel_rfl
  i127:=by kernel_rfl
  i143:=by kernel_rfl
  i145:=by kernel_rfl
  i167:=by kernel_rfl
  i168:=by kernel_rfl
  i171:=by kernel_rfl
  i173:=by kernel_rfl
  i175:=by kernel_rfl
  i210:=by kernel_rfl
  i212:=by kernel_rfl
  i232:=by kernel_rfl
  i233:=by kernel_rfl
  m15:=by kernel_rfl
  m16:=by kernel_rfl
  m17:=by kernel_rfl
  m18:=by kernel_rfl
  m19:=by kernel_rfl
  c0:=by kernel_rfl
  c2:=by kernel_rfl
  c3:=by kernel_rfl
  c4:=by kernel_rfl
  c5:=by kernel_rfl
  c9:=by kernel_rfl
  c20:=by kernel_rfl
  c21:=by kernel_rfl
  c37:=by kernel_rfl
  c46:=by kernel_rfl
  c51:=by kernel_rfl
  c53:=by kernel_rfl
  c75:=by kernel_rfl
  c76:=by kernel_rfl
  c80:=by kernel_rfl
  c85:=by kernel_rfl
  c127:=by kernel_rfl
  c143:=by kernel_rfl
  c145:=by kernel_rfl
  c167:=by kernel_rfl
  c168:=by kernel_rfl
  c171:=by kernel_rfl
  c173:=by kernel_rfl
  c175:=by kernel_rfl
  c210:=by kernel_rfl
  c212:=by kernel_rfl
  c213:=by kernel_rfl
  c232:=by kernel_rfl
  c233:=by kernel_rfl }
open Go.RowKit in
theorem Tryd.strconv_Atoi_ok (s : ByteArray) (hmax : s.size ≤ 9223372036854775806) (v : Int) (h : Lib.atoiAll s.data.toList = .ok v) (w : World) :
    Calls Tryd.prog 59 #[.string s] w fun e w'=>e=.returned (.tuple #[.int .i64 v,.nilIface])∧(w'=w∨∃ t,w'=Lib.bytesWorld w 5 t):=Any.strconv_Atoi_ok Tryd.laysC172 s hmax v h w
open Go.RowKit in
theorem Tryd.strconv_Atoi_syntax_var (s : ByteArray) (hlim : s.size ≤ 281474976710656) (h : Lib.atoiAll s.data.toList = Lib.atoiAll []) (tp : TypeId) (p : Value) (w : World) (hvar : w.var? Tryd.prog "strconv.ErrSyntax" = some #[.iface tp p]) :
    Calls Tryd.prog 59 #[.string s] w fun e w'=>∃ N,e=.returned (.tuple #[.int .i64 0,.iface 126 (.pointer (some ⟨N,0,none⟩))])∧w.heap.size≤N∧w'.heap[N]?=some (.cells #[.string ⟨#[65,116,111,105]⟩,.string s,.iface tp p] 143 (0,0))∧Below w.heap.size w w':=Any.strconv_Atoi_syntax_var Tryd.laysC172 s hlim h tp p w hvar
open Go.RowKit in
theorem Tryd.strconv_Atoi_range_var (s : ByteArray) (hlim : s.size ≤ 281474976710656) (h : Lib.atoiAll s.data.toList = .range) (tp : TypeId) (p : Value) (w : World) (hvar : w.var? Tryd.prog "strconv.ErrRange" = some #[.iface tp p]) :
    Calls Tryd.prog 59 #[.string s] w fun e w'=>∃ N,e=.returned (.tuple #[.int .i64 (Lib.atoiSat s.data.toList),.iface 126 (.pointer (some ⟨N,0,none⟩))])∧w.heap.size≤N∧w'.heap[N]?=some (.cells #[.string ⟨#[65,116,111,105]⟩,.string s,.iface tp p] 143 (0,0))∧Below w.heap.size w w':=Any.strconv_Atoi_range_var Tryd.laysC172 s hlim h tp p w hvar
def Tryd.laysM144_ren:Go.Shelf.Ren:=⟨fun | 144=>13 | 143=>38 | 219=>55 | 217=>71 | 225=>72 | 224=>73 | 267=>74 | 266=>88 | 314=>89 | n=>n,fun | 9=>9 | 4=>4 | 3=>3 | 5=>5 | 46=>59 | 146=>121 | 51=>120 | n=>n,fun | 1=>0 | n=>n⟩
theorem Tryd.laysM144:Go.Proofs.LaysM.n144 Tryd.prog Tryd.laysM144_ren:={
  mixed:=by kernel_rfl
  f143:=Tryd.func38.trans (congrArg some (by kernel_rfl))
  f144:=Tryd.func13.trans (congrArg some (by kernel_rfl))
  f217:=Tryd.func71.trans (congrArg some (by kernel_rfl))
  f219:=Tryd.func55.trans (congrArg some (by kernel_rfl))
  f224:=Tryd.func73.trans (congrArg some (by kernel_rfl))
  f225:=Tryd.func72.trans (congrArg some (by kernel_rfl))
  f266:=Tryd.func88.trans (congrArg some (by kernel_rfl))
  f267:=Tryd.func74.trans (congrArg some (by kernel_rfl))
  f314:=Tryd.func89.trans (congrArg some (by kernel_rfl))
  t3:=Tryd.underlying3
  a3:=Tryd.isAgg3
  z3:=Tryd.sizeOf3
  v3:=Tryd.zeroValue3
  t4:=Tryd.underlying4
  a4:=Tryd.isAgg4
  z4:=Tryd.sizeOf4
  v4:=Tryd.zeroValue4
  t5:=Tryd.underlying5
  a5:=Tryd.isAgg5
  z5:=Tryd.sizeOf5
  v5:=Tryd.zeroValue5
  t9:=Tryd.underlying9
  a9:=Tryd.isAgg9
  z9:=Tryd.sizeOf9
  v9:=Tryd.zeroValue9
  t46:=Tryd.underlying59
  a46:=Tryd.isAgg59
  z46:=Tryd.sizeOf59
  v46:=Tryd.zeroValue59
  t51:=Tryd.underlying120
  a51:=Tryd.isAgg120
  z51:=Tryd.sizeOf120
  v51:=Tryd.zeroValue120
  t146:=Tryd.underlying121
  a146:=Tryd.isAgg121
  z146:=Tryd.sizeOf121
  v146:=Tryd.zeroValue121
  g1:=by kernel_rfl
  i3:=by kernel_rfl
  i4:=by kernel_rfl
  i5:=by kernel_rfl
  i9:=by kernel_rfl
  i46:=by kernel_rfl
  i51:=by kernel_rfl
  i146:=by kernel_rfl
  m1:=by kernel_rfl
  s1_3:=fun w h=>Go.Proofs.cell_of_shapedOpen_int (zero:=#[.int .i64 0]) (t:=3) h (of_decide_eq_true (by kernel_rfl)) (by kernel_rfl) rfl (by kernel_rfl) (by kernel_rfl) Tryd.underlying3 }
open Go.RowKit Go.Lib in
theorem Tryd.strings_Contains_shaped (s sub : ByteArray) (w : World) (h : w.ShapedOpen Tryd.prog) (hs : s.size < 4294967281) :
    Calls Tryd.prog 13 #[.string s,.string sub] w fun e w'=>e=.returned (.bool (Lib.contains s.data.toList sub.data.toList))∧w'=w:=Any.strings_Contains_shaped Tryd.laysM144 s sub w h hs
def Tryd.laysM145_ren:Go.Shelf.Ren:=⟨fun | 145=>60 | 220=>77 | 219=>55 | 217=>71 | 225=>72 | 224=>73 | 267=>74 | 266=>88 | 314=>89 | n=>n,fun | 9=>9 | 4=>4 | 59=>94 | 3=>3 | 5=>5 | 46=>59 | 146=>121 | 51=>120 | n=>n,fun | 1=>0 | n=>n⟩
theorem Tryd.laysM145:Go.Proofs.LaysM.n145 Tryd.prog Tryd.laysM145_ren:={
  mixed:=by kernel_rfl
  f145:=Tryd.func60.trans (congrArg some (by kernel_rfl))
  f217:=Tryd.func71.trans (congrArg some (by kernel_rfl))
  f219:=Tryd.func55.trans (congrArg some (by kernel_rfl))
  f220:=Tryd.func77.trans (congrArg some (by kernel_rfl))
  f224:=Tryd.func73.trans (congrArg some (by kernel_rfl))
  f225:=Tryd.func72.trans (congrArg some (by kernel_rfl))
  f266:=Tryd.func88.trans (congrArg some (by kernel_rfl))
  f267:=Tryd.func74.trans (congrArg some (by kernel_rfl))
  f314:=Tryd.func89.trans (congrArg some (by kernel_rfl))
  t3:=Tryd.underlying3
  a3:=Tryd.isAgg3
  z3:=Tryd.sizeOf3
  v3:=Tryd.zeroValue3
  t4:=Tryd.underlying4
  a4:=Tryd.isAgg4
  z4:=Tryd.sizeOf4
  v4:=Tryd.zeroValue4
  t5:=Tryd.underlying5
  a5:=Tryd.isAgg5
  z5:=Tryd.sizeOf5
  v5:=Tryd.zeroValue5
  t9:=Tryd.underlying9
  a9:=Tryd.isAgg9
  z9:=Tryd.sizeOf9
  v9:=Tryd.zeroValue9
  t46:=Tryd.underlying59
  a46:=Tryd.isAgg59
  z46:=Tryd.sizeOf59
  v46:=Tryd.zeroValue59
  t51:=Tryd.underlying120
  a51:=Tryd.isAgg120
  z51:=Tryd.sizeOf120
  v51:=Tryd.zeroValue120
  t59:=Tryd.underlying94
  a59:=Tryd.isAgg94
  z59:=Tryd.sizeOf94
  v59:=Tryd.zeroValue94
  t146:=Tryd.underlying121
  a146:=Tryd.isAgg121
  z146:=Tryd.sizeOf121
  v146:=Tryd.zeroValue121
  g1:=by kernel_rfl
  i3:=by kernel_rfl
  i4:=by kernel_rfl
  i5:=by kernel_rfl
  i9:=by kernel_rfl
  i46:=by kernel_rfl
  i51:=by kernel_rfl
  i59:=by kernel_rfl
  i146:=by kernel_rfl
  m1:=by kernel_rfl
  s1_3:=fun w h=>Go.Proofs.cell_of_shapedOpen_int (zero:=#[.int .i64 0]) (t:=3) h (of_decide_eq_true (by kernel_rfl)) (by kernel_rfl) rfl (by kernel_rfl) (by kernel_rfl) Tryd.underlying3 }
open Go.RowKit Go.Lib in
theorem Tryd.strings_Cut_shaped (s sep : ByteArray) (w : World) (h : w.ShapedOpen Tryd.prog) (hs : s.size < 4294967281) :
    Calls Tryd.prog 60 #[.string s,.string sep] w fun e w'=>e=.returned (.tuple #[.string ⟨(Lib.cut s.data.toList sep.data.toList).1.toArray⟩,.string ⟨(Lib.cut s.data.toList sep.data.toList).2.1.toArray⟩,.bool (Lib.cut s.data.toList sep.data.toList).2.2])∧∃ n,w'=w.drewN n:=Any.strings_Cut_shaped Tryd.laysM145 s sep w h hs
def Tryd.laysM138_ren:Go.Shelf.Ren:=⟨fun | 138=>12 | 195=>36 | 218=>37 | 143=>38 | 219=>55 | 217=>71 | 225=>72 | 224=>73 | 267=>74 | 266=>88 | 314=>89 | n=>n,fun | 9=>9 | 3=>3 | 4=>4 | 5=>5 | 0=>0 | 46=>59 | 146=>121 | 51=>120 | n=>n,fun | 1=>0 | n=>n⟩
theorem Tryd.laysM138:Go.Proofs.LaysM.n138 Tryd.prog Tryd.laysM138_ren:={
  mixed:=by kernel_rfl
  f138:=Tryd.func12.trans (congrArg some (by kernel_rfl))
  f143:=Tryd.func38.trans (congrArg some (by kernel_rfl))
  f195:=Tryd.func36.trans (congrArg some (by kernel_rfl))
  f217:=Tryd.func71.trans (congrArg some (by kernel_rfl))
  f218:=Tryd.func37.trans (congrArg some (by kernel_rfl))
  f219:=Tryd.func55.trans (congrArg some (by kernel_rfl))
  f224:=Tryd.func73.trans (congrArg some (by kernel_rfl))
  f225:=Tryd.func72.trans (congrArg some (by kernel_rfl))
  f266:=Tryd.func88.trans (congrArg some (by kernel_rfl))
  f267:=Tryd.func74.trans (congrArg some (by kernel_rfl))
  f314:=Tryd.func89.trans (congrArg some (by kernel_rfl))
  t0:=Tryd.underlying0
  a0:=Tryd.isAgg0
  z0:=Tryd.sizeOf0
  v0:=Tryd.zeroValue0
  t3:=Tryd.underlying3
  a3:=Tryd.isAgg3
  z3:=Tryd.sizeOf3
  v3:=Tryd.zeroValue3
  t4:=Tryd.underlying4
  a4:=Tryd.isAgg4
  z4:=Tryd.sizeOf4
  v4:=Tryd.zeroValue4
  t5:=Tryd.underlying5
  a5:=Tryd.isAgg5
  z5:=Tryd.sizeOf5
  v5:=Tryd.zeroValue5
  t9:=Tryd.underlying9
  a9:=Tryd.isAgg9
  z9:=Tryd.sizeOf9
  v9:=Tryd.zeroValue9
  t46:=Tryd.underlying59
  a46:=Tryd.isAgg59
  z46:=Tryd.sizeOf59
  v46:=Tryd.zeroValue59
  t51:=Tryd.underlying120
  a51:=Tryd.isAgg120
  z51:=Tryd.sizeOf120
  v51:=Tryd.zeroValue120
  t146:=Tryd.underlying121
  a146:=Tryd.isAgg121
  z146:=Tryd.sizeOf121
  v146:=Tryd.zeroValue121
  g1:=by kernel_rfl
  i0:=by kernel_rfl
  i3:=by kernel_rfl
  i4:=by kernel_rfl
  i5:=by kernel_rfl
  i9:=by kernel_rfl
  i46:=by kernel_rfl
  i51:=by kernel_rfl
  i146:=by kernel_rfl
  m1:=by kernel_rfl
  s1_3:=fun w h=>Go.Proofs.cell_of_shapedOpen_int (zero:=#[.int .i64 0]) (t:=3) h (of_decide_eq_true (by kernel_rfl)) (by kernel_rfl) rfl (by kernel_rfl) (by kernel_rfl) Tryd.underlying3 }
open Go.RowKit Go.Lib in
theorem Tryd.strings_Count_shaped (s sub : ByteArray) (w : World) (h : w.ShapedOpen Tryd.prog) (hs : s.size < 4294967281) (h2 : 2 ≤ sub.size) :
    Calls Tryd.prog 12 #[.string s,.string sub] w fun e w'=>e=.returned (.int .i64 (Lib.countB s sub))∧w'=w:=Any.strings_Count_shaped Tryd.laysM138 s sub w h hs h2
def Tryd.laysM146_ren:Go.Shelf.Ren:=⟨fun | 146=>14 | 221=>39 | 268=>56 | 138=>12 | 143=>38 | 195=>36 | 197=>62 | 218=>37 | 219=>55 | 260=>79 | 217=>71 | 225=>72 | 224=>73 | 267=>74 | 266=>88 | 314=>89 | n=>n,fun | 9=>9 | 31=>34 | 3=>3 | 4=>4 | 0=>0 | 105=>97 | 21=>21 | 5=>5 | 46=>59 | 119=>129 | 139=>132 | 138=>131 | 146=>121 | 51=>120 | n=>n,fun | 1=>0 | 3=>2 | 4=>3 | n=>n⟩
theorem Tryd.laysM146:Go.Proofs.LaysM.n146 Tryd.prog Tryd.laysM146_ren:={
  mixed:=by kernel_rfl
  f138:=Tryd.func12.trans (congrArg some (by kernel_rfl))
  f143:=Tryd.func38.trans (congrArg some (by kernel_rfl))
  f146:=Tryd.func14.trans (congrArg some (by kernel_rfl))
  f195:=Tryd.func36.trans (congrArg some (by kernel_rfl))
  f197:=Tryd.func62.trans (congrArg some (by kernel_rfl))
  f217:=Tryd.func71.trans (congrArg some (by kernel_rfl))
  f218:=Tryd.func37.trans (congrArg some (by kernel_rfl))
  f219:=Tryd.func55.trans (congrArg some (by kernel_rfl))
  f221:=Tryd.func39.trans (congrArg some (by kernel_rfl))
  f224:=Tryd.func73.trans (congrArg some (by kernel_rfl))
  f225:=Tryd.func72.trans (congrArg some (by kernel_rfl))
  f260:=Tryd.func79.trans (congrArg some (by kernel_rfl))
  f266:=Tryd.func88.trans (congrArg some (by kernel_rfl))
  f267:=Tryd.func74.trans (congrArg some (by kernel_rfl))
  f268:=Tryd.func56.trans (congrArg some (by kernel_rfl))
  f314:=Tryd.func89.trans (congrArg some (by kernel_rfl))
  t0:=Tryd.underlying0
  a0:=Tryd.isAgg0
  z0:=Tryd.sizeOf0
  v0:=Tryd.zeroValue0
  t3:=Tryd.underlying3
  a3:=Tryd.isAgg3
  z3:=Tryd.sizeOf3
  v3:=Tryd.zeroValue3
  t4:=Tryd.underlying4
  a4:=Tryd.isAgg4
  z4:=Tryd.sizeOf4
  v4:=Tryd.zeroValue4
  t5:=Tryd.underlying5
  a5:=Tryd.isAgg5
  z5:=Tryd.sizeOf5
  v5:=Tryd.zeroValue5
  t9:=Tryd.underlying9
  a9:=Tryd.isAgg9
  z9:=Tryd.sizeOf9
  v9:=Tryd.zeroValue9
  t21:=Tryd.underlying21
  a21:=Tryd.isAgg21
  z21:=Tryd.sizeOf21
  v21:=Tryd.zeroValue21
  t31:=Tryd.underlying34
  a31:=Tryd.isAgg34
  z31:=Tryd.sizeOf34
  v31:=Tryd.zeroValue34
  t46:=Tryd.underlying59
  a46:=Tryd.isAgg59
  z46:=Tryd.sizeOf59
  v46:=Tryd.zeroValue59
  t51:=Tryd.underlying120
  a51:=Tryd.isAgg120
  z51:=Tryd.sizeOf120
  v51:=Tryd.zeroValue120
  t105:=Tryd.underlying97
  a105:=Tryd.isAgg97
  z105:=Tryd.sizeOf97
  v105:=Tryd.zeroValue97
  t119:=Tryd.underlying129
  a119:=Tryd.isAgg129
  z119:=Tryd.sizeOf129
  t138:=Tryd.underlying131
  a138:=Tryd.isAgg131
  z138:=Tryd.sizeOf131
  v138:=Tryd.zeroValue131
  t139:=Tryd.underlying132
  a139:=Tryd.isAgg132
  z139:=Tryd.sizeOf132
  v139:=Tryd.zeroValue132
  t146:=Tryd.underlying121
  a146:=Tryd.isAgg121
  z146:=Tryd.sizeOf121
  v146:=Tryd.zeroValue121
  g1:=by kernel_rfl
  g3:=by kernel_rfl
  g4:=by kernel_rfl
  i0:=by kernel_rfl
  i3:=by kernel_rfl
  i4:=by kernel_rfl
  i5:=by kernel_rfl
  i9:=by kernel_rfl
  i21:=by kernel_rfl
  i31:=by kernel_rfl
  i46:=by kernel_rfl
  i51:=by kernel_rfl
  i105:=by kernel_rfl
  i138:=by kernel_rfl
  i139:=by kernel_rfl
  i146:=by kernel_rfl
  m1:=by kernel_rfl
  s1_3:=fun w h=>Go.Proofs.cell_of_shapedOpen_int (zero:=#[.int .i64 0]) (t:=3) h (of_decide_eq_true (by kernel_rfl)) (by kernel_rfl) rfl (by kernel_rfl) (by kernel_rfl) Tryd.underlying3
  m3:=by kernel_rfl
  m4:=by kernel_rfl }
open Go.RowKit Go.Lib in
theorem Tryd.strings_Split_shaped (s sep : ByteArray) (w : World) (h : w.ShapedOpen Tryd.prog) (hs : s.size < 4294967281) (h1 : 1 ≤ sep.size) :
    Calls Tryd.prog 14 #[.string s,.string sep] w fun e w' =>
      e=.returned (.slice (some ⟨w.heap.size,0,none⟩) (Lib.countB s sep+1) (Lib.countB s sep+1))∧w'=w.alloc (.cells ((Lib.splitB sep 0 (Lib.countB s sep) s).map Value.string).toArray 9):=Any.strings_Split_shaped Tryd.laysM146 s sep w h hs h1
def Tryd.laysM154_ren:Go.Shelf.Ren:=⟨fun | 154=>46 | 138=>12 | 165=>47 | 143=>38 | 166=>48 | 197=>62 | 169=>50 | 195=>36 | 218=>37 | 240=>63 | 241=>64 | 219=>55 | 260=>79 | 276=>80 | 277=>81 | 217=>71 | 225=>72 | 224=>73 | 267=>74 | 266=>88 | 314=>89 | n=>n,fun | 9=>9 | 3=>3 | 4=>4 | 72=>80 | 0=>0 | 76=>84 | 105=>97 | 21=>21 | 5=>5 | 70=>78 | 20=>20 | 37=>30 | 75=>83 | 127=>99 | 164=>108 | 46=>59 | 119=>129 | 139=>132 | 138=>131 | 146=>121 | 51=>120 | 80=>87 | n=>n,fun | 1=>0 | 3=>2 | 4=>3 | n=>n⟩
theorem Tryd.laysM154:Go.Proofs.LaysM.n154 Tryd.prog Tryd.laysM154_ren:={
  mixed:=by kernel_rfl
  f138:=Tryd.func12.trans (congrArg some (by kernel_rfl))
  f143:=Tryd.func38.trans (congrArg some (by kernel_rfl))
  f154:=Tryd.func46.trans (congrArg some (by kernel_rfl))
  f165:=Tryd.func47.trans (congrArg some (by kernel_rfl))
  f166:=Tryd.func48.trans (congrArg some (by kernel_rfl))
  f169:=Tryd.func50.trans (congrArg some (by kernel_rfl))
  f195:=Tryd.func36.trans (congrArg some (by kernel_rfl))
  f197:=Tryd.func62.trans (congrArg some (by kernel_rfl))
  f217:=Tryd.func71.trans (congrArg some (by kernel_rfl))
  f218:=Tryd.func37.trans (congrArg some (by kernel_rfl))
  f219:=Tryd.func55.trans (congrArg some (by kernel_rfl))
  f224:=Tryd.func73.trans (congrArg some (by kernel_rfl))
  f225:=Tryd.func72.trans (congrArg some (by kernel_rfl))
  f240:=Tryd.func63.trans (congrArg some (by kernel_rfl))
  f241:=Tryd.func64.trans (congrArg some (by kernel_rfl))
  f260:=Tryd.func79.trans (congrArg some (by kernel_rfl))
  f266:=Tryd.func88.trans (congrArg some (by kernel_rfl))
  f267:=Tryd.func74.trans (congrArg some (by kernel_rfl))
  f276:=Tryd.func80.trans (congrArg some (by kernel_rfl))
  f277:=Tryd.func81.trans (congrArg some (by kernel_rfl))
  f314:=Tryd.func89.trans (congrArg some (by kernel_rfl))
  t0:=Tryd.underlying0
  a0:=Tryd.isAgg0
  z0:=Tryd.sizeOf0
  v0:=Tryd.zeroValue0
  t3:=Tryd.underlying3
  a3:=Tryd.isAgg3
  z3:=Tryd.sizeOf3
  v3:=Tryd.zeroValue3
  t4:=Tryd.underlying4
  a4:=Tryd.isAgg4
  z4:=Tryd.sizeOf4
  v4:=Tryd.zeroValue4
  t5:=Tryd.underlying5
  a5:=Tryd.isAgg5
  z5:=Tryd.sizeOf5
  v5:=Tryd.zeroValue5
  t9:=Tryd.underlying9
  a9:=Tryd.isAgg9
  z9:=Tryd.sizeOf9
  v9:=Tryd.zeroValue9
  t20:=Tryd.underlying20
  a20:=Tryd.isAgg20
  z20:=Tryd.sizeOf20
  v20:=Tryd.zeroValue20
  t21:=Tryd.underlying21
  a21:=Tryd.isAgg21
  z21:=Tryd.sizeOf21
  v21:=Tryd.zeroValue21
  t37:=Tryd.underlying30
  a37:=Tryd.isAgg30
  z37:=Tryd.sizeOf30
  v37:=Tryd.zeroValue30
  t46:=Tryd.underlying59
  a46:=Tryd.isAgg59
  z46:=Tryd.sizeOf59
  v46:=Tryd.zeroValue59
  t51:=Tryd.underlying120
  a51:=Tryd.isAgg120
  z51:=Tryd.sizeOf120
  v51:=Tryd.zeroValue120
  t70:=Tryd.underlying78
  a70:=Tryd.isAgg78
  z70:=Tryd.sizeOf78
  v70:=Tryd.zeroValue78
  t72:=Tryd.underlying80
  a72:=Tryd.isAgg80
  z72:=Tryd.sizeOf80
  v72:=Tryd.zeroValue80
  t75:=Tryd.underlying83
  a75:=Tryd.isAgg83
  z75:=Tryd.sizeOf83
  v75:=Tryd.zeroValue83
  t76:=Tryd.underlying84
  a76:=Tryd.isAgg84
  z76:=Tryd.sizeOf84
  v76:=Tryd.zeroValue84
  t105:=Tryd.underlying97
  a105:=Tryd.isAgg97
  z105:=Tryd.sizeOf97
  v105:=Tryd.zeroValue97
  t119:=Tryd.underlying129
  a119:=Tryd.isAgg129
  z119:=Tryd.sizeOf129
  t127:=Tryd.underlying99
  a127:=Tryd.isAgg99
  z127:=Tryd.sizeOf99
  v127:=Tryd.zeroValue99
  t138:=Tryd.underlying131
  a138:=Tryd.isAgg131
  z138:=Tryd.sizeOf131
  v138:=Tryd.zeroValue131
  t139:=Tryd.underlying132
  a139:=Tryd.isAgg132
  z139:=Tryd.sizeOf132
  v139:=Tryd.zeroValue132
  t146:=Tryd.underlying121
  a146:=Tryd.isAgg121
  z146:=Tryd.sizeOf121
  v146:=Tryd.zeroValue121
  t164:=Tryd.underlying108
  a164:=Tryd.isAgg108
  z164:=Tryd.sizeOf108
  v164:=Tryd.zeroValue108
  g1:=by kernel_rfl
  g3:=by kernel_rfl
  g4:=by kernel_rfl
  t80:=Tryd.underlying87
  a80:=Tryd.isAgg87
  z80:=Tryd.sizeOf87
  v80:=Tryd.zeroValue87
  i0:=by kernel_rfl
  i3:=by kernel_rfl
  i4:=by kernel_rfl
  i5:=by kernel_rfl
  i9:=by kernel_rfl
  i20:=by kernel_rfl
  i21:=by kernel_rfl
  i37:=by kernel_rfl
  i46:=by kernel_rfl
  i51:=by kernel_rfl
  i70:=by kernel_rfl
  i72:=by kernel_rfl
  i75:=by kernel_rfl
  i76:=by kernel_rfl
  i80:=by kernel_rfl
  i105:=by kernel_rfl
  i127:=by kernel_rfl
  i138:=by kernel_rfl
  i139:=by kernel_rfl
  i146:=by kernel_rfl
  i164:=by kernel_rfl
  m1:=by kernel_rfl
  s1_3:=fun w h=>Go.Proofs.cell_of_shapedOpen_int (zero:=#[.int .i64 0]) (t:=3) h (of_decide_eq_true (by kernel_rfl)) (by kernel_rfl) rfl (by kernel_rfl) (by kernel_rfl) Tryd.underlying3
  m3:=by kernel_rfl
  m4:=by kernel_rfl }
theorem Tryd.Builder_Extra_M154:Builder.Extra Tryd.prog Tryd.laysM154_ren:={
  sizeBuilder:=by kernel_rfl
  liesBuilder:=by kernel_rfl
  t5:=Tryd.underlying5
  a5:=Tryd.isAgg5
  z5:=Tryd.sizeOf5
  v5:=Tryd.zeroValue5
  infoByte:=by kernel_rfl
  cellsByte:=by kernel_rfl
  sizeByte:=by kernel_rfl
  neB5:=by decide }
open Go.RowKit Go.Lib in
theorem Tryd.strings_Replace_shaped (s old new : ByteArray) (n : Int) (w : World) (h : w.ShapedOpen Tryd.prog) (hs : s.size < 4294967281) (h1 : 1 ≤ old.size) (hlen : s.size + Lib.countB s old * new.size ≤ 140737488355328) :
    Calls Tryd.prog 46 #[.string s,.string old,.string new,.int .i64 n] w fun e w' =>
      e=.returned (.string ⟨(Lib.replace s.data.toList old.data.toList new.data.toList n).toArray⟩)∧Below w.heap.size w w':=Any.strings_Replace_shaped Tryd.laysM154 Tryd.Builder_Extra_M154 s old new n w h hs h1 hlen
end Go.Proofs
