/- The contracts of Go's library that are used, at this program. -/
import Derived.Shelf.Strings.Builder1
import Derived.Shelf.Strings.Builder2
import Derived.Shelf.Strings.OnBuilder
import Derived.Shelf.Small.Wraps
import Derived.Shelf.Strings.BuilderF
import Derived.Shelf.Strings.BuilderK
import Derived.Shelf.Utf8.RuneCount
import Derived.Shelf.Strings.Builder2Cap
import Derived.Shelf.Strconv.Atoi
import Derived.Shelf.Strconv.Itoa0
import Derived.Shelf.Strconv.Itoa1
import Derived.Shelf.LaysM
import Derived.Shelf.Strconv.Itoa2
import Derived.Shelf.Strconv.Itoa3
import Derived.Shelf.Strconv.AtoiErrFast
import Derived.Shelf.Strconv.ParseIntEmpty
import Derived.Shelf.Strconv.AtoiFail
import Derived.Shelf.Strconv.Clone
import Derived.Shelf.Strconv.SyntaxError
import Derived.Shelf.LaysC
import Derived.Shelf.Strconv.ToError
import Derived.Shelf.Strconv.Lower
import Derived.Shelf.Strconv.ParseUint10
import Derived.Shelf.Strconv.ParseUint10Empty
import Derived.Shelf.Strconv.ParseUint10Any
import Derived.Shelf.Strconv.ParseInt10
import Derived.Shelf.Strconv.AtoiLong
import Derived.Shelf.Strconv.AtoiInnerAll
import Derived.Shelf.Strconv.RangeError
import Derived.Shelf.Strconv.ToErrorRange
import Derived.Shelf.Strconv.AtoiAll
import Derived.Shelf.Strconv.ErrVarAll
import Derived.Shelf.Strconv.ParseUintEmpty
import Derived.Shelf.Strconv.ParseUint10b64
import Derived.Shelf.Strconv.ParseUint10b32
import Derived.Shelf.Strconv.ParseUint10b16
import Derived.Shelf.Strconv.ParseUint10b8
import Derived.Shelf.Strconv.ParseUint10At
import Derived.Shelf.Strconv.ParseInt10At64
import Derived.Shelf.Strconv.ParseInt10At32
import Derived.Shelf.Strconv.ParseInt10At16
import Derived.Shelf.Strconv.ParseInt10At8
import Derived.Shelf.Strconv.ParseInt10All
import Derived.Shelf.Strings.Search1
import Derived.Shelf.Strings.Search2
import Derived.Shelf.Strings.Search3
import Derived.Shelf.Strings.Count
import Derived.Shelf.Strings.Shaped
import Derived.Shelf.Strings.Split
import Derived.Shelf.Strings.Fields
import Derived.Shelf.Strings.SplitShaped
import Derived.Shelf.Unicode.Latin
import Derived.Shelf.Unicode.Decode
import Derived.Shelf.Strings.RuneCount
import Derived.Shelf.Strings.Explode
import Derived.Shelf.Unicode.DecodeSlow
import Derived.Shelf.Unicode.DecodeAny
import Derived.Shelf.Unicode.Is16White
import Derived.Shelf.Unicode.IsSpaceAny
import Derived.Shelf.Unicode.Is16WhiteD
import Derived.Shelf.Unicode.IsSpaceAnyD
import Derived.Shelf.Strings.FieldsAny
import Derived.Shelf.Strings.FieldsFuncAny
import Derived.Shelf.Unicode.Is16Any
import Derived.Shelf.Unicode.Is32Any
import Derived.Shelf.Unicode.ExclAny
import Derived.Shelf.Slices.Turned
import Derived.Ground.Names2Prog
import Derived.Shelf.Slices.SearchI
import Derived.Test.YtghpknbkecolnaaDoorProg
namespace Go.Proofs
open Go.Shelf
def Tryd.lays156_ren:Go.Shelf.Ren:=⟨fun | 156=>36 | 165=>53 | 166=>54 | 169=>55 | 240=>67 | 241=>68 | 276=>78 | 277=>79 | n=>n,fun | 31=>44 | 9=>9 | 3=>3 | 4=>4 | 0=>0 | 20=>20 | 72=>92 | 76=>49 | 70=>90 | 37=>83 | 75=>48 | 127=>117 | 164=>128 | 5=>5 | 80=>94 | n=>n,fun | n=>n⟩
theorem Tryd.lays156:Go.Proofs.Lays.n156 Tryd.prog Tryd.lays156_ren:={
 mixed:=by kernel_rfl
 f156:=Tryd.func36.trans (congrArg some (by kernel_rfl))
 f165:=Tryd.func53.trans (congrArg some (by kernel_rfl))
 f166:=Tryd.func54.trans (congrArg some (by kernel_rfl))
 f169:=Tryd.func55.trans (congrArg some (by kernel_rfl))
 f240:=Tryd.func67.trans (congrArg some (by kernel_rfl))
 f241:=Tryd.func68.trans (congrArg some (by kernel_rfl))
 f276:=Tryd.func78.trans (congrArg some (by kernel_rfl))
 f277:=Tryd.func79.trans (congrArg some (by kernel_rfl))
 t0:=Tryd.underlying0
 a0:=Tryd.isAgg0
 z0:=Tryd.sizeOf0
 v0:=Tryd.zeroValue0
 t3:=Tryd.underlying3
 a3:=Tryd.isAgg3
 z3:=Tryd.sizeOf3
 v3:=Tryd.zeroValue3
 t4:=Tryd.underlying4
 a4:=Tryd.isAgg4
 z4:=Tryd.sizeOf4
 v4:=Tryd.zeroValue4
 t9:=Tryd.underlying9
 a9:=Tryd.isAgg9
 z9:=Tryd.sizeOf9
 v9:=Tryd.zeroValue9
 t20:=Tryd.underlying20
 a20:=Tryd.isAgg20
 z20:=Tryd.sizeOf20
 v20:=Tryd.zeroValue20
 t31:=Tryd.underlying44
 a31:=Tryd.isAgg44
 z31:=Tryd.sizeOf44
 v31:=Tryd.zeroValue44
 t37:=Tryd.underlying83
 a37:=Tryd.isAgg83
 z37:=Tryd.sizeOf83
 v37:=Tryd.zeroValue83
 t70:=Tryd.underlying90
 a70:=Tryd.isAgg90
 z70:=Tryd.sizeOf90
 v70:=Tryd.zeroValue90
 t72:=Tryd.underlying92
 a72:=Tryd.isAgg92
 z72:=Tryd.sizeOf92
 v72:=Tryd.zeroValue92
 t75:=Tryd.underlying48
 a75:=Tryd.isAgg48
 z75:=Tryd.sizeOf48
 v75:=Tryd.zeroValue48
 t76:=Tryd.underlying49
 a76:=Tryd.isAgg49
 z76:=Tryd.sizeOf49
 v76:=Tryd.zeroValue49
 t127:=Tryd.underlying117
 a127:=Tryd.isAgg117
 z127:=Tryd.sizeOf117
 v127:=Tryd.zeroValue117
 t164:=Tryd.underlying128
 a164:=Tryd.isAgg128
 z164:=Tryd.sizeOf128
 v164:=Tryd.zeroValue128 }
theorem Tryd.Builder_Extra_156:Builder.Extra Tryd.prog Tryd.lays156_ren:={
 sizeBuilder:=by kernel_rfl
 liesBuilder:=by kernel_rfl
 t5:=Tryd.underlying5
 a5:=Tryd.isAgg5
 z5:=Tryd.sizeOf5
 v5:=Tryd.zeroValue5
 infoByte:=by kernel_rfl
 cellsByte:=by kernel_rfl
 sizeByte:=by kernel_rfl
 neB5:=by decide }
open Go.RowKit in
theorem Tryd.strings_Join_none (a : Option Addr) (c : Nat) (sep : ByteArray) (w : World) :
  Calls Tryd.prog 36 #[.slice a 0 c,.string sep] w fun e w'=>e=.returned (.string ⟨#[]⟩)∧w'=w:=Any.strings_Join_none Tryd.lays156 Tryd.Builder_Extra_156 a c sep w
open Go.RowKit in
theorem Tryd.strings_Join (bk o c : Nat) (xs : List ByteArray) (sep : ByteArray) (w : World) (hcells : ∀ (j : Nat) x, xs[j]? = some x → w.cell? ⟨bk, o + j, none⟩ = some (.string x)) (hbk : bk < w.heap.size) (hN : xs.length ≤ 140737488355328) (hcap : xs.length ≤ c) (hlen : (Lib.join (xs.map (·.data.toList)) sep.data.toList).length ≤ 140737488355328) :
  Calls Tryd.prog 36 #[.slice (some ⟨bk,o,none⟩) xs.length c,.string sep] w fun e w'=>e=.returned (.string ⟨(Lib.join (xs.map (·.data.toList)) sep.data.toList).toArray⟩)∧Below w.heap.size w w':=Any.strings_Join Tryd.lays156 Tryd.Builder_Extra_156 bk o c xs sep w hcells hbk hN hcap hlen
def Tryd.laysM171_ren:Go.Shelf.Ren:=⟨fun | 171=>52 | 243=>66 | 246=>77 | 283=>82 | 284=>83 | 285=>84 | 286=>85 | 129=>87 | 317=>86 | 318=>88 | 319=>89 | 320=>90 | 337=>91 | 338=>92 | n=>n,fun | 3=>3 | 9=>9 | 2=>2 | 4=>4 | 171=>136 | 0=>0 | 53=>110 | 37=>83 | 5=>5 | 173=>139 | 212=>142 | 51=>77 | 20=>20 | 213=>143 | 46=>71 | 232=>146 | 233=>147 | n=>n,fun | 17=>7 | 18=>8 | 19=>9 | n=>n⟩
theorem Tryd.laysM171:Go.Proofs.LaysM.n171 Tryd.prog Tryd.laysM171_ren:={
 mixed:=by kernel_rfl
 f129:=Tryd.func87.trans (congrArg some (by kernel_rfl))
 f171:=Tryd.func52.trans (congrArg some (by kernel_rfl))
 f243:=Tryd.func66.trans (congrArg some (by kernel_rfl))
 f246:=Tryd.func77.trans (congrArg some (by kernel_rfl))
 f283:=Tryd.func82.trans (congrArg some (by kernel_rfl))
 f284:=Tryd.func83.trans (congrArg some (by kernel_rfl))
 f285:=Tryd.func84.trans (congrArg some (by kernel_rfl))
 f286:=Tryd.func85.trans (congrArg some (by kernel_rfl))
 f317:=Tryd.func86.trans (congrArg some (by kernel_rfl))
 f318:=Tryd.func88.trans (congrArg some (by kernel_rfl))
 f319:=Tryd.func89.trans (congrArg some (by kernel_rfl))
 f320:=Tryd.func90.trans (congrArg some (by kernel_rfl))
 f337:=Tryd.func91.trans (congrArg some (by kernel_rfl))
 f338:=Tryd.func92.trans (congrArg some (by kernel_rfl))
 t0:=Tryd.underlying0
 a0:=Tryd.isAgg0
 z0:=Tryd.sizeOf0
 v0:=Tryd.zeroValue0
 t2:=Tryd.underlying2
 a2:=Tryd.isAgg2
 z2:=Tryd.sizeOf2
 v2:=Tryd.zeroValue2
 t3:=Tryd.underlying3
 a3:=Tryd.isAgg3
 z3:=Tryd.sizeOf3
 v3:=Tryd.zeroValue3
 t4:=Tryd.underlying4
 a4:=Tryd.isAgg4
 z4:=Tryd.sizeOf4
 v4:=Tryd.zeroValue4
 t5:=Tryd.underlying5
 a5:=Tryd.isAgg5
 z5:=Tryd.sizeOf5
 v5:=Tryd.zeroValue5
 t9:=Tryd.underlying9
 a9:=Tryd.isAgg9
 z9:=Tryd.sizeOf9
 v9:=Tryd.zeroValue9
 t20:=Tryd.underlying20
 a20:=Tryd.isAgg20
 z20:=Tryd.sizeOf20
 v20:=Tryd.zeroValue20
 t37:=Tryd.underlying83
 a37:=Tryd.isAgg83
 z37:=Tryd.sizeOf83
 v37:=Tryd.zeroValue83
 t46:=Tryd.underlying71
 a46:=Tryd.isAgg71
 z46:=Tryd.sizeOf71
 v46:=Tryd.zeroValue71
 t51:=Tryd.underlying77
 a51:=Tryd.isAgg77
 z51:=Tryd.sizeOf77
 v51:=Tryd.zeroValue77
 t53:=Tryd.underlying110
 a53:=Tryd.isAgg110
 z53:=Tryd.sizeOf110
 v53:=Tryd.zeroValue110
 t171:=Tryd.underlying136
 a171:=Tryd.isAgg136
 z171:=Tryd.sizeOf136
 v171:=Tryd.zeroValue136
 t173:=Tryd.underlying139
 a173:=Tryd.isAgg139
 z173:=Tryd.sizeOf139
 v173:=Tryd.zeroValue139
 t212:=Tryd.underlying142
 a212:=Tryd.isAgg142
 z212:=Tryd.sizeOf142
 v212:=Tryd.zeroValue142
 t213:=Tryd.underlying143
 a213:=Tryd.isAgg143
 z213:=Tryd.sizeOf143
 t232:=Tryd.underlying146
 a232:=Tryd.isAgg146
 z232:=Tryd.sizeOf146
 v232:=Tryd.zeroValue146
 t233:=Tryd.underlying147
 a233:=Tryd.isAgg147
 z233:=Tryd.sizeOf147
 v233:=Tryd.zeroValue147
 g17:=by kernel_rfl
 g18:=by kernel_rfl
 g19:=by kernel_rfl
 i0:=by kernel_rfl
 i2:=by kernel_rfl
 i3:=by kernel_rfl
 i4:=by kernel_rfl
 i5:=by kernel_rfl
 i9:=by kernel_rfl
 i20:=by kernel_rfl
 i37:=by kernel_rfl
 i46:=by kernel_rfl
 i51:=by kernel_rfl
 i53:=by kernel_rfl
 i171:=by kernel_rfl
 i173:=by kernel_rfl
 i212:=by kernel_rfl
 i232:=by kernel_rfl
 i233:=by kernel_rfl
 m17:=by kernel_rfl
 m18:=by kernel_rfl
 m19:=by kernel_rfl }
open Go.RowKit Go.Sort Go.Lib in
theorem Tryd.strconv_Itoa (n : Int) (h0 : -9223372036854775808 ≤ n) (h1 : n ≤ 9223372036854775807) (w : World) (htab : Lib.TabIs Tryd.prog w "internal/strconv.uint64pow10" .u64 Lib.pow10Tab) :
  Calls Tryd.prog 52 #[.int .i64 n] w fun e w'=>e=.returned (.string ⟨(Lib.itoa n).toArray⟩)∧∃ k os,w'=grow (w.drewN k) os:=Any.strconv_Itoa Tryd.laysM171 n h0 h1 w htab
def Tryd.laysC172_ren:Go.Shelf.Ren:=⟨fun | 172=>17 | 244=>30 | 245=>31 | 247=>47 | 279=>48 | 280=>49 | 281=>50 | 282=>51 | 287=>63 | 316=>64 | 171=>52 | 205=>65 | 321=>75 | 322=>76 | 243=>66 | 246=>77 | 283=>82 | 284=>83 | 285=>84 | 286=>85 | 129=>87 | 317=>86 | 318=>88 | 319=>89 | 320=>90 | 337=>91 | 338=>92 | n=>n,fun | 9=>9 | 3=>3 | 75=>48 | 76=>49 | 4=>4 | 5=>5 | 167=>82 | 37=>83 | 0=>0 | 85=>84 | 2=>2 | 168=>86 | 53=>110 | 175=>111 | 46=>71 | 210=>115 | 127=>117 | 145=>126 | 143=>124 | 21=>21 | 171=>136 | 173=>139 | 212=>142 | 51=>77 | 20=>20 | 213=>143 | 232=>146 | 233=>147 | 80=>94 | n=>n,fun | 15=>2 | 16=>3 | 17=>7 | 18=>8 | 19=>9 | n=>n⟩
theorem Tryd.laysC172:Go.Proofs.LaysC.n172 Tryd.prog Tryd.laysC172_ren:={
 mixed:=by kernel_rfl
 f129:=Tryd.func87.trans (congrArg some (by kernel_rfl))
 f171:=Tryd.func52.trans (congrArg some (by kernel_rfl))
 f172:=Tryd.func17.trans (congrArg some (by kernel_rfl))
 f205:=Tryd.func65.trans (congrArg some (by kernel_rfl))
 f243:=Tryd.func66.trans (congrArg some (by kernel_rfl))
 f244:=Tryd.func30.trans (congrArg some (by kernel_rfl))
 f245:=Tryd.func31.trans (congrArg some (by kernel_rfl))
 f246:=Tryd.func77.trans (congrArg some (by kernel_rfl))
 f247:=Tryd.func47.trans (congrArg some (by kernel_rfl))
 f279:=Tryd.func48.trans (congrArg some (by kernel_rfl))
 f280:=Tryd.func49.trans (congrArg some (by kernel_rfl))
 f281:=Tryd.func50.trans (congrArg some (by kernel_rfl))
 f282:=Tryd.func51.trans (congrArg some (by kernel_rfl))
 f283:=Tryd.func82.trans (congrArg some (by kernel_rfl))
 f284:=Tryd.func83.trans (congrArg some (by kernel_rfl))
 f285:=Tryd.func84.trans (congrArg some (by kernel_rfl))
 f286:=Tryd.func85.trans (congrArg some (by kernel_rfl))
 f287:=Tryd.func63.trans (congrArg some (by kernel_rfl))
 f316:=Tryd.func64.trans (congrArg some (by kernel_rfl))
 f317:=Tryd.func86.trans (congrArg some (by kernel_rfl))
 f318:=Tryd.func88.trans (congrArg some (by kernel_rfl))
 f319:=Tryd.func89.trans (congrArg some (by kernel_rfl))
 f320:=Tryd.func90.trans (congrArg some (by kernel_rfl))
 f321:=Tryd.func75.trans (congrArg some (by kernel_rfl))
 f322:=Tryd.func76.trans (congrArg some (by kernel_rfl))
 f337:=Tryd.func91.trans (congrArg some (by kernel_rfl))
 f338:=Tryd.func92.trans (congrArg some (by kernel_rfl))
 t0:=Tryd.underlying0
 a0:=Tryd.isAgg0
 z0:=Tryd.sizeOf0
 v0:=Tryd.zeroValue0
 t2:=Tryd.underlying2
 a2:=Tryd.isAgg2
 z2:=Tryd.sizeOf2
 v2:=Tryd.zeroValue2
 t3:=Tryd.underlying3
 a3:=Tryd.isAgg3
 z3:=Tryd.sizeOf3
 v3:=Tryd.zeroValue3
 t4:=Tryd.underlying4
 a4:=Tryd.isAgg4
 z4:=Tryd.sizeOf4
 v4:=Tryd.zeroValue4
 t5:=Tryd.underlying5
 a5:=Tryd.isAgg5
 z5:=Tryd.sizeOf5
 v5:=Tryd.zeroValue5
 t9:=Tryd.underlying9
 a9:=Tryd.isAgg9
 z9:=Tryd.sizeOf9
 v9:=Tryd.zeroValue9
 t20:=Tryd.underlying20
 a20:=Tryd.isAgg20
 z20:=Tryd.sizeOf20
 v20:=Tryd.zeroValue20
 t21:=Tryd.underlying21
 a21:=Tryd.isAgg21
 z21:=Tryd.sizeOf21
 v21:=Tryd.zeroValue21
 t37:=Tryd.underlying83
 a37:=Tryd.isAgg83
 z37:=Tryd.sizeOf83
 v37:=Tryd.zeroValue83
 t46:=Tryd.underlying71
 a46:=Tryd.isAgg71
 z46:=Tryd.sizeOf71
 v46:=Tryd.zeroValue71
 t51:=Tryd.underlying77
 a51:=Tryd.isAgg77
 z51:=Tryd.sizeOf77
 v51:=Tryd.zeroValue77
 t53:=Tryd.underlying110
 a53:=Tryd.isAgg110
 z53:=Tryd.sizeOf110
 v53:=Tryd.zeroValue110
 t75:=Tryd.underlying48
 a75:=Tryd.isAgg48
 z75:=Tryd.sizeOf48
 v75:=Tryd.zeroValue48
 t76:=Tryd.underlying49
 a76:=Tryd.isAgg49
 z76:=Tryd.sizeOf49
 v76:=Tryd.zeroValue49
 t85:=Tryd.underlying84
 a85:=Tryd.isAgg84
 z85:=Tryd.sizeOf84
 v85:=Tryd.zeroValue84
 t127:=Tryd.underlying117
 a127:=Tryd.isAgg117
 z127:=Tryd.sizeOf117
 v127:=Tryd.zeroValue117
 t143:=Tryd.underlying124
 a143:=Tryd.isAgg124
 z143:=Tryd.sizeOf124
 v143:=Tryd.zeroValue124
 t145:=Tryd.underlying126
 a145:=Tryd.isAgg126
 z145:=Tryd.sizeOf126
 v145:=Tryd.zeroValue126
 t167:=Tryd.underlying82
 a167:=Tryd.isAgg82
 z167:=Tryd.sizeOf82
 v167:=Tryd.zeroValue82
 t168:=Tryd.underlying86
 a168:=Tryd.isAgg86
 z168:=Tryd.sizeOf86
 v168:=Tryd.zeroValue86
 t171:=Tryd.underlying136
 a171:=Tryd.isAgg136
 z171:=Tryd.sizeOf136
 v171:=Tryd.zeroValue136
 t173:=Tryd.underlying139
 a173:=Tryd.isAgg139
 z173:=Tryd.sizeOf139
 v173:=Tryd.zeroValue139
 t175:=Tryd.underlying111
 a175:=Tryd.isAgg111
 z175:=Tryd.sizeOf111
 v175:=Tryd.zeroValue111
 t210:=Tryd.underlying115
 a210:=Tryd.isAgg115
 z210:=Tryd.sizeOf115
 v210:=Tryd.zeroValue115
 t212:=Tryd.underlying142
 a212:=Tryd.isAgg142
 z212:=Tryd.sizeOf142
 v212:=Tryd.zeroValue142
 t213:=Tryd.underlying143
 a213:=Tryd.isAgg143
 z213:=Tryd.sizeOf143
 t232:=Tryd.underlying146
 a232:=Tryd.isAgg146
 z232:=Tryd.sizeOf146
 v232:=Tryd.zeroValue146
 t233:=Tryd.underlying147
 a233:=Tryd.isAgg147
 z233:=Tryd.sizeOf147
 v233:=Tryd.zeroValue147
 g15:=by kernel_rfl
 g16:=by kernel_rfl
 g17:=by kernel_rfl
 g18:=by kernel_rfl
 g19:=by kernel_rfl
 t80:=Tryd.underlying94
 a80:=Tryd.isAgg94
 z80:=Tryd.sizeOf94
 v80:=Tryd.zeroValue94
 i0:=by kernel_rfl
 i2:=by kernel_rfl
 i3:=by kernel_rfl
 i4:=by kernel_rfl
 i5:=by kernel_rfl
 i9:=by kernel_rfl
 i20:=by kernel_rfl
 i21:=by kernel_rfl
 i37:=by kernel_rfl
 i46:=by kernel_rfl
 i51:=by kernel_rfl
 i53:=by kernel_rfl
 i75:=by kernel_rfl
 i76:=by kernel_rfl
 i80:=by kernel_rfl
 i85:=by kernel_rfl
 i127:=by kernel_rfl
 i143:=by kernel_rfl
 i145:=by kernel_rfl
 i167:=by kernel_rfl
 i168:=by kernel_rfl
 i171:=by kernel_rfl
 i173:=by kernel_rfl
 i175:=by kernel_rfl
 i210:=by kernel_rfl
 i212:=by kernel_rfl
 i232:=by kernel_rfl
 i233:=by kernel_rfl
 m15:=by kernel_rfl
 m16:=by kernel_rfl
 m17:=by kernel_rfl
 m18:=by kernel_rfl
 m19:=by kernel_rfl
 c0:=by kernel_rfl
 c2:=by kernel_rfl
 c3:=by kernel_rfl
 c4:=by kernel_rfl
 c5:=by kernel_rfl
 c9:=by kernel_rfl
 c20:=by kernel_rfl
 c21:=by kernel_rfl
 c37:=by kernel_rfl
 c46:=by kernel_rfl
 c51:=by kernel_rfl
 c53:=by kernel_rfl
 c75:=by kernel_rfl
 c76:=by kernel_rfl
 c80:=by kernel_rfl
 c85:=by kernel_rfl
 c127:=by kernel_rfl
 c143:=by kernel_rfl
 c145:=by kernel_rfl
 c167:=by kernel_rfl
 c168:=by kernel_rfl
 c171:=by kernel_rfl
 c173:=by kernel_rfl
 c175:=by kernel_rfl
 c210:=by kernel_rfl
 c212:=by kernel_rfl
 c213:=by kernel_rfl
 c232:=by kernel_rfl
 c233:=by kernel_rfl }
open Go.RowKit in
theorem Tryd.strconv_Atoi_ok (s : ByteArray) (hmax : s.size ≤ 9223372036854775806) (v : Int) (h : Lib.atoiAll s.data.toList = .ok v) (w : World) :
  Calls Tryd.prog 17 #[.string s] w fun e w'=>e=.returned (.tuple #[.int .i64 v,.nilIface])∧(w'=w∨∃ t,w'=Lib.bytesWorld w 5 t):=Any.strconv_Atoi_ok Tryd.laysC172 s hmax v h w
open Go.RowKit in
theorem Tryd.strconv_Atoi_syntax_var (s : ByteArray) (hlim : s.size ≤ 281474976710656) (h : Lib.atoiAll s.data.toList = Lib.atoiAll []) (tp : TypeId) (p : Value) (w : World) (hvar : w.var? Tryd.prog "strconv.ErrSyntax" = some #[.iface tp p]) :
  Calls Tryd.prog 17 #[.string s] w fun e w'=>∃ N,e=.returned (.tuple #[.int .i64 0,.iface 86 (.pointer (some ⟨N,0,none⟩))])∧w.heap.size≤N∧w'.heap[N]?=some (.cells #[.string ⟨#[65,116,111,105]⟩,.string s,.iface tp p] 115 (0,0))∧Below w.heap.size w w':=Any.strconv_Atoi_syntax_var Tryd.laysC172 s hlim h tp p w hvar
open Go.RowKit in
theorem Tryd.strconv_Atoi_range_var (s : ByteArray) (hlim : s.size ≤ 281474976710656) (h : Lib.atoiAll s.data.toList = .range) (tp : TypeId) (p : Value) (w : World) (hvar : w.var? Tryd.prog "strconv.ErrRange" = some #[.iface tp p]) :
  Calls Tryd.prog 17 #[.string s] w fun e w'=>∃ N,e=.returned (.tuple #[.int .i64 (Lib.atoiSat s.data.toList),.iface 86 (.pointer (some ⟨N,0,none⟩))])∧w.heap.size≤N∧w'.heap[N]?=some (.cells #[.string ⟨#[65,116,111,105]⟩,.string s,.iface tp p] 115 (0,0))∧Below w.heap.size w w':=Any.strconv_Atoi_range_var Tryd.laysC172 s hlim h tp p w hvar
def Tryd.lays157_ren:Go.Shelf.Ren:=⟨fun | 157=>15 | 229=>27 | 199=>28 | 261=>43 | 311=>57 | 312=>58 | n=>n,fun | 9=>9 | 31=>44 | 3=>3 | 5=>5 | 4=>4 | 119=>59 | 0=>0 | 40=>61 | 152=>74 | 21=>21 | 154=>76 | 51=>77 | 141=>79 | 196=>98 | 193=>95 | 198=>101 | 49=>99 | 194=>96 | 201=>104 | 226=>119 | 46=>71 | 227=>120 | n=>n,fun | 0=>0 | 6=>1 | n=>n⟩
theorem Tryd.lays157:Go.Proofs.Lays.n157 Tryd.prog Tryd.lays157_ren:={
 mixed:=by kernel_rfl
 f157:=Tryd.func15.trans (congrArg some (by kernel_rfl))
 f199:=Tryd.func28.trans (congrArg some (by kernel_rfl))
 f229:=Tryd.func27.trans (congrArg some (by kernel_rfl))
 f261:=Tryd.func43.trans (congrArg some (by kernel_rfl))
 f311:=Tryd.func57.trans (congrArg some (by kernel_rfl))
 f312:=Tryd.func58.trans (congrArg some (by kernel_rfl))
 t0:=Tryd.underlying0
 a0:=Tryd.isAgg0
 z0:=Tryd.sizeOf0
 v0:=Tryd.zeroValue0
 t3:=Tryd.underlying3
 a3:=Tryd.isAgg3
 z3:=Tryd.sizeOf3
 v3:=Tryd.zeroValue3
 t4:=Tryd.underlying4
 a4:=Tryd.isAgg4
 z4:=Tryd.sizeOf4
 v4:=Tryd.zeroValue4
 t5:=Tryd.underlying5
 a5:=Tryd.isAgg5
 z5:=Tryd.sizeOf5
 v5:=Tryd.zeroValue5
 t9:=Tryd.underlying9
 a9:=Tryd.isAgg9
 z9:=Tryd.sizeOf9
 v9:=Tryd.zeroValue9
 t21:=Tryd.underlying21
 a21:=Tryd.isAgg21
 z21:=Tryd.sizeOf21
 v21:=Tryd.zeroValue21
 t31:=Tryd.underlying44
 a31:=Tryd.isAgg44
 z31:=Tryd.sizeOf44
 v31:=Tryd.zeroValue44
 t40:=Tryd.underlying61
 a40:=Tryd.isAgg61
 z40:=Tryd.sizeOf61
 v40:=Tryd.zeroValue61
 t46:=Tryd.underlying71
 a46:=Tryd.isAgg71
 z46:=Tryd.sizeOf71
 v46:=Tryd.zeroValue71
 t49:=Tryd.underlying99
 a49:=Tryd.isAgg99
 z49:=Tryd.sizeOf99
 v49:=Tryd.zeroValue99
 t51:=Tryd.underlying77
 a51:=Tryd.isAgg77
 z51:=Tryd.sizeOf77
 v51:=Tryd.zeroValue77
 t119:=Tryd.underlying59
 a119:=Tryd.isAgg59
 z119:=Tryd.sizeOf59
 t141:=Tryd.underlying79
 a141:=Tryd.isAgg79
 z141:=Tryd.sizeOf79
 v141:=Tryd.zeroValue79
 t152:=Tryd.underlying74
 a152:=Tryd.isAgg74
 z152:=Tryd.sizeOf74
 v152:=Tryd.zeroValue74
 t154:=Tryd.underlying76
 a154:=Tryd.isAgg76
 z154:=Tryd.sizeOf76
 v154:=Tryd.zeroValue76
 t193:=Tryd.underlying95
 a193:=Tryd.isAgg95
 z193:=Tryd.sizeOf95
 v193:=Tryd.zeroValue95
 t194:=Tryd.underlying96
 a194:=Tryd.isAgg96
 z194:=Tryd.sizeOf96
 v194:=Tryd.zeroValue96
 t196:=Tryd.underlying98
 a196:=Tryd.isAgg98
 z196:=Tryd.sizeOf98
 v196:=Tryd.zeroValue98
 t198:=Tryd.underlying101
 a198:=Tryd.isAgg101
 z198:=Tryd.sizeOf101
 v198:=Tryd.zeroValue101
 t201:=Tryd.underlying104
 a201:=Tryd.isAgg104
 z201:=Tryd.sizeOf104
 v201:=Tryd.zeroValue104
 t226:=Tryd.underlying119
 a226:=Tryd.isAgg119
 z226:=Tryd.sizeOf119
 v226:=Tryd.zeroValue119
 t227:=Tryd.underlying120
 a227:=Tryd.isAgg120
 z227:=Tryd.sizeOf120
 v227:=Tryd.zeroValue120
 g0:=by kernel_rfl
 g6:=by kernel_rfl }
def Tryd.laysM146_ren:Go.Shelf.Ren:=⟨fun | 146=>16 | 221=>29 | 268=>44 | 138=>45 | 143=>46 | 195=>59 | 197=>60 | 218=>61 | 219=>62 | 260=>70 | 217=>71 | 225=>72 | 224=>73 | 267=>74 | 266=>80 | 314=>81 | n=>n,fun | 9=>9 | 31=>44 | 3=>3 | 4=>4 | 0=>0 | 105=>107 | 21=>21 | 5=>5 | 46=>71 | 119=>59 | 139=>133 | 138=>132 | 146=>134 | 51=>77 | n=>n,fun | 1=>4 | 3=>5 | 4=>6 | n=>n⟩
theorem Tryd.laysM146:Go.Proofs.LaysM.n146 Tryd.prog Tryd.laysM146_ren:={
 mixed:=by kernel_rfl
 f138:=Tryd.func45.trans (congrArg some (by kernel_rfl))
 f143:=Tryd.func46.trans (congrArg some (by kernel_rfl))
 f146:=Tryd.func16.trans (congrArg some (by kernel_rfl))
 f195:=Tryd.func59.trans (congrArg some (by kernel_rfl))
 f197:=Tryd.func60.trans (congrArg some (by kernel_rfl))
 f217:=Tryd.func71.trans (congrArg some (by kernel_rfl))
 f218:=Tryd.func61.trans (congrArg some (by kernel_rfl))
 f219:=Tryd.func62.trans (congrArg some (by kernel_rfl))
 f221:=Tryd.func29.trans (congrArg some (by kernel_rfl))
 f224:=Tryd.func73.trans (congrArg some (by kernel_rfl))
 f225:=Tryd.func72.trans (congrArg some (by kernel_rfl))
 f260:=Tryd.func70.trans (congrArg some (by kernel_rfl))
 f266:=Tryd.func80.trans (congrArg some (by kernel_rfl))
 f267:=Tryd.func74.trans (congrArg some (by kernel_rfl))
 f268:=Tryd.func44.trans (congrArg some (by kernel_rfl))
 f314:=Tryd.func81.trans (congrArg some (by kernel_rfl))
 t0:=Tryd.underlying0
 a0:=Tryd.isAgg0
 z0:=Tryd.sizeOf0
 v0:=Tryd.zeroValue0
 t3:=Tryd.underlying3
 a3:=Tryd.isAgg3
 z3:=Tryd.sizeOf3
 v3:=Tryd.zeroValue3
 t4:=Tryd.underlying4
 a4:=Tryd.isAgg4
 z4:=Tryd.sizeOf4
 v4:=Tryd.zeroValue4
 t5:=Tryd.underlying5
 a5:=Tryd.isAgg5
 z5:=Tryd.sizeOf5
 v5:=Tryd.zeroValue5
 t9:=Tryd.underlying9
 a9:=Tryd.isAgg9
 z9:=Tryd.sizeOf9
 v9:=Tryd.zeroValue9
 t21:=Tryd.underlying21
 a21:=Tryd.isAgg21
 z21:=Tryd.sizeOf21
 v21:=Tryd.zeroValue21
 t31:=Tryd.underlying44
 a31:=Tryd.isAgg44
 z31:=Tryd.sizeOf44
 v31:=Tryd.zeroValue44
 t46:=Tryd.underlying71
 a46:=Tryd.isAgg71
 z46:=Tryd.sizeOf71
 v46:=Tryd.zeroValue71
 t51:=Tryd.underlying77
 a51:=Tryd.isAgg77
 z51:=Tryd.sizeOf77
 v51:=Tryd.zeroValue77
 t105:=Tryd.underlying107
 a105:=Tryd.isAgg107
 z105:=Tryd.sizeOf107
 v105:=Tryd.zeroValue107
 t119:=Tryd.underlying59
 a119:=Tryd.isAgg59
 z119:=Tryd.sizeOf59
 t138:=Tryd.underlying132
 a138:=Tryd.isAgg132
 z138:=Tryd.sizeOf132
 v138:=Tryd.zeroValue132
 t139:=Tryd.underlying133
 a139:=Tryd.isAgg133
 z139:=Tryd.sizeOf133
 v139:=Tryd.zeroValue133
 t146:=Tryd.underlying134
 a146:=Tryd.isAgg134
 z146:=Tryd.sizeOf134
 v146:=Tryd.zeroValue134
 g1:=by kernel_rfl
 g3:=by kernel_rfl
 g4:=by kernel_rfl
 i0:=by kernel_rfl
 i3:=by kernel_rfl
 i4:=by kernel_rfl
 i5:=by kernel_rfl
 i9:=by kernel_rfl
 i21:=by kernel_rfl
 i31:=by kernel_rfl
 i46:=by kernel_rfl
 i51:=by kernel_rfl
 i105:=by kernel_rfl
 i138:=by kernel_rfl
 i139:=by kernel_rfl
 i146:=by kernel_rfl
 m1:=by kernel_rfl
 s1_3:=fun w h=>Go.Proofs.cell_of_shapedOpen_int (zero:=#[.int .i64 0]) (t:=3) h (of_decide_eq_true (by kernel_rfl)) (by kernel_rfl) rfl (by kernel_rfl) (by kernel_rfl) Tryd.underlying3
 m3:=by kernel_rfl
 m4:=by kernel_rfl }
open Go.RowKit Go.Lib in
theorem Tryd.strings_Split_shaped (s sep : ByteArray) (w : World) (h : w.ShapedOpen Tryd.prog) (hs : s.size < 4294967281) (h1 : 1 ≤ sep.size) :
  Calls Tryd.prog 16 #[.string s,.string sep] w fun e w' =>
   e=.returned (.slice (some ⟨w.heap.size,0,none⟩) (Lib.countB s sep+1) (Lib.countB s sep+1))∧w'=w.alloc (.cells ((Lib.splitB sep 0 (Lib.countB s sep) s).map Value.string).toArray 9):=Any.strings_Split_shaped Tryd.laysM146 s sep w h hs h1
def Tryd.lays199_ren:Go.Shelf.Ren:=⟨fun | 199=>28 | 261=>43 | 311=>57 | 312=>58 | n=>n,fun | 21=>21 | 4=>4 | 51=>77 | 141=>79 | 0=>0 | 196=>98 | 193=>95 | 3=>3 | 198=>101 | 49=>99 | 194=>96 | 201=>104 | 226=>119 | 46=>71 | 227=>120 | n=>n,fun | 6=>1 | n=>n⟩
theorem Tryd.lays199:Go.Proofs.Lays.n199 Tryd.prog Tryd.lays199_ren:={
 mixed:=by kernel_rfl
 f199:=Tryd.func28.trans (congrArg some (by kernel_rfl))
 f261:=Tryd.func43.trans (congrArg some (by kernel_rfl))
 f311:=Tryd.func57.trans (congrArg some (by kernel_rfl))
 f312:=Tryd.func58.trans (congrArg some (by kernel_rfl))
 t0:=Tryd.underlying0
 a0:=Tryd.isAgg0
 z0:=Tryd.sizeOf0
 v0:=Tryd.zeroValue0
 t3:=Tryd.underlying3
 a3:=Tryd.isAgg3
 z3:=Tryd.sizeOf3
 v3:=Tryd.zeroValue3
 t4:=Tryd.underlying4
 a4:=Tryd.isAgg4
 z4:=Tryd.sizeOf4
 v4:=Tryd.zeroValue4
 t21:=Tryd.underlying21
 a21:=Tryd.isAgg21
 z21:=Tryd.sizeOf21
 v21:=Tryd.zeroValue21
 t46:=Tryd.underlying71
 a46:=Tryd.isAgg71
 z46:=Tryd.sizeOf71
 v46:=Tryd.zeroValue71
 t49:=Tryd.underlying99
 a49:=Tryd.isAgg99
 z49:=Tryd.sizeOf99
 v49:=Tryd.zeroValue99
 t51:=Tryd.underlying77
 a51:=Tryd.isAgg77
 z51:=Tryd.sizeOf77
 v51:=Tryd.zeroValue77
 t141:=Tryd.underlying79
 a141:=Tryd.isAgg79
 z141:=Tryd.sizeOf79
 v141:=Tryd.zeroValue79
 t193:=Tryd.underlying95
 a193:=Tryd.isAgg95
 z193:=Tryd.sizeOf95
 v193:=Tryd.zeroValue95
 t194:=Tryd.underlying96
 a194:=Tryd.isAgg96
 z194:=Tryd.sizeOf96
 v194:=Tryd.zeroValue96
 t196:=Tryd.underlying98
 a196:=Tryd.isAgg98
 z196:=Tryd.sizeOf98
 v196:=Tryd.zeroValue98
 t198:=Tryd.underlying101
 a198:=Tryd.isAgg101
 z198:=Tryd.sizeOf101
 v198:=Tryd.zeroValue101
 t201:=Tryd.underlying104
 a201:=Tryd.isAgg104
 z201:=Tryd.sizeOf104
 v201:=Tryd.zeroValue104
 t226:=Tryd.underlying119
 a226:=Tryd.isAgg119
 z226:=Tryd.sizeOf119
 v226:=Tryd.zeroValue119
 t227:=Tryd.underlying120
 a227:=Tryd.isAgg120
 z227:=Tryd.sizeOf120
 v227:=Tryd.zeroValue120
 g6:=by kernel_rfl }
open Go.RowKit Go.Lib in
theorem Tryd.strings_Fields_any (s : ByteArray) (w : World) (hs : s.size < 4294967281) (htab : Lib.TabIs Tryd.prog w "strings.asciiSpace" .u8 Lib.asciiSpaceTab) (hW : Lib.WhiteTab 1 w) :
  Calls Tryd.prog 15 #[.string s] w fun e w'=>∃ A,e=.returned (.slice (some ⟨A,0,none⟩) (Lib.fieldsD s.data.toList).length (Lib.fieldsD s.data.toList).length)∧w.heap.size≤A ∧
   w'.ownsRow w.heap.size 9 1 (.slice (some ⟨A,0,none⟩) (Lib.fieldsD s.data.toList).length (Lib.fieldsD s.data.toList).length) (Lib.fieldsD s.data.toList).length ((Lib.fieldsD s.data.toList).map fun x=>Value.string ⟨x.toArray⟩)∧Below w.heap.size w w':=Any.strings_Fields_any Tryd.lays157 (by kernel_rfl) (by kernel_rfl) (by kernel_rfl) s w hs htab hW
end Go.Proofs
