/- The contracts of Go's library that are used, at this program. -/
import Derived.Shelf.Strings.SlTrimAscii
import Derived.KernelRfl
import Derived.Shelf.Strings.Builder1
import Derived.Shelf.Strings.Builder2
import Derived.Shelf.Strings.OnBuilder
import Derived.Shelf.Strings.Trim
import Derived.Shelf.Small.Utf8
import Derived.Shelf.Small.Bits
import Derived.Shelf.Small.Strs
import Derived.Shelf.Strings.BuilderF
import Derived.Shelf.Strings.BuilderK
import Derived.Shelf.Utf8.RuneCount
import Derived.Shelf.Strings.Builder2Cap
import Derived.Shelf.Strconv.Atoi
import Derived.Shelf.Strconv.Itoa0
import Derived.Shelf.Strconv.Itoa1
import Derived.Shelf.LaysM
import Derived.Shelf.Strconv.Itoa2
import Derived.Shelf.Strconv.Itoa3
import Derived.Shelf.Strconv.AtoiErrFast
import Derived.Shelf.Strconv.ParseIntEmpty
import Derived.Shelf.Strconv.AtoiFail
import Derived.Shelf.Strconv.Clone
import Derived.Shelf.Strconv.SyntaxError
import Derived.Shelf.LaysC
import Derived.Shelf.Strconv.ToError
import Derived.Shelf.Strconv.Lower
import Derived.Shelf.Strconv.ParseUint10
import Derived.Shelf.Strconv.ParseUint10Empty
import Derived.Shelf.Strconv.ParseUint10Any
import Derived.Shelf.Strconv.ParseInt10
import Derived.Shelf.Strconv.AtoiLong
import Derived.Shelf.Strconv.AtoiInnerAll
import Derived.Shelf.Strconv.RangeError
import Derived.Shelf.Strconv.ToErrorRange
import Derived.Shelf.Strconv.AtoiAll
import Derived.Shelf.Strconv.ErrVarAll
import Derived.Shelf.Strings.Search1
import Derived.Shelf.Strings.Search2
import Derived.Shelf.Strings.Search3
import Derived.Shelf.Strings.Cut
import Derived.Shelf.Strings.Count
import Derived.Shelf.Strings.Shaped
import Derived.Shelf.Strings.LastIndex
import Derived.Shelf.Strings.Prefix
import Derived.Shelf.Strings.Split
import Derived.Shelf.Strings.SplitShaped
import Derived.Shelf.Unicode.Decode
import Derived.Shelf.Strings.Runes
import Derived.Shelf.Strings.RuneCount
import Derived.Shelf.Strings.AsciiSet
import Derived.Shelf.Strings.Explode
import Derived.Shelf.Unicode.DecodeSlow
import Derived.Shelf.Unicode.DecodeAny
import Derived.Shelf.Unicode.DecodeLast
import Derived.Ground.Names2Prog
import Derived.Shelf.Slices.SearchI
import Derived.Test.YtlgnmgbnbomckaaGreatDoorProg
namespace Go.Proofs
open Go.Shelf
def Tryz.lays156_ren : Go.Shelf.Ren := ⟨fun | 156 => 72 | 165 => 99 | 166 => 100 | 169 => 101 | 240 => 125 | 241 => 126 | 276 => 142 | 277 => 143 | n => n, fun | 31 => 47 | 9 => 9 | 3 => 3 | 4 => 4 | 0 => 0 | 20 => 20 | 72 => 120 | 76 => 95 | 70 => 118 | 37 => 44 | 75 => 94 | 127 => 143 | 164 => 159 | 5 => 5 | 80 => 122 | n => n, fun | n => n⟩
theorem Tryz.lays156 : Go.Proofs.Lays.n156 Tryz.prog Tryz.lays156_ren := {
 mixed := by kernel_rfl
 f156 := Tryz.func72.trans (congrArg some (by kernel_rfl))
 f165 := Tryz.func99.trans (congrArg some (by kernel_rfl))
 f166 := Tryz.func100.trans (congrArg some (by kernel_rfl))
 f169 := Tryz.func101.trans (congrArg some (by kernel_rfl))
 f240 := Tryz.func125.trans (congrArg some (by kernel_rfl))
 f241 := Tryz.func126.trans (congrArg some (by kernel_rfl))
 f276 := Tryz.func142.trans (congrArg some (by kernel_rfl))
 f277 := Tryz.func143.trans (congrArg some (by kernel_rfl))
 t0 := Tryz.underlying0
 a0 := Tryz.isAgg0
 z0 := Tryz.sizeOf0
 v0 := Tryz.zeroValue0
 t3 := Tryz.underlying3
 a3 := Tryz.isAgg3
 z3 := Tryz.sizeOf3
 v3 := Tryz.zeroValue3
 t4 := Tryz.underlying4
 a4 := Tryz.isAgg4
 z4 := Tryz.sizeOf4
 v4 := Tryz.zeroValue4
 t9 := Tryz.underlying9
 a9 := Tryz.isAgg9
 z9 := Tryz.sizeOf9
 v9 := Tryz.zeroValue9
 t20 := Tryz.underlying20
 a20 := Tryz.isAgg20
 z20 := Tryz.sizeOf20
 v20 := Tryz.zeroValue20
 t31 := Tryz.underlying47
 a31 := Tryz.isAgg47
 z31 := Tryz.sizeOf47
 v31 := Tryz.zeroValue47
 t37 := Tryz.underlying44
 a37 := Tryz.isAgg44
 z37 := Tryz.sizeOf44
 v37 := Tryz.zeroValue44
 t70 := Tryz.underlying118
 a70 := Tryz.isAgg118
 z70 := Tryz.sizeOf118
 v70 := Tryz.zeroValue118
 t72 := Tryz.underlying120
 a72 := Tryz.isAgg120
 z72 := Tryz.sizeOf120
 v72 := Tryz.zeroValue120
 t75 := Tryz.underlying94
 a75 := Tryz.isAgg94
 z75 := Tryz.sizeOf94
 v75 := Tryz.zeroValue94
 t76 := Tryz.underlying95
 a76 := Tryz.isAgg95
 z76 := Tryz.sizeOf95
 v76 := Tryz.zeroValue95
 t127 := Tryz.underlying143
 a127 := Tryz.isAgg143
 z127 := Tryz.sizeOf143
 v127 := Tryz.zeroValue143
 t164 := Tryz.underlying159
 a164 := Tryz.isAgg159
 z164 := Tryz.sizeOf159
 v164 := Tryz.zeroValue159 }
theorem Tryz.Builder_Extra_156 : Builder.Extra Tryz.prog Tryz.lays156_ren := {
 sizeBuilder := by kernel_rfl
 liesBuilder := by kernel_rfl
 t5 := Tryz.underlying5
 a5 := Tryz.isAgg5
 z5 := Tryz.sizeOf5
 v5 := Tryz.zeroValue5
 infoByte := by kernel_rfl
 cellsByte := by kernel_rfl
 sizeByte := by kernel_rfl
 neB5 := by decide }
open Go.RowKit in
theorem Tryz.strings_Join_none (a : Option Addr) (c : Nat) (sep : ByteArray) (w : World) :
  Calls Tryz.prog 72 #[.slice a 0 c, .string sep] w fun e w' => e = .returned (.string ⟨#[]⟩) ∧ w' = w := Any.strings_Join_none Tryz.lays156 Tryz.Builder_Extra_156 a c sep w
open Go.RowKit in
theorem Tryz.strings_Join (bk o c : Nat) (xs : List ByteArray) (sep : ByteArray) (w : World) (hcells : ∀ (j : Nat) x, xs[j]? = some x → w.cell? ⟨bk, o + j, none⟩ = some (.string x)) (hbk : bk < w.heap.size) (hN : xs.length ≤ 140737488355328) (hcap : xs.length ≤ c) (hlen : (Lib.join (xs.map (·.data.toList)) sep.data.toList).length ≤ 140737488355328) :
  Calls Tryz.prog 72 #[.slice (some ⟨bk, o, none⟩) xs.length c, .string sep] w fun e w' => e = .returned (.string ⟨(Lib.join (xs.map (·.data.toList)) sep.data.toList).toArray⟩) ∧ Below w.heap.size w w' := Any.strings_Join Tryz.lays156 Tryz.Builder_Extra_156 bk o c xs sep w hcells hbk hN hcap hlen
def Tryz.lays160_ren : Go.Shelf.Ren := ⟨fun | 160 => 69 | 232 => 91 | 231 => 90 | 227 => 92 | 234 => 94 | 233 => 93 | 236 => 96 | 235 => 95 | 228 => 116 | 271 => 119 | 151 => 118 | 197 => 117 | 120 => 138 | 152 => 137 | 260 => 136 | 137 => 135 | 119 => 148 | 224 => 112 | 225 => 111 | 217 => 110 | 266 => 131 | n => n, fun | 9 => 9 | 4 => 4 | 3 => 3 | 5 => 5 | 117 => 113 | 116 => 112 | 0 => 0 | 124 => 116 | 21 => 21 | 105 => 134 | 46 => 75 | 119 => 164 | 139 => 167 | 138 => 166 | n => n, fun | 3 => 4 | 4 => 5 | n => n⟩
theorem Tryz.lays160 : Go.Proofs.Lays.n160 Tryz.prog Tryz.lays160_ren := {
 mixed := by kernel_rfl
 f119 := Tryz.func148.trans (congrArg some (by kernel_rfl))
 f120 := Tryz.func138.trans (congrArg some (by kernel_rfl))
 f137 := Tryz.func135.trans (congrArg some (by kernel_rfl))
 f151 := Tryz.func118.trans (congrArg some (by kernel_rfl))
 f152 := Tryz.func137.trans (congrArg some (by kernel_rfl))
 f160 := Tryz.func69.trans (congrArg some (by kernel_rfl))
 f197 := Tryz.func117.trans (congrArg some (by kernel_rfl))
 f217 := Tryz.func110.trans (congrArg some (by kernel_rfl))
 f224 := Tryz.func112.trans (congrArg some (by kernel_rfl))
 f225 := Tryz.func111.trans (congrArg some (by kernel_rfl))
 f227 := Tryz.func92.trans (congrArg some (by kernel_rfl))
 f228 := Tryz.func116.trans (congrArg some (by kernel_rfl))
 f231 := Tryz.func90.trans (congrArg some (by kernel_rfl))
 f232 := Tryz.func91.trans (congrArg some (by kernel_rfl))
 f233 := Tryz.func93.trans (congrArg some (by kernel_rfl))
 f234 := Tryz.func94.trans (congrArg some (by kernel_rfl))
 f235 := Tryz.func95.trans (congrArg some (by kernel_rfl))
 f236 := Tryz.func96.trans (congrArg some (by kernel_rfl))
 f260 := Tryz.func136.trans (congrArg some (by kernel_rfl))
 f266 := Tryz.func131.trans (congrArg some (by kernel_rfl))
 f271 := Tryz.func119.trans (congrArg some (by kernel_rfl))
 t0 := Tryz.underlying0
 a0 := Tryz.isAgg0
 z0 := Tryz.sizeOf0
 v0 := Tryz.zeroValue0
 t3 := Tryz.underlying3
 a3 := Tryz.isAgg3
 z3 := Tryz.sizeOf3
 v3 := Tryz.zeroValue3
 t4 := Tryz.underlying4
 a4 := Tryz.isAgg4
 z4 := Tryz.sizeOf4
 v4 := Tryz.zeroValue4
 t5 := Tryz.underlying5
 a5 := Tryz.isAgg5
 z5 := Tryz.sizeOf5
 v5 := Tryz.zeroValue5
 t9 := Tryz.underlying9
 a9 := Tryz.isAgg9
 z9 := Tryz.sizeOf9
 v9 := Tryz.zeroValue9
 t21 := Tryz.underlying21
 a21 := Tryz.isAgg21
 z21 := Tryz.sizeOf21
 v21 := Tryz.zeroValue21
 t46 := Tryz.underlying75
 a46 := Tryz.isAgg75
 z46 := Tryz.sizeOf75
 v46 := Tryz.zeroValue75
 t105 := Tryz.underlying134
 a105 := Tryz.isAgg134
 z105 := Tryz.sizeOf134
 v105 := Tryz.zeroValue134
 t116 := Tryz.underlying112
 a116 := Tryz.isAgg112
 z116 := Tryz.sizeOf112
 t117 := Tryz.underlying113
 a117 := Tryz.isAgg113
 z117 := Tryz.sizeOf113
 v117 := Tryz.zeroValue113
 t119 := Tryz.underlying164
 a119 := Tryz.isAgg164
 z119 := Tryz.sizeOf164
 t124 := Tryz.underlying116
 a124 := Tryz.isAgg116
 z124 := Tryz.sizeOf116
 v124 := Tryz.zeroValue116
 t138 := Tryz.underlying166
 a138 := Tryz.isAgg166
 z138 := Tryz.sizeOf166
 v138 := Tryz.zeroValue166
 t139 := Tryz.underlying167
 a139 := Tryz.isAgg167
 z139 := Tryz.sizeOf167
 v139 := Tryz.zeroValue167
 g3 := by kernel_rfl
 g4 := by kernel_rfl }
def Tryz.lays134_ren : Go.Shelf.Ren := ⟨fun | 134 => 60 | 129 => 83 | n => n, fun | 53 => 25 | 3 => 3 | 4 => 4 | 46 => 75 | 5 => 5 | 9 => 9 | n => n, fun | n => n⟩
theorem Tryz.lays134 : Go.Proofs.Lays.n134 Tryz.prog Tryz.lays134_ren := {
 mixed := by kernel_rfl
 f129 := Tryz.func83.trans (congrArg some (by kernel_rfl))
 f134 := Tryz.func60.trans (congrArg some (by kernel_rfl))
 t3 := Tryz.underlying3
 a3 := Tryz.isAgg3
 z3 := Tryz.sizeOf3
 v3 := Tryz.zeroValue3
 t4 := Tryz.underlying4
 a4 := Tryz.isAgg4
 z4 := Tryz.sizeOf4
 v4 := Tryz.zeroValue4
 t5 := Tryz.underlying5
 a5 := Tryz.isAgg5
 z5 := Tryz.sizeOf5
 v5 := Tryz.zeroValue5
 t9 := Tryz.underlying9
 a9 := Tryz.isAgg9
 z9 := Tryz.sizeOf9
 v9 := Tryz.zeroValue9
 t46 := Tryz.underlying75
 a46 := Tryz.isAgg75
 z46 := Tryz.sizeOf75
 v46 := Tryz.zeroValue75
 t53 := Tryz.underlying25
 a53 := Tryz.isAgg25
 z53 := Tryz.sizeOf25
 v53 := Tryz.zeroValue25 }
theorem Tryz.bits_LeadingZeros64 (x : Int) (w : World) (h0 : 0 ≤ x) (h1 : x ≤ 18446744073709551615) :
  Calls Tryz.prog 60 #[.int .u64 x] w fun e w' => e = .returned (.int .i64 (64 - (Lib.bitLen x.toNat : Int))) ∧ w' = w := Any.bits_LeadingZeros64 Tryz.lays134 x w h0 h1
def Tryz.lays137_ren : Go.Shelf.Ren := ⟨fun | 137 => 135 | 217 => 110 | 266 => 131 | n => n, fun | 9 => 9 | 5 => 5 | 3 => 3 | n => n, fun | n => n⟩
theorem Tryz.lays137 : Go.Proofs.Lays.n137 Tryz.prog Tryz.lays137_ren := {
 mixed := by kernel_rfl
 f137 := Tryz.func135.trans (congrArg some (by kernel_rfl))
 f217 := Tryz.func110.trans (congrArg some (by kernel_rfl))
 f266 := Tryz.func131.trans (congrArg some (by kernel_rfl))
 t3 := Tryz.underlying3
 a3 := Tryz.isAgg3
 z3 := Tryz.sizeOf3
 v3 := Tryz.zeroValue3
 t5 := Tryz.underlying5
 a5 := Tryz.isAgg5
 z5 := Tryz.sizeOf5
 v5 := Tryz.zeroValue5
 t9 := Tryz.underlying9
 a9 := Tryz.isAgg9
 z9 := Tryz.sizeOf9
 v9 := Tryz.zeroValue9 }
open Go.RowKit in
theorem Tryz.strings_IndexByte (s : ByteArray) (c : Int) (w : World) :
  Calls Tryz.prog 135 #[.string s, .int .u8 c] w fun e w' => e = .returned (.int .i64 (Lib.indexByte s.data.toList c.toNat.toUInt8)) ∧ w' = w := Any.strings_IndexByte Tryz.lays137 s c w
def Tryz.laysM171_ren : Go.Shelf.Ren := ⟨fun | 171 => 48 | 243 => 76 | 246 => 102 | 283 => 103 | 284 => 104 | 285 => 105 | 286 => 106 | 129 => 83 | 317 => 127 | 318 => 128 | 319 => 129 | 320 => 130 | 337 => 144 | 338 => 145 | n => n, fun | 3 => 3 | 9 => 9 | 2 => 2 | 4 => 4 | 171 => 124 | 0 => 0 | 53 => 25 | 37 => 44 | 5 => 5 | 173 => 126 | 212 => 145 | 51 => 146 | 20 => 20 | 213 => 147 | 46 => 75 | 232 => 173 | 233 => 174 | n => n, fun | 17 => 1 | 18 => 6 | 19 => 7 | n => n⟩
theorem Tryz.laysM171 : Go.Proofs.LaysM.n171 Tryz.prog Tryz.laysM171_ren := {
 mixed := by kernel_rfl
 f129 := Tryz.func83.trans (congrArg some (by kernel_rfl))
 f171 := Tryz.func48.trans (congrArg some (by kernel_rfl))
 f243 := Tryz.func76.trans (congrArg some (by kernel_rfl))
 f246 := Tryz.func102.trans (congrArg some (by kernel_rfl))
 f283 := Tryz.func103.trans (congrArg some (by kernel_rfl))
 f284 := Tryz.func104.trans (congrArg some (by kernel_rfl))
 f285 := Tryz.func105.trans (congrArg some (by kernel_rfl))
 f286 := Tryz.func106.trans (congrArg some (by kernel_rfl))
 f317 := Tryz.func127.trans (congrArg some (by kernel_rfl))
 f318 := Tryz.func128.trans (congrArg some (by kernel_rfl))
 f319 := Tryz.func129.trans (congrArg some (by kernel_rfl))
 f320 := Tryz.func130.trans (congrArg some (by kernel_rfl))
 f337 := Tryz.func144.trans (congrArg some (by kernel_rfl))
 f338 := Tryz.func145.trans (congrArg some (by kernel_rfl))
 t0 := Tryz.underlying0
 a0 := Tryz.isAgg0
 z0 := Tryz.sizeOf0
 v0 := Tryz.zeroValue0
 t2 := Tryz.underlying2
 a2 := Tryz.isAgg2
 z2 := Tryz.sizeOf2
 v2 := Tryz.zeroValue2
 t3 := Tryz.underlying3
 a3 := Tryz.isAgg3
 z3 := Tryz.sizeOf3
 v3 := Tryz.zeroValue3
 t4 := Tryz.underlying4
 a4 := Tryz.isAgg4
 z4 := Tryz.sizeOf4
 v4 := Tryz.zeroValue4
 t5 := Tryz.underlying5
 a5 := Tryz.isAgg5
 z5 := Tryz.sizeOf5
 v5 := Tryz.zeroValue5
 t9 := Tryz.underlying9
 a9 := Tryz.isAgg9
 z9 := Tryz.sizeOf9
 v9 := Tryz.zeroValue9
 t20 := Tryz.underlying20
 a20 := Tryz.isAgg20
 z20 := Tryz.sizeOf20
 v20 := Tryz.zeroValue20
 t37 := Tryz.underlying44
 a37 := Tryz.isAgg44
 z37 := Tryz.sizeOf44
 v37 := Tryz.zeroValue44
 t46 := Tryz.underlying75
 a46 := Tryz.isAgg75
 z46 := Tryz.sizeOf75
 v46 := Tryz.zeroValue75
 t51 := Tryz.underlying146
 a51 := Tryz.isAgg146
 z51 := Tryz.sizeOf146
 v51 := Tryz.zeroValue146
 t53 := Tryz.underlying25
 a53 := Tryz.isAgg25
 z53 := Tryz.sizeOf25
 v53 := Tryz.zeroValue25
 t171 := Tryz.underlying124
 a171 := Tryz.isAgg124
 z171 := Tryz.sizeOf124
 v171 := Tryz.zeroValue124
 t173 := Tryz.underlying126
 a173 := Tryz.isAgg126
 z173 := Tryz.sizeOf126
 v173 := Tryz.zeroValue126
 t212 := Tryz.underlying145
 a212 := Tryz.isAgg145
 z212 := Tryz.sizeOf145
 v212 := Tryz.zeroValue145
 t213 := Tryz.underlying147
 a213 := Tryz.isAgg147
 z213 := Tryz.sizeOf147
 t232 := Tryz.underlying173
 a232 := Tryz.isAgg173
 z232 := Tryz.sizeOf173
 v232 := Tryz.zeroValue173
 t233 := Tryz.underlying174
 a233 := Tryz.isAgg174
 z233 := Tryz.sizeOf174
 v233 := Tryz.zeroValue174
 g17 := by kernel_rfl
 g18 := by kernel_rfl
 g19 := by kernel_rfl
 i0 := by kernel_rfl
 i2 := by kernel_rfl
 i3 := by kernel_rfl
 i4 := by kernel_rfl
 i5 := by kernel_rfl
 i9 := by kernel_rfl
 i20 := by kernel_rfl
 i37 := by kernel_rfl
 i46 := by kernel_rfl
 i51 := by kernel_rfl
 i53 := by kernel_rfl
 i171 := by kernel_rfl
 i173 := by kernel_rfl
 i212 := by kernel_rfl
 i232 := by kernel_rfl
 i233 := by kernel_rfl
 m17 := by kernel_rfl
 m18 := by kernel_rfl
 m19 := by kernel_rfl }
open Go.RowKit Go.Sort Go.Lib in
theorem Tryz.strconv_Itoa (n : Int) (h0 : -9223372036854775808 ≤ n) (h1 : n ≤ 9223372036854775807) (w : World) (htab : Lib.TabIs Tryz.prog w "internal/strconv.uint64pow10" .u64 Lib.pow10Tab) :
  Calls Tryz.prog 48 #[.int .i64 n] w fun e w' => e = .returned (.string ⟨(Lib.itoa n).toArray⟩) ∧ ∃ k os, w' = grow (w.drewN k) os := Any.strconv_Itoa Tryz.laysM171 n h0 h1 w htab
def Tryz.laysC172_ren : Go.Shelf.Ren := ⟨fun | 172 => 70 | 244 => 97 | 245 => 98 | 247 => 120 | 279 => 121 | 280 => 122 | 281 => 123 | 282 => 124 | 287 => 139 | 316 => 140 | 171 => 48 | 205 => 141 | 321 => 149 | 322 => 150 | 243 => 76 | 246 => 102 | 283 => 103 | 284 => 104 | 285 => 105 | 286 => 106 | 129 => 83 | 317 => 127 | 318 => 128 | 319 => 129 | 320 => 130 | 337 => 144 | 338 => 145 | n => n, fun | 9 => 9 | 3 => 3 | 75 => 94 | 76 => 95 | 4 => 4 | 5 => 5 | 167 => 137 | 37 => 44 | 0 => 0 | 85 => 138 | 2 => 2 | 168 => 140 | 53 => 25 | 175 => 153 | 46 => 75 | 210 => 157 | 127 => 143 | 145 => 172 | 143 => 170 | 21 => 21 | 171 => 124 | 173 => 126 | 212 => 145 | 51 => 146 | 20 => 20 | 213 => 147 | 232 => 173 | 233 => 174 | 80 => 122 | n => n, fun | 15 => 2 | 16 => 3 | 17 => 1 | 18 => 6 | 19 => 7 | n => n⟩
theorem Tryz.laysC172 : Go.Proofs.LaysC.n172 Tryz.prog Tryz.laysC172_ren := {
 mixed := by kernel_rfl
 f129 := Tryz.func83.trans (congrArg some (by kernel_rfl))
 f171 := Tryz.func48.trans (congrArg some (by kernel_rfl))
 f172 := Tryz.func70.trans (congrArg some (by kernel_rfl))
 f205 := Tryz.func141.trans (congrArg some (by kernel_rfl))
 f243 := Tryz.func76.trans (congrArg some (by kernel_rfl))
 f244 := Tryz.func97.trans (congrArg some (by kernel_rfl))
 f245 := Tryz.func98.trans (congrArg some (by kernel_rfl))
 f246 := Tryz.func102.trans (congrArg some (by kernel_rfl))
 f247 := Tryz.func120.trans (congrArg some (by kernel_rfl))
 f279 := Tryz.func121.trans (congrArg some (by kernel_rfl))
 f280 := Tryz.func122.trans (congrArg some (by kernel_rfl))
 f281 := Tryz.func123.trans (congrArg some (by kernel_rfl))
 f282 := Tryz.func124.trans (congrArg some (by kernel_rfl))
 f283 := Tryz.func103.trans (congrArg some (by kernel_rfl))
 f284 := Tryz.func104.trans (congrArg some (by kernel_rfl))
 f285 := Tryz.func105.trans (congrArg some (by kernel_rfl))
 f286 := Tryz.func106.trans (congrArg some (by kernel_rfl))
 f287 := Tryz.func139.trans (congrArg some (by kernel_rfl))
 f316 := Tryz.func140.trans (congrArg some (by kernel_rfl))
 f317 := Tryz.func127.trans (congrArg some (by kernel_rfl))
 f318 := Tryz.func128.trans (congrArg some (by kernel_rfl))
 f319 := Tryz.func129.trans (congrArg some (by kernel_rfl))
 f320 := Tryz.func130.trans (congrArg some (by kernel_rfl))
 f321 := Tryz.func149.trans (congrArg some (by kernel_rfl))
 f322 := Tryz.func150.trans (congrArg some (by kernel_rfl))
 f337 := Tryz.func144.trans (congrArg some (by kernel_rfl))
 f338 := Tryz.func145.trans (congrArg some (by kernel_rfl))
 t0 := Tryz.underlying0
 a0 := Tryz.isAgg0
 z0 := Tryz.sizeOf0
 v0 := Tryz.zeroValue0
 t2 := Tryz.underlying2
 a2 := Tryz.isAgg2
 z2 := Tryz.sizeOf2
 v2 := Tryz.zeroValue2
 t3 := Tryz.underlying3
 a3 := Tryz.isAgg3
 z3 := Tryz.sizeOf3
 v3 := Tryz.zeroValue3
 t4 := Tryz.underlying4
 a4 := Tryz.isAgg4
 z4 := Tryz.sizeOf4
 v4 := Tryz.zeroValue4
 t5 := Tryz.underlying5
 a5 := Tryz.isAgg5
 z5 := Tryz.sizeOf5
 v5 := Tryz.zeroValue5
 t9 := Tryz.underlying9
 a9 := Tryz.isAgg9
 z9 := Tryz.sizeOf9
 v9 := Tryz.zeroValue9
 t20 := Tryz.underlying20
 a20 := Tryz.isAgg20
 z20 := Tryz.sizeOf20
 v20 := Tryz.zeroValue20
 t21 := Tryz.underlying21
 a21 := Tryz.isAgg21
 z21 := Tryz.sizeOf21
 v21 := Tryz.zeroValue21
 t37 := Tryz.underlying44
 a37 := Tryz.isAgg44
 z37 := Tryz.sizeOf44
 v37 := Tryz.zeroValue44
 t46 := Tryz.underlying75
 a46 := Tryz.isAgg75
 z46 := Tryz.sizeOf75
 v46 := Tryz.zeroValue75
 t51 := Tryz.underlying146
 a51 := Tryz.isAgg146
 z51 := Tryz.sizeOf146
 v51 := Tryz.zeroValue146
 t53 := Tryz.underlying25
 a53 := Tryz.isAgg25
 z53 := Tryz.sizeOf25
 v53 := Tryz.zeroValue25
 t75 := Tryz.underlying94
 a75 := Tryz.isAgg94
 z75 := Tryz.sizeOf94
 v75 := Tryz.zeroValue94
 t76 := Tryz.underlying95
 a76 := Tryz.isAgg95
 z76 := Tryz.sizeOf95
 v76 := Tryz.zeroValue95
 t85 := Tryz.underlying138
 a85 := Tryz.isAgg138
 z85 := Tryz.sizeOf138
 v85 := Tryz.zeroValue138
 t127 := Tryz.underlying143
 a127 := Tryz.isAgg143
 z127 := Tryz.sizeOf143
 v127 := Tryz.zeroValue143
 t143 := Tryz.underlying170
 a143 := Tryz.isAgg170
 z143 := Tryz.sizeOf170
 v143 := Tryz.zeroValue170
 t145 := Tryz.underlying172
 a145 := Tryz.isAgg172
 z145 := Tryz.sizeOf172
 v145 := Tryz.zeroValue172
 t167 := Tryz.underlying137
 a167 := Tryz.isAgg137
 z167 := Tryz.sizeOf137
 v167 := Tryz.zeroValue137
 t168 := Tryz.underlying140
 a168 := Tryz.isAgg140
 z168 := Tryz.sizeOf140
 v168 := Tryz.zeroValue140
 t171 := Tryz.underlying124
 a171 := Tryz.isAgg124
 z171 := Tryz.sizeOf124
 v171 := Tryz.zeroValue124
 t173 := Tryz.underlying126
 a173 := Tryz.isAgg126
 z173 := Tryz.sizeOf126
 v173 := Tryz.zeroValue126
 t175 := Tryz.underlying153
 a175 := Tryz.isAgg153
 z175 := Tryz.sizeOf153
 v175 := Tryz.zeroValue153
 t210 := Tryz.underlying157
 a210 := Tryz.isAgg157
 z210 := Tryz.sizeOf157
 v210 := Tryz.zeroValue157
 t212 := Tryz.underlying145
 a212 := Tryz.isAgg145
 z212 := Tryz.sizeOf145
 v212 := Tryz.zeroValue145
 t213 := Tryz.underlying147
 a213 := Tryz.isAgg147
 z213 := Tryz.sizeOf147
 t232 := Tryz.underlying173
 a232 := Tryz.isAgg173
 z232 := Tryz.sizeOf173
 v232 := Tryz.zeroValue173
 t233 := Tryz.underlying174
 a233 := Tryz.isAgg174
 z233 := Tryz.sizeOf174
 v233 := Tryz.zeroValue174
 g15 := by kernel_rfl
 g16 := by kernel_rfl
 g17 := by kernel_rfl
 g18 := by kernel_rfl
 g19 := by kernel_rfl
 t80 := Tryz.underlying122
 a80 := Tryz.isAgg122
 z80 := Tryz.sizeOf122
 v80 := Tryz.zeroValue122
 i0 := by kernel_rfl
 i2 := by kernel_rfl
 i3 := by kernel_rfl
 i4 := by kernel_rfl
 i5 := by kernel_rfl
 i9 := by kernel_rfl
 i20 := by kernel_rfl
 i21 := by kernel_rfl
 i37 := by kernel_rfl
 i46 := by kernel_rfl
 i51 := by kernel_rfl
 i53 := by kernel_rfl
 i75 := by kernel_rfl
 i76 := by kernel_rfl
 i80 := by kernel_rfl
 i85 := by kernel_rfl
 i127 := by kernel_rfl
 i143 := by kernel_rfl
 i145 := by kernel_rfl
 i167 := by kernel_rfl
 i168 := by kernel_rfl
 i171 := by kernel_rfl
 i173 := by kernel_rfl
 i175 := by kernel_rfl
 i210 := by kernel_rfl
 i212 := by kernel_rfl
 i232 := by kernel_rfl
 i233 := by kernel_rfl
 m15 := by kernel_rfl
 m16 := by kernel_rfl
 m17 := by kernel_rfl
 m18 := by kernel_rfl
 m19 := by kernel_rfl
 c0 := by kernel_rfl
 c2 := by kernel_rfl
 c3 := by kernel_rfl
 c4 := by kernel_rfl
 c5 := by kernel_rfl
 c9 := by kernel_rfl
 c20 := by kernel_rfl
 c21 := by kernel_rfl
 c37 := by kernel_rfl
 c46 := by kernel_rfl
 c51 := by kernel_rfl
 c53 := by kernel_rfl
 c75 := by kernel_rfl
 c76 := by kernel_rfl
 c80 := by kernel_rfl
 c85 := by kernel_rfl
 c127 := by kernel_rfl
 c143 := by kernel_rfl
 c145 := by kernel_rfl
 c167 := by kernel_rfl
 c168 := by kernel_rfl
 c171 := by kernel_rfl
 c173 := by kernel_rfl
 c175 := by kernel_rfl
 c210 := by kernel_rfl
 c212 := by kernel_rfl
 c213 := by kernel_rfl
 c232 := by kernel_rfl
 c233 := by kernel_rfl }
open Go.RowKit in
theorem Tryz.strconv_Atoi_ok (s : ByteArray) (hmax : s.size ≤ 9223372036854775806) (v : Int) (h : Lib.atoiAll s.data.toList = .ok v) (w : World) :
  Calls Tryz.prog 70 #[.string s] w fun e w' => e = .returned (.tuple #[.int .i64 v, .nilIface]) ∧ (w' = w ∨ ∃ t, w' = Lib.bytesWorld w 5 t) := Any.strconv_Atoi_ok Tryz.laysC172 s hmax v h w
open Go.RowKit in
theorem Tryz.strconv_Atoi_syntax_var (s : ByteArray) (hlim : s.size ≤ 281474976710656) (h : Lib.atoiAll s.data.toList = Lib.atoiAll []) (tp : TypeId) (p : Value) (w : World) (hvar : w.var? Tryz.prog "strconv.ErrSyntax" = some #[.iface tp p]) :
  Calls Tryz.prog 70 #[.string s] w fun e w' => ∃ N, e = .returned (.tuple #[.int .i64 0, .iface 140 (.pointer (some ⟨N, 0, none⟩))]) ∧ w.heap.size ≤ N ∧ w'.heap[N]? = some (.cells #[.string ⟨#[65, 116, 111, 105]⟩, .string s, .iface tp p] 157 (0, 0)) ∧ Below w.heap.size w w' := Any.strconv_Atoi_syntax_var Tryz.laysC172 s hlim h tp p w hvar
open Go.RowKit in
theorem Tryz.strconv_Atoi_range_var (s : ByteArray) (hlim : s.size ≤ 281474976710656) (h : Lib.atoiAll s.data.toList = .range) (tp : TypeId) (p : Value) (w : World) (hvar : w.var? Tryz.prog "strconv.ErrRange" = some #[.iface tp p]) :
  Calls Tryz.prog 70 #[.string s] w fun e w' => ∃ N, e = .returned (.tuple #[.int .i64 (Lib.atoiSat s.data.toList), .iface 140 (.pointer (some ⟨N, 0, none⟩))]) ∧ w.heap.size ≤ N ∧ w'.heap[N]? = some (.cells #[.string ⟨#[65, 116, 111, 105]⟩, .string s, .iface tp p] 157 (0, 0)) ∧ Below w.heap.size w w' := Any.strconv_Atoi_range_var Tryz.laysC172 s hlim h tp p w hvar
def Tryz.laysM143_ren : Go.Shelf.Ren := ⟨fun | 143 => 81 | 219 => 87 | 217 => 110 | 225 => 111 | 224 => 112 | 267 => 113 | 266 => 131 | 314 => 132 | n => n, fun | 9 => 9 | 3 => 3 | 4 => 4 | 5 => 5 | 46 => 75 | 146 => 149 | 51 => 146 | n => n, fun | 1 => 0 | n => n⟩
theorem Tryz.laysM143 : Go.Proofs.LaysM.n143 Tryz.prog Tryz.laysM143_ren := {
 mixed := by kernel_rfl
 f143 := Tryz.func81.trans (congrArg some (by kernel_rfl))
 f217 := Tryz.func110.trans (congrArg some (by kernel_rfl))
 f219 := Tryz.func87.trans (congrArg some (by kernel_rfl))
 f224 := Tryz.func112.trans (congrArg some (by kernel_rfl))
 f225 := Tryz.func111.trans (congrArg some (by kernel_rfl))
 f266 := Tryz.func131.trans (congrArg some (by kernel_rfl))
 f267 := Tryz.func113.trans (congrArg some (by kernel_rfl))
 f314 := Tryz.func132.trans (congrArg some (by kernel_rfl))
 t3 := Tryz.underlying3
 a3 := Tryz.isAgg3
 z3 := Tryz.sizeOf3
 v3 := Tryz.zeroValue3
 t4 := Tryz.underlying4
 a4 := Tryz.isAgg4
 z4 := Tryz.sizeOf4
 v4 := Tryz.zeroValue4
 t5 := Tryz.underlying5
 a5 := Tryz.isAgg5
 z5 := Tryz.sizeOf5
 v5 := Tryz.zeroValue5
 t9 := Tryz.underlying9
 a9 := Tryz.isAgg9
 z9 := Tryz.sizeOf9
 v9 := Tryz.zeroValue9
 t46 := Tryz.underlying75
 a46 := Tryz.isAgg75
 z46 := Tryz.sizeOf75
 v46 := Tryz.zeroValue75
 t51 := Tryz.underlying146
 a51 := Tryz.isAgg146
 z51 := Tryz.sizeOf146
 v51 := Tryz.zeroValue146
 t146 := Tryz.underlying149
 a146 := Tryz.isAgg149
 z146 := Tryz.sizeOf149
 v146 := Tryz.zeroValue149
 g1 := by kernel_rfl
 i3 := by kernel_rfl
 i4 := by kernel_rfl
 i5 := by kernel_rfl
 i9 := by kernel_rfl
 i46 := by kernel_rfl
 i51 := by kernel_rfl
 i146 := by kernel_rfl
 m1 := by kernel_rfl
 s1_3 := fun w h => Go.Proofs.cell_of_shapedOpen_int (zero := #[.int .i64 0]) (t := 3) h (of_decide_eq_true (by kernel_rfl)) (by kernel_rfl) rfl (by kernel_rfl) (by kernel_rfl) Tryz.underlying3 }
open Go.RowKit Go.Lib in
theorem Tryz.strings_Index_shaped (s sub : ByteArray) (w : World) (h : w.ShapedOpen Tryz.prog) (hs : s.size < 4294967281) :
  Calls Tryz.prog 81 #[.string s, .string sub] w fun e w' => e = .returned (.int .i64 (Lib.index s.data.toList sub.data.toList)) ∧ w' = w := Any.strings_Index_shaped Tryz.laysM143 s sub w h hs
def Tryz.laysM144_ren : Go.Shelf.Ren := ⟨fun | 144 => 66 | 143 => 81 | 219 => 87 | 217 => 110 | 225 => 111 | 224 => 112 | 267 => 113 | 266 => 131 | 314 => 132 | n => n, fun | 9 => 9 | 4 => 4 | 3 => 3 | 5 => 5 | 46 => 75 | 146 => 149 | 51 => 146 | n => n, fun | 1 => 0 | n => n⟩
theorem Tryz.laysM144 : Go.Proofs.LaysM.n144 Tryz.prog Tryz.laysM144_ren := {
 mixed := by kernel_rfl
 f143 := Tryz.func81.trans (congrArg some (by kernel_rfl))
 f144 := Tryz.func66.trans (congrArg some (by kernel_rfl))
 f217 := Tryz.func110.trans (congrArg some (by kernel_rfl))
 f219 := Tryz.func87.trans (congrArg some (by kernel_rfl))
 f224 := Tryz.func112.trans (congrArg some (by kernel_rfl))
 f225 := Tryz.func111.trans (congrArg some (by kernel_rfl))
 f266 := Tryz.func131.trans (congrArg some (by kernel_rfl))
 f267 := Tryz.func113.trans (congrArg some (by kernel_rfl))
 f314 := Tryz.func132.trans (congrArg some (by kernel_rfl))
 t3 := Tryz.underlying3
 a3 := Tryz.isAgg3
 z3 := Tryz.sizeOf3
 v3 := Tryz.zeroValue3
 t4 := Tryz.underlying4
 a4 := Tryz.isAgg4
 z4 := Tryz.sizeOf4
 v4 := Tryz.zeroValue4
 t5 := Tryz.underlying5
 a5 := Tryz.isAgg5
 z5 := Tryz.sizeOf5
 v5 := Tryz.zeroValue5
 t9 := Tryz.underlying9
 a9 := Tryz.isAgg9
 z9 := Tryz.sizeOf9
 v9 := Tryz.zeroValue9
 t46 := Tryz.underlying75
 a46 := Tryz.isAgg75
 z46 := Tryz.sizeOf75
 v46 := Tryz.zeroValue75
 t51 := Tryz.underlying146
 a51 := Tryz.isAgg146
 z51 := Tryz.sizeOf146
 v51 := Tryz.zeroValue146
 t146 := Tryz.underlying149
 a146 := Tryz.isAgg149
 z146 := Tryz.sizeOf149
 v146 := Tryz.zeroValue149
 g1 := by kernel_rfl
 i3 := by kernel_rfl
 i4 := by kernel_rfl
 i5 := by kernel_rfl
 i9 := by kernel_rfl
 i46 := by kernel_rfl
 i51 := by kernel_rfl
 i146 := by kernel_rfl
 m1 := by kernel_rfl
 s1_3 := fun w h => Go.Proofs.cell_of_shapedOpen_int (zero := #[.int .i64 0]) (t := 3) h (of_decide_eq_true (by kernel_rfl)) (by kernel_rfl) rfl (by kernel_rfl) (by kernel_rfl) Tryz.underlying3 }
open Go.RowKit Go.Lib in
theorem Tryz.strings_Contains_shaped (s sub : ByteArray) (w : World) (h : w.ShapedOpen Tryz.prog) (hs : s.size < 4294967281) :
  Calls Tryz.prog 66 #[.string s, .string sub] w fun e w' => e = .returned (.bool (Lib.contains s.data.toList sub.data.toList)) ∧ w' = w := Any.strings_Contains_shaped Tryz.laysM144 s sub w h hs
def Tryz.laysM145_ren : Go.Shelf.Ren := ⟨fun | 145 => 43 | 220 => 65 | 219 => 87 | 217 => 110 | 225 => 111 | 224 => 112 | 267 => 113 | 266 => 131 | 314 => 132 | n => n, fun | 9 => 9 | 4 => 4 | 59 => 67 | 3 => 3 | 5 => 5 | 46 => 75 | 146 => 149 | 51 => 146 | n => n, fun | 1 => 0 | n => n⟩
theorem Tryz.laysM145 : Go.Proofs.LaysM.n145 Tryz.prog Tryz.laysM145_ren := {
 mixed := by kernel_rfl
 f145 := Tryz.func43.trans (congrArg some (by kernel_rfl))
 f217 := Tryz.func110.trans (congrArg some (by kernel_rfl))
 f219 := Tryz.func87.trans (congrArg some (by kernel_rfl))
 f220 := Tryz.func65.trans (congrArg some (by kernel_rfl))
 f224 := Tryz.func112.trans (congrArg some (by kernel_rfl))
 f225 := Tryz.func111.trans (congrArg some (by kernel_rfl))
 f266 := Tryz.func131.trans (congrArg some (by kernel_rfl))
 f267 := Tryz.func113.trans (congrArg some (by kernel_rfl))
 f314 := Tryz.func132.trans (congrArg some (by kernel_rfl))
 t3 := Tryz.underlying3
 a3 := Tryz.isAgg3
 z3 := Tryz.sizeOf3
 v3 := Tryz.zeroValue3
 t4 := Tryz.underlying4
 a4 := Tryz.isAgg4
 z4 := Tryz.sizeOf4
 v4 := Tryz.zeroValue4
 t5 := Tryz.underlying5
 a5 := Tryz.isAgg5
 z5 := Tryz.sizeOf5
 v5 := Tryz.zeroValue5
 t9 := Tryz.underlying9
 a9 := Tryz.isAgg9
 z9 := Tryz.sizeOf9
 v9 := Tryz.zeroValue9
 t46 := Tryz.underlying75
 a46 := Tryz.isAgg75
 z46 := Tryz.sizeOf75
 v46 := Tryz.zeroValue75
 t51 := Tryz.underlying146
 a51 := Tryz.isAgg146
 z51 := Tryz.sizeOf146
 v51 := Tryz.zeroValue146
 t59 := Tryz.underlying67
 a59 := Tryz.isAgg67
 z59 := Tryz.sizeOf67
 v59 := Tryz.zeroValue67
 t146 := Tryz.underlying149
 a146 := Tryz.isAgg149
 z146 := Tryz.sizeOf149
 v146 := Tryz.zeroValue149
 g1 := by kernel_rfl
 i3 := by kernel_rfl
 i4 := by kernel_rfl
 i5 := by kernel_rfl
 i9 := by kernel_rfl
 i46 := by kernel_rfl
 i51 := by kernel_rfl
 i59 := by kernel_rfl
 i146 := by kernel_rfl
 m1 := by kernel_rfl
 s1_3 := fun w h => Go.Proofs.cell_of_shapedOpen_int (zero := #[.int .i64 0]) (t := 3) h (of_decide_eq_true (by kernel_rfl)) (by kernel_rfl) rfl (by kernel_rfl) (by kernel_rfl) Tryz.underlying3 }
open Go.RowKit Go.Lib in
theorem Tryz.strings_Cut_shaped (s sep : ByteArray) (w : World) (h : w.ShapedOpen Tryz.prog) (hs : s.size < 4294967281) :
  Calls Tryz.prog 43 #[.string s, .string sep] w fun e w' => e = .returned (.tuple #[.string ⟨(Lib.cut s.data.toList sep.data.toList).1.toArray⟩, .string ⟨(Lib.cut s.data.toList sep.data.toList).2.1.toArray⟩, .bool (Lib.cut s.data.toList sep.data.toList).2.2]) ∧ ∃ n, w' = w.drewN n := Any.strings_Cut_shaped Tryz.laysM145 s sep w h hs
def Tryz.lays149_ren : Go.Shelf.Ren := ⟨fun | 149 => 54 | 222 => 79 | n => n, fun | 9 => 9 | 5 => 5 | 3 => 3 | 4 => 4 | n => n, fun | n => n⟩
theorem Tryz.lays149 : Go.Proofs.Lays.n149 Tryz.prog Tryz.lays149_ren := {
 mixed := by kernel_rfl
 f149 := Tryz.func54.trans (congrArg some (by kernel_rfl))
 f222 := Tryz.func79.trans (congrArg some (by kernel_rfl))
 t3 := Tryz.underlying3
 a3 := Tryz.isAgg3
 z3 := Tryz.sizeOf3
 v3 := Tryz.zeroValue3
 t4 := Tryz.underlying4
 a4 := Tryz.isAgg4
 z4 := Tryz.sizeOf4
 v4 := Tryz.zeroValue4
 t5 := Tryz.underlying5
 a5 := Tryz.isAgg5
 z5 := Tryz.sizeOf5
 v5 := Tryz.zeroValue5
 t9 := Tryz.underlying9
 a9 := Tryz.isAgg9
 z9 := Tryz.sizeOf9
 v9 := Tryz.zeroValue9 }
open Go.RowKit Go.Lib in
theorem Tryz.strings_LastIndexByte (s : ByteArray) (c : Int) (hs : s.size < 4611686018427387904) (w : World) :
  Calls Tryz.prog 54 #[.string s, .int .u8 c] w fun e w' => e = .returned (.int .i64 (Lib.lastIndexByte s c)) ∧ w' = w := Any.strings_LastIndexByte Tryz.lays149 s c hs w
def Tryz.lays100_ren : Go.Shelf.Ren := ⟨fun | 100 => 52 | 207 => 77 | n => n, fun | 9 => 9 | 4 => 4 | 3 => 3 | n => n, fun | n => n⟩
theorem Tryz.lays100 : Go.Proofs.Lays.n100 Tryz.prog Tryz.lays100_ren := {
 mixed := by kernel_rfl
 f100 := Tryz.func52.trans (congrArg some (by kernel_rfl))
 f207 := Tryz.func77.trans (congrArg some (by kernel_rfl))
 t3 := Tryz.underlying3
 a3 := Tryz.isAgg3
 z3 := Tryz.sizeOf3
 v3 := Tryz.zeroValue3
 t4 := Tryz.underlying4
 a4 := Tryz.isAgg4
 z4 := Tryz.sizeOf4
 v4 := Tryz.zeroValue4
 t9 := Tryz.underlying9
 a9 := Tryz.isAgg9
 z9 := Tryz.sizeOf9
 v9 := Tryz.zeroValue9 }
open Go.RowKit Go.Lib in
theorem Tryz.strings_HasSuffix (s p : ByteArray) (w : World) (hs : s.size ≤ 9223372036854775807) :
  Calls Tryz.prog 52 #[.string s, .string p] w fun e w' => e = .returned (.bool (Lib.hasSuffix s.data.toList p.data.toList)) ∧ w' = w := Any.strings_HasSuffix Tryz.lays100 s p w hs
def Tryz.laysM146_ren : Go.Shelf.Ren := ⟨fun | 146 => 88 | 221 => 114 | 268 => 133 | 138 => 134 | 143 => 81 | 195 => 146 | 197 => 117 | 218 => 147 | 219 => 87 | 260 => 136 | 217 => 110 | 225 => 111 | 224 => 112 | 267 => 113 | 266 => 131 | 314 => 132 | n => n, fun | 9 => 9 | 31 => 47 | 3 => 3 | 4 => 4 | 0 => 0 | 105 => 134 | 21 => 21 | 5 => 5 | 46 => 75 | 119 => 164 | 139 => 167 | 138 => 166 | 146 => 149 | 51 => 146 | n => n, fun | 1 => 0 | 3 => 4 | 4 => 5 | n => n⟩
theorem Tryz.laysM146 : Go.Proofs.LaysM.n146 Tryz.prog Tryz.laysM146_ren := {
 mixed := by kernel_rfl
 f138 := Tryz.func134.trans (congrArg some (by kernel_rfl))
 f143 := Tryz.func81.trans (congrArg some (by kernel_rfl))
 f146 := Tryz.func88.trans (congrArg some (by kernel_rfl))
 f195 := Tryz.func146.trans (congrArg some (by kernel_rfl))
 f197 := Tryz.func117.trans (congrArg some (by kernel_rfl))
 f217 := Tryz.func110.trans (congrArg some (by kernel_rfl))
 f218 := Tryz.func147.trans (congrArg some (by kernel_rfl))
 f219 := Tryz.func87.trans (congrArg some (by kernel_rfl))
 f221 := Tryz.func114.trans (congrArg some (by kernel_rfl))
 f224 := Tryz.func112.trans (congrArg some (by kernel_rfl))
 f225 := Tryz.func111.trans (congrArg some (by kernel_rfl))
 f260 := Tryz.func136.trans (congrArg some (by kernel_rfl))
 f266 := Tryz.func131.trans (congrArg some (by kernel_rfl))
 f267 := Tryz.func113.trans (congrArg some (by kernel_rfl))
 f268 := Tryz.func133.trans (congrArg some (by kernel_rfl))
 f314 := Tryz.func132.trans (congrArg some (by kernel_rfl))
 t0 := Tryz.underlying0
 a0 := Tryz.isAgg0
 z0 := Tryz.sizeOf0
 v0 := Tryz.zeroValue0
 t3 := Tryz.underlying3
 a3 := Tryz.isAgg3
 z3 := Tryz.sizeOf3
 v3 := Tryz.zeroValue3
 t4 := Tryz.underlying4
 a4 := Tryz.isAgg4
 z4 := Tryz.sizeOf4
 v4 := Tryz.zeroValue4
 t5 := Tryz.underlying5
 a5 := Tryz.isAgg5
 z5 := Tryz.sizeOf5
 v5 := Tryz.zeroValue5
 t9 := Tryz.underlying9
 a9 := Tryz.isAgg9
 z9 := Tryz.sizeOf9
 v9 := Tryz.zeroValue9
 t21 := Tryz.underlying21
 a21 := Tryz.isAgg21
 z21 := Tryz.sizeOf21
 v21 := Tryz.zeroValue21
 t31 := Tryz.underlying47
 a31 := Tryz.isAgg47
 z31 := Tryz.sizeOf47
 v31 := Tryz.zeroValue47
 t46 := Tryz.underlying75
 a46 := Tryz.isAgg75
 z46 := Tryz.sizeOf75
 v46 := Tryz.zeroValue75
 t51 := Tryz.underlying146
 a51 := Tryz.isAgg146
 z51 := Tryz.sizeOf146
 v51 := Tryz.zeroValue146
 t105 := Tryz.underlying134
 a105 := Tryz.isAgg134
 z105 := Tryz.sizeOf134
 v105 := Tryz.zeroValue134
 t119 := Tryz.underlying164
 a119 := Tryz.isAgg164
 z119 := Tryz.sizeOf164
 t138 := Tryz.underlying166
 a138 := Tryz.isAgg166
 z138 := Tryz.sizeOf166
 v138 := Tryz.zeroValue166
 t139 := Tryz.underlying167
 a139 := Tryz.isAgg167
 z139 := Tryz.sizeOf167
 v139 := Tryz.zeroValue167
 t146 := Tryz.underlying149
 a146 := Tryz.isAgg149
 z146 := Tryz.sizeOf149
 v146 := Tryz.zeroValue149
 g1 := by kernel_rfl
 g3 := by kernel_rfl
 g4 := by kernel_rfl
 i0 := by kernel_rfl
 i3 := by kernel_rfl
 i4 := by kernel_rfl
 i5 := by kernel_rfl
 i9 := by kernel_rfl
 i21 := by kernel_rfl
 i31 := by kernel_rfl
 i46 := by kernel_rfl
 i51 := by kernel_rfl
 i105 := by kernel_rfl
 i138 := by kernel_rfl
 i139 := by kernel_rfl
 i146 := by kernel_rfl
 m1 := by kernel_rfl
 s1_3 := fun w h => Go.Proofs.cell_of_shapedOpen_int (zero := #[.int .i64 0]) (t := 3) h (of_decide_eq_true (by kernel_rfl)) (by kernel_rfl) rfl (by kernel_rfl) (by kernel_rfl) Tryz.underlying3
 m3 := by kernel_rfl
 m4 := by kernel_rfl }
open Go.RowKit Go.Lib in
theorem Tryz.strings_Split_shaped (s sep : ByteArray) (w : World) (h : w.ShapedOpen Tryz.prog) (hs : s.size < 4294967281) (h1 : 1 ≤ sep.size) :
  Calls Tryz.prog 88 #[.string s, .string sep] w fun e w' =>
   e = .returned (.slice (some ⟨w.heap.size, 0, none⟩) (Lib.countB s sep + 1) (Lib.countB s sep + 1)) ∧ w' = w.alloc (.cells ((Lib.splitB sep 0 (Lib.countB s sep) s).map Value.string).toArray 9) := Any.strings_Split_shaped Tryz.laysM146 s sep w h hs h1
theorem Tryz.strings_Trim_laid (s cutset : ByteArray) (w : World) (hs : s.size ≤ 9223372036854775807) (hcs : cutset.size < 4294967281) (hascii : ∀ (j : Nat) b, cutset.data.toList[j]? = some b → b.toNat < 128) :
  Calls Tryz.prog 69 #[.string s, .string cutset] w fun e w' => e = .returned (.string ⟨(Lib.trimS s.data.toList cutset.data.toList).toArray⟩) ∧ Go.RowKit.Below w.heap.size w w' := Any.strings_Trim_laid Tryz.lays160 (by kernel_rfl) s cutset w hs hcs hascii
end Go.Proofs
