/- The contracts of Go's library that are used, at this program. -/
import Derived.Shelf.Strings.SlTrimAscii
import Derived.Test.YtbpocjclcbjggaaGreatDoorProg
namespace Go.Proofs
open Go.Shelf
def Tryz.lays160_ren:Go.Shelf.Ren:=⟨fun|160=>133|232=>159|231=>158|227=>160|234=>162|233=>161|236=>164|235=>163|228=>180|271=>182|151=>181|197=>153|120=>191|152=>190|260=>174|137=>194|119=>195|224=>177|225=>176|217=>175|266=>188|n=>n,fun|9=>9|4=>4|3=>3|5=>5|117=>191|116=>190|0=>0|124=>194|21=>21|105=>186|46=>96|119=>207|139=>210|138=>209|n=>n,fun|3=>2|4=>3|n=>n⟩
theorem Tryz.lays160:Go.Proofs.Lays.n160 Tryz.prog Tryz.lays160_ren:={
 mixed:=by kernel_rfl
 f119:=Tryz.func195.trans (congrArg some (by kernel_rfl))
 f120:=Tryz.func191.trans (congrArg some (by kernel_rfl))
 f137:=Tryz.func194.trans (congrArg some (by kernel_rfl))
 f151:=Tryz.func181.trans (congrArg some (by kernel_rfl))
 f152:=Tryz.func190.trans (congrArg some (by kernel_rfl))
 f160:=Tryz.func133.trans (congrArg some (by kernel_rfl))
 f197:=Tryz.func153.trans (congrArg some (by kernel_rfl))
 f217:=Tryz.func175.trans (congrArg some (by kernel_rfl))
 f224:=Tryz.func177.trans (congrArg some (by kernel_rfl))
 f225:=Tryz.func176.trans (congrArg some (by kernel_rfl))
 f227:=Tryz.func160.trans (congrArg some (by kernel_rfl))
 f228:=Tryz.func180.trans (congrArg some (by kernel_rfl))
 f231:=Tryz.func158.trans (congrArg some (by kernel_rfl))
 f232:=Tryz.func159.trans (congrArg some (by kernel_rfl))
 f233:=Tryz.func161.trans (congrArg some (by kernel_rfl))
 f234:=Tryz.func162.trans (congrArg some (by kernel_rfl))
 f235:=Tryz.func163.trans (congrArg some (by kernel_rfl))
 f236:=Tryz.func164.trans (congrArg some (by kernel_rfl))
 f260:=Tryz.func174.trans (congrArg some (by kernel_rfl))
 f266:=Tryz.func188.trans (congrArg some (by kernel_rfl))
 f271:=Tryz.func182.trans (congrArg some (by kernel_rfl))
 t0:=Tryz.underlying0
 a0:=Tryz.isAgg0
 z0:=Tryz.sizeOf0
 v0:=Tryz.zeroValue0
 t3:=Tryz.underlying3
 a3:=Tryz.isAgg3
 z3:=Tryz.sizeOf3
 v3:=Tryz.zeroValue3
 t4:=Tryz.underlying4
 a4:=Tryz.isAgg4
 z4:=Tryz.sizeOf4
 v4:=Tryz.zeroValue4
 t5:=Tryz.underlying5
 a5:=Tryz.isAgg5
 z5:=Tryz.sizeOf5
 v5:=Tryz.zeroValue5
 t9:=Tryz.underlying9
 a9:=Tryz.isAgg9
 z9:=Tryz.sizeOf9
 v9:=Tryz.zeroValue9
 t21:=Tryz.underlying21
 a21:=Tryz.isAgg21
 z21:=Tryz.sizeOf21
 v21:=Tryz.zeroValue21
 t46:=Tryz.underlying96
 a46:=Tryz.isAgg96
 z46:=Tryz.sizeOf96
 v46:=Tryz.zeroValue96
 t105:=Tryz.underlying186
 a105:=Tryz.isAgg186
 z105:=Tryz.sizeOf186
 v105:=Tryz.zeroValue186
 t116:=Tryz.underlying190
 a116:=Tryz.isAgg190
 z116:=Tryz.sizeOf190
 t117:=Tryz.underlying191
 a117:=Tryz.isAgg191
 z117:=Tryz.sizeOf191
 v117:=Tryz.zeroValue191
 t119:=Tryz.underlying207
 a119:=Tryz.isAgg207
 z119:=Tryz.sizeOf207
 t124:=Tryz.underlying194
 a124:=Tryz.isAgg194
 z124:=Tryz.sizeOf194
 v124:=Tryz.zeroValue194
 t138:=Tryz.underlying209
 a138:=Tryz.isAgg209
 z138:=Tryz.sizeOf209
 v138:=Tryz.zeroValue209
 t139:=Tryz.underlying210
 a139:=Tryz.isAgg210
 z139:=Tryz.sizeOf210
 v139:=Tryz.zeroValue210
 g3:=by kernel_rfl
 g4:=by kernel_rfl}
theorem Tryz.strings_Trim_laid(s cutset:ByteArray)(w:World)(hs:s.size<=9223372036854775807)(hcs:cutset.size<4294967281)(hascii:∀(j:Nat) b,cutset.data.toList[j]?=some b->b.toNat<128) :
  Calls Tryz.prog 133 #[.string s,.string cutset] w fun e w'=>e=.returned (.string ⟨(Lib.trimS s.data.toList cutset.data.toList).toArray⟩)/\Go.RowKit.Below w.heap.size w w':=Any.strings_Trim_laid Tryz.lays160 (by kernel_rfl) s cutset w hs hcs hascii
end Go.Proofs
