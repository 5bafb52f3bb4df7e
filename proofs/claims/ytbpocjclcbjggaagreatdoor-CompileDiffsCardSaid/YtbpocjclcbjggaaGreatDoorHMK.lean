/- The keys of the maps: numbers, texts, addresses of stations, addresses. -/
import Derived.Test.YtbpocjclcbjggaaGreatDoorHMS
import Derived.Test.YtbpocjclcbjggaaGreatDoorProg
import Derived.KernelRfl
namespace Go.Proofs.YtbpocjclcbjggaaGreatDoor
open Go.RowKit Go.VM
set_option maxRecDepth 100000
abbrev MacT:=Int×Int×Int×Int×Int×Int
abbrev AddrT:=Bool×Int×Int
def encI(n:Int):Value:=.int .i64 n
def encS(s:List UInt8):Value:=.string ⟨s.toArray⟩
def encM(m:MacT):Value:=.agg #[.int .u8 m.1,.int .u8 m.2.1,.int .u8 m.2.2.1,.int .u8 m.2.2.2.1,.int .u8 m.2.2.2.2.1,.int .u8 m.2.2.2.2.2]
def encA(a:AddrT):Value:=.agg #[.bool a.1,.int .u64 a.2.1,.int .u64 a.2.2]
theorem keyI:KeyE Tryz.prog 3 encI:=keyE_now Tryz.underlying3 (fun _=>rfl) (fun x y=>by simp[encI,Instr.sameNow];rfl) fun x=>by simp[encI,Instr.sameBits]
theorem bytes_beq(x y:List UInt8):((⟨x.toArray⟩:ByteArray)==⟨y.toArray⟩)=decide (x=y):=by
 show(x.toArray==y.toArray)=_;rw[List.beq_toArray];by_cases h:x=y<;>simp[h]
theorem keyS:KeyE Tryz.prog 9 encS:=keyE_now Tryz.underlying9 (fun _=>trivial) (fun x y=>by
 simp only[encS,Instr.sameNow,Option.some.injEq];exact bytes_beq x y) fun x=>by
 simp only[encS,Instr.sameBits];rw[bytes_beq];simp
theorem keyM:KeyE Tryz.prog 51 encM:=by
 refine keyE_wide (by kernel_rfl) (fun e x w=>?_) (fun x y w=>?_) fun x=>by simp[encM,Instr.sameBits]
 .obtain⟨a,b,c,d,f,g⟩:=x;cases e<;>kernel_rfl
 .obtain⟨a,b,c,d,f,g⟩:=x;obtain⟨a',b',c',d',f',g'⟩:=y;have hF:aAY Tryz.prog 3 51=some [.i,.i,.i,.i,.i,.i]:=by kernel_rfl
  obtain⟨gg,h1,_,_,h4⟩:=aCT (P:=Tryz.prog) (w:=w) (A:=fun _ _ _ _ _ _=>True) (B:=[]) 3 51 _ hF;obtain rfl:gg=true:=Option.some.inj (h1.symm.trans (by kernel_rfl));have:=h4 10000 (by omega) [.int .u8 a,.int .u8 b,.int .u8 c,.int .u8 d,.int .u8 f,.int .u8 g] [.int .u8 a',.int .u8 b',.int .u8 c',.int .u8 d',.int .u8 f',.int .u8 g'] [.int .u8 a,.int .u8 b,.int .u8 c,.int .u8 d,.int .u8 f,.int .u8 g] [.int .u8 a',.int .u8 b',.int .u8 c',.int .u8 d',.int .u8 f',.int .u8 g'] _ (by repeat (first|exact .nil|refine .cons _ _ _ _ (.int _ _) ?_)) (by repeat (first|exact .nil|refine .cons _ _ _ _ (.int _ _) ?_)) rfl;refine this.trans ?_;congr 1;simp only[Prod.mk.injEq,Bool.and_true];rw[Bool.eq_iff_iff];simp
theorem keyA:KeyE Tryz.prog 25 encA:=by
 refine keyE_wide (by kernel_rfl) (fun e x w=>?_) (fun x y w=>?_) fun x=>by simp[encA,Instr.sameBits]
 .obtain⟨a,b,c⟩:=x;cases e<;>kernel_rfl
 .obtain⟨a,b,c⟩:=x;obtain⟨a',b',c'⟩:=y;have hF:aAY Tryz.prog 3 25=some [.b,.i,.i]:=by kernel_rfl
  obtain⟨gg,h1,_,_,h4⟩:=aCT (P:=Tryz.prog) (w:=w) (A:=fun _ _ _ _ _ _=>True) (B:=[]) 3 25 _ hF;obtain rfl:gg=true:=Option.some.inj (h1.symm.trans (by kernel_rfl));have:=h4 10000 (by omega) [.bool a,.int .u64 b,.int .u64 c] [.bool a',.int .u64 b',.int .u64 c'] [.bool a,.int .u64 b,.int .u64 c] [.bool a',.int .u64 b',.int .u64 c'] _ (.cons _ _ _ _ (.bool _) (.cons _ _ _ _ (.int _ _) (.cons _ _ _ _ (.int _ _) .nil))) (.cons _ _ _ _ (.bool _) (.cons _ _ _ _ (.int _ _) (.cons _ _ _ _ (.int _ _) .nil))) rfl;refine this.trans ?_;congr 1;simp only[Prod.mk.injEq,Bool.and_true];rw[Bool.eq_iff_iff];simp
theorem zeroB(w:World):(zeroValue 4).run Tryz.prog w=.ok (.bool false) w:=by kernel_rfl
end Go.Proofs.YtbpocjclcbjggaaGreatDoor
