/- From the translated code to the plain machine's: a function that fails where the machine has no word. -/
import Derived.Test.YtndaipcfahfkkaaVM1
namespace Go.VM

def ofCell : Value → Option V
  | .bool b => some (.bool b)
  | .int k n => some (.int k n)
  | .string s => some (.str s.data.toList)
  | .pointer none => some .nilp
  | .slice none 0 0 => some .nils
  | .nilFunc => some .nilf
  | .nilIface => some .nili
  | _ => none
def ofCells : List Value → Option (List V)
  | [] => some []
  | c :: r => match ofCell c, ofCells r with
    | some v, some vs => some (v :: vs)
    | _, _ => none
def ofConst : Value → Option V
  | .agg cs => (ofCells cs.toList).map .agg
  | v => ofCell v

def opdOf : Operand → Option Opd
  | .tmp t => some (.tmp t)
  | .const v => (ofConst v).map .const
  | .func f => some (.const (.fn (.func f) [] []))
  | .global _ => none
def opdsOf : List Operand → Option (List Opd)
  | [] => some []
  | x :: r => match opdOf x, opdsOf r with
    | some y, some ys => some (y :: ys)
    | _, _ => none
def opdO : Option Operand → Option (Option Opd)
  | none => some none
  | some x => (opdOf x).map some

def sizeT (P : Program) (t : TypeId) : Option Nat := (P.info? t).map (·.size)
def zerosT (P : Program) (t : TypeId) : Option (List V) :=
  match P.info? t with
  | some i => match i.zero with
    | some z => if z.cells.size = i.size ∧ 0 < i.size then ofCells z.cells.toList else none
    | none => none
  | none => none
def aggT (P : Program) (t : TypeId) : Option Bool :=
  match P.underlying t with
  | some (.struct _) => some true
  | some (.array _ _) => some true
  | some _ => some false
  | none => none

/-- Numbers, bools and strings throughout, one behind the other, no blank field: such values are compared cell by cell. -/
def flatFs (P : Program) (g : TypeId → Option (List CK)) : List Field → Nat → Option (List CK)
  | [], _ => some []
  | f :: r, off => match g f.type, flatFs P g r (off + P.cellsOf f.type) with
    | some ks, some ls => if f.name ≠ "_" ∧ f.offset = off ∧ ks.length = P.cellsOf f.type ∧ 0 < ks.length then some (ks ++ ls) else none
    | _, _ => none
def flatK (P : Program) : Nat → TypeId → Option (List CK)
  | 0, _ => none
  | d + 1, t => match P.underlying t with
    | some .bool => if sizeT P t = some 1 then some [.b] else none
    | some (.int _) => if sizeT P t = some 1 then some [.i] else none
    | some .string => if sizeT P t = some 1 then some [.s] else none
    | some (.struct fs) => match flatFs P (flatK P d) fs.toList 0 with
      | some ks => if P.stoodInHeld t = false ∧ sizeT P t = some ks.length then some ks else none
      | none => none
    | some (.array n e) => match flatK P d e with
      | some ks => if sizeT P e = some ks.length ∧ sizeT P t = some (n * ks.length) ∧ 0 < ks.length then some (List.replicate n ks).flatten else none
      | none => none
    | _ => none
/-- No slice, pointer, function or interface inside. -/
def plainT (P : Program) : Nat → TypeId → Bool
  | 0, _ => false
  | d + 1, t => match P.underlying t with
    | some .bool => true
    | some (.int _) => true
    | some .string => true
    | some (.struct fs) => fs.toList.all fun f => plainT P d f.type
    | some (.array _ e) => plainT P d e
    | _ => false

structure Hints where
  esc : List Nat
  rt : List (Nat × RT)
  cut : List Nat
  quiet : List Nat
  avoid : List (Nat × List Nat)

def avOf (h : Hints) : Option Nat → List Nat
  | some d => match h.avoid.find? (·.1 == d) with
    | some x => x.2
    | none => []
  | none => []
def quOf (h : Hints) : Option Nat → Bool
  | some d => h.quiet.contains d
  | none => false

def rtOf (h : Hints) : Operand → RT
  | .tmp t => match h.rt.find? (·.1 == t) with
    | some x => x.2
    | none => .b
  | _ => .b
def RT.withAv (av : List Nat) : RT → RT
  | .e _ => .e av
  | .r s => .r s
  | .b => .b
def rootOf (h : Hints) (x : Operand) : Nat :=
  match rtOf h x with
  | .r s => s
  | _ => 0

def partsS (P : Program) (fs : Array Field) : List (Nat × Operand) → Option (List (Nat × Nat × Opd))
  | [] => some []
  | (i, x) :: r => match fs[i]?, opdOf x, partsS P fs r with
    | some f, some y, some ys => (sizeT P f.type).map fun sz => (f.offset, sz, y) :: ys
    | _, _, _ => none
def partsA (z : Nat) : List (Nat × Operand) → Option (List (Nat × Nat × Opd))
  | [] => some []
  | (i, x) :: r => match opdOf x, partsA z r with
    | some y, some ys => some ((i * z, z, y) :: ys)
    | _, _ => none

def isConstO : Operand → Bool
  | .const _ => true
  | _ => false

/-- What '==' at this type is asked at. -/
def eqT (P : Program) (t : TypeId) (x y : Operand) : Option EK :=
  match P.underlying t with
  | some .bool => some .bool
  | some (.slice _) => some .sl
  | some (.pointer _) => some .ptr
  | some (.func _ _ _) => some .fn
  | some (.interface _) => if isConstO x || isConstO y then some .iface else none
  | some (.struct _) | some (.array _ _) => if P.eqGuardType P.depth t = false then (flatK P 20 t).map .flat else none
  | _ => none
def scalarT (P : Program) (t : TypeId) : Bool :=
  match P.underlying t with
  | some (.int _) | some .string => true
  | _ => false

def compileOp (P : Program) (h : Hints) (d : Option Nat) : Op → Option VOp
  | .move x | .assign x => (opdOf x).map .mv
  | .pick c a b => match opdOf c, opdOf a, opdOf b with
    | some c, some a, some b => some (.pick c a b)
    | _, _, _ => none
  | .alloc t => match zerosT P t with
    | some zs => if (d.map h.esc.contains).getD false then some (.allocB zs) else some (.allocR zs)
    | none => none
  | .box t x => match sizeT P t, opdOf x with
    | some sz, some x => if (d.map h.esc.contains).getD false then some (.boxB sz x) else some (.boxR sz x)
    | _, _ => none
  | .build t parts => match zerosT P t, P.underlying t with
    | some zs, some (.struct fs) => if (fs.toList.all fun f => (P.info? f.type).isSome) = true then (partsS P fs parts.toList).map (.build zs) else none
    | some zs, some (.array _ e) => match sizeT P e with
      | some z => (partsA z parts.toList).map (.build zs)
      | none => none
    | _, _ => none
  | .buildSlice t len parts => match P.underlying t with
    | some (.slice e) => match sizeT P e, zerosT P e with
      | some z, some zs => if len * z ≤ 16777216 ∧ 0 < len then (partsA z parts.toList).map (.bslice (!plainT P 20 e) z len zs) else none
      | _, _ => none
    | _ => none
  | .load t a => match aggT P t, sizeT P t, opdOf a with
    | some g, some sz, some y => if 0 < sz then some (.load ((rtOf h a).withAv (avOf h d)) g sz y) else none
    | _, _, _ => none
  | .store t a x => match sizeT P t, opdOf a, opdOf x with
    | some sz, some y, some x => if 0 < sz then some (.store (rtOf h a) sz y x) else none
    | _, _, _ => none
  | .nilCheck x => (opdOf x).map .nilck
  | .binOp op t x y _ => match opdOf x, opdOf y with
    | some u, some v => if scalarT P t then some (.bin op u v) else match op with
      | .eql => (eqT P t x y).map fun k => .eq false k u v
      | .neq => (eqT P t x y).map fun k => .eq true k u v
      | _ => none
    | _, _ => none
  | .unOp op _ x => (opdOf x).map (.unop op)
  | .convert src dst x => match P.underlying src, P.underlying dst, opdOf x with
    | some (.int _), some (.int k), some y => some (.convI k y)
    | some .string, some .string, some y => some (.convS y)
    | some (.slice e), some .string, some y => match P.underlying e with
      | some (.int .u8) => some (.toStr y (avOf h d))
      | _ => none
    | some .string, some (.slice e), some y => match P.underlying e with
      | some (.int .u8) => some (.toBytes y)
      | _ => none
    | _, _, _ => none
  | .sliceToArrayPointer t x => match P.underlying t, opdOf x with
    | some (.array n e), some y => (sizeT P e).map fun z => .arrptr n z y
    | _, _ => none
  | .makeInterface t x => match P.underlying t, opdOf x with
    | some (.interface _), _ => none
    | some _, some y => some (.mkiface t y)
    | _, _ => none
  | .makeFunc fn a b => match opdsOf a.toList, opdsOf b.toList with
    | some a, some b => some (.mkfn fn a b)
    | _, _ => none
  | .makeSlice t l c => match P.underlying t, opdOf l, opdOf c with
    | some (.slice e), some l, some c => match P.info? e, zerosT P e with
      | some i, some zs => some (.mkslice i.size i.bytes zs l c)
      | _, _ => none
    | _, _, _ => none
  | .slice t x lo hi none => match P.underlying t, opdOf x, opdO lo, opdO hi with
    | some .string, some y, some lo, some hi => some (.cutS y lo hi)
    | some (.slice e), some y, some lo, some hi => (sizeT P e).map fun z => .cut z y lo hi
    | some (.array n e), some y, some lo, some hi => if n ≤ maxLen then (sizeT P e).map fun z => .cutR (rootOf h x) n z y lo hi else none
    | _, _, _, _ => none
  | .fieldAddr t x f => match P.underlying t, opdOf x with
    | some (.struct fs), some y => match fs[f]? with
      | some g => match sizeT P g.type with
        | some sz => if 0 < sz then some (.fieldA g.offset y) else none
        | none => none
      | none => none
    | _, _ => none
  | .field t x f => match P.underlying t, opdOf x with
    | some (.struct fs), some y => match fs[f]? with
      | some g => match aggT P g.type, sizeT P g.type with
        | some a, some sz => some (.field a g.offset sz y)
        | _, _ => none
      | none => none
    | _, _ => none
  | .indexAddr t x i => match P.underlying t, opdOf x, opdOf i with
    | some (.slice e), some y, some j => (sizeT P e).map fun z => .idxS z y j
    | some (.array n e), some y, some j => (sizeT P e).map fun z => .idxA n z y j
    | _, _, _ => none
  | .index t x i => match P.underlying t, opdOf x, opdOf i with
    | some (.array n e), some y, some j => match aggT P e, sizeT P e with
      | some a, some z => some (.ixA a n z y j)
      | _, _ => none
    | some .string, some y, some j => some (.ixS y j)
    | _, _, _ => none
  | .extract x i => (opdOf x).map (.extract i)
  | .call c => match c.callee with
    | .value (.func f) => (opdsOf c.args.toList).map fun ys => .call f ys (quOf h d) (avOf h d)
    | .value x => match opdOf x, opdsOf c.args.toList with
      | some x, some ys => some (.callv x ys (quOf h d) (avOf h d))
      | _, _ => none
    | .builtin .append => match c.argTypes.toList, c.args.toList with
      | [t, u], [s, x] => match P.underlying t, P.underlying u, opdOf s, opdOf x with
        | some (.slice e), some (.slice _), some s, some x => (P.info? e).bind fun i => match i.zero with
          | some zv => if zv.cells.size = i.size ∧ 0 < i.size then some (.append i.size i.bytes ((d.map h.cut.contains).getD false) s x (avOf h d)) else none
          | none => none
        | some (.slice e), some .string, some s, some x => (P.info? e).bind fun i => match i.zero with
          | some zv => if zv.cells.size = i.size ∧ 0 < i.size then some (.append i.size i.bytes ((d.map h.cut.contains).getD false) s x (avOf h d)) else none
          | none => none
        | _, _, _, _ => none
      | _, _ => none
    | .builtin .len => match c.argTypes.toList, c.args.toList with
      | [t], [x] => match P.underlying t, opdOf x with
        | some .string, some y => some (.len true y)
        | some (.slice _), some y => some (.len false y)
        | some (.array n _), _ => some (.lenC n)
        | _, _ => none
      | _, _ => none
    | .builtin .min => match opdsOf c.args.toList with
      | some (x :: r) => some (.minmax false x r)
      | _ => none
    | .builtin .max => match opdsOf c.args.toList with
      | some (x :: r) => some (.minmax true x r)
      | _ => none
    | _ => none
  | _ => none

/- what an operation looks at and what it writes -/
def Opd.slots : Opd → List Nat
  | .tmp t => [t]
  | .const _ => []
def optSlots : Option Opd → List Nat
  | some x => x.slots
  | none => []
def VOp.reads : VOp → List Nat
  | .mv x | .boxR _ x | .boxB _ x | .load _ _ _ x | .nilck x | .unop _ x | .convI _ x | .convS x | .toStr x _ | .toBytes x | .fieldA _ x | .field _ _ _ x | .len _ x | .extract _ x | .arrptr _ _ x | .mkiface _ x => x.slots
  | .pick c a b => c.slots ++ a.slots ++ b.slots
  | .allocR _ | .allocB _ | .lenC _ | .fail => []
  | .build _ ps | .bslice _ _ _ _ ps => ps.flatMap fun p => p.2.2.slots
  | .store _ _ a x | .bin _ a x | .eq _ _ a x | .idxS _ a x | .idxA _ _ a x | .ixA _ _ _ a x | .ixS a x | .mkslice _ _ _ a x | .append _ _ _ a x _ => a.slots ++ x.slots
  | .cutS x lo hi | .cut _ x lo hi | .cutR _ _ _ x lo hi => x.slots ++ optSlots lo ++ optSlots hi
  | .call _ xs _ _ => xs.flatMap Opd.slots
  | .callv x xs _ _ => x.slots ++ xs.flatMap Opd.slots
  | .mkfn _ a b => a.flatMap Opd.slots ++ b.flatMap Opd.slots
  | .minmax _ x xs => x.slots ++ xs.flatMap Opd.slots
def VOp.roots : VOp → List Nat
  | .load (.r s) _ _ _ => [s]
  | .cutR s _ _ _ _ _ => [s]
  | _ => []
/-- An answer alone. -/
def VOp.isP : VOp → Bool
  | .store .. | .call .. | .callv .. | .allocB _ | .boxB .. | .bslice true _ _ _ _ | .append .. => false
  | _ => true
/-- It does not ask whether a variable is as it was. -/
def VOp.calm : VOp → Bool
  | .load (.e _) _ _ _ | .toStr _ _ | .append .. | .call .. | .callv .. => false
  | _ => true
/-- .. or not whether one of these is. -/
def VOp.calmFor (ds : List Nat) : VOp → Bool
  | .call _ _ _ av | .callv _ _ _ av | .load (.e av) _ _ _ | .toStr _ av | .append _ _ _ _ _ av => ds.all av.contains
  | op => op.calm
/-- It looks at the shared variables. -/
def VOp.looksB : VOp → Bool
  | .load .b _ _ _ => true
  | _ => false
/-- It leaves the shared variables alone. -/
def VOp.leavesB : VOp → Bool
  | .call _ _ q _ | .callv _ _ q _ => q
  | .allocB _ | .boxB .. | .store .b _ _ _ => false
  | _ => true
/-- What may stand beside an answer in an open order. -/
def VOp.mild : VOp → Bool
  | .call .. | .callv .. | .append _ _ false _ _ _ | .bslice true _ _ _ _ | .allocB _ | .boxB .. | .store .b _ _ _ => true
  | _ => false
def VOper.slots (o : VOper) : List Nat := o.op.reads ++ o.op.roots ++ o.dst.toList ++ (o.guard.map (·.1)).toList
def storeRoot : VOp → Option Nat
  | .store (.r s) _ _ _ => some s
  | _ => none

/-- x and y may go in either order. -/
def apart (x y : VOper) : Bool :=
  (x.dst.toList.all fun d => !y.slots.contains d) && (y.dst.toList.all fun d => !x.slots.contains d)
/-- x is an answer alone; y may be more. -/
def besides (x y : VOper) : Bool :=
  x.op.isP && (!x.op.looksB || y.op.leavesB) && (y.op.isP || y.op.mild || (match storeRoot y.op with
    | some s => x.op.calm && !(x.op.roots ++ x.dst.toList ++ (x.guard.map (·.1)).toList).contains s
    | none => false))
def loose (x y : VOper) : Bool := apart x y && (besides x y || besides y x) && (!x.op.makesR || y.op.calmFor x.dst.toList) && (!y.op.makesR || x.op.calmFor y.dst.toList)

/-- All that must go before each operation: bit j of number i. -/
def maskOf (acc : List Nat) : List Edge → Nat
  | [] => 0
  | e :: r => (if Region.binds .any e then 2 ^ e.on ||| acc.getD e.on 0 else 0) ||| maskOf acc r
def precs : List Oper → List Nat → List Nat
  | [], acc => acc
  | o :: r, acc => precs r (acc ++ [maskOf acc o.after.toList])

def looseAll (ps : List Nat) (vs : List VOper) : Bool :=
  (List.range vs.length).all fun i => (List.range i).all fun j => (ps.getD i 0).testBit j || (match vs[j]?, vs[i]? with
    | some x, some y => loose x y
    | _, _ => false)

def compileOper (P : Program) (h : Hints) (N : Nat) (ops : Array Oper) (o : Oper) : Option VOper :=
  if (o.dst.toList.all fun d => decide (d < N)) then
    match o.guard with
    | none => some ⟨o.dst, (compileOp P h o.dst o.op).getD .fail, none⟩
    | some (j, want) => match (ops[j]?).bind (·.dst) with
      | some s => if s < N then some ⟨o.dst, (compileOp P h o.dst o.op).getD .fail, some (s, want)⟩ else none
      | none => none
  else none
def compileOpers (P : Program) (h : Hints) (N : Nat) (ops : Array Oper) : List Oper → Option (List VOper)
  | [] => some []
  | o :: r => match compileOper P h N ops o, compileOpers P h N ops r with
    | some v, some vs => some (v :: vs)
    | _, _ => none

def dstsOf (vs : List VOper) : List Nat := vs.flatMap fun v => v.dst.toList

/-- An operation waits for earlier ones alone. -/
def edgesOk : List Oper → Nat → Bool
  | [], _ => true
  | o :: r, i => (o.after.toList.all fun e => !Region.binds .any e || decide (e.on < i)) && edgesOk r (i + 1)

def compileRegion (P : Program) (h : Hints) (N : Nat) (ops : Array Oper) (draw : Bool) : Option (List VOper) :=
  match compileOpers P h N ops ops.toList with
  | none => none
  | some vs => if (dstsOf vs).Nodup ∧ (draw = true → looseAll (precs ops.toList []) vs = true ∧ edgesOk ops.toList 0 = true ∧ P.follows .mixedOrders = true) then some vs else none

def compileCode (P : Program) (h : Hints) (N : Nat) : Code → Option VC
  | .skip => some .skip
  | .label _ => some .skip
  | .region _ ops draw => (compileRegion P h N ops draw).map .region
  | .seq a b => match compileCode P h N a, compileCode P h N b with
    | some a, some b => some (.seq a b)
    | _, _ => none
  | .cond c a b => match opdOf c, compileCode P h N a, compileCode P h N b with
    | some c, some a, some b => some (.cond c a b)
    | _, _, _ => none
  | .block id a => (compileCode P h N a).map (.block id)
  | .loop a => (compileCode P h N a).map .loop
  | .exit id => some (.exit id)
  | .scope a => (compileCode P h N a).map .scope
  | .ret => some .ret
  | _ => none

def VOp.quiet : VOp → Bool
  | .store .b _ _ _ => false
  | .call _ _ q _ | .callv _ _ q _ => q
  | _ => true
def VC.quiet : VC → Bool
  | .region ops => ops.all fun o => o.op.quiet
  | .seq a b | .cond _ a b => a.quiet && b.quiet
  | .block _ a | .loop a | .scope a => a.quiet
  | _ => true

def compileRes (P : Program) (N : Nat) : List ResultVar → Option (List RV)
  | [] => some []
  | .tmp t :: r => if t < N then (compileRes P N r).map (.tmp t :: ·) else none
  | .cell a t :: r => match aggT P t, sizeT P t with
    | some g, some sz => if a < N ∧ 0 < sz then (compileRes P N r).map (.cell g sz a :: ·) else none
    | _, _ => none

def compileFn (P : Program) (h : Hints) (kept cons : List Nat) (fn : Func) : Option VF :=
  match fn.body with
  | none => none
  | some c => match compileCode P h fn.ntmps c, compileRes P fn.ntmps fn.results.toList with
    | some code, some res => if fn.params.size ≤ 64 ∧ (kept.all fun s => decide (s < fn.ntmps)) ∧ fn.params.size ≤ fn.ntmps ∧ (fn.name == "runtime.NumGoroutine") = false then some ⟨kept, cons, code.quiet, code, res⟩ else none
    | _, _ => none

end Go.VM
