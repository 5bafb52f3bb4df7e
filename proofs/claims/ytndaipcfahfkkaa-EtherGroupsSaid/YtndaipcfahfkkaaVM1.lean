/- A plain machine for the translated code: values without a heap (a slice carries its contents), a deterministic evaluator. Definitions alone. -/
import Derived.WalkKit
namespace Go.VM

/-- Where a slice lies: memory that nobody writes any more; the k-th state of what this call made at 'nm'; a beginning of that; a part of it; a part of an array variable of this call (slot s, made in region number c, as it was behind v stores). 'arg': handed back by a callee: what it was given to use up, gone on with. -/
inductive Lab where
  | none
  | own (nm k : Nat)
  | pre (nm k : Nat)
  | view (nm : Nat)
  | rv (s c v : Nat)
  | arg (i : Nat)
  deriving DecidableEq

/-- 'sl l z n cs': n elements of z cells each. 'ep': the cell 'off' of a row. 'rp', 'reg': a variable of this call's own and its name. 'bp': a cell of a shared variable. 'tup []' is also what an operation leaves that was passed over. -/
inductive V where
  | undef
  | bool (b : Bool)
  | int (k : IntKind) (n : Int)
  | str (s : List UInt8)
  | nilp
  | nilf
  | nili
  | nils
  | sl (l : Lab) (z n : Nat) (cs : List V)
  | ep (l : Lab) (cs : List V) (off : Nat)
  | rp (s c off : Nat)
  | bp (b off : Nat)
  | reg (c v : Nat) (cs : List V)
  | agg (cs : List V)
  | tup (vs : List V)
  | fn (f : Fn) (first cap : List V)
  | iface (t : TypeId) (v : V)

instance : Inhabited V := ⟨.undef⟩

inductive Opd where
  | tmp (t : Nat)
  | const (v : V)

/-- What an address is an address of: a variable of the call's own, a shared one, an element. -/
inductive RT where
  | r (s : Nat)
  | b
  | e (av : List Nat)
  deriving DecidableEq

/-- What '==' is asked at: bools; a slice, a pointer, a function or an interface value against nil; numbers, bools and strings in a row. -/
inductive CK where
  | i
  | b
  | s
  deriving DecidableEq
inductive EK where
  | bool
  | sl
  | ptr
  | fn
  | iface
  | flat (ks : List CK)
  deriving DecidableEq

/-- An operation with its types worked out. A call's 'q': it must leave the shared variables alone; 'av': variables of which it may be given no part. 'fail': the machine has no word for it. -/
inductive VOp where
  | mv (x : Opd)
  | pick (c a b : Opd)
  | allocR (zs : List V)
  | boxR (sz : Nat) (x : Opd)
  | allocB (zs : List V)
  | boxB (sz : Nat) (x : Opd)
  | build (zs : List V) (parts : List (Nat × Nat × Opd))
  | bslice (lky : Bool) (z n : Nat) (zs : List V) (parts : List (Nat × Nat × Opd))
  | load (rt : RT) (agg : Bool) (sz : Nat) (a : Opd)
  | store (rt : RT) (sz : Nat) (a x : Opd)
  | nilck (x : Opd)
  | bin (op : BinOp) (x y : Opd)
  | eq (neq : Bool) (k : EK) (x y : Opd)
  | unop (op : UnOp) (x : Opd)
  | convI (k : IntKind) (x : Opd)
  | convS (x : Opd)
  | toStr (x : Opd) (av : List Nat)
  | toBytes (x : Opd)
  | fieldA (off : Nat) (x : Opd)
  | field (agg : Bool) (off sz : Nat) (x : Opd)
  | idxS (z : Nat) (x i : Opd)
  | idxA (len z : Nat) (x i : Opd)
  | ixA (agg : Bool) (len z : Nat) (x i : Opd)
  | ixS (x i : Opd)
  | cutS (x : Opd) (lo hi : Option Opd)
  | cut (z : Nat) (x : Opd) (lo hi : Option Opd)
  | cutR (s len z : Nat) (x : Opd) (lo hi : Option Opd)
  | mkslice (z bytes : Nat) (zs : List V) (l c : Opd)
  | append (z bytes : Nat) (cut : Bool) (s x : Opd) (av : List Nat)
  | len (st : Bool) (x : Opd)
  | lenC (n : Nat)
  | extract (i : Nat) (x : Opd)
  | arrptr (n z : Nat) (x : Opd)
  | call (f : Nat) (args : List Opd) (q : Bool) (av : List Nat)
  | callv (x : Opd) (args : List Opd) (q : Bool) (av : List Nat)
  | fail
  | mkfn (f : Fn) (first cap : List Opd)
  | mkiface (t : TypeId) (x : Opd)
  | minmax (mx : Bool) (x : Opd) (args : List Opd)

structure VOper where
  dst : Option Nat
  op : VOp
  guard : Option (Nat × Bool)

inductive VC where
  | skip
  | region (ops : List VOper)
  | seq (a b : VC)
  | cond (c : Opd) (a b : VC)
  | block (id : Nat) (body : VC)
  | loop (body : VC)
  | exit (id : Nat)
  | scope (body : VC)
  | ret

inductive RV where
  | tmp (t : Nat)
  | cell (agg : Bool) (sz t : Nat)

/-- A function: the slots that outlive a region, the parameters that are used up, the body, the results. -/
structure VF where
  kept : List Nat
  cons : List Nat
  quiet : Bool
  code : VC
  res : List RV

/-- What a caller has to know of a function: the parameters that are used up; whether it stores into shared variables. -/
structure Sig where
  cons : List Nat
  quiet : Bool

abbrev Env := List (Nat × V)
abbrev BX := List (List V)

structure St where
  clk : Nat
  env : Env
  tips : Nat → Nat
  lk : Nat → Bool
  bx : BX

inductive Ex where
  | nrm
  | exit (id : Nat)
  | ret

def get : Env → Nat → V
  | [], _ => .undef
  | (a, v) :: r, s => if a = s then v else get r s

def set : Env → Nat → V → Env
  | [], s, v => [(s, v)]
  | (a, u) :: r, s, v => if a = s then (a, v) :: r else (a, u) :: set r s v

def upd {α : Type} (f : Nat → α) (a : Nat) (v : α) : Nat → α := fun b => if b = a then v else f b
def updL {α : Type} (f : Nat → α) (v : α) : List Nat → Nat → α
  | [] => f
  | a :: r => upd (updL f v r) a v
def bump (tips : Nat → Nat) : List Nat → Nat → Nat
  | [] => tips
  | nm :: r => upd (bump tips r) nm (bump tips r nm + 1)

/-- The i-th name of what is made at slot d (the first 64 names are the parameters' own). -/
def nmOf (d i : Nat) : Nat := d * 64 + 64 + i

def ev (e : Nat → V) : Opd → V
  | .tmp t => match e t with
    | .reg c _ _ => .rp t c 0
    | v => v
  | .const v => v

/-- A value of one cell that may be handed on: no name of this call's own variables. -/
def V.ok1 : V → Bool
  | .undef => false
  | .rp .. | .reg .. | .tup _ | .agg _ => false
  | .sl (.rv ..) .. | .ep (.rv ..) .. | .sl (.arg _) .. | .ep (.arg _) .. => false
  | _ => true
def V.ok : V → Bool
  | .agg cs => cs.all V.ok1
  | v => v.ok1

def V.cells : V → List V
  | .agg cs => cs
  | v => [v]

def wrapAgg (agg : Bool) (cs : List V) : Option V :=
  if agg then some (.agg cs) else match cs with
    | [v] => if v.ok1 then some v else none
    | _ => none

def part (agg : Bool) (off sz : Nat) (cs : List V) : Option V :=
  if off + sz ≤ cs.length then wrapAgg agg ((cs.drop off).take sz) else none

def splice (cs : List V) (off : Nat) (xs : List V) : List V := cs.take off ++ xs ++ cs.drop (off + xs.length)

/-- A value that fits sz cells from 'off' on. -/
def fits (v : V) (sz off len : Nat) : Bool := v.ok && v.cells.length == sz && decide (off + sz ≤ len)

def fill (e : Nat → V) : List V → List (Nat × Nat × Opd) → Option (List V)
  | cs, [] => some cs
  | cs, (off, sz, x) :: r => if fits (ev e x) sz off cs.length then fill e (splice cs off (ev e x).cells) r else none

/- integers -/
def intOp (op : BinOp) (k : IntKind) (a b : Int) : Option V :=
  match op with
  | .add => some (.int k (k.wrap (a + b)))
  | .sub => some (.int k (k.wrap (a - b)))
  | .mul => some (.int k (k.wrap (a * b)))
  | .quo => if b = 0 then none else some (.int k (k.wrap (a.tdiv b)))
  | .rem => if b = 0 then none else some (.int k (a.tmod b))
  | .and => some (.int k (bits .and k a b))
  | .or => some (.int k (bits .or k a b))
  | .xor => some (.int k (bits .xor k a b))
  | .andNot => some (.int k (bits .andNot k a b))
  | .eql => some (.bool (a == b))
  | .neq => some (.bool (a != b))
  | .lss => some (.bool (decide (a < b)))
  | .leq => some (.bool (decide (a ≤ b)))
  | .gtr => some (.bool (decide (a > b)))
  | .geq => some (.bool (decide (a ≥ b)))
  | _ => none

def shiftOp (op : BinOp) (k : IntKind) (a y : Int) : Option V :=
  if y < 0 then none else
  match op with
  | .shl => some (.int k (k.wrap (a * 2 ^ (min y.toNat k.bits))))
  | .shr => some (.int k (a.fdiv (2 ^ (min y.toNat k.bits))))
  | _ => none

def strOp (op : BinOp) (x y : List UInt8) : Option V :=
  match op with
  | .add => if x.length + y.length ≤ 9223372036854775807 then some (.str (x ++ y)) else none
  | .eql => some (.bool (x == y))
  | .neq => some (.bool (!(x == y)))
  | .lss => some (.bool (Op.bytesLess x y))
  | .leq => some (.bool (Op.bytesLess x y || x == y))
  | .gtr => some (.bool (!(Op.bytesLess x y || x == y)))
  | .geq => some (.bool (!(Op.bytesLess x y)))
  | _ => none

/-- '==' of two cells that are numbers, bools or strings. -/
def eqCell : CK → V → V → Option Bool
  | .i, .int k a, .int k' b => if k = k' then some (a == b) else none
  | .b, .bool a, .bool b => some (a == b)
  | .s, .str a, .str b => some (a == b)
  | _, _, _ => none

def eqCells : List CK → List V → List V → Option Bool
  | [], [], [] => some true
  | k :: ks, x :: xs, y :: ys => match eqCell k x y, eqCells ks xs ys with
    | some a, some b => some (a && b)
    | _, _ => none
  | _, _, _ => none

def eqV : EK → V → V → Option Bool
  | .bool, .bool a, .bool b => some (a == b)
  | .flat ks, .agg xs, .agg ys => eqCells ks xs ys
  | .sl, .nils, .nils => some true
  | .sl, .nils, .sl .. => some false
  | .sl, .sl .., .nils => some false
  | .ptr, .nilp, .nilp => some true
  | .ptr, .nilp, .bp .. => some false
  | .ptr, .bp .., .nilp => some false
  | .ptr, .nilp, .ep .. => some false
  | .ptr, .ep .., .nilp => some false
  | .ptr, .nilp, .rp .. => some false
  | .ptr, .rp .., .nilp => some false
  | .iface, .nili, .nili => some true
  | .iface, .nili, .iface .. => some false
  | .iface, .iface .., .nili => some false
  | .fn, .nilf, .nilf => some true
  | .fn, .nilf, .fn .. => some false
  | .fn, .fn .., .nilf => some false
  | _, _, _ => none

def binV (op : BinOp) (x y : V) : Option V :=
  match x, y with
  | .int k a, .int k' b => match op with
    | .shl => shiftOp .shl k a b
    | .shr => shiftOp .shr k a b
    | op => if k = k' then intOp op k a b else none
  | .str a, .str b => strOp op a b
  | _, _ => none

def unV (op : UnOp) (x : V) : Option V :=
  match op, x with
  | .neg, .int k n => some (.int k (k.wrap (0 - n)))
  | .xor, .int k n => some (.int k (bits .xor k (if k.signed then -1 else k.max) n))
  | .not, .bool b => some (.bool (!b))
  | _, _ => none

def byteOfV : V → Option UInt8
  | .int .u8 n => some (UInt8.ofNat n.toNat)
  | _ => none
def byteList : List V → Option (List UInt8)
  | [] => some []
  | v :: r => match byteOfV v, byteList r with
    | some b, some l => some (b :: l)
    | _, _ => none
def bytesV (s : List UInt8) : List V := s.map fun c => .int .u8 (c.toNat : Int)

def bound (x : Option Opd) (e : Nat → V) (lim dflt : Nat) : Option Nat :=
  match x with
  | none => some dflt
  | some o => match ev e o with
    | .int _ i => if 0 ≤ i ∧ i ≤ (lim : Int) then some i.toNat else none
    | _ => none

/-- The two bounds of a slice expression over n elements. -/
def bounds (lo hi : Option Opd) (e : Nat → V) (n : Nat) : Option (Nat × Nat) :=
  match bound hi e n n with
  | none => none
  | some h => match bound lo e h 0 with
    | none => none
    | some l => some (l, h)

def partLab (l : Nat) : Lab → Lab
  | .own nm k => if l = 0 then .pre nm k else .view nm
  | .pre nm k => if l = 0 then .pre nm k else .view nm
  | lb => lb

def minmaxV (mx : Bool) : V → List V → Option V
  | x, [] => some x
  | .int k x, .int k' y :: r => if k = k' then minmaxV mx (.int k (if mx then (if y > x then y else x) else (if y < x then y else x))) r else none
  | _, _ => none

/- labels -/
def V.mapLab1 (g : Lab → Lab) : V → V
  | .sl l z n cs => .sl (g l) z n cs
  | .ep l cs off => .ep (g l) cs off
  | v => v
def V.mapLab (g : Lab → Lab) : V → V
  | .agg cs => .agg (cs.map (V.mapLab1 g))
  | v => v.mapLab1 g
def V.bare (v : V) : V := v.mapLab fun _ => .none

def Lab.names : Lab → List Nat
  | .own nm _ => [nm]
  | .pre nm _ => [nm]
  | .view nm => [nm]
  | .arg i => [i]
  | _ => []
mutual
/-- The names by which a value may be written; what lies in a row has none. -/
def V.names : V → List Nat
  | .sl l _ _ _ => l.names
  | .ep l _ _ => l.names
  | .agg cs => namesL cs
  | .tup cs => namesL cs
  | .reg _ _ cs => namesL cs
  | _ => []
def namesL : List V → List Nat
  | [] => []
  | v :: r => v.names ++ namesL r
end

/-- Is the variable of which this is a part as it was? -/
def Lab.live (e : Nat → V) : Lab → Bool
  | .rv s c v => match e s with
    | .reg c' v' _ => c == c' && v == v'
    | _ => false
  | _ => true

def Lab.free (e : Nat → V) (av : List Nat) (l : Lab) : Bool :=
  l.live e && (match l with
    | .rv s _ _ => !av.contains s
    | _ => true)

/-- The operations whose answer is a matter of their operands and of the call's own variables alone. 't0': the table as the region began; 'clk': the region's number; 'bx': the shared variables. -/
def pureOp (e : Nat → V) (t0 : Nat → Nat) (clk : Nat) (bx : BX) (d : Nat) : VOp → Option V
  | .mv x => match ev e x with
    | .undef => none
    | .reg .. => none
    | v => some v
  | .pick c a b => match ev e c with
    | .bool t => if (if t then ev e a else ev e b).ok then some (if t then ev e a else ev e b) else none
    | _ => none
  | .allocR zs => some (.reg clk 0 zs)
  | .boxR sz x => if fits (ev e x) sz 0 sz then some (.reg clk 0 (ev e x).cells) else none
  | .build zs parts => (fill e zs parts).map .agg
  | .bslice false z n zs parts => match fill e ((List.replicate n zs).flatten) parts with
    | some cs => if 0 < z ∧ cs.length = n * z ∧ namesL cs = [] then some (.sl (.own (nmOf d 0) (t0 (nmOf d 0))) z n cs) else none
    | none => none
  | .mkslice z bytes zs l c => match ev e l, ev e c with
    | .int .i64 l, .int .i64 c =>
      if 0 < z ∧ zs.length = z ∧ 0 ≤ l ∧ l ≤ c ∧ (bytes : Int) * c ≤ 281474976710656 ∧ c ≤ 9223372036854775807 then
        some (.sl (.own (nmOf d 0) (t0 (nmOf d 0))) z l.toNat ((List.replicate l.toNat zs).flatten))
      else none
    | _, _ => none
  | .toBytes x => match ev e x with
    | .str b => if b.length ≤ 9223372036854775807 then some (.sl .none 1 b.length (bytesV b)) else none
    | _ => none
  | .mkfn f first cap => if (first.map (ev e) ++ cap.map (ev e)).all V.ok1 ∧ namesL (first.map (ev e)) = [] ∧ namesL (cap.map (ev e)) = [] then
      some (.fn f (first.map (ev e)) (cap.map (ev e))) else none
  | .mkiface t x => if (ev e x).ok ∧ (ev e x).names = [] then some (.iface t (ev e x)) else none
  | .load (.r s) agg sz a => match ev e a with
    | .rp s' c off => match e s with
      | .reg c' _ cs => if s = s' ∧ c = c' then part agg off sz cs else none
      | _ => none
    | _ => none
  | .load .b agg sz a => match ev e a with
    | .bp b off => match bx[b]? with
      | some cs => part agg off sz cs
      | none => none
    | _ => none
  | .load (.e av) agg sz a => match ev e a with
    | .ep l cs off => if l.free e av then part agg off sz cs else none
    | _ => none
  | .nilck x => match ev e x with
    | .rp s c off => some (.rp s c off)
    | .ep l cs off => some (.ep l cs off)
    | .bp b off => some (.bp b off)
    | .fn (.func f) a b => some (.fn (.func f) a b)
    | _ => none
  | .bin op x y => binV op (ev e x) (ev e y)
  | .eq neq k x y => (eqV k (ev e x) (ev e y)).map fun b => .bool (neq != b)
  | .unop op x => unV op (ev e x)
  | .convI k x => match ev e x with
    | .int _ n => some (.int k (k.wrap n))
    | _ => none
  | .convS x => match ev e x with
    | .str s => some (.str s)
    | _ => none
  | .toStr x av => match ev e x with
    | .nils => some (.str [])
    | .sl l 1 _ cs => if l.free e av then (byteList cs).map .str else none
    | _ => none
  | .fieldA off x => match ev e x with
    | .rp s c o => some (.rp s c (o + off))
    | .ep l cs o => some (.ep l cs (o + off))
    | .bp b o => some (.bp b (o + off))
    | _ => none
  | .field agg off sz x => match ev e x with
    | .agg cs => part agg off sz cs
    | _ => none
  | .idxS z x i => match ev e x, ev e i with
    | .sl l z' n cs, .int _ i => if z = z' ∧ 0 ≤ i ∧ i < (n : Int) then some (.ep l cs (i.toNat * z)) else none
    | _, _ => none
  | .idxA len z x i => match ev e x, ev e i with
    | .rp s c off, .int _ i => if 0 ≤ i ∧ i < (len : Int) then some (.rp s c (off + i.toNat * z)) else none
    | .ep l cs off, .int _ i => if 0 ≤ i ∧ i < (len : Int) then some (.ep l cs (off + i.toNat * z)) else none
    | .bp b off, .int _ i => if 0 ≤ i ∧ i < (len : Int) then some (.bp b (off + i.toNat * z)) else none
    | _, _ => none
  | .ixA agg len z x i => match ev e x, ev e i with
    | .agg cs, .int _ i => if 0 ≤ i ∧ i < (len : Int) then part agg (i.toNat * z) z cs else none
    | _, _ => none
  | .ixS x i => match ev e x, ev e i with
    | .str s, .int _ i => if 0 ≤ i then (s[i.toNat]?).map fun b => .int .u8 (b.toNat : Int) else none
    | _, _ => none
  | .cutS x lo hi => match ev e x with
    | .str s => match bounds lo hi e s.length with
      | some (l, h) => some (.str ((s.take h).drop l))
      | none => none
    | _ => none
  | .cut z x lo hi => match ev e x with
    | .nils => match bounds lo hi e 0 with
      | some _ => some .nils
      | none => none
    | .sl lb z' n cs => match bounds lo hi e n with
      | some (l, h) => if z = z' then some (.sl (partLab l lb) z (h - l) ((cs.take (h * z)).drop (l * z))) else none
      | none => none
    | _ => none
  | .cutR s len z x lo hi => match ev e x with
    | .rp s' c off => match e s, bounds lo hi e len with
      | .reg c' v cs, some (l, h) => if s = s' ∧ c = c' ∧ off + len * z ≤ cs.length ∧ 0 < z ∧ namesL cs = [] then some (.sl (.rv s c v) z (h - l) (((cs.drop off).take (h * z)).drop (l * z))) else none
      | _, _ => none
    | _ => none
  | .len true x => match ev e x with
    | .str s => some (.int .i64 (s.length : Int))
    | _ => none
  | .len false x => match ev e x with
    | .sl _ _ n _ => some (.int .i64 (n : Int))
    | .nils => some (.int .i64 0)
    | _ => none
  | .lenC n => some (.int .i64 (n : Int))
  | .extract i x => match ev e x with
    | .tup vs => match vs[i]? with
      | some v => if v.ok then some v else none
      | none => none
    | _ => none
  | .arrptr n z x => match ev e x with
    | .sl l z' m cs => if z = z' ∧ n ≤ m then some (.ep l cs 0) else none
    | _ => none
  | .minmax mx x args => match minmaxV mx (ev e x) (args.map (ev e)) with
    | some (.reg ..) => none
    | r => r
  | _ => none

/-- No address inside. -/
def V.plain1 : V → Bool
  | .bool _ | .int .. | .str _ | .nilp | .nilf | .nili | .nils => true
  | _ => false
def V.plain : V → Bool
  | .agg cs => cs.all V.plain1
  | v => v.plain1

/-- What a caller is handed: what this call made and still owns, if it is met once, is numbered ('own i 1': other names for it are about); what was given to be used up and is gone on with is 'arg'; all else is memory that nobody writes any more. -/
def adoptLab (tips : Nat → Nat) (lk : Nat → Bool) (all : List Nat) : Lab → Lab
  | .own nm k => if k = tips nm ∧ all.count nm = 1 then (if nm < 64 then .arg nm else .own nm (if lk nm then 1 else 0)) else .none
  | _ => .none
def number1 (i : Nat) : V → V × Nat
  | .sl (.own _ f) z n cs => (.sl (.own i f) z n cs, i + 1)
  | v => (v, i)
def numberL (i : Nat) : List V → List V × Nat
  | [] => ([], i)
  | v :: r => ((number1 i v).1 :: (numberL (number1 i v).2 r).1, (numberL (number1 i v).2 r).2)
def number (i : Nat) : V → V × Nat
  | .agg cs => (.agg (numberL i cs).1, (numberL i cs).2)
  | v => number1 i v
def numberAll (i : Nat) : List V → List V
  | [] => []
  | v :: r => (number i v).1 :: numberAll (number i v).2 r

def resVals (e : Nat → V) : List RV → Option (List V)
  | [] => some []
  | .tmp t :: r => if (ev e (.tmp t)).ok then (resVals e r).map (ev e (.tmp t) :: ·) else none
  | .cell agg sz t :: r => match e t with
    | .reg _ _ cs => match part agg 0 sz cs with
      | some v => if v.ok then (resVals e r).map (v :: ·) else none
      | none => none
    | _ => none

def finish (tips : Nat → Nat) (lk : Nat → Bool) (vs : List V) : List V :=
  numberAll 0 (vs.map (V.mapLab (adoptLab tips lk (namesL vs))))

def packed : List V → V
  | [v] => v
  | vs => .tup vs
def V.results : V → List V
  | .tup vs => vs
  | v => [v]

/- what a call makes of the caller's table -/
def argName (vs : List V) (i : Nat) : Nat :=
  match vs[i]? with
  | some (.sl (.own nm _) _ _ _) => nm
  | _ => 0
/-- The names (at slot d) of what was made and handed back; those of which other names are about. -/
def Lab.news : Lab → List Nat
  | .own i _ => [i]
  | _ => []
def V.news1 : V → List Nat
  | .sl l _ _ _ => l.news
  | .ep l _ _ => l.news
  | _ => []
def V.news : V → List Nat
  | .agg cs => cs.flatMap V.news1
  | v => v.news1
def newsOf (rs : List V) : List Nat := rs.flatMap V.news
def freshOf (d : Nat) (rs : List V) : List Nat := (newsOf rs).map (nmOf d ·)
def Lab.shared : Lab → List Nat
  | .own i 1 => [i]
  | _ => []
def V.shared1 : V → List Nat
  | .sl l _ _ _ => l.shared
  | _ => []
def V.shared : V → List Nat
  | .agg cs => cs.flatMap V.shared1
  | v => v.shared1
def handLab (d : Nat) (tips : Nat → Nat) (vs : List V) : Lab → Lab
  | .own i _ => .own (nmOf d i) (tips (nmOf d i))
  | .arg i => .own (argName vs i) (tips (argName vs i))
  | _ => .none

/-- The places of the arguments that are used up, as the callee's table has them; the others go bare. -/
def handArg (cons : List Nat) (i : Nat) : V → V
  | .sl (.own nm k) z n cs => if cons.contains i then .sl (.own i 0) z n cs else .sl .none z n cs
  | v => v.bare
def handArgs (cons : List Nat) : Nat → List V → List V
  | _, [] => []
  | i, v :: r => handArg cons i v :: handArgs cons (i + 1) r
def ownsArg (tips : Nat → Nat) (cons : List Nat) (i : Nat) : V → Bool
  | .sl (.own nm k) _ _ _ => !cons.contains i || k == tips nm
  | _ => true
def ownsArgs (tips : Nat → Nat) (cons : List Nat) : Nat → List V → Bool
  | _, [] => true
  | i, v :: r => ownsArg tips cons i v && ownsArgs tips cons (i + 1) r
def usedName (cons : List Nat) (i : Nat) : V → List Nat
  | .sl (.own nm _) _ _ _ => if cons.contains i then [nm] else []
  | _ => []
def usedNames (cons : List Nat) : Nat → List V → List Nat
  | _, [] => []
  | i, v :: r => usedName cons i v ++ usedNames cons (i + 1) r

/- element stores, and an append onto a beginning: all other names of the row are struck -/
def hit (nm k : Nat) (cs' : List V) : V → V
  | .sl l z n cs => if nm ∈ l.names then (if l = .own nm k then .sl l z n cs' else .undef) else .sl l z n cs
  | .ep l cs off => if nm ∈ l.names then (if l = .own nm k then .ep l cs' off else .undef) else .ep l cs off
  | v => if nm ∈ v.names then .undef else v
def hitV (nm k : Nat) (cs' : List V) : V → V
  | .reg c v cs => .reg c v (cs.map (hit nm k cs'))
  | .agg cs => .agg (cs.map (hit nm k cs'))
  | .tup vs => if nm ∈ namesL vs then .undef else .tup vs
  | v => hit nm k cs' v
def hitEnv (nm k : Nat) (cs' : List V) (e : Env) : Env := e.map fun x => (x.1, hitV nm k cs' x.2)

abbrev CallF := Nat → List V → BX → Option (V × BX)

def argOk (e : Nat → V) (av : List Nat) : V → Bool
  | .sl (.rv s c v) _ _ _ => (Lab.rv s c v).free e av
  | v => v.ok
def isRv : V → Bool
  | .sl (.rv ..) .. => true
  | _ => false

/-- No row and no address is in the shared variables. -/
def plainB (bx : BX) : Bool := bx.all fun cs => cs.all V.plain1
/-- Nothing that was handed over can be about behind the call. -/
def tight (rs : List V) (bx : BX) : Bool := rs.all V.plain && plainB bx
def Lab.gone : Lab → List Nat
  | .arg i => [i]
  | _ => []
def V.gone1 : V → List Nat
  | .sl l _ _ _ => l.gone
  | .ep l _ _ => l.gone
  | _ => []
def V.gone : V → List Nat
  | .agg cs => cs.flatMap V.gone1
  | v => v.gone1
def argNm (vs : List V) (i : Nat) : Option Nat :=
  match vs[i]? with
  | some (.sl (.own nm _) _ _ _) => some nm
  | _ => none
/-- What is gone on with was given to be used up, and its name is none of the new ones. -/
def goneOk (cons : List Nat) (vs : List V) (fresh : List Nat) (rs : List V) : Bool :=
  (rs.flatMap V.gone).all fun i => cons.contains i && (match argNm vs i with
    | some nm => !fresh.contains nm
    | none => false)

/-- Behind a call at slot d that has handed back r. -/
def behind (σ : St) (used : List Nat) (vs : List V) (d : Nat) (r : V) (bx : BX) : St :=
  let rs := r.results
  let fresh := freshOf d rs
  let tips := bump (bump σ.tips used) fresh
  let lk0 := if tight rs bx then σ.lk else updL σ.lk true (namesL vs)
  let lk := updL (updL lk0 false fresh) true ((rs.flatMap V.shared).map (nmOf d ·) ++ used)
  { clk := σ.clk, env := set σ.env d (packed (rs.map (V.mapLab (handLab d tips vs)))), tips, lk, bx }

def callAt (cf : CallF) (sg : Nat → Sig) (σ : St) (d : Option Nat) (f : Nat) (vs : List V) (q : Bool) (av : List Nat) : Option St :=
  match d with
  | none => none
  | some d =>
    if vs.length ≤ 64 ∧ vs.all (argOk (get σ.env) av) ∧ ownsArgs σ.tips (sg f).cons 0 vs ∧ (usedNames (sg f).cons 0 vs).Nodup ∧ (q = true → (sg f).quiet = true) then
      match cf f (handArgs (sg f).cons 0 vs) σ.bx with
      | none => none
      | some (r, bx) =>
        if (tight r.results bx ∨ ¬ vs.any isRv) ∧ (newsOf r.results).all (· < 64) ∧ goneOk (sg f).cons vs (freshOf d r.results) r.results ∧ (q = true → bx.length = σ.bx.length) then some (behind σ (usedNames (sg f).cons 0 vs) vs d r bx) else none
    else none

def append2 (σ : St) (d bytes : Nat) (cut : Bool) (z : Nat) (s : V) (m : Nat) (news : List V) : Option St :=
  match s with
  | .nils => if m * bytes ≤ 140737488355328 ∧ m ≤ 9223372036854775807 ∧ 0 < z then
      (if m = 0 then some { σ with env := set σ.env d .nils }
       else some { σ with env := set σ.env d (.sl (.own (nmOf d 0) (σ.tips (nmOf d 0) + 1)) z m news), tips := upd σ.tips (nmOf d 0) (σ.tips (nmOf d 0) + 1), lk := upd σ.lk (nmOf d 0) false })
      else none
  | .sl (.own nm k) z' n cs =>
    if z = z' ∧ k = σ.tips nm ∧ (n + m) * bytes ≤ 140737488355328 ∧ n + m ≤ 9223372036854775807 then
      some { σ with env := set σ.env d (.sl (.own nm (k + 1)) z (n + m) (cs ++ news)), tips := upd σ.tips nm (k + 1) }
    else none
  | .sl (.pre nm k) z' n cs =>
    if cut = true ∧ z = z' ∧ k = σ.tips nm ∧ σ.lk nm = false ∧ (n + m) * bytes ≤ 140737488355328 ∧ n + m ≤ 9223372036854775807 then
      some { σ with env := set (hitEnv nm (k + 1) [] σ.env) d (.sl (.own nm (k + 1)) z (n + m) (cs ++ news)), tips := upd σ.tips nm (k + 1) }
    else none
  | _ => none

def source (e : Nat → V) (av : List Nat) (z : Nat) : V → Option (Nat × List V)
  | .nils => some (0, [])
  | .sl l z' m cs => if z = z' ∧ l.free e av then some (m, cs) else none
  | .str b => if z = 1 then some (b.length, bytesV b) else none
  | _ => none

def storeAt (σ : St) (rt : RT) (sz : Nat) (a v : V) : Option St :=
  match rt, a with
  | .r s, .rp s' c off => match get σ.env s with
    | .reg c' n cs => if s = s' ∧ c = c' ∧ fits v sz off cs.length then some { σ with env := set σ.env s (.reg c (n + 1) (splice cs off v.cells)) } else none
    | _ => none
  | .b, .bp b off => match σ.bx[b]? with
    | some cs => if fits v sz off cs.length then some { σ with bx := σ.bx.set b (splice cs off v.bare.cells), lk := updL σ.lk true v.names } else none
    | none => none
  | .e _, .ep (.own nm k) cs off =>
    if k = σ.tips nm ∧ σ.lk nm = false ∧ nm ∉ v.names ∧ fits v sz off cs.length then
      some { σ with env := hitEnv nm k (splice cs off v.bare.cells) σ.env, lk := updL σ.lk true v.names }
    else none
  | _, _ => none

def wantedV (e : Nat → V) : Option (Nat × Bool) → Option Bool
  | none => some true
  | some (s, want) => match e s with
    | .bool b => some (b == want)
    | .tup [] => some false
    | _ => none

/-- The operations that are more than an answer. -/
def step1 (cf : CallF) (sg : Nat → Sig) (σ : St) (t0 : Nat → Nat) (d : Option Nat) : VOp → Option St
  | .store rt sz a x => match d with
    | none => storeAt σ rt sz (ev (get σ.env) a) (ev (get σ.env) x)
    | some _ => none
  | .call f args q av => callAt cf sg σ d f (args.map (ev (get σ.env))) q av
  | .callv x args q av => match ev (get σ.env) x with
    | .fn (.func f) first cap => callAt cf sg σ d f (first ++ args.map (ev (get σ.env)) ++ cap) q av
    | _ => none
  | .allocB zs => match d with
    | some d => some { σ with env := set σ.env d (.bp σ.bx.length 0), bx := σ.bx ++ [zs] }
    | none => none
  | .boxB sz x => match d with
    | some d => if fits (ev (get σ.env) x) sz 0 sz then
        some { σ with env := set σ.env d (.bp σ.bx.length 0), bx := σ.bx ++ [(ev (get σ.env) x).bare.cells], lk := updL σ.lk true (ev (get σ.env) x).names } else none
    | none => none
  | .bslice true z n zs parts => match d, fill (get σ.env) ((List.replicate n zs).flatten) parts with
    | some d, some cs => if 0 < z ∧ cs.length = n * z ∧ cs.all V.ok1 then some { σ with env := set σ.env d (.sl (.own (nmOf d 0) (t0 (nmOf d 0))) z n (cs.map V.bare)), lk := updL σ.lk true (namesL cs) } else none
    | _, _ => none
  | .append z bytes cut s x av => match d, source (get σ.env) av z (ev (get σ.env) x) with
    | some d, some (m, news) => if news.all V.ok1 ∧ news.length = m * z then append2 σ d bytes cut z (ev (get σ.env) s) m news else none
    | _, _ => none
  | op => match d with
    | some d => match pureOp (get σ.env) t0 σ.clk σ.bx d op with
      | some v => some { σ with env := set σ.env d v }
      | none => none
    | none => none

def isReg : V → Bool
  | .reg .. => true
  | _ => false
def regAt (e : Nat → V) : Option Nat → Bool
  | some d => isReg (e d)
  | none => false
def VOp.makesR : VOp → Bool
  | .allocR _ | .boxR .. => true
  | _ => false

/-- A slot that holds a variable of the call's own is written by nothing but the making of the next one. -/
def stepOp (cf : CallF) (sg : Nat → Sig) (t0 : Nat → Nat) (σ : St) (o : VOper) : Option St :=
  match wantedV (get σ.env) o.guard with
  | some true => if regAt (get σ.env) o.dst && !o.op.makesR then none else step1 cf sg σ t0 o.dst o.op
  | some false => match o.dst with
    | some d => if isReg (get σ.env d) then none else some { σ with env := set σ.env d (.tup []) }
    | none => some σ
  | none => none

/-- The names at which a region makes something. -/
def makes : List VOper → List Nat
  | [] => []
  | o :: r => match o.op, o.dst with
    | .bslice .., some d => (nmOf d 0) :: makes r
    | .mkslice .., some d => (nmOf d 0) :: makes r
    | _, _ => makes r

def runOps (cf : CallF) (sg : Nat → Sig) (t0 : Nat → Nat) : St → List VOper → Option St
  | σ, [] => some σ
  | σ, o :: r => match stepOp cf sg t0 σ o with
    | some σ' => runOps cf sg t0 σ' r
    | none => none

def runRegion (cf : CallF) (sg : Nat → Sig) (ops : List VOper) (σ : St) : Option St :=
  match runOps cf sg (bump σ.tips (makes ops)) { σ with clk := σ.clk + 1, tips := bump σ.tips (makes ops), lk := updL σ.lk false (makes ops) } ops with
  | some τ => some { τ with env := τ.env.take σ.env.length }
  | none => none

def iter (body : St → Option (Ex × St)) : Nat → St → Option (Ex × St)
  | 0, _ => none
  | n + 1, σ => match body σ with
    | some (.nrm, τ) => iter body n τ
    | r => r

def exec (cf : CallF) (sg : Nat → Sig) (m : Nat) : VC → St → Option (Ex × St)
  | .skip, σ => some (.nrm, σ)
  | .region ops, σ => (runRegion cf sg ops σ).map fun τ => (.nrm, τ)
  | .seq a b, σ => match exec cf sg m a σ with
    | some (.nrm, τ) => exec cf sg m b τ
    | r => r
  | .cond c a b, σ => match ev (get σ.env) c with
    | .bool true => exec cf sg m a σ
    | .bool false => exec cf sg m b σ
    | _ => none
  | .block id body, σ => match exec cf sg m body σ with
    | some (.exit id', τ) => if id' = id then some (.nrm, τ) else some (.exit id', τ)
    | r => r
  | .loop body, σ => iter (exec cf sg m body) m σ
  | .exit id, σ => some (.exit id, σ)
  | .scope body, σ => exec cf sg m body σ
  | .ret, σ => some (.ret, σ)

mutual
/-- No shared variable is pointed at. -/
def V.noBox : V → Bool
  | .bp .. => false
  | .sl _ _ _ cs => noBoxL cs
  | .ep _ cs _ => noBoxL cs
  | .reg _ _ cs => noBoxL cs
  | .agg cs => noBoxL cs
  | .tup cs => noBoxL cs
  | .fn _ a b => noBoxL a && noBoxL b
  | .iface _ v => v.noBox
  | _ => true
def noBoxL : List V → Bool
  | [] => true
  | v :: r => v.noBox && noBoxL r
end

def noBoxLL : List (List V) → Bool
  | [] => true
  | v :: r => noBoxL v && noBoxLL r

def entry (vf : VF) (args : List V) : Env := vf.kept.map fun s => (s, args.getD s .undef)

inductive Entry where
  | code (vf : VF)
  | prim (cons : List Nat) (p : List V → Option V)

def sigOf (F : Nat → Option Entry) (f : Nat) : Sig :=
  match F f with
  | some (.code vf) => ⟨vf.cons, vf.quiet⟩
  | some (.prim cons _) => ⟨cons, true⟩
  | none => ⟨[], false⟩

/-- The shared variables behind a call: those of the call's own go, unless one may still be pointed at. -/
def keepBoxes (n : Nat) (vs : List V) (bx : BX) : BX :=
  if bx.length = n then bx else if noBoxL vs && noBoxLL (bx.take n) then bx.take n else bx

def start (vf : VF) (args : List V) (bx : BX) : St := { clk := 0, env := entry vf args, tips := fun _ => 0, lk := fun nm => decide (nm < 64), bx }

/-- What a body's end comes to. -/
def endOf (vf : VF) (n : Nat) : Option (Ex × St) → Option (V × BX)
  | some (.nrm, τ) | some (.ret, τ) => match resVals (get τ.env) vf.res with
    | some vs => some (packed (finish τ.tips τ.lk vs), keepBoxes n (finish τ.tips τ.lk vs) τ.bx)
    | none => none
  | _ => none

def call (F : Nat → Option Entry) : Nat → CallF
  | 0, _, _, _ => none
  | n + 1, f, args, bx => match F f with
    | some (.code vf) => endOf vf bx.length (exec (call F n) (sigOf F) n vf.code (start vf args bx))
    | some (.prim _ p) => (p args).map fun v => (v, bx)
    | none => none

end Go.VM
