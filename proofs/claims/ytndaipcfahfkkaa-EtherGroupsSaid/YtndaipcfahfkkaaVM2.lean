/- How the plain machine's values stand to the model's: the relations, and how they are kept. -/
import Derived.Test.YtndaipcfahfkkaaVM1
namespace Go.VM
open Go.RowKit

inductive Zn where
  | out
  | st (n : Nat)
  | fam (nm : Nat)
  | rg (s c : Nat)
  | bx (i : Nat)

structure Gh where
  Z : Nat → Zn
  rgB : Nat → Nat → Nat
  ver : Nat → Nat → Nat
  famB : Nat → Nat
  ext : Nat → Nat
  bxB : List Nat

def Row (w : World) (a : Addr) (xs : List Value) : Prop := ∀ j u, xs[j]? = some u → w.cell? (a.add j) = some u

abbrev Pl := Lab → Addr → Nat → Nat → Nat → Nat → Prop

theorem namesL_nil {cs : List V} : namesL cs = [] ↔ ∀ v ∈ cs, v.names = [] := by
  induction cs with
  | nil => simp [namesL]
  | cons v r ih => simp [namesL, List.append_eq_nil_iff, ih]
theorem mem_namesL {cs : List V} {nm : Nat} : nm ∈ namesL cs ↔ ∃ v ∈ cs, nm ∈ v.names := by
  induction cs with
  | nil => simp [namesL]
  | cons v r ih => simp [namesL, ih]
theorem namesL_sub {cs ds : List V} (h : namesL cs = []) (hs : ∀ v ∈ ds, v ∈ cs) : namesL ds = [] := namesL_nil.2 fun v hv => namesL_nil.1 h v (hs v hv)
theorem namesL_cut {cs : List V} (h : namesL cs = []) (n m : Nat) : namesL ((cs.take n).drop m) = [] := namesL_sub h fun _ hv => List.mem_of_mem_take (List.mem_of_mem_drop hv)
theorem namesL_append {cs ds : List V} : namesL (cs ++ ds) = namesL cs ++ namesL ds := by
  induction cs with
  | nil => rfl
  | cons v r ih => simp [namesL, ih]

mutual
inductive Rel (w : World) (A : Pl) (B : List Nat) : V → Value → Prop
  | undef (c : Value) : Rel w A B .undef c
  | bool (b : Bool) : Rel w A B (.bool b) (.bool b)
  | int (k : IntKind) (n : Int) : Rel w A B (.int k n) (.int k n)
  | str (s : ByteArray) : Rel w A B (.str s.data.toList) (.string s)
  | nilp : Rel w A B .nilp (.pointer none)
  | nilf : Rel w A B .nilf .nilFunc
  | nili : Rel w A B .nili .nilIface
  | nils : Rel w A B .nils (.slice none 0 0)
  | sl (l : Lab) (z n : Nat) (cs : List V) (a : Addr) (cap : Nat) (xs : List Value) : A l a xs.length z n cap → 0 < z → xs.length = n * z → n ≤ cap → cap ≤ maxLen → Row w a xs → RelL w A B cs xs → namesL cs = [] → Rel w A B (.sl l z n cs) (.slice (some a) n cap)
  | ep (l : Lab) (cs : List V) (off : Nat) (a : Addr) (z n cap : Nat) (xs : List Value) : A l a xs.length z n cap → Row w a xs → RelL w A B cs xs → namesL cs = [] → Rel w A B (.ep l cs off) (.pointer (some (a.add off)))
  | bp (b off blk : Nat) : B[b]? = some blk → Rel w A B (.bp b off) (.pointer (some ⟨blk, off, none⟩))
  | agg (cs : List V) (xs : Array Value) : RelL w A B cs xs.toList → Rel w A B (.agg cs) (.agg xs)
  | tup (cs : List V) (xs : Array Value) : RelL w A B cs xs.toList → Rel w A B (.tup cs) (.tuple xs)
  | fn (f : Fn) (a b : List V) (xs ys : Array Value) : RelL w A B a xs.toList → RelL w A B b ys.toList → namesL a = [] → namesL b = [] → Rel w A B (.fn f a b) (.func f xs ys)
  | iface (t : TypeId) (v : V) (c : Value) : Rel w A B v c → v.names = [] → Rel w A B (.iface t v) (.iface t c)
inductive RelL (w : World) (A : Pl) (B : List Nat) : List V → List Value → Prop
  | nil : RelL w A B [] []
  | cons (v : V) (c : Value) (vs : List V) (cs : List Value) : Rel w A B v c → RelL w A B vs cs → RelL w A B (v :: vs) (c :: cs)
end

/-- Whatever holds of the labels and their places goes on to hold, and the cells are as they were. -/
def Keeps (w w' : World) (A A' : Pl) (B B' : List Nat) : Prop :=
  (∀ l a len z n cap, A l a len z n cap → A' l a len z n cap ∧ ∀ j, j < len → w'.cell? (a.add j) = w.cell? (a.add j)) ∧ ∀ (i blk : Nat), B[i]? = some blk → B'[i]? = some blk

theorem Row.keep {w w' : World} {a : Addr} {xs : List Value} (h : Row w a xs) (hk : ∀ j, j < xs.length → w'.cell? (a.add j) = w.cell? (a.add j)) : Row w' a xs := fun j u hu => by
  have hj : j < xs.length := (List.getElem?_eq_some_iff.1 hu).1
  rw [hk j hj]; exact h j u hu

mutual
theorem Rel.keep {w w' : World} {A A' : Pl} {B B' : List Nat} (hk : Keeps w w' A A' B B') {v : V} {c : Value} (h : Rel w A B v c) : Rel w' A' B' v c := by
  cases h with
  | undef => exact .undef _
  | bool => exact .bool _
  | int => exact .int _ _
  | str => exact .str _
  | nilp => exact .nilp
  | nilf => exact .nilf
  | nili => exact .nili
  | nils => exact .nils
  | sl l z n cs a cap xs h1 h2 h3 h4 h5 h6 h7 h8 => exact .sl l z n cs a cap xs (hk.1 _ _ _ _ _ _ h1).1 h2 h3 h4 h5 (h6.keep (hk.1 _ _ _ _ _ _ h1).2) (RelL.keep hk h7) h8
  | ep l cs off a z n cap xs h1 h2 h3 h4 => exact .ep l cs off a z n cap xs (hk.1 _ _ _ _ _ _ h1).1 (h2.keep (hk.1 _ _ _ _ _ _ h1).2) (RelL.keep hk h3) h4
  | bp b off blk h1 => exact .bp b off blk (hk.2 _ _ h1)
  | agg cs xs h1 => exact .agg cs xs (RelL.keep hk h1)
  | tup cs xs h1 => exact .tup cs xs (RelL.keep hk h1)
  | fn f a b xs ys h1 h2 h3 h4 => exact .fn f a b xs ys (RelL.keep hk h1) (RelL.keep hk h2) h3 h4
  | iface t v c h1 h2 => exact .iface t v c (Rel.keep hk h1) h2
theorem RelL.keep {w w' : World} {A A' : Pl} {B B' : List Nat} (hk : Keeps w w' A A' B B') {vs : List V} {cs : List Value} (h : RelL w A B vs cs) : RelL w' A' B' vs cs := by
  cases h with
  | nil => exact .nil
  | cons v c vs cs h1 h2 => exact .cons v c vs cs (Rel.keep hk h1) (RelL.keep hk h2)
end

section
variable {w : World} {A : Pl} {B : List Nat}

theorem RelL.length {vs : List V} {cs : List Value} (h : RelL w A B vs cs) : vs.length = cs.length := by
  induction vs generalizing cs with
  | nil => cases h; rfl
  | cons v vs ih => cases h with | cons _ c _ cs h1 h2 => simp [ih h2]

theorem RelL.get {vs : List V} {cs : List Value} (h : RelL w A B vs cs) {i : Nat} {v : V} (hv : vs[i]? = some v) : ∃ c, cs[i]? = some c ∧ Rel w A B v c := by
  induction vs generalizing cs i with
  | nil => simp at hv
  | cons u vs ih =>
    cases h with
    | cons _ c _ cs h1 h2 =>
      cases i with
      | zero => simp at hv; subst hv; exact ⟨c, rfl, h1⟩
      | succ i => simp at hv ⊢; exact ih h2 hv

theorem RelL.of_get {vs : List V} {cs : List Value} (hl : vs.length = cs.length) (h : ∀ (i : Nat) v c, vs[i]? = some v → cs[i]? = some c → Rel w A B v c) : RelL w A B vs cs := by
  induction vs generalizing cs with
  | nil => cases cs with | nil => exact .nil | cons => simp at hl
  | cons v vs ih =>
    cases cs with
    | nil => simp at hl
    | cons c cs =>
      refine .cons _ _ _ _ (h 0 v c rfl rfl) (ih (by simpa using hl) fun i v' c' h1 h2 => h (i + 1) v' c' (by simpa using h1) (by simpa using h2))

theorem RelL.append {vs us : List V} {cs ds : List Value} (h : RelL w A B vs cs) (k : RelL w A B us ds) : RelL w A B (vs ++ us) (cs ++ ds) := by
  induction vs generalizing cs with
  | nil => cases h; simpa using k
  | cons v vs ih => cases h with | cons _ c _ cs h1 h2 => exact .cons _ _ _ _ h1 (ih h2)

theorem RelL.take {vs : List V} {cs : List Value} (h : RelL w A B vs cs) (n : Nat) : RelL w A B (vs.take n) (cs.take n) := by
  induction vs generalizing cs n with
  | nil => cases h; simp; exact .nil
  | cons v vs ih =>
    cases h with
    | cons _ c _ cs h1 h2 =>
      cases n with
      | zero => simp; exact .nil
      | succ n => simp only [List.take_succ_cons]; exact .cons _ _ _ _ h1 (ih h2 n)

theorem RelL.drop {vs : List V} {cs : List Value} (h : RelL w A B vs cs) (n : Nat) : RelL w A B (vs.drop n) (cs.drop n) := by
  induction vs generalizing cs n with
  | nil => cases h; simp; exact .nil
  | cons v vs ih =>
    cases h with
    | cons _ c _ cs h1 h2 =>
      cases n with
      | zero => exact .cons _ _ _ _ h1 h2
      | succ n => simp only [List.drop_succ_cons]; exact ih h2 n

theorem RelL.splice {vs us : List V} {cs ds : List Value} (h : RelL w A B vs cs) (k : RelL w A B us ds) (off : Nat) :
    RelL w A B (splice vs off us) (cs.take off ++ ds ++ cs.drop (off + ds.length)) := by
  unfold VM.splice
  rw [k.length]
  exact ((h.take off).append k).append (h.drop _)

theorem RelL.map {vs : List V} {cs : List Value} {A' : Pl} (h : RelL w A B vs cs) (f : V → V) (hf : ∀ v c, Rel w A B v c → Rel w A' B (f v) c) : RelL w A' B (vs.map f) cs := by
  induction vs generalizing cs with
  | nil => cases h; exact .nil
  | cons v vs ih => cases h with | cons _ c _ cs h1 h2 => exact .cons _ _ _ _ (hf _ _ h1) (ih h2)

theorem RelL.flatten_replicate {vs : List V} {cs : List Value} (h : RelL w A B vs cs) (n : Nat) : RelL w A B (List.replicate n vs).flatten (List.replicate n cs).flatten := by
  induction n with
  | zero => simp; exact .nil
  | succ n ih => simp only [List.replicate_succ, List.flatten_cons]; exact h.append ih

/-- The cells of a value and those of the model's. A known value has as many. -/
theorem Rel.cells {v : V} {c : Value} (h : Rel w A B v c) (hv : v ≠ .undef) (ht : ∀ vs, v ≠ .tup vs) : RelL w A B v.cells c.cells.toList := by
  cases h with
  | undef => exact absurd rfl hv
  | agg cs xs h => simpa [V.cells, Value.cells] using h
  | tup cs xs h => exact absurd rfl (ht cs)
  | bool b => exact .cons _ _ _ _ (.bool b) .nil
  | int k n => exact .cons _ _ _ _ (.int k n) .nil
  | str s => exact .cons _ _ _ _ (.str s) .nil
  | nilp => exact .cons _ _ _ _ .nilp .nil
  | nilf => exact .cons _ _ _ _ .nilf .nil
  | nili => exact .cons _ _ _ _ .nili .nil
  | nils => exact .cons _ _ _ _ .nils .nil
  | sl l z n cs a cap xs h1 h2 h3 h4 h5 h6 h7 h8 => exact .cons _ _ _ _ (.sl l z n cs a cap xs h1 h2 h3 h4 h5 h6 h7 h8) .nil
  | ep l cs off a z n cap xs h1 h2 h3 h4 => exact .cons _ _ _ _ (.ep l cs off a z n cap xs h1 h2 h3 h4) .nil
  | bp b off blk h => exact .cons _ _ _ _ (.bp b off blk h) .nil
  | fn f a b xs ys h1 h2 h3 h4 => exact .cons _ _ _ _ (.fn f a b xs ys h1 h2 h3 h4) .nil
  | iface t v c h h2 => exact .cons _ _ _ _ (.iface t v c h h2) .nil
end

/-- Where a label's row lies. -/
def Still (G : Gh) (a : Addr) (len : Nat) : Prop := ∃ n, G.Z a.block = .st n ∧ a.off + len ≤ n
theorem Still.over {G G' : Gh} {a : Addr} {len : Nat} (h : Still G a len) (hz : ∀ n, G.Z a.block = .st n → G'.Z a.block = .st n) : Still G' a len := let ⟨n, h1, h2⟩ := h; ⟨n, hz n h1, h2⟩
def Rd (G : Gh) (nm : Nat) (a : Addr) (len : Nat) : Prop := Still G a len ∨ (G.Z a.block = .fam nm ∧ a.off + len ≤ G.ext nm)

def Tip (G : Gh) (w : World) (nm : Nat) (a : Addr) (z cap : Nat) : Prop :=
  G.Z a.block = .fam nm ∧ a = ⟨G.famB nm, 0, none⟩ ∧ ∃ cur e, w.heap[G.famB nm]? = some (.cells cur e (0, 0)) ∧ cur.size = cap * z

def At (G : Gh) (T : Nat → Nat) (lk : Nat → Bool) (w : World) : Pl
  | .none, a, len, _, _, _ => len = 0 ∨ Still G a len ∨ ∃ nm, lk nm = true ∧ G.Z a.block = .fam nm ∧ a.off + len ≤ G.ext nm
  | .own nm k, a, len, z, n, cap => k ≤ T nm ∧ Rd G nm a len ∧ (k = T nm → Tip G w nm a z cap ∧ len = G.ext nm ∧ n * z = len)
  | .pre nm k, a, len, z, _, cap => k ≤ T nm ∧ Rd G nm a len ∧ (k = T nm → Tip G w nm a z cap)
  | .view nm, a, len, _, _, _ => Rd G nm a len
  | .rv _ _ _, _, _, _, _, _ => False
  | .arg _, _, _, _, _, _ => False

/-- A slot's value: also the names of this call's own variables, and parts of these, which are told of as long as the variable is as it was. -/
def VR (G : Gh) (A : Pl) (w : World) (e : Nat → V) : V → Value → Prop
  | .rp t c off, x => x = .pointer (some ⟨G.rgB t c, off, none⟩) ∧ G.Z (G.rgB t c) = .rg t c
  | .sl (.rv t c v) z n cs, x => ∃ a cap, x = .slice (some a) n cap ∧ 0 < z ∧ n ≤ cap ∧ cap ≤ maxLen ∧ cs.length = n * z ∧
      G.Z a.block = .rg t c ∧ v ≤ G.ver t c ∧ namesL cs = [] ∧ ∀ cs', e t = .reg c v cs' → ∃ xs, Row w a xs ∧ RelL w A G.bxB cs xs
  | .ep (.rv t c v) cs off, x => ∃ a, x = .pointer (some (a.add off)) ∧ G.Z a.block = .rg t c ∧ v ≤ G.ver t c ∧ namesL cs = [] ∧ ∀ cs', e t = .reg c v cs' → ∃ xs, Row w a xs ∧ RelL w A G.bxB cs xs
  | .reg .., _ => False
  | v, x => Rel w A G.bxB v x

def RegR (G : Gh) (A : Pl) (w : World) (s c v : Nat) (cs : List V) (x : Value) : Prop :=
  v = G.ver s c ∧ x = .pointer (some ⟨G.rgB s c, 0, none⟩) ∧ G.Z (G.rgB s c) = .rg s c ∧ ∃ xs e, w.heap[G.rgB s c]? = some (.cells xs e (0, 0)) ∧ RelL w A G.bxB cs xs.toList

def SlotR (G : Gh) (A : Pl) (w : World) (e : Nat → V) (s : Nat) : V → Value → Prop
  | .reg c v cs, x => RegR G A w s c v cs x
  | v, x => VR G A w e v x

def BoxR (G : Gh) (A : Pl) (w : World) (bx : BX) : Prop :=
  bx.length = G.bxB.length ∧ ∀ (i : Nat) cs, bx[i]? = some cs → namesL cs = [] ∧ ∃ b, G.bxB[i]? = some b ∧ G.Z b = .bx i ∧ ∃ xs e, w.heap[b]? = some (.cells xs e (0, 0)) ∧ RelL w A G.bxB cs xs.toList

/-- What holds of the zones. -/
structure GOk (G : Gh) (w : World) : Prop where
  lt : ∀ b, G.Z b ≠ .out → b < w.heap.size
  famU : ∀ b nm, G.Z b = .fam nm → b = G.famB nm
  famC : ∀ b nm, G.Z b = .fam nm → ∃ cur e, w.heap[b]? = some (.cells cur e (0, 0)) ∧ G.ext nm ≤ cur.size
  rgU : ∀ b s c, G.Z b = .rg s c → b = G.rgB s c

/-- How a call's own state stands to the model's. D: the slots that this region has written; M: those at which it makes something. -/
structure SR (D M : Nat → Prop) (G : Gh) (σ : St) (tm : Array Value) (w : World) : Prop where
  slots : ∀ s, SlotR G (At G σ.tips σ.lk w) w (get σ.env) s (get σ.env s) (tm.getD s Go.undef)
  boxes : BoxR G (At G σ.tips σ.lk w) w σ.bx
  ok : GOk G w
  shared : ∀ nm, nm < 64 → σ.lk nm = true
  clkD : ∀ b s c, G.Z b = .rg s c → c < σ.clk ∨ (c = σ.clk ∧ D s)
  newD : ∀ d, M d → ¬ D d → ∀ b, G.Z b ≠ .fam (nmOf d 0)

/-- What a stretch of a call may change: nothing that is out of sight or at rest; of what it was given to use up, nothing that was in use. -/
structure Fr (G : Gh) (w : World) (G' : Gh) (w' : World) : Prop where
  os : w'.os = w.os
  tape : w'.tape = w.tape
  output : w'.output = w.output
  size : w.heap.size ≤ w'.heap.size
  rest : ∀ b, b < w.heap.size → (G.Z b = .out ∨ ∃ n, G.Z b = .st n) → w'.heap[b]? = w.heap[b]? ∧ G'.Z b = G.Z b
  used : ∀ b nm, nm < 64 → G.Z b = .fam nm → (∀ x : Addr, x.block = b → x.off < G.ext nm → w'.cell? x = w.cell? x) ∧ ((G'.Z b = .fam nm ∧ G.ext nm ≤ G'.ext nm) ∨ ∃ n, G'.Z b = .st n ∧ G.ext nm ≤ n)
  boxes : ∀ (i b : Nat), G.bxB[i]? = some b → G'.bxB[i]? = some b

theorem Fr.refl (G : Gh) (w : World) : Fr G w G w := ⟨rfl, rfl, rfl, Nat.le_refl _, fun _ _ _ => ⟨rfl, rfl⟩, fun _ _ _ h => ⟨fun _ _ _ => rfl, .inl ⟨h, Nat.le_refl _⟩⟩, fun _ _ h => h⟩

theorem Fr.trans {G G1 G2 : Gh} {w w1 w2 : World} (hok : GOk G w) (h : Fr G w G1 w1) (k : Fr G1 w1 G2 w2) : Fr G w G2 w2 := by
  refine ⟨k.os.trans h.os, k.tape.trans h.tape, k.output.trans h.output, Nat.le_trans h.size k.size, ?_, ?_, fun i b hb => k.boxes i b (h.boxes i b hb)⟩
  · intro b hb hz
    obtain ⟨h1, h2⟩ := h.rest b hb hz
    obtain ⟨k1, k2⟩ := k.rest b (Nat.lt_of_lt_of_le hb h.size) (by rw [h2]; exact hz)
    exact ⟨k1.trans h1, k2.trans h2⟩
  · intro b nm hnm hz
    have hlt : b < w.heap.size := hok.lt b (by rw [hz]; simp)
    obtain ⟨h1, h2⟩ := h.used b nm hnm hz
    rcases h2 with ⟨h2, h3⟩ | ⟨n, h2, h3⟩
    · obtain ⟨k1, k2⟩ := k.used b nm hnm h2
      refine ⟨fun x hx hj => (k1 x hx (by omega)).trans (h1 x hx hj), ?_⟩
      rcases k2 with ⟨k2, k3⟩ | ⟨n, k2, k3⟩
      · exact .inl ⟨k2, by omega⟩
      · exact .inr ⟨n, k2, by omega⟩
    · obtain ⟨k1, k2⟩ := k.rest b (Nat.lt_of_lt_of_le hlt h.size) (.inr ⟨n, h2⟩)
      exact ⟨fun x hx hj => (World.cell?_of_block (by rw [hx]; exact k1)).trans (h1 x hx hj), .inr ⟨n, k2.trans h2, h3⟩⟩

end Go.VM
