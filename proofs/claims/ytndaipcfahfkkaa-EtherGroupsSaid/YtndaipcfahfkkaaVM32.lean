/- From a law's arguments, as they are read, to the machine's values. -/
import Derived.Test.YtndaipcfahfkkaaVM31
import Derived.Handed
import Derived.Carry
import Derived.ChangeSame
import Derived.ChangeShapes
import Derived.OpenShut
namespace Go.VM
open Go.RowKit Go.ChangeShapes Go.WideShapes

/-- The fields lie one behind the other. -/
def tiles (P : Program) : List Field → Nat → Nat → Bool
  | [], off, n => off == n
  | f :: r, off, n => f.offset == off && tiles P r (off + P.cellsOf f.type) n
/-- A type of numbers, bools, strings, and slices, structs, arrays of such. -/
def okT (P : Program) : Nat → TypeId → Bool
  | 0, _ => false
  | d + 1, t => match P.underlying t with
    | some .bool => true
    | some (.int _) => true
    | some .string => true
    | some (.slice e) => decide (0 < P.cellsOf e) && okT P d e
    | some (.struct fs) => tiles P fs.toList 0 (P.cellsOf t) && fs.toList.all fun f => okT P d f.type
    | some (.array n e) => P.cellsOf t == n * P.cellsOf e && okT P d e
    | _ => false

/-- What the cells of such a type hold. -/
inductive TyC (P : Program) : TypeId → List V → Prop
  | bool (t : TypeId) (b : Bool) : P.underlying t = some .bool → TyC P t [.bool b]
  | int (t : TypeId) (k : IntKind) (n : Int) : P.underlying t = some (.int k) → k.min ≤ n → n ≤ k.max → TyC P t [.int k n]
  | str (t : TypeId) (s : List UInt8) : P.underlying t = some .string → s.length ≤ maxLen → TyC P t [.str s]
  | nils (t e : TypeId) : P.underlying t = some (.slice e) → TyC P t [.nils]
  | sl (t e : TypeId) (css : List (List V)) : P.underlying t = some (.slice e) → 0 < P.cellsOf e → css.length ≤ maxLen → (∀ cs, cs ∈ css → TyC P e cs) → (∀ cs, cs ∈ css → cs.length = P.cellsOf e) → TyC P t [.sl .none (P.cellsOf e) css.length css.flatten]
  | struct (t : TypeId) (fs : Array Field) (css : List (List V)) : P.underlying t = some (.struct fs) → css.length = fs.size → (∀ (i : Nat) f cs, fs[i]? = some f → css[i]? = some cs → TyC P f.type cs) → TyC P t css.flatten
  | array (t : TypeId) (n : Nat) (e : TypeId) (css : List (List V)) : P.underlying t = some (.array n e) → css.length = n → (∀ cs, cs ∈ css → TyC P e cs) → TyC P t css.flatten

/-- The ghost over a world of which all is at rest. -/
def readG (w : World) : Gh :=
  { Z := fun b => match w.heap[b]? with
      | some (.cells cs _ _) => .st cs.size
      | some _ => .st 0
      | none => .out
    rgB := fun _ _ => 0, ver := fun _ _ => 0, famB := fun _ => 0, ext := fun _ => 0, bxB := [] }

theorem readG_ok (w : World) : GOk (readG w) w := by
  refine ⟨fun b hb => ?_, fun b nm h => ?_, fun b nm h => ?_, fun b s c h => ?_⟩
  · by_cases hlt : b < w.heap.size
    · exact hlt
    · exfalso; apply hb
      simp only [readG, Array.getElem?_eq_none (Nat.le_of_not_lt hlt)]
  all_goals
    simp only [readG] at h
    split at h <;> cases h

theorem mapM_get {α β : Type} {f : α → Option β} : ∀ {xs : List α} {ys : List β}, xs.mapM f = some ys → ys.length = xs.length ∧ ∀ (i : Nat) x, xs[i]? = some x → ∃ y, ys[i]? = some y ∧ f x = some y
  | [], ys, h => by simp at h; subst h; simp
  | x :: r, ys, h => by
    rw [List.mapM_cons] at h
    cases hx : f x with
    | none => simp [hx] at h
    | some y =>
      cases hr : r.mapM f with
      | none => simp [hx, hr] at h
      | some zs =>
        simp [hx, hr] at h
        subst h
        obtain ⟨k1, k2⟩ := mapM_get hr
        refine ⟨by simp [k1], fun i x' hi => ?_⟩
        cases i with
        | zero => simp at hi; subst hi; exact ⟨y, rfl, hx⟩
        | succ i => simp at hi; obtain ⟨z, h1, h2⟩ := k2 i x' hi; exact ⟨z, by simpa using h1, h2⟩

section
variable {H : Type} {enc : TypeId × Value → H} {P : Program} {w : World} {base : Nat} {spare : Nat → Bool} {held : Bool}

/-- Whatever a machine's value is told of by: nothing but numbers, strings and rows at rest. -/
abbrev A1 (w : World) : Pl := A0 (readG w) w

theorem still_of_row {a : Addr} {xs : List Value} (h : Row w a xs) (z n cap : Nat) : A1 w .none a xs.length z n cap := by
  by_cases h0 : xs.length = 0
  · exact .inl h0
  · refine .inr (.inl ?_)
    have h1 := h (xs.length - 1) _ (List.getElem?_eq_getElem (by omega))
    unfold World.cell? at h1
    rw [add_block] at h1
    split at h1
    · rename_i c e fr hc
      split at h1
      · cases h1
      · have := (Array.getElem?_eq_some_iff.1 h1).1
        rw [add_off] at this
        exact ⟨c.size, by simp only [readG, hc], by omega⟩
    · cases h1

theorem RelL.flatten {A : Pl} {B : List Nat} : ∀ {vss : List (List V)} {css : List (List Value)}, vss.length = css.length → (∀ (i : Nat) vs cs, vss[i]? = some vs → css[i]? = some cs → RelL w A B vs cs) → RelL w A B vss.flatten css.flatten
  | [], [], _, _ => .nil
  | [], _ :: _, h, _ => by simp at h
  | _ :: _, [], h, _ => by simp at h
  | v :: vs, c :: cs, hl, h => by
    rw [List.flatten_cons, List.flatten_cons]
    exact (h 0 v c rfl rfl).append (RelL.flatten (by simpa using hl) fun i a b h1 h2 => h (i + 1) a b (by simpa using h1) (by simpa using h2))

theorem namesL_flatten {vss : List (List V)} (h : ∀ vs ∈ vss, namesL vs = []) : namesL vss.flatten = [] := namesL_nil.2 fun v hv => by
  obtain ⟨l, h1, h2⟩ := List.mem_flatten.1 hv
  exact namesL_nil.1 (h l h1) v h2

/-- The list of existing things. -/
theorem choose_list {α β : Type} {R : Nat → α → β → Prop} : ∀ (xs : List α) (k : Nat), (∀ (i : Nat) x, xs[i]? = some x → ∃ y, R (k + i) x y) → ∃ ys : List β, ys.length = xs.length ∧ ∀ (i : Nat) x y, xs[i]? = some x → ys[i]? = some y → R (k + i) x y
  | [], k, _ => ⟨[], rfl, fun i x y h => by simp at h⟩
  | x :: r, k, h => by
    obtain ⟨y, hy⟩ := h 0 x rfl
    obtain ⟨ys, h1, h2⟩ := choose_list r (k + 1) fun i x' hi => by
      obtain ⟨y, hy⟩ := h (i + 1) x' (by simpa using hi)
      exact ⟨y, by rw [Nat.add_assoc, Nat.add_comm 1 i]; exact hy⟩
    refine ⟨y :: ys, by simp [h1], fun i x' y' e1 e2 => ?_⟩
    cases i with
    | zero => simp at e1 e2; subst e1 e2; exact hy
    | succ i =>
      simp at e1 e2
      have := h2 i x' y' e1 e2
      rw [Nat.add_assoc, Nat.add_comm 1 i] at this
      exact this

theorem chunks : ∀ (n z : Nat) (cs : List Value), cs.length = n * z → ((List.range n).map fun i => (cs.drop (i * z)).take z).flatten = cs
  | 0, z, cs, h => by
    rw [Nat.zero_mul] at h
    rw [List.eq_nil_of_length_eq_zero h]; rfl
  | n + 1, z, cs, h => by
    rw [List.range_succ_eq_map, List.map_cons, List.flatten_cons, List.map_map]
    have h2 : (cs.drop z).length = n * z := by rw [List.length_drop, h, Nat.succ_mul]; omega
    have ih := chunks n z (cs.drop z) h2
    have e : (List.range n).map ((fun i => (cs.drop (i * z)).take z) ∘ Nat.succ) = (List.range n).map fun i => ((cs.drop z).drop (i * z)).take z := by
      refine List.map_congr_left fun i _ => ?_
      simp only [Function.comp, List.drop_drop]
      congr 2
      rw [Nat.succ_mul]; omega
    rw [e, ih]
    simp

theorem tiles_flatten : ∀ (fs : List Field) (off n : Nat) (cs : List Value), tiles P fs off n = true → cs.length = n → off ≤ n → (fs.map fun f => (cs.drop f.offset).take (P.cellsOf f.type)).flatten = cs.drop off
  | [], off, n, cs, ht, hl, _ => by
    simp only [tiles, beq_iff_eq] at ht
    subst ht
    rw [List.map_nil, List.flatten_nil, List.drop_of_length_le (by omega)]
  | f :: r, off, n, cs, ht, hl, ho => by
    simp only [tiles, Bool.and_eq_true, beq_iff_eq] at ht
    obtain ⟨h1, h2⟩ := ht
    have hle : ∀ (fs : List Field) (off : Nat), tiles P fs off n = true → off ≤ n := by
      intro fs
      induction fs with
      | nil => intro off h; simp only [tiles, beq_iff_eq] at h; omega
      | cons g s ih =>
        intro off h
        simp only [tiles, Bool.and_eq_true] at h
        have := ih _ h.2; omega
    have h3 := hle r _ h2
    rw [List.map_cons, List.flatten_cons, tiles_flatten r _ n cs h2 hl h3, h1]
    conv => rhs; rw [← List.take_append_drop (P.cellsOf f.type) (cs.drop off), List.drop_drop]

/-- What was read is told of to the machine. -/
theorem trod_ty : ∀ (fuel : Nat) {t : TypeId} {cs : List Value} {x : DataW H × List MemPlace} {d : Nat}, DataW.trod enc P w base spare held fuel t cs = some x → okT P d t = true →
    ∃ vs, RelL w (A1 w) [] vs cs ∧ TyC P t vs ∧ namesL vs = [] := by
  intro fuel
  induction fuel with
  | zero => intro t cs x d h; simp [DataW.trod] at h
  | succ fuel ih =>
    intro t cs x d h hok
    cases d with
    | zero => cases hok
    | succ d =>
      simp only [okT] at hok
      split at hok
      · rename_i hu
        obtain ⟨b, rfl, _⟩ := DataW.trod_bool hu h
        exact ⟨[.bool b], .cons _ _ _ _ (.bool b) .nil, .bool t b hu, rfl⟩
      · rename_i k hu
        obtain ⟨n, rfl, _, hw⟩ := DataW.trod_int hu h
        simp [Lit.wf] at hw
        exact ⟨[.int k n], .cons _ _ _ _ (.int k n) .nil, .int t k n hu hw.1 hw.2, rfl⟩
      · rename_i hu
        obtain ⟨b, rfl, _, hl⟩ := DataW.trod_string hu h
        exact ⟨[.str b.data.toList], .cons _ _ _ _ (.str b) .nil, .str t _ hu (by simpa using hl), rfl⟩
      · rename_i e hu
        simp only [Bool.and_eq_true, decide_eq_true_eq] at hok
        rcases DataW.trod_slice hu h with ⟨rfl, _⟩ | ⟨a, len, cap, elems, rest, m, hm, rfl, _, _, hlc, hcm, hel, hget, _⟩
        · exact ⟨[.nils], .cons _ _ _ _ .nils .nil, .nils t e hu, rfl⟩
        · cases hm
          have hone : ∀ (i : Nat) (j : Unit), (List.replicate len ())[i]? = some j → ∃ y : List Value × List V, w.cells? base (a.add (i * P.cellsOf e)) (P.cellsOf e) = some y.1 ∧ RelL w (A1 w) [] y.2 y.1 ∧ TyC P e y.2 ∧ namesL y.2 = [] := fun i j hi => by
            have hil : i < len := by have := (List.getElem?_eq_some_iff.1 hi).1; simpa using this
            have hg := hget i hil
            rw [List.getElem?_eq_getElem (by omega)] at hg
            obtain ⟨c, h1, h2⟩ := Option.bind_eq_some_iff.1 hg
            obtain ⟨vs, k1, k2, k3⟩ := ih h2 hok.2
            exact ⟨(c, vs), h1, k1, k2, k3⟩
          obtain ⟨ys, hy1, hy2⟩ := choose_list (R := fun i (_ : Unit) (y : List Value × List V) => w.cells? base (a.add (i * P.cellsOf e)) (P.cellsOf e) = some y.1 ∧ RelL w (A1 w) [] y.2 y.1 ∧ TyC P e y.2 ∧ namesL y.2 = []) (List.replicate len ()) 0 (fun i x hi => by rw [Nat.zero_add]; exact hone i x hi)
          have hyl : ys.length = len := by rw [hy1]; simp
          have hy : ∀ (i : Nat) y, ys[i]? = some y → w.cells? base (a.add (i * P.cellsOf e)) (P.cellsOf e) = some y.1 ∧ RelL w (A1 w) [] y.2 y.1 ∧ TyC P e y.2 ∧ namesL y.2 = [] := fun i y hi => by
            have hil := (List.getElem?_eq_some_iff.1 hi).1
            have := hy2 i () y (by rw [List.getElem?_replicate]; simp; omega) hi
            rwa [Nat.zero_add] at this
          have hcl : ∀ (i : Nat) y, ys[i]? = some y → y.1.length = P.cellsOf e ∧ ∀ j u, y.1[j]? = some u → w.cell? (a.add (i * P.cellsOf e + j)) = some u := fun i y hi => by
            have h1 := (hy i y hi).1
            unfold World.cells? at h1
            split at h1
            · obtain ⟨q1, q2⟩ := mapM_get h1
              refine ⟨by simpa using q1, fun j u hj => ?_⟩
              have hjl := (List.getElem?_eq_some_iff.1 hj).1
              rw [q1] at hjl
              obtain ⟨y', q3, q4⟩ := q2 j j (by simp at hjl; simp [hjl])
              rw [hj] at q3; cases q3
              rw [Go.Deep.add_add] at q4
              exact q4
            · cases h1
          have hflen : ∀ (zs : List (List Value × List V)), (∀ y ∈ zs, y.1.length = P.cellsOf e) → ((zs.map (·.1)).flatten).length = zs.length * P.cellsOf e := by
            intro zs
            induction zs with
            | nil => intro _; simp
            | cons y r ihz =>
              intro hz
              rw [List.map_cons, List.flatten_cons, List.length_append, ihz fun u hu => hz u (List.mem_cons_of_mem _ hu), hz y List.mem_cons_self, List.length_cons, Nat.succ_mul]
              omega
          have hlen := hflen ys fun y hy' => by
            obtain ⟨i, hi, he⟩ := List.getElem_of_mem hy'
            exact (hcl i y (by rw [List.getElem?_eq_getElem hi, he])).1
          rw [hyl] at hlen
          have hrow : Row w a ((ys.map (·.1)).flatten) := by
            have gen : ∀ (zs : List (List Value × List V)) (k : Nat), (∀ (i : Nat) y, zs[i]? = some y → y.1.length = P.cellsOf e ∧ ∀ j u, y.1[j]? = some u → w.cell? (a.add ((k + i) * P.cellsOf e + j)) = some u) → ∀ j u, ((zs.map (·.1)).flatten)[j]? = some u → w.cell? (a.add (k * P.cellsOf e + j)) = some u := by
              intro zs
              induction zs with
              | nil => intro k _ j u hj; simp at hj
              | cons y r ihz =>
                intro k hz j u hj
                obtain ⟨z1, z2⟩ := hz 0 y rfl
                rw [List.map_cons, List.flatten_cons] at hj
                by_cases hjl : j < y.1.length
                · rw [List.getElem?_append_left hjl] at hj
                  exact z2 j u hj
                · rw [List.getElem?_append_right (by omega)] at hj
                  have := ihz (k + 1) (fun i y' hi => by
                    have := hz (i + 1) y' (by simpa using hi)
                    rw [Nat.add_assoc, Nat.add_comm 1 i]; exact this) _ u hj
                  rw [Nat.succ_mul, z1, Nat.add_assoc, Nat.add_sub_cancel' (by omega)] at this
                  exact this
            intro j u hj
            have := gen ys 0 (fun i y hi => by rw [Nat.zero_add]; exact hcl i y hi) j u hj
            rwa [Nat.zero_mul, Nat.zero_add] at this
          have hrel : RelL w (A1 w) [] ((ys.map (·.2)).flatten) ((ys.map (·.1)).flatten) := RelL.flatten (by simp) fun i vs cs h1 h2 => by
            rw [List.getElem?_map] at h1 h2
            cases hyi : ys[i]? with
            | none => rw [hyi] at h1; cases h1
            | some y => rw [hyi] at h1 h2; cases h1; cases h2; exact (hy i y hyi).2.1
          have hmem : ∀ vs ∈ ys.map (·.2), TyC P e vs ∧ namesL vs = [] ∧ vs.length = P.cellsOf e := fun vs hv => by
            obtain ⟨y, hym, rfl⟩ := List.mem_map.1 hv
            obtain ⟨i, hi, he⟩ := List.getElem_of_mem hym
            have hyi : ys[i]? = some y := by rw [List.getElem?_eq_getElem hi, he]
            obtain ⟨_, q1, q2, q3⟩ := hy i y hyi
            exact ⟨q2, q3, by rw [q1.length]; exact (hcl i y hyi).1⟩
          have hnames : namesL ((ys.map (·.2)).flatten) = [] := namesL_flatten fun vs hv => (hmem vs hv).2.1
          have hml : (ys.map (·.2)).length = len := by simp [hyl]
          refine ⟨[.sl .none (P.cellsOf e) (ys.map (·.2)).length ((ys.map (·.2)).flatten)], .cons _ _ _ _ ?_ .nil, .sl t e _ hu hok.1 (by rw [hml]; omega) (fun cs hcs => (hmem cs hcs).1) (fun cs hcs => (hmem cs hcs).2.2), by simp [namesL, V.names, Lab.names]⟩
          rw [hml]
          exact .sl _ _ _ _ a cap _ (still_of_row hrow _ _ _) hok.1 hlen hlc hcm hrow hrel hnames
      · rename_i fs hu
        simp only [Bool.and_eq_true] at hok
        obtain ⟨xs, m, hm, _, hl, hxl, hget⟩ := DataW.trod_struct hu h
        cases hm
        have hall := hok.2
        have hone : ∀ (i : Nat) (f : Field), fs.toList[i]? = some f → ∃ y : List V, RelL w (A1 w) [] y ((cs.drop f.offset).take (P.cellsOf f.type)) ∧ TyC P f.type y ∧ namesL y = [] := fun i f hf => by
          rw [Array.getElem?_toList] at hf
          have hg := hget i f hf
          have hi := (Array.getElem?_eq_some_iff.1 hf).1
          rw [List.getElem?_eq_getElem (by omega)] at hg
          rw [List.all_eq_true] at hall
          exact ih hg (hall f (by obtain ⟨h1, h2⟩ := Array.getElem?_eq_some_iff.1 hf; rw [← h2]; simp))
        obtain ⟨ys, hy1, hy2⟩ := choose_list (R := fun _ (f : Field) (y : List V) => RelL w (A1 w) [] y ((cs.drop f.offset).take (P.cellsOf f.type)) ∧ TyC P f.type y ∧ namesL y = []) fs.toList 0 (fun i f hf => hone i f hf)
        have hfl := tiles_flatten fs.toList 0 (P.cellsOf t) cs hok.1 hl (Nat.zero_le _)
        rw [List.drop_zero] at hfl
        refine ⟨ys.flatten, ?_, .struct t fs ys hu (by rw [hy1]; simp) (fun i f c hf hc => (hy2 i f c (by rw [Array.getElem?_toList]; exact hf) hc).2.1), namesL_flatten fun vs hv => ?_⟩
        · rw [← hfl]
          refine RelL.flatten (by rw [hy1]; simp) fun i vs c h1 h2 => ?_
          rw [List.getElem?_map] at h2
          cases hf : fs.toList[i]? with
          | none => rw [hf] at h2; cases h2
          | some f => rw [hf] at h2; cases h2; exact (hy2 i f vs hf h1).1
        · obtain ⟨i, hi, he⟩ := List.getElem_of_mem hv
          have hif : i < fs.toList.length := by omega
          exact (hy2 i _ vs (List.getElem?_eq_getElem hif) (by rw [List.getElem?_eq_getElem hi, he])).2.2
      · rename_i n e hu
        simp only [Bool.and_eq_true, beq_iff_eq] at hok
        obtain ⟨xs, m, hm, _, hl, hxl, hget⟩ := DataW.trod_array hu h
        cases hm
        have hone : ∀ (i : Nat) (j : Unit), (List.replicate n ())[i]? = some j → ∃ y : List V, RelL w (A1 w) [] y ((cs.drop (i * P.cellsOf e)).take (P.cellsOf e)) ∧ TyC P e y ∧ namesL y = [] := fun i j hi => by
          have hil : i < n := by have := (List.getElem?_eq_some_iff.1 hi).1; simpa using this
          have hg := hget i hil
          rw [List.getElem?_eq_getElem (by omega)] at hg
          exact ih hg hok.2
        obtain ⟨ys, hy1, hy2⟩ := choose_list (R := fun i (_ : Unit) (y : List V) => RelL w (A1 w) [] y ((cs.drop (i * P.cellsOf e)).take (P.cellsOf e)) ∧ TyC P e y ∧ namesL y = []) (List.replicate n ()) 0 (fun i x hi => by rw [Nat.zero_add]; exact hone i x hi)
        have hyl : ys.length = n := by rw [hy1]; simp
        have hy : ∀ (i : Nat) y, ys[i]? = some y → RelL w (A1 w) [] y ((cs.drop (i * P.cellsOf e)).take (P.cellsOf e)) ∧ TyC P e y ∧ namesL y = [] := fun i y hi => by
          have hil := (List.getElem?_eq_some_iff.1 hi).1
          have := hy2 i () y (by rw [List.getElem?_replicate]; simp; omega) hi
          rwa [Nat.zero_add] at this
        have hmem : ∀ vs ∈ ys, TyC P e vs ∧ namesL vs = [] := fun vs hv => by
          obtain ⟨i, hi, he⟩ := List.getElem_of_mem hv
          exact (hy i vs (by rw [List.getElem?_eq_getElem hi, he])).2
        have hch := chunks n (P.cellsOf e) cs (by rw [hl, hok.1])
        refine ⟨ys.flatten, ?_, .array t n e ys hu hyl (fun c hc => (hmem c hc).1), namesL_flatten fun vs hv => (hmem vs hv).2⟩
        rw [← hch]
        refine RelL.flatten (by simp [hyl]) fun i vs c h1 h2 => ?_
        rw [List.getElem?_map] at h2
        cases hr : (List.range n)[i]? with
        | none => rw [hr] at h2; cases h2
        | some j =>
          rw [hr] at h2; cases h2
          have hin : i < n := by have := (List.getElem?_eq_some_iff.1 hr).1; simpa using this
          rw [List.getElem?_range hin] at hr
          cases hr
          exact (hy i vs h1).1
      · cases hok

/-- A machine's value of a type. -/
def TyV (P : Program) (t : TypeId) (v : V) : Prop :=
  match P.underlying t with
  | some (.struct _) | some (.array _ _) => ∃ cs, v = .agg cs ∧ TyC P t cs
  | _ => TyC P t [v]
def TyVs (P : Program) : List TypeId → List V → Prop
  | [], [] => True
  | t :: ts, v :: vs => TyV P t v ∧ TyVs P ts vs
  | _, _ => False

theorem cells_one {v : Value} (h : ∀ xs, v ≠ .agg xs) : v.cells.toList = [v] := by
  cases v <;> first | rfl | exact absurd rfl (h _)

theorem trod_tyv {t : TypeId} {v : Value} {dd : DataW H} {ps : List MemPlace} {b0 : Nat} {d : Nat} (hval : Value.okWide P w .any b0 t v) (h : DataW.Trod enc P w base spare held t v dd ps) (hok : okT P d t = true) : ∃ u, Rel w (A1 w) [] u v ∧ TyV P t u := by
  obtain ⟨fuel, hf⟩ := h
  obtain ⟨vs, h1, h2, h3⟩ := trod_ty fuel hf hok
  have single : (∀ xs, v ≠ .agg xs) → (∀ u, TyC P t [u] → TyV P t u) → ∃ u, Rel w (A1 w) [] u v ∧ TyV P t u := fun hv ht => by
    rw [cells_one hv] at h1
    cases h1 with
    | cons u c r s k1 k2 => cases k2; exact ⟨u, k1, ht u h2⟩
  have many : (∃ cs, v = .agg cs) → (∀ cs, TyC P t cs → TyV P t (.agg cs)) → ∃ u, Rel w (A1 w) [] u v ∧ TyV P t u := fun ⟨cs, hv⟩ ht => by
    subst hv
    exact ⟨.agg vs, .agg _ _ h1, ht vs h2⟩
  unfold Value.okWide at hval
  cases d with
  | zero => cases hok
  | succ d =>
    simp only [okT] at hok
    split at hok
    · rename_i hu
      rw [hu] at hval
      exact single (by rintro xs rfl; simp [Cell.okWide, Cell.ok, hu] at hval) fun u hc => by unfold TyV; rw [hu]; exact hc
    · rename_i hu
      rw [hu] at hval
      exact single (by rintro xs rfl; simp [Cell.okWide, Cell.ok, hu] at hval) fun u hc => by unfold TyV; rw [hu]; exact hc
    · rename_i hu
      rw [hu] at hval
      exact single (by rintro xs rfl; simp [Cell.okWide, Cell.ok, hu] at hval) fun u hc => by unfold TyV; rw [hu]; exact hc
    · rename_i hu
      rw [hu] at hval
      exact single (by rintro xs rfl; simp [Cell.okWide, Cell.ok, hu] at hval) fun u hc => by unfold TyV; rw [hu]; exact hc
    · rename_i hu
      rw [hu] at hval
      obtain ⟨cs, hv, _⟩ := hval
      exact many ⟨cs, hv⟩ fun c hc => by unfold TyV; rw [hu]; exact ⟨c, rfl, hc⟩
    · rename_i hu
      rw [hu] at hval
      obtain ⟨cs, hv, _⟩ := hval
      exact many ⟨cs, hv⟩ fun c hc => by unfold TyV; rw [hu]; exact ⟨c, rfl, hc⟩
    · cases hok

theorem trodAll_tyv {b0 : Nat} {d : Nat} : ∀ {ts : List TypeId} {vs : List Value} {ds : List (DataW H)} {ps : List MemPlace}, DataW.TrodAll enc P w base spare held ts vs ds ps → (∀ (j : Nat) t v, ts[j]? = some t → vs[j]? = some v → Value.okWide P w .any b0 t v) → (ts.all fun t => okT P d t) = true →
    ∃ us, RelL w (A1 w) [] us vs ∧ TyVs P ts us
  | [], vs, ds, ps, h, _, _ => by
    obtain ⟨rfl, _, _⟩ := trodAll_nil h
    exact ⟨[], .nil, trivial⟩
  | t :: ts, vs, ds, ps, h, hv, hok => by
    simp only [List.all_cons, Bool.and_eq_true] at hok
    cases vs with
    | nil => cases ds <;> exact h.elim
    | cons v vs =>
      cases ds with
      | nil => exact h.elim
      | cons dd ds =>
        obtain ⟨p, q, h1, h2, _⟩ := h
        obtain ⟨u, k1, k2⟩ := trod_tyv (hv 0 t v rfl rfl) h1 hok.1
        obtain ⟨us, k3, k4⟩ := trodAll_tyv h2 (fun j t' v' e1 e2 => hv (j + 1) t' v' (by simpa using e1) (by simpa using e2)) hok.2
        exact ⟨u :: us, .cons _ _ _ _ k1 k3, k2, k4⟩

theorem trodAll_lens : ∀ {ts : List TypeId} {vs : List Value} {ds : List (DataW H)} {ps : List MemPlace}, DataW.TrodAll enc P w base spare held ts vs ds ps → vs.length = ts.length ∧ ds.length = ts.length
  | [], vs, ds, ps, h => by obtain ⟨rfl, rfl, _⟩ := trodAll_nil h; exact ⟨rfl, rfl⟩
  | t :: ts, vs, ds, ps, h => by
    cases vs with
    | nil => cases ds <;> exact h.elim
    | cons v vs =>
      cases ds with
      | nil => exact h.elim
      | cons d ds =>
        obtain ⟨p, q, _, h2, _⟩ := h
        obtain ⟨k1, k2⟩ := trodAll_lens h2
        exact ⟨by simp [k1], by simp [k2]⟩

/-- The arguments read behind the call as they did. -/
theorem trodAll_stays {W W' : World} (hl : laidOutB P = true) (hb : Below W.heap.size W W') : ∀ {ts : List TypeId} {vs : List Value} {ds : List (DataW H)} {ps : List MemPlace}, DataW.TrodAll enc P W 0 (fun _ => true) true ts vs ds ps →
    (ts.all fun t => P.readableRec t && decide (t < P.types.size)) = true → (∀ x ∈ ps, x.block < W.heap.size) → DataW.TrodAll enc P W' 0 (fun b => decide (b < W.heap.size)) true ts vs ds ps
  | [], vs, ds, ps, h, _, _ => by obtain ⟨rfl, rfl, rfl⟩ := trodAll_nil h; rfl
  | t :: ts, vs, ds, ps, h, hr, hlt => by
    simp only [List.all_cons, Bool.and_eq_true, decide_eq_true_eq] at hr
    cases vs with
    | nil => cases ds <;> exact h.elim
    | cons v vs =>
      cases ds with
      | nil => exact h.elim
      | cons d ds =>
        obtain ⟨p, q, h1, h2, rfl⟩ := h
        exact ⟨p, q, Below.trod hl hr.1.1 hr.1.2 h1 hb (fun x hx => hlt x (List.mem_append.2 (.inl hx))), trodAll_stays hl hb h2 (by simpa using hr.2) (fun x hx => hlt x (List.mem_append.2 (.inr hx))), rfl⟩
end

/-- A LAW THAT THE MACHINE ANSWERS 'true' RETURNS true, and leaves what was there as it was. -/
theorem calls_of_vm {P : Program} {F : Nat → Option Entry} (hF : TableOk P F) {f n : Nat} {vs : List V} {cs : List Value} {W : World} {vf : VF} (hf : F f = some (.code vf)) (hc : call F n f vs [] = some (.bool true, [])) (hr : RelL W (A1 W) [] vs cs) :
    Calls P f cs.toArray W fun e W' => e = .returned (.bool true) ∧ Below W.heap.size W W' := by
  obtain ⟨fn, hh, h1, h2⟩ := hF f _ hf
  obtain ⟨c, hb, _, _, _, _, _, hname⟩ := compileFn_inv h2
  have hst : Start (readG W) W vs cs [] := by
    refine ⟨readG_ok W, fun b s c h => ?_, fun b nm h => ?_, hr, rfl, fun i ds hi => by simp at hi⟩
    all_goals
      simp only [readG] at h
      split at h <;> cases h
  rcases call_sound hF n f vs [] _ _ hc rfl (readG W) W cs hst with ⟨_, h3⟩ | ⟨c', w', h3, _⟩
  · refine h3.mono fun e W' ⟨c', e1, rcs, G', lk, e2, hR⟩ => ?_
    have hres := hR.res
    cases hres with
    | cons v c2 vs2 cs2 k1 k2 =>
      cases k2
      have := Rel.bool_inv k1
      subst this
      refine ⟨by rw [e1, e2]; rfl, hR.fr.os, hR.fr.tape, hR.fr.output, hR.fr.size, fun k hk => (hR.fr.rest k hk ?_).1⟩
      simp only [readG]
      cases hw : W.heap[k]? with
      | none => exact .inl rfl
      | some ob => cases ob <;> exact .inr ⟨_, rfl⟩
  · exfalso
    unfold callFunc at h3
    have hp : (Go.program : Sem Program).run P W = .ok P W := rfl
    rw [Sem.run_bind, hp, Result.andThen_ok, h1] at h3
    simp only at h3
    rw [if_neg (by rw [hname]; simp), if_neg (by rw [hb]; simp)] at h3
    cases h3
end Go.VM
