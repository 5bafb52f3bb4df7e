/- A call: what the callee is handed. -/
import Derived.Test.YtndaipcfahfkkaaVM18
namespace Go.VM
open Go.RowKit

/-- Whatever goes by no name goes over. -/
def KeepsB (w w' : World) (A A' : Pl) (B B' : List Nat) : Prop :=
  (∀ l a len z n cap, l.names = [] → A l a len z n cap → A' l a len z n cap ∧ ∀ j, j < len → w'.cell? (a.add j) = w.cell? (a.add j)) ∧ ∀ (i blk : Nat), B[i]? = some blk → B'[i]? = some blk

mutual
theorem Rel.keepB {w w' : World} {A A' : Pl} {B B' : List Nat} (hk : KeepsB w w' A A' B B') {v : V} {c : Value} (h : Rel w A B v c) (hn : v.names = []) : Rel w' A' B' v c := by
  cases h with
  | undef => exact .undef _
  | bool => exact .bool _
  | int => exact .int _ _
  | str => exact .str _
  | nilp => exact .nilp
  | nilf => exact .nilf
  | nili => exact .nili
  | nils => exact .nils
  | sl l z n cs a cap xs h1 h2 h3 h4 h5 h6 h7 h8 =>
    have hl : l.names = [] := by simpa [V.names] using hn
    exact .sl l z n cs a cap xs (hk.1 _ _ _ _ _ _ hl h1).1 h2 h3 h4 h5 (h6.keep (hk.1 _ _ _ _ _ _ hl h1).2) (RelL.keepB hk h7 h8) h8
  | ep l cs off a z n cap xs h1 h2 h3 h4 =>
    have hl : l.names = [] := by simpa [V.names] using hn
    exact .ep l cs off a z n cap xs (hk.1 _ _ _ _ _ _ hl h1).1 (h2.keep (hk.1 _ _ _ _ _ _ hl h1).2) (RelL.keepB hk h3 h4) h4
  | bp b off blk h1 => exact .bp b off blk (hk.2 _ _ h1)
  | agg cs xs h1 => exact .agg cs xs (RelL.keepB hk h1 (by simpa [V.names] using hn))
  | tup cs xs h1 => exact .tup cs xs (RelL.keepB hk h1 (by simpa [V.names] using hn))
  | fn f a b xs ys h1 h2 h3 h4 => exact .fn f a b xs ys (RelL.keepB hk h1 h3) (RelL.keepB hk h2 h4) h3 h4
  | iface t v c h1 h2 => exact .iface t v c (Rel.keepB hk h1 h2) h2
theorem RelL.keepB {w w' : World} {A A' : Pl} {B B' : List Nat} (hk : KeepsB w w' A A' B B') {vs : List V} {cs : List Value} (h : RelL w A B vs cs) (hn : namesL vs = []) : RelL w' A' B' vs cs := by
  cases h with
  | nil => exact .nil
  | cons v c vs cs h1 h2 =>
    simp only [namesL, List.append_eq_nil_iff] at hn
    exact .cons v c vs cs (Rel.keepB hk h1 hn.1) (RelL.keepB hk h2 hn.2)
end

def V.labs1 : V → List Lab
  | .sl l _ _ _ => [l]
  | .ep l _ _ => [l]
  | _ => []
def V.labs : V → List Lab
  | .agg cs => cs.flatMap V.labs1
  | v => v.labs1
def V.single : V → Bool
  | .agg _ | .tup _ => false
  | _ => true
/-- No row of cells within another one. -/
def V.flat : V → Bool
  | .agg cs => cs.all V.single
  | .tup _ => false
  | _ => true

theorem V.single_of_ok1 {v : V} (h : v.ok1 = true) : v.single = true := by cases v <;> first | rfl | cases h
theorem V.flat_of_ok {v : V} (h : v.ok = true) : v.flat = true := by
  cases v with
  | agg cs =>
    simp only [V.ok, V.flat, List.all_eq_true] at *
    exact fun u hu => V.single_of_ok1 (h u hu)
  | tup => cases h
  | _ => rfl

section
variable {w w' : World} {A A' : Pl} {B B' : List Nat} {g : Lab → Lab}

theorem Rel.mapLab1 (hk : KeepsB w w' A A' B B') {v : V} {c : Value} (hg : ∀ l ∈ v.labs1, ∀ a len z n cap, A l a len z n cap → A' (g l) a len z n cap ∧ ∀ j, j < len → w'.cell? (a.add j) = w.cell? (a.add j))
    (h : Rel w A B v c) (hs : v.single = true) : Rel w' A' B' (v.mapLab1 g) c := by
  have other : v.labs1 = [] → v.mapLab1 g = v → v.names = [] → Rel w' A' B' (v.mapLab1 g) c := fun _ h2 h3 => by rw [h2]; exact h.keepB hk h3
  cases h with
  | sl l z n cs a cap xs h1 h2 h3 h4 h5 h6 h7 h8 =>
    have hh := hg l (by simp [V.labs1]) _ _ _ _ _ h1
    exact .sl (g l) z n cs a cap xs hh.1 h2 h3 h4 h5 (h6.keep hh.2) (h7.keepB hk h8) h8
  | ep l cs off a z n cap xs h1 h2 h3 h4 =>
    have hh := hg l (by simp [V.labs1]) _ _ _ _ _ h1
    exact .ep (g l) cs off a z n cap xs hh.1 (h2.keep hh.2) (h3.keepB hk h4) h4
  | agg => cases hs
  | tup => cases hs
  | _ => exact other rfl rfl rfl

theorem Rel.mapLab (hk : KeepsB w w' A A' B B') {v : V} {c : Value} (hg : ∀ l ∈ v.labs, ∀ a len z n cap, A l a len z n cap → A' (g l) a len z n cap ∧ ∀ j, j < len → w'.cell? (a.add j) = w.cell? (a.add j))
    (h : Rel w A B v c) (hf : v.flat = true) : Rel w' A' B' (v.mapLab g) c := by
  by_cases hs : v.single = true
  · have : v.mapLab g = v.mapLab1 g := by cases v <;> first | rfl | cases hs
    rw [this]
    exact h.mapLab1 hk (fun l hl => hg l (by cases v <;> first | exact hl | cases hs)) hs
  · cases h with
    | agg cs xs h =>
      simp only [V.flat, List.all_eq_true] at hf
      refine .agg _ _ ?_
      have : ∀ (cs : List V) (xs : List Value), RelL w A B cs xs → (∀ v ∈ cs, v.single = true) → (∀ l ∈ cs.flatMap V.labs1, ∀ a len z n cap, A l a len z n cap → A' (g l) a len z n cap ∧ ∀ j, j < len → w'.cell? (a.add j) = w.cell? (a.add j)) → RelL w' A' B' (cs.map (V.mapLab1 g)) xs := by
        intro cs
        induction cs with
        | nil => intro xs h _ _; cases h; exact .nil
        | cons v r ih =>
          intro xs h h1 h2
          cases h with
          | cons _ c _ ys k1 k2 =>
            exact .cons _ _ _ _ (k1.mapLab1 hk (fun l hl => h2 l (by simp [hl])) (h1 v (by simp))) (ih ys k2 (fun u hu => h1 u (by simp [hu])) fun l hl => h2 l (by
              rw [List.flatMap_cons]; exact List.mem_append.2 (.inr hl)))
      exact this cs _ h hf hg
    | tup => cases hf
    | _ => exact absurd rfl hs
end

/- names and their places among the arguments -/
theorem argNm_some {vs : List V} {i nm : Nat} (h : argNm vs i = some nm) : ∃ k z n cs, vs[i]? = some (.sl (.own nm k) z n cs) := by
  unfold argNm at h
  split at h
  · rename_i hv; cases h; exact ⟨_, _, _, _, hv⟩
  · cases h
theorem argNm_of {vs : List V} {i nm k z n : Nat} {cs : List V} (h : vs[i]? = some (.sl (.own nm k) z n cs)) : argNm vs i = some nm := by
  unfold argNm
  rw [h]

theorem usedName_mem {cons : List Nat} {nm k : Nat} {v : V} (h : nm ∈ usedName cons k v) : cons.contains k = true ∧ ∃ k' z n cs, v = .sl (.own nm k') z n cs := by
  unfold usedName at h
  split at h
  · split at h
    · rename_i hc
      simp only [List.mem_singleton] at h
      subst h
      exact ⟨hc, _, _, _, _, rfl⟩
    · cases h
  · cases h

theorem mem_usedNames {cons : List Nat} {nm : Nat} : ∀ {vs : List V} {k : Nat}, nm ∈ usedNames cons k vs ↔ ∃ i, cons.contains (k + i) = true ∧ argNm vs i = some nm
  | [], k => by
    constructor
    · intro h; cases h
    · rintro ⟨i, _, h⟩
      obtain ⟨_, _, _, _, h⟩ := argNm_some h
      simp at h
  | v :: r, k => by
    simp only [usedNames, List.mem_append, mem_usedNames (vs := r)]
    constructor
    · rintro (h | ⟨i, h1, h2⟩)
      · obtain ⟨h1, k', z, n, cs, rfl⟩ := usedName_mem h
        exact ⟨0, h1, argNm_of (by rfl)⟩
      · exact ⟨i + 1, by rw [← Nat.add_assoc, Nat.add_right_comm]; exact h1, by
          obtain ⟨_, _, _, _, h⟩ := argNm_some h2
          exact argNm_of (by rw [List.getElem?_cons_succ]; exact h)⟩
    · rintro ⟨i, h1, h2⟩
      obtain ⟨k', z, n, cs, h⟩ := argNm_some h2
      cases i with
      | zero =>
        refine .inl ?_
        rw [List.getElem?_cons_zero] at h
        cases h
        simp only [usedName, Nat.add_zero] at h1 ⊢
        rw [if_pos h1]; simp
      | succ i => exact .inr ⟨i, by rw [Nat.add_right_comm, Nat.add_assoc]; exact h1, argNm_of (by rw [List.getElem?_cons_succ] at h; exact h)⟩

theorem usedNames_inj {cons : List Nat} {nm : Nat} : ∀ {vs : List V} {k i j : Nat}, (usedNames cons k vs).Nodup → cons.contains (k + i) = true → argNm vs i = some nm → cons.contains (k + j) = true → argNm vs j = some nm → i = j
  | [], k, i, j, _, _, h, _, _ => by
    obtain ⟨_, _, _, _, h⟩ := argNm_some h
    simp at h
  | v :: r, k, i, j, hd, h1, h2, h3, h4 => by
    simp only [usedNames] at hd
    have hd1 := (List.nodup_append.1 hd).2.2
    have hd2 := (List.nodup_append.1 hd).2.1
    have head : ∀ {i}, i = 0 → cons.contains (k + i) = true → argNm (v :: r) i = some nm → nm ∈ usedName cons k v := fun {i} h0 h1 h2 => by
      subst h0
      obtain ⟨k', z, n, cs, h⟩ := argNm_some h2
      rw [List.getElem?_cons_zero] at h
      cases h
      simp only [usedName, Nat.add_zero] at h1 ⊢
      rw [if_pos h1]; simp
    have tail : ∀ {i}, cons.contains (k + (i + 1)) = true → argNm (v :: r) (i + 1) = some nm → cons.contains (k + 1 + i) = true ∧ argNm r i = some nm := fun {i} h1 h2 => ⟨by rw [Nat.add_right_comm, Nat.add_assoc]; exact h1, by
      obtain ⟨_, _, _, _, h⟩ := argNm_some h2
      exact argNm_of (by rw [List.getElem?_cons_succ] at h; exact h)⟩
    cases i with
    | zero =>
      cases j with
      | zero => rfl
      | succ j => exact absurd rfl (hd1 _ (head rfl h1 h2) _ (mem_usedNames.2 ⟨j, tail h3 h4⟩))
    | succ i =>
      cases j with
      | zero => exact absurd rfl (hd1 _ (head rfl h3 h4) _ (mem_usedNames.2 ⟨i, tail h1 h2⟩))
      | succ j => rw [usedNames_inj hd2 (tail h1 h2).1 (tail h1 h2).2 (tail h3 h4).1 (tail h3 h4).2]

def usedIdx (cons : List Nat) (vs : List V) (nm : Nat) : Option Nat := (List.range vs.length).find? fun i => cons.contains i && argNm vs i == some nm

theorem usedIdx_some {cons : List Nat} {vs : List V} {nm i : Nat} (h : usedIdx cons vs nm = some i) : i < vs.length ∧ cons.contains i = true ∧ argNm vs i = some nm := by
  have h1 := List.find?_some h
  have h2 := List.mem_of_find?_eq_some h
  simp only [Bool.and_eq_true, beq_iff_eq] at h1
  exact ⟨List.mem_range.1 h2, h1.1, h1.2⟩
theorem usedIdx_none {cons : List Nat} {vs : List V} {nm : Nat} : usedIdx cons vs nm = none ↔ nm ∉ usedNames cons 0 vs := by
  constructor
  · intro h hm
    obtain ⟨i, h1, h2⟩ := mem_usedNames.1 hm
    rw [Nat.zero_add] at h1
    have hi : i < vs.length := by
      unfold argNm at h2
      split at h2
      · rename_i hv; exact (List.getElem?_eq_some_iff.1 hv).1
      · cases h2
    have := List.find?_eq_none.1 h i (List.mem_range.2 hi)
    simp only [Bool.and_eq_true, beq_iff_eq] at this
    exact this ⟨h1, h2⟩
  · intro h
    cases hu : usedIdx cons vs nm with
    | none => rfl
    | some i =>
      obtain ⟨_, h1, h2⟩ := usedIdx_some hu
      exact absurd (mem_usedNames.2 ⟨i, by rw [Nat.zero_add]; exact h1, h2⟩) h
theorem usedIdx_of {cons : List Nat} {vs : List V} {nm i : Nat} (hd : (usedNames cons 0 vs).Nodup) (h1 : cons.contains i = true) (h2 : argNm vs i = some nm) : usedIdx cons vs nm = some i := by
  cases hu : usedIdx cons vs nm with
  | none => exact absurd (mem_usedNames.2 ⟨i, by rw [Nat.zero_add]; exact h1, h2⟩) (usedIdx_none.1 hu)
  | some j =>
    obtain ⟨_, h3, h4⟩ := usedIdx_some hu
    rw [usedNames_inj hd (by rw [Nat.zero_add]; exact h1) h2 (by rw [Nat.zero_add]; exact h3) h4]

theorem argName_of {vs : List V} {i nm : Nat} (h : argNm vs i = some nm) : argName vs i = nm := by
  unfold argNm at h
  unfold argName
  split at h
  · rename_i hv; cases h; simp only [hv]
  · cases h

/-- How a callee sees the memory: what it is given to use up by the argument's place; what else it is handed rests; all else is out of sight. -/
def startG (cons : List Nat) (vs : List V) (lk : Nat → Bool) (N : Nat) (G : Gh) : Gh :=
  { Z := fun b => match G.Z b with
      | .out => .out
      | .st n => .st n
      | .bx i => .bx i
      | .rg _ _ => if vs.any isRv then .st N else .out
      | .fam nm => match usedIdx cons vs nm with
        | some i => .fam i
        | none => if (namesL vs).contains nm || lk nm then .st (G.ext nm) else .out
    rgB := G.rgB, ver := G.ver, famB := fun i => G.famB (argName vs i), ext := fun i => G.ext (argName vs i), bxB := G.bxB }

def A0 (G : Gh) (w : World) : Pl := At G (fun _ => 0) (fun nm => decide (nm < 64)) w

/-- What a callee is handed. -/
structure Start (G : Gh) (w : World) (vs : List V) (cs : List Value) (bx : BX) : Prop where
  ok : GOk G w
  norg : ∀ b s c, G.Z b ≠ .rg s c
  fam : ∀ b nm, G.Z b = .fam nm → nm < 64
  args : RelL w (A0 G w) G.bxB vs cs
  boxes : BoxR G (A0 G w) w bx

section
variable {D M : Nat → Prop} {G : Gh} {σ : St} {tm : Array Value} {w : World} {cons : List Nat} {vs : List V} {N : Nat}

theorem startG_fam {b nm i : Nat} (hz : G.Z b = .fam nm) (hu : usedIdx cons vs nm = some i) : (startG cons vs σ.lk N G).Z b = .fam i ∧ (startG cons vs σ.lk N G).ext i = G.ext nm ∧ (startG cons vs σ.lk N G).famB i = G.famB nm := by
  have hn := argName_of (usedIdx_some hu).2.2
  exact ⟨by simp only [startG, hz, hu], by simp only [startG, hn], by simp only [startG, hn]⟩
theorem startG_rest {b nm : Nat} (hz : G.Z b = .fam nm) (hu : usedIdx cons vs nm = none) : (startG cons vs σ.lk N G).Z b = if (namesL vs).contains nm || σ.lk nm then .st (G.ext nm) else .out := by
  simp only [startG, hz, hu]
theorem startG_inv {b i : Nat} (hz : (startG cons vs σ.lk N G).Z b = .fam i) : ∃ nm, G.Z b = .fam nm ∧ usedIdx cons vs nm = some i := by
  cases hg : G.Z b with
  | fam nm =>
    cases hu : usedIdx cons vs nm with
    | some j => rw [(startG_fam hg hu).1] at hz; cases hz; exact ⟨nm, rfl, hu⟩
    | none => rw [startG_rest hg hu] at hz; split at hz <;> cases hz
  | rg => simp only [startG, hg] at hz; split at hz <;> cases hz
  | _ => simp only [startG, hg] at hz; cases hz

/-- A row that a name is told of, or that is about, is seen by the callee. -/
theorem start_seen {a : Addr} {nm len z n cap : Nat} (hlen : vs.length ≤ 64) (hr : Rd G nm a len) (hn : nm ∈ namesL vs ∨ σ.lk nm = true) : A0 (startG cons vs σ.lk N G) w .none a len z n cap := by
  rcases hr with ⟨k, h1, h2⟩ | ⟨h1, h2⟩
  · exact .inr (.inl ⟨k, by simp only [startG, h1], h2⟩)
  · cases hu : usedIdx cons vs nm with
    | some i =>
      obtain ⟨k1, k2, k3⟩ := startG_fam (σ := σ) (N := N) h1 hu
      exact .inr (.inr ⟨i, by simpa using Nat.lt_of_lt_of_le (usedIdx_some hu).1 hlen, k1, by rw [k2]; exact h2⟩)
    | none =>
      refine .inr (.inl ⟨G.ext nm, ?_, h2⟩)
      rw [startG_rest h1 hu, if_pos]
      rcases hn with hn | hn
      · simp [hn]
      · simp [hn]

theorem start_lab {l : Lab} {a : Addr} {len z n cap : Nat} (hlen : vs.length ≤ 64) (h : At G σ.tips σ.lk w l a len z n cap) (hn : ∀ nm ∈ l.names, nm ∈ namesL vs) : A0 (startG cons vs σ.lk N G) w .none a len z n cap := by
  cases l with
  | none =>
    rcases h with h0 | ⟨k, h1, h2⟩ | ⟨nm, h1, h2, h3⟩
    · exact .inl h0
    · exact .inr (.inl ⟨k, by simp only [startG, h1], h2⟩)
    · exact start_seen hlen (.inr ⟨h2, h3⟩) (.inr h1)
  | own nm k => exact start_seen hlen h.2.1 (.inl (hn nm (by simp [Lab.names])))
  | pre nm k => exact start_seen hlen h.2.1 (.inl (hn nm (by simp [Lab.names])))
  | view nm => exact start_seen hlen h (.inl (hn nm (by simp [Lab.names])))
  | rv => exact h.elim
  | arg => exact h.elim

theorem keepsB_start (hlen : vs.length ≤ 64) : KeepsB w w (At G σ.tips σ.lk w) (A0 (startG cons vs σ.lk N G) w) G.bxB G.bxB := by
  refine ⟨fun l a len z n cap hl h => ⟨?_, fun _ _ => rfl⟩, fun _ _ hb => hb⟩
  have := start_lab (cons := cons) (N := N) hlen h (by rw [hl]; simp)
  cases l with
  | none => exact this
  | rv => exact h.elim
  | arg => exact h.elim
  | _ => simp [Lab.names] at hl

theorem handArg_rel (hlen : vs.length ≤ 64) (hd : (usedNames cons 0 vs).Nodup) {i : Nat} {v : V} {c : Value} (hi : vs[i]? = some v) (hv : VR G (At G σ.tips σ.lk w) w (get σ.env) v c) (hk : ∀ s k u z n cs, v = .sl (.rv s k u) z n cs → (Lab.rv s k u).live (get σ.env) = true ∧ ∀ b m cap, c = .slice (some b) m cap → b.off + n * z ≤ N) (hok : isRv v = false → v.ok = true)
    (how : ownsArg σ.tips cons i v = true) : Rel w (A0 (startG cons vs σ.lk N G) w) G.bxB (handArg cons i v) c := by
  have hsub : ∀ l ∈ v.labs, ∀ nm ∈ l.names, nm ∈ namesL vs := by
    intro l hl nm hnm
    refine mem_namesL.2 ⟨v, List.mem_of_getElem? hi, ?_⟩
    cases v with
    | sl l' z n cs => simp [V.labs, V.labs1] at hl; subst hl; simpa [V.names] using hnm
    | ep l' cs off => simp [V.labs, V.labs1] at hl; subst hl; simpa [V.names] using hnm
    | agg cs =>
      simp only [V.labs, List.mem_flatMap] at hl
      obtain ⟨u, hu, hl⟩ := hl
      simp only [V.names]
      refine mem_namesL.2 ⟨u, hu, ?_⟩
      cases u <;> simp [V.labs1] at hl <;> subst hl <;> simpa [V.names] using hnm
    | _ => simp [V.labs, V.labs1] at hl
  have hbare : isRv v = false → Rel w (A0 (startG cons vs σ.lk N G) w) G.bxB v.bare c := fun hr => by
    have h1 := hok hr
    exact (hv.rel (V.far_of_ok h1)).mapLab (keepsB_start hlen) (fun l hl a len z n cap ha => ⟨start_lab hlen ha (hsub l hl), fun _ _ => rfl⟩) (V.flat_of_ok h1)
  unfold handArg
  split
  · rename_i nm k z n cs
    split
    · rename_i hc
      have hk' : k = σ.tips nm := by
        have := how
        simp only [ownsArg, hc, Bool.not_true, Bool.false_or, beq_iff_eq] at this
        exact this
      subst hk'
      obtain ⟨a, cap, xs, p1, p2, p3, p4, p5, p6, p7, p8, p9⟩ := Rel.sl_inv hv
      obtain ⟨_, hrd, htip⟩ := p2
      obtain ⟨⟨t1, t2, cur, e, t3, t4⟩, t5, t6⟩ := htip rfl
      have hu := usedIdx_of hd hc (argNm_of hi)
      obtain ⟨k1, k2, k3⟩ := startG_fam (σ := σ) (N := N) t1 hu
      rw [p1]
      refine .sl _ _ _ _ a cap xs ?_ p3 p4 p5 p6 p7 (p8.keepB (keepsB_start hlen) p9) p9
      have hz : (startG cons vs σ.lk N G).Z a.block = .fam i ∧ a.off + xs.length ≤ (startG cons vs σ.lk N G).ext i := ⟨k1, by rw [k2, t2, t5]; exact Nat.le_of_eq (Nat.zero_add _)⟩
      refine ⟨Nat.le_refl _, .inr hz, fun _ => ⟨⟨k1, by rw [k3]; exact t2, cur, e, by rw [k3]; exact t3, t4⟩, by rw [k2]; exact t5, t6⟩⟩
    · exact hbare rfl
  · rename_i hne
    by_cases hr : isRv v = true
    · cases v with
      | sl l z n cs =>
        cases l with
        | rv s k u =>
          obtain ⟨h1, h2⟩ := hk s k u z n cs rfl
          have hv0 := hv
          obtain ⟨a, cap, q1, q2, q3, q4, q5, q6, q7, q8, q9⟩ := hv
          obtain ⟨cs', hc⟩ := live_reg h1
          obtain ⟨xs, r1, r2⟩ := q9 cs' hc
          rw [q1]
          show Rel _ _ _ (.sl .none z n cs) _
          refine .sl _ _ _ _ a cap xs (.inr (.inl ⟨N, ?_, ?_⟩)) q2 (by rw [← r2.length]; exact q5) q3 q4 r1 (r2.keepB (keepsB_start hlen) q8) q8
          · simp only [startG, q6]
            rw [if_pos (List.any_eq_true.2 ⟨_, List.mem_of_getElem? hi, rfl⟩)]
          · rw [← r2.length, q5]; exact h2 a n cap q1
        | _ => cases hr
      | _ => cases hr
    · exact hbare (by simpa using hr)

theorem handArgs_get {cons : List Nat} : ∀ {vs : List V} {k i : Nat}, (handArgs cons k vs)[i]? = (vs[i]?).map (handArg cons (k + i))
  | [], k, i => by simp [handArgs]
  | v :: r, k, i => by
    cases i with
    | zero => simp [handArgs]
    | succ i =>
      simp only [handArgs, List.getElem?_cons_succ, handArgs_get (vs := r)]
      rw [Nat.add_right_comm, Nat.add_assoc]
theorem handArgs_length {cons : List Nat} : ∀ {vs : List V} {k : Nat}, (handArgs cons k vs).length = vs.length
  | [], _ => rfl
  | v :: r, k => by simp [handArgs, handArgs_length (vs := r)]
theorem ownsArgs_get {T : Nat → Nat} {cons : List Nat} : ∀ {vs : List V} {k i : Nat} {v : V}, ownsArgs T cons k vs = true → vs[i]? = some v → ownsArg T cons (k + i) v = true
  | [], k, i, v, _, h => by simp at h
  | u :: r, k, i, v, h, hv => by
    simp only [ownsArgs, Bool.and_eq_true] at h
    cases i with
    | zero => simp at hv; subst hv; exact h.1
    | succ i =>
      simp only [List.getElem?_cons_succ] at hv
      have := ownsArgs_get h.2 hv
      rw [Nat.add_right_comm, Nat.add_assoc] at this
      exact this

theorem rv_bound : ∀ (vs : List V) (cs : List Value), ∃ N, ∀ (i : Nat) v c, vs[i]? = some v → cs[i]? = some c → ∀ l z n ds, v = .sl l z n ds → ∀ b m cap, c = .slice (some b) m cap → b.off + n * z ≤ N
  | [], cs => ⟨0, fun i v c h => by simp at h⟩
  | u :: r, [] => ⟨0, fun i v c _ h => by simp at h⟩
  | u :: r, e :: s => by
    obtain ⟨N, hN⟩ := rv_bound r s
    have : ∃ N0, ∀ l z n ds, u = .sl l z n ds → ∀ b m cap, e = .slice (some b) m cap → b.off + n * z ≤ N0 := by
      cases u with
      | sl l z n ds =>
        cases e with
        | slice b m cap =>
          cases b with
          | some b => exact ⟨b.off + n * z, fun _ _ _ _ h b' m' cap' h' => by cases h; cases h'; exact Nat.le_refl _⟩
          | none => exact ⟨0, fun _ _ _ _ _ _ _ _ h => by cases h⟩
        | _ => exact ⟨0, fun _ _ _ _ _ _ _ _ h => by cases h⟩
      | _ => exact ⟨0, fun _ _ _ _ h => by cases h⟩
    obtain ⟨N0, h0⟩ := this
    refine ⟨N + N0, fun i v c hv hc l z n ds e1 b m cap e2 => ?_⟩
    cases i with
    | zero =>
      simp at hv hc; subst hv hc
      have := h0 l z n ds e1 b m cap e2
      omega
    | succ i =>
      simp at hv hc
      have := hN i v c hv hc l z n ds e1 b m cap e2
      omega

/-- The callee's view of what it is handed. -/
theorem SR.start (h : SR D M G σ tm w) {cs : List Value} (hl : vs.length = cs.length) (hargs : ∀ (i : Nat) v c, vs[i]? = some v → cs[i]? = some c → VR G (At G σ.tips σ.lk w) w (get σ.env) v c) (hlen : vs.length ≤ 64) {av : List Nat} (hok : vs.all (argOk (get σ.env) av) = true)
    (how : ownsArgs σ.tips cons 0 vs = true) (hd : (usedNames cons 0 vs).Nodup) : ∃ N, Start (startG cons vs σ.lk N G) w (handArgs cons 0 vs) cs σ.bx := by
  obtain ⟨N, hN⟩ := rv_bound vs cs
  rw [List.all_eq_true] at hok
  refine ⟨N, ⟨⟨fun b hb => h.ok.lt b fun hz => hb (by simp only [startG, hz]), fun b i hz => ?_, fun b i hz => ?_, fun b s c hz => ?_⟩, fun b s c hz => ?_, fun b i hz => ?_, ?_, h.boxes.1, fun i ds hi => ?_⟩⟩
  · obtain ⟨nm, h1, h2⟩ := startG_inv hz
    rw [(startG_fam h1 h2).2.2]
    exact h.ok.famU b nm h1
  · obtain ⟨nm, h1, h2⟩ := startG_inv hz
    rw [(startG_fam h1 h2).2.1]
    exact h.ok.famC b nm h1
  · exfalso
    cases hg : G.Z b with
    | fam nm =>
      cases hu : usedIdx cons vs nm with
      | some j => rw [(startG_fam hg hu).1] at hz; cases hz
      | none => rw [startG_rest hg hu] at hz; split at hz <;> cases hz
    | rg => simp only [startG, hg] at hz; split at hz <;> cases hz
    | _ => simp only [startG, hg] at hz; cases hz
  · cases hg : G.Z b with
    | fam nm =>
      cases hu : usedIdx cons vs nm with
      | some j => rw [(startG_fam hg hu).1] at hz; cases hz
      | none => rw [startG_rest hg hu] at hz; split at hz <;> cases hz
    | rg => simp only [startG, hg] at hz; split at hz <;> cases hz
    | _ => simp only [startG, hg] at hz; cases hz
  · obtain ⟨nm, h1, h2⟩ := startG_inv hz
    exact Nat.lt_of_lt_of_le (usedIdx_some h2).1 hlen
  · refine RelL.of_get (by rw [handArgs_length, hl]) fun i v c hv hc => ?_
    rw [handArgs_get, Nat.zero_add] at hv
    cases hu : vs[i]? with
    | none => rw [hu] at hv; cases hv
    | some u =>
      rw [hu] at hv
      cases hv
      have hko := hok u (List.mem_of_getElem? hu)
      refine handArg_rel hlen hd hu (hargs i u c hu hc) (fun s k u' z n ds e => ⟨?_, fun b m cap e2 => hN i u c hu hc _ _ _ _ e b m cap e2⟩) (fun hr => ?_) (by have := ownsArgs_get how hu; rwa [Nat.zero_add] at this)
      · subst e
        exact live_of_free hko
      · cases u with
        | sl l z n ds => cases l <;> first | exact hko | cases hr
        | _ => exact hko
  · obtain ⟨hn, b, h1, h2, xs, e, h3, h4⟩ := h.boxes.2 i ds hi
    exact ⟨hn, b, h1, by simp only [startG, h2], xs, e, h3, h4.keepB (keepsB_start hlen) hn⟩
end
end Go.VM
