/- A call: what the callee hands back, and how the caller goes on. -/
import Derived.Test.YtndaipcfahfkkaaVM19
namespace Go.VM
open Go.RowKit

/-- The places of what is handed back: new rows by number, gone-on rows by the argument's place. -/
def AtR (G : Gh) (lk : Nat → Bool) (w : World) : Pl
  | .none, a, len, _, _, _ => len = 0 ∨ Still G a len ∨ ∃ nm, lk nm = true ∧ G.Z a.block = .fam nm ∧ a.off + len ≤ G.ext nm
  | .own i _, a, len, z, n, cap => Tip G w (64 + i) a z cap ∧ len = G.ext (64 + i) ∧ n * z = len
  | .arg i, a, len, z, n, cap => Tip G w i a z cap ∧ len = G.ext i ∧ n * z = len
  | _, _, _, _, _, _ => False

/-- What a callee hands back. -/
structure Ret (G : Gh) (w : World) (G' : Gh) (lk : Nat → Bool) (w' : World) (rs : List V) (cs : List Value) (bx bx' : BX) : Prop where
  ok : GOk G' w'
  fr : Fr G w G' w'
  lkr : ∀ i, lk (64 + i) = true → i ∈ rs.flatMap V.shared
  res : RelL w' (AtR G' lk w') G'.bxB rs cs
  flat : ∀ v ∈ rs, v.flat = true
  boxes : BoxR G' (AtR G' lk w') w' bx'
  pre : bx.length ≤ bx'.length

/- the table behind a call -/
theorem updL_eq {α : Type} {f : Nat → α} {v : α} {l : List Nat} {m : Nat} : updL f v l m = if m ∈ l then v else f m := by
  induction l with
  | nil => simp [updL]
  | cons a r ih =>
    simp only [updL, upd, ih, List.mem_cons]
    by_cases h : m = a <;> simp [h]
theorem bump_ge {T : Nat → Nat} {l : List Nat} {m : Nat} : T m ≤ bump T l m := by
  induction l with
  | nil => exact Nat.le_refl _
  | cons a r ih =>
    simp only [bump, upd]
    split
    · rename_i h; subst h; omega
    · exact ih
theorem bump_mem {T : Nat → Nat} {l : List Nat} {m : Nat} (h : m ∈ l) : T m < bump T l m := by
  induction l with
  | nil => cases h
  | cons a r ih =>
    simp only [bump, upd]
    split
    · rename_i h2; subst h2; have := bump_ge (T := T) (l := r) (m := m); omega
    · rename_i h2
      rcases List.mem_cons.1 h with h | h
      · exact absurd h h2
      · exact ih h
theorem bump_not {T : Nat → Nat} {l : List Nat} {m : Nat} (h : m ∉ l) : bump T l m = T m := by
  induction l with
  | nil => rfl
  | cons a r ih =>
    simp only [List.mem_cons, not_or] at h
    simp only [bump, upd]
    rw [if_neg h.1, ih h.2]

/-- How a zone that the callee leaves is called by the caller. -/
def conv (cons : List Nat) (vs rs : List V) (d : Nat) (R : Gh) : Zn → Zn
  | .fam i =>
    if i < 64 then match argNm vs i with
      | some nm => if usedIdx cons vs nm = some i ∧ nm ∉ freshOf d rs then .fam nm else .st (R.ext i)
      | none => .st (R.ext i)
    else if i - 64 ∈ newsOf rs then .fam (nmOf d (i - 64)) else .st (R.ext i)
  | .rg _ _ => .out
  | z => z

def backG (cons : List Nat) (vs rs : List V) (d : Nat) (G R : Gh) (size : Nat) : Gh :=
  { Z := fun b => if b < size then match G.Z b with
      | .out => .out
      | .st n => .st n
      | .rg s c => .rg s c
      | .bx _ => conv cons vs rs d R (R.Z b)
      | .fam nm => if usedIdx cons vs nm = none then (if nm ∈ freshOf d rs then .st (G.ext nm) else .fam nm) else conv cons vs rs d R (R.Z b)
      else conv cons vs rs d R (R.Z b)
    rgB := G.rgB, ver := G.ver
    famB := fun nm => if nm ∈ freshOf d rs then R.famB (nm - d * 64) else match usedIdx cons vs nm with
      | some i => R.famB i
      | none => G.famB nm
    ext := fun nm => if nm ∈ freshOf d rs then R.ext (nm - d * 64) else match usedIdx cons vs nm with
      | some i => R.ext i
      | none => G.ext nm
    bxB := R.bxB }

theorem mem_freshOf {d i : Nat} {rs : List V} : nmOf d i ∈ freshOf d rs ↔ i ∈ newsOf rs := by
  unfold freshOf
  rw [List.mem_map]
  constructor
  · rintro ⟨j, h1, h2⟩
    have : j = i := by unfold nmOf at h2; omega
    exact this ▸ h1
  · exact fun h => ⟨i, h, rfl⟩
theorem freshOf_inv {d m : Nat} {rs : List V} (h : m ∈ freshOf d rs) : ∃ i, i ∈ newsOf rs ∧ m = nmOf d i := by
  unfold freshOf at h
  obtain ⟨i, h1, h2⟩ := List.mem_map.1 h
  exact ⟨i, h1, h2.symm⟩

section
variable {cons : List Nat} {vs rs : List V} {d : Nat} {G R : Gh} {lk0 : Nat → Bool} {N : Nat} {w w' : World}

theorem conv_fam {j nm : Nat} (h : conv cons vs rs d R (.fam j) = .fam nm) : (j < 64 ∧ argNm vs j = some nm ∧ usedIdx cons vs nm = some j ∧ nm ∉ freshOf d rs) ∨ (64 ≤ j ∧ j - 64 ∈ newsOf rs ∧ nm = nmOf d (j - 64)) := by
  simp only [conv] at h
  split at h
  · rename_i hj
    split at h
    · rename_i m hm
      split at h
      · rename_i hc; cases h; exact .inl ⟨hj, hm, hc.1, hc.2⟩
      · cases h
    · cases h
  · rename_i hj
    split at h
    · rename_i hn; cases h; exact .inr ⟨by omega, hn, rfl⟩
    · cases h
theorem conv_arg {j nm : Nat} (h1 : j < 64) (h2 : argNm vs j = some nm) (h3 : usedIdx cons vs nm = some j) (h4 : nm ∉ freshOf d rs) : conv cons vs rs d R (.fam j) = .fam nm := by
  simp only [conv]
  rw [if_pos h1, h2]
  simp only
  rw [if_pos ⟨h3, h4⟩]
theorem conv_new {i : Nat} (h : i ∈ newsOf rs) : conv cons vs rs d R (.fam (64 + i)) = .fam (nmOf d i) := by
  simp only [conv]
  rw [if_neg (by omega), Nat.add_sub_cancel_left, if_pos h]
/-- What the callee leaves in the place of a name goes by a name, or it rests. -/
theorem conv_or (j : Nat) : (∃ nm, conv cons vs rs d R (.fam j) = .fam nm) ∨ conv cons vs rs d R (.fam j) = .st (R.ext j) := by
  simp only [conv]
  split
  · split
    · split
      · exact .inl ⟨_, rfl⟩
      · exact .inr rfl
    · exact .inr rfl
  · split
    · exact .inl ⟨_, rfl⟩
    · exact .inr rfl

theorem conv_norg {z : Zn} {s c : Nat} (h : conv cons vs rs d R z = .rg s c) : False := by
  cases z with
  | fam j => rcases conv_or (cons := cons) (vs := vs) (rs := rs) (d := d) (R := R) j with ⟨m, h2⟩ | h2 <;> rw [h2] at h <;> cases h
  | _ => simp only [conv] at h; cases h

theorem back_ext {j nm : Nat} (h : conv cons vs rs d R (.fam j) = .fam nm) : (backG cons vs rs d G R w.heap.size).ext nm = R.ext j ∧ (backG cons vs rs d G R w.heap.size).famB nm = R.famB j := by
  rcases conv_fam h with ⟨h1, h2, h3, h4⟩ | ⟨h1, h2, h3⟩
  · simp only [backG, if_neg h4, h3, and_self]
  · subst h3
    simp only [backG, if_pos (mem_freshOf.2 h2)]
    have : nmOf d (j - 64) - d * 64 = j := by unfold nmOf; omega
    rw [this]; exact ⟨rfl, rfl⟩

variable (hok : GOk G w) (hfr : Fr (startG cons vs lk0 N G) w R w')
include hok hfr

/-- What the callee leaves by a name, or as a shared variable, is called as said. -/
theorem back_conv {b : Nat} (h : (∃ j, R.Z b = .fam j) ∨ ∃ i, R.Z b = .bx i) : (backG cons vs rs d G R w.heap.size).Z b = conv cons vs rs d R (R.Z b) := by
  have _ := hok
  have no : b < w.heap.size → ((startG cons vs lk0 N G).Z b = .out ∨ ∃ n, (startG cons vs lk0 N G).Z b = .st n) → False := fun hb hz => by
    have h2 := (hfr.rest b hb hz).2
    rcases h with ⟨j, h⟩ | ⟨j, h⟩ <;> rw [h] at h2 <;> rcases hz with hz | ⟨n, hz⟩ <;> rw [hz] at h2 <;> cases h2
  by_cases hb : b < w.heap.size
  · simp only [backG, if_pos hb]
    cases hg : G.Z b with
    | out => exact (no hb (.inl (by simp only [startG, hg]))).elim
    | st n => exact (no hb (.inr ⟨n, by simp only [startG, hg]⟩)).elim
    | rg s c => exact (no hb (by simp only [startG, hg]; split; exact .inr ⟨_, rfl⟩; exact .inl rfl)).elim
    | bx i => rfl
    | fam nm =>
      simp only
      split
      · rename_i hu
        exact (no hb (by simp only [startG, hg, hu]; split; exact .inr ⟨_, rfl⟩; exact .inl rfl)).elim
      · rfl
  · simp only [backG, if_neg hb]

/-- What was by a name: its cells are as they were; it goes by its name, unless that is given anew, or it rests. -/
theorem back_fam {b nm : Nat} (hlen : vs.length ≤ 64) (hz : G.Z b = .fam nm) :
    (∀ x : Addr, x.block = b → x.off < G.ext nm → w'.cell? x = w.cell? x) ∧
    (((backG cons vs rs d G R w.heap.size).Z b = .fam nm ∧ nm ∉ freshOf d rs ∧ G.ext nm ≤ (backG cons vs rs d G R w.heap.size).ext nm) ∨ ∃ n, (backG cons vs rs d G R w.heap.size).Z b = .st n ∧ G.ext nm ≤ n) ∧
    (usedIdx cons vs nm = none → w'.heap[b]? = w.heap[b]? ∧ (nm ∉ freshOf d rs → (backG cons vs rs d G R w.heap.size).Z b = .fam nm ∧ (backG cons vs rs d G R w.heap.size).famB nm = G.famB nm ∧ (backG cons vs rs d G R w.heap.size).ext nm = G.ext nm)) := by
  have hb := hok.lt b (by rw [hz]; simp)
  cases hu : usedIdx cons vs nm with
  | none =>
    have hrest := hfr.rest b hb (by simp only [startG, hz, hu]; split; exact .inr ⟨_, rfl⟩; exact .inl rfl)
    have hZ : (backG cons vs rs d G R w.heap.size).Z b = if nm ∈ freshOf d rs then .st (G.ext nm) else .fam nm := by simp only [backG, if_pos hb, hz, hu, if_true]
    refine ⟨fun x hx _ => World.cell?_of_block (by rw [hx]; exact hrest.1), ?_, fun _ => ⟨hrest.1, fun hf => ⟨by rw [hZ, if_neg hf], by simp only [backG, if_neg hf, hu], by simp only [backG, if_neg hf, hu]⟩⟩⟩
    by_cases hf : nm ∈ freshOf d rs
    · exact .inr ⟨_, by rw [hZ, if_pos hf], Nat.le_refl _⟩
    · exact .inl ⟨by rw [hZ, if_neg hf], hf, by simp only [backG, if_neg hf, hu]; exact Nat.le_refl _⟩
  | some i =>
    obtain ⟨u1, u2, u3⟩ := usedIdx_some hu
    have hs : (startG cons vs lk0 N G).Z b = .fam i := by simp only [startG, hz, hu]
    have he : (startG cons vs lk0 N G).ext i = G.ext nm := by simp only [startG, argName_of u3]
    obtain ⟨h1, h2⟩ := hfr.used b i (Nat.lt_of_lt_of_le u1 hlen) hs
    rw [he] at h1 h2
    have hZ : (backG cons vs rs d G R w.heap.size).Z b = conv cons vs rs d R (R.Z b) := by
      simp only [backG, if_pos hb, hz, hu]
      rw [if_neg (by simp)]
    refine ⟨h1, ?_, fun h => by cases h⟩
    rcases h2 with ⟨h2, h3⟩ | ⟨n, h2, h3⟩
    · by_cases hf : nm ∈ freshOf d rs
      · refine .inr ⟨R.ext i, ?_, h3⟩
        rw [hZ, h2]
        simp only [conv]
        rw [if_pos (Nat.lt_of_lt_of_le u1 hlen), u3]
        simp only
        rw [if_neg fun hc => hc.2 hf]
      · have hc := conv_arg (R := R) (cons := cons) (Nat.lt_of_lt_of_le u1 hlen) u3 hu hf
        refine .inl ⟨by rw [hZ, h2, hc], hf, ?_⟩
        rw [(back_ext (G := G) (w := w) hc).1]; exact h3
    · exact .inr ⟨n, by rw [hZ, h2]; rfl, h3⟩

theorem back_gok (hlen : vs.length ≤ 64) (hR : GOk R w') : GOk (backG cons vs rs d G R w.heap.size) w' := by
  have conv_ok : ∀ {b nm : Nat}, conv cons vs rs d R (R.Z b) = .fam nm → b = (backG cons vs rs d G R w.heap.size).famB nm ∧ ∃ cur e, w'.heap[b]? = some (.cells cur e (0, 0)) ∧ (backG cons vs rs d G R w.heap.size).ext nm ≤ cur.size := fun {b nm} h => by
    cases hz : R.Z b with
    | fam j =>
      rw [hz] at h
      obtain ⟨k1, k2⟩ := back_ext (G := G) (w := w) h
      rw [k1, k2]
      exact ⟨hR.famU b j hz, hR.famC b j hz⟩
    | _ => rw [hz] at h; simp only [conv] at h; cases h
  have conv_rg : ∀ {z s c}, conv cons vs rs d R z ≠ .rg s c := fun {z s c} h => by
    cases z with
    | fam j => rcases conv_or (cons := cons) (vs := vs) (rs := rs) (d := d) (R := R) j with ⟨m, h2⟩ | h2 <;> rw [h2] at h <;> cases h
    | _ => simp only [conv] at h; cases h
  have fam_ok : ∀ {b nm : Nat}, (backG cons vs rs d G R w.heap.size).Z b = .fam nm → b = (backG cons vs rs d G R w.heap.size).famB nm ∧ ∃ cur e, w'.heap[b]? = some (.cells cur e (0, 0)) ∧ (backG cons vs rs d G R w.heap.size).ext nm ≤ cur.size := fun {b nm} h => by
    by_cases hb : b < w.heap.size
    · cases hg : G.Z b with
      | fam m =>
        cases hu : usedIdx cons vs m with
        | none =>
          obtain ⟨k1, k2, k3⟩ := back_fam (rs := rs) (d := d) hok hfr hlen hg
          obtain ⟨k4, k5⟩ := k3 hu
          by_cases hf : m ∈ freshOf d rs
          · rcases k2 with ⟨_, k2, _⟩ | ⟨n, k2, _⟩
            · exact absurd hf k2
            · rw [k2] at h; cases h
          · obtain ⟨k6, k7, k8⟩ := k5 hf
            rw [k6] at h; cases h
            rw [k7, k8, k4]
            exact ⟨hok.famU b _ hg, hok.famC b _ hg⟩
        | some i =>
          refine conv_ok ?_
          simp only [backG, if_pos hb, hg, hu] at h
          rw [if_neg (by simp)] at h
          exact h
      | bx i => refine conv_ok ?_; simpa only [backG, if_pos hb, hg] using h
      | _ => simp only [backG, if_pos hb, hg] at h; cases h
    · refine conv_ok ?_; simpa only [backG, if_neg hb] using h
  refine ⟨fun b hz => ?_, fun b nm hz => (fam_ok hz).1, fun b nm hz => (fam_ok hz).2, fun b s c hz => ?_⟩
  · by_cases hb : b < w.heap.size
    · exact Nat.lt_of_lt_of_le hb hfr.size
    · refine hR.lt b fun ho => hz ?_
      simp only [backG, if_neg hb, ho, conv]
  · by_cases hb : b < w.heap.size
    · cases hg : G.Z b with
      | rg s' c' =>
        simp only [backG, if_pos hb, hg] at hz
        cases hz
        exact hok.rgU b s c hg
      | fam m =>
        simp only [backG, if_pos hb, hg] at hz
        split at hz
        · split at hz <;> cases hz
        · exact absurd hz conv_rg
      | bx i => simp only [backG, if_pos hb, hg] at hz; exact absurd hz conv_rg
      | _ => simp only [backG, if_pos hb, hg] at hz; cases hz
    · simp only [backG, if_neg hb] at hz; exact absurd hz conv_rg

theorem back_st {b n : Nat} (hz : G.Z b = .st n) : (backG cons vs rs d G R w.heap.size).Z b = .st n ∧ w'.heap[b]? = w.heap[b]? := by
  have hb := hok.lt b (by rw [hz]; simp)
  exact ⟨by simp only [backG, if_pos hb, hz], (hfr.rest b hb (.inr ⟨n, by simp only [startG, hz]⟩)).1⟩
theorem back_rg {b s c : Nat} (hz : G.Z b = .rg s c) : (backG cons vs rs d G R w.heap.size).Z b = .rg s c ∧ w'.heap[b]? = w.heap[b]? := by
  have hb := hok.lt b (by rw [hz]; simp)
  exact ⟨by simp only [backG, if_pos hb, hz], (hfr.rest b hb (by simp only [startG, hz]; split; exact .inr ⟨_, rfl⟩; exact .inl rfl)).1⟩

theorem back_fr (hlen : vs.length ≤ 64) (h64 : ∀ i ∈ newsOf rs, i < 64) : Fr G w (backG cons vs rs d G R w.heap.size) w' := by
  refine ⟨hfr.os, hfr.tape, hfr.output, hfr.size, fun b hb hz => ?_, fun b nm hnm hz => ?_, fun i b hi => hfr.boxes i b hi⟩
  · rcases hz with hz | ⟨n, hz⟩
    · exact ⟨(hfr.rest b hb (.inl (by simp only [startG, hz]))).1, by simp only [backG, if_pos hb, hz]⟩
    · obtain ⟨k1, k2⟩ := back_st (rs := rs) (d := d) hok hfr hz
      exact ⟨k2, k1.trans hz.symm⟩
  · obtain ⟨k1, k2, _⟩ := back_fam (rs := rs) (d := d) hok hfr hlen hz
    exact ⟨k1, k2.imp (fun k => ⟨k.1, k.2.2⟩) id⟩

/-- Whatever was told of goes on. -/
theorem back_keeps {T T' : Nat → Nat} {lk lk' : Nat → Bool} (hlen : vs.length ≤ 64) (hT : ∀ m, T m ≤ T' m) (hT1 : ∀ m, usedIdx cons vs m ≠ none → T m < T' m) (hT2 : ∀ m, m ∈ freshOf d rs → T m < T' m)
    (hlk : ∀ m, m ∉ freshOf d rs → lk m = true → lk' m = true) : Keeps w w' (At G T lk w) (At (backG cons vs rs d G R w.heap.size) T' lk' w') G.bxB R.bxB := by
  refine ⟨fun l a len z n cap h => ?_, fun i b hb => hfr.boxes i b hb⟩
  have rd : ∀ {nm}, Rd G nm a len → Rd (backG cons vs rs d G R w.heap.size) nm a len ∧ ∀ j, j < len → w'.cell? (a.add j) = w.cell? (a.add j) := fun {nm} hr => by
    rcases hr with ⟨k, h1, h2⟩ | ⟨h1, h2⟩
    · obtain ⟨k1, k2⟩ := back_st (rs := rs) (d := d) hok hfr h1
      exact ⟨.inl ⟨k, k1, h2⟩, fun j _ => World.cell?_of_block (by rw [add_block]; exact k2)⟩
    · obtain ⟨k1, k2, _⟩ := back_fam (rs := rs) (d := d) hok hfr hlen h1
      refine ⟨?_, fun j hj => k1 _ (add_block _ _) (by rw [add_off]; omega)⟩
      rcases k2 with ⟨k2, _, k3⟩ | ⟨n, k2, k3⟩
      · exact .inr ⟨k2, by omega⟩
      · exact .inl ⟨n, k2, by omega⟩
  have tip : ∀ {nm k z cap}, k ≤ T nm → k = T' nm → Tip G w nm a z cap → Tip (backG cons vs rs d G R w.heap.size) w' nm a z cap ∧ (backG cons vs rs d G R w.heap.size).ext nm = G.ext nm ∧ k = T nm := fun {nm k z cap} hk1 hk2 ⟨h1, h2, cur, e, h3, h4⟩ => by
    have h5 := hT nm
    have hu : usedIdx cons vs nm = none := by
      cases hu : usedIdx cons vs nm with
      | none => rfl
      | some i => have := hT1 nm (by rw [hu]; simp); omega
    have hf : nm ∉ freshOf d rs := fun hf => by have := hT2 nm hf; omega
    obtain ⟨_, _, k3⟩ := back_fam (rs := rs) (d := d) hok hfr hlen h1
    obtain ⟨k4, k5⟩ := k3 hu
    obtain ⟨k6, k7, k8⟩ := k5 hf
    have hb : a.block = G.famB nm := by rw [h2]
    exact ⟨⟨k6, by rw [k7]; exact h2, cur, e, by rw [k7, ← hb, k4, hb]; exact h3, h4⟩, k8, by omega⟩
  cases l with
  | none =>
    rcases h with h0 | hs | ⟨nm, h1, h2, h3⟩
    · exact ⟨.inl h0, fun j hj => by omega⟩
    · obtain ⟨k, h1, h2⟩ := hs
      obtain ⟨k1, k2⟩ := back_st (rs := rs) (d := d) hok hfr h1
      exact ⟨.inr (.inl ⟨k, k1, h2⟩), fun j _ => World.cell?_of_block (by rw [add_block]; exact k2)⟩
    · obtain ⟨k1, k2, _⟩ := back_fam (rs := rs) (d := d) hok hfr hlen h2
      refine ⟨?_, fun j hj => k1 _ (add_block _ _) (by rw [add_off]; omega)⟩
      rcases k2 with ⟨k2, k3, k4⟩ | ⟨n, k2, k3⟩
      · exact .inr (.inr ⟨nm, hlk nm k3 h1, k2, by omega⟩)
      · exact .inr (.inl ⟨n, k2, by omega⟩)
  | own nm k =>
    obtain ⟨h1, h2, h3⟩ := h
    obtain ⟨r1, r2⟩ := rd h2
    refine ⟨⟨Nat.le_trans h1 (hT nm), r1, fun hk => ?_⟩, r2⟩
    have hk2 : k = T nm := by
      by_cases hu : usedIdx cons vs nm = none
      · by_cases hf : nm ∈ freshOf d rs
        · have := hT2 nm hf; omega
        · have := hT nm; omega
      · have := hT1 nm hu; omega
    obtain ⟨h4, h5, h6⟩ := h3 hk2
    obtain ⟨t1, t2, _⟩ := tip h1 hk h4
    exact ⟨t1, by rw [t2]; exact h5, h6⟩
  | pre nm k =>
    obtain ⟨h1, h2, h3⟩ := h
    obtain ⟨r1, r2⟩ := rd h2
    refine ⟨⟨Nat.le_trans h1 (hT nm), r1, fun hk => ?_⟩, r2⟩
    have hk2 : k = T nm := by
      by_cases hu : usedIdx cons vs nm = none
      · by_cases hf : nm ∈ freshOf d rs
        · have := hT2 nm hf; omega
        · have := hT nm; omega
      · have := hT1 nm hu; omega
    exact (tip h1 hk (h3 hk2)).1
  | view nm => exact rd h
  | rv => exact h.elim
  | arg => exact h.elim

/-- What is handed back under no name, where nothing of the caller's variables was handed over. -/
theorem back_none {T' : Nat → Nat} {lkR lk' : Nat → Bool} (hno : vs.any isRv = false) (hlkF : ∀ i, lkR (64 + i) = true → i ∈ newsOf rs → lk' (nmOf d i) = true) (hlkU : ∀ m, usedIdx cons vs m ≠ none → lk' m = true)
    (hlkN : ∀ m, m ∉ freshOf d rs → (m ∈ namesL vs ∨ lk0 m = true) → lk' m = true) {a : Addr} {len z n cap : Nat} (h : AtR R lkR w' .none a len z n cap) : At (backG cons vs rs d G R w.heap.size) T' lk' w' .none a len z n cap := by
  rcases h with h0 | h
  · exact .inl h0
  refine .inr ?_
  rcases h with ⟨k, h1, h2⟩ | ⟨j, h1, h2, h3⟩
  · by_cases hb : a.block < w.heap.size
    · cases hg : G.Z a.block with
      | out =>
        have := (hfr.rest _ hb (.inl (by simp only [startG, hg]))).2
        simp only [startG, hg, h1] at this
        cases this
      | st m =>
        have := (hfr.rest _ hb (.inr ⟨m, by simp only [startG, hg]⟩)).2
        simp only [startG, hg, h1] at this
        cases this
        exact .inl ⟨k, by simp only [backG, if_pos hb, hg], h2⟩
      | rg s c =>
        have := (hfr.rest _ hb (.inl (by simp [startG, hg, hno]))).2
        simp [startG, hg, h1, hno] at this
      | bx i => exact .inl ⟨k, by simp only [backG, if_pos hb, hg, h1, conv], h2⟩
      | fam m =>
        by_cases hu : usedIdx cons vs m = none
        · have := (hfr.rest _ hb (by simp only [startG, hg, hu]; split; exact .inr ⟨_, rfl⟩; exact .inl rfl)).2
          simp only [startG, hg, hu, h1] at this
          split at this
          · rename_i hc
            cases this
            by_cases hf : m ∈ freshOf d rs
            · exact .inl ⟨_, by simp only [backG, if_pos hb, hg, hu, if_true, if_pos hf], h2⟩
            · refine .inr ⟨m, hlkN m hf ?_, by simp only [backG, if_pos hb, hg, hu, if_true, if_neg hf], ?_⟩
              · simpa using hc
              · simp only [backG, if_neg hf, hu]; exact h2
          · cases this
        · refine .inl ⟨k, ?_, h2⟩
          simp only [backG, if_pos hb, hg, if_neg hu, h1, conv]
    · exact .inl ⟨k, by simp only [backG, if_neg hb, h1, conv], h2⟩
  · have hZ := back_conv (rs := rs) (d := d) hok hfr (.inl ⟨j, h2⟩)
    rw [h2] at hZ
    rcases conv_or (cons := cons) (vs := vs) (rs := rs) (d := d) (R := R) j with ⟨m, hm⟩ | hm
    · refine .inr ⟨m, ?_, by rw [hZ, hm], by rw [(back_ext (G := G) (w := w) hm).1]; exact h3⟩
      rcases conv_fam hm with ⟨c1, c2, c3, c4⟩ | ⟨c1, c2, c3⟩
      · exact hlkU m (by rw [c3]; simp)
      · subst c3
        exact hlkF _ (by rw [show 64 + (j - 64) = j by omega]; exact h1) c2
    · exact .inl ⟨_, by rw [hZ, hm], h3⟩

theorem back_own {T' : Nat → Nat} {lkR lk' : Nat → Bool} {i f : Nat} (hi : i ∈ newsOf rs) {a : Addr} {len z n cap : Nat} (h : AtR R lkR w' (.own i f) a len z n cap) : At (backG cons vs rs d G R w.heap.size) T' lk' w' (.own (nmOf d i) (T' (nmOf d i))) a len z n cap := by
  obtain ⟨⟨h1, h2, cur, e, h3, h4⟩, h5, h6⟩ := h
  have hZ := back_conv (rs := rs) (d := d) hok hfr (.inl ⟨_, h1⟩)
  have hm := conv_new (cons := cons) (vs := vs) (d := d) (R := R) hi
  rw [h1, hm] at hZ
  obtain ⟨k1, k2⟩ := back_ext (G := G) (w := w) hm
  refine ⟨Nat.le_refl _, .inr ⟨hZ, by rw [k1, ← h5, h2]; exact Nat.le_of_eq (Nat.zero_add _)⟩, fun _ => ⟨⟨hZ, by rw [k2]; exact h2, cur, e, by rw [k2]; exact h3, h4⟩, by rw [k1]; exact h5, h6⟩⟩

theorem back_arg {T' : Nat → Nat} {lkR lk' : Nat → Bool} {i nm : Nat} (hlen : vs.length ≤ 64) (hd : (usedNames cons 0 vs).Nodup) (hc : cons.contains i = true) (hn : argNm vs i = some nm) (hf : nm ∉ freshOf d rs) {a : Addr} {len z n cap : Nat} (h : AtR R lkR w' (.arg i) a len z n cap) :
    At (backG cons vs rs d G R w.heap.size) T' lk' w' (.own nm (T' nm)) a len z n cap := by
  obtain ⟨⟨h1, h2, cur, e, h3, h4⟩, h5, h6⟩ := h
  have hu := usedIdx_of hd hc hn
  have hZ := back_conv (rs := rs) (d := d) hok hfr (.inl ⟨_, h1⟩)
  have hm := conv_arg (d := d) (rs := rs) (R := R) (Nat.lt_of_lt_of_le (usedIdx_some hu).1 hlen) hn hu hf
  rw [h1, hm] at hZ
  obtain ⟨k1, k2⟩ := back_ext (G := G) (w := w) hm
  refine ⟨Nat.le_refl _, .inr ⟨hZ, by rw [k1, ← h5, h2]; exact Nat.le_of_eq (Nat.zero_add _)⟩, fun _ => ⟨⟨hZ, by rw [k2]; exact h2, cur, e, by rw [k2]; exact h3, h4⟩, by rw [k1]; exact h5, h6⟩⟩
end
end Go.VM
