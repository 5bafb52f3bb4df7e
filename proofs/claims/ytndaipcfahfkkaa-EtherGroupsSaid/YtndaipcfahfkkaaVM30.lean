/- How a callee begins, and how it ends. -/
import Derived.Test.YtndaipcfahfkkaaVM29
namespace Go.VM
open Go.RowKit

/- the beginning -/
theorem get_entry (vf : VF) (args : List V) (s : Nat) : get (entry vf args) s = args.getD s .undef ∨ get (entry vf args) s = .undef := by
  unfold entry
  generalize vf.kept = l
  induction l with
  | nil => exact .inr rfl
  | cons k r ih =>
    simp only [List.map_cons, get]
    split
    · rename_i h; subst h; exact .inl rfl
    · exact ih

theorem SRc.start {G : Gh} {w : World} {vs : List V} {cs : List Value} {bx : BX} (h : Start G w vs cs bx) (vf : VF) (n : Nat) : SRc G (start vf vs bx) (cs.toArray ++ Array.replicate n Go.undef) w := by
  refine ⟨fun s => ?_, h.boxes, h.ok, fun nm hnm => by simp [VM.start, hnm], fun b s c hb => absurd hb (h.norg b s c), fun _ hm => hm.elim⟩
  show SlotR G (A0 G w) w (get (entry vf vs)) s (get (entry vf vs) s) _
  rcases get_entry vf vs s with h1 | h1
  · rw [h1, List.getD_eq_getElem?_getD]
    cases hv : vs[s]? with
    | none => exact Rel.undef _
    | some v =>
      obtain ⟨c, h2, h3⟩ := h.args.get hv
      have hs : s < cs.length := (List.getElem?_eq_some_iff.1 h2).1
      have : (cs.toArray ++ Array.replicate n Go.undef).getD s Go.undef = c := by
        rw [Array.getD_eq_getD_getElem?, Array.getElem?_append_left (by simpa using hs)]
        simp [h2]
      rw [this, Option.getD_some]
      have hvr : VR G (A0 G w) w (get (entry vf vs)) v c := VR.of_rel (Rel.far (G := G) (T := fun _ => 0) (lk := fun nm => decide (nm < 64)) h3) h3
      exact (slotR_vr hvr.not_reg).2 hvr
  · rw [h1]; exact Rel.undef _

/- the end: names that are handed on -/
/-- The labels of a list of values. -/
def labsL (vs : List V) : List Lab := vs.flatMap V.labs

theorem names_labs {v : V} (h : v.ok = true) : v.names = v.labs.flatMap Lab.names := by
  have one : ∀ {u : V}, u.ok1 = true → u.names = u.labs1.flatMap Lab.names := fun {u} hu => by
    cases u <;> first | (simp [V.names, V.labs1]; done) | cases hu
  cases v with
  | agg cs =>
    simp only [V.names, V.labs]
    simp only [V.ok, List.all_eq_true] at h
    induction cs with
    | nil => rfl
    | cons u r ih =>
      simp only [namesL, List.flatMap_cons, List.flatMap_append]
      rw [one (h u List.mem_cons_self), ih fun x hx => h x (List.mem_cons_of_mem _ hx)]
  | _ => exact one h
theorem namesL_labs {vs : List V} (h : ∀ v ∈ vs, v.ok = true) : namesL vs = (labsL vs).flatMap Lab.names := by
  induction vs with
  | nil => rfl
  | cons v r ih =>
    simp only [namesL, labsL, List.flatMap_cons, List.flatMap_append]
    rw [names_labs (h v List.mem_cons_self), ih fun x hx => h x (List.mem_cons_of_mem _ hx)]
    rfl

theorem count_names {L : List Lab} {nm : Nat} {l l' : Lab} (h1 : l ∈ L) (h2 : l' ∈ L) (hne : l ≠ l') (hn : nm ∈ l.names) (hn' : nm ∈ l'.names) : 2 ≤ (L.flatMap Lab.names).count nm := by
  have pos : ∀ {l : Lab} {L : List Lab}, l ∈ L → nm ∈ l.names → 1 ≤ (L.flatMap Lab.names).count nm := fun {l L} h hn => List.count_pos_iff.2 (List.mem_flatMap.2 ⟨l, h, hn⟩)
  induction L with
  | nil => cases h1
  | cons x r ih =>
    rw [List.flatMap_cons, List.count_append]
    rcases List.mem_cons.1 h1 with e1 | k1
    · rcases List.mem_cons.1 h2 with e2 | k2
      · exact absurd (e1.trans e2.symm) hne
      · have := pos k2 hn'
        have h3 : 1 ≤ x.names.count nm := List.count_pos_iff.2 (e1 ▸ hn)
        omega
    · rcases List.mem_cons.1 h2 with e2 | k2
      · have := pos k1 hn
        have h3 : 1 ≤ x.names.count nm := List.count_pos_iff.2 (e2 ▸ hn')
        omega
      · have := ih k1 k2; omega

/-- The names, in order, of the new rows among the values. -/
def ownNm : V → List Nat
  | .sl (.own nm _) _ _ _ => [nm]
  | _ => []
def owns : V → List Nat
  | .agg cs => cs.flatMap ownNm
  | v => ownNm v

theorem owns_or (v : V) : (∃ cs, v = .agg cs) ∨ ((∀ cs, v ≠ .agg cs) ∧ owns v = ownNm v ∧ (∀ i, number i v = number1 i v) ∧ v.labs = v.labs1 ∧ v.news = v.news1 ∧ v.shared = v.shared1 ∧ (∀ g, v.mapLab g = v.mapLab1 g)) := by
  cases v <;> first | exact .inl ⟨_, rfl⟩ | exact .inr ⟨(by intro cs e; cases e), rfl, fun _ => rfl, rfl, rfl, rfl, fun _ => rfl⟩

def posOf (ad : List Nat) (nm : Nat) : Option Nat := (List.range ad.length).find? fun i => ad[i]? == some nm
theorem posOf_some {ad : List Nat} {nm i : Nat} (h : posOf ad nm = some i) : ad[i]? = some nm := by
  have h1 := List.find?_some h
  simpa using h1
theorem posOf_none {ad : List Nat} {nm : Nat} (h : posOf ad nm = none) : nm ∉ ad := fun hm => by
  obtain ⟨i, hi, he⟩ := List.getElem_of_mem hm
  have := List.find?_eq_none.1 h i (List.mem_range.2 hi)
  simp [List.getElem?_eq_getElem hi, he] at this
theorem posOf_of {ad : List Nat} {nm i : Nat} (hd : ad.Nodup) (h : ad[i]? = some nm) : posOf ad nm = some i := by
  cases hp : posOf ad nm with
  | none => exact absurd (List.mem_of_getElem? h) (posOf_none hp)
  | some j =>
    have h2 := posOf_some hp
    obtain ⟨hi, e1⟩ := List.getElem?_eq_some_iff.1 h
    obtain ⟨hj, e2⟩ := List.getElem?_eq_some_iff.1 h2
    rw [(List.getElem?_inj hi hd).1 (h.trans h2.symm)]

/-- The ghost that is handed back. -/
def endG (ad : List Nat) (G : Gh) (n : Nat) : Gh :=
  { Z := fun b => match G.Z b with
      | .fam nm => if nm < 64 then .fam nm else match posOf ad nm with
        | some i => .fam (64 + i)
        | none => .st (G.ext nm)
      | .rg _ _ => .out
      | .bx i => if i < n then .bx i else .out
      | z => z
    rgB := G.rgB, ver := G.ver
    famB := fun m => if m < 64 then G.famB m else G.famB (ad.getD (m - 64) 0)
    ext := fun m => if m < 64 then G.ext m else G.ext (ad.getD (m - 64) 0)
    bxB := G.bxB.take n }

def endLk (ad : List Nat) (lk : Nat → Bool) (m : Nat) : Bool :=
  if m < 64 then true else match ad[m - 64]? with
    | some nm => lk nm
    | none => false

/-- Places as the values have them between the two renamings. -/
def AtM (ad : List Nat) (G : Gh) (n : Nat) (lk : Nat → Bool) (w : World) : Pl
  | .own nm f, a, len, z, k, cap => 64 ≤ nm ∧ (f = if lk nm then 1 else 0) ∧ Tip G w nm a z cap ∧ len = G.ext nm ∧ k * z = len
  | .arg i, a, len, z, k, cap => i < 64 ∧ Tip G w i a z cap ∧ len = G.ext i ∧ k * z = len
  | .none, a, len, z, k, cap => AtR (endG ad G n) (endLk ad lk) w .none a len z k cap
  | _, _, _, _, _, _ => False

section
variable {D M : Nat → Prop} {G : Gh} {σ : St} {tm : Array Value} {w : World} {ad : List Nat} {n : Nat}

theorem endG_still {a : Addr} {len : Nat} (h : Still G a len) : Still (endG ad G n) a len := h.over fun k hk => by simp only [endG, hk]

theorem endG_fam {b nm : Nat} (h : G.Z b = .fam nm) : (endG ad G n).Z b = if nm < 64 then .fam nm else match posOf ad nm with
    | some i => .fam (64 + i)
    | none => .st (G.ext nm) := by simp only [endG, h]

/-- A row that is known by no name that is handed on, or is about. -/
theorem end_none {nm : Nat} {lk : Nat → Bool} {a : Addr} {len z k cap : Nat} (hr : Rd G nm a len) (hn : nm < 64 ∨ nm ∉ ad ∨ lk nm = true) : AtR (endG ad G n) (endLk ad lk) w .none a len z k cap := by
  refine .inr ?_
  rcases hr with hr | ⟨h1, h2⟩
  · exact .inl (endG_still hr)
  · have hz := endG_fam (ad := ad) (n := n) h1
    by_cases h64 : nm < 64
    · rw [if_pos h64] at hz
      exact .inr ⟨nm, by simp [endLk, h64], hz, by simp only [endG, if_pos h64]; exact h2⟩
    · rw [if_neg h64] at hz
      cases hp : posOf ad nm with
      | none => rw [hp] at hz; exact .inl ⟨_, hz, h2⟩
      | some i =>
        rw [hp] at hz
        have hi := posOf_some hp
        refine .inr ⟨64 + i, ?_, hz, ?_⟩
        · simp only [endLk]
          rw [if_neg (by omega), Nat.add_sub_cancel_left, hi]
          rcases hn with hn | hn | hn
          · exact absurd hn h64
          · exact absurd (List.mem_of_getElem? hi) hn
          · exact hn
        · simp only [endG]
          rw [if_neg (by omega), Nat.add_sub_cancel_left, List.getD_eq_getElem?_getD, hi]
          exact h2

theorem end_lab (h : SRc G σ tm w) {all : List Nat} {L : List Lab} (hall : all = L.flatMap Lab.names) (had : ∀ nm ∈ ad, 64 ≤ nm → Lab.own nm (σ.tips nm) ∈ L ∧ all.count nm = 1) {l : Lab} (hl : l ∈ L) {a : Addr} {len z k cap : Nat} (ha : At G σ.tips σ.lk w l a len z k cap) :
    AtM ad G n σ.lk w (adoptLab σ.tips σ.lk all l) a len z k cap := by
  have other : ∀ nm, nm ∈ l.names → adoptLab σ.tips σ.lk all l = .none → Rd G nm a len → AtM ad G n σ.lk w (adoptLab σ.tips σ.lk all l) a len z k cap := fun nm hn he hr => by
    rw [he]
    change AtR (endG ad G n) (endLk ad σ.lk) w .none a len z k cap
    refine end_none hr ?_
    by_cases h64 : nm < 64
    · exact .inl h64
    · refine .inr (.inl fun hm => ?_)
      obtain ⟨q1, q2⟩ := had nm hm (by omega)
      have hne : l ≠ .own nm (σ.tips nm) := fun e => by
        subst e
        simp only [adoptLab] at he
        rw [if_pos ⟨trivial, q2⟩, if_neg h64] at he
        cases he
      have := count_names hl q1 hne hn (by simp [Lab.names])
      rw [← hall] at this
      omega
  cases l with
  | none =>
    change AtR (endG ad G n) (endLk ad σ.lk) w .none a len z k cap
    rcases ha with h0 | ha | ⟨nm, h1, h2, h3⟩
    · exact .inl h0
    · exact .inr (.inl (endG_still ha))
    · exact end_none (.inr ⟨h2, h3⟩) (.inr (.inr h1))
  | own nm k' =>
    by_cases hc : k' = σ.tips nm ∧ all.count nm = 1
    · obtain ⟨h1, h2, h3⟩ := ha
      obtain ⟨t1, t2, t3⟩ := h3 hc.1
      simp only [adoptLab]
      rw [if_pos hc]
      split
      · rename_i h64; exact ⟨h64, t1, t2, t3⟩
      · rename_i h64; exact ⟨by omega, rfl, t1, t2, t3⟩
    · exact other nm (by simp [Lab.names]) (by simp only [adoptLab]; rw [if_neg hc]) ha.2.1
  | pre nm k' => exact other nm (by simp [Lab.names]) rfl ha.2.1
  | view nm => exact other nm (by simp [Lab.names]) rfl ha
  | rv => exact ha.elim
  | arg => exact ha.elim

/-- A row that is handed on goes by its number. -/
theorem end_own (hd : ad.Nodup) {nm j f : Nat} (hj : ad[j]? = some nm) {a : Addr} {len z k cap : Nat} {lk : Nat → Bool} (h : AtM ad G n lk w (.own nm f) a len z k cap) : AtR (endG ad G n) (endLk ad lk) w (.own j f) a len z k cap := by
  obtain ⟨h64, _, ⟨h1, h2, cur, e, h3, h4⟩, h5, h6⟩ := h
  have hz := endG_fam (ad := ad) (n := n) h1
  rw [if_neg (by omega), posOf_of hd hj] at hz
  have hf : (endG ad G n).famB (64 + j) = G.famB nm ∧ (endG ad G n).ext (64 + j) = G.ext nm := by
    simp only [endG]
    rw [if_neg (by omega), if_neg (by omega), Nat.add_sub_cancel_left, List.getD_eq_getElem?_getD, hj]
    exact ⟨rfl, rfl⟩
  exact ⟨⟨hz, by rw [hf.1]; exact h2, cur, e, by rw [hf.1]; exact h3, h4⟩, by rw [hf.2]; exact h5, h6⟩
theorem end_arg {i : Nat} {a : Addr} {len z k cap : Nat} {lk : Nat → Bool} (h : AtM ad G n lk w (.arg i) a len z k cap) : AtR (endG ad G n) (endLk ad lk) w (.arg i) a len z k cap := by
  obtain ⟨h64, ⟨h1, h2, cur, e, h3, h4⟩, h5, h6⟩ := h
  have hz := endG_fam (ad := ad) (n := n) h1
  rw [if_pos h64] at hz
  have hf : (endG ad G n).famB i = G.famB i ∧ (endG ad G n).ext i = G.ext i := by
    simp only [endG]
    rw [if_pos h64, if_pos h64]
    exact ⟨rfl, rfl⟩
  exact ⟨⟨hz, by rw [hf.1]; exact h2, cur, e, by rw [hf.1]; exact h3, h4⟩, by rw [hf.2]; exact h5, h6⟩
end

/- numbering -/
section
variable {w : World} {A A' : Pl} {B : List Nat} {ad : List Nat}

/-- No name of an element's address is among the new ones. -/
def epFree1 : V → Bool
  | .ep (.own _ _) _ _ => false
  | _ => true
def epFree : V → Bool
  | .agg cs => cs.all epFree1
  | v => epFree1 v

theorem number1_snd (i : Nat) (v : V) : (number1 i v).2 = i + (ownNm v).length := by
  unfold number1 ownNm
  split
  · rfl
  · rename_i h
    split
    · exact absurd rfl (h _ _ _ _ _)
    · rfl
theorem numberL_snd (cs : List V) : ∀ i, (numberL i cs).2 = i + (cs.flatMap ownNm).length := by
  induction cs with
  | nil => intro i; rfl
  | cons u r ih =>
    intro i
    simp only [numberL, ih, number1_snd, List.flatMap_cons, List.length_append]
    omega
theorem number_snd (i : Nat) (v : V) : (number i v).2 = i + (owns v).length := by
  rcases owns_or v with ⟨cs, rfl⟩ | ⟨_, h1, h2, _⟩
  · exact numberL_snd cs i
  · rw [h1, h2]; exact number1_snd i v

variable (hown : ∀ nm j f a len z k cap, ad[j]? = some nm → A (.own nm f) a len z k cap → A' (.own j f) a len z k cap) (hrest : ∀ l a len z k cap, (∀ nm f, l ≠ .own nm f) → A l a len z k cap → A' l a len z k cap)
include hown hrest

theorem keepsB_num : KeepsB w w A A' B B :=
  have _ := hown
  ⟨fun l a len z k cap hl h => ⟨hrest l a len z k cap (fun nm f e => by subst e; simp [Lab.names] at hl) h, fun _ _ => rfl⟩, fun _ _ hb => hb⟩

theorem number1_rel {v : V} {c : Value} {i : Nat} (h : Rel w A B v c) (hs : v.single = true) (hep : epFree1 v = true) (hi : ∀ nm ∈ ownNm v, ad[i]? = some nm) : Rel w A' B (number1 i v).1 c := by
  have hk := keepsB_num (w := w) (B := B) hown hrest
  have other : (∀ l ∈ v.labs1, ∀ nm f, l ≠ .own nm f) → (number1 i v).1 = v → Rel w A' B (number1 i v).1 c := fun hl he => by
    rw [he]
    have := h.mapLab1 (g := id) hk (fun l hll a len z k cap ha => ⟨hrest l a len z k cap (hl l hll) ha, fun _ _ => rfl⟩) hs
    have e2 : v.mapLab1 id = v := by cases v <;> rfl
    rwa [e2] at this
  cases v with
  | sl l z n cs =>
    cases l with
    | own nm f =>
      obtain ⟨a, cap, xs, rfl, p2, p3, p4, p5, p6, p7, p8, p9⟩ := Rel.sl_inv h
      exact .sl _ _ _ _ a cap xs (hown nm i f _ _ _ _ _ (hi nm (by simp [ownNm])) p2) p3 p4 p5 p6 p7 (p8.keepB hk p9) p9
    | _ => exact other (by simp [V.labs1]) rfl
  | ep l cs off =>
    cases l with
    | own nm f => cases hep
    | _ => exact other (by simp [V.labs1]) rfl
  | _ => exact other (by simp [V.labs1]) rfl

theorem numberL_rel {vs : List V} {cs : List Value} (h : RelL w A B vs cs) (hs : ∀ v ∈ vs, v.single = true) (hep : ∀ v ∈ vs, epFree1 v = true) : ∀ {i : Nat}, (∀ j nm, (vs.flatMap ownNm)[j]? = some nm → ad[i + j]? = some nm) → RelL w A' B (numberL i vs).1 cs := by
  induction vs generalizing cs with
  | nil => intro i _; cases h; exact .nil
  | cons v r ih =>
    intro i hi
    cases h with
    | cons _ c _ cs h1 h2 =>
      simp only [numberL]
      have hlen : (ownNm v).length ≤ 1 := by
        unfold ownNm; split <;> simp
      refine .cons _ _ _ _ (number1_rel hown hrest h1 (hs v List.mem_cons_self) (hep v List.mem_cons_self) fun nm hnm => ?_) (ih h2 (fun u hu => hs u (List.mem_cons_of_mem _ hu)) (fun u hu => hep u (List.mem_cons_of_mem _ hu)) fun j nm hj => ?_)
      · have := hi 0 nm (by
          rw [List.flatMap_cons]
          have hp : 0 < (ownNm v).length := List.length_pos_of_mem hnm
          rw [List.getElem?_append_left hp]
          cases ho : ownNm v with
          | nil => rw [ho] at hnm; cases hnm
          | cons x t =>
            rw [ho] at hnm hlen
            cases t with
            | nil => simp at hnm; subst hnm; rfl
            | cons => simp at hlen)
        exact this
      · rw [number1_snd, Nat.add_assoc]
        refine hi _ nm ?_
        rw [List.flatMap_cons, List.getElem?_append_right (by omega), Nat.add_sub_cancel_left]
        exact hj

theorem numberAll_rel {vs : List V} {cs : List Value} (h : RelL w A B vs cs) (hs : ∀ v ∈ vs, v.flat = true) (hep : ∀ v ∈ vs, epFree v = true) : ∀ {i : Nat}, (∀ j nm, (vs.flatMap owns)[j]? = some nm → ad[i + j]? = some nm) → RelL w A' B (numberAll i vs) cs := by
  induction vs generalizing cs with
  | nil => intro i _; cases h; exact .nil
  | cons v r ih =>
    intro i hi
    cases h with
    | cons _ c _ cs h1 h2 =>
      simp only [numberAll]
      refine .cons _ _ _ _ ?_ (ih h2 (fun u hu => hs u (List.mem_cons_of_mem _ hu)) (fun u hu => hep u (List.mem_cons_of_mem _ hu)) fun j nm hj => ?_)
      · have hv := hs v List.mem_cons_self
        have he := hep v List.mem_cons_self
        have hi' : ∀ j nm, (owns v)[j]? = some nm → ad[i + j]? = some nm := fun j nm hj => hi j nm (by
          rw [List.flatMap_cons, List.getElem?_append_left (List.getElem?_eq_some_iff.1 hj).1]; exact hj)
        rcases owns_or v with ⟨ds, rfl⟩ | ⟨o0, o1, o2, o3, o4, o5, o6⟩
        · obtain ⟨xs, rfl, h3⟩ := Rel.agg_inv h1
          simp only [V.flat, List.all_eq_true] at hv
          simp only [epFree, List.all_eq_true] at he
          exact .agg _ _ (numberL_rel hown hrest h3 hv he hi')
        · rw [o2]
          have hsing : v.single = true := by cases v <;> first | rfl | exact absurd rfl (o0 _) | cases hv
          refine number1_rel hown hrest h1 hsing (by cases v <;> first | exact he | rfl) fun nm hnm => ?_
          rw [o1] at hi'
          have hlen : (ownNm v).length ≤ 1 := by
            unfold ownNm; split <;> simp
          have := hi' 0 nm (by
            cases ho : ownNm v with
            | nil => rw [ho] at hnm; cases hnm
            | cons x t =>
              rw [ho] at hnm hlen
              cases t with
              | nil => simp at hnm; subst hnm; rfl
              | cons => simp at hlen)
          exact this
      · rw [number_snd, Nat.add_assoc]
        refine hi _ nm ?_
        rw [List.flatMap_cons, List.getElem?_append_right (by omega), Nat.add_sub_cancel_left]
        exact hj
end
end Go.VM
