/- A call, seen by the caller. -/
import Derived.Test.YtndaipcfahfkkaaVM20
namespace Go.VM
open Go.RowKit

theorem Rel.plain1 {w w' : World} {A A' : Pl} {B B' : List Nat} {v : V} {c : Value} (h : Rel w A B v c) (hp : v.plain1 = true) : Rel w' A' B' v c := by
  cases h <;> first | (cases hp; done) | constructor
theorem RelL.plain {w w' : World} {A A' : Pl} {B B' : List Nat} {vs : List V} {cs : List Value} (h : RelL w A B vs cs) (hp : vs.all V.plain1 = true) : RelL w' A' B' vs cs := by
  induction vs generalizing cs with
  | nil => cases h; exact .nil
  | cons v r ih =>
    simp only [List.all_cons, Bool.and_eq_true] at hp
    cases h with
    | cons _ c _ cs h1 h2 => exact .cons _ _ _ _ (h1.plain1 hp.1) (ih h2 hp.2)
theorem V.plain1_mapLab {v : V} (h : v.plain1 = true) (g : Lab → Lab) : v.mapLab1 g = v := by cases v <;> first | rfl | cases h
theorem Rel.plainv {w w' : World} {A A' : Pl} {B B' : List Nat} {v : V} {c : Value} (h : Rel w A B v c) (hp : v.plain = true) (g : Lab → Lab) : Rel w' A' B' (v.mapLab g) c := by
  cases v with
  | agg cs =>
    obtain ⟨xs, rfl, h1⟩ := Rel.agg_inv h
    simp only [V.plain] at hp
    have : cs.map (V.mapLab1 g) = cs := by
      rw [List.all_eq_true] at hp
      exact (List.map_congr_left fun u hu => V.plain1_mapLab (hp u hu) g).trans (List.map_id' cs)
    simp only [V.mapLab, this]
    exact .agg _ _ (h1.plain hp)
  | _ =>
    simp only [V.plain] at hp
    first
      | (cases hp; done)
      | (have e := V.plain1_mapLab hp g
         simp only [V.mapLab, e]
         exact h.plain1 hp)

theorem Rel.far {G : Gh} {T : Nat → Nat} {lk : Nat → Bool} {w : World} {B : List Nat} {v : V} {c : Value} (h : Rel w (At G T lk w) B v c) : v.far := by
  cases h with
  | sl l z n cs a cap xs h1 => cases l <;> first | trivial | exact h1.elim
  | ep l cs off a z n cap xs h1 => cases l <;> first | trivial | exact h1.elim
  | _ => trivial

def packC : List Value → Value
  | [c] => c
  | cs => .tuple cs.toArray

theorem packed_vr {G : Gh} {T : Nat → Nat} {lk : Nat → Bool} {w : World} {e : Nat → V} {rs : List V} {cs : List Value} (h : RelL w (At G T lk w) G.bxB rs cs) : VR G (At G T lk w) w e (packed rs) (packC cs) := by
  cases h with
  | nil => exact Rel.tup [] #[] .nil
  | cons v c rs cs h1 h2 =>
    cases h2 with
    | nil => exact VR.of_rel h1.far h1
    | cons v' c' rs' cs' h3 h4 => exact Rel.tup _ _ (by simpa using RelL.cons _ _ _ _ h1 (RelL.cons _ _ _ _ h3 h4))

theorem V.agg_or (v : V) : (∃ cs, v = .agg cs) ∨ (v.labs = v.labs1 ∧ v.news = v.news1 ∧ v.gone = v.gone1) := by
  cases v <;> first | exact .inl ⟨_, rfl⟩ | exact .inr ⟨rfl, rfl, rfl⟩
theorem labs_news {v : V} {i f : Nat} (h : Lab.own i f ∈ v.labs) : i ∈ v.news := by
  have one : ∀ {u : V}, Lab.own i f ∈ u.labs1 → i ∈ u.news1 := fun {u} h => by
    cases u <;> simp [V.labs1] at h <;> subst h <;> simp [V.news1, Lab.news]
  rcases v.agg_or with ⟨cs, rfl⟩ | ⟨e1, e2, e3⟩
  · simp only [V.labs, V.news, List.mem_flatMap] at *
    obtain ⟨u, hu, h⟩ := h
    exact ⟨u, hu, one h⟩
  · rw [e1] at h
    rw [e2]
    exact one h
theorem labs_gone {v : V} {i : Nat} (h : Lab.arg i ∈ v.labs) : i ∈ v.gone := by
  have one : ∀ {u : V}, Lab.arg i ∈ u.labs1 → i ∈ u.gone1 := fun {u} h => by
    cases u <;> simp [V.labs1] at h <;> subst h <;> simp [V.gone1, Lab.gone]
  rcases v.agg_or with ⟨cs, rfl⟩ | ⟨e1, e2, e3⟩
  · simp only [V.labs, V.gone, List.mem_flatMap] at *
    obtain ⟨u, hu, h⟩ := h
    exact ⟨u, hu, one h⟩
  · rw [e1] at h
    rw [e3]
    exact one h

section
variable {D M : Nat → Prop} {G R : Gh} {σ : St} {tm : Array Value} {w w' : World} {cons : List Nat} {vs rs : List V} {rcs : List Value} {N d : Nat} {lkR : Nat → Bool} {bx' : BX} {r : V}

/-- THE CALLER GOES ON BEHIND A CALL. -/
theorem SR.called (h : SR D M G σ tm w) (hd : d < tm.size) (hR : Ret (startG cons vs σ.lk N G) w R lkR w' rs rcs σ.bx bx') (hlen : vs.length ≤ 64) (hnod : (usedNames cons 0 vs).Nodup)
    (hfam : ∀ i nm, cons.contains i = true → argNm vs i = some nm → ∃ b, G.Z b = .fam nm) (ht : tight rs bx' = true ∨ vs.any isRv = false) (h64 : ∀ i ∈ newsOf rs, i < 64) (hgone : goneOk cons vs (freshOf d rs) rs = true) (hr : r.results = rs) :
    ∃ G', SR (fun s => D s ∨ s = d) M G' (behind σ (usedNames cons 0 vs) vs d r bx') (tm.setIfInBounds d (packC rcs)) w' ∧ Fr G w G' w' := by
  have hok := h.ok
  have hfr := hR.fr
  refine ⟨backG cons vs rs d G R w.heap.size, ?_, back_fr hok hfr hlen h64⟩
  have hT0 : ∀ m, σ.tips m ≤ (behind σ (usedNames cons 0 vs) vs d r bx').tips m := fun m => Nat.le_trans bump_ge bump_ge
  have hT1 : ∀ m, usedIdx cons vs m ≠ none → σ.tips m < (behind σ (usedNames cons 0 vs) vs d r bx').tips m := fun m hm => by
    have : m ∈ usedNames cons 0 vs := by
      by_cases hmm : m ∈ usedNames cons 0 vs
      · exact hmm
      · exact absurd (usedIdx_none.2 hmm) hm
    exact Nat.lt_of_lt_of_le (bump_mem this) bump_ge
  have hT2 : ∀ m, m ∈ freshOf d rs → σ.tips m < (behind σ (usedNames cons 0 vs) vs d r bx').tips m := fun m hm => by
    refine Nat.lt_of_le_of_lt (bump_ge (l := usedNames cons 0 vs)) ?_
    simp only [behind, hr]
    exact bump_mem hm
  have hlk0 : ∀ m, (behind σ (usedNames cons 0 vs) vs d r bx').lk m = if m ∈ (rs.flatMap V.shared).map (nmOf d ·) ++ usedNames cons 0 vs then true else if m ∈ freshOf d rs then false else (if tight rs bx' then σ.lk else updL σ.lk true (namesL vs)) m := fun m => by
    simp only [behind, hr]
    rw [updL_eq, updL_eq]
  have hlk1 : ∀ m, m ∉ freshOf d rs → σ.lk m = true → (behind σ (usedNames cons 0 vs) vs d r bx').lk m = true := fun m hf hm => by
    rw [hlk0, if_neg hf]
    split
    · rfl
    · split
      · exact hm
      · rw [updL_eq]; split
        · rfl
        · exact hm
  have hlkF : ∀ i, lkR (64 + i) = true → i ∈ newsOf rs → (behind σ (usedNames cons 0 vs) vs d r bx').lk (nmOf d i) = true := fun i hi _ => by
    rw [hlk0, if_pos]
    exact List.mem_append.2 (.inl (List.mem_map.2 ⟨i, hR.lkr i hi, rfl⟩))
  have hlkU : ∀ m, usedIdx cons vs m ≠ none → (behind σ (usedNames cons 0 vs) vs d r bx').lk m = true := fun m hm => by
    have : m ∈ usedNames cons 0 vs := by
      by_cases hmm : m ∈ usedNames cons 0 vs
      · exact hmm
      · exact absurd (usedIdx_none.2 hmm) hm
    rw [hlk0, if_pos (List.mem_append.2 (.inr this))]
  have hkeeps := back_keeps (rs := rs) (d := d) (lk := σ.lk) (T := σ.tips) hok hfr hlen hT0 hT1 hT2 hlk1
  have hB : (backG cons vs rs d G R w.heap.size).bxB = R.bxB := rfl
  -- what is handed back
  have hnone : tight rs bx' = false → ∀ {a : Addr} {len z n cap : Nat}, AtR R lkR w' .none a len z n cap → At (backG cons vs rs d G R w.heap.size) (behind σ (usedNames cons 0 vs) vs d r bx').tips (behind σ (usedNames cons 0 vs) vs d r bx').lk w' .none a len z n cap := fun htt {a len z n cap} ha => by
    have hrv : vs.any isRv = false := ht.resolve_left (by rw [htt]; simp)
    refine back_none hok hfr hrv hlkF hlkU (fun m hf hm => ?_) ha
    rcases hm with hm | hm
    · rw [hlk0, if_neg hf]
      split
      · rfl
      · rw [if_neg (by rw [htt]; simp), updL_eq, if_pos hm]
    · exact hlk1 m hf hm
  have hkB : tight rs bx' = false → KeepsB w' w' (AtR R lkR w') (At (backG cons vs rs d G R w.heap.size) (behind σ (usedNames cons 0 vs) vs d r bx').tips (behind σ (usedNames cons 0 vs) vs d r bx').lk w') R.bxB R.bxB := fun htt => by
    refine ⟨fun l a len z n cap hl ha => ⟨?_, fun _ _ => rfl⟩, fun _ _ hb => hb⟩
    cases l with
    | none => exact hnone htt ha
    | rv => exact ha.elim
    | _ => simp [Lab.names] at hl
  have hres : RelL w' (At (backG cons vs rs d G R w.heap.size) (behind σ (usedNames cons 0 vs) vs d r bx').tips (behind σ (usedNames cons 0 vs) vs d r bx').lk w') R.bxB (rs.map (V.mapLab (handLab d (behind σ (usedNames cons 0 vs) vs d r bx').tips vs))) rcs := by
    cases htt : tight rs bx' with
    | true =>
      unfold tight at htt
      simp only [Bool.and_eq_true] at htt
      have h1 := htt.1
      rw [List.all_eq_true] at h1
      have : ∀ (us : List V) (cs : List Value), RelL w' (AtR R lkR w') R.bxB us cs → (∀ u ∈ us, u.plain = true) → RelL w' (At (backG cons vs rs d G R w.heap.size) (behind σ (usedNames cons 0 vs) vs d r bx').tips (behind σ (usedNames cons 0 vs) vs d r bx').lk w') R.bxB (us.map (V.mapLab (handLab d (behind σ (usedNames cons 0 vs) vs d r bx').tips vs))) cs := by
        intro us
        induction us with
        | nil => intro cs hh _; cases hh; exact .nil
        | cons u us ih =>
          intro cs hh hp
          cases hh with
          | cons _ c _ cs k1 k2 => exact .cons _ _ _ _ (k1.plainv (hp u (by simp)) _) (ih cs k2 fun v hv => hp v (by simp [hv]))
      exact this rs rcs hR.res h1
    | false =>
      have : ∀ (us : List V) (cs : List Value), RelL w' (AtR R lkR w') R.bxB us cs → (∀ u ∈ us, u ∈ rs) → RelL w' (At (backG cons vs rs d G R w.heap.size) (behind σ (usedNames cons 0 vs) vs d r bx').tips (behind σ (usedNames cons 0 vs) vs d r bx').lk w') R.bxB (us.map (V.mapLab (handLab d (behind σ (usedNames cons 0 vs) vs d r bx').tips vs))) cs := by
        intro us
        induction us with
        | nil => intro cs hh _; cases hh; exact .nil
        | cons u us ih =>
          intro cs hh hp
          cases hh with
          | cons _ c _ cs k1 k2 =>
            refine .cons _ _ _ _ (k1.mapLab (hkB htt) (fun l hl a len z n cap ha => ⟨?_, fun _ _ => rfl⟩) (hR.flat u (hp u (by simp)))) (ih cs k2 fun v hv => hp v (by simp [hv]))
            cases l with
            | none => exact hnone htt ha
            | own i f => exact back_own hok hfr (List.mem_flatMap.2 ⟨u, hp u (by simp), labs_news hl⟩) ha
            | arg i =>
              unfold goneOk at hgone
              rw [List.all_eq_true] at hgone
              have hg := hgone i (List.mem_flatMap.2 ⟨u, hp u (by simp), labs_gone hl⟩)
              simp only [Bool.and_eq_true] at hg
              obtain ⟨g1, g2⟩ := hg
              cases hn : argNm vs i with
              | none => rw [hn] at g2; cases g2
              | some nm =>
                rw [hn] at g2
                have hf : nm ∉ freshOf d rs := by simpa using g2
                have := back_arg (T' := (behind σ (usedNames cons 0 vs) vs d r bx').tips) (lk' := (behind σ (usedNames cons 0 vs) vs d r bx').lk) hok hfr hlen hnod g1 hn hf ha
                simp only [handLab, argName_of hn]
                exact this
            | pre => exact ha.elim
            | view => exact ha.elim
            | rv => exact ha.elim
      exact this rs rcs hR.res fun _ hu => hu
  have hval : (behind σ (usedNames cons 0 vs) vs d r bx').env = set σ.env d (packed (rs.map (V.mapLab (handLab d (behind σ (usedNames cons 0 vs) vs d r bx').tips vs)))) := by simp only [behind, hr]
  generalize hvv : packed (rs.map (V.mapLab (handLab d (behind σ (usedNames cons 0 vs) vs d r bx').tips vs))) = val at hval
  have hvr : VR (backG cons vs rs d G R w.heap.size) (At (backG cons vs rs d G R w.heap.size) (behind σ (usedNames cons 0 vs) vs d r bx').tips (behind σ (usedNames cons 0 vs) vs d r bx').lk w') w' (get (set σ.env d val)) val (packC rcs) := by
    rw [← hvv]; exact packed_vr (G := backG cons vs rs d G R w.heap.size) hres
  have hnr := hvr.not_reg
  have hg : Goes G (backG cons vs rs d G R w.heap.size) (At G σ.tips σ.lk w) (At (backG cons vs rs d G R w.heap.size) (behind σ (usedNames cons 0 vs) vs d r bx').tips (behind σ (usedNames cons 0 vs) vs d r bx').lk w') w w' (get σ.env) (get (set σ.env d val)) := by
    refine ⟨hkeeps, fun b s c hb => ⟨(back_rg (rs := rs) (d := d) hok hfr hb).1, rfl, Nat.le_refl _⟩, fun s c v cs he => ?_⟩
    rw [get_set] at he
    split at he
    · exact absurd he (hnr _ _ _)
    · by_cases hex : ∃ b, G.Z b = .rg s c
      · obtain ⟨b, hbz⟩ := hex
        have hbb := h.ok.rgU b s c hbz
        refine .inl ⟨cs, he, fun j => World.cell?_of_block ?_⟩
        show w'.heap[G.rgB s c]? = _
        rw [← hbb]
        exact (back_rg (rs := rs) (d := d) hok hfr hbz).2
      · exact .inr (.inl fun b hbz => hex ⟨b, hbz⟩)
  refine ⟨fun s => ?_, ⟨hR.boxes.1, fun i cs hi => ?_⟩, back_gok hok hfr hlen hR.ok, fun m hm => ?_, fun b s c hz => ?_, fun d' hm hD b hz => ?_⟩
  · rw [hval]
    show SlotR _ _ _ (get (set σ.env d val)) s (get (set σ.env d val) s) _
    rw [get_set, getD_set _ _ _ _ hd]
    split
    · exact (slotR_vr hnr).2 hvr
    · refine SlotR.goes h.ok hg (h.slots s) fun k n cs hv => ?_
      have hs := h.slots s
      rw [hv] at hs
      obtain ⟨h1, h2, h3, h4⟩ := hs
      exact RegR.goes hg ⟨h1, h2, h3, h4⟩ (back_rg (rs := rs) (d := d) hok hfr h3).2 rfl
  · obtain ⟨hn, b, h1, h2, xs, e, h3, h4⟩ := hR.boxes.2 i cs hi
    refine ⟨hn, b, h1, ?_, xs, e, h3, ?_⟩
    · rw [back_conv hok hfr (.inr ⟨i, h2⟩), h2]; rfl
    · cases htt : tight rs bx' with
      | true =>
        unfold tight plainB at htt
        simp only [Bool.and_eq_true, List.all_eq_true] at htt
        exact h4.plain (List.all_eq_true.2 (htt.2 cs (List.mem_of_getElem? hi)))
      | false => exact h4.keepB (hkB htt) hn
  · refine hlk1 m (fun hf => ?_) (h.shared m hm)
    obtain ⟨i, _, rfl⟩ := freshOf_inv hf
    unfold nmOf at hm; omega
  · by_cases hb : b < w.heap.size
    · cases hgz : G.Z b with
      | rg s' c' =>
        rw [(back_rg (rs := rs) (d := d) hok hfr hgz).1] at hz
        cases hz
        exact (h.clkD b s c hgz).imp id fun ⟨k1, k2⟩ => ⟨k1, .inl k2⟩
      | fam m =>
        simp only [backG, if_pos hb, hgz] at hz
        split at hz
        · split at hz <;> cases hz
        · exact (conv_norg hz).elim
      | bx i => simp only [backG, if_pos hb, hgz] at hz; exact (conv_norg hz).elim
      | _ => simp only [backG, if_pos hb, hgz] at hz; cases hz
    · simp only [backG, if_neg hb] at hz
      exact (conv_norg hz).elim
  · have hnd : d' ≠ d := fun e => hD (.inr e)
    have fromconv : conv cons vs rs d R (R.Z b) = .fam (nmOf d' 0) → False := fun hc => by
      cases hrz : R.Z b with
      | fam j =>
        rw [hrz] at hc
        rcases conv_fam hc with ⟨_, c2, c3, _⟩ | ⟨_, c2, c3⟩
        · obtain ⟨_, u2, _⟩ := usedIdx_some c3
          obtain ⟨b2, hb2⟩ := hfam j _ u2 c2
          exact h.newD d' hm (fun hh => hD (.inl hh)) b2 hb2
        · exact hnd (nmOf_inj (by omega) (h64 _ c2) c3).1
      | _ => rw [hrz] at hc; simp only [conv] at hc; cases hc
    by_cases hb : b < w.heap.size
    · cases hgz : G.Z b with
      | fam m =>
        simp only [backG, if_pos hb, hgz] at hz
        split at hz
        · split at hz
          · cases hz
          · cases hz; exact h.newD d' hm (fun hh => hD (.inl hh)) b hgz
        · exact fromconv hz
      | bx i => simp only [backG, if_pos hb, hgz] at hz; exact fromconv hz
      | _ => simp only [backG, if_pos hb, hgz] at hz; cases hz
    · simp only [backG, if_neg hb] at hz; exact fromconv hz
end
end Go.VM
