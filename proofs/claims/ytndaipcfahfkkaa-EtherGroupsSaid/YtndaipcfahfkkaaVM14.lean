/- A row that is written: what other names say of it is struck. Shared variables that are made. -/
import Derived.Test.YtndaipcfahfkkaaVM13
namespace Go.VM
open Go.RowKit

/-- Whatever goes by other names goes on. -/
def KeepsN (nm : Nat) (w w' : World) (A A' : Pl) (B B' : List Nat) : Prop :=
  (∀ l a len z n cap, nm ∉ l.names → A l a len z n cap → A' l a len z n cap ∧ ∀ j, j < len → w'.cell? (a.add j) = w.cell? (a.add j)) ∧ ∀ (i blk : Nat), B[i]? = some blk → B'[i]? = some blk

mutual
theorem Rel.keepN {nm : Nat} {w w' : World} {A A' : Pl} {B B' : List Nat} (hk : KeepsN nm w w' A A' B B') {v : V} {c : Value} (h : Rel w A B v c) (hn : nm ∉ v.names) : Rel w' A' B' v c := by
  cases h with
  | undef => exact .undef _
  | bool => exact .bool _
  | int => exact .int _ _
  | str => exact .str _
  | nilp => exact .nilp
  | nilf => exact .nilf
  | nili => exact .nili
  | nils => exact .nils
  | sl l z n cs a cap xs h1 h2 h3 h4 h5 h6 h7 h8 =>
    have hl : nm ∉ l.names := by simpa [V.names] using hn
    exact .sl l z n cs a cap xs (hk.1 _ _ _ _ _ _ hl h1).1 h2 h3 h4 h5 (h6.keep (hk.1 _ _ _ _ _ _ hl h1).2) (RelL.keepN hk h7 (by simp [h8])) h8
  | ep l cs off a z n cap xs h1 h2 h3 h4 =>
    have hl : nm ∉ l.names := by simpa [V.names] using hn
    exact .ep l cs off a z n cap xs (hk.1 _ _ _ _ _ _ hl h1).1 (h2.keep (hk.1 _ _ _ _ _ _ hl h1).2) (RelL.keepN hk h3 (by simp [h4])) h4
  | bp b off blk h1 => exact .bp b off blk (hk.2 _ _ h1)
  | agg cs xs h1 => exact .agg cs xs (RelL.keepN hk h1 (by simpa [V.names] using hn))
  | tup cs xs h1 => exact .tup cs xs (RelL.keepN hk h1 (by simpa [V.names] using hn))
  | fn f a b xs ys h1 h2 h3 h4 => exact .fn f a b xs ys (RelL.keepN hk h1 (by simp [h3])) (RelL.keepN hk h2 (by simp [h4])) h3 h4
  | iface t v c h1 h2 => exact .iface t v c (Rel.keepN hk h1 (by simp [h2])) h2
theorem RelL.keepN {nm : Nat} {w w' : World} {A A' : Pl} {B B' : List Nat} (hk : KeepsN nm w w' A A' B B') {vs : List V} {cs : List Value} (h : RelL w A B vs cs) (hn : nm ∉ namesL vs) : RelL w' A' B' vs cs := by
  cases h with
  | nil => exact .nil
  | cons v c vs cs h1 h2 =>
    simp only [namesL, List.mem_append, not_or] at hn
    exact .cons v c vs cs (Rel.keepN hk h1 hn.1) (RelL.keepN hk h2 hn.2)
end

theorem RelL.map' {w w' : World} {A A' : Pl} {B B' : List Nat} {f : V → V} {vs : List V} {cs : List Value} (h : RelL w A B vs cs) (hf : ∀ v c, Rel w A B v c → Rel w' A' B' (f v) c) : RelL w' A' B' (vs.map f) cs := by
  induction vs generalizing cs with
  | nil => cases h; exact .nil
  | cons v vs ih => cases h with | cons _ c _ cs h1 h2 => exact .cons _ _ _ _ (hf _ _ h1) (ih h2)

/-- The one name under which a row is known on, and what it is from now. -/
def OwnOn (nm k : Nat) (cs' : List V) (w' : World) (A A' : Pl) (B' : List Nat) : Prop :=
  namesL cs' = [] ∧ ∀ a len z n cap, A (.own nm k) a len z n cap → A' (.own nm k) a len z n cap ∧ ∃ xs', xs'.length = len ∧ Row w' a xs' ∧ RelL w' A' B' cs' xs'

theorem Rel.hit {nm k : Nat} {cs' : List V} {w w' : World} {A A' : Pl} {B B' : List Nat} (hk : KeepsN nm w w' A A' B B') (ho : OwnOn nm k cs' w' A A' B') {v : V} {c : Value} (h : Rel w A B v c) : Rel w' A' B' (VM.hit nm k cs' v) c := by
  have other : ∀ u : V, Rel w A B u c → Rel w' A' B' (if nm ∈ u.names then .undef else u) c := fun u hu => by
    split
    · exact .undef _
    · rename_i hn; exact hu.keepN hk hn
  cases h with
  | sl l z n cs a cap xs h1 h2 h3 h4 h5 h6 h7 h8 =>
    simp only [VM.hit]
    split
    · split
      · rename_i hl
        subst hl
        obtain ⟨k1, xs', k2, k3, k4⟩ := ho.2 _ _ _ _ _ h1
        exact .sl _ z n cs' a cap xs' (by rw [k2]; exact k1) h2 (by rw [k2]; exact h3) h4 h5 k3 k4 ho.1
      · exact .undef _
    · rename_i hn
      exact (Rel.sl l z n cs a cap xs h1 h2 h3 h4 h5 h6 h7 h8).keepN hk (by simpa [V.names] using hn)
  | ep l cs off a z n cap xs h1 h2 h3 h4 =>
    simp only [VM.hit]
    split
    · split
      · rename_i hl
        subst hl
        obtain ⟨k1, xs', k2, k3, k4⟩ := ho.2 _ _ _ _ _ h1
        exact .ep _ cs' off a z n cap xs' (by rw [k2]; exact k1) k3 k4 ho.1
      · exact .undef _
    · rename_i hn
      exact (Rel.ep l cs off a z n cap xs h1 h2 h3 h4).keepN hk (by simpa [V.names] using hn)
  | undef => exact other .undef (.undef c)
  | bool b => exact other _ (.bool b)
  | int k n => exact other _ (.int k n)
  | str s => exact other _ (.str s)
  | nilp => exact other _ .nilp
  | nilf => exact other _ .nilf
  | nili => exact other _ .nili
  | nils => exact other _ .nils
  | bp b off blk h => exact other _ (.bp b off blk h)
  | agg cs xs h => exact other _ (.agg cs xs h)
  | tup cs xs h => exact other _ (.tup cs xs h)
  | fn f a b xs ys h1 h2 h3 h4 => exact other _ (.fn f a b xs ys h1 h2 h3 h4)
  | iface t v c h1 h2 => exact other _ (.iface t v c h1 h2)

theorem get_hitEnv (nm k : Nat) (cs' : List V) (e : Env) (s : Nat) : get (hitEnv nm k cs' e) s = hitV nm k cs' (get e s) := by
  induction e with
  | nil => rfl
  | cons x r ih =>
    obtain ⟨a, u⟩ := x
    simp only [hitEnv, List.map_cons, get] at ih ⊢
    split
    · rfl
    · exact ih

theorem hitV_reg {nm k : Nat} {cs' : List V} {v : V} {c n : Nat} {cs : List V} (h : hitV nm k cs' v = .reg c n cs) : ∃ cs0, v = .reg c n cs0 ∧ cs = cs0.map (VM.hit nm k cs') := by
  cases v with
  | reg c' n' cs0 => simp only [hitV] at h; cases h; exact ⟨cs0, rfl, rfl⟩
  | agg => simp only [hitV] at h; cases h
  | tup vs => simp only [hitV] at h; split at h <;> cases h
  | sl l z n cs => simp only [hitV, VM.hit] at h; split at h <;> first | (split at h <;> cases h; done) | cases h
  | ep l cs off => simp only [hitV, VM.hit] at h; split at h <;> first | (split at h <;> cases h; done) | cases h
  | _ => simp [hitV, VM.hit, V.names] at h

/-- What slots say, behind a write to the row at nm. -/
structure GoesN (nm : Nat) (G G' : Gh) (A A' : Pl) (w w' : World) (e e' : Nat → V) : Prop where
  keeps : KeepsN nm w w' A A' G.bxB G'.bxB
  rgs : ∀ b s c, G.Z b = .rg s c → G'.Z b = .rg s c ∧ G'.rgB s c = G.rgB s c ∧ G'.ver s c = G.ver s c
  cell : ∀ b s c, G.Z b = .rg s c → w'.heap[b]? = w.heap[b]?
  live : ∀ s c v cs, e' s = .reg c v cs → ∃ cs', e s = .reg c v cs'

theorem VR.hit {nm k : Nat} {cs' : List V} {G G' : Gh} {A A' : Pl} {w w' : World} {e e' : Nat → V} (hg : GoesN nm G G' A A' w w' e e') (ho : OwnOn nm k cs' w' A A' G'.bxB) {v : V} {c : Value} (h : VR G A w e v c) : VR G' A' w' e' (hitV nm k cs' v) c := by
  have far : v.far → (hitV nm k cs' v).far := fun hf => by
    cases v with
    | sl l z n cs => simp only [hitV, VM.hit]; split; split; (cases l <;> first | trivial | exact hf.elim); trivial; (cases l <;> first | trivial | exact hf.elim)
    | ep l cs off => simp only [hitV, VM.hit]; split; split; (cases l <;> first | trivial | exact hf.elim); trivial; (cases l <;> first | trivial | exact hf.elim)
    | reg => exact hf.elim
    | rp => exact hf.elim
    | agg => trivial
    | tup vs => simp only [hitV]; split <;> trivial
    | _ => simp only [hitV, VM.hit]; split <;> trivial
  have rowk : ∀ (t c v : Nat) (a : Addr) (cs : List V), G.Z a.block = .rg t c → namesL cs = [] → (∀ cs', e t = .reg c v cs' → ∃ xs, Row w a xs ∧ RelL w A G.bxB cs xs) →
      ∀ cs', e' t = .reg c v cs' → ∃ xs, Row w' a xs ∧ RelL w' A' G'.bxB cs xs := by
    intro t c v a cs hz hn hl cs'' he
    obtain ⟨cs0, h1⟩ := hg.live t c v cs'' he
    obtain ⟨xs, h3, h4⟩ := hl cs0 h1
    refine ⟨xs, fun j u hu => ?_, h4.keepN hg.keeps (by simp [hn])⟩
    rw [World.cell?_of_block (show w'.heap[(a.add j).block]? = w.heap[(a.add j).block]? by rw [add_block]; exact hg.cell _ _ _ hz)]
    exact h3 j u hu
  by_cases hf : v.far
  · have hr := VR.rel hf h
    refine VR.of_rel (far hf) ?_
    cases v with
    | reg => exact hf.elim
    | agg cs =>
      obtain ⟨xs, h1, h2⟩ := Rel.agg_inv hr
      rw [h1]
      exact .agg _ _ (h2.map' fun u d hu => hu.hit hg.keeps ho)
    | tup cs =>
      simp only [hitV]
      split
      · exact .undef _
      · rename_i hn; exact hr.keepN hg.keeps (by simpa [V.names] using hn)
    | _ => exact hr.hit hg.keeps ho
  · cases v with
    | rp t c off =>
      obtain ⟨h1, h2⟩ := h
      obtain ⟨k1, k2, _⟩ := hg.rgs _ _ _ h2
      show VR G' A' w' e' (VM.hit nm k cs' (.rp t c off)) _
      rw [show VM.hit nm k cs' (.rp t c off) = .rp t c off from by simp [VM.hit, V.names]]
      exact ⟨by rw [k2]; exact h1, by rw [k2]; exact k1⟩
    | reg => exact h.elim
    | sl l z n cs =>
      cases l with
      | rv t c v =>
        obtain ⟨a, cap, h1, h2, h3, h4, h5, h6, h7, h9, h8⟩ := h
        obtain ⟨k1, k2, k3⟩ := hg.rgs _ _ _ h6
        rw [show hitV nm k cs' (.sl (.rv t c v) z n cs) = .sl (.rv t c v) z n cs from by simp [hitV, VM.hit, Lab.names]]
        exact ⟨a, cap, h1, h2, h3, h4, h5, k1, by omega, h9, rowk t c v a cs h6 h9 h8⟩
      | _ => exact absurd trivial hf
    | ep l cs off =>
      cases l with
      | rv t c v =>
        obtain ⟨a, h1, h6, h7, h9, h8⟩ := h
        obtain ⟨k1, k2, k3⟩ := hg.rgs _ _ _ h6
        rw [show hitV nm k cs' (.ep (.rv t c v) cs off) = .ep (.rv t c v) cs off from by simp [hitV, VM.hit, Lab.names]]
        exact ⟨a, h1, k1, by omega, h9, rowk t c v a cs h6 h9 h8⟩
      | _ => exact absurd trivial hf
    | _ => exact absurd trivial hf

section
variable {D M : Nat → Prop} {G : Gh} {σ : St} {tm : Array Value} {w : World}

/-- Whatever goes by other names goes on where the row at nm is written. -/
theorem keepsN_only {nm n : Nat} {w' : World} {T' : Nat → Nat} {lk' : Nat → Bool} (h : SR D M G σ tm w) (hlk : σ.lk nm = false) (hlk' : ∀ m, σ.lk m = true → lk' m = true)
    (ho : Only (G.famB nm) w w') (hz : G.Z (G.famB nm) = .fam nm) (hT : ∀ m, m ≠ nm → T' m = σ.tips m) :
    KeepsN nm w w' (At G σ.tips σ.lk w) (At { G with ext := upd G.ext nm n } T' lk' w') G.bxB G.bxB := by
  have ne : ∀ {b : Nat} {q : Zn}, G.Z b = q → q ≠ .fam nm → b ≠ G.famB nm := fun h1 h2 e => h2 (by rw [← h1, e]; exact hz)
  have exto : ∀ m, m ≠ nm → upd G.ext nm n m = G.ext m := fun m hm => upd_other _ _ hm
  refine ⟨fun l a len z k cap hl hh => ?_, fun _ _ hb => hb⟩
  have cells : (∃ n, G.Z a.block = .st n) ∨ (∃ m, m ≠ nm ∧ G.Z a.block = .fam m) → ∀ j, j < len → w'.cell? (a.add j) = w.cell? (a.add j) := fun hb j _ => ho.cell (by
    rw [add_block]
    rcases hb with ⟨_, hb⟩ | ⟨m, hm, hb⟩
    · exact ne hb (by simp)
    · exact ne hb (by simpa using hm))
  have rd : ∀ {m}, m ≠ nm → Rd G m a len → Rd { G with ext := upd G.ext nm n } m a len := fun {m} hm hr => hr.imp id fun hr => ⟨hr.1, by rw [show ({ G with ext := upd G.ext nm n } : Gh).ext m = G.ext m from exto m hm]; exact hr.2⟩
  have rc : ∀ {m}, m ≠ nm → Rd G m a len → (∃ n, G.Z a.block = .st n) ∨ (∃ m, m ≠ nm ∧ G.Z a.block = .fam m) := fun {m} hm hr => hr.imp (fun ⟨n, h, _⟩ => ⟨n, h⟩) fun hr => ⟨m, hm, hr.1⟩
  have tip : ∀ {m z k}, m ≠ nm → Tip G w m a z k → Tip { G with ext := upd G.ext nm n } w' m a z k := fun {m z k} hm ⟨h1, h2, cur', e', h3, h4⟩ =>
    ⟨h1, h2, cur', e', by rw [ho.block _ (ne (q := .fam m) (by rw [h2] at h1; exact h1) (by simpa using hm))]; exact h3, h4⟩
  cases l with
  | none =>
    rcases hh with h0 | hh | ⟨m, h1, h2, h3⟩
    · exact ⟨.inl h0, fun j hj => by omega⟩
    · exact ⟨.inr (.inl hh), cells (.inl (let ⟨n, h, _⟩ := hh; ⟨n, h⟩))⟩
    · have hm : m ≠ nm := fun e => by rw [e, hlk] at h1; cases h1
      exact ⟨.inr (.inr ⟨m, hlk' m h1, h2, by rw [show ({ G with ext := upd G.ext nm n } : Gh).ext m = G.ext m from exto m hm]; exact h3⟩), cells (.inr ⟨m, hm, h2⟩)⟩
  | own m k' =>
    have hm : m ≠ nm := fun e => hl (by simp [Lab.names, e])
    obtain ⟨h1, h2, h3⟩ := hh
    refine ⟨⟨by rw [hT m hm]; exact h1, rd hm h2, fun hk => ?_⟩, cells (rc hm h2)⟩
    rw [hT m hm] at hk
    obtain ⟨h4, h5, h6⟩ := h3 hk
    exact ⟨tip hm h4, by rw [show ({ G with ext := upd G.ext nm n } : Gh).ext m = G.ext m from exto m hm]; exact h5, h6⟩
  | pre m k' =>
    have hm : m ≠ nm := fun e => hl (by simp [Lab.names, e])
    obtain ⟨h1, h2, h3⟩ := hh
    refine ⟨⟨by rw [hT m hm]; exact h1, rd hm h2, fun hk => ?_⟩, cells (rc hm h2)⟩
    rw [hT m hm] at hk
    exact tip hm (h3 hk)
  | view m =>
    have hm : m ≠ nm := fun e => hl (by simp [Lab.names, e])
    exact ⟨rd hm hh, cells (rc hm hh)⟩
  | rv => exact hh.elim
  | arg => exact hh.elim

/-- The row at nm is written (or is going to be known by one name alone), with all other names of it struck. -/
theorem SR.rewrite {nm k n : Nat} {cs' : List V} {e : TypeId} {news : Array Value} {w' : World} {T' : Nat → Nat} {lk' : Nat → Bool} (h : SR D M G σ tm w) (hlk : σ.lk nm = false) (hlk' : ∀ m, σ.lk m = true → lk' m = true)
    (ho : Only (G.famB nm) w w') (hz : G.Z (G.famB nm) = .fam nm) (hnew : w'.heap[G.famB nm]? = some (.cells news e (0, 0))) (hn : n ≤ news.size) (hT : ∀ m, m ≠ nm → T' m = σ.tips m)
    (hown : OwnOn nm k cs' w' (At G σ.tips σ.lk w) (At { G with ext := upd G.ext nm n } T' lk' w') G.bxB) :
    SR D M { G with ext := upd G.ext nm n } { σ with env := hitEnv nm k cs' σ.env, tips := T', lk := lk' } tm w' ∧ Fr G w { G with ext := upd G.ext nm n } w' ∧
      KeepsN nm w w' (At G σ.tips σ.lk w) (At { G with ext := upd G.ext nm n } T' lk' w') G.bxB G.bxB := by
  have h64 : ¬ nm < 64 := fun hh => by rw [h.shared nm hh] at hlk; cases hlk
  have ne : ∀ {b : Nat} {q : Zn}, G.Z b = q → q ≠ .fam nm → b ≠ G.famB nm := fun h1 h2 e => h2 (by rw [← h1, e]; exact hz)
  have exto : ∀ m, m ≠ nm → upd G.ext nm n m = G.ext m := fun m hm => upd_other _ _ hm
  have keeps : KeepsN nm w w' (At G σ.tips σ.lk w) (At { G with ext := upd G.ext nm n } T' lk' w') G.bxB G.bxB := keepsN_only h hlk hlk' ho hz hT
  have hg : GoesN nm G { G with ext := upd G.ext nm n } (At G σ.tips σ.lk w) (At { G with ext := upd G.ext nm n } T' lk' w') w w' (get σ.env) (get (hitEnv nm k cs' σ.env)) := by
    refine ⟨keeps, fun b s c hb => ⟨hb, rfl, rfl⟩, fun b s c hb => ho.block _ (ne hb (by simp)), fun s c v cs he => ?_⟩
    rw [get_hitEnv] at he
    obtain ⟨cs0, h1, _⟩ := hitV_reg he
    exact ⟨cs0, h1⟩
  refine ⟨⟨fun s => ?_, ⟨h.boxes.1, fun i cs hi => ?_⟩, ⟨fun b hb => ?_, fun b m hm => h.ok.famU b m hm, fun b m hm => ?_, fun b s c hb => h.ok.rgU b s c hb⟩, fun m hm => hlk' m (h.shared m hm), h.clkD, h.newD⟩, ?_, keeps⟩
  · show SlotR _ _ _ (get (hitEnv nm k cs' σ.env)) s (get (hitEnv nm k cs' σ.env) s) _
    have hs := h.slots s
    rw [show get (hitEnv nm k cs' σ.env) s = hitV nm k cs' (get σ.env s) from get_hitEnv _ _ _ _ _]
    rcases (get σ.env s).reg_or with ⟨c, v, cs, hu⟩ | hu
    · rw [hu] at hs ⊢
      obtain ⟨h1, h2, h3, xs, e', h4, h5⟩ := hs
      exact ⟨h1, h2, h3, xs, e', by rw [ho.block _ (ne h3 (by simp))]; exact h4, h5.map' fun u d hu => hu.hit keeps hown⟩
    · have h1 := VR.hit hg hown ((slotR_vr hu).1 hs)
      refine (slotR_vr fun c v cs hh => ?_).2 h1
      obtain ⟨cs0, h2, _⟩ := hitV_reg hh
      exact hu _ _ _ h2
  · obtain ⟨hn, b, h1, h2, xs, e, h3, h4⟩ := h.boxes.2 i cs hi
    exact ⟨hn, b, h1, h2, xs, e, by rw [ho.block _ (ne h2 (by simp))]; exact h3, h4.keepN keeps (by simp [hn])⟩
  · rw [ho.size]; exact h.ok.lt b hb
  · by_cases e : m = nm
    · subst e
      have : b = G.famB m := h.ok.famU b m hm
      subst this
      exact ⟨news, _, hnew, by rw [show ({ G with ext := upd G.ext m n } : Gh).ext m = n from upd_same _ _ _]; exact hn⟩
    · obtain ⟨cur', e', h2, h3⟩ := h.ok.famC b m hm
      exact ⟨cur', e', by rw [ho.block _ (ne hm (by simpa using e))]; exact h2, by rw [show ({ G with ext := upd G.ext nm n } : Gh).ext m = G.ext m from upd_other _ _ e]; exact h3⟩
  · refine ⟨ho.os, ho.tape, ho.output, by rw [ho.size]; exact Nat.le_refl _, fun b hb hzz => ⟨ho.block _ (by rcases hzz with hzz | ⟨_, hzz⟩ <;> exact ne hzz (by simp)), rfl⟩, fun b m hm hzz => ?_, fun _ _ hb => hb⟩
    have hmn : m ≠ nm := fun e => h64 (e ▸ hm)
    exact ⟨fun x hx hj => ho.cell (by rw [hx]; exact ne hzz (by simpa using hmn)), .inl ⟨hzz, by rw [show ({ G with ext := upd G.ext nm n } : Gh).ext m = G.ext m from exto m hmn]; exact Nat.le_refl _⟩⟩

/-- A new shared variable. -/
theorem SR.new_bx (h : SR D M G σ tm w) {cs : List V} {xs : Array Value} {ty : TypeId} (hl : RelL w (At G σ.tips σ.lk w) G.bxB cs xs.toList) (hn : namesL cs = []) :
    ∃ G', SR D M G' { σ with bx := σ.bx ++ [cs] } tm (w.alloc (.cells xs ty)) ∧ Fr G w G' (w.alloc (.cells xs ty)) ∧ G'.bxB[σ.bx.length]? = some w.heap.size := by
  have hout : G.Z w.heap.size = .out := by
    by_cases ho : G.Z w.heap.size = .out
    · exact ho
    · exact absurd (h.ok.lt _ ho) (Nat.lt_irrefl _)
  let G' : Gh := { G with Z := fun x => if x = w.heap.size then .bx σ.bx.length else G.Z x, bxB := G.bxB ++ [w.heap.size] }
  have hc : Calm w (w.alloc (.cells xs ty)) := Calm.alloc w _
  have hz : ∀ b, b ≠ w.heap.size → G'.Z b = G.Z b := fun b hb => by simp [G', hb]
  have hz' : ∀ b, G.Z b ≠ .out → G'.Z b = G.Z b := fun b hb => hz b (fun e => hb (e ▸ hout))
  have hbb : ∀ (i b : Nat), G.bxB[i]? = some b → G'.bxB[i]? = some b := fun i b hb => by
    simp only [G']
    rw [List.getElem?_append_left (List.getElem?_eq_some_iff.1 hb).1]; exact hb
  have hlast : G'.bxB[σ.bx.length]? = some w.heap.size := by
    simp only [G']
    rw [h.boxes.1, List.getElem?_append_right (Nat.le_refl _)]
    simp
  have back : ∀ b (q : Zn), (∀ i, q ≠ .bx i) → G'.Z b = q → G.Z b = q := fun b q hq hb => by
    by_cases e : b = w.heap.size
    · subst e; simp [G'] at hb; exact absurd hb.symm (hq _)
    · rw [← hz b e]; exact hb
  have hg : Goes G G' (At G σ.tips σ.lk w) (At G' σ.tips σ.lk (w.alloc (.cells xs ty))) w (w.alloc (.cells xs ty)) (get σ.env) (get σ.env) := goes_calm h.ok hc hz' (fun _ _ _ => ⟨rfl, rfl⟩) (fun _ _ _ _ => ⟨rfl, rfl⟩) hbb
  refine ⟨G', ⟨fun s => ?_, ⟨by simp [G', h.boxes.1], fun i cs' hi => ?_⟩, ⟨fun b hb => ?_, fun b m hm => h.ok.famU b m (back b _ (by simp) hm), fun b m hm => ?_, fun b s c hb => h.ok.rgU b s c (back b _ (by simp) hb)⟩, h.shared, fun b s c hb => h.clkD b s c (back b _ (by simp) hb), fun d hm hD b hb => h.newD d hm hD b (back b _ (by simp) hb)⟩,
    fr_calm h.ok hc (fun b hb => hz b (by omega)) (fun _ _ _ => rfl) hbb, hlast⟩
  · refine SlotR.goes h.ok hg (h.slots s) fun k n cs' hv => ?_
    have hs := h.slots s
    rw [hv] at hs
    obtain ⟨h1, h2, h3, h4⟩ := hs
    exact RegR.goes hg ⟨h1, h2, h3, h4⟩ (hc.block _ (h.ok.lt _ (by rw [h3]; simp))) rfl
  · change (σ.bx ++ [cs])[i]? = some cs' at hi
    by_cases e : i < σ.bx.length
    · rw [List.getElem?_append_left e] at hi
      obtain ⟨hn', b, h1, h2, ys, e', h3, h4⟩ := h.boxes.2 i cs' hi
      exact ⟨hn', b, hbb _ _ h1, (hz' b (by rw [h2]; simp)).trans h2, ys, e', by rw [hc.block b (h.ok.lt b (by rw [h2]; simp))]; exact h3, h4.keep hg.keeps⟩
    · rw [List.getElem?_append_right (by omega)] at hi
      have : i = σ.bx.length := by
        by_cases e2 : i - σ.bx.length = 0
        · omega
        · have h2 := (List.getElem?_eq_some_iff.1 hi).1
          simp at h2; omega
      subst this
      simp at hi
      subst hi
      exact ⟨hn, w.heap.size, hlast, by simp [G'], xs, ty, Go.heap_alloc_new w _, hl.keep hg.keeps⟩
  · by_cases e : b = w.heap.size
    · subst e; simp
    · have := h.ok.lt b (by rw [← hz b e]; exact hb)
      simp; omega
  · have h1 := back b _ (by simp) hm
    obtain ⟨cur, e, h2, h3⟩ := h.ok.famC b m h1
    exact ⟨cur, e, by rw [hc.block b (h.ok.lt b (by rw [h1]; simp))]; exact h2, h3⟩
end
end Go.VM
