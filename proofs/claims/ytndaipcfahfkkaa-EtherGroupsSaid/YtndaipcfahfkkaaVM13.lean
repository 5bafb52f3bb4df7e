/- Rows that are written: an append in its own block; stores. -/
import Derived.Test.YtndaipcfahfkkaaVM12
namespace Go.VM
open Go.RowKit

section
variable {D M : Nat → Prop} {G : Gh} {σ : St} {tm : Array Value} {w : World}

theorem cell_same {w w' : World} {x : Addr} {cur news : Array Value} {e e' : TypeId} (h : w.heap[x.block]? = some (.cells cur e (0, 0))) (h' : w'.heap[x.block]? = some (.cells news e' (0, 0))) (hs : news[x.off]? = cur[x.off]?) : w'.cell? x = w.cell? x := by
  unfold World.cell?
  rw [h, h']
  simp only [hs]

/-- The row that was made last at nm is gone on with, in its own block. -/
theorem SR.extend {nm n : Nat} {e : TypeId} {cur news : Array Value} (h : SR D M G σ tm w) (hz : G.Z (G.famB nm) = .fam nm) (hcur : w.heap[G.famB nm]? = some (.cells cur e (0, 0)))
    (hnews : news.size = cur.size) (hsame : ∀ j, j < G.ext nm → news[j]? = cur[j]?) (hlen : G.ext nm ≤ n) (hn : n ≤ cur.size) {T' : Nat → Nat} (hT : ∀ m, m ≠ nm → T' m = σ.tips m) (hT2 : σ.tips nm < T' nm) :
    SR D M { G with ext := upd G.ext nm n } { σ with tips := T' } tm (w.setRow (G.famB nm) news) ∧ Fr G w { G with ext := upd G.ext nm n } (w.setRow (G.famB nm) news) ∧
      Goes G { G with ext := upd G.ext nm n } (At G σ.tips σ.lk w) (At { G with ext := upd G.ext nm n } T' σ.lk (w.setRow (G.famB nm) news)) w (w.setRow (G.famB nm) news) (get σ.env) (get σ.env) := by
  have hnew := setRow_heap w (G.famB nm) cur news e (0, 0) hcur
  have ne : ∀ {b : Nat} {q : Zn}, G.Z b = q → q ≠ .fam nm → b ≠ G.famB nm := fun h1 h2 e => h2 (by rw [← h1, e]; exact hz)
  have blk : ∀ {b : Nat}, b ≠ G.famB nm → (w.setRow (G.famB nm) news).heap[b]? = w.heap[b]? := fun hb => setRow_other w _ _ _ hb
  have below : ∀ (x : Addr), x.block = G.famB nm → x.off < G.ext nm → (w.setRow (G.famB nm) news).cell? x = w.cell? x := fun x hx ho =>
    cell_same (by rw [hx]; exact hcur) (by rw [hx]; exact hnew) (hsame _ ho)
  have extm : ∀ m, G.ext m ≤ upd G.ext nm n m := fun m => by
    by_cases e : m = nm
    · subst e; rw [upd_same]; exact hlen
    · rw [upd_other _ _ e]; exact Nat.le_refl _
  have rdc : ∀ {m : Nat} {a : Addr} {len : Nat}, Rd G m a len → Rd { G with ext := upd G.ext nm n } m a len ∧ ∀ j, j < len → (w.setRow (G.famB nm) news).cell? (a.add j) = w.cell? (a.add j) := fun {m a len} hr => by
    rcases hr with hr | ⟨hr, hr2⟩
    · obtain ⟨k, hk, hk2⟩ := hr
      exact ⟨.inl ⟨k, hk, hk2⟩, fun j _ => cell_setRow_other _ _ _ _ (by rw [add_block]; exact ne hk (by simp))⟩
    · refine ⟨.inr ⟨hr, Nat.le_trans hr2 (extm m)⟩, fun j hj => ?_⟩
      by_cases e : m = nm
      · subst e
        exact below _ (by rw [add_block]; exact h.ok.famU _ _ hr) (by rw [add_off]; omega)
      · exact cell_setRow_other _ _ _ _ (by rw [add_block]; exact ne hr (by simpa using e))
  have tip : ∀ {m : Nat} {a : Addr} {z k : Nat}, m ≠ nm → Tip G w m a z k → Tip { G with ext := upd G.ext nm n } (w.setRow (G.famB nm) news) m a z k := fun {m a z k} e ⟨h1, h2, cur', e', h3, h4⟩ =>
    ⟨h1, h2, cur', e', by rw [blk (ne (q := .fam m) (by rw [h2] at h1; exact h1) (by simpa using e))]; exact h3, h4⟩
  have hat : ∀ l a len z k cap, At G σ.tips σ.lk w l a len z k cap → At { G with ext := upd G.ext nm n } T' σ.lk (w.setRow (G.famB nm) news) l a len z k cap ∧ ∀ j, j < len → (w.setRow (G.famB nm) news).cell? (a.add j) = w.cell? (a.add j) := by
    intro l a len z k cap hh
    cases l with
    | none =>
      rcases hh with h0 | hh | ⟨m, h1, h2, h3⟩
      · exact ⟨.inl h0, fun j hj => by omega⟩
      · have := rdc (m := 0) (len := len) (.inl hh)
        exact ⟨.inr (.inl hh), this.2⟩
      · have := rdc (.inr ⟨h2, h3⟩)
        exact ⟨.inr (.inr ⟨m, h1, h2, Nat.le_trans h3 (extm m)⟩), this.2⟩
    | own m k' =>
      obtain ⟨h1, h2, h3⟩ := hh
      obtain ⟨r1, r2⟩ := rdc h2
      refine ⟨?_, r2⟩
      by_cases e : m = nm
      · subst e
        exact ⟨by omega, r1, fun hk => by omega⟩
      · refine ⟨by rw [hT m e]; exact h1, r1, fun hk => ?_⟩
        rw [hT m e] at hk
        obtain ⟨h4, h5, h6⟩ := h3 hk
        exact ⟨tip e h4, by rw [show ({ G with ext := upd G.ext nm n } : Gh).ext m = G.ext m from upd_other _ _ e]; exact h5, h6⟩
    | pre m k' =>
      obtain ⟨h1, h2, h3⟩ := hh
      obtain ⟨r1, r2⟩ := rdc h2
      refine ⟨?_, r2⟩
      by_cases e : m = nm
      · subst e
        exact ⟨by omega, r1, fun hk => by omega⟩
      · refine ⟨by rw [hT m e]; exact h1, r1, fun hk => ?_⟩
        rw [hT m e] at hk
        exact tip e (h3 hk)
    | view m => exact ⟨(rdc hh).1, (rdc hh).2⟩
    | rv => exact hh.elim
    | arg => exact hh.elim
  have hg : Goes G { G with ext := upd G.ext nm n } (At G σ.tips σ.lk w) (At { G with ext := upd G.ext nm n } T' σ.lk (w.setRow (G.famB nm) news)) w (w.setRow (G.famB nm) news) (get σ.env) (get σ.env) := by
    refine ⟨⟨hat, fun _ _ hb => hb⟩, fun b s c hb => ⟨hb, rfl, Nat.le_refl _⟩, fun s c v cs he => ?_⟩
    by_cases hex : ∃ b, G.Z b = .rg s c
    · obtain ⟨b, hbz⟩ := hex
      have hbb := h.ok.rgU b s c hbz
      exact .inl ⟨cs, he, fun j => cell_setRow_other _ _ _ _ (by show G.rgB s c ≠ _; rw [← hbb]; exact ne hbz (by simp))⟩
    · exact .inr (.inl fun b hbz => hex ⟨b, hbz⟩)
  refine ⟨⟨fun s => ?_, ⟨h.boxes.1, fun i cs hi => ?_⟩, ⟨fun b hb => ?_, fun b m hm => h.ok.famU b m hm, fun b m hm => ?_, fun b s c hb => h.ok.rgU b s c hb⟩, h.shared, h.clkD, h.newD⟩, ?_, hg⟩
  · refine SlotR.goes h.ok hg (h.slots s) fun k m cs hv => ?_
    have hs := h.slots s
    rw [hv] at hs
    obtain ⟨h1, h2, h3, h4⟩ := hs
    exact RegR.goes hg ⟨h1, h2, h3, h4⟩ (blk (ne h3 (by simp))) rfl
  · obtain ⟨hn, b, h1, h2, xs, e, h3, h4⟩ := h.boxes.2 i cs hi
    exact ⟨hn, b, h1, h2, xs, e, by rw [blk (ne h2 (by simp))]; exact h3, h4.keep hg.keeps⟩
  · rw [setRow_size]; exact h.ok.lt b hb
  · by_cases e : m = nm
    · subst e
      have : b = G.famB m := h.ok.famU b m hm
      subst this
      exact ⟨news, _, hnew, by rw [show ({ G with ext := upd G.ext m n } : Gh).ext m = n from upd_same _ _ _]; omega⟩
    · obtain ⟨cur', e', h2, h3⟩ := h.ok.famC b m hm
      exact ⟨cur', e', by rw [blk (ne hm (by simpa using e))]; exact h2, by rw [show ({ G with ext := upd G.ext nm n } : Gh).ext m = G.ext m from upd_other _ _ e]; exact h3⟩
  · refine ⟨rfl, rfl, rfl, by rw [setRow_size]; exact Nat.le_refl _, fun b hb hzz => ⟨blk (by rcases hzz with hzz | ⟨_, hzz⟩ <;> exact ne hzz (by simp)), rfl⟩, fun b m hm hzz => ⟨fun x hx hj => ?_, .inl ⟨hzz, extm m⟩⟩, fun _ _ hb => hb⟩
    by_cases e : m = nm
    · subst e
      exact below _ (hx.trans (h.ok.famU _ _ hzz)) hj
    · exact cell_setRow_other _ _ _ _ (by rw [hx]; exact ne hzz (by simpa using e))

/-- One block is written, in its place. -/
structure Only (g : Nat) (w w' : World) : Prop where
  os : w'.os = w.os
  tape : w'.tape = w.tape
  output : w'.output = w.output
  size : w'.heap.size = w.heap.size
  block : ∀ b, b ≠ g → w'.heap[b]? = w.heap[b]?

theorem Only.setRow (w : World) (g : Nat) (cs : Array Value) : Only g w (w.setRow g cs) := ⟨rfl, rfl, rfl, setRow_size _ _ _, fun b hb => setRow_other w _ _ _ hb⟩
theorem Only.same (w : World) (g : Nat) : Only g w w := ⟨rfl, rfl, rfl, rfl, fun _ _ => rfl⟩
theorem Only.cell {g : Nat} {w w' : World} (h : Only g w w') {a : Addr} (hb : a.block ≠ g) : w'.cell? a = w.cell? a := World.cell?_of_block (h.block _ hb)

/-- A variable is written: no row's place has to do with it. -/
theorem At.only {g : Nat} {w' : World} {T : Nat → Nat} {lk : Nat → Bool} (ho : Only g w w') (hs : ∀ n, G.Z g ≠ .st n) (hf : ∀ m, G.Z g ≠ .fam m) {G' : Gh} (hG : G'.Z = G.Z ∧ G'.famB = G.famB ∧ G'.ext = G.ext) {l : Lab} {a : Addr} {len z n cap : Nat} (h : At G T lk w l a len z n cap) :
    At G' T lk w' l a len z n cap ∧ ∀ j, j < len → w'.cell? (a.add j) = w.cell? (a.add j) := by
  obtain ⟨g1, g2, g3⟩ := hG
  have tip : ∀ {m z k}, Tip G w m a z k → Tip G' w' m a z k := fun {m z k} ⟨h1, h2, cur, e, h3, h4⟩ =>
    ⟨by rw [g1]; exact h1, by rw [g2]; exact h2, cur, e, by rw [g2, ho.block _ (fun e => hf m (by rw [h2, e] at h1; exact h1))]; exact h3, h4⟩
  have rd : ∀ {m}, Rd G m a len → Rd G' m a len := fun {m} hr => by
    unfold Rd Still
    rw [g1, g3]; exact hr
  have blk : (∃ n, G.Z a.block = .st n) ∨ (∃ m, G.Z a.block = .fam m) → ∀ j, j < len → w'.cell? (a.add j) = w.cell? (a.add j) := fun hb j _ => ho.cell (by
    rw [add_block]
    intro e
    rcases hb with ⟨n, hb⟩ | ⟨m, hb⟩
    · exact hs n (e ▸ hb)
    · exact hf m (e ▸ hb))
  cases l with
  | none =>
    rcases h with h0 | h | ⟨m, h1, h2, h3⟩
    · exact ⟨.inl h0, fun j hj => by omega⟩
    · exact ⟨.inr (.inl (h.over fun _ h => by rw [g1]; exact h)), blk (.inl (let ⟨n, h, _⟩ := h; ⟨n, h⟩))⟩
    · exact ⟨.inr (.inr ⟨m, h1, by rw [g1]; exact h2, by rw [g3]; exact h3⟩), blk (.inr ⟨m, h2⟩)⟩
  | own m k =>
    obtain ⟨h1, h2, h3⟩ := h
    exact ⟨⟨h1, rd h2, fun hk => ⟨tip (h3 hk).1, by rw [g3]; exact (h3 hk).2.1, (h3 hk).2.2⟩⟩, blk (h2.imp (fun ⟨n, h, _⟩ => ⟨n, h⟩) fun h => ⟨m, h.1⟩)⟩
  | pre m k =>
    obtain ⟨h1, h2, h3⟩ := h
    exact ⟨⟨h1, rd h2, fun hk => tip (h3 hk)⟩, blk (h2.imp (fun ⟨n, h, _⟩ => ⟨n, h⟩) fun h => ⟨m, h.1⟩)⟩
  | view m => exact ⟨rd h, blk (h.imp (fun ⟨n, h, _⟩ => ⟨n, h⟩) fun h => ⟨m, h.1⟩)⟩
  | rv => exact h.elim
  | arg => exact h.elim

/-- A variable of the call's own is written. -/
theorem SR.store_r {s c n : Nat} {cs cs' : List V} {cur news : Array Value} {e : TypeId} (h : SR D M G σ tm w) (hs : get σ.env s = .reg c n cs) (hcur : w.heap[G.rgB s c]? = some (.cells cur e (0, 0))) (hl : RelL w (At G σ.tips σ.lk w) G.bxB cs' news.toList) :
    ∃ G', SR D M G' { σ with env := set σ.env s (.reg c (n + 1) cs') } tm (w.setRow (G.rgB s c) news) ∧ Fr G w G' (w.setRow (G.rgB s c) news) := by
  have hsl := h.slots s
  rw [hs] at hsl
  obtain ⟨q1, q2, q3, _⟩ := hsl
  have ho := Only.setRow w (G.rgB s c) news
  have hnew := setRow_heap w (G.rgB s c) cur news e (0, 0) hcur
  let G' : Gh := { G with ver := fun s' c' => if s' = s ∧ c' = c then n + 1 else G.ver s' c' }
  have ne : ∀ {b : Nat} {q : Zn}, G.Z b = q → q ≠ .rg s c → b ≠ G.rgB s c := fun h1 h2 e => h2 (by rw [← h1, e]; exact q3)
  have hg : Goes G G' (At G σ.tips σ.lk w) (At G' σ.tips σ.lk (w.setRow (G.rgB s c) news)) w (w.setRow (G.rgB s c) news) (get σ.env) (get (set σ.env s (.reg c (n + 1) cs'))) := by
    refine ⟨⟨fun l a len z k cap hh => At.only ho (by rw [q3]; simp) (by rw [q3]; simp) ⟨rfl, rfl, rfl⟩ hh, fun _ _ hb => hb⟩, fun b s' c' hb => ⟨hb, rfl, ?_⟩, fun s' c' v cs'' he => ?_⟩
    · simp only [G']
      split
      · rename_i hc; rw [hc.1, hc.2, ← q1]; omega
      · exact Nat.le_refl _
    · rw [get_set] at he
      split at he
      · rename_i hss
        cases he
        subst hss
        exact .inr (.inr (by rw [← q1]; omega))
      · rename_i hss
        by_cases hex : ∃ b, G.Z b = .rg s' c'
        · obtain ⟨b, hbz⟩ := hex
          have hbb := h.ok.rgU b s' c' hbz
          exact .inl ⟨cs'', he, fun j => ho.cell (by show G.rgB s' c' ≠ _; rw [← hbb]; exact ne hbz (by intro e; cases e; exact hss rfl))⟩
        · exact .inr (.inl fun b hbz => hex ⟨b, hbz⟩)
  refine ⟨G', ⟨fun s' => ?_, ⟨h.boxes.1, fun i cs hi => ?_⟩, ⟨fun b hb => ?_, fun b m hm => h.ok.famU b m hm, fun b m hm => ?_, fun b s c hb => h.ok.rgU b s c hb⟩, h.shared, h.clkD, h.newD⟩, ?_⟩
  · show SlotR G' _ _ (get (set σ.env s (.reg c (n + 1) cs'))) s' (get (set σ.env s (.reg c (n + 1) cs')) s') _
    rw [show get (set σ.env s (.reg c (n + 1) cs')) s' = if s' = s then .reg c (n + 1) cs' else get σ.env s' from get_set _ _ _ _]
    split
    · rename_i hss
      subst hss
      exact ⟨by simp [G'], q2, q3, news, e, hnew, hl.keep hg.keeps⟩
    · rename_i hss
      refine SlotR.goes h.ok hg (h.slots s') fun k m cs'' hv => ?_
      have hs' := h.slots s'
      rw [hv] at hs'
      obtain ⟨h1, h2, h3, h4⟩ := hs'
      exact RegR.goes hg ⟨h1, h2, h3, h4⟩ (ho.block _ (ne h3 (by intro e; cases e; exact hss rfl))) (by simp [G', hss])
  · obtain ⟨hn, b, h1, h2, xs, e, h3, h4⟩ := h.boxes.2 i cs hi
    exact ⟨hn, b, h1, h2, xs, e, by rw [ho.block _ (ne h2 (by simp))]; exact h3, h4.keep hg.keeps⟩
  · rw [ho.size]; exact h.ok.lt b hb
  · obtain ⟨cur', e', h2, h3⟩ := h.ok.famC b m hm
    exact ⟨cur', e', by rw [ho.block _ (ne hm (by simp))]; exact h2, h3⟩
  · exact ⟨rfl, rfl, rfl, by rw [ho.size]; exact Nat.le_refl _, fun b hb hzz => ⟨ho.block _ (by rcases hzz with hzz | ⟨_, hzz⟩ <;> exact ne hzz (by simp)), rfl⟩, fun b m hm hzz => ⟨fun x hx hj => ho.cell (by rw [hx]; exact ne hzz (by simp)), .inl ⟨hzz, Nat.le_refl _⟩⟩, fun _ _ hb => hb⟩

/-- A shared variable is written. -/
theorem SR.store_b {i b : Nat} {cs cs' : List V} {cur news : Array Value} {e : TypeId} (h : SR D M G σ tm w) (hi : σ.bx[i]? = some cs) (hb : G.bxB[i]? = some b) (hcur : w.heap[b]? = some (.cells cur e (0, 0))) (hl : RelL w (At G σ.tips σ.lk w) G.bxB cs' news.toList) (hn : namesL cs' = []) :
    SR D M G { σ with bx := σ.bx.set i cs' } tm (w.setRow b news) ∧ Fr G w G (w.setRow b news) := by
  obtain ⟨_, b', q1, q3, _⟩ := h.boxes.2 i cs hi
  obtain rfl : b = b' := by rw [hb] at q1; cases q1; rfl
  have ho := Only.setRow w b news
  have hnew := setRow_heap w b cur news e (0, 0) hcur
  have ne : ∀ {x : Nat} {q : Zn}, G.Z x = q → q ≠ .bx i → x ≠ b := fun h1 h2 e => h2 (by rw [← h1, e]; exact q3)
  have hg : Goes G G (At G σ.tips σ.lk w) (At G σ.tips σ.lk (w.setRow b news)) w (w.setRow b news) (get σ.env) (get σ.env) := by
    refine ⟨⟨fun l a len z k cap hh => At.only ho (by rw [q3]; simp) (by rw [q3]; simp) ⟨rfl, rfl, rfl⟩ hh, fun _ _ hb => hb⟩, fun b s' c' hb => ⟨hb, rfl, Nat.le_refl _⟩, fun s' c' v cs'' he => ?_⟩
    by_cases hex : ∃ b, G.Z b = .rg s' c'
    · obtain ⟨x, hbz⟩ := hex
      have hbb := h.ok.rgU x s' c' hbz
      exact .inl ⟨cs'', he, fun j => ho.cell (by show G.rgB s' c' ≠ _; rw [← hbb]; exact ne hbz (by simp))⟩
    · exact .inr (.inl fun b hbz => hex ⟨b, hbz⟩)
  refine ⟨⟨fun s' => ?_, ⟨?_, fun j cs2 hj => ?_⟩, ⟨fun b hb => ?_, fun b m hm => h.ok.famU b m hm, fun b m hm => ?_, fun b s c hb => h.ok.rgU b s c hb⟩, h.shared, h.clkD, h.newD⟩, ?_⟩
  · refine SlotR.goes h.ok hg (h.slots s') fun k m cs'' hv => ?_
    have hs' := h.slots s'
    rw [hv] at hs'
    obtain ⟨h1, h2, h3, h4⟩ := hs'
    exact RegR.goes hg ⟨h1, h2, h3, h4⟩ (ho.block _ (ne h3 (by simp))) rfl
  · show (σ.bx.set i cs').length = _
    rw [List.length_set]; exact h.boxes.1
  · change (σ.bx.set i cs')[j]? = some cs2 at hj
    by_cases e1 : j = i
    · subst e1
      rw [List.getElem?_set_self (List.getElem?_eq_some_iff.1 hi).1] at hj
      cases hj
      exact ⟨hn, b, hb, q3, news, e, hnew, hl.keep hg.keeps⟩
    · rw [List.getElem?_set_ne (Ne.symm e1)] at hj
      obtain ⟨hn, x, h1, h2, xs, e, h3, h4⟩ := h.boxes.2 j cs2 hj
      exact ⟨hn, x, h1, h2, xs, e, by rw [ho.block _ (ne h2 (by simpa using e1))]; exact h3, h4.keep hg.keeps⟩
  · rw [ho.size]; exact h.ok.lt b hb
  · obtain ⟨cur', e', h2, h3⟩ := h.ok.famC b m hm
    exact ⟨cur', e', by rw [ho.block _ (ne hm (by simp))]; exact h2, h3⟩
  · exact ⟨rfl, rfl, rfl, by rw [ho.size]; exact Nat.le_refl _, fun b hb hzz => ⟨ho.block _ (by rcases hzz with hzz | ⟨_, hzz⟩ <;> exact ne hzz (by simp)), rfl⟩, fun b m hm hzz => ⟨fun x hx hj => ho.cell (by rw [hx]; exact ne hzz (by simp)), .inl ⟨hzz, Nat.le_refl _⟩⟩, fun _ _ hb => hb⟩
end
end Go.VM
