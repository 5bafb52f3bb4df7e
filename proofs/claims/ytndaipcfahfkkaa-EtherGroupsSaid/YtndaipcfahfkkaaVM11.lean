/- What becomes of the relation when a slot is written; when something is made. -/
import Derived.Test.YtndaipcfahfkkaaVM10
namespace Go.VM
open Go.RowKit

section
variable {P : Program} {D M : Nat → Prop} {G : Gh} {σ : St} {tm : Array Value} {w : World}

theorem getD_set (tm : Array Value) (d s : Nat) (c : Value) (hd : d < tm.size) : (tm.setIfInBounds d c).getD s Go.undef = if s = d then c else tm.getD s Go.undef := by
  by_cases h : s = d
  · subst h
    rw [if_pos rfl]
    simp [Array.getD, hd]
  · rw [if_neg h]
    simp only [Array.getD_eq_getD_getElem?, Array.getElem?_setIfInBounds_ne (Ne.symm h)]

theorem keeps_refl {A : Pl} {B : List Nat} : Keeps w w A A B B := ⟨fun _ _ _ _ _ _ h => ⟨h, fun _ _ => rfl⟩, fun _ _ h => h⟩

theorem VR.not_reg {A : Pl} {e : Nat → V} {v : V} {c : Value} (h : VR G A w e v c) : ∀ k n cs, v ≠ .reg k n cs := by
  rintro k n cs rfl; exact h

theorem slotR_vr {A : Pl} {e : Nat → V} {s : Nat} {v : V} {c : Value} (h : ∀ k n cs, v ≠ .reg k n cs) : SlotR G A w e s v c ↔ VR G A w e v c := by
  cases v <;> first | exact Iff.rfl | exact absurd rfl (h _ _ _)
theorem V.reg_or (v : V) : (∃ k n cs, v = .reg k n cs) ∨ ∀ k n cs, v ≠ .reg k n cs := by
  cases v <;> first | exact .inl ⟨_, _, _, rfl⟩ | exact .inr (by simp)

/-- A slot is written with an answer. -/
theorem SR.put (h : SR D M G σ tm w) {d : Nat} {v : V} {c : Value} (hd : d < tm.size) (hv : VR G (At G σ.tips σ.lk w) w (get σ.env) v c) :
    SR (fun s => D s ∨ s = d) M G { σ with env := set σ.env d v } (tm.setIfInBounds d c) w := by
  have hnr := hv.not_reg
  have hg : Goes G G (At G σ.tips σ.lk w) (At G σ.tips σ.lk w) w w (get σ.env) (get (set σ.env d v)) := by
    refine ⟨keeps_refl, fun b s c hb => ⟨hb, rfl, Nat.le_refl _⟩, fun s c u cs he => ?_⟩
    rw [get_set] at he
    split at he
    · exact absurd he (hnr _ _ _)
    · exact .inl ⟨cs, he, fun _ => rfl⟩
  refine ⟨fun s => ?_, h.boxes, h.ok, h.shared, fun b s c hb => ?_, fun d' hm hD => h.newD d' hm fun hh => hD (.inl hh)⟩
  · show SlotR G (At G σ.tips σ.lk w) w (get (set σ.env d v)) s (get (set σ.env d v) s) _
    rw [get_set, getD_set _ _ _ _ hd]
    split
    · rename_i hs
      exact (slotR_vr hnr).2 (hv.goes h.ok hg)
    · have hs := h.slots s
      rcases (get σ.env s).reg_or with ⟨k, n, cs, hu⟩ | hu
      · rw [hu] at hs ⊢; exact hs
      · exact (slotR_vr hu).2 (VR.goes h.ok hg ((slotR_vr hu).1 hs))
  · rcases h.clkD b s c hb with h1 | ⟨h1, h2⟩
    · exact .inl h1
    · exact .inr ⟨h1, .inl h2⟩

/-- Everything goes over into a new ghost and world, the slots and the shared variables too. -/
theorem SlotR.goes {G' : Gh} {A A' : Pl} {w' : World} {e e' : Nat → V} (hok : GOk G w) (hg : Goes G G' A A' w w' e e') {s : Nat} {v : V} {c : Value} (h : SlotR G A w e s v c) (hr : ∀ k n cs, v = .reg k n cs → RegR G' A' w' s k n cs c) :
    SlotR G' A' w' e' s v c := by
  rcases v.reg_or with ⟨k, n, cs, hu⟩ | hu
  · subst hu; exact hr k n cs rfl
  · exact (slotR_vr hu).2 (VR.goes hok hg ((slotR_vr hu).1 h))

/-- A variable of the call's own goes on: its block is as it was. -/
theorem RegR.goes {G' : Gh} {A A' : Pl} {w' : World} {e e' : Nat → V} (hg : Goes G G' A A' w w' e e') {s k n : Nat} {cs : List V} {c : Value} (h : RegR G A w s k n cs c) (hb : w'.heap[G.rgB s k]? = w.heap[G.rgB s k]?) (hv : G'.ver s k = G.ver s k) :
    RegR G' A' w' s k n cs c := by
  obtain ⟨h1, h2, h3, xs, e, h4, h5⟩ := h
  obtain ⟨k1, k2, _⟩ := hg.rgs _ _ _ h3
  exact ⟨by rw [hv]; exact h1, by rw [k2]; exact h2, by rw [k2]; exact k1, xs, e, by rw [k2, hb]; exact h4, h5.keep hg.keeps⟩

/-- A new block, of any kind: nothing that was there has turned. -/
theorem heap_alloc_lt (o : Obj) (b : Nat) (h : b < w.heap.size) : (w.alloc o).heap[b]? = w.heap[b]? := Below.heap_alloc w o b h

/-- A step of the world that leaves every old block as it was. -/
structure Calm (w w' : World) : Prop where
  os : w'.os = w.os
  tape : w'.tape = w.tape
  output : w'.output = w.output
  size : w.heap.size ≤ w'.heap.size
  block : ∀ b, b < w.heap.size → w'.heap[b]? = w.heap[b]?

theorem Calm.refl (w : World) : Calm w w := ⟨rfl, rfl, rfl, Nat.le_refl _, fun _ _ => rfl⟩
theorem Calm.alloc (w : World) (o : Obj) : Calm w (w.alloc o) := ⟨rfl, rfl, rfl, by simp, fun b h => heap_alloc_lt o b h⟩
theorem Calm.drew {w w' : World} (h : Calm w w') : Calm w w'.drew := ⟨h.os, h.tape, h.output, h.size, h.block⟩
theorem Calm.cell {w w' : World} (h : Calm w w') {a : Addr} (hb : a.block < w.heap.size) : w'.cell? a = w.cell? a := World.cell?_of_block (h.block _ hb)

/-- The ghost with block b put in zone z; its families and variables as given. -/
def Gh.at (G : Gh) (b : Nat) (z : Zn) : Gh := { G with Z := fun x => if x = b then z else G.Z x }

/-- Where a label's row lies, there is a block that is not out of sight. -/
theorem At.zone {T : Nat → Nat} {lk : Nat → Bool} {l : Lab} {a : Addr} {len z n cap : Nat} (h : At G T lk w l a len z n cap) (hpos : len ≠ 0 ∨ l ≠ .none) : G.Z a.block ≠ .out := by
  cases l with
  | none =>
    rcases h with h0 | ⟨_, h, _⟩ | ⟨nm, _, h, _⟩
    · exact absurd h0 (hpos.resolve_right (by simp))
    · rw [h]; simp
    · rw [h]; simp
  | own nm k => obtain ⟨_, h, _⟩ := h; rcases h with ⟨_, h, _⟩ | ⟨h, _⟩ <;> rw [h] <;> simp
  | pre nm k => obtain ⟨_, h, _⟩ := h; rcases h with ⟨_, h, _⟩ | ⟨h, _⟩ <;> rw [h] <;> simp
  | view nm => rcases h with ⟨_, h, _⟩ | ⟨h, _⟩ <;> rw [h] <;> simp
  | rv => exact h.elim
  | arg => exact h.elim

/-- The places go over where the zones of what is in sight, the families' blocks and extents do, and the world is calm. -/
theorem At.calm {G' : Gh} {w' : World} {T : Nat → Nat} {lk : Nat → Bool} (hok : GOk G w) (hc : Calm w w') (hz : ∀ b, G.Z b ≠ .out → G'.Z b = G.Z b)
    (hf : ∀ b nm, G.Z b = .fam nm → G'.famB nm = G.famB nm ∧ G'.ext nm = G.ext nm) {l : Lab} {a : Addr} {len z n cap : Nat} (h : At G T lk w l a len z n cap) :
    At G' T lk w' l a len z n cap ∧ ∀ j, j < len → w'.cell? (a.add j) = w.cell? (a.add j) := by
  by_cases hpos : len = 0 ∧ l = .none
  · obtain ⟨h0, rfl⟩ := hpos
    exact ⟨.inl h0, fun j hj => by omega⟩
  have hb := h.zone (by
    by_cases h0 : len = 0
    · exact .inr fun e => hpos ⟨h0, e⟩
    · exact .inl h0)
  have hlt := hok.lt _ hb
  refine ⟨?_, fun j _ => hc.cell (by rw [add_block]; exact hlt)⟩
  have rd : ∀ nm, Rd G nm a len → Rd G' nm a len := fun nm hr => by
    rcases hr with hr | ⟨hr, hr2⟩
    · exact .inl (hr.over fun _ h => (hz _ hb).trans h)
    · exact .inr ⟨(hz _ hb).trans hr, by rw [(hf _ _ hr).2]; exact hr2⟩
  have tip : ∀ nm, Tip G w nm a z cap → Tip G' w' nm a z cap := fun nm ht => by
    obtain ⟨h1, h2, cur, e, h3, h4⟩ := ht
    have hfb := (hf _ _ h1).1
    refine ⟨(hz _ hb).trans h1, by rw [hfb]; exact h2, cur, e, ?_, h4⟩
    rw [hfb, hc.block _ (by have : a.block = G.famB nm := by rw [h2]
                            omega)]
    exact h3
  cases l with
  | none =>
    rcases h with h0 | h | ⟨nm, h1, h2, h3⟩
    · exact .inl h0
    · exact .inr (.inl (h.over fun _ h => (hz _ hb).trans h))
    · exact .inr (.inr ⟨nm, h1, (hz _ hb).trans h2, by rw [(hf _ _ h2).2]; exact h3⟩)
  | own nm k =>
    obtain ⟨h1, h2, h3⟩ := h
    refine ⟨h1, rd nm h2, fun hk => ?_⟩
    obtain ⟨h4, h5, h6⟩ := h3 hk
    exact ⟨tip nm h4, by rw [(hf _ _ h4.1).2]; exact h5, h6⟩
  | pre nm k =>
    obtain ⟨h1, h2, h3⟩ := h
    exact ⟨h1, rd nm h2, fun hk => tip nm (h3 hk)⟩
  | view nm => exact rd nm h
  | rv => exact h.elim
  | arg => exact h.elim

theorem goes_calm {G' : Gh} {w' : World} {T : Nat → Nat} {lk : Nat → Bool} {e : Nat → V} (hok : GOk G w) (hc : Calm w w') (hz : ∀ b, G.Z b ≠ .out → G'.Z b = G.Z b)
    (hf : ∀ b nm, G.Z b = .fam nm → G'.famB nm = G.famB nm ∧ G'.ext nm = G.ext nm) (hr : ∀ b s c, G.Z b = .rg s c → G'.rgB s c = G.rgB s c ∧ G'.ver s c = G.ver s c)
    (hb : ∀ (i b : Nat), G.bxB[i]? = some b → G'.bxB[i]? = some b) : Goes G G' (At G T lk w) (At G' T lk w') w w' e e := by
  refine ⟨⟨fun l a len z n cap h => At.calm hok hc hz hf h, hb⟩, fun b s c h => ⟨(hz b (by rw [h]; simp)).trans h, (hr b s c h).1, Nat.le_of_eq (hr b s c h).2.symm⟩, fun s c v cs he => ?_⟩
  by_cases hex : ∃ b, G.Z b = .rg s c
  · obtain ⟨b, hbz⟩ := hex
    have hbb := hok.rgU b s c hbz
    refine .inl ⟨cs, he, fun j => hc.cell (a := ⟨G.rgB s c, j, none⟩) ?_⟩
    show G.rgB s c < _
    rw [← hbb]
    exact hok.lt b (by rw [hbz]; simp)
  · exact .inr (.inl fun b hbz => hex ⟨b, hbz⟩)

/-- Something new is about: what was there goes on. -/
theorem SR.grow {G' : Gh} {w' : World} (h : SR D M G σ tm w) (hc : Calm w w') (hz : ∀ b, G.Z b ≠ .out → G'.Z b = G.Z b)
    (hf : ∀ b nm, G.Z b = .fam nm → G'.famB nm = G.famB nm ∧ G'.ext nm = G.ext nm) (hr : ∀ b s c, G.Z b = .rg s c → G'.rgB s c = G.rgB s c ∧ G'.ver s c = G.ver s c)
    (hb : G'.bxB = G.bxB) (hok : GOk G' w') (hclk : ∀ b s c, G'.Z b = .rg s c → c < σ.clk ∨ (c = σ.clk ∧ D s)) (hnew : ∀ d, M d → ¬ D d → ∀ b, G'.Z b ≠ .fam (nmOf d 0)) :
    SR D M G' σ tm w' := by
  have hg : Goes G G' (At G σ.tips σ.lk w) (At G' σ.tips σ.lk w') w w' (get σ.env) (get σ.env) := goes_calm h.ok hc hz hf hr (fun i b hi => by rw [hb]; exact hi)
  refine ⟨fun s => ?_, ?_, hok, h.shared, hclk, hnew⟩
  · refine SlotR.goes h.ok hg (h.slots s) fun k n cs hv => ?_
    have hs := h.slots s
    rw [hv] at hs
    obtain ⟨h1, h2, h3, h4⟩ := hs
    exact RegR.goes hg ⟨h1, h2, h3, h4⟩ (hc.block _ (h.ok.lt _ (by rw [h3]; simp))) (hr _ _ _ h3).2
  · refine ⟨by rw [hb]; exact h.boxes.1, fun i cs hi => ?_⟩
    obtain ⟨hn, b, h1, h2, xs, e, h3, h4⟩ := h.boxes.2 i cs hi
    exact ⟨hn, b, by rw [hb]; exact h1, (hz b (by rw [h2]; simp)).trans h2, xs, e, by rw [hc.block b (h.ok.lt b (by rw [h2]; simp))]; exact h3, h4.keep hg.keeps⟩

/-- What a stretch that only makes things may change: nothing. -/
theorem fr_calm {G' : Gh} {w' : World} (hok : GOk G w) (hc : Calm w w') (hz : ∀ b, b < w.heap.size → G'.Z b = G.Z b) (hf : ∀ b nm, G.Z b = .fam nm → G'.ext nm = G.ext nm) (hb : ∀ (i b : Nat), G.bxB[i]? = some b → G'.bxB[i]? = some b) : Fr G w G' w' :=
  ⟨hc.os, hc.tape, hc.output, hc.size, fun b hlt _ => ⟨hc.block b hlt, hz b hlt⟩,
   fun b nm _ h => ⟨fun x hx _ => hc.cell (by rw [hx]; exact hok.lt b (by rw [h]; simp)), .inl ⟨(hz b (hok.lt b (by rw [h]; simp))).trans h, Nat.le_of_eq (hf b nm h).symm⟩⟩, hb⟩

/-- A new block that nobody is going to write. -/
theorem SR.new_st {w' : World} (h : SR D M G σ tm w) (hc : Calm w w') (hsz : w.heap.size < w'.heap.size) (n : Nat) : SR D M (G.at w.heap.size (.st n)) σ tm w' ∧ Fr G w (G.at w.heap.size (.st n)) w' := by
  have hout : G.Z w.heap.size = .out := by
    by_cases ho : G.Z w.heap.size = .out
    · exact ho
    · exact absurd (h.ok.lt _ ho) (Nat.lt_irrefl _)
  have hz : ∀ b, b ≠ w.heap.size → (G.at w.heap.size (.st n)).Z b = G.Z b := fun b hb => by simp [Gh.at, hb]
  have hz' : ∀ b, G.Z b ≠ .out → (G.at w.heap.size (.st n)).Z b = G.Z b := fun b hb => hz b (fun e => hb (e ▸ hout))
  have back : ∀ b (q : Zn), q ≠ .st n → (G.at w.heap.size (.st n)).Z b = q → G.Z b = q := fun b q hq hb => by
    by_cases e : b = w.heap.size
    · subst e; simp [Gh.at] at hb; exact absurd hb.symm hq
    · rw [← hz b e]; exact hb
  refine ⟨h.grow hc hz' (fun _ _ _ => ⟨rfl, rfl⟩) (fun _ _ _ _ => ⟨rfl, rfl⟩) rfl ⟨fun b hb => ?_, fun b nm hb => ?_, fun b nm hb => ?_, fun b s c hb => ?_⟩ (fun b s c hb => h.clkD b s c (back b _ (by simp) hb)) (fun d hm hD b hb => h.newD d hm hD b (back b _ (by simp) hb)), fr_calm h.ok hc (fun b hb => hz b (by omega)) (fun _ _ _ => rfl) (fun _ _ hb => hb)⟩
  · by_cases e : b = w.heap.size
    · omega
    · have := h.ok.lt b (by rw [← hz b e]; exact hb)
      have := hc.size; omega
  · exact h.ok.famU b nm (back b _ (by simp) hb)
  · have h1 := back b _ (by simp) hb
    obtain ⟨cur, e, h2, h3⟩ := h.ok.famC b nm h1
    exact ⟨cur, e, by rw [hc.block b (h.ok.lt b (by rw [h1]; simp))]; exact h2, h3⟩
  · exact h.ok.rgU b s c (back b _ (by simp) hb)

/-- A new variable of the call's own. -/
theorem SR.new_rg (h : SR D M G σ tm w) {d : Nat} {cs : List V} {xs : Array Value} {ty : TypeId} (hd : d < tm.size) (hD : ¬ D d) (hl : RelL w (At G σ.tips σ.lk w) G.bxB cs xs.toList) :
    ∃ G', SR (fun s => D s ∨ s = d) M G' { σ with env := set σ.env d (.reg σ.clk 0 cs) } (tm.setIfInBounds d (.pointer (some ⟨w.heap.size, 0, none⟩))) (w.alloc (.cells xs ty)) ∧ Fr G w G' (w.alloc (.cells xs ty)) := by
  have hout : G.Z w.heap.size = .out := by
    by_cases ho : G.Z w.heap.size = .out
    · exact ho
    · exact absurd (h.ok.lt _ ho) (Nat.lt_irrefl _)
  have hno : ∀ b, G.Z b ≠ .rg d σ.clk := fun b hb => by
    rcases h.clkD b d σ.clk hb with h1 | ⟨_, h1⟩
    · omega
    · exact hD h1
  let G' : Gh := { G with Z := fun x => if x = w.heap.size then .rg d σ.clk else G.Z x, rgB := fun s c => if s = d ∧ c = σ.clk then w.heap.size else G.rgB s c, ver := fun s c => if s = d ∧ c = σ.clk then 0 else G.ver s c }
  have hc : Calm w (w.alloc (.cells xs ty)) := Calm.alloc w _
  have hz : ∀ b, b ≠ w.heap.size → G'.Z b = G.Z b := fun b hb => by simp [G', hb]
  have hz' : ∀ b, G.Z b ≠ .out → G'.Z b = G.Z b := fun b hb => hz b (fun e => hb (e ▸ hout))
  have hrg : ∀ b s c, G.Z b = .rg s c → G'.rgB s c = G.rgB s c ∧ G'.ver s c = G.ver s c := fun b s c hb => by
    have : ¬ (s = d ∧ c = σ.clk) := fun ⟨e1, e2⟩ => hno b (by rw [← e1, ← e2]; exact hb)
    simp [G', this]
  have hg : Goes G G' (At G σ.tips σ.lk w) (At G' σ.tips σ.lk (w.alloc (.cells xs ty))) w (w.alloc (.cells xs ty)) (get σ.env) (get (set σ.env d (.reg σ.clk 0 cs))) := by
    have h0 := goes_calm (T := σ.tips) (lk := σ.lk) (e := get σ.env) (G' := G') h.ok hc hz' (fun _ _ _ => ⟨rfl, rfl⟩) hrg (fun _ _ hb => hb)
    refine ⟨h0.keeps, h0.rgs, fun s c v cs' he => ?_⟩
    rw [get_set] at he
    split at he
    · rename_i hs
      cases he
      subst hs
      exact .inr (.inl hno)
    · exact h0.live s c v cs' he
  refine ⟨G', ⟨fun s => ?_, ?_, ⟨fun b hb => ?_, fun b nm hb => ?_, fun b nm hb => ?_, fun b s c hb => ?_⟩, h.shared, fun b s c hb => ?_, fun d' hm hD' b hb => ?_⟩, fr_calm h.ok hc (fun b hb => hz b (by omega)) (fun _ _ _ => rfl) (fun _ _ hb => hb)⟩
  · show SlotR G' _ _ (get (set σ.env d (.reg σ.clk 0 cs))) s (get (set σ.env d (.reg σ.clk 0 cs)) s) _
    rw [getD_set _ _ _ _ hd]
    rw [show get (set σ.env d (.reg σ.clk 0 cs)) s = if s = d then .reg σ.clk 0 cs else get σ.env s from get_set _ _ _ _]
    split
    · rename_i hs
      subst hs
      refine ⟨by simp [G'], by simp [G'], by simp [G'], xs, ty, ?_, hl.keep hg.keeps⟩
      simp only [G', and_self, if_true]
      exact Go.heap_alloc_new w _
    · rename_i hs
      refine SlotR.goes h.ok hg (h.slots s) fun k n cs' hv => ?_
      have hs' := h.slots s
      rw [hv] at hs'
      obtain ⟨h1, h2, h3, h4⟩ := hs'
      exact RegR.goes hg ⟨h1, h2, h3, h4⟩ (hc.block _ (h.ok.lt _ (by rw [h3]; simp))) (hrg _ _ _ h3).2
  · refine ⟨h.boxes.1, fun i cs' hi => ?_⟩
    obtain ⟨hn, b, h1, h2, ys, e, h3, h4⟩ := h.boxes.2 i cs' hi
    exact ⟨hn, b, h1, (hz' b (by rw [h2]; simp)).trans h2, ys, e, by rw [hc.block b (h.ok.lt b (by rw [h2]; simp))]; exact h3, h4.keep hg.keeps⟩
  · by_cases e : b = w.heap.size
    · subst e; simp
    · have := h.ok.lt b (by rw [← hz b e]; exact hb)
      simp; omega
  · by_cases e : b = w.heap.size
    · subst e; simp [G'] at hb
    · exact h.ok.famU b nm (by rw [← hz b e]; exact hb)
  · by_cases e : b = w.heap.size
    · subst e; simp [G'] at hb
    · have h1 : G.Z b = .fam nm := by rw [← hz b e]; exact hb
      obtain ⟨cur, e, h2, h3⟩ := h.ok.famC b nm h1
      exact ⟨cur, e, by rw [hc.block b (h.ok.lt b (by rw [h1]; simp))]; exact h2, h3⟩
  · by_cases e : b = w.heap.size
    · subst e
      simp only [G', if_true] at hb
      cases hb
      simp [G']
    · have h1 : G.Z b = .rg s c := by rw [← hz b e]; exact hb
      rw [(hrg b s c h1).1]
      exact h.ok.rgU b s c h1
  · by_cases e : b = w.heap.size
    · subst e
      simp only [G', if_true] at hb
      cases hb
      exact .inr ⟨rfl, .inr rfl⟩
    · rcases h.clkD b s c (by rw [← hz b e]; exact hb) with h1 | ⟨h1, h2⟩
      · exact .inl h1
      · exact .inr ⟨h1, .inl h2⟩
  · by_cases e : b = w.heap.size
    · subst e; simp [G'] at hb
    · exact h.newD d' hm (fun hh => hD' (.inl hh)) b (by rw [← hz b e]; exact hb)
end
end Go.VM
