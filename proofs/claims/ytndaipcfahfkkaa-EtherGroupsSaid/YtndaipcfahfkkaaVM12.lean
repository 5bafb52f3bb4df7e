/- Rows that this call makes and goes on with: a new one, one that is left to rest, an append. -/
import Derived.Test.YtndaipcfahfkkaaVM11
namespace Go.VM
open Go.RowKit

theorem Rel.one {w : World} {A : Pl} {B : List Nat} {v : V} {c : Value} (h : Rel w A B v c) (hk : v.ok1 = true) : c.oneCell' = true := by
  cases h <;> first | rfl | cases hk
theorem RelL.one {w : World} {A : Pl} {B : List Nat} {vs : List V} {cs : List Value} (h : RelL w A B vs cs) (hk : vs.all V.ok1 = true) : ∀ u ∈ cs, u.oneCell' = true := by
  induction vs generalizing cs with
  | nil => cases h; intro u hu; cases hu
  | cons v vs ih =>
    cases h with
    | cons _ c _ cs h1 h2 =>
      simp only [List.all_cons, Bool.and_eq_true] at hk
      intro u hu
      rcases List.mem_cons.1 hu with rfl | hu
      · exact h1.one hk.1
      · exact ih h2 hk.2 u hu

section
variable {P : Program} {w : World}

/-- The source of an append: how many elements, and that its cells are read, in whatever world has this memory. -/
def Src (P : Program) (w : World) (x : Value) (size m : Nat) (news : List Value) : Prop :=
  (∀ w', (Builtin.lenOf x).run P w' = .ok m w') ∧ (∀ w', w'.heap = w.heap → (Builtin.firstCells size m x).run P w' = .ok news.toArray w') ∧ news.length = m * size

theorem src_slice {a : Addr} {size m c : Nat} {news : List Value} (hl : news.length = m * size) (hr : Row w a news) : Src P w (.slice (some a) m c) size m news :=
  ⟨fun _ => rfl, fun w' hw => run_firstCells_some w' size m a m c news hl fun j u hu => by
    have := hr j u hu
    unfold World.cell? at this ⊢
    rw [hw]; exact this, hl⟩
theorem src_nil {size : Nat} : Src P w (.slice none 0 0) size 0 [] := ⟨fun _ => rfl, fun w' _ => by simp [Builtin.firstCells], by simp⟩
theorem src_str {s : ByteArray} : Src P w (.string s) 1 s.size (s.data.toList.map fun b => .int .u8 b.toNat) := by
  refine ⟨fun _ => rfl, fun w' _ => ?_, by simp⟩
  simp only [Builtin.firstCells, Sem.run_pure]
  congr 1
  have : (s.extract 0 s.size) = s := by simp
  rw [this]
  apply Array.ext'
  simp

/-- Onto a row in whose block there is room. -/
theorem run_append_in {t u e e0 : TypeId} {i : TypeInfo} {ud : TypeDesc} (ht : P.underlying t = some (.slice e)) (hu : P.underlying u = some ud) (hud : ∀ k, ud ≠ .int k) (hi : P.info? e = some i) {ty : TypeId}
    {g n cap m : Nat} {cur : Array Value} (hg : w.heap[g]? = some (.cells cur e0 (0, 0))) {x : Value} {news : List Value} (hs : Src P w x i.size m news) (h1 : ∀ u ∈ news, u.oneCell' = true) (hroom : n + m ≤ cap) (hcs : cur.size = cap * i.size) :
    (Builtin.append_ #[t, u] ty #[.slice (some ⟨g, 0, none⟩) n cap, x]).run P w =
      .ok (.slice (some ⟨g, 0, none⟩) (n + m) cap) (w.setRow g (cur.toList.take (n * i.size) ++ news ++ cur.toList.drop (n * i.size + news.length)).toArray) := by
  have hfit : n * i.size + news.length ≤ cur.size := by rw [hs.2.2, hcs, ← Nat.add_mul]; exact Nat.mul_le_mul_right _ hroom
  have hst := run_storeCells_at P g (n * i.size) e0 news 0 cur w hg (by simpa using hfit) h1
  simp only [Nat.add_zero] at hst
  have hz : (match ud with | .int _ => true | _ => false) = false := by cases ud <;> first | rfl | exact absurd rfl (hud _)
  have hadd : (⟨g, 0, none⟩ : Addr).add (n * i.size) = ⟨g, n * i.size, none⟩ := by rw [addr_add]; simp
  unfold Builtin.append_
  simp only [List.getElem?_toArray, List.getElem?_cons_zero, List.getElem?_cons_succ, Sem.run_bind, run_underlying ht, Result.andThen_ok]
  simp [sizeOf, typeInfo, hi, run_underlying hu, hz, hs.1, hroom, hs.2.1 w rfl, hadd, hst]

/-- Into a new block. -/
theorem run_append_out {t u e : TypeId} {i : TypeInfo} {z : Value} {ud : TypeDesc} (ht : P.underlying t = some (.slice e)) (hu : P.underlying u = some ud) (hud : ∀ k, ud ≠ .int k) (hi : P.info? e = some i) (hz : i.zero = some z) {ty : TypeId}
    {b : Option Addr} {n cap m : Nat} {x : Value} {olds news : List Value} (hb : Src P w (.slice b n cap) i.size n olds) (hs : Src P w x i.size m news) (hroom : cap < n + m) (h63 : n + m ≤ 9223372036854775807) (hfit : (n + m) * i.bytes ≤ 140737488355328) :
    (Builtin.append_ #[t, u] ty #[.slice b n cap, x]).run P w =
      .ok (.slice (some ⟨w.heap.size, 0, none⟩) (n + m) (grownCap w (n + m) cap e))
        (w.drew.alloc (.cells (olds.toArray ++ news.toArray ++ Builtin.zeroCells z.cells (grownCap w (n + m) cap e - (n + m))) e)) := by
  have hzk : (match ud with | .int _ => true | _ => false) = false := by cases ud <;> first | rfl | exact absurd rfl (hud _)
  have hn : ¬ (n + m ≤ cap) := by omega
  have h63' : ¬ (9223372036854775807 < ((n : Int) + (m : Int))) := by omega
  have h48 := growslice_fits hroom hfit
  have h48' : ¬ (281474976710656 < Builtin.nextslicecap (n + m) cap * i.bytes) := by omega
  have hf := hs.2.1 w.drew rfl
  have hfo := hb.2.1 w.drew rfl
  unfold Builtin.append_
  simp only [List.getElem?_toArray, List.getElem?_cons_zero, List.getElem?_cons_succ, Sem.run_bind, run_underlying ht, Result.andThen_ok]
  simp [sizeOf, typeInfo, zeroValue, hi, hz, run_underlying hu, hzk, hs.1, hn, h63', h48', Question.forced, hf, hfo, newRow, grownCap]
  congr 2
  apply Array.ext'
  simp [List.append_assoc]
end

section
variable {D M : Nat → Prop} {G : Gh} {σ : St} {tm : Array Value} {w : World}

theorem upd_same {α : Type} (f : Nat → α) (a : Nat) (v : α) : upd f a v a = v := by simp [upd]
theorem upd_other {α : Type} (f : Nat → α) {a b : Nat} (v : α) (h : b ≠ a) : upd f a v b = f b := by simp [upd, h]

/-- The row at 'nm' is left to rest; what comes there next is another one. -/
def Gh.retire (G : Gh) (nm : Nat) : Gh := { G with Z := fun b => match G.Z b with
  | .fam m => if m = nm then .st (G.ext nm) else .fam m
  | z => z }

theorem retire_back {nm b : Nat} {q : Zn} (hq : ∀ n, q ≠ .st n) (h : (G.retire nm).Z b = q) : G.Z b = q ∧ q ≠ .fam nm := by
  simp only [Gh.retire] at h
  split at h
  · rename_i m hm
    split at h
    · exact absurd h.symm (hq _)
    · rename_i hne; rw [hm]; subst h; exact ⟨rfl, by simpa using hne⟩
  · rename_i z hz
    subst h
    exact ⟨rfl, fun e => hz _ e⟩
theorem retire_fwd {nm b : Nat} (h : G.Z b ≠ .fam nm) : (G.retire nm).Z b = G.Z b := by
  simp only [Gh.retire]
  split
  · rename_i m hm
    have : m ≠ nm := fun e => h (by rw [hm, e])
    simp [this, hm]
  · rfl
theorem retire_fam {nm b : Nat} (h : G.Z b = .fam nm) : (G.retire nm).Z b = .st (G.ext nm) := by simp [Gh.retire, h]

theorem At.retire {T T' : Nat → Nat} {lk lk' : Nat → Bool} {nm : Nat} (hT : ∀ m, m ≠ nm → T' m = T m) (hT2 : T nm < T' nm) (hlk : ∀ m, m ≠ nm → lk m = true → lk' m = true) {l : Lab} {a : Addr} {len z n cap : Nat} (h : At G T lk w l a len z n cap) :
    At (G.retire nm) T' lk' w l a len z n cap := by
  have rd : ∀ m, Rd G m a len → Rd (G.retire nm) m a len := fun m hr => by
    rcases hr with hr | ⟨hr, hr2⟩
    · exact .inl (hr.over fun _ h => by rw [retire_fwd (by rw [h]; simp)]; exact h)
    · by_cases e : m = nm
      · subst e; exact .inl ⟨_, retire_fam hr, hr2⟩
      · exact .inr ⟨by rw [retire_fwd (by rw [hr]; simpa using e)]; exact hr, hr2⟩
  have tip : ∀ m k, m ≠ nm → Tip G w m a z k → Tip (G.retire nm) w m a z k := fun m k e ⟨h1, h2⟩ => ⟨by rw [retire_fwd (by rw [h1]; simpa using e)]; exact h1, h2⟩
  cases l with
  | none =>
    rcases h with h0 | h | ⟨m, h1, h2, h3⟩
    · exact .inl h0
    · exact .inr (.inl (h.over fun _ h => by rw [retire_fwd (by rw [h]; simp)]; exact h))
    · by_cases e : m = nm
      · subst e; exact .inr (.inl ⟨_, retire_fam h2, h3⟩)
      · exact .inr (.inr ⟨m, hlk m e h1, by rw [retire_fwd (by rw [h2]; simpa using e)]; exact h2, h3⟩)
  | own m k =>
    obtain ⟨h1, h2, h3⟩ := h
    by_cases e : m = nm
    · subst e
      exact ⟨by omega, rd _ h2, fun hk => by omega⟩
    · refine ⟨by rw [hT m e]; exact h1, rd m h2, fun hk => ?_⟩
      rw [hT m e] at hk
      obtain ⟨h4, h5, h6⟩ := h3 hk
      exact ⟨tip m cap e h4, h5, h6⟩
  | pre m k =>
    obtain ⟨h1, h2, h3⟩ := h
    by_cases e : m = nm
    · subst e
      exact ⟨by omega, rd _ h2, fun hk => by omega⟩
    · refine ⟨by rw [hT m e]; exact h1, rd m h2, fun hk => ?_⟩
      rw [hT m e] at hk
      exact tip m cap e (h3 hk)
  | view m => exact rd m h
  | rv => exact h.elim
  | arg => exact h.elim

theorem gok_retire {nm : Nat} (h : GOk G w) : GOk (G.retire nm) w := by
  refine ⟨fun b hb => h.lt b fun ho => hb ?_, fun b m hb => h.famU b m (retire_back (by simp) hb).1, fun b m hb => h.famC b m (retire_back (by simp) hb).1, fun b s c hb => h.rgU b s c (retire_back (by simp) hb).1⟩
  rw [retire_fwd (by rw [ho]; simp)]; exact ho

/-- What was made at nm rests from here on. -/
theorem SR.retire (h : SR D M G σ tm w) {nm : Nat} {T' : Nat → Nat} {lk' : Nat → Bool} (hT : ∀ m, m ≠ nm → T' m = σ.tips m) (hT2 : σ.tips nm < T' nm) (hlk : ∀ m, m ≠ nm → σ.lk m = true → lk' m = true) (hsh : ∀ m, m < 64 → lk' m = true) :
    SR D M (G.retire nm) { σ with tips := T', lk := lk' } tm w ∧ Fr G w (G.retire nm) w := by
  have hg : Goes G (G.retire nm) (At G σ.tips σ.lk w) (At (G.retire nm) T' lk' w) w w (get σ.env) (get σ.env) :=
    ⟨⟨fun l a len z n cap hh => ⟨At.retire hT hT2 hlk hh, fun _ _ => rfl⟩, fun _ _ hb => hb⟩, fun b s c hb => ⟨by rw [retire_fwd (by rw [hb]; simp)]; exact hb, rfl, Nat.le_refl _⟩, fun s c v cs he => .inl ⟨cs, he, fun _ => rfl⟩⟩
  refine ⟨⟨fun s => ?_, ?_, gok_retire h.ok, hsh, fun b s c hb => h.clkD b s c (retire_back (by simp) hb).1, fun d hm hD b hb => h.newD d hm hD b (retire_back (by simp) hb).1⟩, ?_⟩
  · refine SlotR.goes h.ok hg (h.slots s) fun k n cs hv => ?_
    have hs := h.slots s
    rw [hv] at hs
    exact RegR.goes hg hs rfl rfl
  · refine ⟨h.boxes.1, fun i cs hi => ?_⟩
    obtain ⟨hn, b, h1, h2, xs, e, h3, h4⟩ := h.boxes.2 i cs hi
    exact ⟨hn, b, h1, by rw [retire_fwd (by rw [h2]; simp)]; exact h2, xs, e, h3, h4.keep hg.keeps⟩
  · refine ⟨rfl, rfl, rfl, Nat.le_refl _, fun b hb hz => ⟨rfl, retire_fwd (by rcases hz with hz | ⟨_, hz⟩ <;> rw [hz] <;> simp)⟩, fun b m hm hz => ⟨fun _ _ _ => rfl, ?_⟩, fun _ _ hb => hb⟩
    by_cases e : m = nm
    · subst e; exact .inr ⟨_, retire_fam hz, Nat.le_refl _⟩
    · exact .inl ⟨by rw [retire_fwd (by rw [hz]; simpa using e)]; exact hz, Nat.le_refl _⟩

theorem SR.mono {D' : Nat → Prop} (h : SR D M G σ tm w) (hD : ∀ s, D s → D' s) : SR D' M G σ tm w :=
  ⟨h.slots, h.boxes, h.ok, h.shared, fun b s c hb => (h.clkD b s c hb).imp id fun ⟨h1, h2⟩ => ⟨h1, hD _ h2⟩, fun d hm hd => h.newD d hm fun hh => hd (hD _ hh)⟩

theorem At.leak {T : Nat → Nat} {lk lk' : Nat → Bool} (hlk : ∀ m, lk m = true → lk' m = true) {l : Lab} {a : Addr} {len z n cap : Nat} (h : At G T lk w l a len z n cap) : At G T lk' w l a len z n cap := by
  cases l with
  | none => exact h.imp id (Or.imp id fun ⟨m, h1, h2⟩ => ⟨m, hlk m h1, h2⟩)
  | _ => exact h

theorem goes_leak {T : Nat → Nat} {lk lk' : Nat → Bool} {e : Nat → V} (hlk : ∀ m, lk m = true → lk' m = true) : Goes G G (At G T lk w) (At G T lk' w) w w e e :=
  ⟨⟨fun l a len z n cap hh => ⟨At.leak hlk hh, fun _ _ => rfl⟩, fun _ _ hb => hb⟩, fun b s c hb => ⟨hb, rfl, Nat.le_refl _⟩, fun s c v cs he => .inl ⟨cs, he, fun _ => rfl⟩⟩

/-- More names may be about. -/
theorem SR.leak (h : SR D M G σ tm w) {lk' : Nat → Bool} (hlk : ∀ m, σ.lk m = true → lk' m = true) : SR D M G { σ with lk := lk' } tm w := by
  have hg : Goes G G (At G σ.tips σ.lk w) (At G σ.tips lk' w) w w (get σ.env) (get σ.env) := goes_leak hlk
  refine ⟨fun s => ?_, ⟨h.boxes.1, fun i cs hi => ?_⟩, h.ok, fun m hm => hlk m (h.shared m hm), h.clkD, h.newD⟩
  · refine SlotR.goes h.ok hg (h.slots s) fun k n cs hv => ?_
    have hs := h.slots s
    rw [hv] at hs
    exact RegR.goes hg hs rfl rfl
  · obtain ⟨hn, b, h1, h2, xs, e, h3, h4⟩ := h.boxes.2 i cs hi
    exact ⟨hn, b, h1, h2, xs, e, h3, h4.keep hg.keeps⟩

/-- What has leaked may be looked at under no name. -/
theorem Rel.bare {T : Nat → Nat} {lk : Nat → Bool} {B : List Nat} {v : V} {c : Value} (h : Rel w (At G T lk w) B v c) (hlk : ∀ nm ∈ v.names, lk nm = true) (hk : v.ok1 = true) :
    Rel w (At G T lk w) B v.bare c := by
  have rd : ∀ {nm : Nat} {a : Addr} {len z n cap : Nat}, lk nm = true → Rd G nm a len → At G T lk w .none a len z n cap := fun hl hr => .inr (hr.imp id fun hr => ⟨_, hl, hr⟩)
  cases h with
  | sl l z n cs a cap xs h1 h2 h3 h4 h5 h6 h7 h8 =>
    refine .sl .none z n cs a cap xs ?_ h2 h3 h4 h5 h6 h7 h8
    cases l with
    | none => exact h1
    | own nm k => exact rd (hlk nm (by simp [V.names, Lab.names])) h1.2.1
    | pre nm k => exact rd (hlk nm (by simp [V.names, Lab.names])) h1.2.1
    | view nm => exact rd (hlk nm (by simp [V.names, Lab.names])) h1
    | rv => exact h1.elim
    | arg => exact h1.elim
  | ep l cs off a z n cap xs h1 h2 h3 h4 =>
    refine .ep .none cs off a z n cap xs ?_ h2 h3 h4
    cases l with
    | none => exact h1
    | own nm k => exact rd (hlk nm (by simp [V.names, Lab.names])) h1.2.1
    | pre nm k => exact rd (hlk nm (by simp [V.names, Lab.names])) h1.2.1
    | view nm => exact rd (hlk nm (by simp [V.names, Lab.names])) h1
    | rv => exact h1.elim
    | arg => exact h1.elim
  | agg => cases hk
  | tup => cases hk
  | undef => exact .undef _
  | bool b => exact .bool b
  | int k n => exact .int k n
  | str s => exact .str s
  | nilp => exact .nilp
  | nilf => exact .nilf
  | nili => exact .nili
  | nils => exact .nils
  | bp b off blk h => exact .bp b off blk h
  | fn f a b xs ys h1 h2 h3 h4 => exact .fn f a b xs ys h1 h2 h3 h4
  | iface t v c h1 h2 => exact .iface t v c h1 h2

theorem V.bare_names1 {v : V} (hk : v.ok1 = true) : v.bare.names = [] ∧ v.bare.ok1 = true := by
  cases v <;> first | (cases hk; done) | exact ⟨rfl, rfl⟩ | skip

/-- A new row, made at nm. -/
theorem SR.new_fam {w' : World} {nm len : Nat} {e : TypeId} {cur : Array Value} (h : SR D M G σ tm w) (hc : Calm w w') (hb : w'.heap[w.heap.size]? = some (.cells cur e (0, 0))) (hlen : len ≤ cur.size)
    (hno : ∀ b, G.Z b ≠ .fam nm) (hM : ∀ d, M d → ¬ D d → nmOf d 0 ≠ nm) :
    ∃ G', SR D M G' σ tm w' ∧ Fr G w G' w' ∧ (G'.Z w.heap.size = .fam nm ∧ G'.famB nm = w.heap.size ∧ G'.ext nm = len ∧ G'.bxB = G.bxB) ∧ Goes G G' (At G σ.tips σ.lk w) (At G' σ.tips σ.lk w') w w' (get σ.env) (get σ.env) := by
  have hout : G.Z w.heap.size = .out := by
    by_cases ho : G.Z w.heap.size = .out
    · exact ho
    · exact absurd (h.ok.lt _ ho) (Nat.lt_irrefl _)
  let G' : Gh := { G with Z := fun x => if x = w.heap.size then .fam nm else G.Z x, famB := upd G.famB nm w.heap.size, ext := upd G.ext nm len }
  have hz : ∀ b, b ≠ w.heap.size → G'.Z b = G.Z b := fun b hb => by simp [G', hb]
  have hz' : ∀ b, G.Z b ≠ .out → G'.Z b = G.Z b := fun b hb => hz b (fun e => hb (e ▸ hout))
  have hf : ∀ b m, G.Z b = .fam m → G'.famB m = G.famB m ∧ G'.ext m = G.ext m := fun b m hm => by
    have : m ≠ nm := fun e => hno b (e ▸ hm)
    exact ⟨upd_other _ _ this, upd_other _ _ this⟩
  have hsz : w.heap.size < w'.heap.size := by
    have := (Array.getElem?_eq_some_iff.1 hb).1
    exact this
  have back : ∀ b (q : Zn), q ≠ .fam nm → G'.Z b = q → G.Z b = q := fun b q hq hb => by
    by_cases e : b = w.heap.size
    · subst e; simp [G'] at hb; exact absurd hb.symm hq
    · rw [← hz b e]; exact hb
  have hok : GOk G' w' := by
    refine ⟨fun b hb => ?_, fun b m hm => ?_, fun b m hm => ?_, fun b s c hb => ?_⟩
    · by_cases e : b = w.heap.size
      · omega
      · have := h.ok.lt b (by rw [← hz b e]; exact hb)
        have := hc.size; omega
    · by_cases e : b = w.heap.size
      · subst e
        simp only [G', if_true] at hm
        cases hm
        exact (upd_same _ _ _).symm
      · have h1 : G.Z b = .fam m := by rw [← hz b e]; exact hm
        rw [(hf b m h1).1]; exact h.ok.famU b m h1
    · by_cases e : b = w.heap.size
      · subst e
        simp only [G', if_true] at hm
        cases hm
        exact ⟨cur, _, hb, by simp only [G']; rw [upd_same]; exact hlen⟩
      · have h1 : G.Z b = .fam m := by rw [← hz b e]; exact hm
        obtain ⟨cur', e', h2, h3⟩ := h.ok.famC b m h1
        exact ⟨cur', e', by rw [hc.block b (h.ok.lt b (by rw [h1]; simp))]; exact h2, by rw [(hf b m h1).2]; exact h3⟩
    · exact h.ok.rgU b s c (back b _ (by simp) hb)
  refine ⟨G', h.grow hc hz' hf (fun _ _ _ _ => ⟨rfl, rfl⟩) rfl hok (fun b s c hb => h.clkD b s c (back b _ (by simp) hb)) (fun d hm hD b hb => h.newD d hm hD b (back b _ (by simpa using hM d hm hD) hb)),
    fr_calm h.ok hc (fun b hb => hz b (by omega)) (fun b m hm => (hf b m hm).2) (fun _ _ hb => hb), ⟨by simp [G'], upd_same _ _ _, upd_same _ _ _, rfl⟩, goes_calm h.ok hc hz' hf (fun _ _ _ _ => ⟨rfl, rfl⟩) (fun _ _ hb => hb)⟩

end
end Go.VM
