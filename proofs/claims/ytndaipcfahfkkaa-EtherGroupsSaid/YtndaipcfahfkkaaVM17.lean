/- The append. -/
import Derived.Test.YtndaipcfahfkkaaVM16
namespace Go.VM
open Go.RowKit

section
variable {P : Program} {D M : Nat → Prop} {G : Gh} {σ : St} {a : Act} {w : World} {o : Oper} {t0 : Nat → Nat} {d : Nat} {hh : Hints}

/-- What is appended. -/
theorem source_src (h : SR D M G σ a.tmps w) {y : Operand} {y' : Opd} {av : List Nat} {z m : Nat} {news : List V} (hy : opdOf y = some y') (hs : source (get σ.env) av z (ev (get σ.env) y') = some (m, news)) :
    ∃ ns, Src P w (a.eval y) z m ns ∧ RelL w (At G σ.tips σ.lk w) G.bxB news ns ∧ namesL news = [] := by
  have h1 := h.opd hy
  unfold source at hs
  split at hs
  · rename_i e1
    cases hs
    rw [e1] at h1
    rw [Rel.nils_inv h1]
    exact ⟨[], src_nil, .nil, rfl⟩
  · rename_i l z' m' cs e1
    split at hs
    · rename_i hc
      obtain ⟨rfl, hl⟩ := hc
      cases hs
      rw [e1] at h1
      obtain ⟨b, cap, xs, h2, h3, h4, h5, h6, h7, h8, h9⟩ := h1.sl_row (live_of_free hl)
      rw [h2]
      exact ⟨xs, src_slice h4 h7, h8, h9⟩
    · cases hs
  · rename_i b e1
    split at hs
    · rename_i hz
      subst hz
      cases hs
      rw [e1] at h1
      obtain ⟨s, h2, rfl⟩ := Rel.str_inv h1
      rw [h2]
      have : s.data.toList.length = s.size := by simp
      rw [this]
      exact ⟨_, src_str, bytesV_rel _, bytesV_names _⟩
    · cases hs
  · cases hs

theorem run_append_none {t u e : TypeId} {i : TypeInfo} {ud : TypeDesc} (ht : P.underlying t = some (.slice e)) (hu : P.underlying u = some ud) (hud : ∀ k, ud ≠ .int k) (hi : P.info? e = some i) {ty : TypeId}
    {x : Value} {news : List Value} (hs : Src P w x i.size 0 news) :
    (Builtin.append_ #[t, u] ty #[.slice none 0 0, x]).run P w = .ok (.slice none 0 0) w := by
  have hz : (match ud with | .int _ => true | _ => false) = false := by cases ud <;> first | rfl | exact absurd rfl (hud _)
  unfold Builtin.append_
  simp only [List.getElem?_toArray, List.getElem?_cons_zero, List.getElem?_cons_succ, Sem.run_bind, run_underlying ht, Result.andThen_ok]
  simp [sizeOf, typeInfo, hi, run_underlying hu, hz, hs.1, hs.2.1 w rfl]

theorem calm_drew_alloc (w : World) (ob : Obj) : Calm w (w.drew.alloc ob) :=
  ⟨(Calm.alloc w.drew ob).os, (Calm.alloc w.drew ob).tape, (Calm.alloc w.drew ob).output, (Calm.alloc w.drew ob).size, (Calm.alloc w.drew ob).block⟩

theorem grown_size {olds news : List Value} {z : Value} {e : TypeId} {n m cap size : Nat} (hz : z.cells.size = size) (h1 : olds.length = n * size) (h2 : news.length = m * size) :
    (olds.toArray ++ news.toArray ++ Builtin.zeroCells z.cells (grownCap w (n + m) cap e - (n + m))).size = grownCap w (n + m) cap e * size ∧
      (olds.toArray ++ news.toArray ++ Builtin.zeroCells z.cells (grownCap w (n + m) cap e - (n + m))).toList.take ((n + m) * size) = olds ++ news := by
  have hge := grownCap_ge w (n + m) cap e
  constructor
  · simp only [Array.size_append, List.size_toArray, size_zeroCells, hz, h1, h2, ← Nat.add_mul]
    congr 1; omega
  · have : (olds ++ news).length = (n + m) * size := by rw [List.length_append, h1, h2, Nat.add_mul]
    rw [← this, Array.toList_append, Array.toList_append, List.toList_toArray, List.toList_toArray, List.take_left]

/-- Where the row made last at nm is known, no region is to make it first. -/
theorem SR.made (h : SR D M G σ a.tmps w) {nm b : Nat} (hz : G.Z b = .fam nm) : ∀ d', M d' → ¬ (D d' ∨ d' = d) → nmOf d' 0 ≠ nm := fun d' hm hn he => by
  subst he
  exact h.newD d' hm (fun hd => hn (.inl hd)) b hz

theorem does_append {t u e : TypeId} {x y : Operand} {x' y' : Opd} {i : TypeInfo} {zv : Value} {td : TypeDesc} {cut : Bool} {m : Nat} {news : List V} {av : List Nat} {σ' : St} (h : SR D M G σ a.tmps w)
    (hop : o.op = .call { callee := .builtin .append, args := #[x, y], argTypes := #[t, u] }) (ht : P.underlying t = some (.slice e)) (hu : P.underlying u = some td) (hud : ∀ k, td ≠ .int k) (hi : P.info? e = some i) (hz : i.zero = some zv) (hzs : zv.cells.size = i.size) (hpos : 0 < i.size)
    (hx : opdOf x = some x') (hy : opdOf y = some y') (hsrc : source (get σ.env) av i.size (ev (get σ.env) y') = some (m, news)) (hok : news.all V.ok1 = true)
    (ha : append2 σ d i.bytes cut i.size (ev (get σ.env) x') m news = some σ') (hd : o.dst = some d) (hs : d < a.tmps.size) :
    Does P D M G a o w σ' := by
  obtain ⟨ns, s1, s2, s3⟩ := source_src (P := P) h hy hsrc
  have hone := s2.one hok
  have hxr := h.opd hx
  have fin : ∀ {c : Value} {w' : World}, (Builtin.append_ #[t, u] o.type #[a.eval x, a.eval y]).run P w = .ok c w' → (execOp a.eval o).run P w = .ok (.value c) w' := fun {c w'} hr => by
    unfold execOp
    simp [hop, resolve, invoke, builtin, hr]
  unfold append2 at ha
  split at ha
  · -- nothing yet
    rename_i e1
    rw [e1] at hxr
    have hxv := Rel.nils_inv hxr
    split at ha
    · rename_i hc
      obtain ⟨c1, c2, c3⟩ := hc
      split at ha
      · rename_i hm
        subst hm
        cases ha
        refine ⟨_, _, _, .inl (fin ?_), by rw [put_some a hd]; exact (h.put (v := .nils) (c := .slice none 0 0) hs .nils).mono fun s => (dst_or hd s).1, Fr.refl G w⟩
        rw [hxv]
        exact run_append_none ht hu hud hi s1
      · rename_i hm
        cases ha
        have hrun := run_append_out (P := P) (w := w) (ty := o.type) ht hu hud hi hz (b := none) (n := 0) (cap := 0) (m := m) src_nil s1 (by omega) (by omega) (by rw [Nat.zero_add]; exact c1)
        obtain ⟨g1, g2⟩ := grown_size (w := w) (e := e) (cap := 0) (n := 0) (m := m) (olds := []) hzs (by simp) s1.2.2
        rw [← hxv] at hrun
        simp only [Nat.zero_add] at hrun g1 g2
        obtain ⟨G', k1, k2⟩ := h.reborn (d := d) (nm := nmOf d 0) (lk' := upd σ.lk (nmOf d 0) false) (n := m) (z := i.size) (cs := news) (calm_drew_alloc w _) (Go.heap_alloc_new w.drew _)
          (fun d' _ hn he => hn (.inr (nmOf_inj (by omega) (by omega) he).1)) hs hpos (grownCap_ge w m 0 e) (grownCap_le_maxLen _ _ _ _ (by simp [maxLen]; omega)) g1 (fun q hq hl => by rw [upd_other _ _ hq]; exact hl)
          (fun q hq => by rw [upd_other _ _ (by unfold nmOf; omega)]; exact h.shared q hq) (by rw [g2]; simpa using s2) s3
        exact ⟨_, _, G', .inl (fin hrun), by rw [put_some a hd]; exact k1.mono fun s => (dst_or hd s).1, k2⟩
    · cases ha
  · -- onto all of it
    rename_i nm k z' n cs e1
    rw [e1] at hxr
    split at ha
    · rename_i hc
      obtain ⟨rfl, rfl, c1, c2⟩ := hc
      cases ha
      obtain ⟨b, cap, xs, p1, p2, p3, p4, p5, p6, p7, p8, p9⟩ := Rel.sl_inv hxr
      obtain ⟨_, hrd, htip⟩ := p2
      obtain ⟨⟨t1, t2, cur, e0, t3, t4⟩, t5, t6⟩ := htip rfl
      subst t2
      have hzf : G.Z (G.famB nm) = .fam nm := t1
      have hxc : xs.length ≤ cur.size := by rw [p4, t4]; exact Nat.mul_le_mul_right _ p5
      have hpre := row_block p7 t3 hxc
      rw [p4] at hpre
      by_cases hroom : n + m ≤ cap
      · have hrun := run_append_in (P := P) (w := w) (ty := o.type) ht hu hud hi t3 s1 hone hroom t4
        rw [← p1] at hrun
        have hfit : (n + m) * i.size ≤ cur.size := by rw [t4]; exact Nat.mul_le_mul_right _ hroom
        have hnl : ns.length = m * i.size := s1.2.2
        have hadd : (n + m) * i.size = n * i.size + ns.length := by rw [hnl, Nat.add_mul]
        have hsz : (cur.toList.take (n * i.size) ++ ns ++ cur.toList.drop (n * i.size + ns.length)).toArray.size = cur.size := by
          simp only [List.size_toArray, List.length_append, List.length_take, List.length_drop, Array.length_toList]; omega
        obtain ⟨k1, k2, hg⟩ := h.extend (n := (n + m) * i.size) (T' := upd σ.tips nm (σ.tips nm + 1)) (news := (cur.toList.take (n * i.size) ++ ns ++ cur.toList.drop (n * i.size + ns.length)).toArray) hzf t3 hsz
          (fun j hj => by
            rw [← t5, ← t6] at hj
            rw [List.getElem?_toArray, List.append_assoc, List.getElem?_append_left (by rw [List.length_take]; simp only [Array.length_toList]; omega), List.getElem?_take, if_pos hj, Array.getElem?_toList]) (by rw [← t5, ← t6]; exact Nat.mul_le_mul_right _ (by omega)) hfit (fun q hq => upd_other _ _ hq) (by rw [upd_same]; omega)
        have hnew := setRow_heap w (G.famB nm) cur (cur.toList.take (n * i.size) ++ ns ++ cur.toList.drop (n * i.size + ns.length)).toArray e0 (0, 0) t3
        have hxl : (xs ++ ns).length = (n + m) * i.size := by rw [List.length_append, p4, hadd]
        have hrow : Row (w.setRow (G.famB nm) (cur.toList.take (n * i.size) ++ ns ++ cur.toList.drop (n * i.size + ns.length)).toArray) ⟨G.famB nm, 0, none⟩ (xs ++ ns) := by
          have := row_take (row_of_block hnew) ((n + m) * i.size)
          rw [hpre] at this ⊢
          rw [← hxl, List.toList_toArray, List.take_left] at this
          exact this
        have hvr : Rel (w.setRow (G.famB nm) (cur.toList.take (n * i.size) ++ ns ++ cur.toList.drop (n * i.size + ns.length)).toArray) (At { G with ext := upd G.ext nm ((n + m) * i.size) } (upd σ.tips nm (σ.tips nm + 1)) σ.lk (w.setRow (G.famB nm) (cur.toList.take (n * i.size) ++ ns ++ cur.toList.drop (n * i.size + ns.length)).toArray)) G.bxB (.sl (.own nm (σ.tips nm + 1)) i.size (n + m) (cs ++ news)) (.slice (some ⟨G.famB nm, 0, none⟩) (n + m) cap) := by
          refine Rel.sl _ _ _ _ ⟨G.famB nm, 0, none⟩ cap (xs ++ ns) ?_ hpos hxl hroom p6 hrow ((p8.append s2).keep hg.keeps) (by rw [namesL_append, p9, s3]; rfl)
          rw [hxl]
          refine ⟨by rw [upd_same]; exact Nat.le_refl _, .inr ⟨hzf, ?_⟩, fun _ => ⟨⟨hzf, rfl, _, e0, hnew, by rw [hsz]; exact t4⟩, ?_, rfl⟩⟩
          · show 0 + _ ≤ upd G.ext nm ((n + m) * i.size) nm
            rw [upd_same]; omega
          · show _ = upd G.ext nm ((n + m) * i.size) nm
            rw [upd_same]
        exact ⟨_, _, _, .inl (fin hrun), by rw [put_some a hd]; exact (k1.put (v := .sl (.own nm (σ.tips nm + 1)) i.size (n + m) (cs ++ news)) hs hvr).mono fun s => (dst_or hd s).1, k2⟩
      · have hrun := run_append_out (P := P) (w := w) (ty := o.type) ht hu hud hi hz (b := some ⟨G.famB nm, 0, none⟩) (n := n) (cap := cap) (m := m) (src_slice p4 p7) s1 (by omega) c2 c1
        rw [← p1] at hrun
        obtain ⟨g1, g2⟩ := grown_size (w := w) (e := e) (cap := cap) (n := n) (m := m) hzs p4 s1.2.2
        obtain ⟨G', k1, k2⟩ := h.reborn (d := d) (nm := nm) (lk' := σ.lk) (n := n + m) (z := i.size) (cs := cs ++ news) (calm_drew_alloc w _) (Go.heap_alloc_new w.drew _)
          (h.made hzf) hs hpos (grownCap_ge w (n + m) cap e) (grownCap_le_maxLen _ _ _ _ (by simp [maxLen]; omega)) g1 (fun _ _ hl => hl) h.shared (by rw [g2]; exact p8.append s2) (by rw [namesL_append, p9, s3]; rfl)
        exact ⟨_, _, G', .inl (fin hrun), by rw [put_some a hd]; exact k1.mono fun s => (dst_or hd s).1, k2⟩
    · cases ha
  · -- onto a beginning
    rename_i nm k z' n cs e1
    rw [e1] at hxr
    split at ha
    · rename_i hc
      obtain ⟨_, rfl, rfl, hlk, c1, c2⟩ := hc
      cases ha
      obtain ⟨b, cap, xs, p1, p2, p3, p4, p5, p6, p7, p8, p9⟩ := Rel.sl_inv hxr
      obtain ⟨_, hrd, htip⟩ := p2
      obtain ⟨t1, t2, cur, e0, t3, t4⟩ := htip rfl
      subst t2
      have hzf : G.Z (G.famB nm) = .fam nm := t1
      obtain ⟨cur', e', q1, q2⟩ := h.ok.famC _ _ hzf
      obtain rfl : cur = cur' := by rw [t3] at q1; cases q1; rfl
      have hxc : xs.length ≤ cur.size := by rw [p4, t4]; exact Nat.mul_le_mul_right _ p5
      have hpre := row_block p7 t3 hxc
      rw [p4] at hpre
      have hnn : namesL (cs ++ news) = [] := by rw [namesL_append, p9, s3]; rfl
      have hown : ∀ {G' T' w'}, OwnOn nm (σ.tips nm + 1) [] w' (At G σ.tips σ.lk w) (At G' T' σ.lk w') G.bxB := fun {G' T' w'} => ⟨rfl, fun a' len' z' n' cap' hA => absurd hA.1 (by omega)⟩
      by_cases hroom : n + m ≤ cap
      · have hrun := run_append_in (P := P) (w := w) (ty := o.type) ht hu hud hi t3 s1 hone hroom t4
        rw [← p1] at hrun
        have hfit : (n + m) * i.size ≤ cur.size := by rw [t4]; exact Nat.mul_le_mul_right _ hroom
        have hnl : ns.length = m * i.size := s1.2.2
        have hadd : (n + m) * i.size = n * i.size + ns.length := by rw [hnl, Nat.add_mul]
        have hsz : (cur.toList.take (n * i.size) ++ ns ++ cur.toList.drop (n * i.size + ns.length)).toArray.size = cur.size := by
          simp only [List.size_toArray, List.length_append, List.length_take, List.length_drop, Array.length_toList]; omega
        have hnew := setRow_heap w (G.famB nm) cur (cur.toList.take (n * i.size) ++ ns ++ cur.toList.drop (n * i.size + ns.length)).toArray e0 (0, 0) t3
        obtain ⟨k1, k2, hkn⟩ := h.rewrite (k := σ.tips nm + 1) (n := (n + m) * i.size) (cs' := []) (T' := upd σ.tips nm (σ.tips nm + 1)) (lk' := σ.lk) hlk (fun _ hm => hm) (Only.setRow w _ _) hzf hnew (by rw [hsz]; exact hfit) (fun q hq => upd_other _ _ hq) hown
        have hxl : (xs ++ ns).length = (n + m) * i.size := by rw [List.length_append, p4, hadd]
        have hrow : Row (w.setRow (G.famB nm) (cur.toList.take (n * i.size) ++ ns ++ cur.toList.drop (n * i.size + ns.length)).toArray) ⟨G.famB nm, 0, none⟩ (xs ++ ns) := by
          have := row_take (row_of_block hnew) ((n + m) * i.size)
          rw [hpre] at this ⊢
          rw [← hxl, List.toList_toArray, List.take_left] at this
          exact this
        have hvr : Rel (w.setRow (G.famB nm) (cur.toList.take (n * i.size) ++ ns ++ cur.toList.drop (n * i.size + ns.length)).toArray) (At { G with ext := upd G.ext nm ((n + m) * i.size) } (upd σ.tips nm (σ.tips nm + 1)) σ.lk (w.setRow (G.famB nm) (cur.toList.take (n * i.size) ++ ns ++ cur.toList.drop (n * i.size + ns.length)).toArray)) G.bxB (.sl (.own nm (σ.tips nm + 1)) i.size (n + m) (cs ++ news)) (.slice (some ⟨G.famB nm, 0, none⟩) (n + m) cap) := by
          refine Rel.sl _ _ _ _ ⟨G.famB nm, 0, none⟩ cap (xs ++ ns) ?_ hpos hxl hroom p6 hrow ((p8.append s2).keepN hkn (by rw [hnn]; simp)) hnn
          rw [hxl]
          refine ⟨by rw [upd_same]; exact Nat.le_refl _, .inr ⟨hzf, ?_⟩, fun _ => ⟨⟨hzf, rfl, _, e0, hnew, by rw [hsz]; exact t4⟩, ?_, rfl⟩⟩
          · show 0 + _ ≤ upd G.ext nm ((n + m) * i.size) nm
            rw [upd_same]; omega
          · show _ = upd G.ext nm ((n + m) * i.size) nm
            rw [upd_same]
        exact ⟨_, _, _, .inl (fin hrun), by rw [put_some a hd]; exact (k1.put (v := .sl (.own nm (σ.tips nm + 1)) i.size (n + m) (cs ++ news)) hs hvr).mono fun s => (dst_or hd s).1, k2⟩
      · have hrun := run_append_out (P := P) (w := w) (ty := o.type) ht hu hud hi hz (b := some ⟨G.famB nm, 0, none⟩) (n := n) (cap := cap) (m := m) (src_slice p4 p7) s1 (by omega) c2 c1
        rw [← p1] at hrun
        obtain ⟨g1, g2⟩ := grown_size (w := w) (e := e) (cap := cap) (n := n) (m := m) hzs p4 s1.2.2
        obtain ⟨k1, k2, hkn⟩ := h.rewrite (k := σ.tips nm + 1) (n := G.ext nm) (cs' := []) (T' := σ.tips) (lk' := σ.lk) hlk (fun _ hm => hm) (Only.same w _) hzf t3 q2 (fun _ _ => rfl) hown
        obtain ⟨G', k3, k4⟩ := k1.reborn (d := d) (nm := nm) (lk' := σ.lk) (n := n + m) (z := i.size) (cs := cs ++ news) (calm_drew_alloc w _) (Go.heap_alloc_new w.drew _)
          (h.made hzf) hs hpos (grownCap_ge w (n + m) cap e) (grownCap_le_maxLen _ _ _ _ (by simp [maxLen]; omega)) g1 (fun _ _ hl => hl) h.shared (by rw [g2]; exact (p8.append s2).keepN hkn (by rw [hnn]; simp)) hnn
        exact ⟨_, _, G', .inl (fin hrun), by rw [put_some a hd]; exact k3.mono fun s => (dst_or hd s).1, k2.trans h.ok k4⟩
    · cases ha
  · cases ha
end
end Go.VM
