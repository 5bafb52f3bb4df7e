/- Chapter 17, plainly: what CommunityTexts asks. -/
import Derived.Test.YtghpknbkecolnaaGreatDoorCG
namespace Go.Proofs.YtghpknbkecolnaaGreatDoor
open Go.VM Go.Txt
set_option maxRecDepth 10000
theorem spoilt_ok (N : Nat) {b : List Int} (hb : b.length ≤ 1000) (at' by' : Int) : ∃ r, n12 (N + 2) (b, at', by') = some r ∧ r.length ≤ b.length + 1 := by
  rw [e12]
  have h0 : nApp 1 ([] : List Int) b = some b := nApp_ok (l := []) (by simp only [List.length_nil]; omega) (by simp only [List.length_nil]; omega)
  by_cases he : b = []
  · subst he
    exact ⟨_, bindB h0 (bifT rfl (letB rfl rfl)), by simp⟩
  have hl : 0 < b.length := List.length_pos_iff.2 he
  have hne : (nLen b == (0 : Int)) = false := by unfold nLen; simp; exact he
  obtain ⟨k, hk, k0, k1⟩ := mod_ok N (a := at') (b := nLen b) (by unfold nLen; omega) (by unfold nLen; omega)
  unfold nLen at k1
  obtain ⟨q, hq, q0, q1⟩ := mod_ok N (a := IntKind.i64.wrap (Int.tdiv by' 256)) (b := 4) (by omega) (by omega)
  obtain ⟨k, rfl⟩ := Int.eq_ofNat_of_zero_le k0
  have htk : nTake b (k : Int) = some (b.take k) := nTake_ok (by omega)
  have ltk : (b.take k).length ≤ b.length := by rw [List.length_take]; omega
  by_cases h1 : q = 0
  · subst h1
    refine ⟨_, bindB h0 (bifF hne (bindB hk (letB rfl (bindB hq (bifT rfl (bindB (nIdx_lt (by omega)) (letB rfl rfl))))))), ?_⟩
    rw [List.length_set]; omega
  by_cases h2 : q = 1
  · subst h2
    have hdp : nDrop b ((k + 1 : Nat) : Int) = some (b.drop (k + 1)) := nDrop_ok (by omega)
    have ldp : (b.drop (k + 1)).length ≤ b.length := by rw [List.length_drop]; omega
    refine ⟨b.take k ++ b.drop (k + 1), bindB h0 (bifF hne (bindB hk (letB rfl (bindB hq (bifF rfl (bifT rfl (bindB htk (letB (v := ((k + 1 : Nat) : Int)) (wv _ (by omega) (by omega) (by omega)) (bindB hdp (bindB (nApp_ok (by omega) (by omega)) rfl)))))))))), ?_⟩
    rw [List.length_append, List.length_take, List.length_drop]; omega
  by_cases h3 : q = 2
  · subst h3
    have hdp : nDrop b (k : Int) = some (b.drop k) := nDrop_ok (by omega)
    have ldp : (b.drop k).length ≤ b.length := by rw [List.length_drop]; omega
    have a1 : nApp 1 ([] : List Int) (b.take k) = some (b.take k) := nApp_ok (l := []) (by simp only [List.length_nil]; omega) (by simp only [List.length_nil]; omega)
    refine ⟨b.take k ++ [IntKind.u8.wrap by'] ++ b.drop k, bindB h0 (bifF hne (bindB hk (letB rfl (bindB hq (bifF rfl (bifF rfl (bifT rfl (bindB htk (bindB a1 (letB rfl (bindB (nApp_ok (by simp only [List.length_singleton]; omega) (by simp only [List.length_singleton]; omega)) (bindB hdp (bindB (nApp_ok (by simp only [List.length_append, List.length_singleton]; omega) (by simp only [List.length_append, List.length_singleton]; omega)) rfl))))))))))))), ?_⟩
    simp only [List.length_append, List.length_singleton, List.length_take, List.length_drop]; omega
  · have b1 : (q == 0) = false := by simpa using h1
    have b2 : (q == 1) = false := by simpa using h2
    have b3 : (q == 2) = false := by simpa using h3
    exact ⟨b.take k, bindB h0 (bifF hne (bindB hk (letB rfl (bindB hq (bifF b1 (bifF b2 (bifF b3 (bindB htk rfl)))))))), by omega⟩
theorem awakeK : n7 400 () = some true := by kernel_rfl
theorem awake' {N : Nat} (h : 400 ≤ N) : n7 N () = some true := nfN_mono (T := TN) h 7 () true awakeK
theorem printP_len {l : List Cm} {m : List Lg} (h1 : l.length ≤ 4) (h2 : m.length ≤ 3) : (printP l m).length ≤ 231 := by
  unfold printP
  split
  · rename_i h
    obtain ⟨a, b⟩ := vld_u h
    have := prt_len a b
    omega
  · exact Nat.zero_le _
theorem res_len {s : List UInt8} {o : Option (List Cm × List Lg)} : (res s o).1.length ≤ 64 ∧ (res s o).2.1.length ≤ 64 := by
  unfold res
  split
  · split
    · rename_i h
      have h := h.1
      rw [Bool.and_eq_true] at h
      exact ⟨vld_len h.1, vld_len h.2⟩
    · exact ⟨Nat.zero_le _, Nat.zero_le _⟩
  · exact ⟨Nat.zero_le _, Nat.zero_le _⟩
theorem texts (N : Nat) (hN : 300000 < N) {s : List UInt8} {a : List Cm} {b : List Lg} {l : List Int} {at' by' : Int} (h : l.length ≤ 9223372036854775807) : n3 (N + 200) (s, a, b, l, at', by') = some true := by
  rw [e3]
  by_cases h1 : nLen s > 600
  · exact letB (v := true) (decide_eq_true h1) (letB rfl (letB rfl (letB (v := true) rfl (bifT rfl (bindB (awake' (by omega)) rfl)))))
  by_cases h2 : nLen a > 80
  · exact letB (v := false) (decide_eq_false h1) (letB (v := true) (decide_eq_true h2) (letB rfl (letB (v := true) rfl (bifT rfl (bindB (awake' (by omega)) rfl)))))
  by_cases h3 : nLen b > 80
  · exact letB (v := false) (decide_eq_false h1) (letB (v := false) (decide_eq_false h2) (letB (v := true) (decide_eq_true h3) (letB (v := true) rfl (bifT rfl (bindB (awake' (by omega)) rfl)))))
  have ls : s.length ≤ 600 := by unfold nLen at h1; omega
  have la : a.length ≤ 80 := by unfold nLen at h2; omega
  have lb : b.length ≤ 80 := by unfold nLen at h3; omega
  have g8 : n8 (N + 199) l = some (l, 0) := e8 (N + 198) l
  obtain ⟨c, m, d', g9, lc, lm⟩ := deck_ok (N + 129) (by omega) (DK0 h)
  have pr : ∀ {x : List Cm} {y : List Lg}, x.length ≤ 80 → y.length ≤ 80 → n10 (N + 199) (x, y) = some (printP x y) := fun hx hy => print_r (N + 139) (by omega) (by omega) (by omega) (by omega) (by omega)
  have pp : ∀ {x : List Cm} {y : List Lg}, x.length ≤ 80 → y.length ≤ 80 → n11 (N + 199) (x, y) = some (printP x y) := fun hx hy => print_p (N + 139) (by omega) (by omega) (by omega) (by omega) (by omega)
  have lt := printP_len lc lm
  have p7 := pr (x := c) (y := m) (by omega) (by omega)
  have p10 := pp (x := c) (y := m) (by omega) (by omega)
  refine letB (v := false) (decide_eq_false h1) (letB (v := false) (decide_eq_false h2) (letB (v := false) (decide_eq_false h3) (letB (v := false) rfl (bifF rfl (bindB g8 (bindB g9 (bindB p7 (bindB (pp la lb) (bindB (pr la lb) (bindB (v := printP c m) (bifT (by simp) p10) (letB (v := false) (by simp) (bifF rfl ?_))))))))))))
  generalize printP c m = t at *
  have hbl : (nBytes t).length = t.length := by unfold nBytes; rw [List.length_map]
  have htb : nToBytes t = some (nBytes t) := if_pos (by omega)
  obtain ⟨r, hr, hrl⟩ := spoilt_ok (N + 197) (b := nBytes t) (by omega) at' by'
  refine bindB htb (bindB hr (bindB (cat_ok (by simp; omega)) (bindB (cat_ok (by simp; omega)) (bindB (cat_ok (by simp; omega)) (letB rfl (jB ?_))))))
  generalize hts : ([s, t, nStr r, t ++ [32, 54, 53, 53, 51, 53, 58, 54, 53, 53, 51, 53], [48, 58, 48, 32] ++ t, t ++ [32, 49, 58, 50, 58, 51, 58, 52], [54, 53, 53, 51, 54, 58, 49], [48, 49, 58, 49]] : List (List UInt8)) = ts
  have hlen : ∀ w ∈ ts, w.length ≤ 3000 := by
    subst hts
    intro w hw
    simp only [List.mem_cons, List.not_mem_nil, or_false] at hw
    rcases hw with rfl | rfl | rfl | rfl | rfl | rfl | rfl | rfl
    · omega
    · omega
    · rw [nStr_length]; omega
    all_goals (simp; try omega)
  have ln : ts.length = 8 := by subst hts; rfl
  refine loopN_seq' (fun i => ((ts, nLen ts, (i : Int)) : (List (List UInt8) × (Int × Int)))) 8 rfl (fun i hi => ?_) ?_ (by omega)
  · have hx := nIdx_getD (ws := ts) (i := i) [] (by omega)
    have hw := getD_len hlen i
    have p1 := parse_p (N + 99) (by omega) hw
    have p2 := parse_r (N + 99) (by omega) hw
    rw [← res_same] at p2
    obtain ⟨k1, k2⟩ := res_len (s := ts.getD i []) (o := parse0 pnP (Lib.fieldsD (ts.getD i [])))
    have q1 := same_c (N + 198) (l := (res (ts.getD i []) (parse0 pnP (Lib.fieldsD (ts.getD i [])))).1) (by omega) (by omega)
    have q2 := same_l (N + 198) (l := (res (ts.getD i []) (parse0 pnP (Lib.fieldsD (ts.getD i [])))).2.1) (by omega) (by omega)
    exact bifT (decide_eq_true (show (i : Int) < nLen ts by unfold nLen; omega)) (bindB hx (bindB p1 (bindB p2 (bindB q1 (bindB (bifT rfl q2) (letB (v := false) rfl (letB (v := false) (bifF rfl (bne_self_eq_false _)) (bifF rfl (letB (v := ((i + 1 : Nat) : Int)) (wv _ (show (i : Int) + 1 = ((i + 1 : Nat) : Int) by omega) (by omega) (by omega)) rfl)))))))))
  · exact bifF (decide_eq_false (show ¬ ((8 : Nat) : Int) < nLen ts by unfold nLen; omega)) (leaveB (bindB (awake' (by omega)) rfl))
end Go.Proofs.YtghpknbkecolnaaGreatDoor
