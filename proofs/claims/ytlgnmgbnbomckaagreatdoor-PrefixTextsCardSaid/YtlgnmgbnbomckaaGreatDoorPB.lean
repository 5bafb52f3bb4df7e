/- Chapter 02, plainly: prefixes made bytewise, containment, last addresses, bits, the order, the deck's prefixes. -/
import Derived.Test.YtlgnmgbnbomckaaGreatDoorPA
namespace Go.Proofs.YtlgnmgbnbomckaaGreatDoor
open Go.VM
set_option maxRecDepth 10000
theorem fst_val (a:Ad) (n:Nat):val (fst a n)=fl (val a) (W a.1 - n):=val_mk
theorem fst_ok {a:Ad} (h:OkA a) (n:Nat):OkA (fst a n):=by
 have hr:=h.rng
 have:=fl_le (val a) (W a.1 - n)
 have h0:=fl_nonneg hr.1 (W a.1 - n)
 exact OkA.mk h0 (by omega)
theorem PK_fst {a:Ad} (h:OkA a) {n:Int} (h0:0≤n) (h1:n≤(W a.1:Int)):PK (fst a n.toNat,n) :=
 ⟨fst_ok h _,h0,h1,by rw [fst_val]; exact fl_fl (Nat.le_refl _)⟩
theorem mkP_ok {a:Ad} (h:OkA a) {n:Int} (h0:0≤n) (h1:n≤(W a.1:Int)):mkP a n=((fst a n.toNat,n),0):=by
 unfold mkP
 rw [if_neg (by rw [h.valid]; simp),if_neg (by omega)]
/-- Bytes of an address with bits changed from n on. -/
theorem from_be (N:Nat) {f:Bool} {v:Int} (h0:0≤v) (h1:v < lim f) (w:Nat) (hw:8 * w=W f):n59 (N+20) (beI w v)=some (mkA f v,0):=by
 have hw':w=16∧f=true∨w=4∧f=false:=by
  cases f
  · right
    have:W false=32:=rfl
    exact ⟨by omega,rfl⟩
  · left
    have:W true=128:=rfl
    exact ⟨by omega,rfl⟩
 have:=from_ok N (l:=beI w v) (beI_rng _ _) (by rw [beI_length]; omega)
 rw [this,beI_length,ofB_beI]
 have hl:lim f=256 ^ w:=by rcases hw' with ⟨rfl,rfl⟩ | ⟨rfl,rfl⟩ <;> decide
 rw [Int.emod_eq_of_lt h0 (by rw [← hl]; exact h1)]
 rcases hw' with ⟨rfl,rfl⟩ | ⟨rfl,rfl⟩ <;> rfl
theorem make_r (N:Nat) {a:Ad} (h:AD a) (n:Int):n26 (N+200) (a,n)=some (mkP a n):=by
 rw [e26]
 unfold mkP
 refine bindB (valid_eq (N+198) a).2 ?_
 cases hv:valid a with
 | false=>exact bifT rfl rfl
 | true =>
  have ho:=valid_ok h hv
  rw [if_neg (by simp)]
  refine bifF rfl ?_
  by_cases h0:n < 0
  · rw [if_pos (.inl h0)]
    exact bindB (bifF (by rw [decide_eq_true h0]; rfl) rfl) (letB (bifT (decide_eq_true h0) rfl) (bifT rfl rfl))
  · refine bindB (bifT (by rw [decide_eq_false h0]; rfl) (width_eq (N+198) a).2) (letB (bifF (decide_eq_false h0) rfl) ?_)
    by_cases h1:n > (W a.1:Int)
    · rw [if_pos (.inr h1)]
      exact bifT (decide_eq_true h1) rfl
    · rw [if_neg (by rintro (h | h); exact h0 h; exact h1 h)]
      obtain ⟨n,rfl⟩:=Int.eq_ofNat_of_zero_le (show 0≤n by omega)
      rw [Int.toNat_natCast]
      have hb:bytesA a=beI (wid a) (val a):=by unfold bytesA; rw [hv]; rfl
      have hw:=W_wid a
      have hWc:=W_cases a.1
      have hr:=ho.rng
      have fin:=fst_ok ho n
      have finv:=fst_val a n
      have hfl:=fl_le (val a) (W a.1 - n)
      have hf0:=fl_nonneg hr.1 (W a.1 - n)
      refine bifF (decide_eq_false h1) (bindB (bytes2 (N+179) h) (jB ?_))
      rw [hb]
      generalize hwv:wid a=w at *
      refine loopN_seq' (s:=fun k=>((n:Int),((((false,0,0):Ad),(0:Int)):Pf),beI w (fl (val a) (8 * w - n)+val a % 2 ^ (8 * w - (n+k))),((n+k:Nat):Int))) (8 * w - n) ?_ (fun k hk=>?_) ?_ (m:=N+199) (by omega)
      · have:fl (val a) (8 * w - n)+val a % 2 ^ (8 * w - (n+0))=val a:=by rw [Nat.add_zero,fl_eq]; omega
        rw [this]; rfl
      · have hlen:IntKind.i64.wrap ((8:Int) * aJO (beI w (fl (val a) (8 * w - n)+val a % 2 ^ (8 * w - (n+k)))))=((8 * w:Nat):Int):=wv _ (by unfold aJO; rw [beI_length]; omega) (by omega) (by omega)
        have hdiv:IntKind.i64.wrap (Int.tdiv ((n+k:Nat):Int) 8)=(((n+k) / 8:Nat):Int):=wv _ (by rw [Int.tdiv_eq_ediv_of_nonneg (by omega)]; omega) (by omega) (by omega)
        have hmod:Int.tmod ((n+k:Nat):Int) 8=(((n+k) % 8:Nat):Int):=by rw [Int.tmod_eq_emod_of_nonneg (by omega)]; omega
        have hg:aEU (beI w (fl (val a) (8 * w - n)+val a % 2 ^ (8 * w - (n+k)))) (((n+k) / 8:Nat):Int)=some ((fl (val a) (8 * w - n)+val a % 2 ^ (8 * w - (n+k))) / 256 ^ (w - 1 - (n+k) / 8) % 256):=by
         rw [aJo (by rw [beI_length]; omega),beI_get w _ _ (by omega)]
        have hsh:(if IntKind.u64.wrap (((n+k) % 8:Nat):Int) < 0 then none else some (aJP IntKind.u8 (128:Int) (IntKind.u64.wrap (((n+k) % 8:Nat):Int)).toNat))=some (aJP .u8 128 ((n+k) % 8)):=by
         rw [aJJ,Int.emod_eq_of_lt (by omega) (by omega),if_neg (by omega),Int.toNat_natCast]
        have hstep:=clear_step (val a) (w:=w) (n:=n) (i:=n+k) (by omega) (by omega)
        refine letB hlen (bifT (decide_eq_true (by show ((n+k:Nat):Int) < ((8 * w:Nat):Int); omega)) (letB hdiv (bindB hg (letB hmod (bindB hsh (letB rfl (bindB hg (letB (v:=((n+(k+1):Nat):Int)) (wv _ (by show ((n+k:Nat):Int)+1=_; omega) (by omega) (by omega)) ?_))))))))
        rw [aJZ]
        have:(beI w (fl (val a) (8 * w - n)+val a % 2 ^ (8 * w - (n+k)))).set ((((n+k) / 8:Nat):Int)).toNat (bits .andNot .u8 ((fl (val a) (8 * w - n)+val a % 2 ^ (8 * w - (n+k))) / 256 ^ (w - 1 - (n+k) / 8) % 256) (aJP .u8 128 ((n+k) % 8)))=beI w (fl (val a) (8 * w - n)+val a % 2 ^ (8 * w - (n+(k+1)))):=by
         rw [Int.toNat_natCast]; exact hstep
        exact congrArg (fun z=>some (Sum.inl ((n:Int),((((false,0,0):Ad),(0:Int)):Pf),z,((n+(k+1):Nat):Int)))) this
      · have e0:n+(8 * w - n)=8 * w:=by omega
        have hlen:IntKind.i64.wrap ((8:Int) * aJO (beI w (fl (val a) (8 * w - n)+val a % 2 ^ (8 * w - (n+(8 * w - n))))))=((8 * w:Nat):Int):=wv _ (by unfold aJO; rw [beI_length]; omega) (by omega) (by omega)
        have e1:fl (val a) (8 * w - n)+val a % 2 ^ (8 * w - (n+(8 * w - n)))=fl (val a) (W a.1 - n):=by
         rw [e0,Nat.sub_self,Int.pow_zero,Int.emod_one,hw]; omega
        refine letB hlen (bifF (decide_eq_false (by show ¬ ((n+(8 * w - n):Nat):Int) < ((8 * w:Nat):Int); omega)) (leaveB (bindB (v:=(fst a n,0)) ?_ rfl)))
        show n59 (N+199) (beI w (fl (val a) (8 * w - n)+val a % 2 ^ (8 * w - (n+(8 * w - n)))))=_
        rw [e1]
        exact from_be (N+179) hf0 (by omega) w hw
theorem valid_r (N:Nat) {p:Pf} (h:AD p.1):n39 (N+201) p=some (okP p):=by
 rw [e39]
 refine bindB (make_r N h p.2) ?_
 unfold mkP okP
 cases hv:valid p.1 with
 | false=>rw [if_pos rfl]; rfl
 | true =>
  rw [if_neg (by simp)]
  by_cases h0:p.2 < 0∨p.2 > (W p.1.1:Int)
  · rw [if_pos h0,decide_eq_false (show ¬ (0≤p.2∧p.2≤(W p.1.1:Int)) by omega)]
    exact letB rfl (letB (bifF rfl rfl) rfl)
  · rw [if_neg h0,decide_eq_true (show 0≤p.2∧p.2≤(W p.1.1:Int) by omega)]
    refine letB rfl (letB (bifT rfl rfl) ?_)
    rw [aIF]
    show some (((p.1.1==(fst p.1 p.2.toNat).1)&&((p.1.2.1==(fst p.1 p.2.toNat).2.1)&&(p.1.2.2==(fst p.1 p.2.toNat).2.2)))&&(p.2==p.2))=_
    rw [ad_beq,beq_self_eq_true,Bool.and_true]
    congr 1
    rw [Bool.true_and,Bool.true_and,decide_eq_decide]
    exact eq_comm
end Go.Proofs.YtlgnmgbnbomckaaGreatDoor
