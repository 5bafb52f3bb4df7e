/- Chapter 02, plainly: prefixes made bytewise, containment, last addresses, bits, the order, the deck's prefixes. -/
import Derived.Test.YtlgnmgbnbomckaaGreatDoorPA
namespace Go.Proofs.YtlgnmgbnbomckaaGreatDoor
open Go.VM
set_option maxRecDepth 10000
theorem fst_val (a:Ad) (n:Nat):val (fst a n)=fl (val a) (W a.1 - n):=val_mk
theorem fst_ok {a:Ad} (h:OkA a) (n:Nat):OkA (fst a n):=by
 have hr:=h.rng
 have:=fl_le (val a) (W a.1 - n)
 have h0:=fl_nonneg hr.1 (W a.1 - n)
 exact OkA.mk h0 (by omega)
theorem PK_fst {a:Ad} (h:OkA a) {n:Int} (h0:0≤n) (h1:n≤(W a.1:Int)):PK (fst a n.toNat,n) :=
 ⟨fst_ok h _,h0,h1,by rw [fst_val]; exact fl_fl (Nat.le_refl _)⟩
theorem mkP_ok {a:Ad} (h:OkA a) {n:Int} (h0:0≤n) (h1:n≤(W a.1:Int)):mkP a n=((fst a n.toNat,n),0):=by
 unfold mkP
 rw [if_neg (by rw [h.valid]; simp),if_neg (by omega)]
/-- Bytes of an address with bits changed from n on. -/
theorem from_be (N:Nat) {f:Bool} {v:Int} (h0:0≤v) (h1:v < lim f) (w:Nat) (hw:8 * w=W f):n59 (N+20) (beI w v)=some (mkA f v,0):=by
 have hw':w=16∧f=true∨w=4∧f=false:=by
  cases f
  · right
    have:W false=32:=rfl
    exact ⟨by omega,rfl⟩
  · left
    have:W true=128:=rfl
    exact ⟨by omega,rfl⟩
 have:=from_ok N (l:=beI w v) (beI_rng _ _) (by rw [beI_length]; omega)
 rw [this,beI_length,ofB_beI]
 have hl:lim f=256 ^ w:=by rcases hw' with ⟨rfl,rfl⟩ | ⟨rfl,rfl⟩ <;> decide
 rw [Int.emod_eq_of_lt h0 (by rw [← hl]; exact h1)]
 rcases hw' with ⟨rfl,rfl⟩ | ⟨rfl,rfl⟩ <;> rfl
theorem make_r (N:Nat) {a:Ad} (h:AD a) (n:Int):n26 (N+200) (a,n)=some (mkP a n):=by
 rw [e26]
 unfold mkP
 refine bindB (valid_eq (N+198) a).2 ?_
 cases hv:valid a with
 | false=>exact bifT rfl rfl
 | true =>
  have ho:=valid_ok h hv
  rw [if_neg (by simp)]
  refine bifF rfl ?_
  by_cases h0:n < 0
  · rw [if_pos (.inl h0)]
    exact bindB (bifF (by rw [decide_eq_true h0]; rfl) rfl) (letB (bifT (decide_eq_true h0) rfl) (bifT rfl rfl))
  · refine bindB (bifT (by rw [decide_eq_false h0]; rfl) (width_eq (N+198) a).2) (letB (bifF (decide_eq_false h0) rfl) ?_)
    by_cases h1:n > (W a.1:Int)
    · rw [if_pos (.inr h1)]
      exact bifT (decide_eq_true h1) rfl
    · rw [if_neg (by rintro (h | h); exact h0 h; exact h1 h)]
      obtain ⟨n,rfl⟩:=Int.eq_ofNat_of_zero_le (show 0≤n by omega)
      rw [Int.toNat_natCast]
      have hb:bytesA a=beI (wid a) (val a):=by unfold bytesA; rw [hv]; rfl
      have hw:=W_wid a
      have hWc:=W_cases a.1
      have hr:=ho.rng
      have fin:=fst_ok ho n
      have finv:=fst_val a n
      have hfl:=fl_le (val a) (W a.1 - n)
      have hf0:=fl_nonneg hr.1 (W a.1 - n)
      refine bifF (decide_eq_false h1) (bindB (bytes2 (N+179) h) (jB ?_))
      rw [hb]
      generalize hwv:wid a=w at *
      refine loopN_seq' (s:=fun k=>((n:Int),((((false,0,0):Ad),(0:Int)):Pf),beI w (fl (val a) (8 * w - n)+val a % 2 ^ (8 * w - (n+k))),((n+k:Nat):Int))) (8 * w - n) ?_ (fun k hk=>?_) ?_ (m:=N+199) (by omega)
      · have:fl (val a) (8 * w - n)+val a % 2 ^ (8 * w - (n+0))=val a:=by rw [Nat.add_zero,fl_eq]; omega
        rw [this]; rfl
      · have hlen:IntKind.i64.wrap ((8:Int) * aJO (beI w (fl (val a) (8 * w - n)+val a % 2 ^ (8 * w - (n+k)))))=((8 * w:Nat):Int):=wv _ (by unfold aJO; rw [beI_length]; omega) (by omega) (by omega)
        have hdiv:IntKind.i64.wrap (Int.tdiv ((n+k:Nat):Int) 8)=(((n+k) / 8:Nat):Int):=wv _ (by rw [Int.tdiv_eq_ediv_of_nonneg (by omega)]; omega) (by omega) (by omega)
        have hmod:Int.tmod ((n+k:Nat):Int) 8=(((n+k) % 8:Nat):Int):=by rw [Int.tmod_eq_emod_of_nonneg (by omega)]; omega
        have hg:aEU (beI w (fl (val a) (8 * w - n)+val a % 2 ^ (8 * w - (n+k)))) (((n+k) / 8:Nat):Int)=some ((fl (val a) (8 * w - n)+val a % 2 ^ (8 * w - (n+k))) / 256 ^ (w - 1 - (n+k) / 8) % 256):=by
         rw [aJo (by rw [beI_length]; omega),beI_get w _ _ (by omega)]
        have hsh:(if IntKind.u64.wrap (((n+k) % 8:Nat):Int) < 0 then none else some (aJP IntKind.u8 (128:Int) (IntKind.u64.wrap (((n+k) % 8:Nat):Int)).toNat))=some (aJP .u8 128 ((n+k) % 8)):=by
         rw [aJJ,Int.emod_eq_of_lt (by omega) (by omega),if_neg (by omega),Int.toNat_natCast]
        have hstep:=clear_step (val a) (w:=w) (n:=n) (i:=n+k) (by omega) (by omega)
        refine letB hlen (bifT (decide_eq_true (by show ((n+k:Nat):Int) < ((8 * w:Nat):Int); omega)) (letB hdiv (bindB hg (letB hmod (bindB hsh (letB rfl (bindB hg (letB (v:=((n+(k+1):Nat):Int)) (wv _ (by show ((n+k:Nat):Int)+1=_; omega) (by omega) (by omega)) ?_))))))))
        rw [aJZ]
        have:(beI w (fl (val a) (8 * w - n)+val a % 2 ^ (8 * w - (n+k)))).set ((((n+k) / 8:Nat):Int)).toNat (bits .andNot .u8 ((fl (val a) (8 * w - n)+val a % 2 ^ (8 * w - (n+k))) / 256 ^ (w - 1 - (n+k) / 8) % 256) (aJP .u8 128 ((n+k) % 8)))=beI w (fl (val a) (8 * w - n)+val a % 2 ^ (8 * w - (n+(k+1)))):=by
         rw [Int.toNat_natCast]; exact hstep
        exact congrArg (fun z=>some (Sum.inl ((n:Int),((((false,0,0):Ad),(0:Int)):Pf),z,((n+(k+1):Nat):Int)))) this
      · have e0:n+(8 * w - n)=8 * w:=by omega
        have hlen:IntKind.i64.wrap ((8:Int) * aJO (beI w (fl (val a) (8 * w - n)+val a % 2 ^ (8 * w - (n+(8 * w - n))))))=((8 * w:Nat):Int):=wv _ (by unfold aJO; rw [beI_length]; omega) (by omega) (by omega)
        have e1:fl (val a) (8 * w - n)+val a % 2 ^ (8 * w - (n+(8 * w - n)))=fl (val a) (W a.1 - n):=by
         rw [e0,Nat.sub_self,Int.pow_zero,Int.emod_one,hw]; omega
        refine letB hlen (bifF (decide_eq_false (by show ¬ ((n+(8 * w - n):Nat):Int) < ((8 * w:Nat):Int); omega)) (leaveB (bindB (v:=(fst a n,0)) ?_ rfl)))
        show n59 (N+199) (beI w (fl (val a) (8 * w - n)+val a % 2 ^ (8 * w - (n+(8 * w - n)))))=_
        rw [e1]
        exact from_be (N+179) hf0 (by omega) w hw
theorem valid_r (N:Nat) {p:Pf} (h:AD p.1):n39 (N+201) p=some (okP p):=by
 rw [e39]
 refine bindB (make_r N h p.2) ?_
 unfold mkP okP
 cases hv:valid p.1 with
 | false=>rw [if_pos rfl]; rfl
 | true =>
  rw [if_neg (by simp)]
  by_cases h0:p.2 < 0∨p.2 > (W p.1.1:Int)
  · rw [if_pos h0,decide_eq_false (show ¬ (0≤p.2∧p.2≤(W p.1.1:Int)) by omega)]
    exact letB rfl (letB (bifF rfl rfl) rfl)
  · rw [if_neg h0,decide_eq_true (show 0≤p.2∧p.2≤(W p.1.1:Int) by omega)]
    refine letB rfl (letB (bifT rfl rfl) ?_)
    rw [aIF]
    show some (((p.1.1==(fst p.1 p.2.toNat).1)&&((p.1.2.1==(fst p.1 p.2.toNat).2.1)&&(p.1.2.2==(fst p.1 p.2.toNat).2.2)))&&(p.2==p.2))=_
    rw [ad_beq,beq_self_eq_true,Bool.and_true]
    congr 1
    rw [Bool.true_and,Bool.true_and,decide_eq_decide]
    exact eq_comm
/-- An address lies in a prefix. -/
def cont (p:Pf) (a:Ad):Bool:=decide (0≤p.2∧p.2≤(W a.1:Int))&&decide (fst a p.2.toNat=p.1)
theorem contains_p (N:Nat) {p:Pf} {a:Ad} (h:AD a):n19 (N+4) (p,a)=some (cont p a):=by
 rw [e19]
 unfold cont
 have hne:p.1.1≠a.1→decide (fst a p.2.toNat=p.1)=false:=fun hn=>decide_eq_false fun e=>hn (by rw [← e]; rfl)
 by_cases hf:p.1.1=a.1
 · have e1:(false != (p.1.1==a.1))=true:=by rw [hf]; simp
   by_cases h0:0≤p.2
   · refine letB (v:=true) (by rw [e1]; exact decide_eq_true h0) (bindB (bifT rfl (width_eq (N+2) a).1) (letB (bifT rfl rfl) ?_))
     by_cases h1:p.2≤(W a.1:Int)
     · have hfi:=first_eq (N+1) h (n:=p.2.toNat) (by omega)
       rw [Int.toNat_of_nonneg h0] at hfi
       refine bindB (bifT (decide_eq_true h1) hfi) (letB rfl ?_)
       rw [aIF,ad_beq,decide_eq_true h1,decide_eq_true (show 0≤p.2∧p.2≤(W a.1:Int) from ⟨h0,h1⟩)]
       rfl
     · refine bindB (bifF (decide_eq_false h1) rfl) (letB rfl ?_)
       rw [decide_eq_false h1,decide_eq_false (show ¬ (0≤p.2∧p.2≤(W a.1:Int)) from fun h=>h1 h.2)]
       rfl
   · refine letB (v:=false) (by rw [e1]; exact decide_eq_false h0) (bindB (bifF rfl rfl) (letB (bifF rfl rfl) (bindB (bifF rfl rfl) (letB rfl ?_))))
     rw [decide_eq_false (show ¬ (0≤p.2∧p.2≤(W a.1:Int)) from fun h=>h0 h.1)]
     rfl
 · have e1:(false != (p.1.1==a.1))=false:=by simp [hf]
   refine letB (v:=false) (by rw [e1]; rfl) (bindB (bifF rfl rfl) (letB (bifF rfl rfl) (bindB (bifF rfl rfl) (letB rfl ?_))))
   rw [hne hf,Bool.and_false]
   rfl
theorem contains_r (N:Nat) {p:Pf} {a:Ad} (h:OkA a):n28 (N+201) (p,a)=some (cont p a):=by
 rw [e28]
 refine bindB (make_r N h.ad p.2) ?_
 unfold mkP cont
 rw [if_neg (by rw [h.valid]; simp)]
 by_cases h0:p.2 < 0∨p.2 > (W a.1:Int)
 · rw [if_pos h0,decide_eq_false (show ¬ (0≤p.2∧p.2≤(W a.1:Int)) by omega)]
   exact letB rfl (letB (bifF rfl rfl) rfl)
 · rw [if_neg h0,decide_eq_true (show 0≤p.2∧p.2≤(W a.1:Int) by omega)]
   refine letB rfl (letB (bifT rfl rfl) ?_)
   rw [aIF]
   show some ((((fst a p.2.toNat).1==p.1.1)&&(((fst a p.2.toNat).2.1==p.1.2.1)&&((fst a p.2.toNat).2.2==p.1.2.2)))&&(p.2==p.2))=_
   rw [ad_beq,beq_self_eq_true,Bool.and_true]
   rfl
/-- One prefix is a part of another one. -/
def cov (p q:Pf):Bool:=decide (p.2≤q.2)&&cont p q.1
theorem covers_p (N:Nat) {p q:Pf} (h:AD q.1):n30 (N+5) (p,q)=some (cov p q):=by
 rw [e30]
 refine bindB (bC (contains_p N h) rfl) (letB rfl ?_)
 unfold cov
 show some (bif decide (q.2≥p.2) then bif decide (q.2≥p.2) then cont p q.1 else false else false)=_
 show some (bif decide (p.2≤q.2) then bif decide (p.2≤q.2) then cont p q.1 else false else false)=_
 cases decide (p.2≤q.2) <;> rfl
theorem covers_r (N:Nat) {p q:Pf} (h:OkA q.1):n31 (N+202) (p,q)=some (cov p q):=by
 rw [e31]
 refine bindB (bC (contains_r N h) rfl) (letB rfl ?_)
 unfold cov
 show some (bif decide (p.2≤q.2) then bif decide (p.2≤q.2) then cont p q.1 else false else false)=_
 cases decide (p.2≤q.2) <;> rfl
/-- The last address. -/
def lst (p:Pf):Ad:=mkA p.1.1 (val p.1+(2 ^ (W p.1.1 - p.2.toNat) - 1))
theorem pow_lim {f:Bool} {k:Nat} (hk:k≤W f) {v:Int} (h0:0≤v) (h1:v < lim f) (hv:fl v k=v):v+(2 ^ k - 1) < lim f:=by
 rw [lim_W] at h1 ⊢
 obtain ⟨q,hq⟩:=fl_dvd v k
 rw [hv] at hq
 obtain ⟨r,hr⟩:=p2_dvd hk
 have hp:=p2 k
 rw [hr] at h1 ⊢
 rw [hq] at h1 ⊢
 have:q < r:=Int.lt_of_mul_lt_mul_left h1 (Int.le_of_lt hp)
 have h2:(2:Int) ^ k * (q+1)≤2 ^ k * r:=Int.mul_le_mul_of_nonneg_left (by omega) (Int.le_of_lt hp)
 rw [Int.mul_add,Int.mul_one] at h2
 omega
theorem lst_ok {p:Pf} (h:PK p):OkA (lst p):=by
 obtain ⟨h1,h2,h3,h4⟩:=h
 have hr:=h1.rng
 have hp:=p2 (W p.1.1 - p.2.toNat)
 exact OkA.mk (by omega) (pow_lim (by omega) hr.1 hr.2 h4)
theorem lst_val (p:Pf):val (lst p)=val p.1+(2 ^ (W p.1.1 - p.2.toNat) - 1):=val_mk
theorem last_p (N:Nat) {p:Pf} (h:PK p):n17 (N+5) p=some (lst p):=by
 rw [e17]
 have hok:=(okP_iff h.1.ad).2 h
 obtain ⟨h1,h2,h3,h4⟩:=h
 have hW:=W_cases p.1.1
 have hv:=valid_p N (p:=p) h1.ad
 rw [hok] at hv
 have hk:IntKind.i64.wrap ((W p.1.1:Int) - p.2)=((W p.1.1 - p.2.toNat:Nat):Int):=wv _ (by omega) (by omega) (by omega)
 have hm:=masks_eq (N+3) (k:=W p.1.1 - p.2.toNat) (by omega)
 refine bindB hv (bifF rfl (bindB (width_eq (N+3) p.1).1 (letB hk (bindB hm ?_))))
 obtain ⟨hx,hy,_⟩:=h1
 unfold lst
 have hk8:W p.1.1 - p.2.toNat≤128:=by omega
 generalize W p.1.1 - p.2.toNat=k at *
 obtain ⟨⟨f,x,y⟩,n⟩:=p
 simp only [val] at *
 by_cases h:64 < k
 · rw [fl_split_hi hy (by omega)] at h4
   have hy0:y=0:=by
    have hd:fl x (k - 64)≤x:=(fl_le x _).1
    obtain ⟨hy1,hy2⟩:=hy
    omega
   have hx0:fl x (k - 64)=x:=by omega
   subst hy0
   have hpow:(2:Int) ^ k=2 ^ (k - 64) * 18446744073709551616:=by
    rw [← p2_64,← Int.pow_add]; congr 1; omega
   rw [if_pos h]
   refine letB (orMask64 (k - 64) hx (by omega)) (letB (v:=18446744073709551615) ?_ ?_)
   · have:=orMask64 64 (a:=0) ⟨by omega,by omega⟩ (by omega)
     rw [p2_64,fl64 ⟨by omega,by omega⟩] at this
     exact this
   · rw [hx0,hpow,show x * 18446744073709551616+0+(2 ^ (k - 64) * 18446744073709551616 - 1)=(x+(2 ^ (k - 64) - 1)) * 18446744073709551616+18446744073709551615 by generalize (2:Int) ^ (k - 64)=P; omega,mkA_pair ⟨by omega,by omega⟩]
 · rw [fl_split_lo hy (by omega)] at h4
   have hy0:fl y k=y:=by omega
   rw [if_neg h]
   refine letB (v:=x) ?_ (letB (orMask64 k hy (by omega)) ?_)
   · have:=orMask64 0 hx (by omega)
     rw [fl_zero,Int.pow_zero] at this
     exact this.trans (by omega)
   · have hp:=p2 k
     have hlt:y+(2 ^ k - 1) < 18446744073709551616:=by
      have h64:=@pow_lim true (k:=k) (by show k≤128; omega) (v:=y) hy.1 (by have:=hy.2; simp only [lim,if_true]; omega) hy0
      obtain ⟨q,hq⟩:=fl_dvd y k
      obtain ⟨r,hr⟩:=p2_dvd (j:=k) (k:=64) (by omega)
      rw [hy0] at hq
      have hy2:=hy.2
      rw [← p2_64,hr,hq] at hy2
      have:q < r:=Int.lt_of_mul_lt_mul_left hy2 (Int.le_of_lt hp)
      have h2:(2:Int) ^ k * (q+1)≤2 ^ k * r:=Int.mul_le_mul_of_nonneg_left (by omega) (Int.le_of_lt hp)
      rw [Int.mul_add,Int.mul_one] at h2
      rw [← p2_64,hr]
      omega
     rw [hy0,show x * 18446744073709551616+y+(2 ^ k - 1)=x * 18446744073709551616+(y+(2 ^ k - 1)) by omega,mkA_pair ⟨by have:=hy.1; omega,hlt⟩]
theorem last_r (N:Nat) {p:Pf} (h:PK p):n29 (N+200) p=some (lst p):=by
 rw [e29]
 have hlo:=lst_ok h
 have hlv:=lst_val p
 obtain ⟨h1,h2,h3,h4⟩:=h
 have hv:=h1.valid
 have hb:bytesA p.1=beI (wid p.1) (val p.1):=by unfold bytesA; rw [hv]; rfl
 have hw:=W_wid p.1
 have hWc:=W_cases p.1.1
 have hr:=h1.rng
 obtain ⟨n,hn⟩:=Int.eq_ofNat_of_zero_le h2
 rw [hn] at h3 h4 hlv ⊢
 rw [Int.toNat_natCast] at h4 hlv
 have hmm:mmT true (0:Int) (n:Int)=((n+0:Nat):Int):=by
  unfold mmT
  simp only [if_true]
  split <;> omega
 refine bindB (bytes2 (N+179) h1.ad) (jB ?_)
 rw [hb,hmm]
 have hlt:val (lst p) < lim p.1.1:=hlo.rng.2
 rw [hlv] at hlt
 generalize hwv:wid p.1=w at *
 have hp0:=p2 (W p.1.1 - n)
 refine loopN_seq' (s:=fun k=>(((false,0,0):Ad),beI w (fl (val p.1) (8 * w - n)+(2 ^ (8 * w - n) - 2 ^ (8 * w - (n+k)))+val p.1 % 2 ^ (8 * w - (n+k))),((n+k:Nat):Int))) (8 * w - n) ?_ (fun k hk=>?_) ?_ (m:=N+199) (by omega)
 · have:fl (val p.1) (8 * w - n)+(2 ^ (8 * w - n) - 2 ^ (8 * w - (n+0)))+val p.1 % 2 ^ (8 * w - (n+0))=val p.1:=by rw [Nat.add_zero,fl_eq]; omega
   rw [this]
 · have hlen:IntKind.i64.wrap ((8:Int) * aJO (beI w (fl (val p.1) (8 * w - n)+(2 ^ (8 * w - n) - 2 ^ (8 * w - (n+k)))+val p.1 % 2 ^ (8 * w - (n+k)))))=((8 * w:Nat):Int):=wv _ (by unfold aJO; rw [beI_length]; omega) (by omega) (by omega)
   have hdiv:IntKind.i64.wrap (Int.tdiv ((n+k:Nat):Int) 8)=(((n+k) / 8:Nat):Int):=wv _ (by rw [Int.tdiv_eq_ediv_of_nonneg (by omega)]; omega) (by omega) (by omega)
   have hmod:IntKind.u64.wrap (Int.tmod ((n+k:Nat):Int) 8)=(((n+k) % 8:Nat):Int):=by
    rw [Int.tmod_eq_emod_of_nonneg (by omega),aJJ]; omega
   have hg:aEU (beI w (fl (val p.1) (8 * w - n)+(2 ^ (8 * w - n) - 2 ^ (8 * w - (n+k)))+val p.1 % 2 ^ (8 * w - (n+k)))) (((n+k) / 8:Nat):Int)=some ((fl (val p.1) (8 * w - n)+(2 ^ (8 * w - n) - 2 ^ (8 * w - (n+k)))+val p.1 % 2 ^ (8 * w - (n+k))) / 256 ^ (w - 1 - (n+k) / 8) % 256):=by
    rw [aJo (by rw [beI_length]; omega),beI_get w _ _ (by omega)]
   have hsh:(if (((n+k) % 8:Nat):Int) < 0 then none else some (aJP IntKind.u8 (128:Int) ((((n+k) % 8:Nat):Int)).toNat))=some (aJP .u8 128 ((n+k) % 8)):=by
    rw [if_neg (by omega),Int.toNat_natCast]
   have hstep:=set_step (val p.1) (w:=w) (n:=n) (i:=n+k) (by omega) (by omega)
   refine letB hlen (bifT (decide_eq_true (by show ((n+k:Nat):Int) < ((8 * w:Nat):Int); omega)) (letB hdiv (bindB hg (letB hmod (bindB hsh (bindB hg (letB (v:=beI w (fl (val p.1) (8 * w - n)+(2 ^ (8 * w - n) - 2 ^ (8 * w - (n+(k+1))))+val p.1 % 2 ^ (8 * w - (n+(k+1))))) ?_ (letB (v:=((n+(k+1):Nat):Int)) (wv _ (by show ((n+k:Nat):Int)+1=_; omega) (by omega) (by omega)) rfl))))))))
   show (beI w _).set ((((n+k) / 8:Nat):Int)).toNat _=_
   rw [Int.toNat_natCast]
   exact hstep
 · have e0:n+(8 * w - n)=8 * w:=by omega
   have hlen:IntKind.i64.wrap ((8:Int) * aJO (beI w (fl (val p.1) (8 * w - n)+(2 ^ (8 * w - n) - 2 ^ (8 * w - (n+(8 * w - n))))+val p.1 % 2 ^ (8 * w - (n+(8 * w - n))))))=((8 * w:Nat):Int):=wv _ (by unfold aJO; rw [beI_length]; omega) (by omega) (by omega)
   have e1:fl (val p.1) (8 * w - n)+(2 ^ (8 * w - n) - 2 ^ (8 * w - (n+(8 * w - n))))+val p.1 % 2 ^ (8 * w - (n+(8 * w - n)))=val p.1+(2 ^ (W p.1.1 - n) - 1):=by
    rw [e0,Nat.sub_self,Int.pow_zero,Int.emod_one,hw,h4]; omega
   refine letB hlen (bifF (decide_eq_false (by show ¬ ((n+(8 * w - n):Nat):Int) < ((8 * w:Nat):Int); omega)) (leaveB (bindB (v:=(lst p,0)) ?_ rfl)))
   show n59 (N+199) (beI w (fl (val p.1) (8 * w - n)+(2 ^ (8 * w - n) - 2 ^ (8 * w - (n+(8 * w - n))))+val p.1 % 2 ^ (8 * w - (n+(8 * w - n)))))=_
   rw [e1]
   have:lst p=mkA p.1.1 (val p.1+(2 ^ (W p.1.1 - n) - 1)):=by unfold lst; rw [hn,Int.toNat_natCast]
   rw [this]
   exact from_be (N+179) (by omega) hlt w hw
end Go.Proofs.YtlgnmgbnbomckaaGreatDoor
