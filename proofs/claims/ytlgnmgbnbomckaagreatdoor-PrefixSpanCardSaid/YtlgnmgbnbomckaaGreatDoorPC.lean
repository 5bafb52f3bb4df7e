/- Chapter 02, plainly: bits, the order, halves, the deck's prefixes. -/
import Derived.Test.YtlgnmgbnbomckaaGreatDoorPB
namespace Go.Proofs.YtlgnmgbnbomckaaGreatDoor
open Go.VM
set_option maxRecDepth 10000
def bitA (a:Ad) (i:Int):Int:=if 0≤i∧i < (W a.1:Int) then bitI (val a) (W a.1 - 1 - i.toNat) else 0
theorem shr_hi {x y:Int} (hy:U64 y) {k:Nat} (hk:64≤k):(x * 18446744073709551616+y) / 2 ^ k=x / 2 ^ (k - 64):=by
 have e:(2:Int) ^ k=18446744073709551616 * 2 ^ (k - 64):=by rw [← p2_64,← Int.pow_add]; congr 1; omega
 rw [e,← Int.ediv_ediv_of_nonneg (by omega)]
 congr 1
 obtain ⟨h1,h2⟩:=hy
 omega
theorem shr_lo {x y:Int} {k:Nat} (hk:k≤64):(x * 18446744073709551616+y) / 2 ^ k=x * 2 ^ (64 - k)+y / 2 ^ k:=by
 have e:x * 18446744073709551616=x * 2 ^ (64 - k) * 2 ^ k:=by
  rw [Int.mul_assoc,← Int.pow_add,show 64 - k+k=64 by omega,p2_64]
 rw [e,Int.add_comm,Int.add_mul_ediv_right _ _ (Int.ne_of_gt (p2 k)),Int.add_comm]
theorem bitI_hi {x y:Int} (hy:U64 y) {k:Nat} (hk:64≤k):bitI (x * 18446744073709551616+y) k=x / 2 ^ (k - 64) % 2:=by
 unfold bitI; rw [shr_hi hy hk]
theorem bitI_lo {x y:Int} {k:Nat} (hk:k < 64):bitI (x * 18446744073709551616+y) k=y / 2 ^ k % 2:=by
 unfold bitI
 rw [shr_lo (by omega),show (64 - k)=(63 - k)+1 by omega,Int.pow_succ,← Int.mul_assoc]
 generalize x * 2 ^ (63 - k)=c
 omega
theorem bit_p (N:Nat) {a:Ad} (h:AD a) {i:Int} (hi:i≤9223372036854775807):n37 (N+2) (a,i)=some (bitA a i):=by
 rw [e37]
 have hW:=W_cases a.1
 have h1:IntKind.i64.wrap ((W a.1:Int) - 1)=(W a.1:Int) - 1:=wv _ rfl (by omega) (by omega)
 refine bindB (width_eq N a).1 (letB h1 ?_)
 unfold bitA
 by_cases h0:0≤i
 case neg =>
  rw [if_neg fun h=>h0 h.1]
  exact letB rfl (letB (v:=true) (bifT (decide_eq_true (by omega)) rfl) (bifT rfl rfl))
 have h2:IntKind.i64.wrap ((W a.1:Int) - 1 - i)=(W a.1:Int) - 1 - i:=wv _ rfl (by omega) (by omega)
 rw [h2]
 have hn0:decide (i < 0)=false:=decide_eq_false (by omega)
 by_cases h3:i < (W a.1:Int)
 case neg =>
  rw [if_neg fun h=>h3 h.2]
  exact letB (v:=true) (decide_eq_true (by omega)) (letB (v:=true) (bifF hn0 rfl) (bifT rfl rfl))
 rw [if_pos ⟨h0,h3⟩]
 obtain ⟨n,rfl⟩:=Int.eq_ofNat_of_zero_le h0
 rw [Int.toNat_natCast]
 obtain ⟨k,hk⟩:∃ k:Nat,k=W a.1 - 1 - n:=⟨_,rfl⟩
 have hk2:(W a.1:Int) - 1 - (n:Int)=(k:Int):=by omega
 rw [hk2,← hk]
 have hk3:k < 128:=by omega
 refine letB (v:=false) (decide_eq_false (by omega)) (letB (v:=false) (bifF hn0 rfl) (bifF rfl ?_))
 obtain ⟨f,x,y⟩:=a
 obtain ⟨hx,hy⟩:=h
 simp only [val] at *
 have sh:∀ (z:Int) (_:U64 z) (j:Nat),j < 64→bits .and .u64 (aJP .u64 z j) 1=z / 2 ^ j % 2:=fun z hz j hj=>by
  rw [shr64 (by omega) hz.1]
  have h1:0≤z / 2 ^ j:=Int.ediv_nonneg hz.1 (Int.le_of_lt (p2 j))
  have h2:z / 2 ^ j≤z:=Int.ediv_le_self _ hz.1
  have:=hz.2
  exact aKM h1 (by show _ < (18446744073709551616:Int); omega)
 by_cases h64:64≤k
 · have hsub:IntKind.i64.wrap ((k:Int) - 64)=((k - 64:Nat):Int):=wv _ (by omega) (by omega) (by omega)
   have hu:(if IntKind.u64.wrap ((k - 64:Nat):Int) < 0 then none else some (aJP IntKind.u64 x (IntKind.u64.wrap ((k - 64:Nat):Int)).toNat))=some (aJP .u64 x (k - 64)):=by
    rw [aJJ,Int.emod_eq_of_lt (by omega) (by omega),if_neg (by omega),Int.toNat_natCast]
   have hb:=sh x hx (k - 64) (by omega)
   refine letB (v:=true) (decide_eq_true (by omega)) (bifT rfl (letB hsub (bindB hu (letB hb ?_))))
   rw [bitI_hi hy h64,pV (by omega) (by omega)]
 · have hu0:IntKind.u64.wrap (k:Int)=(k:Int):=by rw [aJJ]; omega
   have hu:(if (k:Int) < 0 then none else some (aJP IntKind.u64 y (k:Int).toNat))=some (aJP .u64 y k):=by
    rw [if_neg (by omega),Int.toNat_natCast]
   have hb:=sh y hy k (by omega)
   refine letB (v:=false) (decide_eq_false (by omega)) (bifF rfl (letB hu0 (bindB hu (letB hb ?_))))
   rw [bitI_lo (by omega),pV (by omega) (by omega)]
theorem bit_r (N:Nat) {a:Ad} (h:OkA a) (i:Int):n40 (N+21) (a,i)=some (bitA a i):=by
 rw [e40]
 have hW:=W_cases a.1
 have hb:bytesA a=beI (wid a) (val a):=by unfold bytesA; rw [h.valid]; rfl
 have hw:=W_wid a
 refine bindB (bytes2 N h.ad) ?_
 rw [hb]
 have hlen:IntKind.i64.wrap ((8:Int) * aJO (beI (wid a) (val a)))=(W a.1:Int):=wv _ (by unfold aJO; rw [beI_length]; omega) (by omega) (by omega)
 refine letB hlen ?_
 unfold bitA
 by_cases h0:0≤i∧i < (W a.1:Int)
 case neg =>
  rw [if_neg h0]
  refine letB (v:=true) ?_ (bifT rfl rfl)
  by_cases h1:i < 0
  · exact bifT (decide_eq_true h1) rfl
  · exact bifF (decide_eq_false h1) (decide_eq_true (by omega))
 rw [if_pos h0]
 obtain ⟨h0,h3⟩:=h0
 refine letB (v:=false) (bifF (decide_eq_false (by omega)) (decide_eq_false (by omega))) (bifF rfl ?_)
 obtain ⟨n,rfl⟩:=Int.eq_ofNat_of_zero_le h0
 rw [Int.toNat_natCast]
 have hdiv:IntKind.i64.wrap (Int.tdiv (n:Int) 8)=((n / 8:Nat):Int):=wv _ (by rw [Int.tdiv_eq_ediv_of_nonneg (by omega)]; omega) (by omega) (by omega)
 have hmod:IntKind.u64.wrap (Int.tmod (n:Int) 8)=((n % 8:Nat):Int):=by
  rw [Int.tmod_eq_emod_of_nonneg (by omega),aJJ]; omega
 have hg:aEU (beI (wid a) (val a)) ((n / 8:Nat):Int)=some (val a / 256 ^ (wid a - 1 - n / 8) % 256):=by
  rw [aJo (by rw [beI_length]; omega),beI_get (wid a) _ _ (by omega)]
 have h7:IntKind.u64.wrap (7 - ((n % 8:Nat):Int))=((7 - n % 8:Nat):Int):=by rw [aJJ]; omega
 have hsh:(if ((7 - n % 8:Nat):Int) < 0 then none else some (aJP IntKind.u8 (val a / 256 ^ (wid a - 1 - n / 8) % 256) (((7 - n % 8:Nat):Int)).toNat))=some (aJP .u8 (val a / 256 ^ (wid a - 1 - n / 8) % 256) (7 - n % 8)):=by
  rw [if_neg (by omega),Int.toNat_natCast]
 have hbb:=byte_bit (val a) (n:=wid a) (i:=n) (by omega)
 rw [hw] at hbb
 have hq0:0≤val a / 256 ^ (wid a - 1 - n / 8) % 256:=by omega
 have hq1:val a / 256 ^ (wid a - 1 - n / 8) % 256 < 256:=by omega
 refine letB hdiv (bindB hg (letB hmod (letB h7 (bindB hsh (letB (v:=bitI (val a) (W a.1 - 1 - n)) ?_ rfl)))))
 generalize val a / 256 ^ (wid a - 1 - n / 8) % 256=q at *
 rw [aJ4 _ _ _ (by show 7 - n % 8≤8; omega),Int.fdiv_eq_ediv_of_nonneg _ (Int.le_of_lt (p2 _))]
 have d0:0≤q / 2 ^ (7 - n % 8):=Int.ediv_nonneg hq0 (Int.le_of_lt (p2 _))
 have d1:q / 2 ^ (7 - n % 8)≤q:=Int.ediv_le_self _ hq0
 rw [pV (by omega) (by omega),aKM d0 (by show _ < (18446744073709551616:Int); omega),hbb]
theorem bitA_rng (a:Ad) (i:Int):0≤bitA a i∧bitA a i≤1:=by
 unfold bitA
 split
 · exact bitI_rng _ _
 · omega
def cmpP (p q:Pf):Int:=if cmpA p.1 q.1≠0 then cmpA p.1 q.1 else sgn p.2 q.2
theorem or_two (N:Nat) (x y:Int):n62 (N+5) [x,y]=some (if x≠0 then x else y):=by
 rw [e62]
 simp only [aJY,aJO,List.length_cons,List.length_nil]
 simp only [eG,aKO]
 have i0:aEU [x,y] 0=some x:=rfl
 have i1:aEU [x,y] 1=some y:=rfl
 have w0:IntKind.i64.wrap (0+1)=1:=by decide
 have w1:IntKind.i64.wrap (1+1)=2:=by decide
 have d0:decide ((0:Int) < ((0+1+1:Nat):Int))=true:=by decide
 have d1:decide ((1:Int) < ((0+1+1:Nat):Int))=true:=by decide
 have d2:decide ((2:Int) < ((0+1+1:Nat):Int))=false:=by decide
 simp only [d0,aKJ,i0,aKI]
 by_cases hx:x=0
 · subst hx
   simp only [bne_self_eq_false,aKK,w0,aJZ,d1,aKJ,i1,aKI,ne_eq,not_true_eq_false,if_false]
   by_cases hy:y=0
   · subst hy
     simp only [bne_self_eq_false,aKK,w1,aJZ,d2,aIE]
   · simp only [bne_iff_ne,ne_eq,hy,not_false_eq_true,aJz,if_true,aIE]
 · simp only [bne_iff_ne,ne_eq,hx,not_false_eq_true,aJz,if_true,aIE]
theorem cmp_p (N:Nat) {p q:Pf} (hp:AD p.1) (hq:AD q.1):n41 (N+9) (p,q)=some (cmpP p q)∧n42 (N+9) (p,q)=some (cmpP p q):=by
 have hc:=cmp_eq N hp hq
 constructor
 · rw [e41]
   refine bindB hc.1 (bindB (sgn_eq (N+6) _ _).1 (bindB (or_two (N+3) _ _) rfl))
 · rw [e42]
   refine bindB hc.2 ?_
   unfold cmpP sgn
   by_cases h:cmpA p.1 q.1=0
   · rw [h]
     refine bifF rfl ?_
     rw [if_neg (by simp)]
     by_cases h1:p.2 < q.2
     · rw [if_pos h1]; exact bifT (decide_eq_true h1) rfl
     · rw [if_neg h1]
       refine bifF (decide_eq_false h1) ?_
       by_cases h2:p.2=q.2
       · rw [if_pos h2]; exact bifF (decide_eq_false (by omega)) rfl
       · rw [if_neg h2]; exact bifT (decide_eq_true (by omega)) rfl
   · rw [if_pos h]
     exact bifT (by simpa using h) rfl
theorem cmpP_self (p:Pf):cmpP p p=0:=by
 unfold cmpP cmpA sgn
 simp
abbrev zP:Pf:=((false,0,0),0)
/-- The second half. -/
def half (p:Pf):Ad:=mkA p.1.1 (val p.1+2 ^ (W p.1.1 - 1 - p.2.toNat))
def hlv (p:Pf):Pf×Pf×Int:=if okP p=false then (zP,zP,1) else if p.2=(W p.1.1:Int) then (zP,zP,9) else ((p.1,p.2+1),(half p,p.2+1),0)
theorem half_rng {p:Pf} (h:PK p) (hn:p.2≠(W p.1.1:Int)):val p.1+2 ^ (W p.1.1 - 1 - p.2.toNat) < lim p.1.1∧(2:Int) ^ (W p.1.1 - p.2.toNat)=2 * 2 ^ (W p.1.1 - 1 - p.2.toNat):=by
 obtain ⟨h1,h2,h3,h4⟩:=h
 have e:W p.1.1 - p.2.toNat=(W p.1.1 - 1 - p.2.toNat)+1:=by omega
 have hp:(2:Int) ^ (W p.1.1 - p.2.toNat)=2 * 2 ^ (W p.1.1 - 1 - p.2.toNat):=by rw [e,Int.pow_succ,Int.mul_comm]
 have:=pow_lim (f:=p.1.1) (k:=W p.1.1 - p.2.toNat) (by omega) h1.rng.1 h1.rng.2 h4
 have h0:=p2 (W p.1.1 - 1 - p.2.toNat)
 exact ⟨by omega,hp⟩
theorem half_ok {p:Pf} (h:PK p) (hn:p.2≠(W p.1.1:Int)):OkA (half p):=by
 have:=half_rng h hn
 have h0:=p2 (W p.1.1 - 1 - p.2.toNat)
 have hr:=h.1.rng
 exact OkA.mk (by omega) this.1
theorem half_val (p:Pf):val (half p)=val p.1+2 ^ (W p.1.1 - 1 - p.2.toNat):=val_mk
theorem halves_p (N:Nat) {p:Pf} (h:AD p.1):n32 (N+10) p=some (hlv p):=by
 rw [e32]
 unfold hlv
 have hv:=valid_p (N+5) (p:=p) h
 cases hok:okP p with
 | false=>rw [hok] at hv; exact bindB hv (bifT rfl rfl)
 | true =>
  rw [hok] at hv
  rw [if_neg (by simp)]
  have hP:=(okP_iff h).1 hok
  have hW:=W_cases p.1.1
  refine bindB hv (bifF rfl (bindB (width_eq (N+8) p.1).1 ?_))
  by_cases hn:p.2=(W p.1.1:Int)
  · rw [if_pos hn]
    exact bifT (by simpa using hn) rfl
  · rw [if_neg hn]
    have hr:=half_rng hP hn
    obtain ⟨h1,h2,h3,h4⟩:=hP
    have w1:IntKind.i64.wrap (p.2+1)=p.2+1:=wv _ rfl (by omega) (by omega)
    have w2:IntKind.i64.wrap (p.2+1 - 1)=p.2:=wv _ (by omega) (by omega) (by omega)
    have hl:=last_p (N+4) (p:=p) ⟨h1,h2,h3,h4⟩
    have hlo:=lst_ok (p:=p) ⟨h1,h2,h3,h4⟩
    have hf:=first_eq (N+7) (a:=lst p) hlo.ad (n:=p.2.toNat+1) (by show _≤W p.1.1; omega)
    have hc:((p.2.toNat+1:Nat):Int)=p.2+1:=by omega
    rw [hc] at hf
    refine bifF (by simpa using hn) (letB w1 (letB w2 (bindB hl (bindB hf ?_))))
    have:fst (lst p) (p.2.toNat+1)=half p:=by
     unfold fst half
     rw [lst_val]
     show mkA p.1.1 _=_
     congr 1
     have e:W (lst p).1 - (p.2.toNat+1)=W p.1.1 - 1 - p.2.toNat:=by show W p.1.1 - _=_; omega
     rw [e,hr.2]
     have h0:=p2 (W p.1.1 - 1 - p.2.toNat)
     refine (fl_uniq ?_).2 ⟨by omega,by omega⟩
     refine Int.dvd_add ?_ (Int.dvd_refl _)
     rw [← h4]
     exact Int.dvd_trans (p2_dvd (by omega)) (fl_dvd _ _)
    rw [this]
theorem halves_r (N:Nat) {p:Pf} (h:AD p.1):n33 (N+210) p=some (hlv p):=by
 rw [e33]
 unfold hlv
 have hv:=valid_r (N+8) (p:=p) h
 cases hok:okP p with
 | false=>rw [hok] at hv; exact bindB hv (bifT rfl rfl)
 | true =>
  rw [hok] at hv
  rw [if_neg (by simp)]
  have hP:=(okP_iff h).1 hok
  have hW:=W_cases p.1.1
  refine bindB hv (bifF rfl (bindB (width_eq (N+208) p.1).2 ?_))
  by_cases hn:p.2=(W p.1.1:Int)
  · rw [if_pos hn]
    exact bifT (by simpa using hn) rfl
  · rw [if_neg hn]
    have hr:=half_rng hP hn
    obtain ⟨h1,h2,h3,h4⟩:=hP
    have w1:IntKind.i64.wrap (p.2+1)=p.2+1:=wv _ rfl (by omega) (by omega)
    have hb:bytesA p.1=beI (wid p.1) (val p.1):=by unfold bytesA; rw [h1.valid]; rfl
    have hw:=W_wid p.1
    obtain ⟨n,hnn⟩:=Int.eq_ofNat_of_zero_le h2
    have hnt:p.2.toNat=n:=by omega
    have hdiv:IntKind.i64.wrap (Int.tdiv p.2 8)=((n / 8:Nat):Int):=wv _ (by rw [hnn,Int.tdiv_eq_ediv_of_nonneg (by omega)]; omega) (by omega) (by omega)
    have hmod:IntKind.u64.wrap (Int.tmod p.2 8)=((n % 8:Nat):Int):=by
     rw [hnn,Int.tmod_eq_emod_of_nonneg (by omega),aJJ]; omega
    have hg:aEU (beI (wid p.1) (val p.1)) ((n / 8:Nat):Int)=some (val p.1 / 256 ^ (wid p.1 - 1 - n / 8) % 256):=by
     rw [aJo (by rw [beI_length]; omega),beI_get (wid p.1) _ _ (by omega)]
    have hsh:(if ((n % 8:Nat):Int) < 0 then none else some (aJP IntKind.u8 (128:Int) (((n % 8:Nat):Int)).toNat))=some (aJP .u8 128 (n % 8)):=by
     rw [if_neg (by omega),Int.toNat_natCast]
    have hput:=beI_put (val p.1) 1 (n:=wid p.1) (i:=n) (by omega) (by omega)
    have hc:=(byte_clr (q:=val p.1 / 256 ^ (wid p.1 - 1 - n / 8) % 256) (7 - n % 8) (by omega) (by omega)).2
    rw [show 7 - (7 - n % 8)=n % 8 by omega,byte_bit (val p.1) (n:=wid p.1) (i:=n) (by omega)] at hc
    have hbit:bitI (val p.1) (8 * wid p.1 - 1 - n)=0:=by
     rw [← h4,bit_fl,if_neg (by omega)]
    have hset:(beI (wid p.1) (val p.1)).set (((n / 8:Nat):Int)).toNat (bits .or .u8 (val p.1 / 256 ^ (wid p.1 - 1 - n / 8) % 256) (aJP .u8 128 (n % 8)))=beI (wid p.1) (val p.1+2 ^ (W p.1.1 - 1 - p.2.toNat)):=by
     rw [Int.toNat_natCast,hc,hput,hbit,hw,hnt]
     congr 1
     omega
    have h0:=p2 (W p.1.1 - 1 - p.2.toNat)
    have hrr:=h1.rng
    have hfrom:=from_be (N+189) (f:=p.1.1) (v:=val p.1+2 ^ (W p.1.1 - 1 - p.2.toNat)) (by omega) hr.1 (wid p.1) hw
    refine bifF (by simpa using hn) (bindB (bytes2 (N+189) h1.ad) ?_)
    rw [hb]
    exact letB hdiv (bindB hg (letB hmod (bindB hsh (bindB hg (letB hset (bindB hfrom (letB w1 (letB w1 rfl))))))))
/-- A prefix out of the deck. -/
theorem prefix_ok (N:Nat) {d:Dk} (hd:DK d):∃ p d',n12 (N+210) d=some (p,d')∧PK p∧DK d':=by
 rw [e12]
 obtain ⟨a,d0,h0,ha,g0⟩:=addr_ok (N+205) hd
 have hW:=W_cases a.1
 have nx:∀ {d:Dk} (_:DK d) {b:Int} (_:0 < b) (_:b≤9223372036854775807),∃ v d',n27 (N+209) (d,b)=some (v,d')∧0≤v∧v < b∧DK d':=fun hd _ hb hb2=>next_ok (N+207) hd hb hb2
 suffices hs:∃ p d',(aBJ (fun (p4:(((Bool×Int×Int)×Int)×((Bool×Int×Int)×(Int×((List (Int))×Int))))) =>
 (n26 (N+209) (p4.2.1,p4.2.2.1)).bind fun v6 =>
 some (v6.1,p4.2.2.2)) fun j5=>(n27 (N+209) (d0,(4:Int))).bind fun v3 =>
 bif (v3.1==(0:Int)) then (aJy (IntKind.i64.wrap ((W a.1:Int)+(1:Int))) fun v9 =>
 (n27 (N+209) (v3.2,v9)).bind fun v10 =>
 j5 (zP,a,v10.1,v10.2)) else (
 bif (v3.1==(1:Int)) then ((n27 (N+209) (v3.2,(9:Int))).bind fun v13 =>
 aJy (IntKind.i64.wrap ((W a.1:Int) - v13.1)) fun v14 =>
 j5 (zP,a,v14,v13.2)) else (
 bif (v3.1==(2:Int)) then (aJy ([(8:Int),(22:Int),(23:Int),(24:Int),(16:Int)]:List (Int)) fun v17 =>
 (n27 (N+209) (v3.2,(5:Int))).bind fun v18 =>
 (aEU v17 v18.1).bind fun v19 =>
 j5 (zP, a, v19, v18.2)) else (j5 (zP, a, (W a.1 : Int), v3.2))))) = some (p, d') ∧ PK p ∧ DK d' by
  obtain ⟨p,d',e,h1,h2⟩:=hs
  refine ⟨p,d',?_,h1,h2⟩
  refine bindB h0 (jB ?_)
  rw [← e]
  show (bif a.1 then _ else _)=_
  unfold W
  cases a.1 <;> rfl
 have fin:∀ (n:Int) (d':Dk),0≤n→n≤(W a.1:Int)→(n26 (N+209) (a,n)).bind (fun v6=>some (v6.1,d'))=some ((fst a n.toNat,n),d'):=fun n d' h1 h2 =>
  bindB (make_r (N+9) ha.ad n) (by rw [mkP_ok ha h1 h2])
 obtain ⟨v1,d1,h1,a1,b1,g1⟩:=nx g0 (b:=4) (by omega) (by omega)
 by_cases c0:v1=0
 · subst c0
   have w1:IntKind.i64.wrap ((W a.1:Int)+1)=(W a.1:Int)+1:=wv _ rfl (by omega) (by omega)
   obtain ⟨v2,d2,h2,a2,b2,g2⟩:=nx g1 (b:=(W a.1:Int)+1) (by omega) (by omega)
   exact ⟨_,_,jB (bindB h1 (bifT rfl (letB w1 (bindB h2 (fin v2 d2 a2 (by omega)))))),PK_fst ha a2 (by omega),g2⟩
 by_cases c1:v1=1
 · subst c1
   obtain ⟨v2,d2,h2,a2,b2,g2⟩:=nx g1 (b:=9) (by omega) (by omega)
   have w1:IntKind.i64.wrap ((W a.1:Int) - v2)=(W a.1:Int) - v2:=wv _ rfl (by omega) (by omega)
   exact ⟨_,_,jB (bindB h1 (bifF rfl (bifT rfl (bindB h2 (letB w1 (fin ((W a.1:Int) - v2) d2 (by omega) (by omega))))))),PK_fst ha (n:=(W a.1:Int) - v2) (by omega) (by omega),g2⟩
 by_cases c2:v1=2
 · subst c2
   obtain ⟨v2,d2,h2,a2,b2,g2⟩:=nx g1 (b:=5) (by omega) (by omega)
   obtain ⟨x,q,hx⟩:=idx_mem (l:=[(8:Int),(22:Int),(23:Int),(24:Int),(16:Int)]) a2 b2
   simp only [List.mem_cons,List.not_mem_nil,or_false] at q
   exact ⟨_,_,jB (bindB h1 (bifF rfl (bifF rfl (bifT rfl (letB rfl (bindB h2 (bindB hx (fin x d2 (by omega) (by omega)))))))))  ,PK_fst ha (n:=x) (by omega) (by omega),g2⟩
 · have e0:(v1==(0:Int))=false:=by simpa using c0
   have e1:(v1==(1:Int))=false:=by simpa using c1
   have e2:(v1==(2:Int))=false:=by simpa using c2
   exact ⟨_,_,jB (bindB h1 (bifF e0 (bifF e1 (bifF e2 (fin (W a.1:Int) d1 (by omega) (by omega)))))),PK_fst ha (n:=(W a.1:Int)) (by omega) (by omega),g1⟩
end Go.Proofs.YtlgnmgbnbomckaaGreatDoor
