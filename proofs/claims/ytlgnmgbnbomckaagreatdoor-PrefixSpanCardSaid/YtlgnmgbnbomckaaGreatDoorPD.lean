/- Chapter 02, plainly: the longest prefix that covers two. -/
import Derived.Test.YtlgnmgbnbomckaaGreatDoorPC
namespace Go.Proofs.YtlgnmgbnbomckaaGreatDoor
open Go.VM
set_option maxRecDepth 10000
theorem bl_le {n k:Nat} (h:n < 2 ^ 64) (hk:k≤64):Lib.bitLen n≤k↔n < 2 ^ k:=by
 constructor
 · intro hb
   rcases Nat.lt_or_ge n (2 ^ k) with h1 | h1
   · exact h1
   · have h2:=Lib.bitLen_shift k n h1 h
     have h3:n / 2 ^ k≠0:=by
      have:1≤n / 2 ^ k:=(Nat.le_div_iff_mul_le (Nat.two_pow_pos k)).2 (by omega)
      omega
     have h4:=Lib.bitLen_half (n / 2 ^ k) h3 (Nat.lt_of_le_of_lt (Nat.div_le_self _ _) h)
     omega
 · exact Lib.bitLen_le n k hk
theorem xor_bnd {x y:Int} (hx:U64 x) (hy:U64 y):x.toNat ^^^ y.toNat < 2 ^ 64:=by
 have h64:(2:Nat) ^ 64=18446744073709551616:=by decide
 exact Nat.xor_lt_two_pow (by have:=hx.2; have:=hx.1; omega) (by have:=hy.2; have:=hy.1; omega)
theorem divN (X k:Nat):(X:Int) / 2 ^ k=((X / 2 ^ k:Nat):Int):=by rw [natpow]; rfl
def lz (a b:Ad):Nat:=if a.2.1=b.2.1 then 128 - Lib.bitLen (a.2.2.toNat ^^^ b.2.2.toNat) else 64 - Lib.bitLen (a.2.1.toNat ^^^ b.2.1.toNat)
theorem lz_iff {a b:Ad} (ha:AD a) (hb:AD b) {j:Nat} (hj:j≤128):j≤lz a b↔val a / 2 ^ (128 - j)=val b / 2 ^ (128 - j):=by
 obtain ⟨f,x,y⟩:=a
 obtain ⟨g,z,w⟩:=b
 obtain ⟨hx,hy⟩:=ha
 obtain ⟨hz,hw⟩:=hb
 simp only [val,lz] at *
 obtain ⟨X,rfl⟩:=Int.eq_ofNat_of_zero_le hx.1
 obtain ⟨Y,rfl⟩:=Int.eq_ofNat_of_zero_le hy.1
 obtain ⟨Z,rfl⟩:=Int.eq_ofNat_of_zero_le hz.1
 obtain ⟨V,rfl⟩:=Int.eq_ofNat_of_zero_le hw.1
 simp only [Int.toNat_natCast]
 have h64:(2:Nat) ^ 64=18446744073709551616:=by decide
 have bnd:∀ {P Q:Nat},U64 (P:Int)→U64 (Q:Int)→P ^^^ Q < 2 ^ 64:=fun h1 h2=>Nat.xor_lt_two_pow (by have:=h1.2; omega) (by have:=h2.2; omega)
 have bxz:=bnd hx hz
 have byw:=bnd hy hw
 have l1:=(bl_le bxz (Nat.le_refl 64)).2 bxz
 have l2:=(bl_le byw (Nat.le_refl 64)).2 byw
 by_cases hxz:(X:Int)=(Z:Int)
 · rw [if_pos hxz,← hxz]
   by_cases h:j≤64
   · rw [shr_hi hy (by omega),shr_hi hw (by omega)]
     exact ⟨fun _=>rfl,fun _=>by omega⟩
   · rw [shr_lo (by omega),shr_lo (by omega)]
     have:=bl_le byw (k:=128 - j) (by omega)
     have h2:=xor_lt (a:=Y) (b:=V) (k:=128 - j)
     rw [divN,divN]
     constructor
     · intro h3
       have h4:=h2.1 (this.1 (by omega))
       rw [h4]
     · intro h3
       have h4:Y / 2 ^ (128 - j)=V / 2 ^ (128 - j):=by omega
       have h5:=this.2 (h2.2 h4)
       omega
 · rw [if_neg hxz]
   by_cases h:j≤64
   · rw [shr_hi hy (by omega),shr_hi hw (by omega),show 128 - j - 64=64 - j by omega,divN,divN]
     have:=bl_le bxz (k:=64 - j) (by omega)
     have h2:=xor_lt (a:=X) (b:=Z) (k:=64 - j)
     constructor
     · intro h3
       rw [h2.1 (this.1 (by omega))]
     · intro h3
       have h5:=this.2 (h2.2 (by omega))
       omega
   · refine ⟨fun h3=>by omega,fun h3=>?_⟩
     exfalso
     rw [shr_lo (by omega),shr_lo (by omega)] at h3
     have e:64 - (128 - j)=j - 64:=by omega
     rw [e] at h3
     have hc:=p2 (j - 64)
     have rng:∀ {y:Int},U64 y→0≤y / 2 ^ (128 - j)∧y / 2 ^ (128 - j) < 2 ^ (j - 64):=fun {y} hy=>by
      refine ⟨Int.ediv_nonneg hy.1 (Int.le_of_lt (p2 _)),Int.ediv_lt_of_lt_mul (p2 _) ?_⟩
      rw [← Int.pow_add,show j - 64+(128 - j)=64 by omega,p2_64]
      exact hy.2
     have r1:=rng hy
     have r2:=rng hw
     generalize (2:Int) ^ (j - 64)=c at *
     rcases Int.lt_trichotomy (X:Int) Z with h1 | h1 | h1
     · have:=Int.mul_le_mul_of_nonneg_right (show (X:Int)+1≤Z by omega) (Int.le_of_lt hc)
       rw [Int.add_mul,Int.one_mul] at this
       omega
     · exact hxz h1
     · have:=Int.mul_le_mul_of_nonneg_right (show (Z:Int)+1≤X by omega) (Int.le_of_lt hc)
       rw [Int.add_mul,Int.one_mul] at this
       omega
theorem lz_le (a b:Ad):lz a b≤128:=by unfold lz; split <;> omega
def cl (a b:Ad):Nat:=lz a b+W a.1 - 128
theorem small {a:Ad} (h:OkA a) (hf:a.1=false):val a / 2 ^ 32=0:=by
 have hr:=h.rng
 rw [hf] at hr
 have e:(2:Int) ^ 32=4294967296:=by decide
 have e2:lim false=4294967296:=rfl
 rw [e]
 rw [e2] at hr
 omega
theorem lz_ge {a b:Ad} (ha:OkA a) (hb:OkA b) (h:a.1=b.1):128≤lz a b+W a.1:=by
 rcases hf:a.1 with _ | _
 · have := (lz_iff ha.ad hb.ad (j := 96) (by omega)).2 (by
     rw [show 128 - 96=32 by omega,small ha hf,small hb (by rw [← h,hf])])
   show 128≤lz a b+32
   omega
 · show 128≤lz a b+128
   omega
theorem cl_iff {a b:Ad} (ha:OkA a) (hb:OkA b) (h:a.1=b.1) {j:Nat} (hj:j≤W a.1):j≤cl a b↔val a / 2 ^ (W a.1 - j)=val b / 2 ^ (W a.1 - j):=by
 have hW:=W_cases a.1
 have hge:=lz_ge ha hb h
 have:=lz_iff ha.ad hb.ad (j:=j+(128 - W a.1)) (by omega)
 rw [show 128 - (j+(128 - W a.1))=W a.1 - j by omega] at this
 rw [← this]
 unfold cl
 omega
theorem cl_le (a b:Ad):cl a b≤W a.1:=by
 have:=lz_le a b
 unfold cl; omega
def cmn (p q:Pf):Nat:=min (min (cl p.1 q.1) p.2.toNat) q.2.toNat
def com (p q:Pf):Pf×Int:=if okP p=false∨okP q=false then (zP,1) else if p.1.1≠q.1.1 then (zP,9) else ((fst p.1 (cmn p q),(cmn p q:Int)),0)
theorem common_p (N:Nat) {p q:Pf} (hp:AD p.1) (hq:AD q.1):n34 (N+10) (p,q)=some (com p q):=by
 rw [e34]
 unfold com
 have vp:=valid_p (N+5) (p:=p) hp
 have vq:=valid_p (N+5) (p:=q) hq
 refine bindB vp (bindB (bC vq rfl) (letB (v:=!(okP p&&okP q)) ?_ ?_))
 · cases okP p <;> cases okP q <;> rfl
 cases hop:okP p with
 | false=>exact bifT rfl rfl
 | true =>
  cases hoq:okP q with
  | false=>exact bifT rfl rfl
  | true =>
   rw [if_neg (by simp)]
   refine bifF rfl ?_
   have hP:=(okP_iff hp).1 hop
   have hQ:=(okP_iff hq).1 hoq
   by_cases hf:p.1.1=q.1.1
   case neg =>
    rw [if_pos hf]
    exact bifT (by simpa using hf) rfl
   rw [if_neg (by simpa using hf)]
   refine bifF (by simpa using hf) ?_
   have hW:=W_cases p.1.1
   have hge:=lz_ge hP.1 hQ.1 hf
   have hle:=lz_le p.1 q.1
   have x1:=xor64 hp.1 hq.1
   have x2:=xor64 hp.2 hq.2
   have s1:=xor_bnd hp.1 hq.1
   have s2:=xor_bnd hp.2 hq.2
   have b1:=(bl_le s1 (Nat.le_refl 64)).2 s1
   have b2:=(bl_le s2 (Nat.le_refl 64)).2 s2
   have L1:n60 (N+9) (bits .xor .u64 p.1.2.1 q.1.2.1)=some (64 - (Lib.bitLen (p.1.2.1.toNat ^^^ q.1.2.1.toNat):Int)):=by
    rw [e60,aKA ⟨x1.2.1,by have:=x1.2.2; omega⟩,x1.1,Int.toNat_natCast]
   have L2:n60 (N+9) (bits .xor .u64 p.1.2.2 q.1.2.2)=some (64 - (Lib.bitLen (p.1.2.2.toNat ^^^ q.1.2.2.toNat):Int)):=by
    rw [e60,aKA ⟨x2.2.1,by have:=x2.2.2; omega⟩,x2.1,Int.toNat_natCast]
   have rest:∀ (z:Int),z=(lz p.1 q.1:Int)→(aJy (IntKind.i64.wrap (z - (128:Int))) fun v7 =>
 (n46 (N+9) p.1).bind fun v8 =>
 aJy (mmT false (mmT false (IntKind.i64.wrap (v7+v8)) p.2) q.2) fun v9 =>
 (n50 (N+9) (p.1,v9)).bind fun v10 =>
 some (((v10, v9) : Pf), (0 : Int))) = some ((fst p.1 (cmn p q), (cmn p q : Int)), 0) := by
    intro z hz
    have hm:mmT false (mmT false ((cl p.1 q.1:Nat):Int) p.2) q.2=(cmn p q:Int):=by
     have h1:=hP.2.1
     have h2:=hQ.2.1
     unfold mmT cmn
     simp only [Bool.false_eq_true,if_false]
     split <;> split <;> omega
    have hcl:=cl_le p.1 q.1
    refine letB (v:=(lz p.1 q.1:Int) - 128) (wv _ (by rw [hz]) (by omega) (by omega)) (bindB (width_eq (N+8) p.1).1 (letB (v:=(cmn p q:Int)) ?_ (bindB (first_eq (N+7) hp (n:=cmn p q) (by unfold cmn; omega)) rfl)))
    rw [show (lz p.1 q.1:Int) - 128+(W p.1.1:Int)=((cl p.1 q.1:Nat):Int) by unfold cl; omega,pV (by omega) (by omega)]
    exact hm
   refine letB rfl (bindB L1 (jB ?_))
   by_cases hx:p.1.2.1=q.1.2.1
   · have e0:Lib.bitLen (p.1.2.1.toNat ^^^ q.1.2.1.toNat)=0:=by rw [hx,Nat.xor_self]; rfl
     rw [e0]
     refine bifT rfl (letB rfl (bindB L2 (letB (v:=(lz p.1 q.1:Int)) (wv _ ?_ (by omega) (by omega)) (rest _ rfl))))
     unfold lz
     rw [if_pos hx]
     omega
   · have hne : Lib.bitLen (p.1.2.1.toNat ^^^ q.1.2.1.toNat) ≠ 0 := by
       intro h0
       have h1:=(bl_le s1 (k:=0) (by omega)).1 (by omega)
       have h3:=xor_lt.1 h1
       rw [Nat.pow_zero,Nat.div_one,Nat.div_one] at h3
       have:=hp.1.1
       have:=hq.1.1
       omega
     refine bifF (by simp; omega) (rest _ ?_)
     show (64:Int) - (Lib.bitLen (p.1.2.1.toNat ^^^ q.1.2.1.toNat):Int)=_
     unfold lz
     rw [if_neg hx]
     omega
theorem bit_same {v w:Int} {t:Nat} (h:v / 2 ^ (t+1)=w / 2 ^ (t+1)):v / 2 ^ t=w / 2 ^ t↔bitI v t=bitI w t:=by
 have e:∀ v:Int,v / 2 ^ (t+1)=v / 2 ^ t / 2:=fun v=>by rw [Int.pow_succ,Int.ediv_ediv_of_nonneg (Int.le_of_lt (p2 t))]
 rw [e,e] at h
 unfold bitI
 constructor <;> intro h2 <;> omega
theorem common_r (N:Nat) {p q:Pf} (hp:AD p.1) (hq:AD q.1):n35 (N+210) (p,q)=some (com p q):=by
 rw [e35]
 unfold com
 have vp:=valid_r (N+8) (p:=p) hp
 have vq:=valid_r (N+8) (p:=q) hq
 refine bindB vp (bindB (bC vq rfl) (letB (v:=!(okP p&&okP q)) ?_ ?_))
 · cases okP p <;> cases okP q <;> rfl
 cases hop:okP p with
 | false=>exact bifT rfl rfl
 | true =>
  cases hoq:okP q with
  | false=>exact bifT rfl rfl
  | true =>
   rw [if_neg (by simp)]
   refine bifF rfl ?_
   have hP:=(okP_iff hp).1 hop
   have hQ:=(okP_iff hq).1 hoq
   by_cases hf:p.1.1=q.1.1
   case neg =>
    rw [if_pos hf]
    exact bifT (by simpa using hf) rfl
   rw [if_neg (by simpa using hf)]
   refine bifF (by simpa using hf) (jB ?_)
   have hW:=W_cases p.1.1
   have hcl:=cl_le p.1 q.1
   have hm1:cmn p q≤cl p.1 q.1:=by unfold cmn; omega
   have hm2:(cmn p q:Int)≤p.2:=by have:=hP.2.1; unfold cmn; omega
   have hm3:(cmn p q:Int)≤q.2:=by have:=hQ.2.1; unfold cmn; omega
   have hWq:W q.1.1=W p.1.1:=by rw [hf]
   refine loopN_seq' (s:=fun k=>(p,q,(zP:Pf),(k:Int))) (cmn p q) rfl (fun k hk=>?_) ?_ (m:=N+209) (by omega)
   · have d1:decide ((k:Int) < q.2)=true:=decide_eq_true (by omega)
     have d2:decide ((k:Int) < p.2)=true:=decide_eq_true (by omega)
     refine letB d1 (letB (v:=true) (bifT d2 rfl) (bindB (bifT rfl (bit_r (N+188) hP.1 (k:Int))) (bindB (bifT rfl (bit_r (N+188) hQ.1 (k:Int))) (letB (v:=true) ?_ (bifT rfl (letB (v:=((k+1:Nat):Int)) (wv _ (by show (k:Int)+1=_; omega) (by omega) (by omega)) rfl))))))
     show (bitA p.1 (k:Int)==bitA q.1 (k:Int))=true
     rw [beq_iff_eq]
     unfold bitA
     rw [hWq,if_pos ⟨by omega,by omega⟩,if_pos ⟨by omega,by omega⟩,Int.toNat_natCast]
     have h1:=(cl_iff hP.1 hQ.1 hf (j:=k+1) (by omega)).1 (by omega)
     rw [show W p.1.1 - (k+1)=W p.1.1 - 1 - k by omega] at h1
     unfold bitI
     rw [h1]
   · refine letB rfl (letB (v:=decide ((cmn p q:Int) < p.2)&&decide ((cmn p q:Int) < q.2)) ?_ (bindB (bC (bit_r (N+188) hP.1 (cmn p q:Int)) rfl) (bindB (bC (bit_r (N+188) hQ.1 (cmn p q:Int)) rfl) (letB (v:=false) ?_ (bifF rfl (leaveB (bindB (make_r (N+9) hp (cmn p q:Int)) ?_)))))))
     · show (bif decide ((cmn p q:Int) < p.2) then decide ((cmn p q:Int) < q.2) else false)=_
       cases decide ((cmn p q:Int) < p.2) <;> rfl
     · by_cases h1:(cmn p q:Int) < p.2∧(cmn p q:Int) < q.2
       · rw [decide_eq_true h1.1,decide_eq_true h1.2]
         show (bitA p.1 (cmn p q:Int)==bitA q.1 (cmn p q:Int))=false
         rw [beq_eq_false_iff_ne]
         have hmc:cmn p q=cl p.1 q.1:=by
          have:=hP.2.1
          have:=hQ.2.1
          unfold cmn at h1 ⊢
          omega
         have hp2:=hP.2.2.1
         unfold bitA
         rw [hWq,if_pos ⟨by omega,by omega⟩,if_pos ⟨by omega,by omega⟩,Int.toNat_natCast]
         intro hb
         have hj:=(cl_iff hP.1 hQ.1 hf (j:=cmn p q) (by omega)).1 (by omega)
         rw [show W p.1.1 - cmn p q=(W p.1.1 - 1 - cmn p q)+1 by omega] at hj
         have h2:=(bit_same hj).2 hb
         rw [show W p.1.1 - 1 - cmn p q=W p.1.1 - (cmn p q+1) by omega] at h2
         have:=(cl_iff hP.1 hQ.1 hf (j:=cmn p q+1) (by omega)).2 h2
         omega
       · have : (decide ((cmn p q : Int) < p.2) && decide ((cmn p q : Int) < q.2)) = false := by
           rw [← Bool.decide_and]; exact decide_eq_false h1
         rw [this]
         rfl
     · have:=hP.2.2.1
       rw [mkP_ok hP.1 (n:=(cmn p q:Int)) (by omega) (by omega),Int.toNat_natCast]
end Go.Proofs.YtlgnmgbnbomckaaGreatDoor
