/- Chapter 02, plainly: prefixes printed and read. -/
import Derived.Test.YtlgnmgbnbomckaaGreatDoorPH
import Derived.Test.YtlgnmgbnbomckaaGreatDoorPB
import Derived.Test.YtlgnmgbnbomckaaGreatDoorQN
namespace Go.Proofs.YtlgnmgbnbomckaaGreatDoor
open Go.VM Go.Txt
set_option maxRecDepth 10000
theorem itoa_n (N:Nat) {n:Int} (h:0≤n∧n≤255):n48 (N+1) n=some (Lib.itoa n):=by rw [e48]; exact aJ6 ⟨by omega,by omega⟩
theorem cat_ok {s t:List UInt8} (h:s.length+t.length≤9223372036854775807):aJt s t=some (s++t):=if_pos h
theorem okP_rng {p:Pf} (h:AD p.1) (hv:okP p=true):0≤p.2∧p.2≤255:=by
 have hk:=(okP_iff h).1 hv
 have hW:=W_cases p.1.1
 have:=hk.2.2.1
 exact ⟨hk.2.1,by omega⟩
theorem txtP_len {p:Pf} (h:0≤p.2∧p.2≤255):(txtP p).length≤43:=by
 have h1:=txt_len p.1
 have h2:=(itoa_fact h).2.1
 unfold txtP
 rw [List.length_append,List.length_cons]
 omega
theorem cats {a b:List UInt8} (ha:a.length≤100) (hb:b.length≤100):((aJt a [47]).bind fun v=>(some b).bind fun w=>(aJt v w).bind fun u=>some u)=some (a++47::b):=by
 refine bindB (cat_ok (by simp; omega)) (bindB rfl (bindB (cat_ok (by simp; omega)) ?_))
 rw [List.append_assoc]; rfl
/-- The text of a prefix,as the program prints it. -/
theorem print_p (N:Nat) {p:Pf} (h:AD p.1):n14 (N+60) p=some (if okP p=true then txtP p else []):=by
 rw [e14]
 refine bindB (valid_p (N+55) h) ?_
 cases hv:okP p with
 | false=>exact bifT rfl rfl
 | true =>
  have hr:=okP_rng h hv
  have h1:=txt_len p.1
  have h2:=(itoa_fact hr).2.1
  rw [itoa_n (N+58) hr]
  exact bifF rfl (bindB (print_ad (N+19) h) (cats (by omega) (by omega)))
theorem print_pr (N:Nat) {p:Pf} (h:AD p.1):n21 (N+250) p=some (if okP p=true then txtP p else []):=by
 rw [e21]
 refine bindB (valid_r (N+48) h) ?_
 cases hv:okP p with
 | false=>exact bifT rfl rfl
 | true =>
  have hr:=okP_rng h hv
  have h1:=txt_len p.1
  have h2:=(itoa_fact hr).2.1
  rw [itoa_n (N+248) hr]
  exact bifF rfl (bindB (print_r (N+149) h) (cats (by omega) (by omega)))
/- numbers read -/
theorem nz_ok {c:UInt8}:(((c.toNat:Int)==48)=(c==48)):=by
 have h:((c.toNat:Int)=48)↔c=48:=⟨fun h=>UInt8.toNat_inj.1 (by show c.toNat=48; omega),fun h=>by rw [h]; rfl⟩
 by_cases e:c=48
 · rw [beq_iff_eq.2 e,beq_iff_eq.2 (h.2 e)]
 · rw [beq_false_of_ne e,beq_false_of_ne (fun k=>e (h.1 k))]
theorem length_p (N:Nat) {w:List UInt8} (hw:w.length≤100000):n45 (N+2) w=some (if dgt w=true then (((min 1000 (dval 0 w):Nat):Int),true) else (0,false)):=by
 rw [e45]
 cases w with
 | nil=>exact letB (v:=false) rfl (bindB rfl (letB rfl (letB rfl (bindB (bifF rfl rfl) (letB rfl (bifT rfl rfl))))))
 | cons c r =>
  have h0:aKH (c::r) (0:Int)=some (c.toNat:Int):=rfl
  have hl:(decide (aJO (c::r) > (1:Int)))=!(r==[]):=by
   cases r with
   | nil=>rfl
   | cons d s=>exact decide_eq_true (by unfold aJO; simp only [List.length_cons]; omega)
  have hd:dgt (c::r)=((c::r).all isD&&!((c==48)&&!(r==[]))):=by
   unfold dgt
   congr 1
   show (true&&(!(c==48)||decide ((c::r).length=1)))=_
   rw [Bool.true_and,Bool.not_and,Bool.not_not]
   congr 1
   cases r <;> simp
  have htr:=trim_digits (c::r)
  have h69:n69 (N+1) (c::r,D10)=some (Lib.trimS (c::r) D10):=by rw [e69]; exact aJ5 ⟨by omega,by decide,by decide⟩
  have h70:n70 (N+1) (c::r)=some (aD4 (c::r)):=by rw [e70]; exact aJ7 (by omega)
  refine letB hl (bindB (bC h0 rfl) (letB (v:=(c==48)&&!(r==[])) ?_ (letB (v:=(c==48)&&!(r==[])) rfl ?_)))
  · cases r with
    | nil=>simp
    | cons d s =>
     show ((c.toNat:Int)==48)=((c==48)&&true)
     rw [Bool.and_true,nz_ok]
  · rw [hd]
    cases hz:((c==48)&&!(r==[])) with
    | true=>exact bindB (bifF rfl rfl) (letB rfl (bifT rfl (by simp)))
    | false =>
     refine bindB (bifT rfl h69) (letB (v:=!(Lib.trimS (c::r) D10==[])) rfl ?_)
     cases ha:(c::r).all isD with
     | false =>
      have:¬ Lib.trimS (c::r) D10=[]:=fun h=>by rw [htr.1 h] at ha; cases ha
      exact bifT (by simp [this]) (by simp)
     | true =>
      refine bifF (by rw [htr.2 ha]; rfl) (bindB h70 ?_)
      rcases atoi_digits (w:=c::r) (by simp) ha with ⟨h1,h2⟩ | ⟨h1,h2⟩
      · rw [h2]
        refine bifT rfl (letB (v:=((min 1000 (dval 0 (c::r)):Nat):Int)) ?_ (by simp))
        show mmT false ((dval 0 (c::r):Nat):Int) 1000=_
        unfold mmT
        simp only [Bool.false_eq_true,if_false]
        split <;> omega
      · exact bifF (by rw [h2]; rfl) (by rw [show min 1000 (dval 0 (c::r))=1000 by omega]; simp)
/-- A gT of digits,as the document's yH looks at it. -/
theorem digits_r (N:Nat) {w:List UInt8} (hw:w.length≤100000) (hN:w.length < N):n55 (N+1) w=some (dgt w):=by
 rw [e55]
 refine jB ?_
 have hall:∀ (m i:Nat),i+m=w.length→(runF (fun i (_:Unit)=>if isD (w.getD i 0)=true then some () else none) m i ())=if (w.drop i).all isD=true then some () else none:=by
  intro m
  induction m with
  | zero=>intro i hi; rw [List.drop_of_length_le (by omega)]; rfl
  | succ m ih =>
   intro i hi
   rw [runF,List.drop_eq_getElem_cons (by omega),List.all_cons,List.getD,List.getElem?_eq_getElem (by omega),Option.getD_some]
   cases isD (w[i]'(by omega)) with
   | false=>rfl
   | true=>exact ih (i+1) (by omega)
 refine loopF_go (fun i (_:Unit)=>if isD (w.getD i 0)=true then some () else none) (fun _ _=>True) (fun i _=>(w,aJO w,(i:Int))) w.length false (fun _=>(!(w==[])&&(!(w.getD 0 0==48)||decide (w.length=1)))) () rfl trivial (fun i hi _ _=>?_) (fun _ _=>?_) hN ?_
 · have hd:((i:Int) < aJO w):=by unfold aJO; omega
   have hx:aKH w (i:Int)=some ((w[i]'hi).toNat:Int):=by rw [nIdxB_lt hi,nBytes_get hi]
   rw [List.getD,List.getElem?_eq_getElem hi,Option.getD_some]
   unfold isD
   by_cases h1:(w[i]'hi).toNat < 48
   · rw [if_neg (by simp; omega)]
     refine ⟨fun b hb=>(by cases hb),fun _=>?_⟩
     exact bifT (decide_eq_true hd) (bindB hx (bindB (bC hx rfl) (letB (v:=true) (by rw [decide_eq_true (show ((w[i]'hi).toNat:Int) < 48 by omega)]; rfl) (bifT rfl rfl))))
   · by_cases h2:(w[i]'hi).toNat > 57
     · rw [if_neg (by simp; omega)]
       refine ⟨fun b hb=>(by cases hb),fun _=>?_⟩
       exact bifT (decide_eq_true hd) (bindB hx (bindB (bC hx rfl) (letB (v:=true) (by rw [decide_eq_false (show ¬ ((w[i]'hi).toNat:Int) < 48 by omega)]; exact decide_eq_true (show ((w[i]'hi).toNat:Int) > 57 by omega)) (bifT rfl rfl))))
     · rw [if_pos (by simp; omega)]
       refine ⟨fun b _=>⟨trivial,?_⟩,fun h=>by cases h⟩
       exact bifT (decide_eq_true hd) (bindB hx (bindB (bC hx rfl) (letB (v:=false) (by rw [decide_eq_false (show ¬ ((w[i]'hi).toNat:Int) < 48 by omega)]; exact decide_eq_false (show ¬ ((w[i]'hi).toNat:Int) > 57 by omega)) (bifF rfl (letB (v:=(i:Int)+1) (wv _ rfl (by omega) (by omega)) rfl)))))
 · have hd:¬ ((w.length:Int) < aJO w):=by unfold aJO; omega
   refine bifF (decide_eq_false hd) (leaveB ?_)
   cases w with
   | nil=>exact bindB (bifF rfl rfl) (letB rfl (letB rfl rfl))
   | cons c r =>
    refine bindB (bifT rfl (show aKH (c::r) (0:Int)=some (c.toNat:Int) from rfl)) (letB (v:=(!(c==48)||decide ((c::r).length=1))) ?_ (letB rfl rfl))
    show (bif (!((c.toNat:Int)==48)) then true else ((c::r)==[48]))=_
    rw [nz_ok]
    by_cases hc:c=48
    · subst hc; cases r <;> simp
    · rw [beq_false_of_ne hc]; rfl
 · rw [hall w.length 0 (by omega),List.drop_zero]
   unfold dgt
   cases w.all isD <;> rfl
/- prefixes read -/
def parseP (t:List UInt8):Pf×Int:=match pread t with
 | none=>(((false,0,0),0),2)
 | some (a,n)=>if (n:Int) > (W a.1:Int) then (((false,0,0),0),9) else if okP (a,n)=true then ((a,n),0) else (((false,0,0),0),5)
theorem parse_txtP {p:Pf} (h:PK p):parseP (txtP p)=(p,0):=by
 unfold parseP
 rw [pread_txt h]
 have h2:=h.2.1
 have h3:=h.2.2.1
 have e:((p.2.toNat:Nat):Int)=p.2:=Int.toNat_of_nonneg h2
 show (if ((p.2.toNat:Nat):Int) > (W p.1.1:Int) then _ else if okP (p.1,((p.2.toNat:Nat):Int))=true then ((p.1,((p.2.toNat:Nat):Int)),(0:Int)) else _)=_
 rw [e,if_neg (by omega),if_pos ((okP_iff h.1.ad).2 h)]
theorem pread_at (x y:List UInt8):pread (x++47::y)=match parse x with | some a=>(if dgt y=true then some (a,min 1000 (dval 0 y)) else none) | none=>none:=by
 have key:∀ p,pread (x++47::y)=some p→parse x=some p.1∧dgt y=true:=fun p hp=>by
  obtain ⟨u,v,e,h1,h2,_⟩:=pread_iff.1 hp
  have hu:(47:UInt8)∉u:=fun h=>by rw [parse_no h] at h1; cases h1
  obtain ⟨e1,e2⟩:=one_stroke e.symm hu (dgt_no h2)
  rw [e1,e2]; exact ⟨h1,h2⟩
 cases hp:parse x with
 | none =>
  cases h:pread (x++47::y) with
  | none=>rfl
  | some p=>rw [(key p h).1] at hp; cases hp
 | some a =>
  simp only
  cases hd:dgt y with
  | true=>exact pread_iff.2 ⟨x,y,rfl,hp,hd,rfl⟩
  | false =>
   cases h:pread (x++47::y) with
   | none=>rfl
   | some p=>rw [(key p h).2] at hd; cases hd
theorem parse_p (N:Nat) {t:List UInt8} (ht:t.length≤100000) (hN:t.length < N):n13 (N+101) t=some (parseP t):=by
 rw [e13]
 have h43:n43 (N+100) (t,[47])=some (Lib.cut t [47]):=by rw [e43]; exact aJp (by omega)
 have hs:=cut_split t [47]
 have hc:=cut_len t [47]
 refine bindB h43 ?_
 cases hf:(Lib.cut t [47]).2.2 with
 | false =>
  have hp:parseP t=(((false,0,0),0),2):=by
   unfold parseP pread
   rw [if_neg (by rw [hf]; simp)]
  rw [hp]
  refine bindB (parse_eq (N+50) (by omega) (by omega)).1 (bindB (length_p (N+98) (by omega)) (letB (v:=true) ?_ (letB (v:=true) rfl (bifT rfl rfl))))
  rfl
 | true =>
  have e:=hs hf
  have hp:=pread_at (Lib.cut t [47]).1 (Lib.cut t [47]).2.1
  rw [show (Lib.cut t [47]).1++47::(Lib.cut t [47]).2.1=t from e.symm] at hp
  unfold parseP
  rw [hp]
  obtain ⟨k1,k2⟩:=parse_eq (N+50) (t:=(Lib.cut t [47]).1) (by omega) (by omega)
  refine bindB k1 (bindB (length_p (N+98) (w:=(Lib.cut t [47]).2.1) (by omega)) ?_)
  cases ha:parse (Lib.cut t [47]).1 with
  | none=>exact letB (v:=true) rfl (letB (v:=true) rfl (bifT rfl rfl))
  | some a =>
   have hk:=k2 a ha
   cases hd:dgt (Lib.cut t [47]).2.1 with
   | false=>exact letB (v:=false) rfl (letB (v:=true) rfl (bifT rfl rfl))
   | true =>
    refine letB (v:=false) rfl (letB (v:=false) rfl (bifF rfl (bindB (width_eq (N+99) a).1 ?_)))
    simp only [if_true]
    generalize min 1000 (dval 0 (Lib.cut t [47]).2.1)=n
    by_cases hn:(n:Int) > (W a.1:Int)
    · rw [if_pos hn]; exact bifT (decide_eq_true hn) rfl
    · rw [if_neg hn]
      refine bifF (decide_eq_false hn) (bindB (valid_p (N+96) (p:=(a,(n:Int))) hk.ad) ?_)
      cases okP (a,(n:Int)) <;> rfl
/-- The last stroke. -/
theorem last_split (t:List UInt8):(Lib.lastIndexByte ⟨t.toArray⟩ 47=-1∧(47:UInt8)∉t)∨∃ x y,t=x++47::y∧Lib.lastIndexByte ⟨t.toArray⟩ 47=(x.length:Int):=by
 have at':∀ (j:Nat) (h:j < t.length),getElem! (⟨t.toArray⟩:ByteArray).data j=t[j]:=fun j h=>by
  show getElem! t.toArray j=_
  rw [getElem!_pos t.toArray j (by simpa using h)]; simp
 have hsz:(⟨t.toArray⟩:ByteArray).size=t.length:=by simp [ByteArray.size]
 rcases Lib.lastIndexByte_spec ⟨t.toArray⟩ 47 with ⟨h1,h2⟩ | ⟨i,h1,h2,h3,_⟩
 · refine .inl ⟨h1,fun hm=>?_⟩
   obtain ⟨j,hj,e⟩:=List.getElem_of_mem hm
   refine h2 j (by rw [hsz]; exact hj) ?_
   rw [at' j hj,e]; rfl
 · rw [hsz] at h1
   rw [at' i h1] at h3
   refine .inr ⟨t.take i,t.drop (i+1),?_,by rw [h2,List.length_take]; omega⟩
   have hb:t[i]=47:=UInt8.toNat_inj.1 (by show (t[i]).toNat=47; omega)
   rw [← hb,← List.drop_eq_getElem_cons h1,List.take_append_drop]
theorem dval_take (y:List UInt8) {k:Nat} (h:k < y.length):dval 0 (y.take (k+1))=dval 0 (y.take k) * 10+((y[k]).toNat - 48):=by
 rw [List.take_succ_eq_append_getElem h,dval_snoc]
theorem all_digit {y:List UInt8} (h:dgt y=true) {k:Nat} (hk:k < y.length):48≤(y[k]).toNat∧(y[k]).toNat≤57:=by
 unfold dgt at h
 rw [Bool.and_eq_true,List.all_eq_true] at h
 exact of_decide_eq_true (h.1 _ (List.getElem_mem hk))
theorem parse_pr (N:Nat) {t:List UInt8} (ht:t.length≤100000) (hN:t.length+100 < N):n25 (N+202) t=some (parseP t):=by
 rw [e25]
 have h54:n54 (N+201) (t,47)=some (Lib.lastIndexByte ⟨t.toArray⟩ 47):=by rw [e54]; exact aD3 (by omega)
 refine bindB h54 ?_
 rcases last_split t with ⟨hi,hno⟩ | ⟨x,y,e,hi⟩
 · rw [hi]
   have hp:parseP t=(((false,0,0),0),2):=by
    have:pread t=none:=by
     cases h:pread t with
     | none=>rfl
     | some p =>
      obtain ⟨x,y,e,_⟩:=pread_iff.1 h
      exact absurd (by rw [e]; simp) hno
    unfold parseP
    rw [this]
   rw [hp]
   exact letB (v:=0) rfl (bindB (bifF rfl rfl) (bindB (bifF rfl rfl) (letB (v:=true) rfl (bifT rfl rfl))))
 · have hl:t.length=x.length+(y.length+1):=by rw [e]; simp
   have hd1:aEW t (IntKind.i64.wrap ((x.length:Int)+1))=some y:=by
    have:=aJ1 (l:=t) (n:=x.length+1) (by omega)
    rw [wv ((x.length+1:Nat):Int) (by omega) (by omega) (by omega),this]
    subst e
    rw [show x++47::y=(x++[47])++y by simp,List.drop_left' (by simp)]
   have ht1:aEV t (x.length:Int)=some x:=by
    rw [aJ0 (by omega),e,List.take_left]
   have hneg:decide ((x.length:Int) < 0)=false:=decide_eq_false (by omega)
   have hp:=pread_at x y
   rw [← e] at hp
   unfold parseP
   rw [hp,hi]
   refine letB rfl (bindB (bifT (by rw [hneg]; rfl) hd1) (bindB (bifT (by rw [hneg]; rfl) (digits_r (N+200) (w:=y) (by omega) (by omega))) (letB (v:=!dgt y) (by rw [hneg]; rfl) ?_)))
   obtain ⟨k1,k2⟩:=parse_eq 100001 (t:=x) (by omega) (by omega)
   have k3:=rparse_ok (N+200) (t:=x) (by omega) (by omega)
   cases hd:dgt y with
   | false=>exact bifT rfl (by cases parse x <;> rfl)
   | true =>
    refine bifF rfl (bindB ht1 (bindB k3 ?_))
    cases ha:parse x with
    | none=>exact bifT rfl rfl
    | some a =>
     have hk:=k2 a ha
     have hb:aBq y=some (iJ y):=if_pos (by omega)
     have hle:(iJ y).length=y.length:=by unfold iJ; rw [List.length_map]
     refine bifF rfl (letB rfl (bindB hd1 (bindB hb (jB ?_))))
     refine loopN_seq' (fun k=>((((false,(0:Int),(0:Int)),(0:Int)),a,((min 1000 (dval 0 (y.take k)):Nat):Int),iJ y,(y.length:Int),(k:Int)):(((Bool×Int×Int)×Int)×((Bool×Int×Int)×(Int×(List (Int)×(Int×Int))))))) y.length ?_ (fun k hk'=>?_) ?_ (by omega)
     · unfold aJO; rw [hle]; rfl
     · have hdk:=all_digit hd hk'
       have hx:aEU (iJ y) (k:Int)=some ((y[k]).toNat:Int):=by
        rw [aJo (by rw [hle]; exact hk')]; simp [iJ]
       have hm:min 1000 (dval 0 (y.take (k+1)))=min 1000 (min 1000 (dval 0 (y.take k)) * 10+((y[k]).toNat - 48)):=by rw [dval_take y hk']; omega
       generalize hA:min 1000 (dval 0 (y.take k))=A at *
       have hA2:A≤1000:=by omega
       rw [hm]
       refine letB (v:=true) (decide_eq_true (show ((k:Int) < (y.length:Int)) by omega)) (bifT rfl (bindB hx (letB (v:=10 * (A:Int)) (wv _ rfl (by omega) (by omega)) (letB (v:=((y[k]).toNat:Int) - 48) (aIH (by omega) (by omega)) (letB (v:=10 * (A:Int)+(((y[k]).toNat:Int) - 48)) ?_ (letB (v:=(k:Int)+1) (wv _ rfl (by omega) (by omega)) ?_))))))
       · rw [pV (n:=((y[k]).toNat:Int) - 48) (by omega) (by omega)]
         exact wv _ rfl (by omega) (by omega)
       · have : mmT false 1000 (10 * (A : Int) + (((y[k]).toNat : Int) - 48)) = ((min 1000 (A * 10 + ((y[k]).toNat - 48)) : Nat) : Int) := by
           unfold mmT
           simp only [Bool.false_eq_true,if_false]
           split <;> omega
         rw [this]; rfl
     · refine letB (v:=false) (decide_eq_false (show ¬ ((y.length:Int) < (y.length:Int)) by omega)) (bifF rfl (leaveB ?_))
       rw [List.take_length]
       simp only [if_true]
       generalize min 1000 (dval 0 y)=n
       refine bindB (make_r (N+1) hk.ad (n:Int)) ?_
       unfold mkP okP
       have hv:=hk.valid
       rw [if_neg (by rw [hv]; simp)]
       by_cases hn:(n:Int) > (W a.1:Int)
       · rw [if_pos (.inr hn),if_pos hn]; exact bifT rfl rfl
       · rw [if_neg (by omega),if_neg hn,hv]
         simp only [Int.toNat_natCast]
         rw [decide_eq_true (show 0≤(n:Int)∧(n:Int)≤(W a.1:Int) from ⟨by omega,by omega⟩)]
         refine bifF rfl (letB (v:=!decide (fst a n=a)) ?_ ?_)
         · show (true != _)=_
           rw [ad_beq]
           cases decide (fst a n=a) <;> rfl
         · by_cases hf:fst a n=a
           · rw [if_pos (by simp [hf])]
             exact bifF (by rw [decide_eq_true hf]; rfl) (by rw [hf])
           · rw [if_neg (by simp [hf])]
             exact bifT (by rw [decide_eq_false hf]; rfl) rfl
end Go.Proofs.YtlgnmgbnbomckaaGreatDoor
