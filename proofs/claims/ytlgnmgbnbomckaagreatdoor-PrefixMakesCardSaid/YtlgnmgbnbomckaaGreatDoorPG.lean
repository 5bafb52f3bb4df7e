/- Chapter 02, plainly: prefixes made and compared, contained and covered. -/
import Derived.Test.YtlgnmgbnbomckaaGreatDoorPE
import Derived.Test.YtlgnmgbnbomckaaGreatDoorNEL6
import Derived.Test.YtlgnmgbnbomckaaGreatDoorNEL8
namespace Go.Proofs.YtlgnmgbnbomckaaGreatDoor
open Go.VM
set_option maxRecDepth 10000
theorem u64_of {x:Int} (h:IntKind.u64.min≤x∧x≤IntKind.u64.max):U64 x:=⟨h.1,Int.lt_of_le_of_lt h.2 (by decide)⟩
theorem same_p (x:Pf):(true != (((x.1.1==x.1.1)&&((x.1.2.1==x.1.2.1)&&(x.1.2.2==x.1.2.2)))&&(x.2==x.2)))=false:=by simp
theorem three {α:Type} {x y z:α} {k:Nat} {P:α→Prop} (hk:k < 3) (hx:P x) (hy:P y) (hz:P z):∃ v,aEU [x,y,z] (k:Int)=some v∧P v:=by
 have:k=0∨k=1∨k=2:=by omega
 rcases this with rfl | rfl | rfl
 · exact ⟨x,rfl,hx⟩
 · exact ⟨y,rfl,hy⟩
 · exact ⟨z,rfl,hz⟩
theorem inc (k:Nat) (h:k≤1000000):IntKind.i64.wrap ((k:Int)+1)=((k+1:Nat):Int):=wv _ (by omega) (by omega) (by omega)
/-- PrefixMakes. -/
theorem cB {raw:Pf} {a:Ad} {l:List Int} {n:Int} (h:l.length≤9223372036854775807) (hraw:AD raw.1) (ha:AD a) (hn:n≤9223372036854775807):n8 2000 (raw,a,l,n)=some true:=by
 rw [e8]
 obtain ⟨p,d1,h1,hp,hd1⟩:=prefix_ok 1789 (DK0 h)
 obtain ⟨q,d2,h2,hq,hd2⟩:=prefix_ok 1789 hd1
 obtain ⟨x,d3,h3,hx,hd3⟩:=addr_ok 1995 hd2
 obtain ⟨k5,g5,r5,s5⟩:=mod_ok 1998 (a:=n) (b:=5) (by omega) (by omega)
 obtain ⟨k132,g132,r132,s132⟩:=mod_ok 1998 (a:=n) (b:=132) (by omega) (by omega)
 obtain ⟨k36,g36,r36,s36⟩:=mod_ok 1998 (a:=n) (b:=36) (by omega) (by omega)
 have hW:=W_cases p.1.1
 have hp3:=hp.2.2.1
 have hp2:=hp.2.1
 have w1:IntKind.i64.wrap (k5 - 2)=k5 - 2:=wv _ rfl (by omega) (by omega)
 have w2:IntKind.i64.wrap (p.2+(k5 - 2))=p.2+(k5 - 2):=wv _ rfl (by omega) (by omega)
 have w3:IntKind.i64.wrap (k132 - 2)=k132 - 2:=wv _ rfl (by omega) (by omega)
 have w4:IntKind.i64.wrap (k36 - 2)=k36 - 2:=wv _ rfl (by omega) (by omega)
 refine bindB (new_eq _ _) (bindB h1 (bindB h2 (bindB h3 (bindB g5 (letB w1 (letB w2 (letB rfl (jB ?_))))))))
 refine loopN_seq' (s:=fun k=>(n,a,p,q,x,[raw,p,((p.1,p.2+(k5 - 2)):Pf)],(3:Int),(k:Int))) 3 rfl (fun k hk=>?_) ?_ (m:=1999) (by omega)
 · obtain ⟨y,hy,ho⟩:=three (x:=raw) (y:=p) (z:=((p.1,p.2+(k5 - 2)):Pf)) (P:=fun y=>AD y.1) hk hraw hp.1.ad hp.1.ad
   exact letB (v:=true) (decide_eq_true (by show (k:Int) < 3; omega)) (bifT rfl (bindB hy (bindB (valid_p 1995 ho) (bindB (valid_r 1798 ho) (bifF (by simp) (letB (inc k (by omega)) rfl))))))
 refine letB (v:=false) rfl (bifF rfl (leaveB (bindB g132 (letB w3 (bindB g36 (letB w4 (letB rfl (jB ?_))))))))
 refine loopN_seq' (s:=fun k=>(a,p,q,x,[n,k132 - 2,k36 - 2],(3:Int),(k:Int))) 3 rfl (fun k hk=>?_) ?_ (m:=1999) (by omega)
 · obtain ⟨v,hv,hvr⟩:=three (x:=n) (y:=k132 - 2) (z:=k36 - 2) (P:=fun v=>v≤9223372036854775807) hk hn (by omega) (by omega)
   refine letB (v:=true) (decide_eq_true (by show (k:Int) < 3; omega)) (bifT rfl (jB (bindB hv (letB rfl (jB ?_)))))
   refine loopN_seq' (s:=fun j=>(a,p,q,x,v,[n,k132 - 2,k36 - 2],(3:Int),(k:Int),[a,x],(2:Int),(j:Int))) 2 rfl (fun j hj=>?_) ?_ (m:=1999) (by omega)
   · have hz : ∃ z, aEU [a, x] (j : Int) = some z ∧ AD z := by
       have:j=0∨j=1:=by omega
       rcases this with rfl | rfl
       · exact ⟨a,rfl,ha⟩
       · exact ⟨x,rfl,hx.ad⟩
     obtain ⟨z,hz,hzo⟩:=hz
     exact letB (v:=true) (decide_eq_true (by show (j:Int) < 2; omega)) (bifT rfl (bindB hz (bindB (make_p 1995 hzo v) (bindB (make_r 1799 hzo v) (letB (v:=false) (same_p _) (letB (v:=false) (bifF rfl (bne_self_eq_false _)) (bifF rfl (letB (inc j (by omega)) rfl))))))))
   · exact letB (v:=false) rfl (bifF rfl (leaveB (bindB (bit_p 1997 hx.ad hvr) (bindB (bit_r 1978 hx v) (bifF (bne_self_eq_false _) (letB (inc k (by omega)) rfl))))))
 refine letB (v:=false) rfl (bifF rfl (leaveB ?_))
 have c1:=cmp_p 1990 (p:=p) (q:=q) hp.1.ad hq.1.ad
 have c2:=cmp_p 1990 (p:=q) (q:=p) hq.1.ad hp.1.ad
 have c3:=(cmp_p 1990 (p:=p) (q:=p) hp.1.ad hp.1.ad).1
 rw [cmpP_self] at c3
 have b1:(cmpP p q==cmpP p q)=true:=by simp
 have b2:(cmpP q p==cmpP q p)=true:=by simp
 exact bindB c1.1 (bindB c1.2 (bindB (bifT b1 c2.1) (bindB (bifT b1 c2.2) (letB (v:=true) (bifT b1 b2) (bindB (bifT rfl c3) (letB (v:=true) rfl (bindB (bifT rfl (awake' (by omega))) (letB rfl rfl))))))))
/-- PrefixCovers. -/
theorem coversL {raw too:Pf} {l:List Int} (h:l.length≤9223372036854775807) (hraw:AD raw.1) (htoo:AD too.1):n6 2000 (raw,too,l)=some true:=by
 rw [e6]
 obtain ⟨p,d1,h1,hp,hd1⟩:=prefix_ok 1789 (DK0 h)
 obtain ⟨q,d2,h2,hq,hd2⟩:=prefix_ok 1789 hd1
 obtain ⟨a,d3,h3,ha,hd3⟩:=addr_ok 1995 hd2
 obtain ⟨k9,d4,g9,r9,s9,hd4⟩:=next_ok 1997 hd3 (b:=9) (by omega) (by omega)
 have hW:=W_cases p.1.1
 have hp3:=hp.2.2.1
 have hp2:=hp.2.1
 have w1:IntKind.i64.wrap (p.2 - k9)=p.2 - k9:=wv _ rfl (by omega) (by omega)
 obtain ⟨m,hm⟩:∃ m,mmT true (0:Int) (p.2 - k9)=m:=⟨_,rfl⟩
 have hmr:0≤m∧m≤(W p.1.1:Int):=by
  rw [← hm]; unfold mmT
  simp only [if_true]
  split <;> omega
 have hmk:=make_r 1799 hp.1.ad m
 rw [mkP_ok hp.1 hmr.1 hmr.2] at hmk
 have hN:=PK_fst hp.1 hmr.1 hmr.2
 generalize hn:((fst p.1 m.toNat,m):Pf)=near at *
 refine bindB (new_eq _ _) (bindB h1 (bindB h2 (bindB h3 (bindB g9 (letB w1 ?_)))))
 rw [hm]
 have refl:∀ x:Ad,(true != ((x.1==x.1)&&((x.2.1==x.2.1)&&(x.2.2==x.2.2))))=false:=fun x=>by simp
 have bb:∀ x:Bool,(true != (x==x))=false:=fun x=>by simp
 refine bindB hmk (bindB (contains_p 1995 ha.ad) (bindB (contains_r 1798 ha) (bindB (v:=lst p) (bifT (by rw [bb]; rfl) (last_p 1994 hp)) (bindB (v:=lst p) (bifT (by rw [bb]; rfl) (last_r 1799 hp)) (letB (v:=false) (refl _) (letB (v:=false) (bifF (bb _) rfl) (bifF rfl (letB rfl (jB ?_)))))))))
 refine loopN_seq' (s:=fun k=>(raw,too,p,q,near,[(p,q),(near,p),(p,near),(p,p)],(4:Int),(k:Int))) 4 rfl (fun k hk=>?_) ?_ (m:=1999) (by omega)
 · have hz : ∃ x y : Pf, aEU [(p, q), (near, p), (p, near), (p, p)] (k : Int) = some (x, y) ∧ OkA y.1 := by
     have:k=0∨k=1∨k=2∨k=3:=by omega
     rcases this with rfl | rfl | rfl | rfl
     · exact ⟨p,q,rfl,hq.1⟩
     · exact ⟨near,p,rfl,hp.1⟩
     · exact ⟨p,near,rfl,hN.1⟩
     · exact ⟨p,p,rfl,hp.1⟩
   obtain ⟨x,y,hz,ho⟩:=hz
   exact letB (v:=true) (decide_eq_true (by show (k:Int) < 4; omega)) (bifT rfl (bindB hz (bindB (covers_p 1994 ho.ad) (bindB (covers_r 1797 ho) (bindB (v:=cont x y.1) (bifT (by rw [bb]; rfl) (contains_p 1995 ho.ad)) (bindB (v:=cont x y.1) (bifT (by rw [bb]; rfl) (contains_r 1798 ho)) (letB (v:=false) (bifF (bb _) (bb _)) (bifF rfl (letB (inc k (by omega)) rfl)))))))))
 refine letB (v:=false) rfl (bifF rfl (leaveB (letB rfl (jB ?_))))
 refine loopN_seq' (s:=fun k=>(too,q,near,[raw,p,near],(3:Int),(k:Int))) 3 rfl (fun k hk=>?_) ?_ (m:=1999) (by omega)
 · obtain ⟨y,hy,ho⟩:=three (x:=raw) (y:=p) (z:=near) (P:=fun y=>AD y.1) hk hraw hp.1.ad hN.1.ad
   refine letB (v:=true) (decide_eq_true (by show (k:Int) < 3; omega)) (bifT rfl (jB (bindB hy (bindB (halves_p 1989 ho) (bindB (halves_r 1789 ho) (letB (v:=false) (same_p _) (letB (v:=false) (same_p _) (letB (v:=false) (bifF rfl (bne_self_eq_false _)) (bifF rfl (letB rfl (jB ?_)))))))))))
   refine loopN_seq' (s:=fun j=>(too,q,near,y,[raw,p,near],(3:Int),(k:Int),[too,q,near],(3:Int),(j:Int))) 3 rfl (fun j hj=>?_) ?_ (m:=1999) (by omega)
   · obtain ⟨z,hz,hzo⟩:=three (x:=too) (y:=q) (z:=near) (P:=fun y=>AD y.1) hj htoo hq.1.ad hN.1.ad
     exact letB (v:=true) (decide_eq_true (by show (j:Int) < 3; omega)) (bifT rfl (bindB hz (bindB (common_p 1989 ho hzo) (bindB (common_r 1789 ho hzo) (letB (v:=false) (same_p _) (letB (v:=false) (bifF rfl (bne_self_eq_false _)) (bifF rfl (letB (inc j (by omega)) rfl))))))))
   · exact letB (v:=false) rfl (bifF rfl (leaveB (letB (inc k (by omega)) rfl)))
 · exact letB (v:=false) rfl (bifF rfl (leaveB (bindB (awake' (by omega)) rfl)))
end Go.Proofs.YtlgnmgbnbomckaaGreatDoor
