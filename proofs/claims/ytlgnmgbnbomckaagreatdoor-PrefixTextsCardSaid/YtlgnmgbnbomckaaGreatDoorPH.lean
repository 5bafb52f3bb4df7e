/- Chapter 02, plainly: numbers and strokes in texts, what is read as a prefix, no program. -/
import Derived.Test.YtlgnmgbnbomckaaGreatDoorQZ
import Derived.Test.YtlgnmgbnbomckaaGreatDoorQD
import Derived.Test.YtlgnmgbnbomckaaGreatDoorPA
namespace Go.Proofs.YtlgnmgbnbomckaaGreatDoor
open Go.VM Go.Txt
set_option maxRecDepth 10000
/- a text with a stroke is no address -/
theorem part_at {c d:UInt8} {t:List UInt8} (h:c∈t) (hc:c≠d):∃ k,k < (parts d t).length∧c∈(parts d t).getD k []:=by
 have h2:c∈Lib.join (parts d t) [d]:=by rw [join_parts]; exact h
 rcases join_mem h2 with e | ⟨w,hw,hcw⟩
 · exact absurd e hc
 · obtain ⟨k,hk,e⟩:=List.getElem_of_mem hw
   refine ⟨k,hk,?_⟩
   rw [List.getD,List.getElem?_eq_getElem hk,e]
   exact hcw
theorem num4_no {w:List UInt8} (h:47∈w):num4 w=none:=by
 unfold num4
 split
 · rename_i h1
   refine absurd ?_ (itoa_no (b:=(aD4 w).1) ⟨h1.2.1,h1.2.2.1⟩ (c:=47) (.inl (by decide)))
   rw [h1.2.2.2]; exact h
 · rfl
theorem four_no {t:List UInt8} (h:47∈t):four t=none:=by
 unfold four
 split
 · obtain ⟨k,hk,hw⟩:=part_at (d:=46) h (by decide)
   refine runF_none (k:=k) (fun a=>?_) _ _ _ (Nat.zero_le _) (by omega)
   unfold F4
   rw [num4_no hw]; rfl
 · rfl
theorem dig_no {w:List UInt8} (h:47∈w):dig w=none:=by
 unfold dig
 split
 · obtain ⟨k,hk,e⟩:=List.getElem_of_mem h
   refine runF_none (k:=k) (fun a=>?_) _ _ _ (Nat.zero_le _) (by omega)
   unfold F16
   rw [nBytes_get hk,e]
   rfl
 · rfl
theorem list6_no {t:List UInt8} (h:47∈t) (last:Bool):list6 last t=none:=by
 unfold list6
 split
 · rename_i e; subst e; cases h
 · obtain ⟨k,hk,hw⟩:=part_at (d:=58) h (by decide)
   refine runF_none (k:=k) (fun a=>?_) _ _ _ (Nat.zero_le _) (by omega)
   unfold F6
   rw [four_no hw,dig_no hw,ite_self]; rfl
theorem cut_split (t s:List UInt8):(Lib.cut t s).2.2=true→t=(Lib.cut t s).1++(s++(Lib.cut t s).2.1):=by
 unfold Lib.cut
 split
 · rename_i h
   intro _
   obtain ⟨x,y,e,hx⟩:=index_split (s:=t) (t:=s) (i:=(Lib.index t s).toNat) (by omega)
   have h1:t.take (Lib.index t s).toNat=x:=by rw [← hx,e,List.take_left]
   have h2:t.drop ((Lib.index t s).toNat+s.length)=y:=by rw [← hx,e,← List.append_assoc,← List.length_append,List.drop_left]
   show t=t.take _++(s++t.drop _)
   rw [h1,h2]; exact e
 · intro h; cases h
theorem six_no {t:List UInt8} (h:47∈t):six t=none:=by
 unfold six
 split
 · rename_i hc
   have e:=cut_split t [58,58] hc
   rw [e] at h
   rcases List.mem_append.1 h with h | h
   · rw [list6_no h]
   · rcases List.mem_append.1 h with h | h
     · exact absurd h (by decide)
     · rw [list6_no h]; cases list6 false (Lib.cut t [58,58]).1 <;> rfl
 · rw [list6_no h]
theorem parse_no {t:List UInt8} (h:47∈t):parse t=none:=by
 unfold parse
 rw [six_no h,four_no h]
 split <;> rfl
/- numbers -/
def isD (c:UInt8):Bool:=decide (48≤c.toNat∧c.toNat≤57)
def dval (a:Nat) (l:List UInt8):Nat:=l.foldl (fun a c=>a * 10+(c.toNat - 48)) a
theorem dval_nil (a:Nat):dval a []=a:=rfl
theorem dval_cons (a:Nat) (c:UInt8) (r:List UInt8):dval a (c::r)=dval (a * 10+(c.toNat - 48)) r:=by unfold dval; rw [List.foldl_cons]
theorem dval_ge:∀ (l:List UInt8) (a:Nat),a≤dval a l
 | [],_=>Nat.le_refl _
 | c::r,a=>by rw [dval_cons]; exact Nat.le_trans (by omega) (dval_ge r _)
theorem dval_snoc (c:UInt8) (l:List UInt8) (a:Nat):dval a (l++[c])=dval a l * 10+(c.toNat - 48):=by
 unfold dval
 rw [List.foldl_append]; rfl
theorem parse_digits:∀ (l:List UInt8) (a:Nat),a < 18446744073709551616→l.all isD=true→Lib.parseUint10 a l=if dval a l < 18446744073709551616 then .ok (dval a l) else .range
 | [],a,h,_=>by rw [Lib.parseUint10,dval_nil,if_pos h]
 | c::r,a,h,hd=>by
  rw [List.all_cons,Bool.and_eq_true] at hd
  have hc:48≤c.toNat∧c.toNat≤57:=of_decide_eq_true hd.1
  rw [Lib.parseUint10,if_pos hc,dval_cons]
  have hg:=dval_ge r (a * 10+(c.toNat - 48))
  by_cases h1:1844674407370955162≤a
  · rw [if_pos h1,if_neg (by omega)]
  · rw [if_neg h1]
    by_cases h2:18446744073709551616≤a * 10+(c.toNat - 48)
    · rw [if_pos h2,if_neg (by omega)]
    · rw [if_neg h2]; exact parse_digits r _ (by omega) hd.2
theorem atoi_digits {w:List UInt8} (hw:w≠[]) (hd:w.all isD=true):(dval 0 w < 9223372036854775808∧aD4 w=((dval 0 w:Int),false))∨(9223372036854775808≤dval 0 w∧(aD4 w).2=true):=by
 cases w with
 | nil=>exact absurd rfl hw
 | cons c r =>
  have hp:=parse_digits (c::r) 0 (by decide) hd
  rw [List.all_cons,Bool.and_eq_true] at hd
  have hc:48≤c.toNat∧c.toNat≤57:=of_decide_eq_true hd.1
  have hm:Lib.parseMag (if c.toNat=43∨c.toNat=45 then r else c::r)=if dval 0 (c::r) < 18446744073709551616 then .ok (dval 0 (c::r)) else .range:=by
   rw [if_neg (by omega),Lib.parseMag,if_neg (by simp),hp]
  have ha:Lib.atoiAll (c::r)=if dval 0 (c::r) < 9223372036854775808 then .ok (dval 0 (c::r):Int) else .range:=by
   unfold Lib.atoiAll
   simp only [hm]
   by_cases h1:dval 0 (c::r) < 18446744073709551616
   · rw [if_pos h1]
     by_cases h2:dval 0 (c::r) < 9223372036854775808
     · rw [if_pos h2]
       show (if ¬ c.toNat=45∧_ then _ else _)=_
       rw [if_neg (by omega),if_neg (by omega),if_neg (by omega)]
     · rw [if_neg h2]
       show (if ¬ c.toNat=45∧_ then _ else _)=_
       rw [if_pos (by omega)]
   · rw [if_neg h1,if_neg (by omega)]
  unfold aD4
  rw [ha]
  by_cases h2:dval 0 (c::r) < 9223372036854775808
  · rw [if_pos h2]; exact .inl ⟨h2,rfl⟩
  · rw [if_neg h2]; exact .inr ⟨by omega,rfl⟩
abbrev D10:List UInt8:=[48,49,50,51,52,53,54,55,56,57]
theorem isD_digs (b:UInt8):D10.contains b=isD b:=by
 have:∀ k:Fin 256,D10.contains (UInt8.ofNat k.val)=isD (UInt8.ofNat k.val):=by decide +kernel
 have h:=this ⟨b.toNat,b.toNat_lt⟩
 rwa [UInt8.ofNat_toNat] at h
theorem dropWhile_all {p:UInt8→Bool}:∀ {l:List UInt8},(∀ x∈l.dropWhile p,p x=true)→l.dropWhile p=[]
 | [],_=>rfl
 | a::l,h=>by
  rw [List.dropWhile] at h ⊢
  cases hp:p a with
  | true=>rw [hp] at h; exact dropWhile_all h
  | false=>rw [hp] at h; have:=h a List.mem_cons_self; rw [hp] at this; cases this
theorem dropWhile_nil {p:UInt8→Bool}:∀ {l:List UInt8},l.dropWhile p=[]↔∀ x∈l,p x=true
 | []=>by simp
 | a::l=>by
  rw [List.dropWhile_cons]
  cases h:p a <;> simp [h,dropWhile_nil (l:=l)]
theorem trim_digits (w:List UInt8):Lib.trimS w D10=[]↔w.all isD=true:=by
 unfold Lib.trimS Lib.trimLeftS Lib.trimRightS
 constructor
 · intro h
   rw [dropWhile_nil] at h
   have h2:=dropWhile_all (p:=fun x=>D10.contains x) (l:=w.reverse) (fun x hx=>h x (List.mem_reverse.2 hx))
   rw [dropWhile_nil] at h2
   rw [List.all_eq_true]; intro x hx; rw [← isD_digs]; exact h2 x (List.mem_reverse.2 hx)
 · intro h
   have h2:w.reverse.dropWhile (fun x=>D10.contains x)=[]:=by
    rw [dropWhile_nil]; intro x hx; rw [isD_digs]; exact List.all_eq_true.1 h x (List.mem_reverse.1 hx)
   rw [h2]; rfl
/-- A gT without leading zeros. -/
def dgt (w:List UInt8):Bool:=w.all isD&&(!(w==[])&&(!(w.getD 0 0==48)||decide (w.length=1)))
theorem dgt_no {w:List UInt8} (h:dgt w=true):47∉w:=fun hm=>by
 unfold dgt at h
 rw [Bool.and_eq_true,List.all_eq_true] at h
 exact absurd (h.1 _ hm) (by decide)
/- prefixes -/
def pread (t:List UInt8):Option (Ad×Nat):=if (Lib.cut t [47]).2.2=true then (match parse (Lib.cut t [47]).1 with | some a=>if dgt (Lib.cut t [47]).2.1=true then some (a,min 1000 (dval 0 (Lib.cut t [47]).2.1)) else none | none=>none) else none
theorem one_stroke {x y u v:List UInt8} (h:x++47::y=u++47::v) (hx:(47:UInt8)∉x) (hy:(47:UInt8)∉y):u=x∧v=y:=by
 have e:=parts_app 47 x y
 rw [h,parts_app,parts_none 47 hx,parts_none 47 hy] at e
 have ju:=join_parts 47 u
 have jv:=join_parts 47 v
 cases hu:parts 47 u with
 | nil=>exact absurd hu (parts_ne 47 u)
 | cons a r =>
  rw [hu] at e ju
  cases r with
  | nil =>
   simp only [List.cons_append,List.nil_append,List.cons.injEq] at e
   rw [e.2] at jv
   rw [e.1] at ju
   exact ⟨ju.symm.trans (Lib.join_one _ _),jv.symm.trans (Lib.join_one _ _)⟩
  | cons b r =>
   cases hv:parts 47 v with
   | nil=>exact absurd hv (parts_ne 47 v)
   | cons d s =>
    rw [hv] at e
    have:=congrArg List.length e
    simp at this
theorem pread_iff {t:List UInt8} {a:Ad} {n:Nat}:pread t=some (a,n)↔∃ x y,t=x++47::y∧parse x=some a∧dgt y=true∧n=min 1000 (dval 0 y):=by
 have hs:=cut_split t [47]
 unfold pread
 constructor
 · intro h
   split at h
   · rename_i hc
     cases hp:parse (Lib.cut t [47]).1 with
     | none=>rw [hp] at h; cases h
     | some b =>
      rw [hp] at h
      simp only at h
      split at h
      · rename_i hd
        cases h
        exact ⟨_,_,hs hc,hp,hd,rfl⟩
      · cases h
   · cases h
 · rintro ⟨x,y,rfl,hp,hd,rfl⟩
   have hx:(47:UInt8)∉x:=fun h=>by rw [parse_no h] at hp; cases hp
   have hc:(Lib.cut (x++47::y) [47]).2.2=true:=by
    have:Lib.contains (x++47::y) [47]=true:=contains_one.2 (by simp)
    unfold Lib.contains at this
    unfold Lib.cut
    rw [if_pos (of_decide_eq_true this)]
   obtain ⟨e1,e2⟩:=one_stroke (u:=(Lib.cut (x++47::y) [47]).1) (v:=(Lib.cut (x++47::y) [47]).2.1) (hs hc) hx (dgt_no hd)
   rw [if_pos hc,e1,e2,hp]
   simp only [hd,if_true]
/-- The text of a prefix. -/
def txtP (p:Pf):List UInt8:=txt p.1++47::Lib.itoa p.2
theorem itoa_dgt {n:Int} (h:0≤n∧n≤255):dgt (Lib.itoa n)=true∧dval 0 (Lib.itoa n)=n.toNat:=by
 obtain ⟨k,rfl⟩:=Int.eq_ofNat_of_zero_le h.1
 have:∀ k:Fin 256,dgt (Lib.itoa (k.val:Int))=true∧dval 0 (Lib.itoa (k.val:Int))=k.val:=by decide +kernel
 exact this ⟨k,by omega⟩
theorem pread_txt {p:Pf} (h:PK p):pread (txtP p)=some (p.1,p.2.toNat):=by
 have hW:=W_cases p.1.1
 obtain ⟨h1,h2,h3,h4⟩:=h
 have hi:=itoa_dgt (n:=p.2) ⟨h2,by omega⟩
 exact pread_iff.2 ⟨_,_,rfl,parse_txt h1,hi.1,by rw [hi.2]; omega⟩
end Go.Proofs.YtlgnmgbnbomckaaGreatDoor
