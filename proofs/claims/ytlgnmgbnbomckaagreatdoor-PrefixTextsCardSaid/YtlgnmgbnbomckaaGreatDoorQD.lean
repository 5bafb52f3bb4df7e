/- Chapter 01, plainly: numbers and groups as the document's answer reads them, no program. -/
import Derived.Test.YtlgnmgbnbomckaaGreatDoorQX
namespace Go.Proofs.YtlgnmgbnbomckaaGreatDoor
open Go.VM Go.Txt
set_option maxRecDepth 10000
theorem runF_inv {A:Type} {F:Nat→A→Option A} (P:A→Prop) (h:∀ i a b,P a→F i a=some b→P b):∀ m i a b,P a→runF F m i a=some b→P b
 | 0,i,a,b,ha,e=>by cases e; exact ha
 | m+1,i,a,b,ha,e=>by
  rw [runF] at e
  cases hF:F i a with
  | none=>rw [hF] at e; cases e
  | some c=>rw [hF,Option.bind_some] at e; exact runF_inv P h m (i+1) c b (h i a c ha hF) e
theorem runF_sim {A B:Type} {F:Nat→A→Option A} {G:Nat→B→Option B} (g:A→B) (n:Nat) (h:∀ i,i < n→∀ a,G i (g a)=(F i a).map g):∀ m i a,i+m≤n→runF G m i (g a)=(runF F m i a).map g
 | 0,i,a,_=>rfl
 | m+1,i,a,hi=>by
  rw [runF,runF,h i (by omega) a]
  cases F i a with
  | none=>rfl
  | some b=>exact runF_sim g n h m (i+1) b (by omega)
theorem runF_none {A:Type} {F:Nat→A→Option A} {k:Nat} (h:∀ a,F k a=none):∀ m i a,i≤k→k < i+m→runF F m i a=none
 | 0,i,a,h1,h2=>by omega
 | m+1,i,a,h1,h2=>by
  rw [runF]
  by_cases hi:i=k
  · subst hi; rw [h]; rfl
  · cases F i a with
    | none=>rfl
    | some b=>exact runF_none h m (i+1) b (by omega) (by omega)
/- a gT of digits alone -/
def decF (w:List Int) (i:Nat) (n:Int):Option Int:=if w.getD i 0 < 48∨57 < w.getD i 0∨1099511627776 < n then none else some (10 * n+(w.getD i 0 - 48))
def decR (w:List UInt8):Option Int:=runF (decF (iJ w)) w.length 0 0
def refnum (w:List UInt8):Option Int :=
 match decR w with
 | some n=>if w≠[]∧n≤255∧Lib.itoa n=w then some n else none
 | none=>none
theorem decR_nonneg {w:List UInt8} {n:Int} (h:decR w=some n):0≤n :=
 runF_inv (F:=decF (iJ w)) (fun n=>0≤n) (fun i a b ha hb=>by
  unfold decF at hb
  split at hb
  · cases hb
  · have hb:=Option.some.inj hb
    omega) w.length 0 0 n (Int.le_refl _) h
theorem refnum_itoa {n:Int} (h:0≤n∧n≤255):refnum (Lib.itoa n)=some n:=by
 obtain ⟨k,rfl⟩:=Int.eq_ofNat_of_zero_le h.1
 have:∀ k:Fin 256,refnum (Lib.itoa (k.val:Int))=some (k.val:Int):=by decide +kernel
 exact this ⟨k,by omega⟩
theorem refnum_eq (w:List UInt8):refnum w=num4 w:=by
 cases h:num4 w with
 | some v =>
  have hr:=num4_rng h
  have he:Lib.itoa v=w:=by
   unfold num4 at h
   split at h
   · rename_i hh; cases h; exact hh.2.2.2
   · cases h
  rw [← he]; exact refnum_itoa hr
 | none =>
  cases h2:refnum w with
  | none=>rfl
  | some v =>
   unfold refnum at h2
   cases h3:decR w with
   | none=>rw [h3] at h2; cases h2
   | some n =>
    rw [h3] at h2
    simp only at h2
    split at h2
    · rename_i hh
      have:=num_itoa ⟨decR_nonneg h3,hh.2.1⟩
      rw [hh.2.2,h] at this; cases this
    · cases h2
/- four numbers as bytes -/
def R4 (ps:List (List UInt8)) (i:Nat) (acc:List Int):Option (List Int):=(num4 (ps.getD i [])).map fun d=>acc++[d]
def r4 (t:List UInt8):Option (List Int):=if (parts 46 t).length=4 then runF (R4 (parts 46 t)) 4 0 [] else none
theorem R4_rng {ps:List (List UInt8)}:∀ m i a b,Bs a→runF (R4 ps) m i a=some b→Bs b∧b.length=a.length+m
 | 0,i,a,b,ha,e=>by cases e; exact ⟨ha,rfl⟩
 | m+1,i,a,b,ha,e=>by
  rw [runF] at e
  cases hF:num4 (ps.getD i []) with
  | none=>rw [R4,hF] at e; cases e
  | some d =>
   have hd:=num4_rng hF
   rw [R4,hF,Option.map_some,Option.bind_some] at e
   have:=R4_rng m (i+1) _ b (fun x hx=>by
    rcases List.mem_append.1 hx with hx | hx
    · exact ha x hx
    · rw [List.mem_singleton.1 hx]; exact hd) e
   refine ⟨this.1,?_⟩
   rw [this.2,List.length_append,List.length_singleton]; omega
theorem r4_rng {t:List UInt8} {b:List Int} (h:r4 t=some b):Bs b∧b.length=4:=by
 unfold r4 at h
 split at h
 · have:=R4_rng 4 0 [] b (fun x hx=>(List.not_mem_nil hx).elim) h
   exact ⟨this.1,by rw [this.2]; rfl⟩
 · cases h
theorem r4_four (t:List UInt8):four t=(r4 t).map ofB:=by
 unfold four r4
 split
 · have := runF_sim (F := R4 (parts 46 t)) (G := F4 (parts 46 t)) ofB 4 (fun i _ a => by
     unfold F4 R4
     cases num4 ((parts 46 t).getD i []) with
     | none=>rfl
     | some d=>simp only [Option.map_some,ofB_append]) 4 0 [] (Nat.le_refl _)
   exact this
 · rfl
/- groups as bytes -/
def two (l:List Int):List Int:=l.flatMap fun g=>[g / 256,g % 256]
theorem two_app (l m:List Int):two (l++m)=two l++two m:=by unfold two; rw [List.flatMap_append]
theorem two_len (l:List Int):(two l).length=2 * l.length:=by
 induction l with
 | nil=>rfl
 | cons a r ih =>
  have:two (a::r)=a / 256::a % 256::two r:=rfl
  rw [this]; simp only [List.length_cons,ih]; omega
theorem two_Bs {l:List Int} (h:G16 l):Bs (two l):=by
 intro x hx
 obtain ⟨g,hg,hx⟩:=List.mem_flatMap.1 hx
 have:=h g hg
 simp only [List.mem_cons,List.not_mem_nil,or_false] at hx
 rcases hx with rfl | rfl <;> omega
theorem two_ofB (l:List Int):ofB (two l)=ofG l:=by
 have:∀ (l:List Int) (a:Int),(two l).foldl (fun v b=>v * 256+b) a=l.foldl (fun v g=>v * 65536+g) a:=by
  intro l
  induction l with
  | nil=>intro a; rfl
  | cons g r ih =>
   intro a
   have:two (g::r)=g / 256::g % 256::two r:=rfl
   rw [this]
   simp only [List.foldl_cons]
   rw [ih]
   congr 1
   omega
 exact this l 0
theorem two_zeros (n:Nat):two (List.replicate n 0)=List.replicate (2 * n) 0:=by
 induction n with
 | zero=>rfl
 | succ n ih =>
  rw [List.replicate_succ,show 2 * (n+1)=2 * n+1+1 by omega,List.replicate_succ,List.replicate_succ,← ih]
  rfl
theorem four_two {b:List Int} (hb:Bs b) (hl:b.length=4):two [ofB b / 65536,ofB b % 65536]=b:=by
 obtain ⟨x,b,rfl⟩:=List.exists_cons_of_length_eq_add_one hl
 obtain ⟨y,b,rfl⟩:=List.exists_cons_of_length_eq_add_one (l:=b) (n:=2) (by simpa using hl)
 obtain ⟨z,b,rfl⟩:=List.exists_cons_of_length_eq_add_one (l:=b) (n:=1) (by simpa using hl)
 obtain ⟨w,b,rfl⟩:=List.exists_cons_of_length_eq_add_one (l:=b) (n:=0) (by simpa using hl)
 obtain rfl:b=[]:=List.eq_nil_of_length_eq_zero (by simpa using hl)
 have h1:=hb x (by simp)
 have h2:=hb y (by simp)
 have h3:=hb z (by simp)
 have h4:=hb w (by simp)
 have e:ofB [x,y,z,w]=((x * 256+y) * 256+z) * 256+w:=by simp [ofB]
 rw [e]
 have:∀ p q:Int,two [p,q]=[p / 256,p % 256,q / 256,q % 256]:=fun _ _=>rfl
 rw [this]
 congr 1
 · omega
 congr 1
 · omega
 congr 1
 · omega
 congr 1
 omega
def RG (ps:List (List UInt8)) (i:Nat) (acc:List Int):Option (List Int) :=
 if i+1=ps.length∧Lib.contains (ps.getD i []) [46]=true then (r4 (ps.getD i [])).map fun b=>acc++b else (dig (ps.getD i [])).map fun v=>acc++[v / 256,v % 256]
def rg (t:List UInt8):Option (List Int):=if t=[] then some [] else runF (RG (parts 58 t)) (parts 58 t).length 0 []
theorem nBytes_get {w:List UInt8} {i:Nat} (h:i < w.length):(iJ w).getD i 0=((w[i]'h).toNat:Int):=by
 unfold iJ
 rw [List.getD,List.getElem?_map,List.getElem?_eq_getElem h]; rfl
/-- A dot is no digit. -/
theorem dig_dot {w:List UInt8} (h:46∈w):dig w=none:=by
 unfold dig
 split
 · obtain ⟨k,hk,e⟩:=List.getElem_of_mem h
   refine runF_none (k:=k) (fun a=>?_) _ _ _ (Nat.zero_le _) (by omega)
   unfold F16
   rw [nBytes_get hk,e]
   rfl
 · rfl
theorem contains_one {c:UInt8} {s:List UInt8}:Lib.contains s [c]=true↔c∈s:=by
 constructor
 · intro h
   obtain ⟨x,y,e⟩:=contains_split h
   rw [e]; simp
 · intro h
   obtain ⟨x,y,e,_⟩:=first_at h
   rw [e,show x++c::y=x++([c]++y) by simp]
   exact contains_app _ _ _
theorem four_nodot {w:List UInt8} (h:46∉w):four w=none:=by
 unfold four
 rw [parts_none 46 h]; rfl
theorem rg_list6 (t:List UInt8):rg t=(list6 true t).map two:=by
 unfold rg list6
 split
 · rfl
 · refine runF_sim two _ (fun i hi a=>?_) _ 0 [] (Nat.le_of_eq (Nat.zero_add _))
   unfold RG F6
   simp only [true_and]
   have step:((dig ((parts 58 t).getD i [])).map fun v=>two a++[v / 256,v % 256])=((dig ((parts 58 t).getD i [])).map fun v=>a++[v]).map two:=by
    cases dig ((parts 58 t).getD i []) with
    | none=>rfl
    | some v=>simp only [Option.map_some,two_app]; rfl
   by_cases hl:i+1=(parts 58 t).length
   · rw [if_pos hl]
     by_cases hc:Lib.contains ((parts 58 t).getD i []) [46]=true
     · rw [if_pos ⟨hl,hc⟩,r4_four]
       cases h4:r4 ((parts 58 t).getD i []) with
       | none=>rw [dig_dot (contains_one.1 hc)]; rfl
       | some b =>
        obtain ⟨b1,b2⟩:=r4_rng h4
        simp only [Option.map_some,two_app]
        rw [four_two b1 b2]
     · rw [if_neg fun h=>hc h.2,four_nodot fun h=>hc (contains_one.2 h)]
       exact step
   · rw [if_neg hl,if_neg fun h=>hl h.1]
     exact step
/-- Without a tail a text with a dot has no groups; one without a dot has the same as with a tail. -/
theorem list6_dot {t:List UInt8} (h:46∈t):list6 false t=none:=by
 unfold list6
 have hne:t≠[]:=fun e=>by rw [e] at h; cases h
 rw [if_neg hne]
 have:∀ t:List UInt8,46∈t→∃ w∈parts 58 t,46∈w:=by
  intro t
  induction t with
  | nil=>intro h; cases h
  | cons b l ih =>
   intro h
   by_cases hb:b=58
   · subst hb
     rcases List.mem_cons.1 h with h | h
     · cases h
     · obtain ⟨w,h1,h2⟩:=ih h
       exact ⟨w,by rw [parts,if_pos rfl]; exact List.mem_cons_of_mem _ h1,h2⟩
   · obtain ⟨x,r,e1,e2⟩:=parts_hd 58 b l hb
     rw [e2]
     rcases List.mem_cons.1 h with h | h
     · exact ⟨b::x,List.mem_cons_self ..,by rw [h]; exact List.mem_cons_self ..⟩
     · obtain ⟨w,h1,h2⟩:=ih h
       rw [e1] at h1
       rcases List.mem_cons.1 h1 with rfl | h1
       · exact ⟨b::w,List.mem_cons_self ..,List.mem_cons_of_mem _ h2⟩
       · exact ⟨w,List.mem_cons_of_mem _ h1,h2⟩
 obtain ⟨w,h1,h2⟩:=this t h
 obtain ⟨k,hk,e⟩:=List.getElem_of_mem h1
 refine runF_none (k:=k) (fun a=>?_) _ _ _ (Nat.zero_le _) (by omega)
 unfold F6
 rw [if_neg (by simp),List.getD,List.getElem?_eq_getElem hk,Option.getD_some,e,dig_dot h2]
 rfl
theorem list6_nodot {t:List UInt8} (h:46∉t):list6 false t=list6 true t:=by
 unfold list6
 split
 · rfl
 · have : F6 false (parts 58 t) = F6 true (parts 58 t) := by
     funext i a
     unfold F6
     rw [if_neg (by simp)]
     have hn:four ((parts 58 t).getD i [])=none:=by
      refine four_nodot fun hm=>?_
      by_cases hi:i < (parts 58 t).length
      · rw [List.getD,List.getElem?_eq_getElem hi,Option.getD_some] at hm
        exact h ((parts_mem 58 t _ (List.getElem_mem hi)).2 46 hm)
      · rw [List.getD,List.getElem?_eq_none (by omega)] at hm
        cases hm
     rw [hn]; simp
   rw [this]
/- the whole -/
def rparse (t:List UInt8):Option Ad :=
 if Lib.contains t [58]=true then
  if Lib.index t [58,58] < 0 then
   match rg t with
   | some b=>if b.length=16 then some (mkA true (ofB b)) else none
   | none=>none
  else
   match rg (t.take (Lib.index t [58,58]).toNat),rg (t.drop ((Lib.index t [58,58]).toNat+2)) with
   | some b,some c=>if Lib.contains (t.take (Lib.index t [58,58]).toNat) [46]=true∨b.length+c.length > 14 then none else some (mkA true (ofB (b++List.replicate (16 - b.length - c.length) 0++c)))
   | _,_=>none
 else (r4 t).map fun b=>(false,0,ofB b)
theorem rparse_eq (t:List UInt8):rparse t=parse t:=by
 unfold rparse parse
 split
 · unfold six
   by_cases hi:Lib.index t [58,58] < 0
   · have hc:Lib.cut t [58,58]=(t,[],false):=if_neg (by omega)
     rw [if_pos hi,hc]
     simp only [Bool.false_eq_true,if_false]
     rw [rg_list6]
     cases list6 true t with
     | none=>rfl
     | some l =>
      simp only [Option.map_some,two_len]
      by_cases h8:l.length=8
      · rw [if_pos h8,if_pos (by omega),Option.map_some,two_ofB]
      · rw [if_neg h8,if_neg (by omega)]; rfl
   · have hc:Lib.cut t [58,58]=(t.take (Lib.index t [58,58]).toNat,t.drop ((Lib.index t [58,58]).toNat+2),true):=if_pos (by omega)
     rw [if_neg hi,hc]
     simp only [if_true]
     rw [rg_list6,rg_list6]
     generalize t.take (Lib.index t [58,58]).toNat=x
     generalize t.drop ((Lib.index t [58,58]).toNat+2)=y
     by_cases hd:46∈x
     · rw [list6_dot hd,contains_one.2 hd]
       cases list6 true x with
       | none=>cases list6 true y <;> rfl
       | some l=>cases list6 true y <;> simp
     · have hc:¬ Lib.contains x [46]=true:=fun h=>hd (contains_one.1 h)
       rw [list6_nodot hd]
       cases list6 true x with
       | none=>cases list6 true y <;> rfl
       | some l =>
        cases list6 true y with
        | none=>rfl
        | some m =>
         simp only [Option.map_some,two_len]
         by_cases h7:l.length+m.length > 7
         · rw [if_pos h7,if_pos (.inr (by omega))]; rfl
         · rw [if_neg h7,if_neg (by rintro (h | h); exact hc h; omega),Option.map_some,← two_ofB (l++List.replicate (8 - l.length - m.length) 0++m),two_app,two_app,two_zeros,show 16 - 2 * l.length - 2 * m.length=2 * (8 - l.length - m.length) by omega]
 · rw [r4_four]
   cases r4 t <;> rfl
end Go.Proofs.YtlgnmgbnbomckaaGreatDoor
