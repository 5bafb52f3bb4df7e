/- Chapter 01, plainly: an address comes back from its text, the whole. -/
import Derived.Test.YtlgnmgbnbomckaaGreatDoorQX
namespace Go.Proofs.YtlgnmgbnbomckaaGreatDoor
open Go.VM Go.Txt
set_option maxRecDepth 10000
theorem join_mem {c d:UInt8}:∀ {ws:List (List UInt8)},c∈Lib.join ws [d]→c=d∨∃ w∈ws,c∈w
 | [],h=>(List.not_mem_nil h).elim
 | [w],h=>by rw [Lib.join_one] at h; exact .inr ⟨w,List.mem_singleton.2 rfl,h⟩
 | x::y::r,h=>by
  rw [join_cons2] at h
  rcases List.mem_append.1 h with h | h
  · exact .inr ⟨x,List.mem_cons_self ..,h⟩
  · rcases List.mem_cons.1 h with h | h
    · exact .inl h
    · rcases join_mem h with h | ⟨w,hw,h⟩
      · exact .inl h
      · exact .inr ⟨w,List.mem_cons_of_mem _ hw,h⟩
theorem mem_drop_one {p q:List (List UInt8)} (hp:p≠[]):[]∈(p++[]::q).drop 1:=by
 obtain ⟨a,p,rfl⟩:=List.exists_cons_of_ne_nil hp
 simp
theorem cut_J {l m:List Int} (hl:G16 l):Lib.cut (J l++([58,58]++J m)) [58,58]=(J l,J m,true):=by
 have hc:=List.count_eq_zero.1 (drop_J hl).1
 have hidx:Lib.index (J l++([58,58]++J m)) [58,58]=((J l).length:Nat):=by
  refine Lib.index_first (by simp) ?_ fun j hj=>?_
  · unfold Lib.occAt
    rw [List.drop_left]
    exact List.isPrefixOf_iff_prefix.2 ⟨J m,rfl⟩
  · rw [Bool.eq_false_iff]
    intro ho
    unfold Lib.occAt at ho
    rw [List.drop_append_of_le_length (by omega)] at ho
    have hsplit:=List.take_append_drop j (J l)
    cases hd:(J l).drop j with
    | nil=>have:=congrArg List.length hd; rw [List.length_drop] at this; simp at this; omega
    | cons c r =>
     rw [hd] at ho hsplit
     cases r with
     | nil =>
      have hc58:c=58:=by
       simp only [List.cons_append,List.nil_append,List.isPrefixOf,Bool.and_eq_true,beq_iff_eq] at ho
       exact ho.1.symm
      subst hc58
      rw [← hsplit,parts_app] at hc
      exact hc (mem_drop_one (parts_ne _ _))
     | cons d r =>
      have hcd:c=58∧d=58:=by
       simp only [List.cons_append,List.isPrefixOf,Bool.and_eq_true,beq_iff_eq] at ho
       exact ⟨ho.1.symm,ho.2.1.symm⟩
      obtain ⟨rfl,rfl⟩:=hcd
      rw [← hsplit,show (J l).take j++58::58::r=(J l).take j++([58,58]++r) by simp,parts_two] at hc
      exact hc (mem_drop_one (parts_ne _ _))
 unfold Lib.cut
 rw [hidx,if_pos (by omega)]
 simp only [Int.toNat_natCast,List.take_left]
 have e2:(J l++([58,58]++J m)).drop ((J l).length+[(58:UInt8),58].length)=J m:=by
  rw [← List.append_assoc,show (J l).length+[(58:UInt8),58].length=(J l++[58,58]).length by simp,List.drop_left]
 rw [e2]
theorem lgM_run (z:List Bool):∀ i,(lgM z i).2=0∨(lgM z i).2=runl (z.drop (lgM z i).1)
 | 0=>.inl rfl
 | i+1=>by
  unfold lgM lgStep
  split
  · exact .inr rfl
  · exact lgM_run z i
theorem zeros_mid (v:Int):((gsL v).drop (lgM (zs (gsL v)) 8).1).take (lgM (zs (gsL v)) 8).2=List.replicate (lgM (zs (gsL v)) 8).2 0:=by
 have hle:=lgM_le (zs (gsL v)) rfl 8 (Nat.le_refl _)
 rcases lgM_run (zs (gsL v)) 8 with h | h
 · rw [h]; rfl
 · apply List.ext_getElem
   · rw [List.length_take,List.length_drop,List.length_replicate,show (gsL v).length=8 from rfl]; omega
   · intro j h1 h2
     rw [List.length_replicate] at h2
     have ht:=runl_at ((zs (gsL v)).drop (lgM (zs (gsL v)) 8).1) j (by rw [← h]; exact h2)
     have e:∀ i:Nat,(zs (gsL v))[i]?=((gsL v)[i]?).map (·==0):=fun i=>by rw [zs,List.getElem?_map]
     rw [List.getElem?_drop,e] at ht
     rw [List.getElem_take,List.getElem_drop,List.getElem_replicate]
     obtain ⟨g,hg,hz⟩:=Option.map_eq_some_iff.1 ht
     have:=(List.getElem?_eq_some_iff.1 hg).2
     rw [this]
     simpa using hz
theorem six_txt (v:Int):six (txt6 v)=some (gsL v):=by
 have hle:=lgM_le (zs (gsL v)) rfl 8 (Nat.le_refl _)
 have hgs:(gsL v).length=8:=rfl
 obtain ⟨_,_,hc⟩:=inner_txt v
 by_cases h:(lgM (zs (gsL v)) 8).2=0
 · rw [h] at hc
   have hcut:(Lib.cut (txt6 v) [58,58]).2.2=false:=by
    unfold Lib.contains at hc
    have hc:¬ 0≤Lib.index (txt6 v) [58,58]:=of_decide_eq_false hc
    unfold Lib.cut
    rw [if_neg hc]
   unfold six
   rw [if_neg (by rw [hcut]; simp)]
   rw [txt6,if_pos h,list6_J (gsL_rng v)]
   rfl
 · have hA:G16 ((gsL v).take (lgM (zs (gsL v)) 8).1):=fun g hg=>gsL_rng v g (List.mem_of_mem_take hg)
   have hB:G16 ((gsL v).drop ((lgM (zs (gsL v)) 8).1+(lgM (zs (gsL v)) 8).2)):=fun g hg=>gsL_rng v g (List.mem_of_mem_drop hg)
   have hmid:=zeros_mid v
   have h2:2≤(lgM (zs (gsL v)) 8).2:=by
    have rel:(lgM (zs (gsL v)) 8).2=if (rbM (zs (gsL v)) 8).2 < 2 then 0 else (rbM (zs (gsL v)) 8).2:=lg_rb _ _ _ _ _ _ _ _
    split at rel <;> omega
   unfold six
   rw [txt6,if_neg h,cut_J hA,if_pos rfl]
   simp only
   rw [list6_J hA,list6_J hB]
   simp only
   rw [if_neg (by rw [List.length_take,List.length_drop,hgs]; omega)]
   congr 1
   generalize (lgM (zs (gsL v)) 8).1=p at *
   generalize (lgM (zs (gsL v)) 8).2=n at *
   have hn:8 - ((gsL v).take p).length - ((gsL v).drop (p+n)).length=n:=by rw [List.length_take,List.length_drop,hgs]; omega
   rw [hn,← hmid,List.append_assoc]
   conv=>rhs; rw [← List.take_append_drop p (gsL v)]
   congr 1
   conv=>rhs; rw [← List.take_append_drop n ((gsL v).drop p)]
   rw [List.drop_drop]
theorem ofG_gs {v:Int} (h0:0≤v) (h1:v < 340282366920938463463374607431768211456):ofG (gsL v)=v:=by
 have st:∀ (k:Nat),v / 65536 ^ (k+1) * 65536+v / 65536 ^ k % 65536=v / 65536 ^ k:=fun k=>by
  rw [div65]; omega
 have h8:v / 65536 ^ 8=0:=Int.ediv_eq_zero_of_lt h0 h1
 have s7:=st 7
 have s6:=st 6
 have s5:=st 5
 have s4:=st 4
 have s3:=st 3
 have s2:=st 2
 have s1:=st 1
 have s0:=st 0
 rw [h8] at s7
 simp only [ofG,gsL,List.foldl_cons,List.foldl_nil,gr]
 rw [s7,s6,s5,s4,s3,s2,s1,s0,Int.pow_zero,Int.ediv_one]
theorem parse_txt {a:Ad} (h:OkA a):parse (txt a)=some a:=by
 have hr:=h.rng
 obtain ⟨f,x,y⟩:=a
 cases f with
 | false =>
  obtain ⟨hx,hy⟩:=h.2.2 rfl
  simp only at hx hy
  subst hx
  have hv:valid (false,0,y)=true:=h.valid
  have hb:bytesA (false,0,y)=beI 4 y:=by
   unfold bytesA
   rw [hv,if_pos rfl]
   show beI 4 (0 * 18446744073709551616+y)=_
   rw [Int.zero_mul,Int.zero_add]
  have hl:(beI 4 y).length=4:=beI_length 4 y
  have ht:txt (false,0,y)=J4 (beI 4 y):=by rw [txt,hb]; rfl
  rw [ht]
  unfold parse
  have hno:(58:UInt8)∉J4 (beI 4 y):=by
   intro hm
   rcases join_mem hm with h | ⟨w,hw,h⟩
   · exact absurd h (by decide)
   · obtain ⟨b,hb',rfl⟩:=List.mem_map.1 hw
     exact itoa_no (beI_rng 4 y b hb') (.inr (by decide)) h
  have e4:y % 256 ^ 4=y:=Int.emod_eq_of_lt h.2.1.1 (by show y < 4294967296; exact hy)
  rw [not_contains hno,if_neg (by simp),four_J4 hl (beI_rng 4 y),ofB_beI,e4]
  rfl
 | true =>
  have ht:txt (true,x,y)=txt6 (val (true,x,y)):=rfl
  rw [ht]
  unfold parse
  have hc:Lib.contains (txt6 (val (true,x,y))) [58]=true:=by
   refine contains_two ?_
   unfold txt6
   split
   · rw [parts_J (gsL_rng _)]
     simp [gsL]
   · rw [parts_two,List.length_append,List.length_cons]
     have h1:=List.length_pos_iff.2 (parts_ne 58 (J ((gsL (val (true,x,y))).take (lgM (zs (gsL (val (true,x,y)))) 8).1)))
     omega
  rw [hc,if_pos rfl,six_txt,Option.map_some,ofG_gs hr.1 hr.2]
  exact congrArg some h.ad.mk_val
end Go.Proofs.YtlgnmgbnbomckaaGreatDoor
