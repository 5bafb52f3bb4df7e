/- The functions that the walks by hand call, as contracts: out of the table Z. -/
import Derived.Test.YtajoneenakjifaaGreatDoorZO
import Derived.Test.YtajoneenakjifaaGreatDoorZE1
import Derived.Test.YtajoneenakjifaaGreatDoorEP
import Derived.Test.YtajoneenakjifaaGreatDoorHPP
namespace Go.Proofs.YtajoneenakjifaaGreatDoor
open Go.RowKit Go.Lib Go.VM
theorem z35 (N:Nat) (a:Int):Z.n35 (N+1) a=n35 (N+1) a:=by rw [Z.e35,e35]
theorem z22 (N:Nat) (p:List Seg):Z.n22 (N+2) p=n22 (N+2) p:=by rw [Z.e22,e22]; simp only [z35]
theorem z23 (N:Nat) (l:List Int) (s:List UInt8):Z.n23 (N+2) (l,s)=n23 (N+2) (l,s):=by rw [Z.e23,e23]; simp only [Z.e21,e21,Z.e31,e31]
theorem z9 (N:Nat) (p:List Seg):Z.n9 (N+3) p=n9 (N+3) p:=by rw [Z.e9,e9]; simp only [z22,z23,Z.e21,e21]
theorem z19 (N:Nat) (p:List Seg):Z.n19 (N+2) p=n19 (N+2) p:=by rw [Z.e19,e19]
theorem z20 (N:Nat) (l:List Int) (s:List UInt8):Z.n20 (N+2) (l,s)=n20 (N+2) (l,s):=by rw [Z.e20,e20]; simp only [Z.e21,e21,Z.e31,e31]
theorem z8 (N:Nat) (p:List Seg):Z.n8 (N+3) p=n8 (N+3) p:=by rw [Z.e8,e8]; simp only [z19,z20,Z.e21,e21]
abbrev OmA:World→Prop:=OmW Tryz.prog true true none (some 1)
theorem zOm {w W:World} (hΩ:∀ w':World,(∀ b,b < w.heap.size→w'.heap[b]?=w.heap[b]?)→OmA w') (hb:Below w.heap.size w W):∀ w':World,(∀ b,b < W.heap.size→w'.heap[b]?=W.heap[b]?)→Z.Ow w':=fun w' h =>
 (hΩ w' fun b hb'=>(h b (Nat.lt_of_lt_of_le hb' hb.size)).trans (hb.block b hb')).1
theorem slTy {t:Ty}:∀ p∈[PK.d (.sl t)],∃ u,p=.d u∧(u.agg=true∨u.size=1):=fun p hp=>by
 simp only [List.mem_cons,List.not_mem_nil,or_false] at hp
 exact ⟨_,hp,.inr rfl⟩
theorem callsOk (w:World) (hΩ:∀ w':World,(∀ b,b < w.heap.size→w'.heap[b]?=w.heap[b]?)→OmA w'):CallsOk w where
 valid L v W hb hm hv:=by
  have hty:wZ ⟨[.d (.sl tyS)],[(.bool,[])],none⟩ [] (call Z.FT 200004 22) (nfN Z.TN 200004 22):=by
   have h:=Z.typed 200004 22
   unfold aF7 at h
   rw [Z.sigOk 22] at h
   exact h
  have hx:Z.n22 200004 L=some (pvd L):=by rw [z22 200002]; exact valid_p 200002 (by decide) hm.1 hm.2
  refine (calls_typed (Z.tableOk) (f:=22) (ps:=[.d (.sl tyS)]) (rs:=[(.bool,[])]) (vf:=Z.vf22) rfl hty slTy (by decide) (zOm hΩ hb) hx ⟨_,_,rfl,hv,rfl⟩).mono fun e W' ⟨rcs,e1,e2,e3⟩=>⟨?_,e2⟩
  obtain ⟨c1,cs1,rfl,h1,rfl⟩:=e3
  have h1:[c1]=[.bool (pvd L)]:=hv_one h1 rfl
  cases h1
  rw [e1]; rfl
 print L v W hb hp hv:=by
  have hty:wZ ⟨[.d (.sl tyS)],[(.str,[])],none⟩ [] (call Z.FT 200023 9) (nfN Z.TN 200023 9):=by
   have h:=Z.typed 200023 9
   unfold aF7 at h
   rw [Z.sigOk 9] at h
   exact h
  have hx:Z.n9 200023 L=some (prt L):=by rw [z9 200020]; exact print_n 200003 (by decide) hp
  refine (calls_typed (Z.tableOk) (f:=9) (ps:=[.d (.sl tyS)]) (rs:=[(.str,[])]) (vf:=Z.vf9) rfl hty slTy (by decide) (zOm hΩ hb) hx ⟨_,_,rfl,hv,rfl⟩).mono fun e W' ⟨rcs,e1,e2,e3⟩=>⟨?_,e2⟩
  obtain ⟨c1,cs1,rfl,h1,rfl⟩:=e3
  obtain ⟨t,h2,h3⟩:∃ t:ByteArray,[c1]=[.string t]∧t.data.toList=prt L:=hv_one h1 rfl
  cases h2
  exact ⟨t,by rw [e1]; rfl,h3⟩
 rvalid L v W hb hm hv:=by
  have hty:wZ ⟨[.d (.sl tyS)],[(.bool,[])],none⟩ [] (call Z.FT 200004 19) (nfN Z.TN 200004 19):=by
   have h:=Z.typed 200004 19
   unfold aF7 at h
   rw [Z.sigOk 19] at h
   exact h
  have hx:Z.n19 200004 L=some (pvd L):=by rw [z19 200002]; exact valid_r 200002 (by decide) hm.1 hm.2
  refine (calls_typed (Z.tableOk) (f:=19) (ps:=[.d (.sl tyS)]) (rs:=[(.bool,[])]) (vf:=Z.vf19) rfl hty slTy (by decide) (zOm hΩ hb) hx ⟨_,_,rfl,hv,rfl⟩).mono fun e W' ⟨rcs,e1,e2,e3⟩=>⟨?_,e2⟩
  obtain ⟨c1,cs1,rfl,h1,rfl⟩:=e3
  have h1:[c1]=[.bool (pvd L)]:=hv_one h1 rfl
  cases h1
  rw [e1]; rfl
 rprint L v W hb hm hv:=by
  have hty:wZ ⟨[.d (.sl tyS)],[(.str,[])],none⟩ [] (call Z.FT 200023 8) (nfN Z.TN 200023 8):=by
   have h:=Z.typed 200023 8
   unfold aF7 at h
   rw [Z.sigOk 8] at h
   exact h
  have hx:Z.n8 200023 L=some (if pvd L=true then prt L else []):=by
   rw [z8 200020]
   cases hp:pvd L with
   | true=>exact print_r 200003 (by decide) hp
   | false=>exact print_r0 200003 (by decide) hm hp
  refine (calls_typed (Z.tableOk) (f:=8) (ps:=[.d (.sl tyS)]) (rs:=[(.str,[])]) (vf:=Z.vf8) rfl hty slTy (by decide) (zOm hΩ hb) hx ⟨_,_,rfl,hv,rfl⟩).mono fun e W' ⟨rcs,e1,e2,e3⟩=>⟨?_,e2⟩
  obtain ⟨c1,cs1,rfl,h1,rfl⟩:=e3
  obtain ⟨t,h2,h3⟩:∃ t:ByteArray,[c1]=[.string t]∧t.data.toList=if pvd L=true then prt L else []:=hv_one h1 rfl
  cases h2
  exact ⟨t,by rw [e1]; rfl,h3⟩
 dcm s W hb hl:=by
  have hty:wZ ⟨[.d .str],[(.int .i64,[]),(.bool,[])],none⟩ [] (call Z.FT 200004 30) (nfN Z.TN 200004 30):=by
   have h:=Z.typed 200004 30
   unfold aF7 at h
   rw [Z.sigOk 30] at h
   exact h
  have hx:Z.n30 200004 s.data.toList=some (dec s.data.toList):=dec_n 200003 (by omega) (by omega)
  refine (calls_typed (Z.tableOk) (f:=30) (ps:=[.d .str]) (rs:=[(.int .i64,[]),(.bool,[])]) (vf:=Z.vf30) rfl hty (fun p hp=>by
   simp only [List.mem_cons,List.not_mem_nil,or_false] at hp
   exact ⟨_,hp,.inr rfl⟩) (by decide) (zOm hΩ hb) (Q:=fun _=>True) hx ⟨_,_,rfl,⟨⟨s,rfl,rfl⟩,rfl⟩,rfl⟩).mono fun e W' ⟨rcs,e1,e2,e3⟩=>⟨?_,e2⟩
  obtain ⟨c1,cs1,rfl,h1,c2,cs2,rfl,h2,rfl⟩:=e3
  have h1:[c1]=[.int .i64 (dec s.data.toList).1]:=hv_one h1 rfl
  have h2:[c2]=[.bool (dec s.data.toList).2]:=hv_one h2 rfl
  cases h1
  cases h2
  rw [e1]; rfl
end Go.Proofs.YtajoneenakjifaaGreatDoor
