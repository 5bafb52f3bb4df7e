/- The functions that the walks by hand call, as contracts: out of the table Z. -/
import Derived.Test.YtajoneenakjifaaDoorZO
import Derived.Test.YtajoneenakjifaaDoorZE1
import Derived.Test.YtajoneenakjifaaDoorEG
import Derived.Test.YtajoneenakjifaaDoorHPP
namespace Go.Proofs.YtajoneenakjifaaDoor
open Go.RowKit Go.Lib Go.VM
theorem z40 (N:Nat) (a:Int):Z.n40 (N+1) a=n40 (N+1) a:=by rw [Z.e40,e40]
theorem z17 (N:Nat) (p:List Seg):Z.n17 (N+2) p=n17 (N+2) p:=by rw [Z.e17,e17]; simp only [z40]
theorem z14 (N:Nat) (p:List Seg):Z.n14 (N+1) p=n14 (N+1) p:=by rw [Z.e14,e14]
theorem z27 (N:Nat) (a b:Int):Z.n27 (N+1) (a,b)=n27 (N+1) (a,b):=by rw [Z.e27,e27]
theorem z37 (N:Nat) (l:List Int) (s:List UInt8):Z.n37 (N+2) (l,s)=n37 (N+2) (l,s):=by rw [Z.e37,e37]; simp only [Z.e38,e38,Z.e49,e49]
theorem z11 (N:Nat) (p:List Seg):Z.n11 (N+3) p=n11 (N+3) p:=by rw [Z.e11,e11]; simp only [z17,z37,Z.e38,e38]
abbrev OmA:World→Prop:=OmW Tryd.prog true true none (some 1)
theorem zOm {w W:World} (hΩ:∀ w':World,(∀ b,b < w.heap.size→w'.heap[b]?=w.heap[b]?)→OmA w') (hb:Below w.heap.size w W):∀ w':World,(∀ b,b < W.heap.size→w'.heap[b]?=W.heap[b]?)→Z.Ow w':=fun w' h =>
 (hΩ w' fun b hb'=>(h b (Nat.lt_of_lt_of_le hb' hb.size)).trans (hb.block b hb')).1
theorem slTy {t:Ty}:∀ p∈[PK.d (.sl t)],∃ u,p=.d u∧(u.agg=true∨u.size=1):=fun p hp=>by
 simp only [List.mem_cons,List.not_mem_nil,or_false] at hp
 exact ⟨_,hp,.inr rfl⟩
theorem hvI {W:World} {Q:Nat→Prop} (a:Int):HV W Q (.int .i64) a (.int .i64 a):=⟨rfl,rfl⟩
theorem callsOk (w:World) (hΩ:∀ w':World,(∀ b,b < w.heap.size→w'.heap[b]?=w.heap[b]?)→OmA w'):CallsOk w where
 valid L v W hb hm hv:=by
  have hty:wZ ⟨[.d (.sl tyS)],[(.bool,[])],none⟩ [] (call Z.FT 200004 17) (nfN Z.TN 200004 17):=by
   have h:=Z.typed 200004 17
   unfold aF7 at h
   rw [Z.sigOk 17] at h
   exact h
  have hx:Z.n17 200004 L=some (pvd L):=by rw [z17 200002]; exact valid_p 200002 (by decide) hm.1 hm.2
  refine (calls_typed (Z.tableOk) (f:=17) (ps:=[.d (.sl tyS)]) (rs:=[(.bool,[])]) (vf:=Z.vf17) rfl hty slTy (by decide) (zOm hΩ hb) hx ⟨_,_,rfl,hv,rfl⟩).mono fun e W' ⟨rcs,e1,e2,e3⟩=>⟨?_,e2⟩
  obtain ⟨c1,cs1,rfl,h1,rfl⟩:=e3
  have h1:[c1]=[.bool (pvd L)]:=hv_one h1 rfl
  cases h1
  rw [e1]; rfl
 numb a W hb:=by
  have hty:wZ ⟨[.d (.int .i64)],[(.bool,[])],none⟩ [] (call Z.FT 200004 40) (nfN Z.TN 200004 40):=by
   have h:=Z.typed 200004 40
   unfold aF7 at h
   rw [Z.sigOk 40] at h
   exact h
  have hx:Z.n40 200004 a=some (num a):=by rw [z40]; exact num_n _ a
  refine (calls_typed (Z.tableOk) (f:=40) (ps:=[.d (.int .i64)]) (rs:=[(.bool,[])]) (vf:=Z.vf40) rfl hty (fun p hp=>by
   simp only [List.mem_cons,List.not_mem_nil,or_false] at hp
   exact ⟨_,hp,.inr rfl⟩) (by decide) (zOm hΩ hb) (Q:=fun _=>True) hx ⟨_,_,rfl,hvI a,rfl⟩).mono fun e W' ⟨rcs,e1,e2,e3⟩=>⟨?_,e2⟩
  obtain ⟨c1,cs1,rfl,h1,rfl⟩:=e3
  have h1:[c1]=[.bool (num a)]:=hv_one h1 rfl
  cases h1
  rw [e1]; rfl
 flat L v W hb hm hv:=by
  have hty:wZ ⟨[.d (.sl tyS)],[(.sl (.int .i64),[(0,true)])],none⟩ [] (call Z.FT 200004 14) (nfN Z.TN 200004 14):=by
   have h:=Z.typed 200004 14
   unfold aF7 at h
   rw [Z.sigOk 14] at h
   exact h
  have hx:Z.n14 200004 L=some (flat L):=by rw [z14]; exact flat_n 200003 (by have:=hm.1; omega) hm.1 hm.2
  refine (calls_typed (Z.tableOk) (f:=14) (ps:=[.d (.sl tyS)]) (rs:=[(.sl (.int .i64),[(0,true)])]) (vf:=Z.vf14) rfl hty slTy (by decide) (zOm hΩ hb) hx ⟨_,_,rfl,hv,rfl⟩).mono fun e W' ⟨rcs,e1,e2,e3⟩=>⟨?_,e2⟩
  obtain ⟨c1,cs1,rfl,h1,rfl⟩:=e3
  rw [e1]
  rcases hc_slice (hv_one h1 rfl) with ⟨h0,rfl⟩ | ⟨a,cap,rows,rfl,_⟩
  · have h0:flat L=[]:=h0
    have:=flat_len L
    rw [h0] at this
    rw [← this]
    exact ⟨none,0,rfl⟩
  · have:=flat_len L
    refine ⟨some a,cap,?_⟩
    rw [← this]; rfl
 print L v W hb hp hv:=by
  have hty:wZ ⟨[.d (.sl tyS)],[(.str,[])],none⟩ [] (call Z.FT 200023 11) (nfN Z.TN 200023 11):=by
   have h:=Z.typed 200023 11
   unfold aF7 at h
   rw [Z.sigOk 11] at h
   exact h
  have hx:Z.n11 200023 L=some (prt L):=by rw [z11 200020]; exact print_n 200003 (by decide) hp
  refine (calls_typed (Z.tableOk) (f:=11) (ps:=[.d (.sl tyS)]) (rs:=[(.str,[])]) (vf:=Z.vf11) rfl hty slTy (by decide) (zOm hΩ hb) hx ⟨_,_,rfl,hv,rfl⟩).mono fun e W' ⟨rcs,e1,e2,e3⟩=>⟨?_,e2⟩
  obtain ⟨c1,cs1,rfl,h1,rfl⟩:=e3
  obtain ⟨t,h2,h3⟩:∃ t:ByteArray,[c1]=[.string t]∧t.data.toList=prt L:=hv_one h1 rfl
  cases h2
  exact ⟨t,by rw [e1]; rfl,h3⟩
 mod a b W hb h0 h1:=by
  have hty:wZ ⟨[.d (.int .i64),.d (.int .i64)],[(.int .i64,[])],none⟩ [] (call Z.FT 200004 27) (nfN Z.TN 200004 27):=by
   have h:=Z.typed 200004 27
   unfold aF7 at h
   rw [Z.sigOk 27] at h
   exact h
  have hx:Z.n27 200004 (a,b)=some (a % b):=by rw [z27]; exact modE _ h0 h1
  refine (calls_typed (Z.tableOk) (f:=27) (ps:=[.d (.int .i64),.d (.int .i64)]) (rs:=[(.int .i64,[])]) (vf:=Z.vf27) rfl hty (fun p hp=>by
   simp only [List.mem_cons,List.not_mem_nil,or_false] at hp
   rcases hp with rfl | rfl <;> exact ⟨_,rfl,.inr rfl⟩) (by decide) (zOm hΩ hb) (Q:=fun _=>True) hx ⟨_,_,rfl,hvI a,_,_,rfl,hvI b,rfl⟩).mono fun e W' ⟨rcs,e1,e2,e3⟩=>⟨?_,e2⟩
  obtain ⟨c1,cs1,rfl,h1,rfl⟩:=e3
  have h1:[c1]=[.int .i64 (a % b)]:=hv_one h1 rfl
  cases h1
  rw [e1]; rfl
end Go.Proofs.YtajoneenakjifaaDoor
