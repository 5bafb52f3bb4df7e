/- Chapter 17, plainly: a text read, by the program and by the document. -/
import Derived.Test.YtghpknbkecolnaaGreatDoorCE
namespace Go.Proofs.YtghpknbkecolnaaGreatDoor
open Go.VM Go.Txt
set_option maxRecDepth 10000
theorem PW_len {pn:List UInt8→Option Int} {p q:List Cm×List Lg} {w:List UInt8} (h:PW pn p w=some q):q.1.length≤p.1.length+1∧q.2.length≤p.2.length+1:=by
 unfold PW at h
 split at h
 · have h:=Option.some.inj h; subst h; exact ⟨by simp,by simp⟩
 · have h:=Option.some.inj h; subst h; exact ⟨by simp,by simp⟩
 · cases h
def FE (vc:List Cm→Option Bool) (vl:List Lg→Option Bool) (pr:List Cm×List Lg→Option (List UInt8)) (s:List UInt8) (l:List Cm) (m:List Lg):Option RR :=
 (vc l).bind fun v4 =>
 (bif (!(!v4)) then (vl m) else some false).bind fun v5 =>
 aJy (bif (!v4) then true else (!v5)) fun v6 =>
 (bif (!v6) then (pr (l,m)) else some ([]:List UInt8)).bind fun v7 =>
 aJy (bif v6 then true else (!(v7==s))) fun v8 =>
 bif v8 then (some (([]:List ((Int×Int))),([]:List ((Int×Int×Int))),(2:Int))) else (some (l,m,(0:Int)))
theorem FE_ok {vc:List Cm→Option Bool} {vl:List Lg→Option Bool} {pr:List Cm×List Lg→Option (List UInt8)} {s:List UInt8} {l:List Cm} {m:List Lg} (h1:vc l=some (vldC l)) (h2:vl m=some (vldL m)) (h3:pr (l,m)=some (printP l m)):FE vc vl pr s l m=some (res s (some (l,m))):=by
 unfold FE res
 refine bindB h1 ?_
 cases hc:vldC l with
 | false=>exact bindB (v:=false) rfl (letB (v:=true) rfl (bindB rfl (letB (v:=true) rfl (bifT rfl (by simp [hc])))))
 | true =>
  refine bindB (bifT rfl h2) ?_
  cases hd:vldL m with
  | false=>exact letB (v:=true) rfl (bindB rfl (letB (v:=true) rfl (bifT rfl (by simp [hd]))))
  | true =>
   refine letB (v:=false) rfl (bindB (bifT rfl h3) (letB (v:=!(printP l m==s)) rfl ?_))
   have e:printP l m=prt l m:=by unfold printP; rw [hc,hd]; rfl
   rw [e]
   by_cases k:prt l m=s
   · exact bifF (by simp [k]) (by simp [k,hc,hd])
   · exact bifT (by simp [k]) (by simp [k,hc,hd])
theorem getD_len {ws:List (List UInt8)} {k:Nat} (h:∀ w∈ws,w.length≤k) (i:Nat):(ws.getD i []).length≤k:=by
 rw [List.getD]
 cases hh:ws[i]? with
 | none=>exact Nat.zero_le _
 | some w=>exact h w (List.mem_of_getElem? hh)
theorem nIdx_getD {T:Type} {ws:List T} {i:Nat} (z:T) (h:i < ws.length):aEU ws (i:Int)=some (ws.getD i z):=by rw [aJo h,List.getD,List.getElem?_eq_getElem h]; rfl
theorem parse_p (N:Nat) (hN:4000 < N) {s:List UInt8} (hs:s.length≤3000):n13 (N+100) s=some (res s (parse0 pnP (Lib.fieldsD s))):=by
 rw [e13]
 obtain ⟨f1,f2⟩:=fields_len s
 have h38:n38 (N+99) s=some (Lib.fieldsD s):=by rw [e38]; exact qFields_ok (by omega)
 have vend:∀ (l:List Cm) (m:List Lg),l.length≤3001→m.length≤3001→FE (n18 (N+99)) (n26 (N+99)) (n11 (N+99)) s l m=some (res s (some (l,m))):=fun l m h1 h2 =>
  FE_ok (valid_c (N+49) (by omega) (by omega)) (valid_l (N+49) (by omega) (by omega)) (print_p (N+39) (by omega) (by omega) (by omega) (by omega) (by omega))
 refine letB (v:=false) (decide_eq_false (by unfold aJO; omega)) (bifF rfl (bindB h38 (jB ?_)))
 unfold parse0
 generalize Lib.fieldsD s=ws at *
 refine loopF_go (fun i p=>PW pnP p (ws.getD i [])) (fun i p=>p.1.length≤i∧p.2.length≤i) (fun i p=>((s,p.1,p.2,ws,aJO ws,(i:Int)):SS)) ws.length bad (fun p=>res s (some p)) ([],[]) rfl ⟨by simp,by simp⟩ (fun i hi p hP=>?_) (fun p hP=>?_) (by omega) ?_
 · have wl:=getD_len f2 i
   have st := word_step (N + 98) (num := n40 (N + 99)) (q := fun b => true != !b) (pn := pnP) (fun x v hx h => by
       unfold pnP at h
       split at h
       · cases h
       · rename_i hb
         have h:=Option.some.inj h
         rw [e40]
         exact ⟨(aD4 x).2,by rw [aJ7 (by omega),← h],by rw [Bool.not_eq_true] at hb; rw [hb]; rfl⟩) (fun x hx h=>by
       unfold pnP at h
       split at h
       · rename_i hb
         rw [e40]
         exact ⟨aD4 x,aJ7 (by omega),by rw [hb]; rfl⟩
       · cases h) (s:=s) (w:=ws.getD i []) (l:=p.1) (m:=p.2) (ws:=ws) (n:=aJO ws) (i:=i) (by omega) (by omega) (by omega) (by omega) (by omega)
   have hx:=nIdx_getD [] hi
   refine ⟨fun b hb=>⟨?_,?_⟩,fun hb=>?_⟩
   · have:=PW_len hb; omega
   · refine letB (v:=true) (decide_eq_true (show (i:Int) < aJO ws by unfold aJO; omega)) (bifT rfl (jB (bindB hx (st.trans ?_))))
     rw [show PW pnP (p.1,p.2) (ws.getD i [])=some b from hb]
   · refine letB (v:=true) (decide_eq_true (show (i:Int) < aJO ws by unfold aJO; omega)) (bifT rfl (jB (bindB hx (st.trans ?_))))
     rw [show PW pnP (p.1,p.2) (ws.getD i [])=none from hb]
 · refine letB (v:=false) (decide_eq_false (show ¬ (ws.length:Int) < aJO ws by unfold aJO; omega)) (bifF rfl (leaveB ?_))
   exact vend p.1 p.2 (by omega) (by omega)
 · cases runF (fun i p=>PW pnP p (ws.getD i [])) ws.length 0 ([],[]) <;> rfl
end Go.Proofs.YtghpknbkecolnaaGreatDoor
