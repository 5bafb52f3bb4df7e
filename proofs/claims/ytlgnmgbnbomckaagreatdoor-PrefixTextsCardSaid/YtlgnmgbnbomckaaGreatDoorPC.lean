/- Chapter 02, plainly: bits, the order, halves, the deck's prefixes. -/
import Derived.Test.YtlgnmgbnbomckaaGreatDoorPB
namespace Go.Proofs.YtlgnmgbnbomckaaGreatDoor
open Go.VM
set_option maxRecDepth 10000
abbrev zP:Pf:=((false,0,0),0)
/-- A prefix out of the deck. -/
theorem prefix_ok (N:Nat) {d:Dk} (hd:DK d):∃ p d',n12 (N+210) d=some (p,d')∧PK p∧DK d':=by
 rw [e12]
 obtain ⟨a,d0,h0,ha,g0⟩:=addr_ok (N+205) hd
 have hW:=W_cases a.1
 have nx:∀ {d:Dk} (_:DK d) {b:Int} (_:0 < b) (_:b≤9223372036854775807),∃ v d',n27 (N+209) (d,b)=some (v,d')∧0≤v∧v < b∧DK d':=fun hd _ hb hb2=>next_ok (N+207) hd hb hb2
 suffices hs:∃ p d',(aBJ (fun (p4:(((Bool×Int×Int)×Int)×((Bool×Int×Int)×(Int×((List (Int))×Int))))) =>
 (n26 (N+209) (p4.2.1,p4.2.2.1)).bind fun v6 =>
 some (v6.1,p4.2.2.2)) fun j5=>(n27 (N+209) (d0,(4:Int))).bind fun v3 =>
 bif (v3.1==(0:Int)) then (aJy (IntKind.i64.wrap ((W a.1:Int)+(1:Int))) fun v9 =>
 (n27 (N+209) (v3.2,v9)).bind fun v10 =>
 j5 (zP,a,v10.1,v10.2)) else (
 bif (v3.1==(1:Int)) then ((n27 (N+209) (v3.2,(9:Int))).bind fun v13 =>
 aJy (IntKind.i64.wrap ((W a.1:Int) - v13.1)) fun v14 =>
 j5 (zP,a,v14,v13.2)) else (
 bif (v3.1==(2:Int)) then (aJy ([(8:Int),(22:Int),(23:Int),(24:Int),(16:Int)]:List (Int)) fun v17 =>
 (n27 (N+209) (v3.2,(5:Int))).bind fun v18 =>
 (aEU v17 v18.1).bind fun v19 =>
 j5 (zP, a, v19, v18.2)) else (j5 (zP, a, (W a.1 : Int), v3.2))))) = some (p, d') ∧ PK p ∧ DK d' by
  obtain ⟨p,d',e,h1,h2⟩:=hs
  refine ⟨p,d',?_,h1,h2⟩
  refine bindB h0 (jB ?_)
  rw [← e]
  show (bif a.1 then _ else _)=_
  unfold W
  cases a.1 <;> rfl
 have fin:∀ (n:Int) (d':Dk),0≤n→n≤(W a.1:Int)→(n26 (N+209) (a,n)).bind (fun v6=>some (v6.1,d'))=some ((fst a n.toNat,n),d'):=fun n d' h1 h2 =>
  bindB (make_r (N+9) ha.ad n) (by rw [mkP_ok ha h1 h2])
 obtain ⟨v1,d1,h1,a1,b1,g1⟩:=nx g0 (b:=4) (by omega) (by omega)
 by_cases c0:v1=0
 · subst c0
   have w1:IntKind.i64.wrap ((W a.1:Int)+1)=(W a.1:Int)+1:=wv _ rfl (by omega) (by omega)
   obtain ⟨v2,d2,h2,a2,b2,g2⟩:=nx g1 (b:=(W a.1:Int)+1) (by omega) (by omega)
   exact ⟨_,_,jB (bindB h1 (bifT rfl (letB w1 (bindB h2 (fin v2 d2 a2 (by omega)))))),PK_fst ha a2 (by omega),g2⟩
 by_cases c1:v1=1
 · subst c1
   obtain ⟨v2,d2,h2,a2,b2,g2⟩:=nx g1 (b:=9) (by omega) (by omega)
   have w1:IntKind.i64.wrap ((W a.1:Int) - v2)=(W a.1:Int) - v2:=wv _ rfl (by omega) (by omega)
   exact ⟨_,_,jB (bindB h1 (bifF rfl (bifT rfl (bindB h2 (letB w1 (fin ((W a.1:Int) - v2) d2 (by omega) (by omega))))))),PK_fst ha (n:=(W a.1:Int) - v2) (by omega) (by omega),g2⟩
 by_cases c2:v1=2
 · subst c2
   obtain ⟨v2,d2,h2,a2,b2,g2⟩:=nx g1 (b:=5) (by omega) (by omega)
   obtain ⟨x,q,hx⟩:=idx_mem (l:=[(8:Int),(22:Int),(23:Int),(24:Int),(16:Int)]) a2 b2
   simp only [List.mem_cons,List.not_mem_nil,or_false] at q
   exact ⟨_,_,jB (bindB h1 (bifF rfl (bifF rfl (bifT rfl (letB rfl (bindB h2 (bindB hx (fin x d2 (by omega) (by omega)))))))))  ,PK_fst ha (n:=x) (by omega) (by omega),g2⟩
 · have e0:(v1==(0:Int))=false:=by simpa using c0
   have e1:(v1==(1:Int))=false:=by simpa using c1
   have e2:(v1==(2:Int))=false:=by simpa using c2
   exact ⟨_,_,jB (bindB h1 (bifF e0 (bifF e1 (bifF e2 (fin (W a.1:Int) d1 (by omega) (by omega)))))),PK_fst ha (n:=(W a.1:Int)) (by omega) (by omega),g1⟩
end Go.Proofs.YtlgnmgbnbomckaaGreatDoor
