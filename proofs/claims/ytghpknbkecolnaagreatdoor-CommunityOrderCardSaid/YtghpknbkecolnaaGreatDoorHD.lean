/- Walked by hand: add and without as functions of lists. -/
import Derived.Test.YtghpknbkecolnaaGreatDoorH2
import Derived.Test.YtghpknbkecolnaaGreatDoorZA
namespace Go.Proofs.YtghpknbkecolnaaGreatDoor
open Go.VM
/-- What 'add' comes to,of an ordered list. -/
def addR {T:Type} [DecidableEq T] (i:Nat) (l:List T) (c:T):List T×Int:=if l[i]?=some c then (l,0) else if l.length=64 then ([],3) else (l.take i++[c]++l.drop i,0)
def Srt {T:Type} (les:T→T→Bool) (l:List T) (c:T):Prop:=l.length≤100000∧∀ i j (hi:i < l.length) (hj:j < l.length),i≤j→les l[j] c=true→les l[i] c=true
open Classical in
/-- 'add' as it is read: of ordered lists alone. -/
noncomputable def gAdd {T:Type} [DecidableEq T] (les:T→T→Bool) (x:List T×T×Unit):Option (List T×Int) :=
 if h:Srt les x.1 x.2.1∧∃ i,Z.Place les x.1 x.2.1 i then some (addR h.2.choose x.1 x.2.1) else none
theorem gAdd_eq {T:Type} [DecidableEq T] {les:T→T→Bool} {l:List T} {c:T} {i:Nat} (h:Srt les l c) (hi:Z.Place les l c i):gAdd les (l,c,())=some (addR i l c):=by
 have hh:Srt les l c∧∃ i,Z.Place les l c i:=⟨h,i,hi⟩
 unfold gAdd
 rw [dif_pos hh,Z.place_uniq hh.2.choose_spec hi]
theorem gAdd_inv {T:Type} [DecidableEq T] {les:T→T→Bool} {l:List T} {c:T} {r:List T×Int} (h:gAdd les (l,c,())=some r):Srt les l c∧∃ i,Z.Place les l c i∧r=addR i l c:=by
 unfold gAdd at h
 split at h
 · rename_i hh
   cases h
   exact ⟨hh.1,_,hh.2.choose_spec,rfl⟩
 · cases h
def gWithout {T:Type} [DecidableEq T] (x:List T×T):Option (List T):=if x.1.length≤100000 then some (x.1.filter fun p=>!(decide (p=x.2))) else none
theorem gWithout_inv {T:Type} [DecidableEq T] {l:List T} {c:T} {r:List T} (h:gWithout (l,c)=some r):l.length≤100000∧r=l.filter fun p=>!(decide (p=c)):=by
 unfold gWithout at h
 split at h
 · rename_i hl
   cases h
   exact ⟨hl,rfl⟩
 · cases h
/-- The machine's words for a list. -/
def vsOf {T:Type} (vc:T→List V) (l:List T):List V:=(l.map vc).flatten
def slV {T:Type} (z:Nat) (vc:T→List V) (l:List T):V:=.sl .none z l.length (vsOf vc l)
def vcC (c:Z.Cm):List V:=[.int .i64 c.1,.int .i64 c.2]
def vcL (c:Z.Lg):List V:=[.int .i64 c.1,.int .i64 c.2.1,.int .i64 c.2.2]
def isNil:V→Bool
 | .nils=>true
 | _=>false
def enAdd {T:Type} (z:Nat) (vc:T→List V) (_:List V) (r:List T×Int):List V:=[if r.1.isEmpty then .nils else slV z vc r.1,.int .i64 r.2]
def enWithout {T:Type} (z:Nat) (vc:T→List V) (vs:List V) (r:List T):List V:=[if isNil (vs.headD .undef) then .nils else slV z vc r]
abbrev tyC:Ty:=.st (.pair (.int .i64) (.int .i64))
abbrev tyL:Ty:=.st (.pair (.int .i64) (.pair (.int .i64) (.int .i64)))
end Go.Proofs.YtghpknbkecolnaaGreatDoor
