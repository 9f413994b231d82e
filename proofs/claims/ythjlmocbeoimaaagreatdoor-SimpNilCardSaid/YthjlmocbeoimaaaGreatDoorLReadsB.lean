/- From the form's own reading of recipes to the words of the walks, with the bulk that the second form bounds. Nothing is asked but that bound. -/
/- What the recipes' own functions do: Pick, What, Var, Of. Conditions: what is given reads. -/
/- What a recipe makes in an arena: plain laws. No condition but room. -/
import Derived.Test.YthjlmocbeoimaaaGreatDoorLReads
import Derived.Test.YthjlmocbeoimaaaGreatDoorLInvB
set_option linter.unusedSimpArgs false
set_option linter.unusedVariables false
namespace Go.Rid
structure MakeV where
 kind:Int
 x:cM
 v:Int
 kids:List Int
end Go.Rid
namespace Go.Proofs.YthjlmocbeoimaaaGreatDoor
open Go.RowKit Go.Rid Go.Deep Go.ChangeShapes Go.WideShapes Go.Joins
section
variable {H:Type} {enc:TypeId × Value→H} {w:World}
def BPart (p:Int × Int):Prop:=nlen p.2.natAbs≤1048576∧I64 p.1
end
end Go.Proofs.YthjlmocbeoimaaaGreatDoor

namespace Go.Rid
open Go.RowKit
def MakeAt (M:Nat→Prop) (w:World) (gd:Bool) (ad:Option Addr) (nd cd:Nat) (ap:Option Addr) (np cp:Nat) (gk:Bool) (ak:Option Addr) (nk ck:Nat) (aq:Option Addr) (nq cq:Nat) (m:MakeV):Prop:=
 ZAt M w gd ad nd cd m.x.d∧RParts M M w ap np cp m.x.t.parts∧ZAt M w gk ak nk ck m.x.t.k∧nd≤1048576∧nk≤1048576∧(∀p∈m.x.t.parts,Go.Proofs.YthjlmocbeoimaaaGreatDoor.BPart p)∧I64 m.x.kind∧cC M w aq nq cq m.kids∧(∀k∈m.kids,I64 k)∧I64 m.kind∧I64 m.v
def RMake (M:Nat→Prop) (w:World) (cs:List Value) (m:MakeV):Prop:=∃gd ad nd cd ap np cp gk ak nk ck aq nq cq,cs=[.int .i64 m.kind,.int .i64 m.x.kind,.bool gd,.slice ad nd cd,.slice ap np cp,.bool gk,.slice ak nk ck,.int .i64 m.v,.slice aq nq cq]∧MakeAt M w gd ad nd cd ap np cp gk ak nk ck aq nq cq m
def zeroM:MakeV:=⟨0,⟨0,0,bX⟩,0,[]⟩
def MakesAt (M:Nat→Prop) (w:World) (a:Option Addr) (n c:Nat) (l:List MakeV):Prop:=SlOf M w 9 (RMake M w) zeroM a n c l
end Go.Rid
namespace Go.Proofs.YthjlmocbeoimaaaGreatDoor
open Go.RowKit Go.Rid Go.Deep Go.ChangeShapes Go.WideShapes Go.Joins
section
variable {H:Type} {enc:TypeId × Value→H} {w:World}
end
end Go.Proofs.YthjlmocbeoimaaaGreatDoor

namespace Go.Rid
end Go.Rid
namespace Go.Proofs.YthjlmocbeoimaaaGreatDoor
open Go.Rid
def SmallX (V:List Int) (X:cM):Prop:=SmallT 1048576 262144 V ⟨X.t.parts,X.t.k⟩∧nlen X.d.natAbs≤1048576
theorem atomM_sound {V:List Int} {nodes limbs sp ov:Int} {A:aO} {X:cM} (h:InvA V nodes A sp) (hX:SmallX V X):Sound V nodes A sp ov (atomM A nodes limbs sp ov X):=by
 have h2:=h.once.two
 have hb:=small_normR (k:=X.kind) hX.1 hX.2 (by decide)
 unfold atomM
 obtain ⟨k,d,⟨l,z⟩⟩:=X
 simp only at hb⊢
 obtain ⟨⟨e,B⟩,hr⟩:∃r,r=cD ⟨k,d,⟨l,z⟩⟩:=⟨_,rfl⟩
 rw [←hr] at hb⊢
 simp only at hb
 by_cases he:e=0
 ·subst he
  by_cases hk:B.kind≤1
  ·rw [atomR_const hk]
   exact Sound.same h fun _=>⟨hb.kind.1,by omega⟩
  ·rw [atomR_go hk]
   exact madeM_sound h (fine_of_small hb (by omega))
 ·rw [atomR_err he]
  exact Sound.same h fun q=>absurd q he
end Go.Proofs.YthjlmocbeoimaaaGreatDoor
