/- How great an atom's opposite can be: plain laws. -/
import Derived.Test.YtlldghknenbccaaGreatDoorRSimpA
set_option linter.unusedSimpArgs false
set_option linter.unusedVariables false
namespace Go.Proofs.Q
open Go.RowKit
theorem aVV (x:Int) (a:aV) (y:Int) (b:aV):gU x a y b=bC ⟨mulL x a.parts++mulL y b.parts,x*a.k+y*b.k⟩:=rfl
theorem cB.wee {L n:Nat} {V:List Int} {T:aV} (h:cB L n V T) (hL:L≤536870912) (hn:n≤16777216):Wee T:=⟨fun p hp=>bZ1 (h.parts p hp) hL,bZ1 h.k hL,bZ1 h.len hn⟩
theorem bE.small {V:List Int} {nodes limbs sp:Int} {A:aC} (h:bE V nodes limbs A sp) (hl:limbs≤8) (hV:V.length≤262144) {x:Int} (h0:0≤x) (h1:x<(A.nodes.length:Int)):cB 8 262144 V (ndA A x).t∧eP (ndA A x).d.natAbs≤8∧fF (ndA A x).t.parts:=by
 rcases Nat.lt_or_ge x.toNat 2 with h2|h2
 ·unfold ndA;rw [h.low h2];exact⟨GK,wB,BL⟩
 ·have hK:=h.all x.toNat h2 zZ;exact⟨⟨bZ1 (MK hK.fZ hK.vars) hV,fun p hp=>by have:=hK.nums p hp;omega,by have:=hK.k;unfold ndA;omega,hK.vars⟩,by have:=hK.d;unfold ndA;omega,hK.fZ⟩
end Go.Proofs.Q
