/- How great an atom's opposite can be: plain laws. -/
import Derived.Test.YtlldghknenbccaaGreatDoorPSimpA
set_option linter.unusedSimpArgs false
set_option linter.unusedVariables false
namespace Go.Proofs.Q
open Go.RowKit
theorem sumT_norm (x:Int) (a:aW) (y:Int) (b:aW):sumT x a y b=bR ⟨mulL x a.parts++mulL y b.parts,x*a.k+y*b.k⟩:=rfl
theorem bZ.wee {L n:Nat} {V:List Int} {T:aW} (h:bZ L n V T) (hL:L≤536870912) (hn:n≤16777216):Wee T:=⟨fun p hp=>bZ1 (h.parts p hp) hL,bZ1 h.k hL,bZ1 h.len hn⟩
theorem bW.small {V:List Int} {nodes limbs sp:Int} {A:aF} (h:bW V nodes limbs A sp) (hl:limbs≤8) (hV:V.length≤262144) {x:Int} (h0:0≤x) (h1:x<(A.nodes.length:Int)):bZ 8 262144 V (ndA A x).t∧nlen (ndA A x).d.natAbs≤8∧Neat (ndA A x).t.parts:=by
 rcases Nat.lt_or_ge x.toNat 2 with h2|h2
 ·unfold ndA;rw [h.low h2];exact⟨small_zero,by simp [nlen0],neat_nil⟩
 ·have hK:=h.all x.toNat h2 (by omega);exact⟨⟨bZ1 (length_parts_le hK.neat hK.vars) hV,fun p hp=>by have:=hK.nums p hp;omega,by have:=hK.k;unfold ndA;omega,hK.vars⟩,by have:=hK.d;unfold ndA;omega,hK.neat⟩
end Go.Proofs.Q
