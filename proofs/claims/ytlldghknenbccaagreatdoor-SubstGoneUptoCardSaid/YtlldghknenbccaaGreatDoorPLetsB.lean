/- What is made does not hang on how many writes the map has seen: plain laws. -/
import Derived.Test.YtlldghknenbccaaGreatDoorPOnces
set_option linter.unusedSimpArgs false
set_option linter.unusedVariables false
namespace Go.Proofs.Q

def ExtA (A F:aF):Prop:=∃t u v,F.nodes=A.nodes++t∧F.free=A.free++u∧F.plain=A.plain++v
theorem ExtA.refl (A:aF):ExtA A A:=⟨[],[],[],by simp,by simp,by simp⟩
theorem ExtA.trans {A B C:aF} (h:ExtA A B) (k:ExtA B C):ExtA A C:=by
 obtain ⟨t,u,v,h1,h2,h3⟩:=h;obtain ⟨t',u',v',k1,k2,k3⟩:=k;exact⟨t++t',u++u',v++v',by rw [k1,h1,mZ2],by rw [k2,h2,mZ2],by rw [k3,h3,mZ2]⟩
section
variable {xs:List (Bool × List Nat)} {nodes limbs sp ov:Int} {ks:List Int} {N:aS} {X:bB}
theorem madeM_extA {A:aF}:ExtA A (dF A nodes limbs sp ov N xs).2.1:=by
 unfold dF;cases keyF A.nodes (bA N) with
 | some i=>exact ExtA.refl A
 | none=>
  simp only [];split
  ·exact⟨[N],[dU A N],[plainOf A N],rfl,rfl,rfl⟩
  ·exact ExtA.refl A
theorem joinM_extA {A:aF} {kind:Int}:ExtA A (dM A nodes limbs sp ov kind ks).2.1:=by
 unfold dM;split
 ·exact ExtA.refl A
 split
 ·exact ExtA.refl A
 split
 ·exact ExtA.refl A
 split
 ·exact madeM_extA
 ·exact ExtA.refl A
theorem bindM_extA {A:aF} {kind v k:Int}:ExtA A (dR A nodes limbs sp ov kind v k).2.1:=by
 unfold dR;split
 ·exact ExtA.refl A
 split
 ·exact ExtA.refl A
 ·exact madeM_extA
theorem atomM_extA {A:aF}:ExtA A (cZ A nodes limbs sp ov X).2.1:=by
 unfold cZ atomR;split
 ·exact ExtA.refl A
 split
 ·exact ExtA.refl A
 ·exact madeM_extA
end
end Go.Proofs.Q
