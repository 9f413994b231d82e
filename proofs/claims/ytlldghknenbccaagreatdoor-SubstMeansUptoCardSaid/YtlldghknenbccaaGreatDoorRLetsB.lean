/- What is made does not hang on how many writes the map has seen: plain laws. -/
import Derived.Test.YtlldghknenbccaaGreatDoorROnces
set_option linter.unusedSimpArgs false
set_option linter.unusedVariables false
namespace Go.Proofs.Q

def iP (A F:aC):Prop:=∃t u v,F.nodes=A.nodes++t∧F.free=A.free++u∧F.plain=A.plain++v
theorem iP.refl (A:aC):iP A A:=⟨[],[],[],zW,zW,zW⟩
theorem iP.trans {A B C:aC} (h:iP A B) (k:iP B C):iP A C:=by
 obtain ⟨t,u,v,h1,h2,h3⟩:=h;obtain ⟨t',u',v',k1,k2,k3⟩:=k;exact⟨t++t',u++u',v++v',by rw [k1,h1,mZ2],by rw [k2,h2,mZ2],by rw [k3,h3,mZ2]⟩
section
variable {xs:List (Bool × List Nat)} {nodes limbs sp ov:Int} {ks:List Int} {N:aS} {X:aY}
theorem UE {A:aC}:iP A (cU A nodes limbs sp ov N xs).2.1:=by
 unfold cU;cases fK A.nodes (bB N) with
 | some i=>exact iP.refl A
 | none=>
  simp only [];split
  ·exact⟨[N],[eF A N],[AJ A N],rfl,rfl,rfl⟩
  ·exact uP
theorem aSN {A:aC} {kind:Int}:iP A (dW A nodes limbs sp ov kind ks).2.1:=by
 unfold dW;split
 ·exact uP
 split
 ·exact uP
 split
 ·exact uP
 split
 ·exact UE
 ·exact uP
theorem aQX {A:aC} {kind v k:Int}:iP A (dY A nodes limbs sp ov kind v k).2.1:=by
 unfold dY;split
 ·exact uP
 split
 ·exact uP
 ·exact UE
theorem aRU {A:aC}:iP A (cX A nodes limbs sp ov X).2.1:=by
 unfold cX mY;split
 ·exact uP
 split
 ·exact uP
 ·exact UE
end
end Go.Proofs.Q
