/- What an arena answers to the law's three calls at the start: plain laws. -/
import Derived.Test.YthjlmocbeoimaaaGreatDoorLMadesC
import Derived.Test.YthjlmocbeoimaaaGreatDoorLKeysB
set_option linter.unusedSimpArgs false
set_option linter.unusedVariables false
namespace Go.Rid
theorem nlen0:nlen 0=0:=by simp [nlen,bF]
theorem nlen1:nlen 1=1:=by
 unfold nlen
 rw [limbsOf_pos (by decide),show (1:Nat) / Bs=0 by decide,bF]
 rfl
end Go.Rid
namespace Go.Proofs.YthjlmocbeoimaaaGreatDoor
open Go.RowKit Go.Rid
end Go.Proofs.YthjlmocbeoimaaaGreatDoor
