/- What an arena answers to the law's three calls at the start: plain laws. -/
import Derived.Test.YthjlmocbeoimaaaGreatDoorMMadesC
import Derived.Test.YthjlmocbeoimaaaGreatDoorMKeysB
set_option linter.unusedSimpArgs false
set_option linter.unusedVariables false
namespace Go.Rid
theorem nlen0:nlen 0=0:=by simp [nlen,bK]
theorem nlen1:nlen 1=1:=by
 unfold nlen;rw [limbsOf_pos (by decide),show (1:Nat) / Bs=0 by decide,bK];rfl
end Go.Rid
namespace Go.Proofs.Q
open Go.RowKit Go.Rid
end Go.Proofs.Q
