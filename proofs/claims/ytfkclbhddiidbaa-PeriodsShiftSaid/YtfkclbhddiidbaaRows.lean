/-
  No cell of these rows narrows 'for every input' (looked for: loops, veiled, ifaces, maps, wideKeys, modest, calm, conditions, laid).
  DERIVED. THE GIVEN ROWS OF THIS SEAT. 3 by the template 'for every input the law returns true; each argument reads behind the call as it read before'; 0 by the template 'total and deterministic' (their statements: YtfkclbhddiidbaaTotals.lean).
  GIVEN WITH THE SEED: the statements are not yours to turn. If you find one false, say at which input.
  Laid BY PROGRAM, IN A SANDBOX (cutbox-rows.mjs): the forced cells as the released guide's own fill.sh prints them over the translation 3606dbe48308f3a0… (all of the seat's roots in one cut). By AI agents, Wed Nov 11 2026. No macro, syntax, notation, axiom, sorry.
-/
import Derived.Test.YtfkclbhddiidbaaChecked
import GoSem.Claim
import GoSem.ClaimJoined
import GoSem.ClaimMapViews
import Derived.JoinedTies
import Derived.KernelRfl
namespace Go.Proofs.Ytfkclbhddiidbaa
/- THE CELL 'sum', in the pinned program and in every row, IS THE sha256 OF THE DUMP (.gsa) THAT YtfkclbhddiidbaaProg.lean LOADS. Nothing in Lean hashes anything: it is a label: what it is worth is what the hold of that sum in a sandbox is worth. -/
noncomputable def Try.pinned : Pinned := { name := "ytfkclbhddiidbaa", sum := "3606dbe48308f3a0a340c100f55fa122014899dd6db63479842b747c5ba5ae1c", checked := Try.checked }
namespace Rows
def none {H : Type} : Left H := { results := [], args := [] }

/-- 'riddlelaw18.PeriodsJoins': WHATEVER THE INPUT: true; the input reads as it did. -/
def periodsJoinsSpec : ChangeSpec := { name := "periodsJoins", fn := fun _ => fun
  | [d1, d2] => { results := [.lit (.bool true)], args := [d1, d2] }
  | _ => none }
def periodsJoinsRow : OpenClaim := { program := "ytfkclbhddiidbaa", sum := "3606dbe48308f3a0a340c100f55fa122014899dd6db63479842b747c5ba5ae1c", func := "riddle/riddlelaw18.PeriodsJoins", spec := "periodsJoins", unfollowed := true, recurses := true, apart := false }
def PeriodsJoinsSaid : Prop := periodsJoinsRow.holds Try.pinned (OpenSpec.ofChange periodsJoinsSpec)

/-- ITS FALSE NEIGHBOUR: 'it returns false'. Refute it at one input. -/
def periodsJoinsWrong : ChangeSpec := { name := "periodsJoins", fn := fun _ => fun
  | [d1, d2] => { results := [.lit (.bool false)], args := [d1, d2] }
  | _ => none }
def PeriodsJoinsWrongFalsely : Prop := periodsJoinsRow.holds Try.pinned (OpenSpec.ofChange periodsJoinsWrong)

/-- 'riddlelaw18.PeriodsAlgebra': WHATEVER THE INPUT: true; the input reads as it did. -/
def periodsAlgebraSpec : ChangeSpec := { name := "periodsAlgebra", fn := fun _ => fun
  | [d1, d2] => { results := [.lit (.bool true)], args := [d1, d2] }
  | _ => none }
def periodsAlgebraRow : OpenClaim := { program := "ytfkclbhddiidbaa", sum := "3606dbe48308f3a0a340c100f55fa122014899dd6db63479842b747c5ba5ae1c", func := "riddle/riddlelaw18.PeriodsAlgebra", spec := "periodsAlgebra", unfollowed := true, recurses := true, apart := false }
def PeriodsAlgebraSaid : Prop := periodsAlgebraRow.holds Try.pinned (OpenSpec.ofChange periodsAlgebraSpec)

/-- ITS FALSE NEIGHBOUR: 'it returns false'. Refute it at one input. -/
def periodsAlgebraWrong : ChangeSpec := { name := "periodsAlgebra", fn := fun _ => fun
  | [d1, d2] => { results := [.lit (.bool false)], args := [d1, d2] }
  | _ => none }
def PeriodsAlgebraWrongFalsely : Prop := periodsAlgebraRow.holds Try.pinned (OpenSpec.ofChange periodsAlgebraWrong)

/-- 'riddlelaw18.PeriodsShift': WHATEVER THE INPUT: true; the input reads as it did. -/
def periodsShiftSpec : ChangeSpec := { name := "periodsShift", fn := fun _ => fun
  | [d1, d2] => { results := [.lit (.bool true)], args := [d1, d2] }
  | _ => none }
def periodsShiftRow : OpenClaim := { program := "ytfkclbhddiidbaa", sum := "3606dbe48308f3a0a340c100f55fa122014899dd6db63479842b747c5ba5ae1c", func := "riddle/riddlelaw18.PeriodsShift", spec := "periodsShift", unfollowed := true, recurses := true, apart := false }
def PeriodsShiftSaid : Prop := periodsShiftRow.holds Try.pinned (OpenSpec.ofChange periodsShiftSpec)

/-- ITS FALSE NEIGHBOUR: 'it returns false'. Refute it at one input. -/
def periodsShiftWrong : ChangeSpec := { name := "periodsShift", fn := fun _ => fun
  | [d1, d2] => { results := [.lit (.bool false)], args := [d1, d2] }
  | _ => none }
def PeriodsShiftWrongFalsely : Prop := periodsShiftRow.holds Try.pinned (OpenSpec.ofChange periodsShiftWrong)

/- THE SECOND FORM. 'bulk': how many values and letters a reading holds, each counted each time it is reached (what is shared counts as often as it is met; a slice's spare places count too). A statement '..UptoSaid' is the law's where the arguments, and the package variables that the reading takes, are together of bulk at most 1048576: NARROWER than '..Said'. Prove '..Said' where nothing that the law and all that it calls make is longer than what came in: it says more and counts as full. Else prove '..UptoSaid'. A law counts once. -/
mutual
def uptoBulk {H : Type} : DataW H → Nat
  | .lit (.string bytes) => bytes.length + 1
  | .lit _ => 1
  | .nil => 1
  | .ptr d => uptoBulk d + 1
  | .slice elems spare => uptoBulkAll elems + uptoBulkAll spare + 1
  | .agg parts => uptoBulkAll parts + 1
  | .iface _ d => uptoBulk d + 1
  | .map entries => uptoBulkEntries entries + 1
  | .held _ => 1
def uptoBulkAll {H : Type} : List (DataW H) → Nat
  | [] => 0
  | d :: r => uptoBulk d + uptoBulkAll r
def uptoBulkEntries {H : Type} : List (Lit × DataW H) → Nat
  | [] => 0
  | x :: r => uptoBulkEntry x + uptoBulkEntries r
def uptoBulkEntry {H : Type} : Lit × DataW H → Nat
  | (.string bytes, d) => bytes.length + uptoBulk d + 1
  | (_, d) => uptoBulk d + 1
 end
def uptoSmall : (H : Type) → List (DataW H) → Bool := fun _ ds => decide (uptoBulkAll ds ≤ 1048576)
def OpenSpec.upto (s : _root_.Go.ChangeSpec) : _root_.Go.OpenSpec := { _root_.Go.OpenSpec.ofChange s with cond := some uptoSmall }

/-- 'riddlelaw18.PeriodsJoins', WHERE WHAT IT READS IS OF BULK AT MOST 1048576: true; the input reads as it did. -/
def periodsJoinsUptoRow : OpenClaim := { program := "ytfkclbhddiidbaa", sum := "3606dbe48308f3a0a340c100f55fa122014899dd6db63479842b747c5ba5ae1c", func := "riddle/riddlelaw18.PeriodsJoins", spec := "periodsJoins", unfollowed := true, recurses := true, apart := false, narrowed := true }
def PeriodsJoinsUptoSaid : Prop := periodsJoinsUptoRow.holds Try.pinned (OpenSpec.upto periodsJoinsSpec)

/-- 'riddlelaw18.PeriodsAlgebra', WHERE WHAT IT READS IS OF BULK AT MOST 1048576: true; the input reads as it did. -/
def periodsAlgebraUptoRow : OpenClaim := { program := "ytfkclbhddiidbaa", sum := "3606dbe48308f3a0a340c100f55fa122014899dd6db63479842b747c5ba5ae1c", func := "riddle/riddlelaw18.PeriodsAlgebra", spec := "periodsAlgebra", unfollowed := true, recurses := true, apart := false, narrowed := true }
def PeriodsAlgebraUptoSaid : Prop := periodsAlgebraUptoRow.holds Try.pinned (OpenSpec.upto periodsAlgebraSpec)

/-- 'riddlelaw18.PeriodsShift', WHERE WHAT IT READS IS OF BULK AT MOST 1048576: true; the input reads as it did. -/
def periodsShiftUptoRow : OpenClaim := { program := "ytfkclbhddiidbaa", sum := "3606dbe48308f3a0a340c100f55fa122014899dd6db63479842b747c5ba5ae1c", func := "riddle/riddlelaw18.PeriodsShift", spec := "periodsShift", unfollowed := true, recurses := true, apart := false, narrowed := true }
def PeriodsShiftUptoSaid : Prop := periodsShiftUptoRow.holds Try.pinned (OpenSpec.upto periodsShiftSpec)

end Rows
end Go.Proofs.Ytfkclbhddiidbaa
