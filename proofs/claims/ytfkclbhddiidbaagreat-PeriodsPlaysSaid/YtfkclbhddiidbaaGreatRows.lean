/-
  No cell of these rows narrows 'for every input' (looked for: loops, veiled, ifaces, maps, wideKeys, modest, calm, conditions, laid).
  DERIVED. THE GIVEN ROWS OF THIS SEAT. 2 by the template 'for every input the law returns true; each argument reads behind the call as it read before'; 0 by the template 'total and deterministic' (their statements: YtfkclbhddiidbaaGreatTotals.lean).
  GIVEN WITH THE SEED: the statements are not yours to turn. If you find one false, say at which input.
  Laid BY PROGRAM, IN A SANDBOX (cutbox-rows.mjs): the forced cells as the released guide's own fill.sh prints them over the translation 6914ba9cfd32176a… (all of the seat's roots in one cut). By AI agents, Wed Nov 11 2026. No macro, syntax, notation, axiom, sorry.
-/
import Derived.Test.YtfkclbhddiidbaaGreatChecked
import GoSem.Claim
import GoSem.ClaimJoined
import GoSem.ClaimMapViews
import Derived.JoinedTies
import Derived.KernelRfl
namespace Go.Proofs.YtfkclbhddiidbaaGreat
/- THE CELL 'sum', in the pinned program and in every row, IS THE sha256 OF THE DUMP (.gsa) THAT YtfkclbhddiidbaaGreatProg.lean LOADS. Nothing in Lean hashes anything: it is a label: what it is worth is what the hold of that sum in a sandbox is worth. -/
noncomputable def Tryz.pinned : Pinned := { name := "ytfkclbhddiidbaagreat", sum := "6914ba9cfd32176a9e94c31d784f2b207963d8758c84f9ae6b01c889ae0715b0", checked := Tryz.checked }
namespace Rows
def none {H : Type} : Left H := { results := [], args := [] }

/-- 'riddlelaw18.PeriodsPlays': WHATEVER THE INPUT: true; the input reads as it did. -/
def periodsPlaysSpec : ChangeSpec := { name := "periodsPlays", fn := fun _ => fun
  | [d1, d2] => { results := [.lit (.bool true)], args := [d1, d2] }
  | _ => none }
def periodsPlaysRow : OpenClaim := { program := "ytfkclbhddiidbaagreat", sum := "6914ba9cfd32176a9e94c31d784f2b207963d8758c84f9ae6b01c889ae0715b0", func := "riddle/riddlelaw18.PeriodsPlays", spec := "periodsPlays", unfollowed := true, recurses := true, apart := false }
def PeriodsPlaysSaid : Prop := periodsPlaysRow.holds Tryz.pinned (OpenSpec.ofChange periodsPlaysSpec)

/-- ITS FALSE NEIGHBOUR: 'it returns false'. Refute it at one input. -/
def periodsPlaysWrong : ChangeSpec := { name := "periodsPlays", fn := fun _ => fun
  | [d1, d2] => { results := [.lit (.bool false)], args := [d1, d2] }
  | _ => none }
def PeriodsPlaysWrongFalsely : Prop := periodsPlaysRow.holds Tryz.pinned (OpenSpec.ofChange periodsPlaysWrong)

/-- 'riddlelaw18.PeriodsNothing': WHATEVER THE INPUT: true; the input reads as it did. -/
def periodsNothingSpec : ChangeSpec := { name := "periodsNothing", fn := fun _ => fun
  | [d] => { results := [.lit (.bool true)], args := [d] }
  | _ => none }
def periodsNothingRow : OpenClaim := { program := "ytfkclbhddiidbaagreat", sum := "6914ba9cfd32176a9e94c31d784f2b207963d8758c84f9ae6b01c889ae0715b0", func := "riddle/riddlelaw18.PeriodsNothing", spec := "periodsNothing", unfollowed := true, recurses := true, apart := false }
def PeriodsNothingSaid : Prop := periodsNothingRow.holds Tryz.pinned (OpenSpec.ofChange periodsNothingSpec)

/-- ITS FALSE NEIGHBOUR: 'it returns false'. Refute it at one input. -/
def periodsNothingWrong : ChangeSpec := { name := "periodsNothing", fn := fun _ => fun
  | [d] => { results := [.lit (.bool false)], args := [d] }
  | _ => none }
def PeriodsNothingWrongFalsely : Prop := periodsNothingRow.holds Tryz.pinned (OpenSpec.ofChange periodsNothingWrong)

/- THE SECOND FORM. 'bulk': how many values and letters a reading holds, each counted each time it is reached (what is shared counts as often as it is met; a slice's spare places count too). A statement '..UptoSaid' is the law's where the arguments, and the package variables that the reading takes, are together of bulk at most 1048576: NARROWER than '..Said'. Prove '..Said' where nothing that the law and all that it calls make is longer than what came in: it says more and counts as full. Else prove '..UptoSaid'. A law counts once. -/
mutual
def uptoBulk {H : Type} : DataW H → Nat
  | .lit (.string bytes) => bytes.length + 1
  | .lit _ => 1
  | .nil => 1
  | .ptr d => uptoBulk d + 1
  | .slice elems spare => uptoBulkAll elems + uptoBulkAll spare + 1
  | .agg parts => uptoBulkAll parts + 1
  | .iface _ d => uptoBulk d + 1
  | .map entries => uptoBulkEntries entries + 1
  | .held _ => 1
def uptoBulkAll {H : Type} : List (DataW H) → Nat
  | [] => 0
  | d :: r => uptoBulk d + uptoBulkAll r
def uptoBulkEntries {H : Type} : List (Lit × DataW H) → Nat
  | [] => 0
  | x :: r => uptoBulkEntry x + uptoBulkEntries r
def uptoBulkEntry {H : Type} : Lit × DataW H → Nat
  | (.string bytes, d) => bytes.length + uptoBulk d + 1
  | (_, d) => uptoBulk d + 1
 end
def uptoSmall : (H : Type) → List (DataW H) → Bool := fun _ ds => decide (uptoBulkAll ds ≤ 1048576)
def OpenSpec.upto (s : _root_.Go.ChangeSpec) : _root_.Go.OpenSpec := { _root_.Go.OpenSpec.ofChange s with cond := some uptoSmall }

/-- 'riddlelaw18.PeriodsPlays', WHERE WHAT IT READS IS OF BULK AT MOST 1048576: true; the input reads as it did. -/
def periodsPlaysUptoRow : OpenClaim := { program := "ytfkclbhddiidbaagreat", sum := "6914ba9cfd32176a9e94c31d784f2b207963d8758c84f9ae6b01c889ae0715b0", func := "riddle/riddlelaw18.PeriodsPlays", spec := "periodsPlays", unfollowed := true, recurses := true, apart := false, narrowed := true }
def PeriodsPlaysUptoSaid : Prop := periodsPlaysUptoRow.holds Tryz.pinned (OpenSpec.upto periodsPlaysSpec)

/-- 'riddlelaw18.PeriodsNothing', WHERE WHAT IT READS IS OF BULK AT MOST 1048576: true; the input reads as it did. -/
def periodsNothingUptoRow : OpenClaim := { program := "ytfkclbhddiidbaagreat", sum := "6914ba9cfd32176a9e94c31d784f2b207963d8758c84f9ae6b01c889ae0715b0", func := "riddle/riddlelaw18.PeriodsNothing", spec := "periodsNothing", unfollowed := true, recurses := true, apart := false, narrowed := true }
def PeriodsNothingUptoSaid : Prop := periodsNothingUptoRow.holds Tryz.pinned (OpenSpec.upto periodsNothingSpec)

end Rows
end Go.Proofs.YtfkclbhddiidbaaGreat
