/-
  No cell of these rows narrows 'for every input' (looked for: loops, veiled, ifaces, maps, wideKeys, modest, calm, conditions, laid).
  DERIVED. THE GIVEN ROWS OF THIS SEAT. 4 by the template 'for every input the law returns true; each argument reads behind the call as it read before'; 0 by the template 'total and deterministic' (their statements: YtdldaiakljhfjaaTotals.lean).
  GIVEN WITH THE SEED: the statements are not yours to turn. If you find one false, say at which input.
  Laid BY PROGRAM, IN A SANDBOX (cutbox-rows.mjs): the forced cells as the released guide's own fill.sh prints them over the translation 2394c2b3fcb46e94… (all of the seat's roots in one cut). By AI agents, Wed Nov 11 2026. No macro, syntax, notation, axiom, sorry.
-/
import Derived.Test.YtdldaiakljhfjaaChecked
import GoSem.Claim
import GoSem.ClaimJoined
import GoSem.ClaimMapViews
import Derived.JoinedTies
import Derived.KernelRfl
namespace Go.Proofs.Ytdldaiakljhfjaa
/- THE CELL 'sum', in the pinned program and in every row, IS THE sha256 OF THE DUMP (.gsa) THAT YtdldaiakljhfjaaProg.lean LOADS. Nothing in Lean hashes anything: it is a label: what it is worth is what the hold of that sum in a sandbox is worth. -/
noncomputable def Try.pinned : Pinned := { name := "ytdldaiakljhfjaa", sum := "2394c2b3fcb46e94cb661ebd992cec753fb0af67fdd1e23a653cf4caa96f6b32", checked := Try.checked }
namespace Rows
def none {H : Type} : Left H := { results := [], args := [] }

/-- 'riddlelaw07.MeterMakes': WHATEVER THE INPUT: true; the input reads as it did. -/
def meterMakesSpec : ChangeSpec := { name := "meterMakes", fn := fun _ => fun
  | [d1, d2] => { results := [.lit (.bool true)], args := [d1, d2] }
  | _ => none }
def meterMakesRow : OpenClaim := { program := "ytdldaiakljhfjaa", sum := "2394c2b3fcb46e94cb661ebd992cec753fb0af67fdd1e23a653cf4caa96f6b32", func := "riddle/riddlelaw07.MeterMakes", spec := "meterMakes", inPlace := ["sync/atomic.StorePointer", "sync/atomic.LoadPointer", "sync/atomic.CompareAndSwapPointer"], unfollowed := true, recurses := true, apart := false }
def MeterMakesSaid : Prop := meterMakesRow.holds Try.pinned (OpenSpec.ofChange meterMakesSpec)

/-- ITS FALSE NEIGHBOUR: 'it returns false'. Refute it at one input. -/
def meterMakesWrong : ChangeSpec := { name := "meterMakes", fn := fun _ => fun
  | [d1, d2] => { results := [.lit (.bool false)], args := [d1, d2] }
  | _ => none }
def MeterMakesWrongFalsely : Prop := meterMakesRow.holds Try.pinned (OpenSpec.ofChange meterMakesWrong)

/-- 'riddlelaw07.MeterPlays': WHATEVER THE INPUT: true; the input reads as it did. -/
def meterPlaysSpec : ChangeSpec := { name := "meterPlays", fn := fun _ => fun
  | [d1, d2, d3] => { results := [.lit (.bool true)], args := [d1, d2, d3] }
  | _ => none }
def meterPlaysRow : OpenClaim := { program := "ytdldaiakljhfjaa", sum := "2394c2b3fcb46e94cb661ebd992cec753fb0af67fdd1e23a653cf4caa96f6b32", func := "riddle/riddlelaw07.MeterPlays", spec := "meterPlays", inPlace := ["sync/atomic.StorePointer", "sync/atomic.LoadPointer", "sync/atomic.CompareAndSwapPointer"], unfollowed := true, recurses := true, apart := false }
def MeterPlaysSaid : Prop := meterPlaysRow.holds Try.pinned (OpenSpec.ofChange meterPlaysSpec)

/-- ITS FALSE NEIGHBOUR: 'it returns false'. Refute it at one input. -/
def meterPlaysWrong : ChangeSpec := { name := "meterPlays", fn := fun _ => fun
  | [d1, d2, d3] => { results := [.lit (.bool false)], args := [d1, d2, d3] }
  | _ => none }
def MeterPlaysWrongFalsely : Prop := meterPlaysRow.holds Try.pinned (OpenSpec.ofChange meterPlaysWrong)

/-- 'riddlelaw07.MeterStays': WHATEVER THE INPUT: true; the input reads as it did. -/
def meterStaysSpec : ChangeSpec := { name := "meterStays", fn := fun _ => fun
  | [d1, d2] => { results := [.lit (.bool true)], args := [d1, d2] }
  | _ => none }
def meterStaysRow : OpenClaim := { program := "ytdldaiakljhfjaa", sum := "2394c2b3fcb46e94cb661ebd992cec753fb0af67fdd1e23a653cf4caa96f6b32", func := "riddle/riddlelaw07.MeterStays", spec := "meterStays", inPlace := ["sync/atomic.StorePointer", "sync/atomic.LoadPointer", "sync/atomic.CompareAndSwapPointer"], unfollowed := true, recurses := true, apart := false }
def MeterStaysSaid : Prop := meterStaysRow.holds Try.pinned (OpenSpec.ofChange meterStaysSpec)

/-- ITS FALSE NEIGHBOUR: 'it returns false'. Refute it at one input. -/
def meterStaysWrong : ChangeSpec := { name := "meterStays", fn := fun _ => fun
  | [d1, d2] => { results := [.lit (.bool false)], args := [d1, d2] }
  | _ => none }
def MeterStaysWrongFalsely : Prop := meterStaysRow.holds Try.pinned (OpenSpec.ofChange meterStaysWrong)

/-- 'riddlelaw07.MeterApart': WHATEVER THE INPUT: true; the input reads as it did. -/
def meterApartSpec : ChangeSpec := { name := "meterApart", fn := fun _ => fun
  | [d1, d2, d3] => { results := [.lit (.bool true)], args := [d1, d2, d3] }
  | _ => none }
def meterApartRow : OpenClaim := { program := "ytdldaiakljhfjaa", sum := "2394c2b3fcb46e94cb661ebd992cec753fb0af67fdd1e23a653cf4caa96f6b32", func := "riddle/riddlelaw07.MeterApart", spec := "meterApart", inPlace := ["sync/atomic.StorePointer", "sync/atomic.LoadPointer", "sync/atomic.CompareAndSwapPointer"], unfollowed := true, recurses := true, apart := false }
def MeterApartSaid : Prop := meterApartRow.holds Try.pinned (OpenSpec.ofChange meterApartSpec)

/-- ITS FALSE NEIGHBOUR: 'it returns false'. Refute it at one input. -/
def meterApartWrong : ChangeSpec := { name := "meterApart", fn := fun _ => fun
  | [d1, d2, d3] => { results := [.lit (.bool false)], args := [d1, d2, d3] }
  | _ => none }
def MeterApartWrongFalsely : Prop := meterApartRow.holds Try.pinned (OpenSpec.ofChange meterApartWrong)

/- THE SECOND FORM. 'bulk': how many values and letters a reading holds, each counted each time it is reached (what is shared counts as often as it is met; a slice's spare places count too). A statement '..UptoSaid' is the law's where the arguments, and the package variables that the reading takes, are together of bulk at most 1048576: NARROWER than '..Said'. Prove '..Said' where nothing that the law and all that it calls make is longer than what came in: it says more and counts as full. Else prove '..UptoSaid'. A law counts once. -/
mutual
def uptoBulk {H : Type} : DataW H → Nat
  | .lit (.string bytes) => bytes.length + 1
  | .lit _ => 1
  | .nil => 1
  | .ptr d => uptoBulk d + 1
  | .slice elems spare => uptoBulkAll elems + uptoBulkAll spare + 1
  | .agg parts => uptoBulkAll parts + 1
  | .iface _ d => uptoBulk d + 1
  | .map entries => uptoBulkEntries entries + 1
  | .held _ => 1
def uptoBulkAll {H : Type} : List (DataW H) → Nat
  | [] => 0
  | d :: r => uptoBulk d + uptoBulkAll r
def uptoBulkEntries {H : Type} : List (Lit × DataW H) → Nat
  | [] => 0
  | x :: r => uptoBulkEntry x + uptoBulkEntries r
def uptoBulkEntry {H : Type} : Lit × DataW H → Nat
  | (.string bytes, d) => bytes.length + uptoBulk d + 1
  | (_, d) => uptoBulk d + 1
 end
def uptoSmall : (H : Type) → List (DataW H) → Bool := fun _ ds => decide (uptoBulkAll ds ≤ 1048576)
def OpenSpec.upto (s : _root_.Go.ChangeSpec) : _root_.Go.OpenSpec := { _root_.Go.OpenSpec.ofChange s with cond := some uptoSmall }

/-- 'riddlelaw07.MeterMakes', WHERE WHAT IT READS IS OF BULK AT MOST 1048576: true; the input reads as it did. -/
def meterMakesUptoRow : OpenClaim := { program := "ytdldaiakljhfjaa", sum := "2394c2b3fcb46e94cb661ebd992cec753fb0af67fdd1e23a653cf4caa96f6b32", func := "riddle/riddlelaw07.MeterMakes", spec := "meterMakes", inPlace := ["sync/atomic.StorePointer", "sync/atomic.LoadPointer", "sync/atomic.CompareAndSwapPointer"], unfollowed := true, recurses := true, apart := false, narrowed := true }
def MeterMakesUptoSaid : Prop := meterMakesUptoRow.holds Try.pinned (OpenSpec.upto meterMakesSpec)

/-- 'riddlelaw07.MeterPlays', WHERE WHAT IT READS IS OF BULK AT MOST 1048576: true; the input reads as it did. -/
def meterPlaysUptoRow : OpenClaim := { program := "ytdldaiakljhfjaa", sum := "2394c2b3fcb46e94cb661ebd992cec753fb0af67fdd1e23a653cf4caa96f6b32", func := "riddle/riddlelaw07.MeterPlays", spec := "meterPlays", inPlace := ["sync/atomic.StorePointer", "sync/atomic.LoadPointer", "sync/atomic.CompareAndSwapPointer"], unfollowed := true, recurses := true, apart := false, narrowed := true }
def MeterPlaysUptoSaid : Prop := meterPlaysUptoRow.holds Try.pinned (OpenSpec.upto meterPlaysSpec)

/-- 'riddlelaw07.MeterStays', WHERE WHAT IT READS IS OF BULK AT MOST 1048576: true; the input reads as it did. -/
def meterStaysUptoRow : OpenClaim := { program := "ytdldaiakljhfjaa", sum := "2394c2b3fcb46e94cb661ebd992cec753fb0af67fdd1e23a653cf4caa96f6b32", func := "riddle/riddlelaw07.MeterStays", spec := "meterStays", inPlace := ["sync/atomic.StorePointer", "sync/atomic.LoadPointer", "sync/atomic.CompareAndSwapPointer"], unfollowed := true, recurses := true, apart := false, narrowed := true }
def MeterStaysUptoSaid : Prop := meterStaysUptoRow.holds Try.pinned (OpenSpec.upto meterStaysSpec)

/-- 'riddlelaw07.MeterApart', WHERE WHAT IT READS IS OF BULK AT MOST 1048576: true; the input reads as it did. -/
def meterApartUptoRow : OpenClaim := { program := "ytdldaiakljhfjaa", sum := "2394c2b3fcb46e94cb661ebd992cec753fb0af67fdd1e23a653cf4caa96f6b32", func := "riddle/riddlelaw07.MeterApart", spec := "meterApart", inPlace := ["sync/atomic.StorePointer", "sync/atomic.LoadPointer", "sync/atomic.CompareAndSwapPointer"], unfollowed := true, recurses := true, apart := false, narrowed := true }
def MeterApartUptoSaid : Prop := meterApartUptoRow.holds Try.pinned (OpenSpec.upto meterApartSpec)

end Rows
end Go.Proofs.Ytdldaiakljhfjaa
