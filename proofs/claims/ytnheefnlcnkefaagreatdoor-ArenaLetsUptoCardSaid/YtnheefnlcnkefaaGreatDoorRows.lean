/-
  NARROWER THAN 'FOR EVERY INPUT', by the rows' own cells (each row's printed sentence says how): ArenaApart: laid · ArenaOnce: laid · ArenaLets: laid · ArenaPlays: laid · ArenaNil: laid · ArenaLooks: laid.
  DERIVED. THE GIVEN ROWS OF THIS SEAT. 6 by the template 'for every input the law returns true; each argument reads behind the call as it read before'; 0 by the template 'total and deterministic' (their statements: YtnheefnlcnkefaaGreatDoorTotals.lean).
  GIVEN WITH THE SEED: the statements are not yours to turn. If you find one false, say at which input.
  Laid BY PROGRAM, IN A SANDBOX (cutbox-rows.mjs): the forced cells as the released guide's own fill.sh prints them over the translation a810b7f8f804fca5… (all of the seat's roots in one cut). By AI agents, Wed Nov 11 2026. No macro, syntax, notation, axiom, sorry.
-/
import Derived.Test.YtnheefnlcnkefaaGreatDoorChecked
import GoSem.Claim
import GoSem.ClaimJoined
import GoSem.ClaimMapViews
import Derived.JoinedTies
import Derived.KernelRfl
namespace Go.Proofs.YtnheefnlcnkefaaGreatDoor
/- THE CELL 'sum', in the pinned program and in every row, IS THE sha256 OF THE DUMP (.gsa) THAT YtnheefnlcnkefaaGreatDoorProg.lean LOADS. Nothing in Lean hashes anything: it is a label: what it is worth is what the hold of that sum in a sandbox is worth. -/
noncomputable def Tryz.pinned : Pinned := { name := "ytnheefnlcnkefaagreatdoor", sum := "a810b7f8f804fca518a56a2b27a59af79044e826a89473331e7cac0835592c2c", checked := Tryz.checked }
namespace Rows
def none {H : Type} : Left H := { results := [], args := [] }

/- WHAT THE LISTED PACKAGE-LEVEL VARIABLES READ AS WHEN THE CALL BEGINS. Each datum BY PROGRAM (the guide's laid-datum.mjs) off the statement by which the dump's own 'gosem.cut.vars' lays the variable. In a bare row this is a premise. The card (YtnheefnlcnkefaaGreatDoorCards.lean) ties it to the program's text. -/
def laid_math_bits_deBruijn32tab {H : Type} : DataW H := .agg [.lit (.int .u8 0), .lit (.int .u8 1), .lit (.int .u8 28), .lit (.int .u8 2), .lit (.int .u8 29), .lit (.int .u8 14), .lit (.int .u8 24), .lit (.int .u8 3), .lit (.int .u8 30), .lit (.int .u8 22), .lit (.int .u8 20), .lit (.int .u8 15), .lit (.int .u8 25), .lit (.int .u8 17), .lit (.int .u8 4), .lit (.int .u8 8), .lit (.int .u8 31), .lit (.int .u8 27), .lit (.int .u8 13), .lit (.int .u8 23), .lit (.int .u8 21), .lit (.int .u8 19), .lit (.int .u8 16), .lit (.int .u8 7), .lit (.int .u8 26), .lit (.int .u8 12), .lit (.int .u8 18), .lit (.int .u8 6), .lit (.int .u8 11), .lit (.int .u8 5), .lit (.int .u8 10), .lit (.int .u8 9)]
def laid_math_bits_deBruijn64tab {H : Type} : DataW H := .agg [.lit (.int .u8 0), .lit (.int .u8 1), .lit (.int .u8 56), .lit (.int .u8 2), .lit (.int .u8 57), .lit (.int .u8 49), .lit (.int .u8 28), .lit (.int .u8 3), .lit (.int .u8 61), .lit (.int .u8 58), .lit (.int .u8 42), .lit (.int .u8 50), .lit (.int .u8 38), .lit (.int .u8 29), .lit (.int .u8 17), .lit (.int .u8 4), .lit (.int .u8 62), .lit (.int .u8 47), .lit (.int .u8 59), .lit (.int .u8 36), .lit (.int .u8 45), .lit (.int .u8 43), .lit (.int .u8 51), .lit (.int .u8 22), .lit (.int .u8 53), .lit (.int .u8 39), .lit (.int .u8 33), .lit (.int .u8 30), .lit (.int .u8 24), .lit (.int .u8 18), .lit (.int .u8 12), .lit (.int .u8 5), .lit (.int .u8 63), .lit (.int .u8 55), .lit (.int .u8 48), .lit (.int .u8 27), .lit (.int .u8 60), .lit (.int .u8 41), .lit (.int .u8 37), .lit (.int .u8 16), .lit (.int .u8 46), .lit (.int .u8 35), .lit (.int .u8 44), .lit (.int .u8 21), .lit (.int .u8 52), .lit (.int .u8 32), .lit (.int .u8 23), .lit (.int .u8 11), .lit (.int .u8 54), .lit (.int .u8 26), .lit (.int .u8 40), .lit (.int .u8 15), .lit (.int .u8 34), .lit (.int .u8 20), .lit (.int .u8 31), .lit (.int .u8 10), .lit (.int .u8 25), .lit (.int .u8 14), .lit (.int .u8 19), .lit (.int .u8 9), .lit (.int .u8 13), .lit (.int .u8 8), .lit (.int .u8 7), .lit (.int .u8 6)]
def laid_internal_strconv_uint64pow10 {H : Type} : DataW H := .agg [.lit (.int .u64 1), .lit (.int .u64 10), .lit (.int .u64 100), .lit (.int .u64 1000), .lit (.int .u64 10000), .lit (.int .u64 100000), .lit (.int .u64 1000000), .lit (.int .u64 10000000), .lit (.int .u64 100000000), .lit (.int .u64 1000000000), .lit (.int .u64 10000000000), .lit (.int .u64 100000000000), .lit (.int .u64 1000000000000), .lit (.int .u64 10000000000000), .lit (.int .u64 100000000000000), .lit (.int .u64 1000000000000000), .lit (.int .u64 10000000000000000), .lit (.int .u64 100000000000000000), .lit (.int .u64 1000000000000000000), .lit (.int .u64 10000000000000000000)]

/-- 'riddlelaw08.ArenaApart': WHATEVER THE INPUT: true; the input reads as it did. -/
def arenaApartSpec : ChangeSpec := { name := "arenaApart", fn := fun _ => fun
  | [d1, d2] => { results := [.lit (.bool true)], args := [d1, d2] }
  | _ => none }
def arenaApartRow : OpenClaim := { program := "ytnheefnlcnkefaagreatdoor", sum := "a810b7f8f804fca518a56a2b27a59af79044e826a89473331e7cac0835592c2c", func := "riddle/riddlelaw08.ArenaApart", spec := "arenaApart", inPlace := ["sync/atomic.StorePointer", "sync/atomic.LoadPointer", "sync/atomic.CompareAndSwapPointer"], unfollowed := true, recurses := true, named := ["internal/strconv.uint64pow10", "math/bits.deBruijn32tab", "math/bits.deBruijn64tab"], apart := false, laid := [("math/bits.deBruijn32tab", laid_math_bits_deBruijn32tab), ("math/bits.deBruijn64tab", laid_math_bits_deBruijn64tab), ("internal/strconv.uint64pow10", laid_internal_strconv_uint64pow10)] }
def ArenaApartSaid : Prop := arenaApartRow.holds Tryz.pinned (OpenSpec.ofChange arenaApartSpec)

/-- ITS FALSE NEIGHBOUR: 'it returns false'. Refute it at one input. -/
def arenaApartWrong : ChangeSpec := { name := "arenaApart", fn := fun _ => fun
  | [d1, d2] => { results := [.lit (.bool false)], args := [d1, d2] }
  | _ => none }
def ArenaApartWrongFalsely : Prop := arenaApartRow.holds Tryz.pinned (OpenSpec.ofChange arenaApartWrong)

/-- 'riddlelaw08.ArenaOnce': WHATEVER THE INPUT: true; the input reads as it did. -/
def arenaOnceSpec : ChangeSpec := { name := "arenaOnce", fn := fun _ => fun
  | [d] => { results := [.lit (.bool true)], args := [d] }
  | _ => none }
def arenaOnceRow : OpenClaim := { program := "ytnheefnlcnkefaagreatdoor", sum := "a810b7f8f804fca518a56a2b27a59af79044e826a89473331e7cac0835592c2c", func := "riddle/riddlelaw08.ArenaOnce", spec := "arenaOnce", inPlace := ["sync/atomic.StorePointer", "sync/atomic.LoadPointer", "sync/atomic.CompareAndSwapPointer"], unfollowed := true, recurses := true, named := ["internal/strconv.uint64pow10", "math/bits.deBruijn32tab", "math/bits.deBruijn64tab"], apart := false, laid := [("math/bits.deBruijn32tab", laid_math_bits_deBruijn32tab), ("math/bits.deBruijn64tab", laid_math_bits_deBruijn64tab), ("internal/strconv.uint64pow10", laid_internal_strconv_uint64pow10)] }
def ArenaOnceSaid : Prop := arenaOnceRow.holds Tryz.pinned (OpenSpec.ofChange arenaOnceSpec)

/-- ITS FALSE NEIGHBOUR: 'it returns false'. Refute it at one input. -/
def arenaOnceWrong : ChangeSpec := { name := "arenaOnce", fn := fun _ => fun
  | [d] => { results := [.lit (.bool false)], args := [d] }
  | _ => none }
def ArenaOnceWrongFalsely : Prop := arenaOnceRow.holds Tryz.pinned (OpenSpec.ofChange arenaOnceWrong)

/-- 'riddlelaw08.ArenaLets': WHATEVER THE INPUT: true; the input reads as it did. -/
def arenaLetsSpec : ChangeSpec := { name := "arenaLets", fn := fun _ => fun
  | [d1, d2] => { results := [.lit (.bool true)], args := [d1, d2] }
  | _ => none }
def arenaLetsRow : OpenClaim := { program := "ytnheefnlcnkefaagreatdoor", sum := "a810b7f8f804fca518a56a2b27a59af79044e826a89473331e7cac0835592c2c", func := "riddle/riddlelaw08.ArenaLets", spec := "arenaLets", inPlace := ["sync/atomic.StorePointer", "sync/atomic.LoadPointer", "sync/atomic.CompareAndSwapPointer"], unfollowed := true, recurses := true, named := ["internal/strconv.uint64pow10", "math/bits.deBruijn32tab", "math/bits.deBruijn64tab"], apart := false, laid := [("math/bits.deBruijn32tab", laid_math_bits_deBruijn32tab), ("math/bits.deBruijn64tab", laid_math_bits_deBruijn64tab), ("internal/strconv.uint64pow10", laid_internal_strconv_uint64pow10)] }
def ArenaLetsSaid : Prop := arenaLetsRow.holds Tryz.pinned (OpenSpec.ofChange arenaLetsSpec)

/-- ITS FALSE NEIGHBOUR: 'it returns false'. Refute it at one input. -/
def arenaLetsWrong : ChangeSpec := { name := "arenaLets", fn := fun _ => fun
  | [d1, d2] => { results := [.lit (.bool false)], args := [d1, d2] }
  | _ => none }
def ArenaLetsWrongFalsely : Prop := arenaLetsRow.holds Tryz.pinned (OpenSpec.ofChange arenaLetsWrong)

/-- 'riddlelaw08.ArenaPlays': WHATEVER THE INPUT: true; the input reads as it did. -/
def arenaPlaysSpec : ChangeSpec := { name := "arenaPlays", fn := fun _ => fun
  | [d1, d2, d3] => { results := [.lit (.bool true)], args := [d1, d2, d3] }
  | _ => none }
def arenaPlaysRow : OpenClaim := { program := "ytnheefnlcnkefaagreatdoor", sum := "a810b7f8f804fca518a56a2b27a59af79044e826a89473331e7cac0835592c2c", func := "riddle/riddlelaw08.ArenaPlays", spec := "arenaPlays", inPlace := ["sync/atomic.StorePointer", "sync/atomic.LoadPointer", "sync/atomic.CompareAndSwapPointer"], unfollowed := true, recurses := true, named := ["internal/strconv.uint64pow10", "math/bits.deBruijn32tab", "math/bits.deBruijn64tab"], apart := false, laid := [("math/bits.deBruijn32tab", laid_math_bits_deBruijn32tab), ("math/bits.deBruijn64tab", laid_math_bits_deBruijn64tab), ("internal/strconv.uint64pow10", laid_internal_strconv_uint64pow10)] }
def ArenaPlaysSaid : Prop := arenaPlaysRow.holds Tryz.pinned (OpenSpec.ofChange arenaPlaysSpec)

/-- ITS FALSE NEIGHBOUR: 'it returns false'. Refute it at one input. -/
def arenaPlaysWrong : ChangeSpec := { name := "arenaPlays", fn := fun _ => fun
  | [d1, d2, d3] => { results := [.lit (.bool false)], args := [d1, d2, d3] }
  | _ => none }
def ArenaPlaysWrongFalsely : Prop := arenaPlaysRow.holds Tryz.pinned (OpenSpec.ofChange arenaPlaysWrong)

/-- 'riddlelaw08.ArenaNil': WHATEVER THE INPUT: true; the input reads as it did. -/
def arenaNilSpec : ChangeSpec := { name := "arenaNil", fn := fun _ => fun
  | [d1, d2, d3, d4] => { results := [.lit (.bool true)], args := [d1, d2, d3, d4] }
  | _ => none }
def arenaNilRow : OpenClaim := { program := "ytnheefnlcnkefaagreatdoor", sum := "a810b7f8f804fca518a56a2b27a59af79044e826a89473331e7cac0835592c2c", func := "riddle/riddlelaw08.ArenaNil", spec := "arenaNil", inPlace := ["sync/atomic.StorePointer", "sync/atomic.LoadPointer", "sync/atomic.CompareAndSwapPointer"], unfollowed := true, recurses := true, named := ["internal/strconv.uint64pow10", "math/bits.deBruijn32tab", "math/bits.deBruijn64tab"], apart := false, laid := [("math/bits.deBruijn32tab", laid_math_bits_deBruijn32tab), ("math/bits.deBruijn64tab", laid_math_bits_deBruijn64tab), ("internal/strconv.uint64pow10", laid_internal_strconv_uint64pow10)] }
def ArenaNilSaid : Prop := arenaNilRow.holds Tryz.pinned (OpenSpec.ofChange arenaNilSpec)

/-- ITS FALSE NEIGHBOUR: 'it returns false'. Refute it at one input. -/
def arenaNilWrong : ChangeSpec := { name := "arenaNil", fn := fun _ => fun
  | [d1, d2, d3, d4] => { results := [.lit (.bool false)], args := [d1, d2, d3, d4] }
  | _ => none }
def ArenaNilWrongFalsely : Prop := arenaNilRow.holds Tryz.pinned (OpenSpec.ofChange arenaNilWrong)

/-- 'riddlelaw08.ArenaLooks': WHATEVER THE INPUT: true; the input reads as it did. -/
def arenaLooksSpec : ChangeSpec := { name := "arenaLooks", fn := fun _ => fun
  | [d1, d2] => { results := [.lit (.bool true)], args := [d1, d2] }
  | _ => none }
def arenaLooksRow : OpenClaim := { program := "ytnheefnlcnkefaagreatdoor", sum := "a810b7f8f804fca518a56a2b27a59af79044e826a89473331e7cac0835592c2c", func := "riddle/riddlelaw08.ArenaLooks", spec := "arenaLooks", inPlace := ["sync/atomic.StorePointer", "sync/atomic.LoadPointer", "sync/atomic.CompareAndSwapPointer"], unfollowed := true, recurses := true, named := ["internal/strconv.uint64pow10", "math/bits.deBruijn32tab", "math/bits.deBruijn64tab"], apart := false, laid := [("math/bits.deBruijn32tab", laid_math_bits_deBruijn32tab), ("math/bits.deBruijn64tab", laid_math_bits_deBruijn64tab), ("internal/strconv.uint64pow10", laid_internal_strconv_uint64pow10)] }
def ArenaLooksSaid : Prop := arenaLooksRow.holds Tryz.pinned (OpenSpec.ofChange arenaLooksSpec)

/-- ITS FALSE NEIGHBOUR: 'it returns false'. Refute it at one input. -/
def arenaLooksWrong : ChangeSpec := { name := "arenaLooks", fn := fun _ => fun
  | [d1, d2] => { results := [.lit (.bool false)], args := [d1, d2] }
  | _ => none }
def ArenaLooksWrongFalsely : Prop := arenaLooksRow.holds Tryz.pinned (OpenSpec.ofChange arenaLooksWrong)

/- THE SECOND FORM. 'bulk': how many values and letters a reading holds, each counted each time it is reached (what is shared counts as often as it is met; a slice's spare places count too). A statement '..UptoSaid' is the law's where the arguments, and the package variables that the reading takes, are together of bulk at most 1048576: NARROWER than '..Said'. Prove '..Said' where nothing that the law and all that it calls make is longer than what came in: it says more and counts as full. Else prove '..UptoSaid'. A law counts once. -/
mutual
def uptoBulk {H : Type} : DataW H → Nat
  | .lit (.string bytes) => bytes.length + 1
  | .lit _ => 1
  | .nil => 1
  | .ptr d => uptoBulk d + 1
  | .slice elems spare => uptoBulkAll elems + uptoBulkAll spare + 1
  | .agg parts => uptoBulkAll parts + 1
  | .iface _ d => uptoBulk d + 1
  | .map entries => uptoBulkEntries entries + 1
  | .held _ => 1
def uptoBulkAll {H : Type} : List (DataW H) → Nat
  | [] => 0
  | d :: r => uptoBulk d + uptoBulkAll r
def uptoBulkEntries {H : Type} : List (Lit × DataW H) → Nat
  | [] => 0
  | x :: r => uptoBulkEntry x + uptoBulkEntries r
def uptoBulkEntry {H : Type} : Lit × DataW H → Nat
  | (.string bytes, d) => bytes.length + uptoBulk d + 1
  | (_, d) => uptoBulk d + 1
 end
def uptoSmall : (H : Type) → List (DataW H) → Bool := fun _ ds => decide (uptoBulkAll ds ≤ 1048576)
def OpenSpec.upto (s : _root_.Go.ChangeSpec) : _root_.Go.OpenSpec := { _root_.Go.OpenSpec.ofChange s with cond := some uptoSmall }

/-- 'riddlelaw08.ArenaApart', WHERE WHAT IT READS IS OF BULK AT MOST 1048576: true; the input reads as it did. -/
def arenaApartUptoRow : OpenClaim := { program := "ytnheefnlcnkefaagreatdoor", sum := "a810b7f8f804fca518a56a2b27a59af79044e826a89473331e7cac0835592c2c", func := "riddle/riddlelaw08.ArenaApart", spec := "arenaApart", inPlace := ["sync/atomic.StorePointer", "sync/atomic.LoadPointer", "sync/atomic.CompareAndSwapPointer"], unfollowed := true, recurses := true, named := ["internal/strconv.uint64pow10", "math/bits.deBruijn32tab", "math/bits.deBruijn64tab"], apart := false, laid := [("math/bits.deBruijn32tab", laid_math_bits_deBruijn32tab), ("math/bits.deBruijn64tab", laid_math_bits_deBruijn64tab), ("internal/strconv.uint64pow10", laid_internal_strconv_uint64pow10)], narrowed := true }
def ArenaApartUptoSaid : Prop := arenaApartUptoRow.holds Tryz.pinned (OpenSpec.upto arenaApartSpec)

/-- 'riddlelaw08.ArenaOnce', WHERE WHAT IT READS IS OF BULK AT MOST 1048576: true; the input reads as it did. -/
def arenaOnceUptoRow : OpenClaim := { program := "ytnheefnlcnkefaagreatdoor", sum := "a810b7f8f804fca518a56a2b27a59af79044e826a89473331e7cac0835592c2c", func := "riddle/riddlelaw08.ArenaOnce", spec := "arenaOnce", inPlace := ["sync/atomic.StorePointer", "sync/atomic.LoadPointer", "sync/atomic.CompareAndSwapPointer"], unfollowed := true, recurses := true, named := ["internal/strconv.uint64pow10", "math/bits.deBruijn32tab", "math/bits.deBruijn64tab"], apart := false, laid := [("math/bits.deBruijn32tab", laid_math_bits_deBruijn32tab), ("math/bits.deBruijn64tab", laid_math_bits_deBruijn64tab), ("internal/strconv.uint64pow10", laid_internal_strconv_uint64pow10)], narrowed := true }
def ArenaOnceUptoSaid : Prop := arenaOnceUptoRow.holds Tryz.pinned (OpenSpec.upto arenaOnceSpec)

/-- 'riddlelaw08.ArenaLets', WHERE WHAT IT READS IS OF BULK AT MOST 1048576: true; the input reads as it did. -/
def arenaLetsUptoRow : OpenClaim := { program := "ytnheefnlcnkefaagreatdoor", sum := "a810b7f8f804fca518a56a2b27a59af79044e826a89473331e7cac0835592c2c", func := "riddle/riddlelaw08.ArenaLets", spec := "arenaLets", inPlace := ["sync/atomic.StorePointer", "sync/atomic.LoadPointer", "sync/atomic.CompareAndSwapPointer"], unfollowed := true, recurses := true, named := ["internal/strconv.uint64pow10", "math/bits.deBruijn32tab", "math/bits.deBruijn64tab"], apart := false, laid := [("math/bits.deBruijn32tab", laid_math_bits_deBruijn32tab), ("math/bits.deBruijn64tab", laid_math_bits_deBruijn64tab), ("internal/strconv.uint64pow10", laid_internal_strconv_uint64pow10)], narrowed := true }
def ArenaLetsUptoSaid : Prop := arenaLetsUptoRow.holds Tryz.pinned (OpenSpec.upto arenaLetsSpec)

/-- 'riddlelaw08.ArenaPlays', WHERE WHAT IT READS IS OF BULK AT MOST 1048576: true; the input reads as it did. -/
def arenaPlaysUptoRow : OpenClaim := { program := "ytnheefnlcnkefaagreatdoor", sum := "a810b7f8f804fca518a56a2b27a59af79044e826a89473331e7cac0835592c2c", func := "riddle/riddlelaw08.ArenaPlays", spec := "arenaPlays", inPlace := ["sync/atomic.StorePointer", "sync/atomic.LoadPointer", "sync/atomic.CompareAndSwapPointer"], unfollowed := true, recurses := true, named := ["internal/strconv.uint64pow10", "math/bits.deBruijn32tab", "math/bits.deBruijn64tab"], apart := false, laid := [("math/bits.deBruijn32tab", laid_math_bits_deBruijn32tab), ("math/bits.deBruijn64tab", laid_math_bits_deBruijn64tab), ("internal/strconv.uint64pow10", laid_internal_strconv_uint64pow10)], narrowed := true }
def ArenaPlaysUptoSaid : Prop := arenaPlaysUptoRow.holds Tryz.pinned (OpenSpec.upto arenaPlaysSpec)

/-- 'riddlelaw08.ArenaNil', WHERE WHAT IT READS IS OF BULK AT MOST 1048576: true; the input reads as it did. -/
def arenaNilUptoRow : OpenClaim := { program := "ytnheefnlcnkefaagreatdoor", sum := "a810b7f8f804fca518a56a2b27a59af79044e826a89473331e7cac0835592c2c", func := "riddle/riddlelaw08.ArenaNil", spec := "arenaNil", inPlace := ["sync/atomic.StorePointer", "sync/atomic.LoadPointer", "sync/atomic.CompareAndSwapPointer"], unfollowed := true, recurses := true, named := ["internal/strconv.uint64pow10", "math/bits.deBruijn32tab", "math/bits.deBruijn64tab"], apart := false, laid := [("math/bits.deBruijn32tab", laid_math_bits_deBruijn32tab), ("math/bits.deBruijn64tab", laid_math_bits_deBruijn64tab), ("internal/strconv.uint64pow10", laid_internal_strconv_uint64pow10)], narrowed := true }
def ArenaNilUptoSaid : Prop := arenaNilUptoRow.holds Tryz.pinned (OpenSpec.upto arenaNilSpec)

/-- 'riddlelaw08.ArenaLooks', WHERE WHAT IT READS IS OF BULK AT MOST 1048576: true; the input reads as it did. -/
def arenaLooksUptoRow : OpenClaim := { program := "ytnheefnlcnkefaagreatdoor", sum := "a810b7f8f804fca518a56a2b27a59af79044e826a89473331e7cac0835592c2c", func := "riddle/riddlelaw08.ArenaLooks", spec := "arenaLooks", inPlace := ["sync/atomic.StorePointer", "sync/atomic.LoadPointer", "sync/atomic.CompareAndSwapPointer"], unfollowed := true, recurses := true, named := ["internal/strconv.uint64pow10", "math/bits.deBruijn32tab", "math/bits.deBruijn64tab"], apart := false, laid := [("math/bits.deBruijn32tab", laid_math_bits_deBruijn32tab), ("math/bits.deBruijn64tab", laid_math_bits_deBruijn64tab), ("internal/strconv.uint64pow10", laid_internal_strconv_uint64pow10)], narrowed := true }
def ArenaLooksUptoSaid : Prop := arenaLooksUptoRow.holds Tryz.pinned (OpenSpec.upto arenaLooksSpec)

end Rows
end Go.Proofs.YtnheefnlcnkefaaGreatDoor
