/- What sync/atomic's entries at pointers do, as calls' laws; pointers turned to unsafe pointers and back; when two states of a meter are one. Conditions: the cells are there. -/
import Derived.Test.YtdldaiakljhfjaaRows
import Derived.Test.YtdldaiakljhfjaaBase
import Derived.Laws.LoneSync
import Derived.Laws.StructEq
import Derived.Lib.Builder
namespace Go.Proofs.Ytdldaiakljhfjaa
open Go.RowKit Go.Rid

theorem n_store : (Try.f30.name == "runtime.NumGoroutine") = false := by kernel_rfl
theorem x_store : Extern.findNext Try.f30 = none := by kernel_rfl
theorem e_store : Extern.find Try.f30 = some Extern.Atomic.storeT := by kernel_rfl
theorem b_store : Try.f30.body.isNone = true := by kernel_rfl
theorem n_load : (Try.f34.name == "runtime.NumGoroutine") = false := by kernel_rfl
theorem x_load : Extern.findNext Try.f34 = none := by kernel_rfl
theorem e_load : Extern.find Try.f34 = some (Extern.Atomic.loadT .ptr) := by kernel_rfl
theorem b_load : Try.f34.body.isNone = true := by kernel_rfl
theorem n_cas : (Try.f35.name == "runtime.NumGoroutine") = false := by kernel_rfl
theorem x_cas : Extern.findNext Try.f35 = none := by kernel_rfl
theorem e_cas : Extern.find Try.f35 = some (Extern.Atomic.casT .ptr) := by kernel_rfl
theorem b_cas : Try.f35.body.isNone = true := by kernel_rfl

theorem run_storePtr {a : Addr} {q : Option Addr} {u : Value} {w : World} (hc : w.cell? a = some u) (hz : w.frozen? a = false) :
    (callFunc 30 #[.pointer (some a), .pointer q]).run Try.prog w = .ok (.value (.tuple #[])) (w.setCell a (.pointer q)) := by
  rw [run_callFunc_extern Try.func30 n_store b_store x_store e_store]
  rw [show Extern.Atomic.storeT #[.pointer (some a), .pointer q] = (store a (.pointer q) .atomic >>= fun _ => pure Extern.Atomic.none_) from rfl]
  simp [hc, hz, run_store Try.prog w a (.pointer q) .atomic rfl, Result.andThen, Extern.Atomic.none_]
theorem run_loadPtr {a : Addr} {q : Option Addr} {w : World} (hc : w.cell? a = some (.pointer q)) :
    (callFunc 34 #[.pointer (some a)]).run Try.prog w = .ok (.value (.pointer q)) w := by
  rw [run_callFunc_extern Try.func34 n_load b_load x_load e_load]
  rw [show Extern.Atomic.loadT .ptr #[.pointer (some a)] = Extern.Atomic.read .ptr a from rfl]
  simp [Extern.Atomic.read, hc, Result.andThen]
theorem run_casPtr {a p : Addr} {q : Option Addr} {w : World} (hc : w.cell? a = some (.pointer (some p))) (hz : w.frozen? a = false) :
    (callFunc 35 #[.pointer (some a), .pointer (some p), .pointer q]).run Try.prog w = .ok (.value (.bool true)) (w.setCell a (.pointer q)) := by
  rw [run_callFunc_extern Try.func35 n_cas b_cas x_cas e_cas]
  change (Sem.run Try.prog (do
    let a' ← asAddr (.pointer (some a))
    if ← Extern.Atomic.touchesFrozen a' then unsupported (.unsafePointer "a write to bytes that a string shares")
    let eq ← match Extern.Atomic.T.ptr, ← Extern.Atomic.read .ptr a', Value.pointer (some p) with
      | _, .int _ x, .int _ y => pure (x == y)
      | .ptr, .pointer x, .pointer y => samePointer x y
      | .int _, .pointer (some _), .int _ 0 | .int _, .int _ 0, .pointer (some _) => pure false
      | .int _, .pointer (some _), _ | .int _, _, .pointer (some _) => unsupported .addressObserved
      | _, _, _ => stuck "atomic.CompareAndSwap: old is no T"
    if eq then store a' (.pointer q) .atomic
    pure (Value.bool eq)) w).andThen _ = _
  simp [asAddr, Extern.Atomic.touchesFrozen, Extern.Atomic.read, asAddr, viewAt, World.shape?_isSome_of_cell? hc, hc, hz, samePointer, run_sameAddr_same, run_store Try.prog w a (.pointer q) .atomic rfl, Result.andThen]

theorem sz_state : (Try.prog.info? 63).map (fun i => decide (i.size = 0)) = some false := by kernel_rfl
theorem lies_state : liesAt Try.prog Try.prog.depth 63 (2 / Try.prog.cellsOf 63) 0 63 1 = true := by kernel_rfl
/-- *state to unsafe.Pointer. -/
theorem run_state_to {a : Addr} {v : Value} {w : World} (hc : w.cell? a = some v) : (convert 52 56 (.pointer (some a))).run Try.prog w = .ok (.pointer (some a)) w :=
  run_convert_to_unsafe Try.underlying52 Try.underlying56 sz_state hc
/-- unsafe.Pointer to *state. -/
theorem run_state_from {g : Nat} {x y : Value} {w : World} (h : RowIs w g 63 [x, y]) :
    (convert 56 52 (.pointer (some ⟨g, 0, none⟩))).run Try.prog w = .ok (.pointer (some ⟨g, 0, none⟩)) w := by
  obtain ⟨j, hj, _⟩ := Option.map_eq_some_iff.1 sz_state
  exact Lib.run_from_unsafe w (cells := 2) (e := 63) ⟨g, 0, none⟩ Try.underlying56 Try.underlying52 hj (by simp [World.shape?, h.out]) lies_state
/-- Two states are one just where both numbers are. -/
theorem run_eql_state (w : World) (a b c d : Int) : (binOp .eql 63 (.agg #[.int .i64 a, .int .i64 b]) (.agg #[.int .i64 c, .int .i64 d])).run Try.prog w = .ok (.bool (a == c && b == d)) w := by
  have u3 := Try.underlying3
  have a3 := Try.isAgg3
  have z3 := Try.sizeOf3
  have u4 := Try.underlying23
  have a4 := Try.isAgg23
  have z4 := Try.sizeOf23
  have hS : Try.prog.underlying 63 = some (.struct (Try.prog.fieldsOf 63)) := by kernel_rfl
  have hp : Try.prog.stoodInHeld 63 = false := by kernel_rfl
  rw [run_eql_struct, show (10000 : Nat) = 9999 + 1 from rfl, run_equalIn_agg w 9999 63 _ _ hS hp]
  simp only [Program.fieldsOf, Try.underlying63]
  go_simp
  by_cases h1 : a = c <;> by_cases h2 : b = d <;> simp [h1, h2]
end Go.Proofs.Ytdldaiakljhfjaa
