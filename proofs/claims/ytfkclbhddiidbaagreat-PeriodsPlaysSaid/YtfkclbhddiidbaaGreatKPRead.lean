/- Reading the arguments of the laws on sets: numbers, lists of numbers, lists of wanted sets. Nothing is asked. -/
import Derived.Test.YtfkclbhddiidbaaGreatKRead
import Derived.Test.YtfkclbhddiidbaaGreatKWords
namespace Go.Rid
open Go.RowKit
def I64 (x : Int) : Prop := -9223372036854775808 ≤ x ∧ x ≤ 9223372036854775807
/-- A number as an argument holds it. -/
def RNum (M : Nat → Prop) (w : World) (cs : List Value) (z : Int) : Prop := ∃ g a n c, cs = [.bool g, .slice a n c] ∧ ZAt M w g a n c z ∧ n * 4 + 4096 ≤ 140737488355328
/-- A wanted set. -/
structure Mk where
  kind : Int
  a : Int
  b : Int
  k : Int
  d : Int
def RMk (M : Nat → Prop) (w : World) (cs : List Value) (m : Mk) : Prop :=
  ∃ g a n c g2 a2 n2 c2, cs = [.int .i64 m.kind, .int .i64 m.a, .int .i64 m.b, .bool g, .slice a n c, .bool g2, .slice a2 n2 c2] ∧ ZAt M w g a n c m.k ∧ ZAt M w g2 a2 n2 c2 m.d ∧ n * 4 + 4096 ≤ 140737488355328 ∧ n2 * 4 + 4096 ≤ 140737488355328 ∧ I64 m.kind ∧ I64 m.a ∧ I64 m.b
theorem RNum.moves : ∀ ⦃M M' M2 : Nat → Prop⦄ ⦃w w' : World⦄ ⦃cs : List Value⦄ ⦃x : Int⦄, RNum M w cs x → Keeps M' w w' → (∀ b, b < w.heap.size → M' b → M b) → (∀ b, b < w.heap.size → M2 b → M b) → RNum M2 w' cs x := by
  intro M M' M2 w w' cs x h k h1 h2
  obtain ⟨g, a, n, c, e, q, r⟩ := h; exact ⟨g, a, n, c, e, q.move k h1 h2, r⟩
theorem RMk.moves : ∀ ⦃M M' M2 : Nat → Prop⦄ ⦃w w' : World⦄ ⦃cs : List Value⦄ ⦃x : Mk⦄, RMk M w cs x → Keeps M' w w' → (∀ b, b < w.heap.size → M' b → M b) → (∀ b, b < w.heap.size → M2 b → M b) → RMk M2 w' cs x := by
  intro M M' M2 w w' cs x h k h1 h2
  obtain ⟨g, a, n, c, g2, a2, n2, c2, e, q, q2, r⟩ := h; exact ⟨g, a, n, c, g2, a2, n2, c2, e, q.move k h1 h2, q2.move k h1 h2, r⟩
end Go.Rid
namespace Go.Proofs.YtfkclbhddiidbaaGreat
open Go.RowKit Go.Rid Go.Deep Go.ChangeShapes Go.WideShapes Go.Joins
section
variable {H : Type} {enc : TypeId × Value → H} {w : World}
theorem limbsF_of_trod {fuel : Nat} {cs : List Value} {x : DataW H × List MemPlace} (h : DataW.trod enc Tryz.prog w 0 (fun _ => true) true fuel 36 cs = some x) (hL : Light Tryz.prog 36 x.1) :
    ∃ a n c l, cs = [.slice a n c] ∧ Limbs Nil w a n c l ∧ n * 4 + 4096 ≤ 140737488355328 := by
  obtain ⟨a, n, c, xs, rfl, hs, hb⟩ := slOf_of_trod (R := fun cs z => cs = [.int .u32 (z : Nat)] ∧ z < 4294967296) (d := 0) (sz := 1) Tryz.underlying36 (by kernel_rfl) (by decide) h hL (fun n cs' y _ hy _ => by
    obtain ⟨z, rfl, _, hz⟩ := DataW.trod_int Tryz.underlying66 hy
    have hz' := bounds_u32 hz
    exact ⟨z.toNat, by rw [Int.toNat_of_nonneg hz'.1], by omega⟩)
  obtain ⟨f, h1, h2⟩ := hs.ex
  have hb4 : Tryz.prog.bytesOf 66 = 4 := by kernel_rfl
  rw [hb4] at hb
  refine ⟨a, n, c, xs, rfl, ⟨hs.len, h1.congr fun i j hi hj => ?_, fun x hx => ?_⟩, by have := hs.le; unfold reachBytes at hb; omega⟩
  · obtain rfl : j = 0 := by omega
    rw [(h2 i hi).2.1]; rfl
  · obtain ⟨i, hi, rfl⟩ := List.getElem_of_mem hx
    have := (h2 i (by have := hs.len; omega)).2.2
    simpa [List.getD, List.getElem?_eq_getElem hi] using this
set_option maxRecDepth 100000 in
theorem num_of_trod {fuel : Nat} {cs : List Value} {x : DataW H × List MemPlace} (h : DataW.trod enc Tryz.prog w 0 (fun _ => true) true fuel 38 cs = some x) (hL : Light Tryz.prog 38 x.1) :
    ∃ z, RNum Nil w cs z := by
  obtain ⟨y0, y1, n, rfl, hl, h0, h1⟩ := trod_struct2 Tryz.underlying38 h
  have hc : Tryz.prog.cellsOf 38 = 2 := by kernel_rfl
  have hc0 : Tryz.prog.cellsOf 4 = 1 := by kernel_rfl
  have hc1 : Tryz.prog.cellsOf 36 = 1 := by kernel_rfl
  rw [hc] at hl
  match cs, hl with
  | [c0, c1], _ =>
    simp only [hc0, hc1, List.drop_zero, List.take_succ_cons, List.take_zero, List.drop_succ_cons] at h0 h1
    obtain ⟨b, e0, _⟩ := DataW.trod_bool Tryz.underlying4 h0
    obtain ⟨a, n, c, l, e1, hL1, hr⟩ := limbsF_of_trod h1 (hL.field (j := 1) Tryz.underlying38 rfl rfl)
    cases e0
    cases e1
    exact ⟨ival (b, l), b, a, n, c, rfl, ⟨l, hL1, by omega, rfl⟩, hr⟩
theorem nums_of_trod {fuel : Nat} {cs : List Value} {x : DataW H × List MemPlace} (h : DataW.trod enc Tryz.prog w 0 (fun _ => true) true fuel 23 cs = some x) (hL : Light Tryz.prog 23 x.1) :
    ∃ a n c xs, cs = [.slice a n c] ∧ SlOf Nil w 2 (RNum Nil w) 0 a n c xs ∧ n * 32 + 4096 ≤ 140737488355328 := by
  obtain ⟨a, n, c, xs, rfl, hs, hb⟩ := slOf_of_trod (R := RNum Nil w) (d := 0) (sz := 2) Tryz.underlying23 (by kernel_rfl) (by decide) h hL (fun n cs' y _ hy hl => num_of_trod hy hl)
  have hb4 : Tryz.prog.bytesOf 38 = 32 := by kernel_rfl
  rw [hb4] at hb
  exact ⟨a, n, c, xs, rfl, hs, by have := hs.le; unfold reachBytes at hb; omega⟩
theorem trod_struct5 {P : Program} {base : Nat} {spare : Nat → Bool} {held : Bool} {t : TypeId} {f0 f1 f2 f3 f4 : Field} {fuel : Nat} {cs : List Value} {x : DataW H × List MemPlace} (ht : P.underlying t = some (.struct #[f0, f1, f2, f3, f4])) (h : DataW.trod enc P w base spare held fuel t cs = some x) :
    ∃ y0 y1 y2 y3 y4 n, x.1 = .agg [y0.1, y1.1, y2.1, y3.1, y4.1] ∧ cs.length = P.cellsOf t ∧ DataW.trod enc P w base spare held n f0.type ((cs.drop f0.offset).take (P.cellsOf f0.type)) = some y0 ∧
      DataW.trod enc P w base spare held n f1.type ((cs.drop f1.offset).take (P.cellsOf f1.type)) = some y1 ∧ DataW.trod enc P w base spare held n f2.type ((cs.drop f2.offset).take (P.cellsOf f2.type)) = some y2 ∧
      DataW.trod enc P w base spare held n f3.type ((cs.drop f3.offset).take (P.cellsOf f3.type)) = some y3 ∧ DataW.trod enc P w base spare held n f4.type ((cs.drop f4.offset).take (P.cellsOf f4.type)) = some y4 := by
  obtain ⟨xs, n, _, rfl, hl, hlen, hf⟩ := DataW.trod_struct ht h
  match xs, hlen with
  | [y0, y1, y2, y3, y4], _ => exact ⟨y0, y1, y2, y3, y4, n, by simp, hl, by simpa using hf 0 f0 rfl, by simpa using hf 1 f1 rfl, by simpa using hf 2 f2 rfl, by simpa using hf 3 f3 rfl, by simpa using hf 4 f4 rfl⟩
set_option maxRecDepth 100000 in
theorem makes_of_trod {fuel : Nat} {cs : List Value} {x : DataW H × List MemPlace} (h : DataW.trod enc Tryz.prog w 0 (fun _ => true) true fuel 22 cs = some x) (hL : Light Tryz.prog 22 x.1) :
    ∃ a n c xs, cs = [.slice a n c] ∧ SlOf Nil w 7 (RMk Nil w) ⟨0, 0, 0, 0, 0⟩ a n c xs ∧ n * 88 ≤ 140737488355328 := by
  have hc : Tryz.prog.cellsOf 40 = 7 := by kernel_rfl
  have hc0 : Tryz.prog.cellsOf 3 = 1 := by kernel_rfl
  have hc1 : Tryz.prog.cellsOf 38 = 2 := by kernel_rfl
  obtain ⟨a, n, c, xs, rfl, hs, hb⟩ := slOf_of_trod (R := RMk Nil w) (d := ⟨0, 0, 0, 0, 0⟩) (sz := 7) Tryz.underlying22 hc (by decide) h hL (fun n cs' y hl hy hlt => by
    obtain ⟨y0, y1, y2, y3, y4, m, ey, _, h0, h1, h2, h3, h4⟩ := trod_struct5 Tryz.underlying40 hy
    match cs', hl with
    | [c0, c1, c2, c3, c4, c5, c6], _ =>
      simp only [hc0, hc1, List.drop_zero, List.take_succ_cons, List.take_zero, List.drop_succ_cons] at h0 h1 h2 h3 h4
      obtain ⟨z0, e0, _, k0⟩ := DataW.trod_int Tryz.underlying3 h0
      obtain ⟨z1, e1, _, k1⟩ := DataW.trod_int Tryz.underlying3 h1
      obtain ⟨z2, e2, _, k2⟩ := DataW.trod_int Tryz.underlying3 h2
      rw [ey] at hlt
      obtain ⟨z3, g, a, n, c, e3, q3, r3⟩ := num_of_trod h3 (hlt.field (j := 3) Tryz.underlying40 rfl rfl)
      obtain ⟨z4, g2, a2, n2, c2, e4, q4, r4⟩ := num_of_trod h4 (hlt.field (j := 4) Tryz.underlying40 rfl rfl)
      cases e0
      cases e1
      cases e2
      cases e3
      cases e4
      exact ⟨⟨z0, z1, z2, z3, z4⟩, g, a, n, c, g2, a2, n2, c2, rfl, q3, q4, r3, r4, bounds_i64 k0, bounds_i64 k1, bounds_i64 k2⟩)
  have hb4 : Tryz.prog.bytesOf 40 = 88 := by kernel_rfl
  rw [hb4] at hb
  exact ⟨a, n, c, xs, rfl, hs, by have := hs.le; unfold reachBytes at hb; omega⟩
end
end Go.Proofs.YtfkclbhddiidbaaGreat
