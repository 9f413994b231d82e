/- Plain words for the walks: which blocks may be written, what a slice of whatever elements reads as, numbers as limbs. No condition. -/
import Derived.WalkKit
import Derived.WalkSpells
import Derived.WalkLawsBesides
import Derived.Lib.Hide
import Derived.Deep.QuietTactic
import Derived.BigQuiet
import Derived.Laws.CopyOwn
namespace Go.Rid
open Go.RowKit

/-- The greatest number of bytes that an append may lead to. -/
def Room : Nat := 140737488355328

/-- Of what was there nothing has turned but blocks of M. -/
structure Keeps (M : Nat → Prop) (w w' : World) : Prop where
  os : w'.os = w.os
  tape : w'.tape = w.tape
  output : w'.output = w.output
  size : w.heap.size ≤ w'.heap.size
  block : ∀ k, k < w.heap.size → ¬ M k → w'.heap[k]? = w.heap[k]?

/-- No block. -/
def Nil : Nat → Prop := fun _ => False
/-- One block. -/
def One (b : Nat) : Nat → Prop := fun k => k = b
/-- All blocks of M are there. -/
def MB (M : Nat → Prop) (w : World) : Prop := ∀ b, M b → b < w.heap.size

theorem Keeps.refl (M : Nat → Prop) (w : World) : Keeps M w w := ⟨rfl, rfl, rfl, Nat.le_refl _, fun _ _ _ => rfl⟩
theorem Keeps.trans' {M M' : Nat → Prop} {a b c : World} (h : Keeps M a b) (k : Keeps M' b c) (hm : ∀ k, M' k → M k ∨ a.heap.size ≤ k) : Keeps M a c :=
  ⟨k.os.trans h.os, k.tape.trans h.tape, k.output.trans h.output, Nat.le_trans h.size k.size, fun i hi hn =>
    (k.block i (Nat.lt_of_lt_of_le hi h.size) (fun hM => by rcases hm i hM with h' | h'; exact hn h'; omega)).trans (h.block i hi hn)⟩
theorem Keeps.trans {M : Nat → Prop} {a b c : World} (h : Keeps M a b) (k : Keeps M b c) : Keeps M a c := h.trans' k fun _ => .inl
theorem Keeps.mono {M M' : Nat → Prop} {a b : World} (h : Keeps M a b) (hm : ∀ k, M k → M' k) : Keeps M' a b :=
  ⟨h.os, h.tape, h.output, h.size, fun i hi hn => h.block i hi fun hM => hn (hm i hM)⟩
theorem Keeps.of_nil {M : Nat → Prop} {a b : World} (h : Keeps Nil a b) : Keeps M a b := h.mono fun _ hk => hk.elim
theorem Keeps.transNil {M : Nat → Prop} {a b c : World} (h : Keeps M a b) (k : Keeps Nil b c) : Keeps M a c := h.trans k.of_nil
theorem Keeps.of_below {a b : World} (h : Below a.heap.size a b) (M : Nat → Prop) : Keeps M a b := ⟨h.os, h.tape, h.output, h.size, fun k hk _ => h.block k hk⟩
theorem Keeps.below {a b : World} (h : Keeps Nil a b) : Below a.heap.size a b := ⟨h.os, h.tape, h.output, h.size, fun k hk => h.block k hk id⟩
theorem Keeps.belowB {a b : World} (h : Keeps Nil a b) {B : Nat} (hB : B ≤ a.heap.size) : Below B a b := h.below.mono hB
theorem Keeps.of_belowB {a b : World} {B : Nat} (h : Below B a b) : Keeps (fun k => B ≤ k) a b := ⟨h.os, h.tape, h.output, h.size, fun k _ hn => h.block k (by omega)⟩
theorem Keeps.grown {w w' : World} {row : Option Nat} (hg : w.grownBy w' row) {M : Nat → Prop} (hr : ∀ k, row = some k → M k ∨ w.heap.size ≤ k) : Keeps M w w' :=
  ⟨hg.os, hg.tape, hg.output, hg.size, fun k hk hn => hg.block k hk fun e => by rcases hr k e.symm with h | h; exact hn h; omega⟩
theorem Keeps.grow {a w w' : World} {row : Option Nat} {M : Nat → Prop} (h : Keeps M a w) (hg : w.grownBy w' row) (hr : ∀ k, row = some k → M k ∨ a.heap.size ≤ k) : Keeps M a w' :=
  h.trans' (M' := fun k => row = some k) ⟨hg.os, hg.tape, hg.output, hg.size, fun k hk hn => hg.block k hk fun e => hn e.symm⟩ hr
theorem Keeps.drew {M : Nat → Prop} {a w : World} (h : Keeps M a w) : Keeps M a w.drew := ⟨h.os, h.tape, h.output, h.size, h.block⟩
theorem Keeps.drewN {M : Nat → Prop} {a w : World} (h : Keeps M a w) (n : Nat) : Keeps M a (w.drewN n) := ⟨h.os, h.tape, h.output, h.size, h.block⟩
theorem Keeps.alloc {M : Nat → Prop} {a w : World} (h : Keeps M a w) (o : Obj) : Keeps M a (w.alloc o) :=
  h.trans ⟨rfl, rfl, rfl, by simp, fun k hk _ => Below.heap_alloc w o k hk⟩
theorem Keeps.setCell {M : Nat → Prop} {a w : World} (h : Keeps M a w) {p : Addr} (hp : M p.block ∨ a.heap.size ≤ p.block) (u : Value) : Keeps M a (w.setCell p u) :=
  h.trans' (M' := One p.block) ⟨rfl, rfl, rfl, by simp [World.setCell], fun k _ hn => Below.heap_setCell _ _ _ _ hn⟩ (fun k hk => by cases hk; exact hp)
theorem Keeps.set1 {a w : World} {g : Nat} (h : Keeps (One g) a w) (o : Nat) (u : Value) : Keeps (One g) a (w.setCell ⟨g, o, none⟩ u) := h.setCell (p := ⟨g, o, none⟩) (.inl rfl) u
theorem Keeps.cell {M : Nat → Prop} {w w' : World} (h : Keeps M w w') {p : Addr} (hp : p.block < w.heap.size) (hn : ¬ M p.block) : w'.cell? p = w.cell? p :=
  World.cell?_of_block (w := w) (h.block p.block hp hn)
theorem Keeps.frozen {M : Nat → Prop} {w w' : World} (h : Keeps M w w') {p : Addr} (hp : p.block < w.heap.size) (hn : ¬ M p.block) : w'.frozen? p = w.frozen? p :=
  World.frozen?_of_block (w := w) (h.block p.block hp hn)
theorem Keeps.cellE {M : Nat → Prop} {w w' : World} (h : Keeps M w w') {b o : Nat} {v : Value} (hp : b < w.heap.size) (hn : ¬ M b) (hv : w.cell? ⟨b, o, none⟩ = some v) : w'.cell? ⟨b, o, none⟩ = some v :=
  (h.cell (p := ⟨b, o, none⟩) hp hn).trans hv
/-- Two rules for the walk: each old cell, each old mark. -/
theorem Keeps.rules {w w' : World} (h : Keeps Nil w w') : (∀ b o, b < w.heap.size → w'.cell? ⟨b, o, none⟩ = w.cell? ⟨b, o, none⟩) ∧ (∀ b o, b < w.heap.size → w'.frozen? ⟨b, o, none⟩ = w.frozen? ⟨b, o, none⟩) :=
  ⟨fun b o hb => h.cell (p := ⟨b, o, none⟩) hb id, fun b o hb => h.frozen (p := ⟨b, o, none⟩) hb id⟩
theorem MB.keep {M M' : Nat → Prop} {w w' : World} (h : MB M w) (k : Keeps M' w w') : MB M w' := fun b hb => Nat.lt_of_lt_of_le (h b hb) k.size
theorem MB.nil (w : World) : MB Nil w := fun _ h => h.elim

/-- A slice of n elements of sz cells each: where it lies. f i j: cell j of element i. -/
structure Sl (M : Nat → Prop) (w : World) (sz : Nat) (a : Option Addr) (n c : Nat) (f : Nat → Nat → Value) : Prop where
  le : n ≤ c
  cap : c ≤ 9223372036854775807
  none : a = .none → n = 0 ∧ c = 0
  some : ∀ p, a = .some p → 0 < n → p.spot = .none ∧ p.block < w.heap.size ∧ ¬ M p.block ∧ ∀ i j, i < n → j < sz → w.cell? ⟨p.block, p.off + i * sz + j, .none⟩ = .some (f i j)

theorem Sl.keep {M M' : Nat → Prop} {w w' : World} {sz : Nat} {a : Option Addr} {n c : Nat} {f : Nat → Nat → Value} (h : Sl M w sz a n c f) (k : Keeps M' w w') (hm : ∀ b, b < w.heap.size → M' b → M b) : Sl M w' sz a n c f :=
  ⟨h.le, h.cap, h.none, fun p hp h0 => by
    obtain ⟨h1, h2, h3, h4⟩ := h.some p hp h0
    exact ⟨h1, Nat.lt_of_lt_of_le h2 k.size, h3, fun i j hi hj => k.cellE h2 (fun hb => h3 (hm _ h2 hb)) (h4 i j hi hj)⟩⟩
/-- Other blocks may be written from now on, if the slice lies in none of them. -/
theorem Sl.turn {M M' : Nat → Prop} {w : World} {sz : Nat} {a : Option Addr} {n c : Nat} {f : Nat → Nat → Value} (h : Sl M w sz a n c f) (hm : ∀ b, b < w.heap.size → M' b → M b) : Sl M' w sz a n c f :=
  ⟨h.le, h.cap, h.none, fun p hp h0 => by
    obtain ⟨h1, h2, h3, h4⟩ := h.some p hp h0
    exact ⟨h1, h2, fun hb => h3 (hm _ h2 hb), h4⟩⟩
theorem Sl.nil (M : Nat → Prop) (w : World) (sz : Nat) (f : Nat → Nat → Value) : Sl M w sz .none 0 0 f := ⟨Nat.le_refl _, Nat.zero_le _, fun _ => ⟨rfl, rfl⟩, fun _ h _ => by cases h⟩
/-- Where there is an element there is an address. -/
theorem Sl.at {M : Nat → Prop} {w : World} {sz : Nat} {a : Option Addr} {n c : Nat} {f : Nat → Nat → Value} (h : Sl M w sz a n c f) (hn : 0 < n) :
    ∃ b off, a = .some ⟨b, off, .none⟩ ∧ b < w.heap.size ∧ ¬ M b ∧ ∀ i j, i < n → j < sz → w.cell? ⟨b, off + i * sz + j, .none⟩ = .some (f i j) := by
  cases a with
  | none => have := h.none rfl; omega
  | some p =>
    obtain ⟨h1, h2, h3, h4⟩ := h.some p rfl hn
    obtain ⟨b, off, spot⟩ := p
    subst h1
    exact ⟨b, off, rfl, h2, h3, h4⟩
/-- The first k elements. -/
theorem Sl.take {M : Nat → Prop} {w : World} {sz : Nat} {p : Addr} {n c : Nat} {f : Nat → Nat → Value} (h : Sl M w sz (.some p) n c f) {k : Nat} (hk : k ≤ n) : Sl M w sz (.some p) k c f :=
  ⟨Nat.le_trans hk h.le, h.cap, (fun h => by cases h), fun q hq h0 => by
    obtain ⟨h1, h2, h3, h4⟩ := h.some q hq (by omega)
    exact ⟨h1, h2, h3, fun i j hi hj => h4 i j (by omega) hj⟩⟩
theorem Sl.congr {M : Nat → Prop} {w : World} {sz : Nat} {a : Option Addr} {n c : Nat} {f g : Nat → Nat → Value} (h : Sl M w sz a n c f) (e : ∀ i j, i < n → j < sz → f i j = g i j) : Sl M w sz a n c g :=
  ⟨h.le, h.cap, h.none, fun q hq h0 => by
    obtain ⟨h1, h2, h3, h4⟩ := h.some q hq h0
    exact ⟨h1, h2, h3, fun i j hi hj => by rw [h4 i j hi hj, e i j hi hj]⟩⟩

/-- The i-th of a list of numbers. -/
def lim (l : List Nat) (i : Nat) : Nat := l.getD i 0
theorem lim_lt {l : List Nat} {i : Nat} (h : i < l.length) : lim l i = l[i] := by simp [lim, h]
/-- A limb as a value. -/
def u32 (x : Nat) : Value := .int .u32 (x : Int)
/-- A slice of limbs. -/
structure Limbs (M : Nat → Prop) (w : World) (a : Option Addr) (n c : Nat) (l : List Nat) : Prop where
  len : l.length = n
  sl : Sl M w 1 a n c (fun i _ => .int .u32 (lim l i : Int))
  lt : ∀ x ∈ l, x < 4294967296

theorem Limbs.keep {M M' : Nat → Prop} {w w' : World} {a : Option Addr} {n c : Nat} {l : List Nat} (h : Limbs M w a n c l) (k : Keeps M' w w') (hm : ∀ b, b < w.heap.size → M' b → M b) : Limbs M w' a n c l :=
  ⟨h.len, h.sl.keep k hm, h.lt⟩
theorem Limbs.keep' {M : Nat → Prop} {w w' : World} {a : Option Addr} {n c : Nat} {l : List Nat} (h : Limbs M w a n c l) (k : Keeps M w w') : Limbs M w' a n c l := h.keep k fun _ _ => id
theorem Limbs.lim_lt {M : Nat → Prop} {w : World} {a : Option Addr} {n c : Nat} {l : List Nat} (h : Limbs M w a n c l) (i : Nat) : lim l i < 4294967296 := by
  unfold lim
  by_cases hi : i < l.length
  · simpa [hi] using h.lt _ (List.getElem_mem hi)
  · simp [List.getD, List.getElem?_eq_none (Nat.le_of_not_lt hi)]
/-- An owned row of limbs. -/
theorem Limbs.owned {w : World} {base : Nat} {E : TypeId} {v : Value} {n : Nat} {l : List Nat} (h : w.ownsRow base E 1 v n (l.map u32)) (hl : ∀ x ∈ l, x < 4294967296) {M : Nat → Prop} (hM : ∀ b, M b → b < base) :
    ∃ a c, v = .slice a n c ∧ Limbs M w a n c l := by
  have hn : l.length = n := by simpa using h.1
  rcases h.2 with ⟨rfl, rfl⟩ | ⟨g, cap, cur, rfl, hb, hg, hnc, hcm, hcs, htake⟩
  · have : l = [] := List.eq_nil_of_length_eq_zero hn
    subst this
    exact ⟨_, _, rfl, rfl, Sl.nil _ _ _ _, hl⟩
  · refine ⟨_, _, rfl, hn, ⟨hnc, by unfold maxLen at hcm; exact hcm, (fun h => by cases h), fun p hp _ => ?_⟩, hl⟩
    cases hp
    refine ⟨rfl, (Array.getElem?_eq_some_iff.1 hg).1, fun hm => by have := hM _ hm; simp at this; omega, fun i j hi hj => ?_⟩
    obtain rfl : j = 0 := by omega
    have := h.cells (g := g) rfl i (.int .u32 (lim l i : Int)) (by simp [List.getElem?_map, Rid.lim, u32, List.getElem?_eq_getElem (show i < l.length by omega)])
    simpa [Addr.add_lit] using this

/-- How long a list is without the noughts at its end, from k on. -/
def topK (l : List Nat) : Nat → Nat
  | 0 => 0
  | k + 1 => if lim l k == 0 then topK l k else k + 1
theorem topK_zero {l : List Nat} {k : Nat} (h : lim l k = 0) : topK l (k + 1) = topK l k := by simp [topK, h]
theorem topK_pos {l : List Nat} {k : Nat} (h : lim l k ≠ 0) : topK l (k + 1) = k + 1 := by simp [topK, h]
theorem topK_le (l : List Nat) (k : Nat) : topK l k ≤ k := by
  induction k with
  | zero => exact Nat.le_refl _
  | succ k ih => unfold topK; split <;> omega
/-- The cells of a slice of limbs, as append and copy ask for them. -/
theorem limbs_cells {w : World} {b off n : Nat} {l : List Nat} (hl : l.length = n) (hc : ∀ i j, i < n → j < 1 → w.cell? ⟨b, off + i * 1 + j, none⟩ = some (.int .u32 (lim l i : Int))) (k : Nat) (hk : k ≤ n) :
    ∀ (j : Nat) (u : Value), ((l.take k).map u32)[j]? = some u → w.cell? ((⟨b, off, none⟩ : Addr).add j) = some u := by
  intro j u hj
  rw [Addr.add_lit]
  have hjk : j < k := by
    have := (List.getElem?_eq_some_iff.1 hj).1
    simp at this; omega
  have h := hc j 0 (by omega) (by omega)
  simp only [Nat.mul_one, Nat.add_zero] at h
  rw [h]
  have hjl : j < l.length := by omega
  simp only [List.getElem?_map, List.getElem?_take, hjk, if_true, List.getElem?_eq_getElem hjl, Option.map_some] at hj
  rw [Rid.lim_lt hjl]
  exact hj
theorem u32_one (l : List Nat) : ∀ u ∈ l.map u32, u.oneCell' = true := by
  intro u hu; obtain ⟨x, _, rfl⟩ := List.mem_map.1 hu; rfl
/-- A number's limbs without the noughts at the end. -/
def top (l : List Nat) : Nat := topK l l.length
def trim (l : List Nat) : List Nat := l.take (top l)
theorem top_le (l : List Nat) : top l ≤ l.length := topK_le l _
theorem length_trim (l : List Nat) : (trim l).length = top l := by simp [trim, top_le]
theorem mem_trim {l : List Nat} {x : Nat} (h : x ∈ trim l) : x ∈ l := List.mem_of_mem_take h
theorem lim_take {l : List Nat} {n i : Nat} (h : i < n) : lim (l.take n) i = lim l i := by simp [lim, List.getD, h]
theorem Limbs.take {M : Nat → Prop} {w : World} {p : Addr} {n c : Nat} {l : List Nat} (h : Limbs M w (some p) n c l) {k : Nat} (hk : k ≤ n) : Limbs M w (some p) k c (l.take k) :=
  ⟨by have := h.len; simp; omega, (h.sl.take hk).congr (fun i j hi _ => by rw [lim_take hi]), fun x hx => h.lt x (List.mem_of_mem_take hx)⟩

/-- A block is a row of these cells, and may be written. -/
def RowIs (w : World) (g : Nat) (E : TypeId) (xs : List Value) : Prop := w.heap[g]? = some (.cells xs.toArray E (0, 0))
theorem RowIs.out {w : World} {g : Nat} {E : TypeId} {xs : List Value} (h : RowIs w g E xs) : w.heap[g]? = some (.cells xs.toArray E (0, 0)) := h
theorem RowIs.lt {w : World} {g : Nat} {E : TypeId} {xs : List Value} (h : RowIs w g E xs) : g < w.heap.size := (Array.getElem?_eq_some_iff.1 h).1
theorem RowIs.keep {M : Nat → Prop} {w w' : World} {g : Nat} {E : TypeId} {xs : List Value} (h : RowIs w g E xs) (k : Keeps M w w') (hn : ¬ M g) : RowIs w' g E xs := (k.block g h.lt hn).trans h
theorem RowIs.cell {w : World} {g : Nat} {E : TypeId} {xs : List Value} (h : RowIs w g E xs) (i : Nat) : w.cell? ⟨g, i, none⟩ = xs[i]? := by
  rw [cell_of_row w g i _ E (0, 0) h]; simp
theorem RowIs.frozen {w : World} {g : Nat} {E : TypeId} {xs : List Value} (h : RowIs w g E xs) (i : Nat) : w.frozen? ⟨g, i, none⟩ = false := by
  simp [World.frozen?, h.out]
theorem RowIs.one {w : World} {g : Nat} {E : TypeId} {x : Value} (h : RowIs w g E [x]) : w.cell? ⟨g, 0, none⟩ = some x ∧ w.frozen? ⟨g, 0, none⟩ = false := ⟨h.cell 0, h.frozen 0⟩
theorem RowIs.two {w : World} {g : Nat} {E : TypeId} {x y : Value} (h : RowIs w g E [x, y]) : w.cell? ⟨g, 0, none⟩ = some x ∧ w.cell? ⟨g, 1, none⟩ = some y ∧ w.frozen? ⟨g, 0, none⟩ = false ∧ w.frozen? ⟨g, 1, none⟩ = false := ⟨h.cell 0, h.cell 1, h.frozen 0, h.frozen 1⟩
theorem RowIs.three {w : World} {g : Nat} {E : TypeId} {x y z : Value} (h : RowIs w g E [x, y, z]) : w.cell? ⟨g, 0, none⟩ = some x ∧ w.cell? ⟨g, 1, none⟩ = some y ∧ w.cell? ⟨g, 2, none⟩ = some z := ⟨h.cell 0, h.cell 1, h.cell 2⟩
theorem RowIs.set {w : World} {g : Nat} {E : TypeId} {xs : List Value} (h : RowIs w g E xs) (i : Nat) (v : Value) : RowIs (w.setCell ⟨g, i, none⟩ v) g E (xs.set i v) := by
  unfold RowIs
  simp only [World.setCell, Array.getElem?_modify, if_true, h.out, Option.map_some]
  simp
theorem RowIs.alloc {w : World} {E : TypeId} {xs : List Value} : RowIs (w.alloc (.cells xs.toArray E)) w.heap.size E xs := heap_alloc_new w _
/-- n zeros. -/
def zeros (n : Nat) (z : Value) : List Value := List.replicate n z
theorem length_zeros (n : Nat) (z : Value) : (zeros n z).length = n := by simp [zeros]
/-- Limbs as cells. -/
def u32s (l : List Nat) : List Value := l.map u32
theorem length_u32s (l : List Nat) : (u32s l).length = l.length := by simp [u32s]
theorem one_u32s (l : List Nat) : ∀ u ∈ u32s l, u.oneCell' = true := u32_one l
/-- From an address on these cells can be read. -/
def SrcIs (M : Nat → Prop) (w : World) (a : Option Addr) (cs : List Value) : Prop :=
  0 < cs.length → ∃ b off, a = some ⟨b, off, none⟩ ∧ b < w.heap.size ∧ ¬ M b ∧ ∀ j v, cs[j]? = some v → w.cell? ⟨b, off + j, none⟩ = some v
theorem SrcIs.keep {M M' : Nat → Prop} {w w' : World} {a : Option Addr} {cs : List Value} (h : SrcIs M w a cs) (k : Keeps M' w w') (hm : ∀ b, b < w.heap.size → M' b → M b) : SrcIs M w' a cs := by
  intro hp
  obtain ⟨b, off, rfl, hb, hn, hc⟩ := h hp
  exact ⟨b, off, rfl, Nat.lt_of_lt_of_le hb k.size, hn, fun j v hj => k.cellE hb (fun hb' => hn (hm _ hb hb')) (hc j v hj)⟩
theorem SrcIs.keepNil {M : Nat → Prop} {w w' : World} {a : Option Addr} {cs : List Value} (h : SrcIs M w a cs) (k : Keeps Nil w w') : SrcIs M w' a cs := h.keep k fun _ _ h => h.elim
theorem Limbs.src {M : Nat → Prop} {w : World} {a : Option Addr} {n c : Nat} {l : List Nat} (h : Limbs M w a n c l) {k : Nat} (hk : k ≤ n) : SrcIs M w a (u32s (l.take k)) := by
  intro hp
  have hl := h.len
  rw [length_u32s, List.length_take] at hp
  obtain ⟨b, off, rfl, hb, hn, hc⟩ := h.sl.at (by omega)
  exact ⟨b, off, rfl, hb, hn, fun j v hj => by rw [← limbs_cells hl hc k hk j v hj, Addr.add_lit]⟩
theorem wpList_copy_row {M : Nat → Prop} {P : Program} {w : World} {ops : Array Oper} {rest : List Oper} {o : Oper} {a : Act} {Q : Exit → Act → World → Prop} (hgd : o.guard = none) (d s : Operand) (dT sT : TypeId)
    (ho : o.op = .call { callee := .builtin .copy, args := #[d, s], argTypes := #[dT, sT] }) (elem : TypeId) (hu : P.underlying dT = some (.slice elem)) (hsz : (P.info? elem).map (·.size) = some 1)
    (dp sp : Option Addr) (dLen dCap sLen sCap : Nat) (hd : a.eval d = .slice dp dLen dCap) (hs : a.eval s = .slice sp sLen sCap)
    (g off : Nat) (cur : List Value) (t : TypeId) (hg : RowIs w g t cur) (cs : List Value) (hn : cs.length = min sLen dLen)
    (hpd : 0 < cs.length → dp = some ⟨g, off, none⟩) (hps : SrcIs M w sp cs)
    (hfit : off + cs.length ≤ cur.length) (h1 : ∀ v ∈ cs, v.oneCell' = true)
    (h : ∀ w', RowIs w' g t (splice cur off cs) → Keeps (One g) w w' → wpList P ops Q rest (a.put o.dst (goInt cs.length)) w') :
    wpList P ops Q (o :: rest) a w := by
  by_cases h0 : cs.length = 0
  · obtain rfl : cs = [] := List.eq_nil_of_length_eq_zero h0
    refine wpList_copy_nothing hgd d s dT sT ho elem hu hsz dp sp dLen dCap sLen sCap hd hs (by simpa using hn.symm) ?_
    exact h w (by simpa [splice] using hg) (Keeps.refl _ _)
  · obtain ⟨b, so, rfl, hb, _, hsrc⟩ := hps (by omega)
    obtain rfl := hpd (by omega)
    refine wpList_copy_own hgd d s dT sT ho elem hu hsz g off dLen dCap ⟨b, so, none⟩ sLen sCap hd hs cur.toArray t hg.out cs hn (fun j v hj => by rw [Addr.add_lit]; exact hsrc j v hj) (by simpa using hfit) h1 ?_
    refine h _ (show _ = _ by simpa [splice] using setRow_heap w g _ _ t _ hg.out) ⟨rfl, rfl, rfl, by simp [World.setRow], fun k _ hk => setRow_other w g k _ hk⟩

/-- 'make([]T, n)', T of one cell: a new row of n zeros. -/
theorem wpList_make_row {P : Program} (w : World) {ops : Array Oper} {rest : List Oper} {o : Oper} {a : Act} {Q : Exit → Act → World → Prop}
    (hg : o.guard = none) (l c : Operand) (t : TypeId) (hop : o.op = Op.makeSlice t l c)
    (e : TypeId) (i : TypeInfo) (z : Value) (h1 : P.underlying t = some (.slice e)) (h2 : P.info? e = some i) (h3 : i.zero = some z) (h4 : i.size = 1) (hz : z.cells = #[z])
    (kl kc : IntKind) (L C : Int) (n : Nat) (hl : a.eval l = .int kl L) (hc : a.eval c = .int kc C) (hL : L = (n : Int)) (hC : C = (n : Int)) (b2 : i.bytes * n ≤ 281474976710656) (b3 : n ≤ 9223372036854775807)
    (hK : ∀ w', RowIs w' w.heap.size e (zeros n z) → Keeps Nil w w' → w'.heap.size = w.heap.size + 1 → wpList P ops Q rest (a.put o.dst (.slice (some ⟨w.heap.size, 0, none⟩) n n)) w') :
    wpList P ops Q (o :: rest) a w := by
  refine wpList_plain hg fun K hK' => ?_
  subst hL
  subst hC
  have hb : (i.bytes : Int) * (n : Int) ≤ 281474976710656 := by
    have h : ((i.bytes * n : Nat) : Int) ≤ 281474976710656 := by omega
    rwa [Int.natCast_mul] at h
  have hr := run_make (P := P) w t e i z h1 h2 h3 kl kc (n : Int) (n : Int) (by omega) (Int.le_refl _) hb (by omega)
  have hm : madeCells z.cells ((n : Int).toNat * i.size) = (List.replicate n z).toArray := by
    rw [h4, Nat.mul_one, Int.toNat_natCast, hz]
    apply Array.ext
    · simp [madeCells]
    · intro j h1 h2
      simp [madeCells, Nat.mod_one]
  rw [hm] at hr
  simp only [Int.toNat_natCast] at hr
  unfold Oper.wp
  simp [execOp, hop, hl, hc, hr, Result.andThen]
  refine hK' _ _ ?_
  have := hK (w.alloc (.cells (List.replicate n z).toArray e)) (heap_alloc_new w _) ((Keeps.refl Nil w).alloc _) (by simp)
  simpa using this
/-- A row of limbs, written out. -/
theorem Limbs.ofRow {M : Nat → Prop} {w : World} {g : Nat} {E : TypeId} {l : List Nat} (h : RowIs w g E (u32s l)) (hl : ∀ x ∈ l, x < 4294967296) (hM : ¬ M g) (hr : l.length ≤ 9223372036854775807) :
    Limbs M w (some ⟨g, 0, none⟩) l.length l.length l :=
  ⟨rfl, ⟨Nat.le_refl _, hr, (fun h => by cases h), fun p hp _ => by
    cases hp
    refine ⟨rfl, h.lt, hM, fun i j hi hj => ?_⟩
    obtain rfl : j = 0 := by omega
    simp only [Nat.mul_one, Nat.add_zero, Nat.zero_add]
    rw [h.cell i]
    simp [Rid.lim_lt hi, u32s, u32, List.getElem?_eq_getElem hi]⟩, hl⟩
theorem splice_all {α : Type} (L cs : List α) (h : L.length = cs.length) : splice L 0 cs = cs := by
  simp [splice, ← h]


/-- A slice whose elements, sz cells each, read as xs. -/
structure SlOf {α : Type} (M : Nat → Prop) (w : World) (sz : Nat) (R : List Value → α → Prop) (d : α) (a : Option Addr) (n c : Nat) (xs : List α) : Prop where
  len : xs.length = n
  ex : ∃ f : Nat → List Value, Sl M w sz a n c (fun i j => (f i).getD j undef) ∧ ∀ i, i < n → (f i).length = sz ∧ R (f i) (xs.getD i d)
section
variable {α : Type} {M M' : Nat → Prop} {w w' : World} {sz : Nat} {R R' : List Value → α → Prop} {d : α} {a : Option Addr} {n c : Nat} {xs : List α}
theorem SlOf.keep (h : SlOf M w sz R d a n c xs) (k : Keeps M' w w') (hm : ∀ b, b < w.heap.size → M' b → M b) (hR : ∀ cs x, R cs x → R' cs x) : SlOf M w' sz R' d a n c xs :=
  ⟨h.len, h.ex.elim fun f ⟨h1, h2⟩ => ⟨f, h1.keep k hm, fun i hi => ⟨(h2 i hi).1, hR _ _ (h2 i hi).2⟩⟩⟩
theorem SlOf.turn (h : SlOf M w sz R d a n c xs) (hm : ∀ b, b < w.heap.size → M' b → M b) (hR : ∀ cs x, R cs x → R' cs x) : SlOf M' w sz R' d a n c xs :=
  ⟨h.len, h.ex.elim fun f ⟨h1, h2⟩ => ⟨f, h1.turn hm, fun i hi => ⟨(h2 i hi).1, hR _ _ (h2 i hi).2⟩⟩⟩
theorem SlOf.at (h : SlOf M w sz R d a n c xs) {i : Nat} (hi : i < n) :
    ∃ b off cs, a = .some ⟨b, off, .none⟩ ∧ b < w.heap.size ∧ ¬ M b ∧ cs.length = sz ∧ (∀ j, j < sz → w.cell? ⟨b, off + i * sz + j, .none⟩ = .some (cs.getD j undef)) ∧ R cs (xs.getD i d) := by
  obtain ⟨f, h1, h2⟩ := h.ex
  obtain ⟨b, off, rfl, hb, hn, hc⟩ := h1.at (by omega)
  exact ⟨b, off, f i, rfl, hb, hn, (h2 i hi).1, fun j hj => hc i j hi hj, (h2 i hi).2⟩
theorem SlOf.le (h : SlOf M w sz R d a n c xs) : n ≤ c := h.ex.elim fun _ h => h.1.le
theorem SlOf.cap (h : SlOf M w sz R d a n c xs) : c ≤ 9223372036854775807 := h.ex.elim fun _ h => h.1.cap
theorem SlOf.none (h : SlOf M w sz R d .none n c xs) : n = 0 ∧ c = 0 := h.ex.elim fun _ h => h.1.none rfl
theorem SlOf.nil : SlOf M w sz R d .none 0 0 [] := ⟨rfl, fun _ => [], Sl.nil _ _ _ _, fun i hi => by omega⟩
end
/-- A number, by its two cells: below 0 or not, and its limbs. -/
def RInt (M : Nat → Prop) (w : World) (cs : List Value) (x : Bool × List Nat) : Prop := ∃ a n c, cs = [.bool x.1, .slice a n c] ∧ Limbs M w a n c x.2 ∧ n * 4 ≤ 140737488355328
theorem RInt.keep {M M' : Nat → Prop} {w w' : World} {cs : List Value} {x : Bool × List Nat} (h : RInt M w cs x) (k : Keeps M' w w') (hm : ∀ b, b < w.heap.size → M' b → M b) : RInt M w' cs x := by
  obtain ⟨a, n, c, h1, h2, h3⟩ := h; exact ⟨a, n, c, h1, h2.keep k hm, h3⟩
theorem Limbs.turn {M M' : Nat → Prop} {w : World} {a : Option Addr} {n c : Nat} {l : List Nat} (h : Limbs M w a n c l) (hm : ∀ b, b < w.heap.size → M' b → M b) : Limbs M' w a n c l := ⟨h.len, h.sl.turn hm, h.lt⟩
theorem RInt.turn {M M' : Nat → Prop} {w : World} {cs : List Value} {x : Bool × List Nat} (h : RInt M w cs x) (hm : ∀ b, b < w.heap.size → M' b → M b) : RInt M' w cs x := by
  obtain ⟨a, n, c, h1, h2, h3⟩ := h; exact ⟨a, n, c, h1, h2.turn hm, h3⟩
/-- A slice of numbers. -/
def Ints (M : Nat → Prop) (w : World) (a : Option Addr) (n c : Nat) (xs : List (Bool × List Nat)) : Prop := SlOf M w 2 (RInt M w) (false, []) a n c xs
theorem Ints.keep {M M' : Nat → Prop} {w w' : World} {a : Option Addr} {n c : Nat} {xs : List (Bool × List Nat)} (h : Ints M w a n c xs) (k : Keeps M' w w') (hm : ∀ b, b < w.heap.size → M' b → M b) : Ints M w' a n c xs :=
  SlOf.keep h k hm fun _ _ hx => hx.keep k hm
theorem Ints.turn {M M' : Nat → Prop} {w : World} {a : Option Addr} {n c : Nat} {xs : List (Bool × List Nat)} (h : Ints M w a n c xs) (hm : ∀ b, b < w.heap.size → M' b → M b) : Ints M' w a n c xs :=
  SlOf.turn h hm fun _ _ hx => hx.turn hm
theorem Ints.keepNil {M : Nat → Prop} {w w' : World} {a : Option Addr} {n c : Nat} {xs : List (Bool × List Nat)} (h : Ints M w a n c xs) (k : Keeps Nil w w') : Ints M w' a n c xs := h.keep k fun _ _ h => h.elim
/-- The i-th number. -/
def ith (xs : List (Bool × List Nat)) (i : Nat) : Bool × List Nat := xs.getD i (false, [])
theorem Ints.at {M : Nat → Prop} {w : World} {a : Option Addr} {n c : Nat} {xs : List (Bool × List Nat)} (h : Ints M w a n c xs) {i : Nat} (hi : i < n) :
    ∃ b off a' n' c', a = some ⟨b, off, none⟩ ∧ b < w.heap.size ∧ ¬ M b ∧ w.cell? ⟨b, off + i * 2, none⟩ = some (.bool (ith xs i).1) ∧ w.cell? ⟨b, off + i * 2 + 1, none⟩ = some (.slice a' n' c') ∧ Limbs M w a' n' c' (ith xs i).2 ∧ n' * 4 ≤ 140737488355328 := by
  obtain ⟨b, off, cs, rfl, hb, hn, hl, hc, a', n', c', h1, h2, h3⟩ := SlOf.at h hi
  subst h1
  exact ⟨b, off, a', n', c', rfl, hb, hn, by simpa [ith] using hc 0 (by omega), by simpa using hc 1 (by omega), h2, h3⟩

theorem Ints.none {M : Nat → Prop} {w : World} : Ints M w none 0 0 [] := SlOf.nil
/-- A list of one number, written out. -/
theorem Ints.ofRow1 {M : Nat → Prop} {w : World} {g : Nat} {E : TypeId} {neg : Bool} {a : Option Addr} {n c : Nat} {l : List Nat} (h : RowIs w g E [.bool neg, .slice a n c]) (hL : Limbs M w a n c l) (hr : n * 4 ≤ 140737488355328) (hM : ¬ M g) : Ints M w (some ⟨g, 0, .none⟩) 1 1 [(neg, l)] := by
  refine ⟨rfl, fun _ => [.bool neg, .slice a n c], ⟨Nat.le_refl _, by omega, (fun h => by cases h), fun p hp _ => ?_⟩, fun i hi => ?_⟩
  · cases hp
    refine ⟨rfl, h.lt, hM, fun i j hi hj => ?_⟩
    obtain rfl : i = 0 := by omega
    simp only [Nat.zero_mul, Nat.add_zero, Nat.zero_add]
    rw [h.cell j]
    rcases (show j = 0 ∨ j = 1 by omega) with rfl | rfl <;> rfl
  · obtain rfl : i = 0 := by omega
    exact ⟨rfl, a, n, c, rfl, hL, hr⟩

end Go.Rid
