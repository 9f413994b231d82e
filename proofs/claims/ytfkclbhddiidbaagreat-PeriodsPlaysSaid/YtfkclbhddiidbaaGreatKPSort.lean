/- What slices.SortFunc does at a row of numbers by zint.Cmp: the same numbers, rising. Conditions: the row's own reading; room. -/
import Derived.Test.YtfkclbhddiidbaaGreatKSortLaid
import Derived.Test.YtfkclbhddiidbaaGreatKPSearch
namespace Go.Rid
open Go.RowKit

/-- An element that reads as a number, wherever the row's own block is written. -/
def El (N : Nat → Prop) (w : World) : Type := { x : (Bool × Option Addr × Nat × Nat) × Int // ZN N w x.1.1 x.1.2.1 x.1.2.2.1 x.1.2.2.2 x.2 ∧ nlen x.2.natAbs * 4 + 4 ≤ 140737488355328 }
instance (N : Nat → Prop) (w : World) : Inhabited (El N w) := ⟨⟨((false, none, 0, 0), 0), ZN.zero, by simp [nlen, limbsOf_zero]⟩⟩
def El.cells {N : Nat → Prop} {w : World} (x : El N w) : List Value := [.bool x.1.1.1, .slice x.1.1.2.1 x.1.1.2.2.1 x.1.1.2.2.2]
def El.num {N : Nat → Prop} {w : World} (x : El N w) : Int := x.1.2
def El.cmp {N : Nat → Prop} {w : World} (x y : El N w) : Int := cmpZ x.num y.num
theorem El.lt_iff {N : Nat → Prop} {w : World} (x y : El N w) : Go.Proofs.ltOf El.cmp x y = decide (x.num < y.num) := by
  unfold Go.Proofs.ltOf El.cmp cmpZ
  rw [decide_eq_decide]
  (repeat' split) <;> omega
theorem El.swo (N : Nat → Prop) (w : World) : Sort.SWO (Go.Proofs.ltOf (El.cmp (N := N) (w := w))) where
  irrefl x := by rw [El.lt_iff]; simp
  trans x y z h1 h2 := by rw [El.lt_iff] at *; simp at *; omega
  ntrans x y z h1 h2 := by rw [El.lt_iff] at *; simp at *; omega
theorem El.of {N : Nat → Prop} {w : World} : ∀ (els : List (List Value)) (zs : List Int), zs.length = els.length → (∀ i, i < els.length → RZ N w (els.getD i []) (zs.getD i 0)) → (∀ z ∈ zs, nlen z.natAbs * 4 + 4 ≤ 140737488355328) → ∃ l : List (El N w), l.map El.cells = els ∧ l.map El.num = zs
  | [], [], _, _, _ => ⟨[], rfl, rfl⟩
  | [], z :: zs, h, _, _ => by simp at h
  | c :: els, [], h, _, _ => by simp at h
  | c :: els, z :: zs, h, hr, hf => by
    obtain ⟨l, h1, h2⟩ := El.of (N := N) (w := w) els zs (by simpa using h) (fun i hi => by have := hr (i + 1) (by simpa using hi); simpa using this) (fun z hz => hf z (List.mem_cons_of_mem _ hz))
    obtain ⟨s, a, n, k, e, hz⟩ := hr 0 (by simp)
    obtain ⟨x, hx1, hx2⟩ : ∃ x : El N w, x.cells = c ∧ x.num = z := ⟨⟨((s, a, n, k), z), hz, hf z (List.mem_cons_self ..)⟩, by simpa [El.cells] using e.symm, rfl⟩
    exact ⟨x :: l, by rw [List.map_cons, hx1, h1], by rw [List.map_cons, hx2, h2]⟩
theorem flat_el {N : Nat → Prop} {w : World} (d : Array (El N w)) (i : Nat) (hi : i < d.size * 2) : (Sort.flatK El.cells 2 d)[i]! = ((d.toList.map El.cells).flatten.getD i undef) := by
  rw [Sort.get_flatK _ _ _ _ hi]
  have h := flatten_get (sz := 2) (d.toList.map El.cells) (by intro c hc; obtain ⟨x, _, rfl⟩ := List.mem_map.1 hc; rfl) (i / 2) (i % 2) (by simp; omega) (Nat.mod_lt _ (by decide))
  rw [show i / 2 * 2 + i % 2 = i by omega] at h
  have hd : i / 2 < d.size := by omega
  simp only [List.getD, h, Option.getD_some, List.getElem?_map, Array.getElem?_toList, Array.getElem?_eq_getElem hd, Option.map_some]
  rw [getElem!_pos d _ hd]
  have hm : i % 2 < 2 := Nat.mod_lt _ (by decide)
  generalize i % 2 = j at *
  rcases (show j = 0 ∨ j = 1 by omega) with rfl | rfl <;> rfl
/-- The row, written anew. -/
theorem put_row {g : Nat} {N : Nat → Prop} {w0 w : World} {E : TypeId} {els : List (List Value)} {rest : List Value} (h : RowIs w g E (els.flatten ++ rest)) (d : Array (El N w0)) (hd : d.size * 2 = els.flatten.length) : RowIs (Sort.putRowK El.cells 2 w g 0 d) g E ((d.toList.map El.cells).flatten ++ rest) := by
  have hl : (d.toList.map El.cells).flatten.length = d.size * 2 := by
    rw [length_flatten_sz (sz := 2) _ (by intro c hc; obtain ⟨x, _, rfl⟩ := List.mem_map.1 hc; rfl)]; simp
  unfold Sort.putRowK Sort.putRow Sort.mapBlock RowIs
  simp only [Array.getElem?_modify, if_true, h.out, Option.map_some, Sort.onCells]
  congr 2
  apply Array.ext_getElem?
  intro i
  simp only [Sort.putCells, Array.getElem?_mapIdx, Nat.zero_le, true_and, Nat.zero_add, Nat.sub_zero, Sort.size_flatK, List.getElem?_toArray, id]
  by_cases hi : i < d.size * 2
  · rw [List.getElem?_append_left (by omega), List.getElem?_append_left (by omega), List.getElem?_eq_getElem (by omega), List.getElem?_eq_getElem (by omega), Option.map_some, if_pos hi, flat_el d i hi]
    simp [List.getD, List.getElem?_eq_getElem (show i < (d.toList.map El.cells).flatten.length by omega)]
  · rw [List.getElem?_append_right (by omega), List.getElem?_append_right (by omega), hl, ← hd]
    cases rest[i - d.size * 2]? with
    | none => rfl
    | some v => simp [hi]
theorem put_keeps {g : Nat} {N : Nat → Prop} {w0 w : World} (d : Array (El N w0)) (m : Nat) (os : Array Obj) : Keeps (One g) w (Go.Proofs.sortWorldK El.cells 2 w g 0 m d os) := by
  unfold Go.Proofs.sortWorldK Sort.grow Sort.putRowK Sort.putRow Sort.mapBlock Sort.ahead
  refine ⟨rfl, rfl, rfl, by simp, fun k hk hn => ?_⟩
  simp only
  rw [Array.getElem?_append_left (by simpa using hk), Array.getElem?_modify, if_neg (fun e => hn (show k = g from e.symm))]
theorem sort_row {g : Nat} {N : Nat → Prop} {w0 w : World} {E : TypeId} {els : List (List Value)} {rest : List Value} (h : RowIs w g E (els.flatten ++ rest)) (d : Array (El N w0)) (hd : d.size * 2 = els.flatten.length) (m : Nat) (os : Array Obj) : RowIs (Go.Proofs.sortWorldK El.cells 2 w g 0 m d os) g E ((d.toList.map El.cells).flatten ++ rest) := by
  have h1 := put_row (w := Sort.ahead w m) (E := E) (els := els) (rest := rest) h d hd
  unfold Go.Proofs.sortWorldK Sort.grow RowIs
  simp only
  rw [Array.getElem?_append_left h1.lt]
  exact h1
theorem holds_row {g : Nat} {N : Nat → Prop} {w : World} {E : TypeId} {rest : List Value} (d : Array (El N w)) (h : RowIs w g E ((d.toList.map El.cells).flatten ++ rest)) : Sort.HoldsK El.cells 2 w g 0 d := by
  intro j hj
  rw [Sort.size_flatK] at hj
  have hl : (d.toList.map El.cells).flatten.length = d.size * 2 := by
    rw [length_flatten_sz (sz := 2) _ (by intro c hc; obtain ⟨x, _, rfl⟩ := List.mem_map.1 hc; rfl)]; simp
  refine ⟨?_, h.frozen _⟩
  rw [h.cell, Nat.zero_add, List.getElem?_append_left (by omega), flat_el d j hj]
  simp [List.getD, List.getElem?_eq_getElem (show j < (d.toList.map El.cells).flatten.length by omega)]
end Go.Rid
namespace Go.Proofs.YtfkclbhddiidbaaGreat
open Go.RowKit Go.Rid

theorem isAgg_Int (w : World) : (isAgg 38).run Tryz.prog w = .ok true w := by kernel_rfl
theorem sizeOf_Int (w : World) : (Go.sizeOf 38).run Tryz.prog w = .ok 2 w := by kernel_rfl
/-- The same numbers, rising. -/
def SortRet (N : Nat → Prop) (w : World) (g : Nat) (zs : List Int) (rest : List Value) (e : Ending) (w' : World) : Prop :=
  ∃ (els : List (List Value)) (zs' : List Int), e = .returned (.tuple #[]) ∧ zs'.length = els.length ∧ (∀ c ∈ els, c.length = 2) ∧ zs'.Perm zs ∧ zs'.Pairwise (· ≤ ·) ∧ RowIs w' g 38 (els.flatten ++ rest) ∧ (∀ i, i < els.length → RZ N w (els.getD i []) (zs'.getD i 0)) ∧ Keeps (One g) w w'
theorem sort_any {N : Nat → Prop} {g c : Nat} {els : List (List Value)} {zs : List Int} {rest : List Value} {w : World} (hN : N g) (h : RowIs w g 38 (els.flatten ++ rest)) (hsz : ∀ c ∈ els, c.length = 2) (hl : zs.length = els.length) (hr : ∀ i, i < els.length → RZ N w (els.getD i []) (zs.getD i 0)) (hf : ∀ z ∈ zs, nlen z.natAbs * 4 + 4 ≤ 140737488355328) (hn : els.length < 4611686018427387904) :
    Calls Tryz.prog 70 #[.slice (some ⟨g, 0, none⟩) zs.length c, .func (.func 71) #[] #[]] w fun e w' => SortRet N w g zs rest e w' := by
  obtain ⟨l, h1, h2⟩ := El.of els zs hl hr hf
  have hll : l.length = els.length := by rw [← h1]; simp
  have hlz : zs.length = l.toArray.size := by rw [← h2]; simp
  have hd : l.toArray.size * 2 = els.flatten.length := by rw [length_flatten_sz els hsz]; simp [hll]
  have hrow : RowIs w g 38 ((l.toArray.toList.map El.cells).flatten ++ rest) := by simpa [h1] using h
  have eg : ∀ args w, (callFunc 71 args).run Tryz.prog w = .ok (.enter 71 args) w := enters_of Tryz.func71 (by kernel_rfl) rfl
  have hc : CmpLays Tryz.prog 71 #[] (El.cells (N := N) (w := w)) 2 El.cmp g 0 l.toArray.size w := fun m os dk _ x y =>
    (zcmp_lay ((x.2.1.move (M2 := Nil) (put_keeps dk m os) (fun b _ hb => by cases (show b = g from hb); exact hN) fun _ _ h => h.elim).zat x.2.2) ((y.2.1.move (M2 := Nil) (put_keeps dk m os) (fun b _ hb => by cases (show b = g from hb); exact hN) fun _ _ h => h.elim).zat y.2.2)).mono fun e w' ⟨he, hw⟩ => ⟨he, hw.form⟩
  have hcon := AnyQ.slices_SortFunc Tryz.sortInt 2 isAgg_Int sizeOf_Int El.cells (fun _ => rfl) (fun x v hv => by simp [El.cells] at hv; rcases hv with rfl | rfl <;> rfl) El.cmp (El.swo N w) 71 #[] g 0 c l.toArray w eg hc (holds_row _ hrow) h.lt (by simpa [hll] using hn)
  change Calls Tryz.prog 70 _ _ _ at hcon
  rw [hlz]
  refine hcon.mono ?_
  rintro e w' ⟨rfl, d', n, os, hp, hs, rfl⟩
  obtain ⟨hp1, _, hp3⟩ := hp
  have hx1 : (d'.extract 0 l.toArray.size).toList = d'.toList := by
    rw [← hp1]; simp
  have hx2 : (l.toArray.extract 0 l.toArray.size).toList = l := by simp
  rw [hx1, hx2] at hp3
  refine ⟨d'.toList.map El.cells, d'.toList.map El.num, rfl, by simp, by intro c hc; obtain ⟨x, _, rfl⟩ := List.mem_map.1 hc; rfl, ?_, ?_, sort_row (els := els) h d' (by rw [hp1]; exact hd) n os, ?_, put_keeps d' n os⟩
  · rw [← h2]; exact hp3.map _
  · rw [List.pairwise_iff_getElem]
    intro i j hi hj hij
    simp only [List.length_map, Array.length_toList] at hi hj
    have := hs i j (Nat.zero_le _) hij (by rw [← hp1]; exact hj)
    rw [El.lt_iff, getElem!_pos d' _ hj, getElem!_pos d' _ hi] at this
    simp at this
    simpa using this
  · intro i hi
    simp only [List.length_map, Array.length_toList] at hi
    have e1 : (d'.toList.map El.cells).getD i [] = (d'[i]).cells := by simp [List.getD, hi]
    have e2 : (d'.toList.map El.num).getD i 0 = (d'[i]).num := by simp [List.getD, hi]
    rw [e1, e2]
    exact ⟨_, _, _, _, rfl, (d'[i]).2.1⟩
end Go.Proofs.YtfkclbhddiidbaaGreat
