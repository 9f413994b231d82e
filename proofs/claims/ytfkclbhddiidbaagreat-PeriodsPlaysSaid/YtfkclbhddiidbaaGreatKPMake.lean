/- What periods.whole, None, Above and Class do: sets in new memory. Conditions: what is given reads; room. -/
import Derived.Test.YtfkclbhddiidbaaGreatKPHas
import Derived.Test.YtfkclbhddiidbaaGreatKPPeriod
namespace Go.Rid
open Go.RowKit
theorem SlOf.ofRow {α : Type} {M : Nat → Prop} {w : World} {sz : Nat} {R : List Value → α → Prop} {d : α} {g : Nat} {E : TypeId} {els : List (List Value)} {xs : List α} (h : RowIs w g E els.flatten) (hsz : ∀ c ∈ els, c.length = sz) (hM : ¬ M g) (hn : els.length ≤ 9223372036854775807)
    (hx : xs.length = els.length) (hR : ∀ i, i < els.length → R (els.getD i []) (xs.getD i d)) : SlOf M w sz R d (some ⟨g, 0, .none⟩) els.length els.length xs := by
  refine ⟨hx, fun i => els.getD i [], ⟨Nat.le_refl _, hn, (fun h => by cases h), fun p hp _ => ?_⟩, fun i hi => ⟨hsz _ (by simp [List.getD, List.getElem?_eq_getElem hi]), hR i hi⟩⟩
  cases hp
  refine ⟨rfl, h.lt, hM, fun i j hi hj => ?_⟩
  have := flatten_get els hsz i j hi hj
  simp only [Nat.zero_add]
  rw [h.cell (i * sz + j), this]
theorem BRows.ofRow {M : Nat → Prop} {w : World} {g : Nat} {E : TypeId} {els : List (List Value)} {ls : List (List Bool)} (h : RowIs w g E els.flatten) (hsz : ∀ c ∈ els, c.length = 1) (hM : ¬ M g) (hn : els.length ≤ 9223372036854775807) (hx : ls.length = els.length) (hR : ∀ i, i < els.length → RBools M w (els.getD i []) (ls.getD i [])) : BRows M w (some ⟨g, 0, .none⟩) els.length els.length ls := SlOf.ofRow h hsz hM hn hx hR
/-- A row of Bools, written out. -/
theorem Bools.ofRow {M : Nat → Prop} {w : World} {g : Nat} {E : TypeId} {l : List Bool} (h : RowIs w g E (l.map Value.bool)) (hM : ¬ M g) (hn : l.length ≤ 9223372036854775807) : Bools M w (some ⟨g, 0, .none⟩) l.length l.length l := by
  refine ⟨rfl, ⟨Nat.le_refl _, hn, (fun h => by cases h), fun p hp _ => ?_⟩⟩
  cases hp
  refine ⟨rfl, h.lt, hM, fun i j hi hj => ?_⟩
  obtain rfl : j = 0 := by omega
  simp only [Nat.mul_one, Nat.add_zero, Nat.zero_add]
  rw [h.cell i]
  simp [List.getD, List.getElem?_eq_getElem hi]
theorem ZInts.none {M : Nat → Prop} {w : World} : ZInts M w none 0 0 [] := SlOf.nil
theorem ZInts.one {M : Nat → Prop} {w : World} {g : Nat} {E : TypeId} {s : Bool} {a : Option Addr} {n c : Nat} {z : Int} (h : RowIs w g E [.bool s, .slice a n c]) (hz : ZN M w s a n c z) (hM : ¬ M g) : ZInts M w (some ⟨g, 0, .none⟩) 1 1 [z] :=
  SlOf.ofRow (els := [[.bool s, .slice a n c]]) h (by simp) hM (by simp) rfl fun i hi => by
    obtain rfl : i = 0 := by simpa using hi
    exact ⟨s, a, n, c, rfl, hz⟩
theorem Fine.whole {l : List Bool} (h0 : 1 ≤ l.length) (h1 : l.length ≤ 4096) : Fine ⟨l.length, [], [l]⟩ :=
  ⟨⟨h0, h1, rfl, by simp, by simp⟩, by simp, by simp⟩
/-- The sets that are made. -/
def noneSet : PSet := ⟨1, [], [[false]]⟩
def aboveSet (k : Int) : PSet := ⟨1, [k + 1], [[false], [true]]⟩
def classRow (p : Nat) (r : Nat) : List Bool := (List.replicate p false).set r true
def classSet (d r : Int) : PSet := ⟨d.natAbs, [], [classRow d.natAbs (r % (d.natAbs : Int)).toNat]⟩
theorem fine_none : Fine noneSet := Fine.whole (l := [false]) (by decide) (by decide)
theorem fine_above {k : Int} (h : nlen k.natAbs * 4 + 68 ≤ 140737488355328) : Fine (aboveSet k) := by
  refine ⟨⟨Nat.le_refl 1, by simp [aboveSet], rfl, by simp [aboveSet], by simp [aboveSet]⟩, by simp [aboveSet], fun x hx => ?_⟩
  simp only [aboveSet, List.mem_singleton] at hx
  subst hx
  have h1 := nlen_natAbs_add k 1
  have h2 : nlen (1 : Int).natAbs ≤ 1 := nlen_le_of_lt (by decide)
  by_cases h0 : nlen k.natAbs = 0
  · omega
  · omega
theorem fine_class {d r : Int} (h0 : d ≠ 0) (h1 : d.natAbs ≤ 4096) : Fine (classSet d r) := by
  have h := Fine.whole (l := classRow d.natAbs (r % (d.natAbs : Int)).toNat) (by simp [classRow]; omega) (by simp [classRow]; exact h1)
  unfold classSet
  simpa [classRow] using h
end Go.Rid
namespace Go.Proofs.YtfkclbhddiidbaaGreat
open Go.RowKit Go.Rid

def SetRet (M : Nat → Prop) (w : World) (S : PSet) (e : Ending) (w' : World) : Prop := ∃ p, e = .returned (.pointer (some ⟨p, 0, none⟩)) ∧ SetAt M w' p S ∧ Keeps Nil w w'
set_option maxHeartbeats 1000000 in
theorem whole_any {M : Nat → Prop} {a : Option Addr} {n c : Nat} {l : List Bool} {w : World} (hM : MB M w) (h : Bools M w a n c l) :
    Calls Tryz.prog 23 #[.slice a n c] w fun e w' => SetRet M w ⟨l.length, [], [l]⟩ e w' := by
  have HM := Lib.hid hM
  have HB := Lib.hid h
  clear hM h
  go_enter Tryz.func23, Tryz.ntmps23
  go_wp2_with fail
  go_ret
  have h1 : RowIs (w.alloc (.cells #[.slice a n c] 59)) w.heap.size 59 ([[.slice a n c]] : List (List Value)).flatten := RowIs.alloc (w := w) (E := 59) (xs := [.slice a n c])
  have hk1 : Keeps Nil w (w.alloc (.cells #[.slice a n c] 59)) := (by repeat (first | exact Keeps.refl _ _ | refine Keeps.drew ?_ | refine Keeps.drewN ?_ _ | refine Keeps.alloc ?_ _))
  have h2 := RowIs.alloc (w := w.alloc (.cells #[.slice a n c] 59)) (E := 70) (xs := [.int .i64 n, .slice none 0 0, .slice (some ⟨w.heap.size, 0, none⟩) 1 1])
  have hs : (w.alloc (.cells #[.slice a n c] 59)).heap.size = w.heap.size + 1 := by simp
  rw [hs] at h2
  have hk2 : Keeps Nil (w.alloc (.cells #[.slice a n c] 59)) ((w.alloc (.cells #[.slice a n c] 59)).alloc (.cells #[.int .i64 n, .slice none 0 0, .slice (some ⟨w.heap.size, 0, none⟩) 1 1] 70)) := (by repeat (first | exact Keeps.refl _ _ | refine Keeps.drew ?_ | refine Keeps.drewN ?_ _ | refine Keeps.alloc ?_ _))
  have nm0 : ¬ M w.heap.size := fun hm => by have := HM.out _ hm; omega
  have nm1 : ¬ M (w.heap.size + 1) := fun hm => by have := HM.out _ hm; omega
  have hl := HB.out.1
  refine ⟨_, rfl, ⟨_, _, _, _, _, _, by rw [hl]; exact h2, nm1, ZInts.none, ?_⟩, hk1.trans hk2⟩
  refine BRows.ofRow (els := [[.slice a n c]]) (ls := [l]) (h1.keep hk2 id) (by simp) nm0 (by simp) rfl fun i hi => ?_
  obtain rfl : i = 0 := by simpa using hi
  exact ⟨a, n, c, rfl, HB.out.move (hk1.trans hk2) (fun _ _ h => h.elim) fun _ _ => id⟩

set_option maxHeartbeats 1000000 in
theorem none_any {M : Nat → Prop} {w : World} (hM : MB M w) : Calls Tryz.prog 6 #[] w fun e w' => SetRet M w noneSet e w' := by
  have HM := Lib.hid hM
  have r0 := RowIs.alloc (w := w) (E := 4) (xs := [false].map Value.bool)
  have hk0 : Keeps Nil w (w.alloc (.cells #[.bool false] 4)) := (by repeat (first | exact Keeps.refl _ _ | refine Keeps.drew ?_ | refine Keeps.drewN ?_ _ | refine Keeps.alloc ?_ _))
  have hb := Bools.ofRow (M := M) (l := [false]) r0 (fun hm => by have := hM _ hm; omega) (by decide)
  have HB := Lib.hid (And.intro hb hk0)
  clear hM r0 hk0 hb
  go_enter Tryz.func6, Tryz.ntmps6
  go_wp2_with (go_at_call 23; refine (whole_any (HM.out.keep HB.out.2) HB.out.1).mono ?_; rintro e w' ⟨p, rfl, hs, hk⟩)
  go_ret
  exact ⟨p, rfl, hs, HB.out.2.trans hk⟩
end Go.Proofs.YtfkclbhddiidbaaGreat
