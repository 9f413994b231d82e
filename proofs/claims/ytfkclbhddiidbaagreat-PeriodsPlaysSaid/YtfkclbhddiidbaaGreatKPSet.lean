/- Sets in memory; what (*periods.Set).at and Has do. Conditions: the set's own reading; the number's; room. -/
import Derived.Test.YtfkclbhddiidbaaGreatKPSearch
import Derived.Test.YtfkclbhddiidbaaGreatKPLeft
namespace Go.Rid
open Go.RowKit
/-- A row of Bools. -/
def Bools (M : Nat → Prop) (w : World) (a : Option Addr) (n c : Nat) (l : List Bool) : Prop := l.length = n ∧ Sl M w 1 a n c (fun i _ => .bool (l.getD i false))
theorem Bools.move {M M' M2 : Nat → Prop} {w w' : World} {a : Option Addr} {n c : Nat} {l : List Bool} (h : Bools M w a n c l) (k : Keeps M' w w') (h1 : ∀ b, b < w.heap.size → M' b → M b) (h2 : ∀ b, b < w.heap.size → M2 b → M b) : Bools M2 w' a n c l := ⟨h.1, h.2.move k h1 h2⟩
theorem Bools.at {M : Nat → Prop} {w : World} {a : Option Addr} {n c : Nat} {l : List Bool} (h : Bools M w a n c l) {i : Nat} (hi : i < n) :
    ∃ b off, a = some ⟨b, off, none⟩ ∧ b < w.heap.size ∧ ¬ M b ∧ w.cell? ⟨b, off + i, none⟩ = some (.bool (l.getD i false)) := by
  obtain ⟨b, off, rfl, hb, hn, hc⟩ := h.2.at (by omega)
  exact ⟨b, off, rfl, hb, hn, by simpa using hc i 0 hi (by omega)⟩
def RBools (M : Nat → Prop) (w : World) (cs : List Value) (l : List Bool) : Prop := ∃ a n c, cs = [.slice a n c] ∧ Bools M w a n c l
theorem RBools.move {M M' M2 : Nat → Prop} {w w' : World} {cs : List Value} {l : List Bool} (h : RBools M w cs l) (k : Keeps M' w w') (h1 : ∀ b, b < w.heap.size → M' b → M b) (h2 : ∀ b, b < w.heap.size → M2 b → M b) : RBools M2 w' cs l := by
  obtain ⟨a, n, c, e, q⟩ := h; exact ⟨a, n, c, e, q.move k h1 h2⟩
/-- BRows of Bools. -/
def BRows (M : Nat → Prop) (w : World) (a : Option Addr) (n c : Nat) (ls : List (List Bool)) : Prop := SlOf M w 1 (RBools M w) [] a n c ls
theorem BRows.move {M M' M2 : Nat → Prop} {w w' : World} {a : Option Addr} {n c : Nat} {ls : List (List Bool)} (h : BRows M w a n c ls) (k : Keeps M' w w') (h1 : ∀ b, b < w.heap.size → M' b → M b) (h2 : ∀ b, b < w.heap.size → M2 b → M b) : BRows M2 w' a n c ls := SlOf.move h k h1 h2 fun _ _ hx => hx.move k h1 h2
theorem BRows.at {M : Nat → Prop} {w : World} {a : Option Addr} {n c : Nat} {ls : List (List Bool)} (h : BRows M w a n c ls) {i : Nat} (hi : i < n) :
    ∃ b off a' n' c', a = some ⟨b, off, none⟩ ∧ b < w.heap.size ∧ ¬ M b ∧ w.cell? ⟨b, off + i, none⟩ = some (.slice a' n' c') ∧ Bools M w a' n' c' (ls.getD i []) := by
  obtain ⟨b, off, cs, rfl, hb, hn, hl, hc, a', n', c', rfl, hz⟩ := SlOf.at h hi
  exact ⟨b, off, a', n', c', rfl, hb, hn, by simpa using hc 0 (by omega), hz⟩
/-- Room in a set's cuts. -/
structure Fine (S : PSet) : Prop where
  ok : S.Ok
  few : S.cuts.length ≤ 1000
  fit : ∀ x ∈ S.cuts, nlen x.natAbs * 4 + 64 ≤ 140737488355328
theorem Fine.fit4 {S : PSet} (h : Fine S) : ∀ x ∈ S.cuts, nlen x.natAbs * 4 + 4 ≤ 140737488355328 := fun x hx => by have := h.fit x hx; omega
end Go.Rid
namespace Go.Proofs.YtfkclbhddiidbaaGreat
open Go.RowKit Go.Rid

/-- A set in memory. -/
def SetAt (M : Nat → Prop) (w : World) (p : Nat) (S : PSet) : Prop :=
  ∃ ac nc cc ar nr cr, RowIs w p 70 [.int .i64 S.P, .slice ac nc cc, .slice ar nr cr] ∧ ¬ M p ∧ ZInts M w ac nc cc S.cuts ∧ BRows M w ar nr cr S.rows
theorem SetAt.move {M M' M2 : Nat → Prop} {w w' : World} {p : Nat} {S : PSet} (h : SetAt M w p S) (k : Keeps M' w w') (h1 : ∀ b, b < w.heap.size → M' b → M b) (h2 : ∀ b, b < w.heap.size → M2 b → M b) : SetAt M2 w' p S := by
  obtain ⟨ac, nc, cc, ar, nr, cr, q1, q2, q3, q4⟩ := h
  exact ⟨ac, nc, cc, ar, nr, cr, q1.keep k (fun hb => q2 (h1 _ q1.lt hb)), fun hb => q2 (h2 _ q1.lt hb), q3.move k h1 h2, q4.move k h1 h2⟩
theorem SetAt.keepNil {M : Nat → Prop} {w w' : World} {p : Nat} {S : PSet} (h : SetAt M w p S) (k : Keeps Nil w w') : SetAt M w' p S := h.move k (fun _ _ h => h.elim) fun _ _ => id
theorem SetAt.toNil {M : Nat → Prop} {w : World} {p : Nat} {S : PSet} (h : SetAt M w p S) : SetAt Nil w p S := h.move (Keeps.refl Nil w) (fun _ _ h => h.elim) fun _ _ h => h.elim

set_option maxHeartbeats 1000000 in
theorem at_any {M : Nat → Prop} {g : Bool} {a2 : Option Addr} {n2 c2 p : Nat} {z : Int} {S : PSet} {w : World} (h : ZAt Nil w g a2 n2 c2 z) (hs : SetAt M w p S) (hf : Fine S) :
    Calls Tryz.prog 40 #[.pointer (some ⟨p, 0, none⟩), .agg #[.bool g, .slice a2 n2 c2]] w fun e w' => e = .returned (.int .i64 (place S.cuts z : Int)) ∧ Keeps Nil w w' := by
  obtain ⟨ac, nc, cc, ar, nr, cr, q1, _, q3, _⟩ := hs
  have hnc : nc = S.cuts.length := q3.len.symm
  have hk0 : Keeps Nil w (w.alloc (.cells #[.bool g, .slice a2 n2 c2] 38)) := (by repeat (first | exact Keeps.refl _ _ | refine Keeps.drew ?_ | refine Keeps.drewN ?_ _ | refine Keeps.alloc ?_ _))
  have r0 := RowIs.alloc (w := w) (E := 38) (xs := [.bool g, .slice a2 n2 c2])
  change RowIs (w.alloc (.cells #[.bool g, .slice a2 n2 c2] 38)) _ _ _ at r0
  have HA := Lib.hid (h.keepNil hk0)
  have HS := Lib.hid (q3.keepNil hk0)
  have HF := Lib.hid hf
  have ld := liveRules.2.2.1
  have r1 := q1.keep hk0 id
  clear h q3 hf q1
  go_enter Tryz.func40, Tryz.ntmps40
  go_wp2_with fail
  generalize w.alloc (.cells #[.bool g, .slice a2 n2 c2] 38) = w0 at *
  obtain ⟨c0, c1, _, _⟩ := r0.two
  obtain ⟨d0, d1, d2⟩ := r1.three
  have b0 := Live.of r0.lt
  have b1 := Live.of r1.lt
  have HN := Lib.hid hnc
  clear r0 r1 hnc
  go_region_held3 (fun w' => w'.cell? ⟨w.heap.size, 0, none⟩ = some (.bool g) ∧ w'.cell? ⟨w.heap.size, 1, none⟩ = some (.slice a2 n2 c2) ∧ w'.cell? ⟨p, 1, none⟩ = some (.slice ac nc cc)) (go_keep) (first | (go_at_call 77; refine (search_any (HA.out.keepNil (by repeat (first | exact Keeps.refl _ _ | assumption | refine Keeps.drew ?_ | refine Keeps.drewN ?_ _ | refine Keeps.alloc ?_ _ | exact Keeps.of_nil (by assumption) | refine Keeps.trans ?_ (Keeps.of_nil (by assumption)) | refine Keeps.setCell ?_ (.inr (by first | exact Nat.le_refl _ | (dsimp only; omega))) _ | refine Keeps.setCell ?_ (.inl (by first | (unfold Old; dsimp only; omega) | (unfold Old; simp; omega) | (unfold Old; simp))) _))) (HS.out.keepNil (by repeat (first | exact Keeps.refl _ _ | assumption | refine Keeps.drew ?_ | refine Keeps.drewN ?_ _ | refine Keeps.alloc ?_ _ | exact Keeps.of_nil (by assumption) | refine Keeps.trans ?_ (Keeps.of_nil (by assumption)) | refine Keeps.setCell ?_ (.inr (by first | exact Nat.le_refl _ | (dsimp only; omega))) _ | refine Keeps.setCell ?_ (.inl (by first | (unfold Old; dsimp only; omega) | (unfold Old; simp; omega) | (unfold Old; simp))) _))) HF.out.fit4 HF.out.ok.sorted (by have := HF.out.few; have := HN.out; omega)).mono ?_; rintro e w1 ⟨i, hi, rfl, hk1⟩; obtain ⟨rc1, rf1, ra1⟩ := hk1.live; have hil := hi.le; have hin := HF.out.few; have HI := Lib.hid hi; clear hi))
  have HK := Lib.hid (hk0.trans (show Keeps Nil w0 w1 from (by repeat (first | exact Keeps.refl _ _ | assumption | refine Keeps.drew ?_ | refine Keeps.drewN ?_ _ | refine Keeps.alloc ?_ _ | exact Keeps.of_nil (by assumption) | refine Keeps.trans ?_ (Keeps.of_nil (by assumption)) | refine Keeps.setCell ?_ (.inr (by first | exact Nat.le_refl _ | (dsimp only; omega))) _ | refine Keeps.setCell ?_ (.inl (by first | (unfold Old; dsimp only; omega) | (unfold Old; simp; omega) | (unfold Old; simp))) _))))
  clear rc1 rf1 ra1 hk1 hk0
  have hpl := place_of_splits HF.out.ok.sorted HI.out
  by_cases hc : i < S.cuts.length ∧ zth S.cuts i = z
  · rw [if_pos hc] at hpl
    have HPL := Lib.hid hpl
    rw [show hit S.cuts z i = true from decide_eq_true hc]
    clear hpl hc
    go_wp2_with fail
    go_ret
    rw [HPL.out]
    exact ⟨by go_num, HK.out⟩
  · rw [if_neg hc] at hpl
    have HPL := Lib.hid hpl
    rw [show hit S.cuts z i = false from decide_eq_false hc]
    clear hpl hc
    go_wp2_with fail
    go_ret
    rw [HPL.out]
    exact ⟨rfl, HK.out⟩
end Go.Proofs.YtfkclbhddiidbaaGreat
