/- The law PeriodsNothing: the walk. Conditions: the number reads; room for it. -/
import Derived.Test.YtfkclbhddiidbaaGreatKPLaw1
namespace Go.Proofs.YtfkclbhddiidbaaGreat
open Go.RowKit Go.Rid
theorem of_no {w : World} : Calls Tryz.prog 16 #[.pointer none, .int .i64 0, .int .i64 0] w fun e w' => e = .returned (.tuple #[.pointer none, .int .i64 1]) ∧ Keeps Nil w w' := by
  go_enter Tryz.func16, Tryz.ntmps16
  go_wp2_with fail
  go_ret2
  exact ⟨rfl, (by repeat (first | exact Keeps.refl _ _ | refine Keeps.drew ?_ | refine Keeps.drewN ?_ _ | refine Keeps.alloc ?_ _))⟩
set_option maxHeartbeats 4000000 in
set_option maxRecDepth 100000 in
theorem PeriodsNothing_walk (w : World) {g : Bool} {a : Option Addr} {n c : Nat} {z : Int} (h : ZAt Nil w g a n c z) (hn : n * 4 + 4096 ≤ 140737488355328) :
    Calls Tryz.prog 4 #[.agg #[.bool g, .slice a n c]] w fun e w' => e = .returned (.bool true) ∧ Keeps Nil w w' := by
  have hk0 : Keeps Nil w (w.alloc (.cells #[.bool g, .slice a n c] 38)) := (by repeat (first | exact Keeps.refl _ _ | refine Keeps.drew ?_ | refine Keeps.drewN ?_ _ | refine Keeps.alloc ?_ _))
  have r0 := RowIs.alloc (w := w) (E := 38) (xs := [.bool g, .slice a n c])
  change RowIs (w.alloc (.cells #[.bool g, .slice a n c] 38)) _ _ _ at r0
  have hl := h.nlen_le
  have hff : Fine (aboveSet z) := fine_above (by omega)
  have HA := Lib.hid (And.intro (h.keepNil hk0) (And.intro hn hff))
  clear h hn hl hff
  go_enter Tryz.func4, Tryz.ntmps4
  go_upto_region 1 with (fail)
  generalize w.alloc (.cells #[.bool g, .slice a n c] 38) = w0 at *
  obtain ⟨c0, c1, _, _⟩ := r0.two
  have HR := Lib.hid (And.intro r0 hk0)
  clear r0 hk0
  go_upto_region 3 with (go_at_call 15; refine (above_any (M := Nil) (MB.nil _) HA.out.1 (by have := HA.out.2.1; omega)).mono ?_; rintro e w1 ⟨p, rfl, hs, hk1⟩)
  have HS := Lib.hid (And.intro hs hk1)
  have HN : Hid (∀ W, Keeps Nil w1 W → (∀ x, some x ∈ [none, some p] → ∃ S, SetAt Nil W x S ∧ Fine S) ∧ ∀ x, some x ∈ [some p, none] → ∃ S, SetAt Nil W x S ∧ Fine S) := Lib.hid fun W k =>
    ⟨fun x hx => by
      obtain rfl : x = p := by simpa using hx
      exact ⟨_, HS.out.1.keepNil k, HA.out.2.2⟩, fun x hx => by
      obtain rfl : x = p := by simpa using hx
      exact ⟨_, HS.out.1.keepNil k, HA.out.2.2⟩⟩
  clear hs hk1 c0 c1
  go_upto_region 8 with (first | (go_at_call 5; refine known_any.mono ?_; rintro e w2 ⟨rfl, hk2⟩) | (go_at_call 13; refine (meet_no (q := none) (q2 := some p) (HN.out _ (show Keeps Nil w1 _ from (by repeat (first | exact Keeps.refl _ _ | assumption | refine Keeps.drew ?_ | refine Keeps.drewN ?_ _ | refine Keeps.alloc ?_ _ | exact Keeps.of_nil (by assumption) | refine Keeps.trans ?_ (Keeps.of_nil (by assumption)) | refine Keeps.setCell ?_ (.inr (by first | exact Nat.le_refl _ | (dsimp only; omega))) _ | refine Keeps.setCell ?_ (.inl (by first | (unfold Old; dsimp only; omega) | (unfold Old; simp; omega) | (unfold Old; simp))) _)))).1 rfl).mono ?_; rintro e w3 ⟨he, hk3⟩; rw [show e = Ending.returned (.tuple #[.pointer none, .int .i64 1]) from he]; clear he) | (go_at_call 14; refine (join_no (q := none) (q2 := some p) (HN.out _ (show Keeps Nil w1 _ from (by repeat (first | exact Keeps.refl _ _ | assumption | refine Keeps.drew ?_ | refine Keeps.drewN ?_ _ | refine Keeps.alloc ?_ _ | exact Keeps.of_nil (by assumption) | refine Keeps.trans ?_ (Keeps.of_nil (by assumption)) | refine Keeps.setCell ?_ (.inr (by first | exact Nat.le_refl _ | (dsimp only; omega))) _ | refine Keeps.setCell ?_ (.inl (by first | (unfold Old; dsimp only; omega) | (unfold Old; simp; omega) | (unfold Old; simp))) _)))).1 rfl).mono ?_; rintro e w4 ⟨he, hk4⟩; rw [show e = Ending.returned (.tuple #[.pointer none, .int .i64 1]) from he]; clear he) | (go_at_call 16; refine of_no.mono ?_; rintro e w5 ⟨rfl, hk5⟩))
  have HK4 := Lib.hid (show Keeps Nil w1 w5 from (by repeat (first | exact Keeps.refl _ _ | assumption | refine Keeps.drew ?_ | refine Keeps.drewN ?_ _ | refine Keeps.alloc ?_ _ | exact Keeps.of_nil (by assumption) | refine Keeps.trans ?_ (Keeps.of_nil (by assumption)) | refine Keeps.setCell ?_ (.inr (by first | exact Nat.le_refl _ | (dsimp only; omega))) _ | refine Keeps.setCell ?_ (.inl (by first | (unfold Old; dsimp only; omega) | (unfold Old; simp; omega) | (unfold Old; simp))) _)))
  have r4 := HR.out.1.keep (HS.out.2.trans HK4.out) id
  obtain ⟨c0, c1, _, _⟩ := r4.two
  have HR4 := Lib.hid r4
  clear hk2 hk3 hk4 hk5 r4
  go_wp2_with (first | (go_at_call 17; refine has_no.mono ?_; rintro e w6 ⟨rfl, hk6⟩) | (go_at_call 11; have hk7' := hk7; clear hk7'; refine (same_no (q := some p) (q2 := none) (HN.out _ (HK4.out.trans (show Keeps Nil w5 _ from (by repeat (first | exact Keeps.refl _ _ | assumption | refine Keeps.drew ?_ | refine Keeps.drewN ?_ _ | refine Keeps.alloc ?_ _ | exact Keeps.of_nil (by assumption) | refine Keeps.trans ?_ (Keeps.of_nil (by assumption)) | refine Keeps.setCell ?_ (.inr (by first | exact Nat.le_refl _ | (dsimp only; omega))) _ | refine Keeps.setCell ?_ (.inl (by first | (unfold Old; dsimp only; omega) | (unfold Old; simp; omega) | (unfold Old; simp))) _))))).2 rfl).mono ?_; rintro e w8 ⟨rfl, hk8⟩) | (go_at_call 11; refine (same_no (q := none) (q2 := some p) (HN.out _ (HK4.out.trans (show Keeps Nil w5 _ from (by repeat (first | exact Keeps.refl _ _ | assumption | refine Keeps.drew ?_ | refine Keeps.drewN ?_ _ | refine Keeps.alloc ?_ _ | exact Keeps.of_nil (by assumption) | refine Keeps.trans ?_ (Keeps.of_nil (by assumption)) | refine Keeps.setCell ?_ (.inr (by first | exact Nat.le_refl _ | (dsimp only; omega))) _ | refine Keeps.setCell ?_ (.inl (by first | (unfold Old; dsimp only; omega) | (unfold Old; simp; omega) | (unfold Old; simp))) _))))).1 rfl).mono ?_; rintro e w7 ⟨rfl, hk7⟩) | (go_at_call 18; refine cuts_no.mono ?_; rintro e w9 ⟨rfl, rfl⟩) | (go_at_call 19; refine period_no.mono ?_; rintro e w10 ⟨rfl, rfl⟩))
  go_ret
  exact ⟨rfl, HR.out.2.trans (HS.out.2.trans (HK4.out.trans (by repeat (first | exact Keeps.refl _ _ | assumption | refine Keeps.drew ?_ | refine Keeps.drewN ?_ _ | refine Keeps.alloc ?_ _ | exact Keeps.of_nil (by assumption) | refine Keeps.trans ?_ (Keeps.of_nil (by assumption)) | refine Keeps.setCell ?_ (.inr (by first | exact Nat.le_refl _ | (dsimp only; omega))) _ | refine Keeps.setCell ?_ (.inl (by first | (unfold Old; dsimp only; omega) | (unfold Old; simp; omega) | (unfold Old; simp))) _))))⟩
end Go.Proofs.YtfkclbhddiidbaaGreat
