/- The walk of MeterMakes: it returns true. Conditions: two numbers in int's range. -/
import Derived.Test.YtdldaiakljhfjaaRows
import Derived.Test.YtdldaiakljhfjaaBase
import Derived.Test.YtdldaiakljhfjaaMeterHelp
namespace Go.Proofs.Ytdldaiakljhfjaa
open Go.RowKit Go.Rid

set_option maxHeartbeats 1000000 in
theorem MeterMakes_walk {a0 a1 : Int} (w : World) (_ : -9223372036854775808 ≤ a0) (_ : a0 ≤ 9223372036854775807) (_ : -9223372036854775808 ≤ a1) (_ : a1 ≤ 9223372036854775807) :
    Calls Try.prog 3 #[.int .i64 a0, .int .i64 a1] w fun e w' => e = .returned (.bool true) ∧ Keeps Nil w w' := by
  by_cases h : a0 < 1 ∨ 2000 < a0 ∨ a1 < 1 ∨ 8 < a1
  · have HB := Lib.hid h
    have hcase : a0 < 1 ∨ (1 ≤ a0 ∧ 2000 < a0) ∨ (1 ≤ a0 ∧ a0 ≤ 2000 ∧ a1 < 1) ∨ (1 ≤ a0 ∧ a0 ≤ 2000 ∧ 1 ≤ a1 ∧ 8 < a1) := by omega
    clear h
    rcases hcase with h1 | ⟨h1, h2⟩ | ⟨h1, h2, h3⟩ | ⟨h1, h2, h3, h4⟩
    all_goals
      go_enter Try.func3, Try.ntmps3
      go_wp2_with (first | (go_at_call 7; refine (new_bad _ _ _ HB.out).mono ?_; rintro e w1 ⟨rfl, hk1⟩) | (go_at_call 8; refine (known_any _).mono ?_; rintro e w2 ⟨rfl, hk2⟩))
      go_ret
      exact ⟨rfl, hk1.trans hk2⟩
  · have h1 : 1 ≤ a0 := by omega
    have h2 : a0 ≤ 2000 := by omega
    have h3 : 1 ≤ a1 := by omega
    have h4 : a1 ≤ 8 := by omega
    clear h
    go_enter Try.func3, Try.ntmps3
    go_wp2_with (first | (go_at_call 7; refine (new_ok _ _ _ h1 h2 h3 h4).mono ?_; rintro e w1 ⟨g, rfl, hm, hk1, hg⟩; have HM := Lib.hid hm; clear hm hg) | (go_at_call 9; refine (spent_any HM.out).mono ?_; rintro e w2 ⟨rfl, hk2⟩; have HM2 := Lib.hid (HM.out.keepNil hk2)) | (go_at_call 10; refine (over_any HM2.out).mono ?_; rintro e w3 ⟨rfl, hk3⟩) | (go_at_call 8; refine (known_any _).mono ?_; rintro e w4 ⟨rfl, hk4⟩))
    go_ret
    exact ⟨rfl, ((hk1.trans hk2).trans hk3).trans hk4⟩
end Go.Proofs.Ytdldaiakljhfjaa
