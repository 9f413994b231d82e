/- Small helpers of the meter laws. Conditions: numbers in int's range; lists' own reading. -/
import Derived.Test.YtdldaiakljhfjaaRows
import Derived.Test.YtdldaiakljhfjaaBase
import Derived.Test.YtdldaiakljhfjaaOwn
import Derived.Test.YtdldaiakljhfjaaLimbs
import Derived.Test.YtdldaiakljhfjaaRefLimbs
import Derived.Test.YtdldaiakljhfjaaMeter
import Derived.Test.YtdldaiakljhfjaaMeterTurn
import Derived.Test.YtdldaiakljhfjaaMeterRef
import Derived.Test.YtdldaiakljhfjaaMeterLent
import Derived.Test.YtdldaiakljhfjaaMeterKept
namespace Go.Proofs.Ytdldaiakljhfjaa
open Go.RowKit Go.Rid

set_option maxHeartbeats 400000 in
theorem pick_any (c n : Int) (w : World) (h1 : -9223372036854775808 ≤ c) (h2 : c ≤ 9223372036854775807) (hn : 0 < n) (hn2 : n ≤ 9223372036854775807) :
    Calls Try.prog 11 #[.int .i64 c, .int .i64 n] w fun e w' => ∃ r : Int, e = .returned (.int .i64 r) ∧ 0 ≤ r ∧ r < n ∧ w = w' := by
  by_cases h : c < 0
  · have e1 : (-(c + 1)).tmod n = (-(c + 1)) % n := Int.tmod_eq_emod_of_nonneg (by omega)
    have e2 := Int.emod_nonneg (-(c + 1)) (show n ≠ 0 by omega)
    have e3 := Int.emod_lt_of_pos (-(c + 1)) hn
    have H := Lib.hid (And.intro e2 e3)
    have HE := Lib.hid e1
    clear e1 e2 e3
    go_enter Try.func11, Try.ntmps11
    go_wp2
    go_ret
    refine ⟨_, rfl, ?_, ?_, rfl⟩
    · rw [← Int.neg_tmod, HE.out]; exact H.out.1
    · rw [← Int.neg_tmod, HE.out]; exact H.out.2
  · have e2 := Int.emod_nonneg c (show n ≠ 0 by omega)
    have e3 := Int.emod_lt_of_pos c hn
    have H := Lib.hid (And.intro e2 e3)
    clear e2 e3
    go_enter Try.func11, Try.ntmps11
    go_wp2
    go_ret
    refine ⟨_, rfl, ?_, ?_, rfl⟩
    · exact H.out.1
    · exact H.out.2

/-- riddleref02.Limbs. -/
theorem ref02limbs_any {M : Nat → Prop} {g : Bool} {a : Option Addr} {n c : Nat} {l : List Nat} {w : World} (hM : MB M w) (h : Limbs M w a n c l) (hr : n * 4 ≤ 140737488355328) :
    Calls Try.prog 19 #[.agg #[.bool g, .slice a n c]] w fun e w' => e = .returned (.int .i64 (top l : Int)) ∧ Keeps Nil w w' := by
  have HH := Lib.hid h
  have HM := Lib.hid hM
  clear h hM
  go_enter Try.func19, Try.ntmps19
  go_wp2_with (go_at_call 29; refine (ref01trim_any (HM.out.keep (M' := Nil) (by repeat (first | exact Keeps.refl _ _ | refine Keeps.drew ?_ | refine Keeps.drewN ?_ _ | refine Keeps.alloc ?_ _))) (HH.out.keep (M' := Nil) (by repeat (first | exact Keeps.refl _ _ | refine Keeps.drew ?_ | refine Keeps.drewN ?_ _ | refine Keeps.alloc ?_ _)) (fun _ _ h => h.elim)) hr).mono ?_; rintro e w' ⟨a', c', rfl, h', hk'⟩)
  go_ret
  exact ⟨rfl, ((Keeps.refl Nil w).alloc _).trans hk'⟩

set_option maxHeartbeats 1000000 in
theorem known_any (w : World) : Calls Try.prog 8 #[] w fun e w' => e = .returned (.bool true) ∧ Keeps Nil w w' := by
  go_enter Try.func8, Try.ntmps8
  go_wp2_with fail
  refine (new_ok 2 1 _ (by decide) (by decide) (by decide) (by decide)).mono ?_
  rintro e w1 ⟨g, rfl, hm1, hk1, hg1⟩
  have H1 := Lib.hid (And.intro hm1 (And.intro hk1 hg1))
  clear hm1 hk1 hg1
  go_wp2_with fail
  refine (node_any (M := Nil) (xs := [(false, [5])]) (MB.nil _) (H1.out.1.keepNil (by repeat (first | exact Keeps.refl _ _ | refine Keeps.drew ?_ | refine Keeps.drewN ?_ _ | refine Keeps.alloc ?_ _))) (Ints.ofRow1 (g := w1.heap.size + 1) (E := 48) ?_ (Limbs.ofRow (l := [5]) (g := w1.heap.size) (E := 64) ?_ (by decide) id (by decide)) (by decide) id) (by decide) (by decide) (by decide)).mono ?_
  · have h := RowIs.alloc (w := w1.alloc (.cells #[.int .u32 5] 64)) (E := 48) (xs := [.bool false, .slice (some ⟨w1.heap.size, 0, none⟩) 1 1])
    simpa using h
  · exact RowIs.keep (M := Nil) (RowIs.alloc (xs := u32s [5])) (by repeat (first | exact Keeps.refl _ _ | refine Keeps.drew ?_ | refine Keeps.drewN ?_ _ | refine Keeps.alloc ?_ _)) id
  rintro e w2 ⟨he, hm2, hk2⟩
  rw [show nodeM 2 1 0 0 [(false, [5])] = (1, 0, 0) from by decide] at he hm2
  subst he
  have H2 := Lib.hid (And.intro hm2 hk2)
  clear hm2 hk2
  go_wp2_with fail
  refine (spend_any H2.out.1 (by decide) (by decide) (by decide) (by decide)).mono ?_
  rintro e w3 ⟨he, hm3, hk3⟩
  rw [show spendM 2 1 0 1 = (2, 0, 0) from by decide] at he hm3
  subst he
  have H3 := Lib.hid (And.intro hm3 hk3)
  clear hm3 hk3
  go_wp2_with fail
  refine (spent_any H3.out.1).mono ?_
  rintro e w4 ⟨rfl, hk4⟩
  have H4 := Lib.hid (And.intro (H3.out.1.keepNil hk4) hk4)
  clear hk4
  go_wp2_with fail
  refine (over_any H4.out.1).mono ?_
  rintro e w5 ⟨rfl, hk5⟩
  have H5 := Lib.hid (And.intro (H4.out.1.keepNil hk5) hk5)
  clear hk5
  go_wp2_with fail
  refine (node_any (M := Nil) (xs := []) (MB.nil _) H5.out.1 Ints.none (by decide) (by decide) (by decide)).mono ?_
  rintro e w6 ⟨he, hm6, hk6⟩
  rw [show nodeM 2 1 2 0 [] = (2, 70, 70) from by decide] at he hm6
  subst he
  have H6 := Lib.hid (And.intro hm6 hk6)
  clear hm6 hk6
  go_wp2_with fail
  refine (over_any H6.out.1).mono ?_
  rintro e w7 ⟨rfl, hk7⟩
  have H7 := Lib.hid hk7
  clear hk7
  go_wp2
  go_ret
  refine ⟨rfl, ?_⟩
  have k1 : Keeps Nil w w1 := H1.out.2.1
  have hg := H1.out.2.2
  have j2 : Keeps (Rid.One g) w1 w2 := (Keeps.of_nil (by repeat (first | exact Keeps.refl _ _ | refine Keeps.drew ?_ | refine Keeps.drewN ?_ _ | refine Keeps.alloc ?_ _))).trans H2.out.2
  have j7 : Keeps (Rid.One g) w1 w7 := ((((j2.trans H3.out.2).trans H4.out.2.of_nil).trans H5.out.2.of_nil).trans H6.out.2).trans H7.out.of_nil
  exact k1.trans' j7 (fun b hb => .inr (by cases hb; exact hg))
end Go.Proofs.Ytdldaiakljhfjaa
