/- What periods.period does: a number as a period. Conditions: the number's own reading. -/
import Derived.Test.YtfkclbhddiidbaaGreatKZInt64
import Derived.Test.YtfkclbhddiidbaaGreatKRegions
namespace Go.Proofs.YtfkclbhddiidbaaGreat
open Go.RowKit Go.Rid

def PerRet (z : Int) (w : World) (e : Ending) (w' : World) : Prop := ∃ m : Int, e = .returned (.tuple #[.int .i64 m, .bool (decide (z.natAbs ≤ 4096))]) ∧ (z.natAbs ≤ 4096 → m = z.natAbs) ∧ Keeps Nil w w'
set_option maxHeartbeats 1000000 in
theorem period_any {g : Bool} {a : Option Addr} {n c : Nat} {z : Int} {w : World} (h : ZAt Nil w g a n c z) (hn : n * 4 + 4 ≤ 140737488355328) :
    Calls Tryz.prog 62 #[.agg #[.bool g, .slice a n c]] w fun e w' => PerRet z w e w' := by
  have hl := h.nlen_le
  have HA := Lib.hid (h.keepNil ((Keeps.refl Nil w).alloc (.cells #[.bool g, .slice a n c] 38)))
  have HN := Lib.hid (show nlen z.natAbs * 4 + 4 ≤ 140737488355328 by omega)
  clear h hn hl
  have HI := Lib.hid (And.intro (@int64_eq (z.natAbs : Int)) (@int64_no (z.natAbs : Int)))
  by_cases hf : z.natAbs ≤ 4096
  · have HF := Lib.hid (fits64_of (z := (z.natAbs : Int)) (by omega))
    have hf' : (z.natAbs : Int) ≤ 4096 := by omega
    go_enter Tryz.func62, Tryz.ntmps62
    go_wp2_with (first | (go_at_call 96; refine (abs_any (M := Nil) (MB.nil _) HA.out).mono ?_; rintro e w1 ⟨g1, a1, n1, m1, rfl, h1, hk1⟩; have H1 := Lib.hid (And.intro h1 hk1); clear h1 hk1) | (go_at_call 39; refine (zint64_any (H1.out.1.zat (by rw [Int.natAbs_natCast]; exact HN.out))).mono ?_; rintro e w2 ⟨rfl, hk2⟩; rw [HF.out, HI.out.1 HF.out]; have H2 := Lib.hid hk2; clear hk2))
    go_ret2
    exact ⟨_, by rw [decide_eq_true hf]; rfl, fun _ => rfl, (((Keeps.refl Nil w).alloc _).trans H1.out.2).trans H2.out⟩
  · have hd : decide (z.natAbs ≤ 4096) = false := decide_eq_false hf
    have HD := Lib.hid hd
    clear hd
    by_cases hg : (z.natAbs : Int) ≤ 9223372036854775807
    · have HF := Lib.hid (fits64_of (z := (z.natAbs : Int)) (by omega))
      have hf' : ¬ (z.natAbs : Int) ≤ 4096 := by omega
      go_enter Tryz.func62, Tryz.ntmps62
      go_wp2_with (first | (go_at_call 96; refine (abs_any (M := Nil) (MB.nil _) HA.out).mono ?_; rintro e w1 ⟨g1, a1, n1, m1, rfl, h1, hk1⟩; have H1 := Lib.hid (And.intro h1 hk1); clear h1 hk1) | (go_at_call 39; refine (zint64_any (H1.out.1.zat (by rw [Int.natAbs_natCast]; exact HN.out))).mono ?_; rintro e w2 ⟨rfl, hk2⟩; rw [HF.out, HI.out.1 HF.out]; have H2 := Lib.hid hk2; clear hk2))
      go_ret2
      exact ⟨_, by first | (rw [HD.out]; rfl) | (rw [← (show decide ((z.natAbs : Int) ≤ 4096) = decide (z.natAbs ≤ 4096) by rw [decide_eq_decide]; omega)]; rfl), fun h => absurd h hf, (((Keeps.refl Nil w).alloc _).trans H1.out.2).trans H2.out⟩
    · have HF := Lib.hid (fits64_no (z := (z.natAbs : Int)) (by omega))
      go_enter Tryz.func62, Tryz.ntmps62
      go_wp2_with (first | (go_at_call 96; refine (abs_any (M := Nil) (MB.nil _) HA.out).mono ?_; rintro e w1 ⟨g1, a1, n1, m1, rfl, h1, hk1⟩; have H1 := Lib.hid (And.intro h1 hk1); clear h1 hk1) | (go_at_call 39; refine (zint64_any (H1.out.1.zat (by rw [Int.natAbs_natCast]; exact HN.out))).mono ?_; rintro e w2 ⟨rfl, hk2⟩; rw [HF.out, HI.out.2 HF.out]; have H2 := Lib.hid hk2; clear hk2))
      go_ret2
      exact ⟨_, by rw [HD.out]; rfl, fun h => absurd h hf, (((Keeps.refl Nil w).alloc _).trans H1.out.2).trans H2.out⟩
end Go.Proofs.YtfkclbhddiidbaaGreat
