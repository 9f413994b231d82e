/- What the laws' own pick does. No condition. -/
import Derived.Test.YtfkclbhddiidbaaKPLaw1
namespace Go.Proofs.Ytfkclbhddiidbaa
open Go.RowKit Go.Rid
theorem pick_any {c : Int} {n : Nat} {w : World} (h0 : -9223372036854775808 ≤ c) (h1 : c ≤ 9223372036854775807) (hn : 1 ≤ n) (hn2 : n ≤ 1000000) :
    Calls Try.prog 13 #[.int .i64 c, .int .i64 (n : Int)] w fun e w' => e = .returned (.int .i64 (pk c n : Nat)) ∧ w = w' := by
  have HP := Lib.hid (pk_eq (c := c) hn)
  have hnI : ¬ (n : Int) = 0 := by omega
  by_cases hc : c < 0
  · obtain ⟨m, hm⟩ : ∃ m : Nat, -(c + 1) = (m : Int) := ⟨(-(c + 1)).toNat, by omega⟩
    have HM := Lib.hid hm
    go_enter Try.func13, Try.ntmps13
    go_wp2_with fail
    go_ret
    rw [HP.out, if_pos hc, HM.out]
    exact ⟨rfl, rfl⟩
  · obtain ⟨m, rfl⟩ : ∃ m : Nat, c = (m : Int) := ⟨c.toNat, by omega⟩
    go_enter Try.func13, Try.ntmps13
    go_wp2_with fail
    go_ret
    rw [HP.out, if_neg (by omega)]
    exact ⟨rfl, rfl⟩
end Go.Proofs.Ytfkclbhddiidbaa
