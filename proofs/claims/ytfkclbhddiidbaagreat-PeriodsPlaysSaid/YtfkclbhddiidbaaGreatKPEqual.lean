/- What slices.Equal does at rows of Bools; (*periods.Set).Period. Conditions: the rows' own reading. -/
import Derived.Test.YtfkclbhddiidbaaGreatKPSet
import Derived.Deep.QuietTactic
namespace Go.Proofs.YtfkclbhddiidbaaGreat
open Go.RowKit Go.Rid
set_option maxHeartbeats 1000000 in
theorem equal_any {M M' : Nat → Prop} {a a2 : Option Addr} {n c n2 c2 : Nat} {l l2 : List Bool} {w : World} (h : Bools M w a n c l) (h2 : Bools M' w a2 n2 c2 l2) (hn : n = n2) (hb : n ≤ 4096) :
    Calls Tryz.prog 84 #[.slice a n c, .slice a2 n2 c2] w fun e w' => e = .returned (.bool (decide (l = l2))) ∧ Keeps Nil w w' := by
  subst hn
  have hcap := h.2.cap
  have hle := h.2.le
  have hcap2 := h2.2.cap
  have hle2 := h2.2.le
  have HH := Lib.hid (And.intro h h2)
  clear h h2
  go_enter Tryz.func84, Tryz.ntmps84
  go_wp2_with fail
  go_loopw [13] (fun i wr => ∃ k : Nat, k ≤ n ∧ i = .int .i64 k ∧ (∀ j, j < k → l.getD j false = l2.getD j false) ∧ Keeps Nil w wr) (fun i _ => n - (intOf i).toNat)
  case atStart => exact ⟨0, Nat.zero_le _, rfl, fun j hj => by omega, Keeps.refl _ _⟩
  case round =>
    obtain ⟨k, hk, rfl, hall, hkk⟩ := hrel
    have HA := Lib.hid hall
    have HK := Lib.hid hkk
    clear hall
    by_cases hlt : k < n
    · obtain ⟨b, off, hae, hb1, _, p0⟩ := (HH.out.1.move (M2 := Nil) hkk (fun _ _ h => h.elim) fun _ _ h => h.elim).at hlt
      obtain ⟨b2, off2, hae2, hb2, _, p1⟩ := (HH.out.2.move (M2 := Nil) hkk (fun _ _ h => h.elim) fun _ _ h => h.elim).at hlt
      subst hae
      subst hae2
      have i1 : (k : Int) < (n : Int) := by omega
      by_cases he : l.getD k false = l2.getD k false
      · have HE := Lib.hid he
        rw [← he] at p1
        generalize hx : l.getD k false = x at *
        have HX := Lib.hid hx
        clear he hkk hx
        go_wp2_with fail
        go_quiet (fail)
        go_wp2_with fail
        go_roundw
        case rel => exact ⟨k + 1, by omega, by go_num, fun j hj => by rcases Nat.lt_succ_iff_lt_or_eq.1 hj with h | rfl; exact HA.out j h; exact HX.out.trans HE.out, HK.out.trans (by repeat (first | exact Keeps.refl _ _ | refine Keeps.drew ?_ | refine Keeps.drewN ?_ _ | refine Keeps.alloc ?_ _))⟩
        case measure => simp [intOf]; omega
      · have e : decide (l = l2) = false := decide_eq_false fun e => he (by rw [e])
        have HE := Lib.hid e
        have hx : (l.getD k false == l2.getD k false) = false := by simpa using he
        have hy : ¬ l.getD k false = l2.getD k false := he
        clear e he hkk
        generalize l.getD k false = x at *
        generalize l2.getD k false = y at *
        go_wp2_with fail
        go_quiet (fail)
        go_wp2_with fail
        go_ret
        exact ⟨by rw [HE.out]; rfl, HK.out.trans (by repeat (first | exact Keeps.refl _ _ | refine Keeps.drew ?_ | refine Keeps.drewN ?_ _ | refine Keeps.alloc ?_ _))⟩
    · have e : decide (l = l2) = true := decide_eq_true (by
        apply List.ext_getElem
        · rw [HH.out.1.1, HH.out.2.1]
        · intro i h1 h2
          have := HA.out i (by have := HH.out.1.1; omega)
          simpa [List.getD, List.getElem?_eq_getElem h1, List.getElem?_eq_getElem h2] using this)
      have HE := Lib.hid e
      clear e
      go_wp2_with fail
      go_ret
      exact ⟨by rw [HE.out]; rfl, hkk⟩
theorem period_of {M : Nat → Prop} {p : Nat} {S : PSet} {w : World} (hs : SetAt M w p S) :
    Calls Tryz.prog 19 #[.pointer (some ⟨p, 0, none⟩)] w fun e w' => e = .returned (.int .i64 (S.P : Int)) ∧ w = w' := by
  obtain ⟨ac, nc, cc, ar, nr, cr, q1, _, _, _⟩ := hs
  obtain ⟨d0, d1, d2⟩ := q1.three
  clear q1
  go_enter Tryz.func19, Tryz.ntmps19
  go_wp2_with fail
  go_ret
  exact ⟨rfl, rfl⟩
end Go.Proofs.YtfkclbhddiidbaaGreat
