/- What periods.made and common do. Conditions: the sets' own reading; the periods are from 1 to 4096. -/
import Derived.Test.YtfkclbhddiidbaaGreatKPSet
import Derived.IntWalk
namespace Go.Rid
open Go.RowKit
/-- A pointer to a block's head, or none. -/
def ptrV : Option Nat → Value
  | none => .pointer none
  | some p => .pointer (some ⟨p, 0, none⟩)
theorem quo_mul (p k q : Nat) (hb : p / k * q ≤ 4096 * 4096) (hd : p / k ≤ 4096) : wrap64 (wrap64 ((p : Int) / (k : Int)) * (q : Int)) = ((p / k * q : Nat) : Int) := by
  rw [← Int.natCast_ediv]
  have e : ∀ y : Nat, y ≤ 4096 → wrap64 (y : Int) = (y : Int) := fun y hy => by unfold wrap64; omega
  rw [e _ hd, ← Int.natCast_mul]
  generalize p / k * q = x at *
  unfold wrap64; omega
theorem lcm_eq {p q : Nat} (hp : 0 < p) : p / Nat.gcd p q * q = Nat.lcm p q := by
  unfold Nat.lcm
  obtain ⟨k, hk⟩ := Nat.gcd_dvd_left p q
  have hg := Nat.gcd_pos_of_pos_left q hp
  generalize Nat.gcd p q = g at *
  subst hk
  rw [Nat.mul_div_cancel_left _ hg, Nat.mul_assoc, Nat.mul_div_cancel_left _ hg]
end Go.Rid
namespace Go.Proofs.YtfkclbhddiidbaaGreat
open Go.RowKit Go.Rid

set_option maxHeartbeats 1000000 in
theorem made_sets {M : Nat → Prop} {a : Option Addr} {n c : Nat} {ps : List (Option Nat)} {w : World} (hl : ps.length = n) (h : Sl M w 1 a n c (fun i _ => ptrV (ps.getD i none))) (hs : ∀ p, some p ∈ ps → ∃ S, SetAt Nil w p S ∧ Fine S) :
    Calls Tryz.prog 34 #[.slice a n c] w fun e w' => e = .returned (.bool (ps.all Option.isSome)) ∧ w = w' := by
  have hcap := h.cap
  have hle := h.le
  have HH := Lib.hid h
  have HS := Lib.hid hs
  clear h hs
  go_enter Tryz.func34, Tryz.ntmps34
  go_wp2_with fail
  go_loop [7] (fun i => ∃ k : Nat, k ≤ n ∧ i = .int .i64 k ∧ ∀ j, j < k → (ps.getD j none).isSome = true) (fun i => n - (intOf i).toNat)
  case atStart => exact ⟨0, Nat.zero_le _, rfl, fun j hj => by omega⟩
  case round =>
    obtain ⟨k, hk, rfl, hall⟩ := hrel
    have HA := Lib.hid hall
    clear hall
    by_cases hlt : k < n
    · obtain ⟨b, off, hae, _, _, hc⟩ := HH.out.at (by omega)
      have p0 := hc k 0 hlt (by omega)
      simp only [Nat.mul_one, Nat.add_zero] at p0
      subst hae
      clear hc
      cases hg : ps.getD k none with
      | none =>
        rw [hg] at p0
        have e : ps.all Option.isSome = false := by
          rw [List.all_eq_false]
          refine ⟨ps[k], List.getElem_mem _, ?_⟩
          have : ps.getD k none = ps[k] := by simp [List.getD, List.getElem?_eq_getElem (show k < ps.length by omega)]
          rw [← this, hg]; simp
        have HE := Lib.hid e
        clear e hg
        have p1 : w.cell? ⟨b, off + k, none⟩ = some (.pointer none) := p0
        clear p0
        go_wp2_with fail
        go_ret
        exact ⟨by rw [HE.out]; rfl, rfl⟩
      | some p =>
        rw [hg] at p0
        have p1 : w.cell? ⟨b, off + k, none⟩ = some (.pointer (some ⟨p, 0, none⟩)) := p0
        obtain ⟨S, ⟨ac, nc, cc, ar, nr, cr, q1, _, _, q4⟩, hF⟩ := HS.out p (by
          rw [← hg]
          have : ps.getD k none = ps[k] := by simp [List.getD, List.getElem?_eq_getElem (show k < ps.length by omega)]
          rw [this]; exact List.getElem_mem _)
        obtain ⟨_, _, d2⟩ := q1.three
        have hnr : ¬ (nr : Int) = 0 := by have := q4.len; have := hF.ok.len; omega
        have hnr' : ((nr : Int) == 0) = false := by simpa using hnr
        have hnr2 : ¬ nr = 0 := by omega
        have hsm : (ps.getD k none).isSome = true := by rw [hg]; rfl
        have HM := Lib.hid hsm
        clear p0 hg q1 q4 hF hsm
        go_wp2_with fail
        go_round
        case rel => exact ⟨k + 1, by omega, by go_num, fun j hj => by rcases Nat.lt_succ_iff_lt_or_eq.1 hj with h | rfl; exact HA.out j h; exact HM.out⟩
        case measure => simp [intOf]; omega
    · have e : ps.all Option.isSome = true := by
        rw [List.all_eq_true]
        intro x hx
        obtain ⟨i, hi, rfl⟩ := List.mem_iff_getElem.1 hx
        have := HA.out i (by omega)
        simpa [List.getD, List.getElem?_eq_getElem hi] using this
      have HE := Lib.hid e
      clear e
      go_wp2_with fail
      go_ret
      exact ⟨by rw [HE.out]; rfl, rfl⟩

set_option maxHeartbeats 1000000 in
theorem common_any {p q : Nat} {w : World} (hp : 1 ≤ p) (hp2 : p ≤ 4096) (hq : 1 ≤ q) (hq2 : q ≤ 4096) :
    Calls Tryz.prog 35 #[.int .i64 (p : Int), .int .i64 (q : Int)] w fun e w' => e = .returned (.int .i64 (Nat.lcm p q : Int)) ∧ Keeps Nil w w' := by
  go_enter Tryz.func35, Tryz.ntmps35
  go_wp2_with fail
  go_loopw [5, 6] (fun x y wr => ∃ k j : Nat, x = .int .i64 k ∧ y = .int .i64 j ∧ 1 ≤ k ∧ k ≤ 4096 ∧ j ≤ 4096 ∧ Nat.gcd k j = Nat.gcd p q ∧ Keeps Nil w wr) (fun _ y _ => (intOf y).toNat)
  case atStart => exact ⟨p, q, rfl, rfl, hp, hp2, hq2, rfl, Keeps.refl _ _⟩
  case round =>
    obtain ⟨k, j, rfl, rfl, hk1, hk2, hj, hg, hkk⟩ := hrel
    have HG := Lib.hid (And.intro hg hkk)
    clear hg hkk
    by_cases hj0 : j = 0
    · subst hj0
      have e : Nat.lcm p q = p / k * q := by rw [← lcm_eq (q := q) (show 0 < p by omega), ← HG.out.1, Nat.gcd_zero_right]
      have hb : p / k * q ≤ 4096 * 4096 := Nat.mul_le_mul (Nat.le_trans (Nat.div_le_self _ _) hp2) hq2
      have hd : p / k ≤ 4096 := Nat.le_trans (Nat.div_le_self _ _) hp2
      have HE := Lib.hid (And.intro e (And.intro hb hd))
      have hkI : ¬ (k : Int) = 0 := by omega
      have hk0 : (0 : Int) < (k : Int) := by omega
      rw [show ((0 : Nat) : Int) = 0 from rfl]
      clear e hb hd
      go_wp2_with fail
      go_ret
      refine ⟨congrArg (fun x => Ending.returned (Value.int .i64 x)) ?_, HG.out.2⟩
      rw [HE.out.1]
      exact quo_mul p k q HE.out.2.1 HE.out.2.2
    · have hjI : ¬ (j : Int) = 0 := by omega
      have hjI' : ((j : Int) == 0) = false := by simpa using hj0
      have hm : (k : Int) % (j : Int) = ((k % j : Nat) : Int) := by rw [Int.natCast_emod]
      have hml := Nat.mod_lt k (show 0 < j by omega)
      have HMD := Lib.hid (And.intro hm hml)
      clear hm hml
      go_wp2_with fail
      go_quiet (fail)
      go_wp2_with fail
      go_roundw
      case rel => exact ⟨j, k % j, rfl, by rw [HMD.out.1], by omega, hj, by have := HMD.out.2; omega, by rw [← HG.out.1, Nat.gcd_comm k j, Nat.gcd_rec j k, Nat.gcd_comm], HG.out.2.trans (by repeat (first | exact Keeps.refl _ _ | refine Keeps.drew ?_ | refine Keeps.drewN ?_ _ | refine Keeps.alloc ?_ _))⟩
      case measure => simp [intOf]; have := HMD.out; omega
end Go.Proofs.YtfkclbhddiidbaaGreat
