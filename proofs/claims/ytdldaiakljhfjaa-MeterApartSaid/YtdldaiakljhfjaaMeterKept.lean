/- What kept answers of two lists of the same numbers: true. Conditions: the lists' own reading. -/
import Derived.Test.YtdldaiakljhfjaaRows
import Derived.Test.YtdldaiakljhfjaaBase
import Derived.Test.YtdldaiakljhfjaaOwn
import Derived.Test.YtdldaiakljhfjaaLimbs
namespace Go.Proofs.Ytdldaiakljhfjaa
open Go.RowKit Go.Rid

set_option maxHeartbeats 1000000 in
theorem kept_any {M M2 : Nat → Prop} {n c m d : Nat} {a e : Option Addr} {xs : List (Bool × List Nat)} {w : World} (hx : Ints M w a n c xs) (hy : Ints M2 w e m d xs) :
    Calls Try.prog 18 #[.slice a n c, .slice e m d] w fun r w' => r = .returned (.bool true) ∧ Keeps Nil w w' := by
  have hmn : m = n := by rw [← SlOf.len hx, ← SlOf.len hy]
  subst hmn
  have HX := Lib.hid hx
  have HY := Lib.hid hy
  have hcap := SlOf.cap hx
  have hle := SlOf.le hx
  have hcap2 := SlOf.cap hy
  have hle2 := SlOf.le hy
  clear hx hy
  go_enter Try.func18, Try.ntmps18
  go_wp2
  go_loopw [5] (fun i wr => ∃ k : Nat, k ≤ m ∧ i = .int .i64 k ∧ Keeps Nil w wr) (fun i _ => m - (intOf i).toNat)
  case atStart => exact ⟨0, Nat.zero_le _, rfl, Keeps.refl _ _⟩
  case round =>
    obtain ⟨k, hk, rfl, hkk⟩ := hrel
    have HX' := Lib.hid (HX.out.keepNil hkk)
    have HY' := Lib.hid (HY.out.keepNil hkk)
    have HK := Lib.hid hkk
    clear hkk
    by_cases hlt : k < m
    · obtain ⟨b, off, a', n', c', rfl, hb, hnM, p0, p1, hL, hr'⟩ := HX'.out.at hlt
      obtain ⟨b2, off2, a2, n2, c2, rfl, hb2, hnM2, r0, r1, hL2, hr2⟩ := HY'.out.at hlt
      obtain rfl : n2 = n' := by rw [← hL.len, ← hL2.len]
      have HL := Lib.hid (And.intro hL hL2)
      have hlc := hL.sl.le
      have hlc2 := hL.sl.cap
      have hlc3 := hL2.sl.le
      have hlc4 := hL2.sl.cap
      clear hL hL2
      go_wp2_with fail
      go_quiet (fail)
      go_wp2_with fail
      obtain ⟨wo, hwo⟩ : ∃ wo : World, wo = wr := ⟨_, rfl⟩
      subst hwo
      have HP := Lib.hid (And.intro p0 (And.intro p1 (And.intro r0 r1)))
      have HB := Lib.hid (And.intro hb hb2)
      clear p0 p1 r0 r1
      go_loopw [6] (fun j wi => ∃ t : Nat, t ≤ n2 ∧ j = .int .i64 t ∧ Keeps Nil wo wi) (fun j _ => n2 - (intOf j).toNat)
      case atStart => exact ⟨0, Nat.zero_le _, rfl, (by repeat (first | exact Keeps.refl _ _ | refine Keeps.drew ?_ | refine Keeps.drewN ?_ _ | refine Keeps.alloc ?_ _))⟩
      case round =>
        obtain ⟨t, ht, rfl, hkt⟩ := hrel
        have p1 := hkt.cellE hb id HP.out.2.1
        have r1 := hkt.cellE hb2 id HP.out.2.2.2
        by_cases hlt2 : t < n2
        · obtain ⟨b3, off3, rfl, hb3, _, hc3⟩ := (HL.out.1.sl.keep (M' := Nil) hkt (fun _ _ h => h.elim)).at (by omega)
          obtain ⟨b4, off4, rfl, hb4, _, hc4⟩ := (HL.out.2.sl.keep (M' := Nil) hkt (fun _ _ h => h.elim)).at (by omega)
          have s0 : wr.cell? ⟨b3, off3 + t, none⟩ = some (.int .u32 (lim (ith xs k).2 t : Int)) := by simpa using hc3 t 0 hlt2 (by omega)
          have s1 : wr.cell? ⟨b4, off4 + t, none⟩ = some (.int .u32 (lim (ith xs k).2 t : Int)) := by simpa using hc4 t 0 hlt2 (by omega)
          have HK2 := Lib.hid hkt
          clear hc3 hc4 hkt
          go_wp2_with fail
          go_quiet (fail)
          go_wp2
          go_roundw
          case rel => exact ⟨t + 1, by omega, by go_num, HK2.out.trans (by repeat (first | exact Keeps.refl _ _ | refine Keeps.drew ?_ | refine Keeps.drewN ?_ _ | refine Keeps.alloc ?_ _))⟩
          case measure => simp [intOf]; omega
        · have HK2 := Lib.hid hkt
          clear hkt
          go_wp2
          go_roundw
          case rel => exact ⟨k + 1, by omega, by go_num, (HK.out.trans HK2.out).trans (by repeat (first | exact Keeps.refl _ _ | refine Keeps.drew ?_ | refine Keeps.drewN ?_ _ | refine Keeps.alloc ?_ _))⟩
          case measure => simp [intOf]; omega
    · go_wp2
      go_ret
      exact ⟨rfl, HK.out.trans (by repeat (first | exact Keeps.refl _ _ | refine Keeps.drew ?_ | refine Keeps.drewN ?_ _ | refine Keeps.alloc ?_ _))⟩
end Go.Proofs.Ytdldaiakljhfjaa
