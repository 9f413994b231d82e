/- What zint.Int64 does: a number as an int64, and whether it is one. Conditions: the number's own reading. -/
import Derived.Test.YtfkclbhddiidbaaGreatKZints
import Derived.Test.YtfkclbhddiidbaaGreatKNats
import Derived.Deep.DeepCutAuto
namespace Go.Rid
/-- Is it an int64? -/
def fits64 (z : Int) : Bool := decide (-9223372036854775808 ≤ z ∧ z ≤ 9223372036854775807)
/-- The number, or 0. -/
def int64 (z : Int) : Int := if fits64 z = true then z else 0
theorem int64_eq {z : Int} (h : fits64 z = true) : int64 z = z := by simp [int64, h]
theorem int64_no {z : Int} (h : fits64 z = false) : int64 z = 0 := by simp [int64, h]
theorem fits64_of {z : Int} (h : -9223372036854775808 ≤ z ∧ z ≤ 9223372036854775807) : fits64 z = true := decide_eq_true h
theorem fits64_no {z : Int} (h : ¬ (-9223372036854775808 ≤ z ∧ z ≤ 9223372036854775807)) : fits64 z = false := decide_eq_false h
theorem big_of_nlen {m : Nat} (h : 2 < nlen m) : 18446744073709551616 ≤ m := by
  rcases Nat.lt_or_ge m 18446744073709551616 with h' | h'
  · have : nlen m ≤ 2 := nlen_le_of_lt (by rw [Bs_def]; omega)
    omega
  · exact h'
theorem two_limbs {m : Nat} (h : nlen m ≤ 2) : m < 18446744073709551616 ∧ lim (limbsOf m) 0 + 4294967296 * lim (limbsOf m) 1 = m := by
  have h1 := nval_limbsOf m
  have h2 := lt_pow_nlen m
  have h3 : Bs ^ nlen m ≤ Bs ^ 2 := Nat.pow_le_pow_right Bs_pos h
  rw [Bs_def] at h2 h3
  refine ⟨by omega, ?_⟩
  unfold nlen at h
  generalize limbsOf m = l at *
  match l, h with
  | [], _ => simp [nval, lim] at *; omega
  | [x], _ => simp [nval, lim] at *; omega
  | [x, y], _ => simp [nval, lim, Bs_def] at *; omega
theorem beside' (r x : Nat) (hr : r < 4294967296) (hx : x < 4294967296) : bits .or .u64 (x : Int) ((r : Int) * 4294967296) = ((r * 4294967296 + x : Nat) : Int) := by
  have h := beside r x hr hx
  have e : ((r : Int) * 4294967296) = ((r * 4294967296 : Nat) : Int) := by omega
  rw [e] at h ⊢
  rw [bits_or_u64_nat _ _ (by omega) (by omega)] at h ⊢
  rw [Nat.or_comm]; exact h
theorem or_zero (x : Nat) (hx : x < 4294967296) : bits .or .u64 0 (x : Int) = (x : Int) := by
  have := bits_or_u64_nat 0 x (by omega) (by omega)
  simpa using this
theorem neg64 {A : Nat} (h : A ≤ 9223372036854775808) : Go.RowKit.wrap64 (-Go.RowKit.wrap64 (A : Int)) = -(A : Int) := by
  unfold Go.RowKit.wrap64; omega
theorem pos64 {A : Nat} (h : 9223372036854775807 < A) (h2 : A < 18446744073709551616) : ¬ 0 ≤ Go.RowKit.wrap64 (A : Int) := by
  unfold Go.RowKit.wrap64; omega
/-- What k limbs say, of two. -/
def upto (x m : Nat) : Nat → Nat
  | 0 => 0
  | 1 => x
  | _ => m
end Go.Rid
namespace Go.Proofs.YtfkclbhddiidbaaGreat
open Go.RowKit Go.Rid

set_option maxHeartbeats 1000000 in
theorem zint64_any {g : Bool} {a : Option Addr} {n c : Nat} {z : Int} {w : World} (h : ZAt Nil w g a n c z) :
    Calls Tryz.prog 39 #[.agg #[.bool g, .slice a n c]] w fun e w' => e = .returned (.tuple #[.int .i64 (int64 z), .bool (fits64 z)]) ∧ Keeps Nil w w' := by
  have HA := Lib.hid h
  have hk0 : Keeps Nil w (w.alloc (.cells #[.bool g, .slice a n c] 38)) := (by repeat (first | exact Keeps.refl _ _ | refine Keeps.drew ?_ | refine Keeps.drewN ?_ _ | refine Keeps.alloc ?_ _))
  have r0 := RowIs.alloc (w := w) (E := 38) (xs := [.bool g, .slice a n c])
  have H0 := Lib.hid (And.intro hk0 r0)
  clear h hk0 r0
  go_enter Tryz.func39, Tryz.ntmps39
  go_upto_region 2 with (go_at_call 59; refine (norm_any (M := With Nil w.heap.size) ((MB.nil _).with (by simp)) (HA.out.keepNil H0.out.1)).mono ?_; rintro e w1 ⟨g', a', n', c', rfl, h', hk'⟩; have r := H0.out.2.keep hk' id; obtain ⟨_, _, f0, f1⟩ := r.two; have H1 := Lib.hid (And.intro h' (And.intro r (H0.out.1.trans hk'))); clear h' r hk')
  have hz := H1.out.1.less (Keeps.pair (.bool g') (.slice a' n' c'))
  have r1 := H1.out.2.1.pair (u' := .bool g') (v' := .slice a' n' c')
  have hk1 := H1.out.2.2.own (Nat.le_refl _) (Keeps.pair (g := w.heap.size) (.bool g') (.slice a' n' c'))
  clear H1 H0 f0 f1
  generalize (w1.setCell ⟨w.heap.size, 0, none⟩ (.bool g')).setCell ⟨w.heap.size, 1, none⟩ (.slice a' n' c') = ws at *
  obtain ⟨c0, c1, _, _⟩ := r1.two
  obtain rfl := hz.1
  have hlen := hz.len
  have hcap := hz.2.sl.cap
  have hle := hz.2.sl.le
  have HZ := Lib.hid (And.intro hz hk1)
  clear hz hk1 r1
  by_cases hbig : 2 < n'
  · have e := fits64_no (z := z) (by have := big_of_nlen (hlen ▸ hbig); omega)
    have HE := Lib.hid e
    have hb' : (2 : Int) < (n' : Int) := by omega
    clear e hlen
    go_wp2_with fail
    go_ret2
    rw [int64_no HE.out, HE.out]
    exact ⟨rfl, HZ.out.2⟩
  · obtain ⟨hm, hv⟩ := two_limbs (hlen ▸ Nat.le_of_not_lt hbig)
    have hx0 := HZ.out.1.2.lim_lt 0
    have hx1 := HZ.out.1.2.lim_lt 1
    have HV := Lib.hid hv
    have HL := Lib.hid hlen
    have hb' : ¬ (2 : Int) < (n' : Int) := by omega
    clear hv hlen
    generalize hgx : lim (limbsOf z.natAbs) 0 = x at *
    generalize hgy : lim (limbsOf z.natAbs) 1 = y at *
    have HXY := Lib.hid (And.intro hgx hgy)
    clear hgx hgy
    have hb1 := or_zero x hx0
    have hb2 := beside' y x hx1 hx0
    have HB := Lib.hid (And.intro hb1 hb2)
    clear hb1 hb2
    go_wp2_with fail
    go_loop [4, 17] (fun u i => ∃ k : Nat, k ≤ n' ∧ i = .int .i64 k ∧ u = .int .u64 (upto x z.natAbs k : Int)) (fun _ i => n' - (intOf i).toNat)
    case atStart => exact ⟨0, Nat.zero_le _, rfl, rfl⟩
    case round =>
      obtain ⟨k, hk, rfl, rfl⟩ := hrel
      by_cases hlt : k < n'
      · obtain ⟨b, off, rfl, _, _, p0⟩ := HZ.out.1.2.cell hlt
        rcases (show k = 0 ∨ k = 1 by omega) with rfl | rfl
        · rw [HXY.out.1] at p0
          simp only [Nat.add_zero] at p0
          rw [show ((0 : Nat) : Int) = 0 from rfl, show ((upto x z.natAbs 0 : Nat) : Int) = 0 from rfl]
          go_wp2_with fail
          go_round
          case rel => exact ⟨1, by omega, rfl, by rw [HB.out.1]; rfl⟩
          case measure => simp [intOf]; omega
        · rw [HXY.out.2] at p0
          rw [show ((1 : Nat) : Int) = 1 from rfl, show ((upto x z.natAbs 1 : Nat) : Int) = (x : Int) from rfl]
          go_wp2_with fail
          go_round
          case rel => exact ⟨2, by omega, rfl, by rw [HB.out.2, show upto x z.natAbs 2 = y * 4294967296 + x by have := HV.out; simp only [upto]; omega]⟩
          case measure => simp [intOf]; omega
      · obtain rfl : k = n' := by omega
        have hu : upto x z.natAbs k = z.natAbs := by
          have hv := HV.out
          have hl := HL.out
          rcases (show k = 0 ∨ k = 1 ∨ k = 2 by omega) with rfl | rfl | rfl
          · have := lt_pow_nlen z.natAbs
            rw [← hl] at this
            simp at this
            simp [upto, this]
          · have := lt_pow_nlen z.natAbs
            rw [← hl, Bs_def] at this
            simp only [upto]
            omega
          · rfl
        rw [hu]
        have HU := Lib.hid hu
        clear hu
        generalize hA : z.natAbs = A at *
        have HAA := Lib.hid hA
        clear hA
        have HW := Lib.hid (And.intro (neg64 (A := A)) (pos64 (A := A)))
        by_cases hneg : z < 0
        · have hn : neg z = true := decide_eq_true hneg
          generalize neg z = s at *
          subst hn
          by_cases hf : A ≤ 9223372036854775808
          · have HF := Lib.hid (fits64_of (z := z) (by have := HAA.out; omega))
            have HI := Lib.hid (int64_eq HF.out)
            have hf' : ((A : Int) ≤ 9223372036854775808) := by omega
            have hz : -(A : Int) = z := by have := HAA.out; omega
            have HZZ := Lib.hid hz
            clear hz
            go_wp2_with fail
            go_ret2
            rw [HI.out, HF.out]
            refine ⟨?_, HZ.out.2⟩
            rw [← HZZ.out]
            simp only [HW.out.1 hf]
            rfl
          · have HF := Lib.hid (fits64_no (z := z) (by have := HAA.out; omega))
            have HI := Lib.hid (int64_no HF.out)
            have hf' : ¬ ((A : Int) ≤ 9223372036854775808) := by omega
            go_wp2_with fail
            go_ret2
            rw [HI.out, HF.out]
            exact ⟨rfl, HZ.out.2⟩
        · have hn : neg z = false := decide_eq_false hneg
          generalize neg z = s at *
          subst hn
          by_cases hf : A ≤ 9223372036854775807
          · have HF := Lib.hid (fits64_of (z := z) (by have := HAA.out; omega))
            have HI := Lib.hid (int64_eq HF.out)
            have hz : (A : Int) = z := by have := HAA.out; omega
            have hf' : ((A : Int) ≤ 9223372036854775807) := by omega
            have hf0 : (0 : Int) ≤ (A : Int) := by omega
            have HZZ := Lib.hid hz
            clear hz
            go_wp2_with fail
            go_ret2
            rw [HI.out, HF.out]
            refine ⟨?_, HZ.out.2⟩
            rw [← HZZ.out]
            rfl
          · have HF := Lib.hid (fits64_no (z := z) (by have := HAA.out; omega))
            have HI := Lib.hid (int64_no HF.out)
            have hf' : ¬ (0 : Int) ≤ wrap64 (A : Int) := HW.out.2 (by omega) (by omega)
            go_wp2_with fail
            go_ret2
            rw [HI.out, HF.out]
            exact ⟨rfl, HZ.out.2⟩
end Go.Proofs.YtfkclbhddiidbaaGreat
