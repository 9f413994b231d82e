/- What the references' Sign and Cmp on numbers do. Conditions: the numbers' own reading; room. -/
import Derived.Test.YtfkclbhddiidbaaKRefZ
import Derived.Test.YtfkclbhddiidbaaKZints
namespace Go.Rid
theorem sign_three (z : Int) : (z < 0 ∧ z.sign = -1) ∨ (z = 0 ∧ z.sign = 0) ∨ (0 < z ∧ z.sign = 1) := by
  rcases Int.lt_trichotomy z 0 with h | h | h
  · exact .inl ⟨h, Int.sign_eq_neg_one_of_neg h⟩
  · exact .inr (.inl ⟨h, by rw [h]; rfl⟩)
  · exact .inr (.inr ⟨h, Int.sign_eq_one_of_pos h⟩)
theorem cmpN_bound (a b : Nat) : -1 ≤ cmpN a b ∧ cmpN a b ≤ 1 := by unfold cmpN; split <;> (try split) <;> omega
end Go.Rid
namespace Go.Proofs.Ytfkclbhddiidbaa
open Go.RowKit Go.Rid
set_option maxHeartbeats 1000000 in
theorem refsign_any {g : Bool} {a : Option Addr} {n c : Nat} {z : Int} {w : World} (h : ZAt Nil w g a n c z) :
    Calls Try.prog 42 #[.agg #[.bool g, .slice a n c]] w fun e w' => e = .returned (.int .i64 z.sign) ∧ Keeps Nil w w' := by
  have hk0 : Keeps Nil w (w.alloc (.cells #[.bool g, .slice a n c] 36)) := (by repeat (first | exact Keeps.refl _ _ | refine Keeps.drew ?_ | refine Keeps.drewN ?_ _ | refine Keeps.alloc ?_ _))
  have r0 := RowIs.alloc (w := w) (E := 36) (xs := [.bool g, .slice a n c])
  change RowIs (w.alloc (.cells #[.bool g, .slice a n c] 36)) _ _ _ at r0
  have HA := Lib.hid (h.keepNil hk0)
  clear h
  go_enter Try.func42, Try.ntmps42
  go_upto_region 1 with (fail)
  generalize w.alloc (.cells #[.bool g, .slice a n c] 36) = w0 at *
  obtain ⟨c0, c1, _, _⟩ := r0.two
  have HK := Lib.hid hk0
  clear r0 hk0
  go_upto_region 2 with (go_at_call 38; refine (refnorm_any (M := Nil) (MB.nil _) HA.out).mono ?_; rintro e w1 ⟨g1, a1, n1, m1, rfl, h1, hk1⟩)
  have hl := h1.len
  have hgz := h1.1
  have HK1 := Lib.hid (HK.out.trans hk1)
  clear h1 hk1 c0 c1
  rcases sign_three z with ⟨hz, hs⟩ | ⟨hz, hs⟩ | ⟨hz, hs⟩
  · have hn : ¬ n1 = 0 := fun e => by
      have h1 := lt_pow_nlen z.natAbs
      rw [← hl, e] at h1; simp at h1; omega
    have e1 : ((n1 : Int) == 0) = false := by simpa using hn
    have e2 : ¬ (n1 : Int) = 0 := by omega
    have e3 : g1 = true := by rw [hgz]; exact decide_eq_true hz
    subst e3
    have HSS := Lib.hid hs
    clear hl hgz hs hz
    go_wp2_with fail
    go_ret
    rw [HSS.out]
    exact ⟨rfl, HK1.out.trans (by repeat (first | exact Keeps.refl _ _ | refine Keeps.drew ?_ | refine Keeps.drewN ?_ _ | refine Keeps.alloc ?_ _))⟩
  · have hn : n1 = 0 := by rw [hl, hz]; simp [nlen, limbsOf_zero]
    subst hn
    have HSS := Lib.hid hs
    clear hl hgz hs hz
    go_wp2_with fail
    go_ret
    rw [HSS.out]
    exact ⟨rfl, HK1.out.trans (by repeat (first | exact Keeps.refl _ _ | refine Keeps.drew ?_ | refine Keeps.drewN ?_ _ | refine Keeps.alloc ?_ _))⟩
  · have hn : ¬ n1 = 0 := fun e => by
      have h1 := lt_pow_nlen z.natAbs
      rw [← hl, e] at h1; simp at h1; omega
    have e1 : ((n1 : Int) == 0) = false := by simpa using hn
    have e2 : ¬ (n1 : Int) = 0 := by omega
    have e3 : g1 = false := by rw [hgz]; exact decide_eq_false (by omega)
    subst e3
    have HSS := Lib.hid hs
    clear hl hgz hs hz
    go_wp2_with fail
    go_ret
    rw [HSS.out]
    exact ⟨rfl, HK1.out.trans (by repeat (first | exact Keeps.refl _ _ | refine Keeps.drew ?_ | refine Keeps.drewN ?_ _ | refine Keeps.alloc ?_ _))⟩
set_option maxHeartbeats 2000000 in
theorem refcmp_any {g g2 : Bool} {a a2 : Option Addr} {n c n2 c2 : Nat} {z z2 : Int} {w : World} (h : ZAt Nil w g a n c z) (h2 : ZAt Nil w g2 a2 n2 c2 z2) :
    Calls Try.prog 19 #[.agg #[.bool g, .slice a n c], .agg #[.bool g2, .slice a2 n2 c2]] w fun e w' => e = .returned (.int .i64 (cmpZ z z2)) ∧ Keeps Nil w w' := by
  obtain ⟨r0, r1, hk0⟩ := rows2 w 36 (.bool g) (.slice a n c) (.bool g2) (.slice a2 n2 c2)
  have HA := Lib.hid (And.intro (h.keepNil hk0) (h2.keepNil hk0))
  obtain ⟨l, hl, _, hlz⟩ := h
  obtain ⟨l2, hl2, _, hlz2⟩ := h2
  have hv : nval l = z.natAbs := by rw [← hlz, natAbs_ival]
  have hv2 : nval l2 = z2.natAbs := by rw [← hlz2, natAbs_ival]
  have HL := Lib.hid (And.intro (hl.keepNil hk0) (And.intro (hl2.keepNil hk0) (And.intro hv hv2)))
  obtain ⟨cm, hcm⟩ : ∃ cm : Int, cm = cmpN (nval l) (nval l2) := ⟨_, rfl⟩
  have hb := cmpN_bound (nval l) (nval l2)
  rw [← hcm] at hb
  obtain ⟨hb1, hb2⟩ := hb
  have HC := Lib.hid hcm
  clear hl hl2 hlz hlz2 hv hv2 hcm
  go_enter Try.func19, Try.ntmps19
  go_upto_region 1 with (fail)
  generalize (w.alloc (.cells #[.bool g, .slice a n c] 36)).alloc (.cells #[.bool g2, .slice a2 n2 c2] 36) = w0 at *
  obtain ⟨c00, c01, _, _⟩ := r0.two
  obtain ⟨c10, c11, _, _⟩ := r1.two
  have HR := Lib.hid (And.intro r0 (And.intro r1 hk0))
  clear r0 r1 hk0
  go_upto_region 3 with (first | (go_at_call 42; have hprev := hk1; clear hprev; refine (refsign_any (HA.out.2.keepNil hk1)).mono ?_; rintro e w2 ⟨rfl, hk2⟩; obtain ⟨c00, c01, _, _⟩ := ((HR.out.1.keep hk1 id).keep hk2 id).two; obtain ⟨c10, c11, _, _⟩ := ((HR.out.2.1.keep hk1 id).keep hk2 id).two) | (go_at_call 42; refine (refsign_any HA.out.1).mono ?_; rintro e w1 ⟨rfl, hk1⟩; obtain ⟨c00, c01, _, _⟩ := (HR.out.1.keep hk1 id).two; obtain ⟨c10, c11, _, _⟩ := (HR.out.2.1.keep hk1 id).two))
  have HK := Lib.hid (And.intro (hk1.trans hk2) (HR.out.2.2.trans (hk1.trans hk2)))
  clear hk1 hk2
  rcases sign_three z with ⟨hz, hs⟩ | ⟨hz, hs⟩ | ⟨hz, hs⟩ <;> rcases sign_three z2 with ⟨hz2, hs2⟩ | ⟨hz2, hs2⟩ | ⟨hz2, hs2⟩
  all_goals
    rw [hs, hs2]
    have HZ := Lib.hid (And.intro hz hz2)
    clear hz hz2 hs hs2
    go_wp2_with (go_at_call 40; refine (refncmp_any (HL.out.1.keepNil HK.out.1) (HL.out.2.1.keepNil HK.out.1)).mono ?_; rintro e w3 ⟨rfl, hk3⟩; rw [← HC.out])
    go_ret
    refine ⟨congrArg (fun x => Ending.returned (Value.int .i64 x)) ?_, HK.out.2.trans (by first | exact Keeps.refl _ _ | exact hk3)⟩
    have h1 := HC.out
    obtain ⟨hz, hz2⟩ := HZ.out
    rw [HL.out.2.2.1, HL.out.2.2.2] at h1
    unfold cmpN at h1
    unfold cmpZ
    repeat' split
    all_goals (repeat' split at h1)
    all_goals omega
end Go.Proofs.Ytfkclbhddiidbaa
