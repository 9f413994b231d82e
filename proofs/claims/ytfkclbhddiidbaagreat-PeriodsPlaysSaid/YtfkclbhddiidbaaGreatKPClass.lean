/- What periods.Class does: a set in new memory, or none. Conditions: the numbers' own reading; room. -/
import Derived.Test.YtfkclbhddiidbaaGreatKPAbove
namespace Go.Rid
open Go.RowKit
theorem bools_set (p r : Nat) : (zeros p (.bool false)).set r (.bool true) = (classRow p r).map Value.bool := by
  simp [zeros, classRow, List.map_set]
end Go.Rid
namespace Go.Proofs.YtfkclbhddiidbaaGreat
open Go.RowKit Go.Rid

theorem info_bool : (Tryz.prog.info? 4).map (fun i => (i.zero, i.size, i.bytes)) = some (some (.bool false), 1, 1) := by kernel_rfl
/-- What Class answers. -/
def ClassRet (M : Nat → Prop) (w : World) (d r : Int) (e : Ending) (w' : World) : Prop :=
  (d = 0 ∧ e = .returned (.tuple #[.pointer none, .int .i64 11]) ∧ Keeps Nil w w') ∨ (d ≠ 0 ∧ 4096 < d.natAbs ∧ e = .returned (.tuple #[.pointer none, .int .i64 180]) ∧ Keeps Nil w w') ∨
    (d ≠ 0 ∧ d.natAbs ≤ 4096 ∧ ∃ p, e = .returned (.tuple #[.pointer (some ⟨p, 0, none⟩), .int .i64 0]) ∧ SetAt M w' p (classSet d r) ∧ Keeps Nil w w')
set_option maxHeartbeats 2000000 in
theorem class_any {M : Nat → Prop} {g g2 : Bool} {a a2 : Option Addr} {n c n2 c2 : Nat} {z z2 : Int} {w : World} (hM : MB M w) (h : ZAt Nil w g a n c z) (h2 : ZAt Nil w g2 a2 n2 c2 z2) (hn : n * 4 + 4 ≤ 140737488355328) (hn2 : n2 * 4 + 4 ≤ 140737488355328) :
    Calls Tryz.prog 21 #[.agg #[.bool g, .slice a n c], .agg #[.bool g2, .slice a2 n2 c2]] w fun e w' => ClassRet M w z z2 e w' := by
  obtain ⟨i0, hi, hz0, hz1, hz2⟩ := info_parts info_bool
  obtain ⟨r0, r1, hk0⟩ := rows2 w 38 (.bool g) (.slice a n c) (.bool g2) (.slice a2 n2 c2)
  have HM := Lib.hid hM
  have HA := Lib.hid (And.intro (h.keepNil hk0) hn)
  have HB := Lib.hid (And.intro (h2.keepNil hk0) hn2)
  have ld := liveRules.2.2.1
  clear h h2 hM hn hn2
  go_enter Tryz.func21, Tryz.ntmps21
  go_wp2_with fail
  generalize (w.alloc (.cells #[.bool g, .slice a n c] 38)).alloc (.cells #[.bool g2, .slice a2 n2 c2] 38) = w0 at *
  obtain ⟨c00, c01, _, _⟩ := r0.two
  obtain ⟨c10, c11, _, _⟩ := r1.two
  have b0 := Live.of r0.lt
  have b1 := Live.of r1.lt
  have HK0 := Lib.hid (And.intro hk0 (And.intro r0 r1))
  clear hk0 r0 r1
  by_cases hz : z = 0
  · have HZ := Lib.hid hz
    subst hz
    go_wp2_with (go_at_call 61; refine (sign_any (HA.out.1.keepNil (by repeat (first | exact Keeps.refl _ _ | assumption | refine Keeps.drew ?_ | refine Keeps.drewN ?_ _ | refine Keeps.alloc ?_ _ | exact Keeps.of_nil (by assumption) | refine Keeps.trans ?_ (Keeps.of_nil (by assumption)) | refine Keeps.setCell ?_ (.inr (by first | exact Nat.le_refl _ | (dsimp only; omega))) _ | refine Keeps.setCell ?_ (.inl (by first | (unfold Old; dsimp only; omega) | (unfold Old; simp; omega) | (unfold Old; simp))) _)))).mono ?_; rintro e w1 ⟨rfl, hk1⟩; have HK1 := Lib.hid (HK0.out.1.trans (show Keeps Nil w0 w1 from (by repeat (first | exact Keeps.refl _ _ | assumption | refine Keeps.drew ?_ | refine Keeps.drewN ?_ _ | refine Keeps.alloc ?_ _ | exact Keeps.of_nil (by assumption) | refine Keeps.trans ?_ (Keeps.of_nil (by assumption)) | refine Keeps.setCell ?_ (.inr (by first | exact Nat.le_refl _ | (dsimp only; omega))) _ | refine Keeps.setCell ?_ (.inl (by first | (unfold Old; dsimp only; omega) | (unfold Old; simp; omega) | (unfold Old; simp))) _)))); clear hk1; rw [show Int.sign 0 = 0 from rfl])
    go_ret2
    exact .inl ⟨rfl, rfl, HK1.out⟩
  · have hs : ¬ z.sign = 0 := by rw [Int.sign_eq_zero_iff_zero]; exact hz
    have hs' : (z.sign == 0) = false := by simpa using hz
    have HZ := Lib.hid hz
    clear hz
    by_cases hp : z.natAbs ≤ 4096
    · have HD := Lib.hid (decide_eq_true hp)
      have HP := Lib.hid hp
      go_wp2_with (first | (go_at_call 61; refine (sign_any (HA.out.1.keepNil (by repeat (first | exact Keeps.refl _ _ | assumption | refine Keeps.drew ?_ | refine Keeps.drewN ?_ _ | refine Keeps.alloc ?_ _ | exact Keeps.of_nil (by assumption) | refine Keeps.trans ?_ (Keeps.of_nil (by assumption)) | refine Keeps.setCell ?_ (.inr (by first | exact Nat.le_refl _ | (dsimp only; omega))) _ | refine Keeps.setCell ?_ (.inl (by first | (unfold Old; dsimp only; omega) | (unfold Old; simp; omega) | (unfold Old; simp))) _)))).mono ?_; rintro e w1 ⟨rfl, hk1⟩; obtain ⟨rc1, rf1, ra1⟩ := hk1.live; have q0 := ra1 _ b0; have q1 := ra1 _ b1) | (go_at_call 62; refine (period_any (HA.out.1.keepNil (by repeat (first | exact Keeps.refl _ _ | assumption | refine Keeps.drew ?_ | refine Keeps.drewN ?_ _ | refine Keeps.alloc ?_ _ | exact Keeps.of_nil (by assumption) | refine Keeps.trans ?_ (Keeps.of_nil (by assumption)) | refine Keeps.setCell ?_ (.inr (by first | exact Nat.le_refl _ | (dsimp only; omega))) _ | refine Keeps.setCell ?_ (.inl (by first | (unfold Old; dsimp only; omega) | (unfold Old; simp; omega) | (unfold Old; simp))) _))) HA.out.2).mono ?_; rintro e w2 ⟨m, rfl, hm, hk2⟩; rw [HD.out, hm HP.out]; obtain ⟨rc2, rf2, ra2⟩ := hk2.live; obtain ⟨rc12, rf12, ra12⟩ := (hk1.trans (show Keeps Nil w1 w2 from (by repeat (first | exact Keeps.refl _ _ | assumption | refine Keeps.drew ?_ | refine Keeps.drewN ?_ _ | refine Keeps.alloc ?_ _ | exact Keeps.of_nil (by assumption) | refine Keeps.trans ?_ (Keeps.of_nil (by assumption)) | refine Keeps.setCell ?_ (.inr (by first | exact Nat.le_refl _ | (dsimp only; omega))) _ | refine Keeps.setCell ?_ (.inl (by first | (unfold Old; dsimp only; omega) | (unfold Old; simp; omega) | (unfold Old; simp))) _)))).live; have l0 := ra12 _ b0; have l1 := ra12 _ b1; clear hm) | (at_make; refine wpList_make_row _ rfl _ _ 59 rfl 4 i0 (.bool false) Tryz.underlying59 hi hz0 hz1 rfl .i64 .i64 _ _ z.natAbs rfl rfl rfl rfl (by rw [hz2]; omega) (by omega) ?_; intro w3 hrow hk3 hsz3; obtain ⟨rc3, rf3, ra3⟩ := hk3.live; have HR := Lib.hid hrow; have x0 := ra3 _ l0; have x1 := ra3 _ l1; clear hrow hsz3))
      obtain ⟨r, hr⟩ : ∃ r : Nat, r = (z2 % (z.natAbs : Int)).toNat := ⟨_, rfl⟩
      have hz0' : z.natAbs ≠ 0 := by have := HZ.out; omega
      have hrz : z2 % (z.natAbs : Int) = (r : Int) := by
        have := Int.emod_nonneg z2 (show (z.natAbs : Int) ≠ 0 by omega); omega
      have hrp : r < z.natAbs := by
        have := Int.emod_lt_of_pos z2 (show (0 : Int) < (z.natAbs : Int) by omega); omega
      have HRZ := Lib.hid (And.intro hrz hr)
      have hrI : (r : Int) < (z.natAbs : Int) := by omega
      have hzI : (0 : Int) < (z.natAbs : Int) := by omega
      have hk03 : Keeps Nil w0 w3 := (by repeat (first | exact Keeps.refl _ _ | assumption | refine Keeps.drew ?_ | refine Keeps.drewN ?_ _ | refine Keeps.alloc ?_ _ | exact Keeps.of_nil (by assumption) | refine Keeps.trans ?_ (Keeps.of_nil (by assumption)) | refine Keeps.setCell ?_ (.inr (by first | exact Nat.le_refl _ | (dsimp only; omega))) _ | refine Keeps.setCell ?_ (.inl (by first | (unfold Old; dsimp only; omega) | (unfold Old; simp; omega) | (unfold Old; simp))) _))
      have HK3 := Lib.hid (And.intro (HK0.out.1.trans hk03) (show Keeps Nil w0 w2 from (by repeat (first | exact Keeps.refl _ _ | assumption | refine Keeps.drew ?_ | refine Keeps.drewN ?_ _ | refine Keeps.alloc ?_ _ | exact Keeps.of_nil (by assumption) | refine Keeps.trans ?_ (Keeps.of_nil (by assumption)) | refine Keeps.setCell ?_ (.inr (by first | exact Nat.le_refl _ | (dsimp only; omega))) _ | refine Keeps.setCell ?_ (.inl (by first | (unfold Old; dsimp only; omega) | (unfold Old; simp; omega) | (unfold Old; simp))) _))))
      have nmr : ¬ M w2.heap.size := fun hm => by have := HM.out _ hm; have := HK0.out.1.size; have := HK3.out.2.size; omega
      clear hr hrz hz0'
      refine (left_any (HB.out.1.keepNil hk03) HB.out.2 hzI (by omega)).mono ?_
      rintro e w4 ⟨rfl, hk4⟩
      rw [HRZ.out.1]
      have hrow := HR.out.keep hk4 id
      have rc := hrow.cell r
      have rf := hrow.frozen r
      rw [show (zeros z.natAbs (Value.bool false))[r]? = some (.bool false) by simp [zeros, hrp]] at rc
      have hset := hrow.set r (.bool true)
      rw [bools_set] at hset
      have hbs := Bools.ofRow hset nmr (by simp [classRow]; omega)
      rw [show (classRow z.natAbs r).length = z.natAbs by simp [classRow]] at hbs
      have hks : Keeps Nil w (w4.setCell ⟨w2.heap.size, r, none⟩ (.bool true)) := (HK3.out.1.trans hk4).setCell (.inr (by show _ ≤ w2.heap.size; exact Nat.le_trans HK0.out.1.size HK3.out.2.size)) _
      have HBS := Lib.hid (And.intro hbs hks)
      clear hrow hset hbs hks hk4 hk3 hk1 hk2 hk03 rc1 rf1 ra1 rc2 rf2 ra2 rc12 rf12 ra12 rc3 rf3 ra3
      go_wp2_with (go_at_call 23; refine (whole_any (HM.out.keep HBS.out.2) HBS.out.1).mono ?_; rintro e w5 ⟨p, rfl, hs5, hk5⟩)
      go_ret2
      refine .inr (.inr ⟨HZ.out, hp, p, rfl, ?_, HBS.out.2.trans hk5⟩)
      unfold classSet
      rw [← HRZ.out.2]
      simpa [classRow] using hs5
    · have HD := Lib.hid (decide_eq_false hp)
      go_wp2_with (first | (go_at_call 61; refine (sign_any (HA.out.1.keepNil (by repeat (first | exact Keeps.refl _ _ | assumption | refine Keeps.drew ?_ | refine Keeps.drewN ?_ _ | refine Keeps.alloc ?_ _ | exact Keeps.of_nil (by assumption) | refine Keeps.trans ?_ (Keeps.of_nil (by assumption)) | refine Keeps.setCell ?_ (.inr (by first | exact Nat.le_refl _ | (dsimp only; omega))) _ | refine Keeps.setCell ?_ (.inl (by first | (unfold Old; dsimp only; omega) | (unfold Old; simp; omega) | (unfold Old; simp))) _)))).mono ?_; rintro e w1 ⟨rfl, hk1⟩; obtain ⟨rc1, rf1, ra1⟩ := hk1.live; have q0 := ra1 _ b0; have q1 := ra1 _ b1) | (go_at_call 62; refine (period_any (HA.out.1.keepNil (by repeat (first | exact Keeps.refl _ _ | assumption | refine Keeps.drew ?_ | refine Keeps.drewN ?_ _ | refine Keeps.alloc ?_ _ | exact Keeps.of_nil (by assumption) | refine Keeps.trans ?_ (Keeps.of_nil (by assumption)) | refine Keeps.setCell ?_ (.inr (by first | exact Nat.le_refl _ | (dsimp only; omega))) _ | refine Keeps.setCell ?_ (.inl (by first | (unfold Old; dsimp only; omega) | (unfold Old; simp; omega) | (unfold Old; simp))) _))) HA.out.2).mono ?_; rintro e w2 ⟨m, rfl, hm, hk2⟩; rw [HD.out]; have HK := Lib.hid (HK0.out.1.trans (show Keeps Nil w0 w2 from (by repeat (first | exact Keeps.refl _ _ | assumption | refine Keeps.drew ?_ | refine Keeps.drewN ?_ _ | refine Keeps.alloc ?_ _ | exact Keeps.of_nil (by assumption) | refine Keeps.trans ?_ (Keeps.of_nil (by assumption)) | refine Keeps.setCell ?_ (.inr (by first | exact Nat.le_refl _ | (dsimp only; omega))) _ | refine Keeps.setCell ?_ (.inl (by first | (unfold Old; dsimp only; omega) | (unfold Old; simp; omega) | (unfold Old; simp))) _)))); clear hm))
      go_ret2
      exact .inr (.inl ⟨HZ.out, by omega, rfl, HK.out⟩)
end Go.Proofs.YtfkclbhddiidbaaGreat
