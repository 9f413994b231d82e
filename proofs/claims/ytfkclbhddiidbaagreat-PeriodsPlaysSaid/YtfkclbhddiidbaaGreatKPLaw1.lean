/- What the laws on sets ask of their own helpers: which of n things a raw number speaks of; two like numbers; the sets that are known. No condition. -/
import Derived.Test.YtfkclbhddiidbaaGreatKPMeet
import Derived.Test.YtfkclbhddiidbaaGreatKRefs
namespace Go.Rid
open Go.RowKit
/-- Which of n things a raw number speaks of. -/
def pk (c : Int) (n : Nat) : Nat := ((if c < 0 then -(c + 1) else c) % (n : Int)).toNat
theorem pk_eq {c : Int} {n : Nat} (hn : 1 ≤ n) : ((pk c n : Nat) : Int) = (if c < 0 then -(c + 1) else c) % (n : Int) := by
  have := Int.emod_nonneg (if c < 0 then -(c + 1) else c) (show (n : Int) ≠ 0 by omega)
  unfold pk; omega
theorem pk_lt {c : Int} {n : Nat} (hn : 1 ≤ n) : pk c n < n := by
  have h := pk_eq (c := c) hn
  have := Int.emod_lt_of_pos (if c < 0 then -(c + 1) else c) (show (0 : Int) < (n : Int) by omega)
  omega
end Go.Rid
namespace Go.Proofs.YtfkclbhddiidbaaGreat
open Go.RowKit Go.Rid
theorem refpick_any {c : Int} {n : Nat} {w : World} (h0 : -9223372036854775808 ≤ c) (h1 : c ≤ 9223372036854775807) (hn : 1 ≤ n) (hn2 : n ≤ 1000000) :
    Calls Tryz.prog 25 #[.int .i64 c, .int .i64 (n : Int)] w fun e w' => e = .returned (.int .i64 (pk c n : Nat)) ∧ w = w' := by
  have HP := Lib.hid (pk_eq (c := c) hn)
  have hnI : ¬ (n : Int) = 0 := by omega
  by_cases hc : c < 0
  · obtain ⟨m, hm⟩ : ∃ m : Nat, -(c + 1) = (m : Int) := ⟨(-(c + 1)).toNat, by omega⟩
    have HM := Lib.hid hm
    go_enter Tryz.func25, Tryz.ntmps25
    go_wp2_with fail
    go_ret
    rw [HP.out, if_pos hc, HM.out]
    exact ⟨rfl, rfl⟩
  · obtain ⟨m, rfl⟩ : ∃ m : Nat, c = (m : Int) := ⟨c.toNat, by omega⟩
    go_enter Tryz.func25, Tryz.ntmps25
    go_wp2_with fail
    go_ret
    rw [HP.out, if_neg (by omega)]
    exact ⟨rfl, rfl⟩
set_option maxHeartbeats 1000000 in
theorem ints_same {M M' : Nat → Prop} {g : Bool} {a a2 : Option Addr} {n c n2 c2 : Nat} {z : Int} {w : World} (h : ZN M w g a n c z) (h2 : ZN M' w g a2 n2 c2 z) :
    Calls Tryz.prog 22 #[.agg #[.bool g, .slice a n c], .agg #[.bool g, .slice a2 n2 c2]] w fun e w' => e = .returned (.bool true) ∧ Keeps Nil w w' := by
  obtain ⟨r0, r1, hk0⟩ := rows2 w 38 (.bool g) (.slice a n c) (.bool g) (.slice a2 n2 c2)
  have hl := h.2
  have hl2 := h2.2
  have hn : n2 = n := by rw [← hl.len, ← hl2.len]
  subst hn
  generalize limbsOf z.natAbs = l at *
  have hcap := hl.sl.cap
  have hle := hl.sl.le
  have hcap2 := hl2.sl.cap
  have hle2 := hl2.sl.le
  have HL := Lib.hid (And.intro (hl.keepNil hk0) (hl2.keepNil hk0))
  clear h h2 hl hl2
  go_enter Tryz.func22, Tryz.ntmps22
  go_upto_region 1 with (fail)
  generalize (w.alloc (.cells #[.bool g, .slice a n2 c] 38)).alloc (.cells #[.bool g, .slice a2 n2 c2] 38) = w0 at *
  obtain ⟨c00, c01, _, _⟩ := r0.two
  obtain ⟨c10, c11, _, _⟩ := r1.two
  have HR := Lib.hid (And.intro r0 (And.intro r1 hk0))
  clear r0 r1 hk0
  have hgg : (g != g) = false := by simp
  go_wp2_with fail
  go_loopw [5] (fun i wr => ∃ k : Nat, k ≤ n2 ∧ i = .int .i64 k ∧ Keeps Nil w0 wr) (fun i _ => n2 - (intOf i).toNat)
  case atStart => exact ⟨0, Nat.zero_le _, rfl, Keeps.refl _ _⟩
  case round =>
    obtain ⟨k, hk, rfl, hkk⟩ := hrel
    have HK := Lib.hid hkk
    obtain ⟨d00, d01, _, _⟩ := (HR.out.1.keep hkk id).two
    obtain ⟨d10, d11, _, _⟩ := (HR.out.2.1.keep hkk id).two
    by_cases hlt : k < n2
    · obtain ⟨b, off, hae, _, _, p0⟩ := (HL.out.1.keepNil hkk).cell hlt
      obtain ⟨b2, off2, hae2, _, _, p1⟩ := (HL.out.2.keepNil hkk).cell hlt
      subst hae
      subst hae2
      have i1 : (k : Int) < (n2 : Int) := by omega
      have i2 : (0 : Int) ≤ (k : Int) := by omega
      clear hkk
      go_wp2_with fail
      go_quiet (fail)
      go_wp2_with fail
      go_roundw
      case rel => exact ⟨k + 1, by omega, by go_num, HK.out.trans (by repeat (first | exact Keeps.refl _ _ | refine Keeps.drew ?_ | refine Keeps.drewN ?_ _ | refine Keeps.alloc ?_ _))⟩
      case measure => simp [intOf]; omega
    · have i1 : ¬ (k : Int) < (n2 : Int) := by omega
      clear hkk
      go_wp2_with fail
      go_ret
      exact ⟨rfl, HR.out.2.2.trans HK.out⟩
theorem class_ok {M : Nat → Prop} {w : World} {e : Ending} {w' : World} (h : ClassRet M w 4 (-3) e w') : TwoRet M w (classSet 4 (-3)) e w' := by
  rcases h with ⟨h, _⟩ | ⟨_, h, _⟩ | ⟨_, _, p, h⟩
  · exact absurd h (by decide)
  · exact absurd h (by decide)
  · exact ⟨p, h⟩
/-- The numbers above 3 that leave 1 by 4. -/
def knownSet : PSet := joined (fun x y => x && y) (aboveSet 3) (classSet 4 (-3))
theorem known_facts : knownSet.P = 4 ∧ knownSet.cuts = [4] ∧ has knownSet 5 = true ∧ has knownSet 1 = false ∧ has knownSet 6 = false := by decide +kernel
theorem fit_small {z : Int} (h : z.natAbs < 4294967296) : nlen z.natAbs * 4 + 68 ≤ 140737488355328 := by
  have := nlen_le_of_lt (n := z.natAbs) (k := 1) (by rw [Bs_def]; simpa using h)
  omega
theorem fine_known : Fine knownSet := by
  obtain ⟨h1, h2, _⟩ := known_facts
  refine ⟨joined_ok (fine_above (fit_small (by decide))).ok (fine_class (by decide) (by decide)).ok (by decide), by rw [h2]; decide, fun x hx => ?_⟩
  rw [h2] at hx
  obtain rfl : x = 4 := by simpa using hx
  have := fit_small (z := 4) (by decide)
  omega
theorem known_cuts {w : World} {p : Nat} (hs : SetAt Nil w p knownSet) : Calls Tryz.prog 18 #[.pointer (some ⟨p, 0, none⟩)] w fun e w' => ∃ a c, e = .returned (.slice a 1 c) ∧ ZInts Nil w' a 1 c [4] ∧ Keeps Nil w w' := by
  have h := cuts_any (M := Nil) (MB.nil w) hs fine_known
  unfold ListRet at h
  rw [known_facts.2.1] at h
  exact h
theorem same_self {M : Nat → Prop} {w : World} {p : Nat} {S : PSet} (hs : SetAt M w p S) (hf : Fine S) : Calls Tryz.prog 11 #[.pointer (some ⟨p, 0, none⟩), .pointer (some ⟨p, 0, none⟩)] w fun e w' => e = .returned (.bool true) ∧ Keeps Nil w w' :=
  (same_any hs hs hf hf).mono fun e w' ⟨b, he, hb, hk⟩ => ⟨by rw [he, hb.2 (fun _ => rfl)], hk⟩
set_option maxHeartbeats 4000000 in
set_option maxRecDepth 100000 in
theorem known_any {w : World} : Calls Tryz.prog 5 #[] w fun e w' => e = .returned (.bool true) ∧ Keeps Nil w w' := by
  have HKF := Lib.hid known_facts
  have h3 := fit_small (z := 3) (by decide)
  have h4 := fit_small (z := 4) (by decide)
  have h5 := fit_small (z := -3) (by decide)
  have HFIT := Lib.hid (And.intro h3 (And.intro h4 h5))
  clear h3 h4 h5
  go_enter Tryz.func5, Tryz.ntmps5
  go_upto_region 2 with (first | (go_at_call 20; refine (refof_any (M := Nil) (z := 3) (MB.nil _) (by omega) (by omega)).mono ?_; rintro e w1 ⟨g1, a1, n1, c1, rfl, h1, hk1⟩) | (go_at_call 15; refine (above_any (M := Nil) (MB.nil _) (h1.zat (by have := HFIT.out.1; omega)) (by have := h1.2.len; have := HFIT.out.1; unfold nlen at this; omega)).mono ?_; rintro e w2 ⟨p2, rfl, hs2, hk2⟩))
  have HS2 := Lib.hid (And.intro hs2 (hk1.trans hk2))
  clear h1 hk1 hs2 hk2
  go_upto_region 3 with (first | (go_at_call_of 20 (Value.int .i64 4); refine (refof_any (M := Nil) (z := 4) (MB.nil _) (by omega) (by omega)).mono ?_; rintro e w3 ⟨g3, a3, n3, c3, rfl, h3, hk3⟩) | (go_at_call 20; refine (refof_any (M := Nil) (z := Int.negSucc 2) (MB.nil _) (by decide) (by decide)).mono ?_; rintro e w4 ⟨g4, a4, n4, c4, rfl, h4', hk4⟩; have h4 : ZN Nil w4 g4 a4 n4 c4 (-3) := h4'; clear h4') | (go_at_call 21; refine (Calls.mono (class_any (M := Nil) (MB.nil _) ((h3.keepNil hk4).zat (by have := HFIT.out.2.1; omega)) (h4.zat (by have := HFIT.out.2.2; omega)) (fit_ofN h3 (by have := HFIT.out.2.1; omega)) (fit_ofN h4 (by have := HFIT.out.2.2; omega))) ?_); rintro e w5 hc; obtain ⟨p5, rfl, hs5, hk5⟩ := class_ok hc))
  have HS5 := Lib.hid (And.intro hs5 (And.intro (HS2.out.1.keepNil (hk3.trans (hk4.trans hk5))) (HS2.out.2.trans (hk3.trans (hk4.trans hk5)))))
  clear h3 h4 hk3 hk4 hk5 hs5
  go_upto_region 9 with (first | (go_at_call 13; refine (meet_ok (M := Nil) (MB.nil _) HS5.out.2.1 HS5.out.1 (fine_above HFIT.out.1) (fine_class (by decide) (by decide)) (by decide)).mono ?_; rintro e w6 ⟨p6, rfl, hs6', hk6⟩; have hs6 : SetAt Nil w6 p6 knownSet := hs6'; clear hs6') | (go_at_call 18; refine (known_cuts hs6).mono ?_; rintro e w7 ⟨a7, c7, rfl, hz7, hk7⟩))
  obtain ⟨b, off, g, a, n, c, hae, hb, _, x0, x1, hz⟩ := hz7.at (i := 0) (by omega)
  subst hae
  obtain rfl : g = false := hz.1
  rw [Nat.zero_mul, Nat.add_zero] at x0 x1
  have lb := Live.of hb
  obtain ⟨cap7, le7⟩ := And.intro hz7.cap hz7.le
  have HS6 := Lib.hid (show SetAt Nil w7 p6 knownSet ∧ ZN Nil w7 false a n c 4 from ⟨hs6.keepNil hk7, hz⟩)
  have HK7 := Lib.hid (HS5.out.2.2.trans (hk6.trans hk7))
  have h5 := fit_small (z := 5) (by decide)
  have h1 := fit_small (z := 1) (by decide)
  have h6 := fit_small (z := 6) (by decide)
  have HFIT2 := Lib.hid (show nlen (5 : Int).natAbs * 4 + 4 ≤ 140737488355328 ∧ nlen (1 : Int).natAbs * 4 + 4 ≤ 140737488355328 ∧ nlen (6 : Int).natAbs * 4 + 4 ≤ 140737488355328 from ⟨by omega, by omega, by omega⟩)
  obtain ⟨la, ls, ld, ln, ln', ln1, ln1', lc, lf⟩ := liveRules
  clear hs6 hk6 hz7 hk7 hz hb h5 h1 h6
  go_region_held3 (fun w' => w'.cell? ⟨b, off, none⟩ = some (.bool false) ∧ w'.cell? ⟨b, off + 1, none⟩ = some (.slice a n c)) (go_keep) (first | (go_at_call 19; refine (period_of (HS6.out.1.keepNil (show Keeps Nil w7 _ from (by repeat (first | exact Keeps.refl _ _ | assumption | refine Keeps.drew ?_ | refine Keeps.drewN ?_ _ | refine Keeps.alloc ?_ _ | exact Keeps.of_nil (by assumption) | refine Keeps.trans ?_ (Keeps.of_nil (by assumption)) | refine Keeps.setCell ?_ (.inr (by first | exact Nat.le_refl _ | (dsimp only; omega))) _ | refine Keeps.setCell ?_ (.inl (by first | (unfold Old; dsimp only; omega) | (unfold Old; simp; omega) | (unfold Old; simp))) _))))).mono ?_; rintro e w8 ⟨rfl, rfl⟩; rw [HKF.out.1]) | (go_at_call_of 20 (Value.int .i64 4); refine (refof_any (M := Nil) (z := 4) (MB.nil _) (by omega) (by omega)).mono ?_; rintro e w11 ⟨g11, a11, n11, m11, rfl, h11, hk11⟩; obtain rfl : g11 = false := h11.1; obtain ⟨rc11, rf11, ra11⟩ := (show Keeps Nil w7 w11 from (by repeat (first | exact Keeps.refl _ _ | assumption | refine Keeps.drew ?_ | refine Keeps.drewN ?_ _ | refine Keeps.alloc ?_ _ | exact Keeps.of_nil (by assumption) | refine Keeps.trans ?_ (Keeps.of_nil (by assumption)) | refine Keeps.setCell ?_ (.inr (by first | exact Nat.le_refl _ | (dsimp only; omega))) _ | refine Keeps.setCell ?_ (.inl (by first | (unfold Old; dsimp only; omega) | (unfold Old; simp; omega) | (unfold Old; simp))) _))).live; have q11 := ra11 _ lb; have H11 := Lib.hid h11; clear h11) | (go_at_call_of 20 (Value.int .i64 5); refine (refof_any (M := Nil) (z := 5) (MB.nil _) (by omega) (by omega)).mono ?_; rintro e w12 ⟨g12, a12, n12, m12, rfl, h12, hk12⟩; obtain rfl : g12 = false := h12.1; obtain ⟨rc12, rf12, ra12⟩ := (show Keeps Nil w7 w12 from (by repeat (first | exact Keeps.refl _ _ | assumption | refine Keeps.drew ?_ | refine Keeps.drewN ?_ _ | refine Keeps.alloc ?_ _ | exact Keeps.of_nil (by assumption) | refine Keeps.trans ?_ (Keeps.of_nil (by assumption)) | refine Keeps.setCell ?_ (.inr (by first | exact Nat.le_refl _ | (dsimp only; omega))) _ | refine Keeps.setCell ?_ (.inl (by first | (unfold Old; dsimp only; omega) | (unfold Old; simp; omega) | (unfold Old; simp))) _))).live; have q12 := ra12 _ lb; have H12 := Lib.hid h12; clear h12) | (go_at_call_of 20 (Value.int .i64 1); refine (refof_any (M := Nil) (z := 1) (MB.nil _) (by omega) (by omega)).mono ?_; rintro e w13 ⟨g13, a13, n13, m13, rfl, h13, hk13⟩; obtain rfl : g13 = false := h13.1; obtain ⟨rc13, rf13, ra13⟩ := (show Keeps Nil w7 w13 from (by repeat (first | exact Keeps.refl _ _ | assumption | refine Keeps.drew ?_ | refine Keeps.drewN ?_ _ | refine Keeps.alloc ?_ _ | exact Keeps.of_nil (by assumption) | refine Keeps.trans ?_ (Keeps.of_nil (by assumption)) | refine Keeps.setCell ?_ (.inr (by first | exact Nat.le_refl _ | (dsimp only; omega))) _ | refine Keeps.setCell ?_ (.inl (by first | (unfold Old; dsimp only; omega) | (unfold Old; simp; omega) | (unfold Old; simp))) _))).live; have q13 := ra13 _ lb; have H13 := Lib.hid h13; clear h13) | (go_at_call_of 20 (Value.int .i64 6); refine (refof_any (M := Nil) (z := 6) (MB.nil _) (by omega) (by omega)).mono ?_; rintro e w14 ⟨g14, a14, n14, m14, rfl, h14, hk14⟩; obtain rfl : g14 = false := h14.1; obtain ⟨rc14, rf14, ra14⟩ := (show Keeps Nil w7 w14 from (by repeat (first | exact Keeps.refl _ _ | assumption | refine Keeps.drew ?_ | refine Keeps.drewN ?_ _ | refine Keeps.alloc ?_ _ | exact Keeps.of_nil (by assumption) | refine Keeps.trans ?_ (Keeps.of_nil (by assumption)) | refine Keeps.setCell ?_ (.inr (by first | exact Nat.le_refl _ | (dsimp only; omega))) _ | refine Keeps.setCell ?_ (.inl (by first | (unfold Old; dsimp only; omega) | (unfold Old; simp; omega) | (unfold Old; simp))) _))).live; have q14 := ra14 _ lb; have H14 := Lib.hid h14; clear h14) | (go_at_call 22; refine (ints_same (HS6.out.2.keepNil (show Keeps Nil w7 _ from (by repeat (first | exact Keeps.refl _ _ | assumption | refine Keeps.drew ?_ | refine Keeps.drewN ?_ _ | refine Keeps.alloc ?_ _ | exact Keeps.of_nil (by assumption) | refine Keeps.trans ?_ (Keeps.of_nil (by assumption)) | refine Keeps.setCell ?_ (.inr (by first | exact Nat.le_refl _ | (dsimp only; omega))) _ | refine Keeps.setCell ?_ (.inl (by first | (unfold Old; dsimp only; omega) | (unfold Old; simp; omega) | (unfold Old; simp))) _)))) (H11.out.keepNil (by repeat (first | exact Keeps.refl _ _ | assumption | refine Keeps.drew ?_ | refine Keeps.drewN ?_ _ | refine Keeps.alloc ?_ _ | exact Keeps.of_nil (by assumption) | refine Keeps.trans ?_ (Keeps.of_nil (by assumption)) | refine Keeps.setCell ?_ (.inr (by first | exact Nat.le_refl _ | (dsimp only; omega))) _ | refine Keeps.setCell ?_ (.inl (by first | (unfold Old; dsimp only; omega) | (unfold Old; simp; omega) | (unfold Old; simp))) _)))).mono ?_; rintro e w15 ⟨rfl, hk15⟩; obtain ⟨rc15, rf15, ra15⟩ := (show Keeps Nil w7 w15 from (by repeat (first | exact Keeps.refl _ _ | assumption | refine Keeps.drew ?_ | refine Keeps.drewN ?_ _ | refine Keeps.alloc ?_ _ | exact Keeps.of_nil (by assumption) | refine Keeps.trans ?_ (Keeps.of_nil (by assumption)) | refine Keeps.setCell ?_ (.inr (by first | exact Nat.le_refl _ | (dsimp only; omega))) _ | refine Keeps.setCell ?_ (.inl (by first | (unfold Old; dsimp only; omega) | (unfold Old; simp; omega) | (unfold Old; simp))) _))).live; have q15 := ra15 _ lb) | (go_at_call_of 17 (Value.agg #[.bool false, .slice a12 n12 m12]); refine (has_any ((H12.out.keepNil (by repeat (first | exact Keeps.refl _ _ | assumption | refine Keeps.drew ?_ | refine Keeps.drewN ?_ _ | refine Keeps.alloc ?_ _ | exact Keeps.of_nil (by assumption) | refine Keeps.trans ?_ (Keeps.of_nil (by assumption)) | refine Keeps.setCell ?_ (.inr (by first | exact Nat.le_refl _ | (dsimp only; omega))) _ | refine Keeps.setCell ?_ (.inl (by first | (unfold Old; dsimp only; omega) | (unfold Old; simp; omega) | (unfold Old; simp))) _))).zat HFIT2.out.1) (fit_ofN H12.out HFIT2.out.1) (HS6.out.1.keepNil (show Keeps Nil w7 _ from (by repeat (first | exact Keeps.refl _ _ | assumption | refine Keeps.drew ?_ | refine Keeps.drewN ?_ _ | refine Keeps.alloc ?_ _ | exact Keeps.of_nil (by assumption) | refine Keeps.trans ?_ (Keeps.of_nil (by assumption)) | refine Keeps.setCell ?_ (.inr (by first | exact Nat.le_refl _ | (dsimp only; omega))) _ | refine Keeps.setCell ?_ (.inl (by first | (unfold Old; dsimp only; omega) | (unfold Old; simp; omega) | (unfold Old; simp))) _)))) fine_known).mono ?_; rintro e w16 ⟨rfl, hk16⟩; rw [HKF.out.2.2.1]; obtain ⟨rc16, rf16, ra16⟩ := (show Keeps Nil w7 w16 from (by repeat (first | exact Keeps.refl _ _ | assumption | refine Keeps.drew ?_ | refine Keeps.drewN ?_ _ | refine Keeps.alloc ?_ _ | exact Keeps.of_nil (by assumption) | refine Keeps.trans ?_ (Keeps.of_nil (by assumption)) | refine Keeps.setCell ?_ (.inr (by first | exact Nat.le_refl _ | (dsimp only; omega))) _ | refine Keeps.setCell ?_ (.inl (by first | (unfold Old; dsimp only; omega) | (unfold Old; simp; omega) | (unfold Old; simp))) _))).live; have q16 := ra16 _ lb) | (go_at_call_of 17 (Value.agg #[.bool false, .slice a13 n13 m13]); refine (has_any ((H13.out.keepNil (by repeat (first | exact Keeps.refl _ _ | assumption | refine Keeps.drew ?_ | refine Keeps.drewN ?_ _ | refine Keeps.alloc ?_ _ | exact Keeps.of_nil (by assumption) | refine Keeps.trans ?_ (Keeps.of_nil (by assumption)) | refine Keeps.setCell ?_ (.inr (by first | exact Nat.le_refl _ | (dsimp only; omega))) _ | refine Keeps.setCell ?_ (.inl (by first | (unfold Old; dsimp only; omega) | (unfold Old; simp; omega) | (unfold Old; simp))) _))).zat HFIT2.out.2.1) (fit_ofN H13.out HFIT2.out.2.1) (HS6.out.1.keepNil (show Keeps Nil w7 _ from (by repeat (first | exact Keeps.refl _ _ | assumption | refine Keeps.drew ?_ | refine Keeps.drewN ?_ _ | refine Keeps.alloc ?_ _ | exact Keeps.of_nil (by assumption) | refine Keeps.trans ?_ (Keeps.of_nil (by assumption)) | refine Keeps.setCell ?_ (.inr (by first | exact Nat.le_refl _ | (dsimp only; omega))) _ | refine Keeps.setCell ?_ (.inl (by first | (unfold Old; dsimp only; omega) | (unfold Old; simp; omega) | (unfold Old; simp))) _)))) fine_known).mono ?_; rintro e w17 ⟨rfl, hk17⟩; rw [HKF.out.2.2.2.1]; obtain ⟨rc17, rf17, ra17⟩ := (show Keeps Nil w7 w17 from (by repeat (first | exact Keeps.refl _ _ | assumption | refine Keeps.drew ?_ | refine Keeps.drewN ?_ _ | refine Keeps.alloc ?_ _ | exact Keeps.of_nil (by assumption) | refine Keeps.trans ?_ (Keeps.of_nil (by assumption)) | refine Keeps.setCell ?_ (.inr (by first | exact Nat.le_refl _ | (dsimp only; omega))) _ | refine Keeps.setCell ?_ (.inl (by first | (unfold Old; dsimp only; omega) | (unfold Old; simp; omega) | (unfold Old; simp))) _))).live; have q17 := ra17 _ lb) | (go_at_call_of 17 (Value.agg #[.bool false, .slice a14 n14 m14]); refine (has_any ((H14.out.keepNil (by repeat (first | exact Keeps.refl _ _ | assumption | refine Keeps.drew ?_ | refine Keeps.drewN ?_ _ | refine Keeps.alloc ?_ _ | exact Keeps.of_nil (by assumption) | refine Keeps.trans ?_ (Keeps.of_nil (by assumption)) | refine Keeps.setCell ?_ (.inr (by first | exact Nat.le_refl _ | (dsimp only; omega))) _ | refine Keeps.setCell ?_ (.inl (by first | (unfold Old; dsimp only; omega) | (unfold Old; simp; omega) | (unfold Old; simp))) _))).zat HFIT2.out.2.2) (fit_ofN H14.out HFIT2.out.2.2) (HS6.out.1.keepNil (show Keeps Nil w7 _ from (by repeat (first | exact Keeps.refl _ _ | assumption | refine Keeps.drew ?_ | refine Keeps.drewN ?_ _ | refine Keeps.alloc ?_ _ | exact Keeps.of_nil (by assumption) | refine Keeps.trans ?_ (Keeps.of_nil (by assumption)) | refine Keeps.setCell ?_ (.inr (by first | exact Nat.le_refl _ | (dsimp only; omega))) _ | refine Keeps.setCell ?_ (.inl (by first | (unfold Old; dsimp only; omega) | (unfold Old; simp; omega) | (unfold Old; simp))) _)))) fine_known).mono ?_; rintro e w18 ⟨rfl, hk18⟩; rw [HKF.out.2.2.2.2]; obtain ⟨rc18, rf18, ra18⟩ := (show Keeps Nil w7 w18 from (by repeat (first | exact Keeps.refl _ _ | assumption | refine Keeps.drew ?_ | refine Keeps.drewN ?_ _ | refine Keeps.alloc ?_ _ | exact Keeps.of_nil (by assumption) | refine Keeps.trans ?_ (Keeps.of_nil (by assumption)) | refine Keeps.setCell ?_ (.inr (by first | exact Nat.le_refl _ | (dsimp only; omega))) _ | refine Keeps.setCell ?_ (.inl (by first | (unfold Old; dsimp only; omega) | (unfold Old; simp; omega) | (unfold Old; simp))) _))).live; have q18 := ra18 _ lb) | (go_at_call 11; refine (same_self (HS6.out.1.keepNil (show Keeps Nil w7 _ from (by repeat (first | exact Keeps.refl _ _ | assumption | refine Keeps.drew ?_ | refine Keeps.drewN ?_ _ | refine Keeps.alloc ?_ _ | exact Keeps.of_nil (by assumption) | refine Keeps.trans ?_ (Keeps.of_nil (by assumption)) | refine Keeps.setCell ?_ (.inr (by first | exact Nat.le_refl _ | (dsimp only; omega))) _ | refine Keeps.setCell ?_ (.inl (by first | (unfold Old; dsimp only; omega) | (unfold Old; simp; omega) | (unfold Old; simp))) _)))) fine_known).mono ?_; rintro e w19 ⟨rfl, hk19⟩; obtain ⟨rc19, rf19, ra19⟩ := (show Keeps Nil w7 w19 from (by repeat (first | exact Keeps.refl _ _ | assumption | refine Keeps.drew ?_ | refine Keeps.drewN ?_ _ | refine Keeps.alloc ?_ _ | exact Keeps.of_nil (by assumption) | refine Keeps.trans ?_ (Keeps.of_nil (by assumption)) | refine Keeps.setCell ?_ (.inr (by first | exact Nat.le_refl _ | (dsimp only; omega))) _ | refine Keeps.setCell ?_ (.inl (by first | (unfold Old; dsimp only; omega) | (unfold Old; simp; omega) | (unfold Old; simp))) _))).live; have q19 := ra19 _ lb))
  go_wp2_with fail
  go_ret
  exact ⟨rfl, HK7.out.trans (by repeat (first | exact Keeps.refl _ _ | assumption | refine Keeps.drew ?_ | refine Keeps.drewN ?_ _ | refine Keeps.alloc ?_ _ | exact Keeps.of_nil (by assumption) | refine Keeps.trans ?_ (Keeps.of_nil (by assumption)) | refine Keeps.setCell ?_ (.inr (by first | exact Nat.le_refl _ | (dsimp only; omega))) _ | refine Keeps.setCell ?_ (.inl (by first | (unfold Old; dsimp only; omega) | (unfold Old; simp; omega) | (unfold Old; simp))) _))⟩
end Go.Proofs.YtfkclbhddiidbaaGreat
