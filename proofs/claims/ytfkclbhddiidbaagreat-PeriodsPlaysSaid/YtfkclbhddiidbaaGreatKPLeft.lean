/- What periods.left and periods.period do: what a number leaves by a period; a number as a period. Conditions: the numbers' own reading; room. -/
import Derived.Test.YtfkclbhddiidbaaGreatKZDiv
import Derived.Test.YtfkclbhddiidbaaGreatKZInt64
import Derived.Test.YtfkclbhddiidbaaGreatKRegions
namespace Go.Rid
open Go.RowKit
theorem nlen_int_small {m : Int} (h0 : 0 ≤ m) (h : m < 4294967296) : nlen m.natAbs ≤ 1 := nlen_le_of_lt (by rw [Bs_def]; omega)
end Go.Rid
namespace Go.Proofs.YtfkclbhddiidbaaGreat
open Go.RowKit Go.Rid

/-- A number in a box. -/
def NumAt (w : World) (b : Nat) (z : Int) : Prop := ∃ g a n c, w.cell? ⟨b, 0, none⟩ = some (.bool g) ∧ w.cell? ⟨b, 1, none⟩ = some (.slice a n c) ∧ ZN Nil w g a n c z
def BoxOf (w : World) (z : Int) (p : Value) (wx : World) : Prop := ∃ b, p = .pointer (some ⟨b, 0, none⟩) ∧ NumAt wx b z ∧ Keeps Nil w wx

set_option maxHeartbeats 8000000 in
theorem left_any {g : Bool} {a : Option Addr} {n c : Nat} {z p : Int} {w : World} (h : ZAt Nil w g a n c z) (hn : n * 4 + 4 ≤ 140737488355328) (hp : 0 < p) (hp2 : p < 4294967296) :
    Calls Tryz.prog 41 #[.agg #[.bool g, .slice a n c], .int .i64 p] w fun e w' => e = .returned (.int .i64 (z % p)) ∧ Keeps Nil w w' := by
  have HA := Lib.hid (h.keepNil ((Keeps.refl Nil w).alloc (.cells #[.bool g, .slice a n c] 38)))
  have HN := Lib.hid hn
  have r0 := RowIs.alloc (w := w) (E := 38) (xs := [.bool g, .slice a n c])
  change RowIs (w.alloc (.cells #[.bool g, .slice a n c] 38)) _ _ _ at r0
  have hk0 : Keeps Nil w (w.alloc (.cells #[.bool g, .slice a n c] 38)) := (by repeat (first | exact Keeps.refl _ _ | refine Keeps.drew ?_ | refine Keeps.drewN ?_ _ | refine Keeps.alloc ?_ _))
  obtain ⟨la, ls, ld, ln, ln', ln1, ln1', lc, lf⟩ := liveRules
  clear h hn
  go_enter Tryz.func41, Tryz.ntmps41
  go_wp2_with fail
  generalize w.alloc (.cells #[.bool g, .slice a n c] 38) = w0 at *
  obtain ⟨c0, c1, _, _⟩ := r0.two
  have b0 := Live.of r0.lt
  clear r0
  have zs0 := hk0.size
  go_cut [6] (fun v wx => BoxOf w (z.fmod p) v wx)
  case first =>
    go_region_held3 (fun w' => w'.cell? ⟨w.heap.size, 0, none⟩ = some (.bool g) ∧ w'.cell? ⟨w.heap.size, 1, none⟩ = some (.slice a n c)) (go_keep) (first | (go_at_call 37; refine (zof_any (M := Old _) (MB.old _) (by omega) (by omega)).mono ?_; rintro e w1 ⟨g1, a1, n1, m1, rfl, h1, hk1⟩; obtain ⟨rc1, rf1, ra1⟩ := hk1.live; have q1 : Live w1 w.heap.size := (show Keeps Nil w0 w1 from (by repeat (first | exact Keeps.refl _ _ | assumption | refine Keeps.drew ?_ | refine Keeps.drewN ?_ _ | refine Keeps.alloc ?_ _ | exact Keeps.of_nil (by assumption) | refine Keeps.trans ?_ (Keeps.of_nil (by assumption)) | refine Keeps.setCell ?_ (.inr (by first | exact Nat.le_refl _ | (dsimp only; omega))) _ | refine Keeps.setCell ?_ (.inl (by first | (unfold Old; dsimp only; omega) | (unfold Old; simp; omega) | (unfold Old; simp))) _))).live.2.2 _ b0; have qn1 := live_ne q1; have qm1 := live_ne' q1; have zs1 := hk1.size; (try simp at zs1); have H1 := Lib.hid h1; clear h1) | (go_at_call 78; refine (zdivmod_any (M := Old _) (natDiv1 (by omega) (by omega)) (MB.old _) (HA.out.keepNil (by repeat (first | exact Keeps.refl _ _ | assumption | refine Keeps.drew ?_ | refine Keeps.drewN ?_ _ | refine Keeps.alloc ?_ _ | exact Keeps.of_nil (by assumption) | refine Keeps.trans ?_ (Keeps.of_nil (by assumption)) | refine Keeps.setCell ?_ (.inr (by first | exact Nat.le_refl _ | (dsimp only; omega))) _ | refine Keeps.setCell ?_ (.inl (by first | (unfold Old; dsimp only; omega) | (unfold Old; simp; omega) | (unfold Old; simp))) _))) (H1.out.lateZ (by repeat (first | exact Keeps.refl _ _ | assumption | refine Keeps.drew ?_ | refine Keeps.drewN ?_ _ | refine Keeps.alloc ?_ _ | exact Keeps.of_nil (by assumption) | refine Keeps.trans ?_ (Keeps.of_nil (by assumption)) | refine Keeps.setCell ?_ (.inr (by first | exact Nat.le_refl _ | (dsimp only; omega))) _ | refine Keeps.setCell ?_ (.inl (by first | (unfold Old; dsimp only; omega) | (unfold Old; simp; omega) | (unfold Old; simp))) _)) (by have := nlen_int_small (m := p) (by omega) hp2; omega)) (by omega) HN.out (fit_ofN H1.out (by have := nlen_int_small (m := p) (by omega) hp2; omega))).mono ?_; rintro e w2 ⟨g3, a3, n3, m3, g4, a4, n4, m4, rfl, h3, h4, hk2⟩; obtain ⟨rc2, rf2, ra2⟩ := hk2.live; obtain ⟨rc12, rf12, ra12⟩ := (hk1.trans (show Keeps Nil w1 w2 from (by repeat (first | exact Keeps.refl _ _ | assumption | refine Keeps.drew ?_ | refine Keeps.drewN ?_ _ | refine Keeps.alloc ?_ _ | exact Keeps.of_nil (by assumption) | refine Keeps.trans ?_ (Keeps.of_nil (by assumption)) | refine Keeps.setCell ?_ (.inr (by first | exact Nat.le_refl _ | (dsimp only; omega))) _ | refine Keeps.setCell ?_ (.inl (by first | (unfold Old; dsimp only; omega) | (unfold Old; simp; omega) | (unfold Old; simp))) _)))).live; have q2 : Live w2 w.heap.size := (show Keeps Nil w1 w2 from (by repeat (first | exact Keeps.refl _ _ | assumption | refine Keeps.drew ?_ | refine Keeps.drewN ?_ _ | refine Keeps.alloc ?_ _ | exact Keeps.of_nil (by assumption) | refine Keeps.trans ?_ (Keeps.of_nil (by assumption)) | refine Keeps.setCell ?_ (.inr (by first | exact Nat.le_refl _ | (dsimp only; omega))) _ | refine Keeps.setCell ?_ (.inl (by first | (unfold Old; dsimp only; omega) | (unfold Old; simp; omega) | (unfold Old; simp))) _))).live.2.2 _ q1; have qn2 := live_ne q2; have qm2 := live_ne' q2; have zs2 := hk2.size; (try simp at zs2); have H4 := Lib.hid h4; clear h3 h4))
    all_goals (go_wp2_with fail; go_meet)
    all_goals exact ⟨_, rfl, ⟨g4, a4, n4, m4, by simp (maxDischargeDepth := 6) [*, go_sem], by simp (maxDischargeDepth := 6) [*, go_sem], H4.out.late (M := Nil) (by repeat (first | exact Keeps.refl _ _ | assumption | refine Keeps.drew ?_ | refine Keeps.drewN ?_ _ | refine Keeps.alloc ?_ _ | exact Keeps.of_nil (by assumption) | refine Keeps.trans ?_ (Keeps.of_nil (by assumption)) | refine Keeps.setCell ?_ (.inr (by first | exact Nat.le_refl _ | (dsimp only; omega))) _ | refine Keeps.setCell ?_ (.inl (by first | (unfold Old; dsimp only; omega) | (unfold Old; simp; omega) | (unfold Old; simp))) _)) (fun _ h => h.elim)⟩, (by repeat (first | exact Keeps.refl _ _ | assumption | refine Keeps.drew ?_ | refine Keeps.drewN ?_ _ | refine Keeps.alloc ?_ _ | exact Keeps.of_nil (by assumption) | refine Keeps.trans ?_ (Keeps.of_nil (by assumption)) | refine Keeps.setCell ?_ (.inr (by first | exact Nat.le_refl _ | (dsimp only; omega))) _ | refine Keeps.setCell ?_ (.inl (by first | (unfold Old; dsimp only; omega) | (unfold Old; simp; omega) | (unfold Old; simp))) _))⟩
  case rest =>
    obtain ⟨b, rfl, ⟨g4, a4, n4, m4, d0, d1, hz⟩, hk⟩ := hcut
    rw [Int.fmod_eq_emod_of_nonneg _ (by omega)] at hz
    have hm0 := Int.emod_nonneg z (show p ≠ 0 by omega)
    have hm1 := Int.emod_lt_of_pos z hp
    have HF := Lib.hid (int64_eq (fits64_of (z := z % p) (by omega)))
    have HZ := Lib.hid (And.intro (hz.zat (by have := nlen_int_small hm0 (by omega); omega)) hk)
    clear hz hk hk0 HA c0 c1 b0
    go_wp2_with (go_at_call 39; refine (zint64_any HZ.out.1).mono ?_; rintro e w5 ⟨rfl, hk5⟩; rw [HF.out])
    go_ret
    exact ⟨rfl, HZ.out.2.trans hk5⟩
end Go.Proofs.YtfkclbhddiidbaaGreat
