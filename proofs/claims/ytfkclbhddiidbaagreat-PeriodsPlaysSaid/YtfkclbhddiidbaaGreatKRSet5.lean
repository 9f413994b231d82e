/- What riddleref18's Above does: a set by value. Conditions: the number's own reading; room. -/
import Derived.Test.YtfkclbhddiidbaaGreatKRSetA
import Derived.Test.YtfkclbhddiidbaaGreatKRegions
import Derived.Deep.DeepCutAuto
namespace Go.Rid
open Go.RowKit
theorem rowsV (w : World) (E1 E2 E3 E4 : TypeId) (x1 x2 x3 x4 : List Value) : RowIs ((((w.alloc (.cells x1.toArray E1)).alloc (.cells x2.toArray E2)).alloc (.cells x3.toArray E3)).alloc (.cells x4.toArray E4)) w.heap.size E1 x1 ∧ RowIs ((((w.alloc (.cells x1.toArray E1)).alloc (.cells x2.toArray E2)).alloc (.cells x3.toArray E3)).alloc (.cells x4.toArray E4)) (w.heap.size + 1) E2 x2 ∧ RowIs ((((w.alloc (.cells x1.toArray E1)).alloc (.cells x2.toArray E2)).alloc (.cells x3.toArray E3)).alloc (.cells x4.toArray E4)) (w.heap.size + 1 + 1) E3 x3 ∧ RowIs ((((w.alloc (.cells x1.toArray E1)).alloc (.cells x2.toArray E2)).alloc (.cells x3.toArray E3)).alloc (.cells x4.toArray E4)) (w.heap.size + 1 + 1 + 1) E4 x4 ∧ Keeps Nil w ((((w.alloc (.cells x1.toArray E1)).alloc (.cells x2.toArray E2)).alloc (.cells x3.toArray E3)).alloc (.cells x4.toArray E4)) := by
  have r1 := RowIs.alloc (w := w) (E := E1) (xs := x1)
  have r2 := RowIs.alloc (w := w.alloc (.cells x1.toArray E1)) (E := E2) (xs := x2)
  have r3 := RowIs.alloc (w := (w.alloc (.cells x1.toArray E1)).alloc (.cells x2.toArray E2)) (E := E3) (xs := x3)
  have r4 := RowIs.alloc (w := ((w.alloc (.cells x1.toArray E1)).alloc (.cells x2.toArray E2)).alloc (.cells x3.toArray E3)) (E := E4) (xs := x4)
  have k2 : Keeps Nil (w.alloc (.cells x1.toArray E1)) ((w.alloc (.cells x1.toArray E1)).alloc (.cells x2.toArray E2)) := (by repeat (first | exact Keeps.refl _ _ | refine Keeps.drew ?_ | refine Keeps.drewN ?_ _ | refine Keeps.alloc ?_ _))
  have k3 : Keeps Nil ((w.alloc (.cells x1.toArray E1)).alloc (.cells x2.toArray E2)) (((w.alloc (.cells x1.toArray E1)).alloc (.cells x2.toArray E2)).alloc (.cells x3.toArray E3)) := (by repeat (first | exact Keeps.refl _ _ | refine Keeps.drew ?_ | refine Keeps.drewN ?_ _ | refine Keeps.alloc ?_ _))
  have k4 : Keeps Nil (((w.alloc (.cells x1.toArray E1)).alloc (.cells x2.toArray E2)).alloc (.cells x3.toArray E3)) ((((w.alloc (.cells x1.toArray E1)).alloc (.cells x2.toArray E2)).alloc (.cells x3.toArray E3)).alloc (.cells x4.toArray E4)) := (by repeat (first | exact Keeps.refl _ _ | refine Keeps.drew ?_ | refine Keeps.drewN ?_ _ | refine Keeps.alloc ?_ _))
  have s1 : (w.alloc (.cells x1.toArray E1)).heap.size = w.heap.size + 1 := by simp
  have s2 : ((w.alloc (.cells x1.toArray E1)).alloc (.cells x2.toArray E2)).heap.size = w.heap.size + 1 + 1 := by simp
  have s3 : (((w.alloc (.cells x1.toArray E1)).alloc (.cells x2.toArray E2)).alloc (.cells x3.toArray E3)).heap.size = w.heap.size + 1 + 1 + 1 := by simp
  rw [s1] at r2
  rw [s2] at r3
  rw [s3] at r4
  exact ⟨((r1.keep k2 id).keep k3 id).keep k4 id, (r2.keep k3 id).keep k4 id, r3.keep k4 id, r4, (by repeat (first | exact Keeps.refl _ _ | refine Keeps.drew ?_ | refine Keeps.drewN ?_ _ | refine Keeps.alloc ?_ _))⟩
end Go.Rid
namespace Go.Proofs.YtfkclbhddiidbaaGreat
open Go.RowKit Go.Rid
def BoxOfM (M : Nat → Prop) (w : World) (z : Int) (p : Value) (wx : World) : Prop := ∃ b g a n c, p = .pointer (some ⟨b, 0, none⟩) ∧ wx.cell? ⟨b, 0, none⟩ = some (.bool g) ∧ wx.cell? ⟨b, 1, none⟩ = some (.slice a n c) ∧ ZN M wx g a n c z ∧ Keeps Nil w wx
set_option maxHeartbeats 8000000 in
theorem refabove_any {M : Nat → Prop} {g : Bool} {a : Option Addr} {n c : Nat} {z : Int} {w : World} (hM : MB M w) (h : ZAt Nil w g a n c z) (hn : n * 4 + 64 ≤ 140737488355328) :
    Calls Tryz.prog 27 #[.agg #[.bool g, .slice a n c]] w fun e w' => RSetRet M w (aboveSet z) e w' := by
  have k00 : Keeps Nil w (w.alloc (.cells #[.bool g, .slice a n c] 38)) := (by repeat (first | exact Keeps.refl _ _ | refine Keeps.drew ?_ | refine Keeps.drewN ?_ _ | refine Keeps.alloc ?_ _))
  have k01 : Keeps Nil (w.alloc (.cells #[.bool g, .slice a n c] 38)) ((w.alloc (.cells #[.bool g, .slice a n c] 38)).alloc (.cells #[.int .i64 0, .slice none 0 0, .slice none 0 0] 30)) := (by repeat (first | exact Keeps.refl _ _ | refine Keeps.drew ?_ | refine Keeps.drewN ?_ _ | refine Keeps.alloc ?_ _))
  have r0 := (RowIs.alloc (w := w) (E := 38) (xs := [.bool g, .slice a n c])).keep k01 id
  have r1 := RowIs.alloc (w := w.alloc (.cells #[.bool g, .slice a n c] 38)) (E := 30) (xs := [.int .i64 0, .slice none 0 0, .slice none 0 0])
  have hs : (w.alloc (.cells #[.bool g, .slice a n c] 38)).heap.size = w.heap.size + 1 := by simp
  rw [hs] at r1
  change RowIs ((w.alloc (.cells #[.bool g, .slice a n c] 38)).alloc (.cells #[.int .i64 0, .slice none 0 0, .slice none 0 0] 30)) _ _ _ at r1
  have hk0 := k00.trans k01
  have HA := Lib.hid (And.intro (h.keepNil hk0) hn)
  have hnl := h.nlen_le
  have HN := Lib.hid (show nlen (z + 1).natAbs * 4 + 4 ≤ 140737488355328 by have := nlen_natAbs_add z 1; have : nlen (1 : Int).natAbs ≤ 1 := nlen_le_of_lt (by decide); omega)
  have HM := Lib.hid hM
  obtain ⟨la, ls, ld, ln, ln', ln1, ln1', lc, lf⟩ := liveRules
  clear h hn k00 k01 hs hM hnl
  go_enter Tryz.func27, Tryz.ntmps27
  go_upto_region 1 with (fail)
  generalize (w.alloc (.cells #[.bool g, .slice a n c] 38)).alloc (.cells #[.int .i64 0, .slice none 0 0, .slice none 0 0] 30) = w0 at *
  obtain ⟨c0, c1, _, _⟩ := r0.two
  have b0 := Live.of r0.lt
  have H1 := Lib.hid (And.intro r1 hk0)
  clear r0 r1
  have zs0 := hk0.size
  clear hk0
  go_cut [3] (fun v wx => BoxOfM (With M (w.heap.size + 1)) w0 (z + 1) v wx)
  case first =>
    go_wp2_with fail
    go_region_held3 (fun w' => w'.cell? ⟨w.heap.size, 0, none⟩ = some (.bool g) ∧ w'.cell? ⟨w.heap.size, 1, none⟩ = some (.slice a n c)) (go_keep) (first | (go_at_call 20; refine (refof_any (M := Old _) (MB.old _) (by omega) (by omega)).mono ?_; rintro e w1 ⟨g1, a1, n1, m1, rfl, h1, hk1⟩; obtain ⟨rc1, rf1, ra1⟩ := hk1.live; have q1 : Live w1 w.heap.size := (show Keeps Nil w0 w1 from (by repeat (first | exact Keeps.refl _ _ | assumption | refine Keeps.drew ?_ | refine Keeps.drewN ?_ _ | refine Keeps.alloc ?_ _ | exact Keeps.of_nil (by assumption) | refine Keeps.trans ?_ (Keeps.of_nil (by assumption)) | refine Keeps.setCell ?_ (.inr (by first | exact Nat.le_refl _ | (dsimp only; omega))) _ | refine Keeps.setCell ?_ (.inl (by first | (unfold Old; dsimp only; omega) | (unfold Old; simp; omega) | (unfold Old; simp))) _))).live.2.2 _ b0; have qn1 := live_ne q1; have qm1 := live_ne' q1; have zs1 := hk1.size; (try simp at zs1); have HZ1 := Lib.hid h1; clear h1) | (go_at_call 32; refine (refadd_any (M := Old _) (MB.old _) (HA.out.1.keepNil (by repeat (first | exact Keeps.refl _ _ | assumption | refine Keeps.drew ?_ | refine Keeps.drewN ?_ _ | refine Keeps.alloc ?_ _ | exact Keeps.of_nil (by assumption) | refine Keeps.trans ?_ (Keeps.of_nil (by assumption)) | refine Keeps.setCell ?_ (.inr (by first | exact Nat.le_refl _ | (dsimp only; omega))) _ | refine Keeps.setCell ?_ (.inl (by first | (unfold Old; dsimp only; omega) | (unfold Old; simp; omega) | (unfold Old; simp))) _))) (HZ1.out.lateZ (by repeat (first | exact Keeps.refl _ _ | assumption | refine Keeps.drew ?_ | refine Keeps.drewN ?_ _ | refine Keeps.alloc ?_ _ | exact Keeps.of_nil (by assumption) | refine Keeps.trans ?_ (Keeps.of_nil (by assumption)) | refine Keeps.setCell ?_ (.inr (by first | exact Nat.le_refl _ | (dsimp only; omega))) _ | refine Keeps.setCell ?_ (.inl (by first | (unfold Old; dsimp only; omega) | (unfold Old; simp; omega) | (unfold Old; simp))) _)) fit_one) (by have := HA.out.2; omega) (fit_ofN HZ1.out fit_one)).mono ?_; rintro e w2 ⟨g4, a4, n4, m4, rfl, h4, hk2⟩; obtain ⟨rc2, rf2, ra2⟩ := hk2.live; obtain ⟨rc12, rf12, ra12⟩ := (hk1.trans (show Keeps Nil w1 w2 from (by repeat (first | exact Keeps.refl _ _ | assumption | refine Keeps.drew ?_ | refine Keeps.drewN ?_ _ | refine Keeps.alloc ?_ _ | exact Keeps.of_nil (by assumption) | refine Keeps.trans ?_ (Keeps.of_nil (by assumption)) | refine Keeps.setCell ?_ (.inr (by first | exact Nat.le_refl _ | (dsimp only; omega))) _ | refine Keeps.setCell ?_ (.inl (by first | (unfold Old; dsimp only; omega) | (unfold Old; simp; omega) | (unfold Old; simp))) _)))).live; have q2 : Live w2 w.heap.size := (show Keeps Nil w1 w2 from (by repeat (first | exact Keeps.refl _ _ | assumption | refine Keeps.drew ?_ | refine Keeps.drewN ?_ _ | refine Keeps.alloc ?_ _ | exact Keeps.of_nil (by assumption) | refine Keeps.trans ?_ (Keeps.of_nil (by assumption)) | refine Keeps.setCell ?_ (.inr (by first | exact Nat.le_refl _ | (dsimp only; omega))) _ | refine Keeps.setCell ?_ (.inl (by first | (unfold Old; dsimp only; omega) | (unfold Old; simp; omega) | (unfold Old; simp))) _))).live.2.2 _ q1; have qn2 := live_ne q2; have qm2 := live_ne' q2; have zs2 := hk2.size; (try simp at zs2); have H4 := Lib.hid h4; clear h4))
    all_goals (go_wp2_with fail; go_meet)
    all_goals exact ⟨_, g4, a4, n4, m4, rfl, by simp (maxDischargeDepth := 6) [*, go_sem], by simp (maxDischargeDepth := 6) [*, go_sem], H4.out.late (M := With M (w.heap.size + 1)) (by repeat (first | exact Keeps.refl _ _ | assumption | refine Keeps.drew ?_ | refine Keeps.drewN ?_ _ | refine Keeps.alloc ?_ _ | exact Keeps.of_nil (by assumption) | refine Keeps.trans ?_ (Keeps.of_nil (by assumption)) | refine Keeps.setCell ?_ (.inr (by first | exact Nat.le_refl _ | (dsimp only; omega))) _ | refine Keeps.setCell ?_ (.inl (by first | (unfold Old; dsimp only; omega) | (unfold Old; simp; omega) | (unfold Old; simp))) _)) (fun b hb => Nat.lt_of_lt_of_le (((HM.out.keep H1.out.2).with H1.out.1.lt) b hb) (show Keeps Nil w0 _ from (by repeat (first | exact Keeps.refl _ _ | assumption | refine Keeps.drew ?_ | refine Keeps.drewN ?_ _ | refine Keeps.alloc ?_ _ | exact Keeps.of_nil (by assumption) | refine Keeps.trans ?_ (Keeps.of_nil (by assumption)) | refine Keeps.setCell ?_ (.inr (by first | exact Nat.le_refl _ | (dsimp only; omega))) _ | refine Keeps.setCell ?_ (.inl (by first | (unfold Old; dsimp only; omega) | (unfold Old; simp; omega) | (unfold Old; simp))) _))).size), (by repeat (first | exact Keeps.refl _ _ | assumption | refine Keeps.drew ?_ | refine Keeps.drewN ?_ _ | refine Keeps.alloc ?_ _ | exact Keeps.of_nil (by assumption) | refine Keeps.trans ?_ (Keeps.of_nil (by assumption)) | refine Keeps.setCell ?_ (.inr (by first | exact Nat.le_refl _ | (dsimp only; omega))) _ | refine Keeps.setCell ?_ (.inl (by first | (unfold Old; dsimp only; omega) | (unfold Old; simp; omega) | (unfold Old; simp))) _))⟩
  case rest =>
    rename World => wc
    obtain ⟨b, g4, a4, n4, c4, rfl, d0, d1, hz, hkc⟩ := hcut
    have lb : Live wc b := World.block_lt_of_cell? wc ⟨b, 0, none⟩ d0
    have r1 := H1.out.1.keep hkc id
    obtain ⟨e0, e1, e2⟩ := r1.three
    have f0 := r1.frozen 0
    have f1 := r1.frozen 1
    have f2 := r1.frozen 2
    have l1 : Live wc (w.heap.size + 1) := r1.lt
    have HR := Lib.hid (rowsV wc 38 4 4 58 [.bool g4, .slice a4 n4 c4] [.bool false] [.bool true] [.slice (some ⟨wc.heap.size + 1, 0, none⟩) 1 1, .slice (some ⟨wc.heap.size + 1 + 1, 0, none⟩) 1 1])
    have HZ := Lib.hid (And.intro hz (And.intro (H1.out.2.trans hkc) r1))
    have hnm : ∀ k : Nat, wc.heap.size ≤ k → ¬ With M (w.heap.size + 1) k := fun k hk hm => by
      rcases hm with hm | hm
      · have := HM.out _ hm; have := (H1.out.2.trans hkc).size; omega
      · have : k = w.heap.size + 1 := hm; have := l1.lt; omega
    have HNM := Lib.hid hnm
    clear hz hkc r1 hnm c0 c1 b0 HA
    go_wp2_with fail
    obtain ⟨q1, q2, q3, q4, qk⟩ := HR.out
    generalize (((wc.alloc (.cells #[.bool g4, .slice a4 n4 c4] 38)).alloc (.cells #[.bool false] 4)).alloc (.cells #[.bool true] 4)).alloc (.cells #[.slice (some ⟨wc.heap.size + 1, 0, none⟩) 1 1, .slice (some ⟨wc.heap.size + 1 + 1, 0, none⟩) 1 1] 58) = W at *
    have z1 := ZInts.one q1 (HZ.out.1.keepNil qk) (HNM.out _ (Nat.le_refl _))
    have z2 := brows2 q4 (HNM.out _ (by omega)) (Bools.ofRow (l := [false]) q2 (HNM.out _ (by omega)) (by decide)) (Bools.ofRow (l := [true]) q3 (HNM.out _ (by omega)) (by decide))
    have r3 := (HZ.out.2.2.keep qk id).triple (u' := .int .i64 1) (v' := .slice (some ⟨wc.heap.size, 0, none⟩) 1 1) (x' := .slice (some ⟨wc.heap.size + 1 + 1 + 1, 0, none⟩) 2 2)
    obtain ⟨k0, k1, k2⟩ := r3.three
    exact bodyPost_ret (v := .agg #[.int .i64 1, .slice (some ⟨wc.heap.size, 0, none⟩) 1 1, .slice (some ⟨wc.heap.size + 1 + 1 + 1, 0, none⟩) 2 2]) (by simp [results, Tryz.results27, go_sem, k0, k1, k2]) rfl ⟨_, _, _, _, _, _, rfl, SV.move (M := With M (w.heap.size + 1)) ⟨z1, z2⟩ (M' := One (w.heap.size + 1)) (Keeps.triple _ _ _) (fun _ _ h => .inr h) (fun _ _ h => .inl h), (HZ.out.2.1.trans qk).own (by omega) (Keeps.triple _ _ _)⟩
end Go.Proofs.YtfkclbhddiidbaaGreat
