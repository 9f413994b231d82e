/- What riddleref18's Has does. Conditions: the set's own reading; the number's; room. -/
import Derived.Test.YtfkclbhddiidbaaGreatKRSet7
import Derived.Test.YtfkclbhddiidbaaGreatKRSetA
import Derived.Test.YtfkclbhddiidbaaGreatKRegions
namespace Go.Proofs.YtfkclbhddiidbaaGreat
open Go.RowKit Go.Rid
set_option maxHeartbeats 4000000 in
theorem refhas_any {M : Nat → Prop} {g : Bool} {a : Option Addr} {n c : Nat} {z : Int} {ac : Option Addr} {nc cc : Nat} {ar : Option Addr} {nr cr : Nat} {S : PSet} {w : World} (h : ZAt Nil w g a n c z) (hn : n * 4 + 40 ≤ 140737488355328) (hs : SV M w ac nc cc ar nr cr S) (hf : Fine S) :
    Calls Tryz.prog 33 #[.agg #[.int .i64 (S.P : Int), .slice ac nc cc, .slice ar nr cr], .agg #[.bool g, .slice a n c]] w fun e w' => e = .returned (.bool (has S z)) ∧ Keeps Nil w w' := by
  have k0 : Keeps Nil w (w.alloc (.cells #[.int .i64 (S.P : Int), .slice ac nc cc, .slice ar nr cr] 30)) := (by repeat (first | exact Keeps.refl _ _ | refine Keeps.drew ?_ | refine Keeps.drewN ?_ _ | refine Keeps.alloc ?_ _))
  have k1 : Keeps Nil (w.alloc (.cells #[.int .i64 (S.P : Int), .slice ac nc cc, .slice ar nr cr] 30)) ((w.alloc (.cells #[.int .i64 (S.P : Int), .slice ac nc cc, .slice ar nr cr] 30)).alloc (.cells #[.bool g, .slice a n c] 38)) := (by repeat (first | exact Keeps.refl _ _ | refine Keeps.drew ?_ | refine Keeps.drewN ?_ _ | refine Keeps.alloc ?_ _))
  have r0 := (RowIs.alloc (w := w) (E := 30) (xs := [.int .i64 (S.P : Int), .slice ac nc cc, .slice ar nr cr])).keep k1 id
  have r1 := RowIs.alloc (w := w.alloc (.cells #[.int .i64 (S.P : Int), .slice ac nc cc, .slice ar nr cr] 30)) (E := 38) (xs := [.bool g, .slice a n c])
  rw [show (w.alloc (.cells #[.int .i64 (S.P : Int), .slice ac nc cc, .slice ar nr cr] 30)).heap.size = w.heap.size + 1 by simp] at r1
  change RowIs ((w.alloc (.cells #[.int .i64 (S.P : Int), .slice ac nc cc, .slice ar nr cr] 30)).alloc (.cells #[.bool g, .slice a n c] 38)) _ _ _ at r1
  have hk0 := k0.trans k1
  have HA := Lib.hid (And.intro (h.keepNil hk0) hn)
  have hs0 := hs.keepNil hk0
  have HS := Lib.hid hs0
  have HF := Lib.hid hf
  have ld := liveRules.2.2.1
  have q4 := hs0.2
  obtain ⟨k, hk⟩ : ∃ k : Nat, k = place S.cuts z := ⟨_, rfl⟩
  have hkr : k < nr := by
    have := place_le S.cuts z
    have := hf.ok.len
    have := q4.len
    omega
  obtain ⟨rb, ro, a3, n3, c3, hae, hb, _, e0, hB⟩ := q4.at hkr
  subst hae
  obtain ⟨r, hr⟩ : ∃ r : Nat, r = (z % (S.P : Int)).toNat := ⟨_, rfl⟩
  have hP := hf.ok.pos
  have hP2 := hf.ok.le
  have hrz : (z % (S.P : Int)) = (r : Int) := by
    have := Int.emod_nonneg z (show (S.P : Int) ≠ 0 by omega); omega
  have hrP : r < S.P := by rw [hr]; exact mod_lt hf.ok z
  have hn3 : n3 = S.P := by
    rw [← hB.1]
    have := rowOf_length hf.ok z
    unfold rowOf at this
    rw [← hk] at this
    exact this
  subst hn3
  obtain ⟨rb2, ro2, hae2, hb2, _, e1⟩ := hB.at hrP
  subst hae2
  have hv : has S z = (S.rows.getD k []).getD r false := by unfold has rowOf; rw [← hk, ← hr]
  have HV := Lib.hid (And.intro hv (And.intro hk hrz))
  have hcap := hB.2.cap
  have hle := hB.2.le
  obtain ⟨cap4, le4⟩ := And.intro q4.cap q4.le
  clear h hs hs0 hf hv hk hr hrz hB q4 hn k0 k1
  go_enter Tryz.func33, Tryz.ntmps33
  go_wp2_with fail
  generalize (w.alloc (.cells #[.int .i64 (S.P : Int), .slice ac nc cc, .slice (some ⟨rb, ro, none⟩) nr cr] 30)).alloc (.cells #[.bool g, .slice a n c] 38) = w0 at *
  obtain ⟨d0, d1, d2⟩ := r0.three
  obtain ⟨c0, c1, _, _⟩ := r1.two
  have b0 := Live.of r0.lt
  have b1 := Live.of r1.lt
  have b2 := Live.of hb
  have b3 := Live.of hb2
  have i1 : (0 : Int) ≤ (k : Int) := by omega
  have i2 : (k : Int) < (nr : Int) := by omega
  have i3 : (0 : Int) ≤ (r : Int) := by omega
  have i4 : (r : Int) < (S.P : Int) := by omega
  have i5 : (0 : Int) < (nr : Int) := by omega
  clear r0 r1 hb hb2
  have i6 : 0 < nr := by omega
  have i7 : decide (0 < nr) = true := decide_eq_true i6
  have i8 : decide ((0 : Int) < (nr : Int)) = true := decide_eq_true i5
  go_region_held3 (fun w' => w'.cell? ⟨w.heap.size + 1, 0, none⟩ = some (.bool g) ∧ w'.cell? ⟨w.heap.size + 1, 1, none⟩ = some (.slice a n c) ∧ w'.cell? ⟨w.heap.size, 0, none⟩ = some (.int .i64 S.P) ∧ w'.cell? ⟨w.heap.size, 1, none⟩ = some (.slice ac nc cc) ∧ w'.cell? ⟨w.heap.size, 2, none⟩ = some (.slice (some ⟨rb, ro, none⟩) nr cr) ∧ w'.cell? ⟨rb, ro + k, none⟩ = some (.slice (some ⟨rb2, ro2, none⟩) S.P c3) ∧ w'.cell? ⟨rb2, ro2 + r, none⟩ = some (.bool ((S.rows.getD k []).getD r false))) (go_keep) (first | (go_at_call 46; refine (refplace_any (i := (S.P : Int)) (HA.out.1.keepNil (by repeat (first | exact Keeps.refl _ _ | assumption | refine Keeps.drew ?_ | refine Keeps.drewN ?_ _ | refine Keeps.alloc ?_ _ | exact Keeps.of_nil (by assumption) | refine Keeps.trans ?_ (Keeps.of_nil (by assumption)) | refine Keeps.setCell ?_ (.inr (by first | exact Nat.le_refl _ | (dsimp only; omega))) _ | refine Keeps.setCell ?_ (.inl (by first | (unfold Old; dsimp only; omega) | (unfold Old; simp; omega) | (unfold Old; simp))) _))) (HS.out.keepNil (by repeat (first | exact Keeps.refl _ _ | assumption | refine Keeps.drew ?_ | refine Keeps.drewN ?_ _ | refine Keeps.alloc ?_ _ | exact Keeps.of_nil (by assumption) | refine Keeps.trans ?_ (Keeps.of_nil (by assumption)) | refine Keeps.setCell ?_ (.inr (by first | exact Nat.le_refl _ | (dsimp only; omega))) _ | refine Keeps.setCell ?_ (.inl (by first | (unfold Old; dsimp only; omega) | (unfold Old; simp; omega) | (unfold Old; simp))) _))) HF.out).mono ?_; rintro e w1 ⟨rfl, hk1⟩; obtain ⟨rc1, rf1, ra1⟩ := hk1.live; rw [← HV.out.2.1]; have l0 := (show Keeps Nil w0 w1 from (by repeat (first | exact Keeps.refl _ _ | assumption | refine Keeps.drew ?_ | refine Keeps.drewN ?_ _ | refine Keeps.alloc ?_ _ | exact Keeps.of_nil (by assumption) | refine Keeps.trans ?_ (Keeps.of_nil (by assumption)) | refine Keeps.setCell ?_ (.inr (by first | exact Nat.le_refl _ | (dsimp only; omega))) _ | refine Keeps.setCell ?_ (.inl (by first | (unfold Old; dsimp only; omega) | (unfold Old; simp; omega) | (unfold Old; simp))) _))).live.2.2 _ b0; have l1 := (show Keeps Nil w0 w1 from (by repeat (first | exact Keeps.refl _ _ | assumption | refine Keeps.drew ?_ | refine Keeps.drewN ?_ _ | refine Keeps.alloc ?_ _ | exact Keeps.of_nil (by assumption) | refine Keeps.trans ?_ (Keeps.of_nil (by assumption)) | refine Keeps.setCell ?_ (.inr (by first | exact Nat.le_refl _ | (dsimp only; omega))) _ | refine Keeps.setCell ?_ (.inl (by first | (unfold Old; dsimp only; omega) | (unfold Old; simp; omega) | (unfold Old; simp))) _))).live.2.2 _ b1; have l2 := (show Keeps Nil w0 w1 from (by repeat (first | exact Keeps.refl _ _ | assumption | refine Keeps.drew ?_ | refine Keeps.drewN ?_ _ | refine Keeps.alloc ?_ _ | exact Keeps.of_nil (by assumption) | refine Keeps.trans ?_ (Keeps.of_nil (by assumption)) | refine Keeps.setCell ?_ (.inr (by first | exact Nat.le_refl _ | (dsimp only; omega))) _ | refine Keeps.setCell ?_ (.inl (by first | (unfold Old; dsimp only; omega) | (unfold Old; simp; omega) | (unfold Old; simp))) _))).live.2.2 _ b2; have l3 := (show Keeps Nil w0 w1 from (by repeat (first | exact Keeps.refl _ _ | assumption | refine Keeps.drew ?_ | refine Keeps.drewN ?_ _ | refine Keeps.alloc ?_ _ | exact Keeps.of_nil (by assumption) | refine Keeps.trans ?_ (Keeps.of_nil (by assumption)) | refine Keeps.setCell ?_ (.inr (by first | exact Nat.le_refl _ | (dsimp only; omega))) _ | refine Keeps.setCell ?_ (.inl (by first | (unfold Old; dsimp only; omega) | (unfold Old; simp; omega) | (unfold Old; simp))) _))).live.2.2 _ b3) | (go_at_call 47; refine (refrest_any (HA.out.1.keepNil (by repeat (first | exact Keeps.refl _ _ | assumption | refine Keeps.drew ?_ | refine Keeps.drewN ?_ _ | refine Keeps.alloc ?_ _ | exact Keeps.of_nil (by assumption) | refine Keeps.trans ?_ (Keeps.of_nil (by assumption)) | refine Keeps.setCell ?_ (.inr (by first | exact Nat.le_refl _ | (dsimp only; omega))) _ | refine Keeps.setCell ?_ (.inl (by first | (unfold Old; dsimp only; omega) | (unfold Old; simp; omega) | (unfold Old; simp))) _))) HA.out.2 (by omega) (by omega)).mono ?_; rintro e w2 ⟨rfl, hk2⟩; obtain ⟨rc2, rf2, ra2⟩ := hk2.live; rw [HV.out.2.2]; have HK := Lib.hid (hk0.trans (show Keeps Nil w0 w2 from (by repeat (first | exact Keeps.refl _ _ | assumption | refine Keeps.drew ?_ | refine Keeps.drewN ?_ _ | refine Keeps.alloc ?_ _ | exact Keeps.of_nil (by assumption) | refine Keeps.trans ?_ (Keeps.of_nil (by assumption)) | refine Keeps.setCell ?_ (.inr (by first | exact Nat.le_refl _ | (dsimp only; omega))) _ | refine Keeps.setCell ?_ (.inl (by first | (unfold Old; dsimp only; omega) | (unfold Old; simp; omega) | (unfold Old; simp))) _))))))
  go_wp2_with fail
  go_ret
  rw [HV.out.1]
  exact ⟨rfl, HK.out⟩
end Go.Proofs.YtfkclbhddiidbaaGreat
