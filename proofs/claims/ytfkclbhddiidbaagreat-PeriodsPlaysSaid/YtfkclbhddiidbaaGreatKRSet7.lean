/- What riddleref18's place does: in which row a number is. Conditions: the set's own reading; room. -/
import Derived.Test.YtfkclbhddiidbaaGreatKRSetA
import Derived.Test.YtfkclbhddiidbaaGreatKRefs
namespace Go.Rid
theorem place_take_yes {cuts : List Int} (hs : cuts.Pairwise (· < ·)) {x : Int} {k : Nat} (hk : k < cuts.length) (h : zth cuts k ≤ x) : place (cuts.take (k + 1)) x = k + 1 := by
  have h1 : place (cuts.take (k + 1)) x = (cuts.take (k + 1)).length := place_all fun c hc => by
    obtain ⟨i, hi, rfl⟩ := List.getElem_of_mem hc
    rw [List.length_take] at hi
    rw [List.getElem_take]
    rcases Nat.lt_or_ge i k with h2 | h2
    · have := zth_mono hs h2 hk
      rw [zth_lt (by omega)] at this
      omega
    · have : i = k := by omega
      subst this
      rw [zth_lt hk] at h
      exact h
  rw [h1, List.length_take]; omega
theorem place_take_no {cuts : List Int} {x : Int} {k : Nat} (hk : k < cuts.length) (h : ¬ zth cuts k ≤ x) : place (cuts.take (k + 1)) x = place (cuts.take k) x := by
  rw [List.take_succ_eq_append_getElem hk, place_append]
  rw [zth_lt hk] at h
  rw [place_zero (cuts := [cuts[k]]) (by simp; omega)]
  rfl
end Go.Rid
namespace Go.Proofs.YtfkclbhddiidbaaGreat
open Go.RowKit Go.Rid
set_option maxHeartbeats 2000000 in
theorem refplace_any {M : Nat → Prop} {g : Bool} {a : Option Addr} {n c : Nat} {z : Int} {ac : Option Addr} {nc cc : Nat} {ar : Option Addr} {nr cr : Nat} {S : PSet} {i : Int} {w : World} (h : ZAt Nil w g a n c z) (hs : SV M w ac nc cc ar nr cr S) (hf : Fine S) :
    Calls Tryz.prog 46 #[.agg #[.int .i64 i, .slice ac nc cc, .slice ar nr cr], .agg #[.bool g, .slice a n c]] w fun e w' => e = .returned (.int .i64 (place S.cuts z : Int)) ∧ Keeps Nil w w' := by
  have k0 : Keeps Nil w (w.alloc (.cells #[.int .i64 i, .slice ac nc cc, .slice ar nr cr] 30)) := (by repeat (first | exact Keeps.refl _ _ | refine Keeps.drew ?_ | refine Keeps.drewN ?_ _ | refine Keeps.alloc ?_ _))
  have k1 : Keeps Nil (w.alloc (.cells #[.int .i64 i, .slice ac nc cc, .slice ar nr cr] 30)) ((w.alloc (.cells #[.int .i64 i, .slice ac nc cc, .slice ar nr cr] 30)).alloc (.cells #[.bool g, .slice a n c] 38)) := (by repeat (first | exact Keeps.refl _ _ | refine Keeps.drew ?_ | refine Keeps.drewN ?_ _ | refine Keeps.alloc ?_ _))
  have r0 := (RowIs.alloc (w := w) (E := 30) (xs := [.int .i64 i, .slice ac nc cc, .slice ar nr cr])).keep k1 id
  have r1 := RowIs.alloc (w := w.alloc (.cells #[.int .i64 i, .slice ac nc cc, .slice ar nr cr] 30)) (E := 38) (xs := [.bool g, .slice a n c])
  rw [show (w.alloc (.cells #[.int .i64 i, .slice ac nc cc, .slice ar nr cr] 30)).heap.size = w.heap.size + 1 by simp] at r1
  change RowIs ((w.alloc (.cells #[.int .i64 i, .slice ac nc cc, .slice ar nr cr] 30)).alloc (.cells #[.bool g, .slice a n c] 38)) _ _ _ at r1
  have HA := Lib.hid (And.intro (h.keepNil (k0.trans k1)) (And.intro (hs.1.toNil.keepNil (k0.trans k1)) (k0.trans k1)))
  have hcap := hs.1.cap
  have hle := hs.1.le
  have HL := Lib.hid hs.1.len
  have HF := Lib.hid hf
  clear h hs hf k0 k1
  go_enter Tryz.func46, Tryz.ntmps46
  go_upto_region 1 with (fail)
  generalize (w.alloc (.cells #[.int .i64 i, .slice ac nc cc, .slice ar nr cr] 30)).alloc (.cells #[.bool g, .slice a n c] 38) = w0 at *
  have HR := Lib.hid (And.intro r0 r1)
  clear r0 r1
  go_wp2_with fail
  go_loopw [5, 6] (fun v j wr => ∃ k : Nat, k ≤ nc ∧ j = .int .i64 k ∧ v = .int .i64 (place (S.cuts.take k) z : Int) ∧ Keeps Nil w0 wr) (fun _ j _ => nc - (intOf j).toNat)
  case atStart => exact ⟨0, Nat.zero_le _, rfl, rfl, Keeps.refl _ _⟩
  case round =>
    obtain ⟨k, hk, rfl, rfl, hkk⟩ := hrel
    obtain ⟨d0, d1, d2⟩ := (HR.out.1.keep hkk id).three
    obtain ⟨e0, e1, _, _⟩ := (HR.out.2.keep hkk id).two
    have b0 := (HR.out.1.keep hkk id).lt
    have b1 := (HR.out.2.keep hkk id).lt
    have HK := Lib.hid hkk
    by_cases hlt : k < nc
    · obtain ⟨b, off, g3, a3, n3, c3, rfl, hb, _, x0, x1, hx⟩ := (HA.out.2.1.keepNil hkk).at hlt
      have i1 : (k : Int) < (nc : Int) := by omega
      have i2 : (0 : Int) ≤ (k : Int) := by omega
      have hkl : k < S.cuts.length := by rw [HL.out]; exact hlt
      have HX := Lib.hid (hx.zat (HF.out.fit4 _ (by rw [zth_lt hkl]; exact List.getElem_mem _)))
      obtain ⟨cm, hcm⟩ : ∃ cm : Int, cm = cmpZ (zth S.cuts k) z := ⟨_, rfl⟩
      have hcc := cmpZ_cases (zth S.cuts k) z
      rw [← hcm] at hcc
      have HCE := Lib.hid hcm
      have HSO := Lib.hid HF.out.ok.sorted
      clear hcm hx
      by_cases hc : zth S.cuts k ≤ z
      · have j1 : cm ≤ 0 := by omega
        have HPL := Lib.hid (place_take_yes HSO.out hkl hc)
        clear hcc hc
        go_wp2_with fail
        go_region_held3 (fun w' => w'.cell? ⟨w.heap.size, 1, none⟩ = some (.slice (some ⟨b, off, none⟩) nc cc) ∧ w'.cell? ⟨b, off + k * 2, none⟩ = some (.bool g3) ∧ w'.cell? ⟨b, off + k * 2 + 1, none⟩ = some (.slice a3 n3 c3) ∧ w'.cell? ⟨w.heap.size + 1, 0, none⟩ = some (.bool g) ∧ w'.cell? ⟨w.heap.size + 1, 1, none⟩ = some (.slice a n c)) (go_keep) (first | (go_at_call 79; refine (refcmp_any (HX.out.keepNil (by repeat (first | exact Keeps.refl _ _ | refine Keeps.drew ?_ | refine Keeps.drewN ?_ _ | refine Keeps.alloc ?_ _))) ((HA.out.1.keepNil HK.out).keepNil (by repeat (first | exact Keeps.refl _ _ | refine Keeps.drew ?_ | refine Keeps.drewN ?_ _ | refine Keeps.alloc ?_ _)))).mono ?_; rintro e w1 ⟨rfl, hk1⟩; rw [← HCE.out]; have y0 := hk1.cellE b0 id d1; have y1 := hk1.cellE hb id x0; have y2 := hk1.cellE hb id x1; have y3 := hk1.cellE b1 id e0; have y4 := hk1.cellE b1 id e1; have H1 := Lib.hid (HK.out.trans ((show Keeps Nil wr _ from (by repeat (first | exact Keeps.refl _ _ | refine Keeps.drew ?_ | refine Keeps.drewN ?_ _ | refine Keeps.alloc ?_ _))).trans hk1)); clear hk1))
        all_goals
          go_wp2_with fail
          go_roundw
          case rel => exact ⟨k + 1, by omega, by go_num, by rw [HPL.out]; go_num, H1.out.trans (by repeat (first | exact Keeps.refl _ _ | refine Keeps.drew ?_ | refine Keeps.drewN ?_ _ | refine Keeps.alloc ?_ _))⟩
          case measure => simp [intOf]; omega
      · have j1 : ¬ cm ≤ 0 := by omega
        have HPL := Lib.hid (place_take_no hkl hc)
        clear hcc hc
        go_wp2_with fail
        go_region_held3 (fun w' => w'.cell? ⟨w.heap.size, 1, none⟩ = some (.slice (some ⟨b, off, none⟩) nc cc) ∧ w'.cell? ⟨b, off + k * 2, none⟩ = some (.bool g3) ∧ w'.cell? ⟨b, off + k * 2 + 1, none⟩ = some (.slice a3 n3 c3) ∧ w'.cell? ⟨w.heap.size + 1, 0, none⟩ = some (.bool g) ∧ w'.cell? ⟨w.heap.size + 1, 1, none⟩ = some (.slice a n c)) (go_keep) (first | (go_at_call 79; refine (refcmp_any (HX.out.keepNil (by repeat (first | exact Keeps.refl _ _ | refine Keeps.drew ?_ | refine Keeps.drewN ?_ _ | refine Keeps.alloc ?_ _))) ((HA.out.1.keepNil HK.out).keepNil (by repeat (first | exact Keeps.refl _ _ | refine Keeps.drew ?_ | refine Keeps.drewN ?_ _ | refine Keeps.alloc ?_ _)))).mono ?_; rintro e w1 ⟨rfl, hk1⟩; rw [← HCE.out]; have y0 := hk1.cellE b0 id d1; have y1 := hk1.cellE hb id x0; have y2 := hk1.cellE hb id x1; have y3 := hk1.cellE b1 id e0; have y4 := hk1.cellE b1 id e1; have H1 := Lib.hid (HK.out.trans ((show Keeps Nil wr _ from (by repeat (first | exact Keeps.refl _ _ | refine Keeps.drew ?_ | refine Keeps.drewN ?_ _ | refine Keeps.alloc ?_ _))).trans hk1)); clear hk1))
        all_goals
          go_wp2_with fail
          go_roundw
          case rel => exact ⟨k + 1, by omega, by go_num, by rw [HPL.out], H1.out.trans (by repeat (first | exact Keeps.refl _ _ | refine Keeps.drew ?_ | refine Keeps.drewN ?_ _ | refine Keeps.alloc ?_ _))⟩
          case measure => simp [intOf]; omega
    · obtain rfl : k = nc := by omega
      have i1 : ¬ (k : Int) < (k : Int) := by omega
      have HT := Lib.hid (show S.cuts.take k = S.cuts from List.take_of_length_le (by rw [HL.out]; exact Nat.le_refl _))
      clear hkk
      go_wp2_with fail
      go_ret
      rw [HT.out]
      exact ⟨rfl, HA.out.2.2.trans HK.out⟩
end Go.Proofs.YtfkclbhddiidbaaGreat
