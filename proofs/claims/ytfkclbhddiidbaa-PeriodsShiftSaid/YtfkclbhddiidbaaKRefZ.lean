/- What the references' Neg, Add, Sub on numbers do. Conditions: the numbers' own reading; room. -/
import Derived.Test.YtfkclbhddiidbaaKRefNat
import Derived.Test.YtfkclbhddiidbaaKZints
namespace Go.Proofs.Ytfkclbhddiidbaa
open Go.RowKit Go.Rid
set_option maxHeartbeats 1000000 in
theorem refneg_any {M : Nat → Prop} {g : Bool} {a : Option Addr} {n c : Nat} {z : Int} {w : World} (hM : MB M w) (h : ZAt Nil w g a n c z) :
    Calls Try.prog 51 #[.agg #[.bool g, .slice a n c]] w fun e w' => ZRet M w (-z) e w' := by
  have HH := Lib.hid h
  have HM := Lib.hid hM
  clear h hM
  go_enter Try.func51, Try.ntmps51
  go_wp2_with (go_at_call 38; refine (refnorm_any (M := With M (w.heap.size + 1)) (HM.out.withNew2 _ _) (HH.out.ofN.keepNil (by repeat (first | exact Keeps.refl _ _ | refine Keeps.drew ?_ | refine Keeps.drewN ?_ _ | refine Keeps.alloc ?_ _)))).mono ?_; rintro e w' ⟨g', a', n', c', rfl, h', hk'⟩; have r := (RowIs.alloc (w := w.alloc (.cells #[.bool g, .slice a n c] 36)) (E := 36) (xs := [.bool false, .slice none 0 0])).keep hk' id; rw [show (w.alloc (.cells #[.bool g, .slice a n c] 36)).heap.size = w.heap.size + 1 by simp] at r; obtain ⟨c0, c1, f0, f1⟩ := r.two; have HT := Lib.hid (And.intro h' hk'); clear h' hk' r)
  exact bodyPost_ret (v := .agg #[.bool g', .slice a' n' c']) (by simp [results, Try.results51, go_sem, c0, c1]) rfl ⟨_, _, _, _, rfl, HT.out.1.less (Keeps.pair _ _), ((((Keeps.refl Nil w).alloc _).alloc _).trans HT.out.2).own (by omega) (Keeps.pair _ _)⟩
set_option maxHeartbeats 1000000 in
theorem refadd_any {M : Nat → Prop} {g g2 : Bool} {a a2 : Option Addr} {n c n2 c2 : Nat} {z z2 : Int} {w : World} (hM : MB M w) (h : ZAt Nil w g a n c z) (h2 : ZAt Nil w g2 a2 n2 c2 z2) (hn : n * 4 + 4 ≤ 140737488355328) (hn2 : n2 * 4 + 4 ≤ 140737488355328) :
    Calls Try.prog 17 #[.agg #[.bool g, .slice a n c], .agg #[.bool g2, .slice a2 n2 c2]] w fun e w' => ZRet M w (z + z2) e w' := by
  obtain ⟨l, hl, _, hlz⟩ := h
  obtain ⟨l2, hl2, _, hlz2⟩ := h2
  have hfit : nlen (nval l + nval l2) * 4 ≤ 140737488355328 := by
    have e1 := nlen_add (nval l) (nval l2)
    have e2 := nlen_le hl.lt
    have e3 := nlen_le hl2.lt
    rw [hl.len] at e2
    rw [hl2.len] at e3
    omega
  have hfit1 : nlen (nval l - nval l2) * 4 ≤ 140737488355328 := by
    have e1 := nlen_mono (Nat.sub_le (nval l) (nval l2))
    have e2 := nlen_le hl.lt
    rw [hl.len] at e2
    omega
  have hfit2 : nlen (nval l2 - nval l) * 4 ≤ 140737488355328 := by
    have e1 := nlen_mono (Nat.sub_le (nval l2) (nval l))
    have e2 := nlen_le hl2.lt
    rw [hl2.len] at e2
    omega
  have HF := Lib.hid (And.intro hfit (And.intro hfit1 hfit2))
  have HA := Lib.hid hl
  have HB := Lib.hid hl2
  have HM := Lib.hid hM
  subst hlz hlz2
  clear hl hl2 hM hfit hfit1 hfit2
  have hrs := rows3 w 36 (.bool g) (.slice a n c) (.bool g2) (.slice a2 n2 c2) (.bool false) (.slice none 0 0)
  have HRS := Lib.hid hrs
  clear hrs
  by_cases hg : g = g2
  · subst hg
    go_enter Try.func17, Try.ntmps17
    go_wp2_with fail
    obtain ⟨r0, r1, r2, hk0⟩ := HRS.out
    clear HRS
    generalize (((w.alloc (.cells #[.bool g, .slice a n c] 36)).alloc (.cells #[.bool g, .slice a2 n2 c2] 36)).alloc (.cells #[.bool false, .slice none 0 0] 36)) = w0 at *
    obtain ⟨c00, c01, _, _⟩ := r0.two
    obtain ⟨c10, c11, _, _⟩ := r1.two
    obtain ⟨c20, c21, f20, f21⟩ := r2.two
    have b0 := r0.lt
    have b1 := r1.lt
    have b2 := r2.lt
    have H0 := Lib.hid (And.intro hk0 r2)
    clear hk0 r0 r1 r2
    have ne1 : ¬ w.heap.size = w.heap.size + 1 + 1 := by omega
    have ne2 : ¬ w.heap.size + 1 + 1 = w.heap.size := by omega
    go_region_held3 (fun w' => w'.cell? ⟨w.heap.size, 0, none⟩ = some (.bool g) ∧ w'.cell? ⟨w.heap.size, 1, none⟩ = some (.slice a n c) ∧ w'.cell? ⟨w.heap.size + 1, 1, none⟩ = some (.slice a2 n2 c2)) (go_keep) (first | (go_at_call 39; refine (refnadd_any (M := Nil) (MB.nil _) ((HA.out.keepNil H0.out.1).keepNil (by repeat (first | exact Keeps.refl _ _ | refine Keeps.drew ?_ | refine Keeps.drewN ?_ _ | refine Keeps.alloc ?_ _))) ((HB.out.keepNil H0.out.1).keepNil (by repeat (first | exact Keeps.refl _ _ | refine Keeps.drew ?_ | refine Keeps.drewN ?_ _ | refine Keeps.alloc ?_ _))) hn hn2).mono ?_; rintro e w1 ⟨a1, c1, rfl, h1, hk1⟩; have d00 := hk1.cellE b0 id c00; have d01 := hk1.cellE b0 id c01; have d11 := hk1.cellE b1 id c11; have H1 := Lib.hid h1; clear h1) | (go_at_call 38; refine (refnorm_any (M := With M (w.heap.size + 1 + 1)) ((((HM.out.keep H0.out.1).with b2).keep (M' := Nil) (by repeat (first | exact Keeps.refl _ _ | refine Keeps.drew ?_ | refine Keeps.drewN ?_ _ | refine Keeps.alloc ?_ _))).keep hk1) (zat_of g H1.out HF.out.1)).mono ?_; rintro e w2 ⟨g', a', n', c', rfl, h', hk2⟩; have e00 := hk2.cellE (Nat.lt_of_lt_of_le b0 hk1.size) id d00; have e01 := hk2.cellE (Nat.lt_of_lt_of_le b0 hk1.size) id d01; have e11 := hk2.cellE (Nat.lt_of_lt_of_le b1 hk1.size) id d11; have r2' := RowIs.keep (RowIs.keep (RowIs.keep H0.out.2 (M := Nil) (by repeat (first | exact Keeps.refl _ _ | refine Keeps.drew ?_ | refine Keeps.drewN ?_ _ | refine Keeps.alloc ?_ _)) id) hk1 id) hk2 id; obtain ⟨c0, c1', f0, f1⟩ := r2'.two; have HT := Lib.hid h'; clear h' r2'))
    go_wp2
    have hzz := HT.out
    rw [show (if g = true then -((nval l + nval l2 : Nat) : Int) else ((nval l + nval l2 : Nat) : Int)) = ival (g, l) + ival (g, l2) by cases g <;> simp [ival] <;> omega] at hzz
    exact bodyPost_ret (v := .agg #[.bool g', .slice a' n' c']) (by simp [results, Try.results17, go_sem, c0, c1']) rfl ⟨_, _, _, _, rfl, hzz.less (Keeps.pair _ _), (((H0.out.1.trans (by repeat (first | exact Keeps.refl _ _ | refine Keeps.drew ?_ | refine Keeps.drewN ?_ _ | refine Keeps.alloc ?_ _))).trans hk1).trans hk2).own (by omega) (Keeps.pair _ _)⟩
  · have hgg : (g == g2) = false := by simpa using hg
    have ne1 : ¬ w.heap.size = w.heap.size + 1 + 1 := by omega
    have ne2 : ¬ w.heap.size + 1 + 1 = w.heap.size := by omega
    by_cases hlt : nval l < nval l2
    · have HLE := Lib.hid (show nval l ≤ nval l2 by omega)
      have HC := Lib.hid (cmpN_lt hlt)
      clear hlt
      go_enter Try.func17, Try.ntmps17
      go_upto_region 3 with (fail)
      obtain ⟨r0, r1, r2, hk0⟩ := HRS.out
      clear HRS
      generalize (((w.alloc (.cells #[.bool g, .slice a n c] 36)).alloc (.cells #[.bool g2, .slice a2 n2 c2] 36)).alloc (.cells #[.bool false, .slice none 0 0] 36)) = w00 at *
      obtain ⟨c00, c01, _, _⟩ := r0.two
      obtain ⟨c10, c11, _, _⟩ := r1.two
      have H00 := Lib.hid (And.intro hk0 (And.intro r0 (And.intro r1 r2)))
      clear hk0 r0 r1 r2
      go_upto_region 6 with (go_at_call 40; refine (refncmp_any (HA.out.keepNil H00.out.1) (HB.out.keepNil H00.out.1)).mono ?_; rintro e w0 ⟨rfl, hk1⟩; rw [HC.out])
      have hk0 := H00.out.1.trans hk1
      have r0 := H00.out.2.1.keep hk1 id
      have r1 := H00.out.2.2.1.keep hk1 id
      have r2 := H00.out.2.2.2.keep hk1 id
      clear H00 hk1 c00 c01 c10 c11
      obtain ⟨c00, c01, _, _⟩ := r0.two
      obtain ⟨c10, c11, _, _⟩ := r1.two
      obtain ⟨c20, c21, f20, f21⟩ := r2.two
      have b0 := r0.lt
      have b1 := r1.lt
      have b2 := r2.lt
      have H0 := Lib.hid (And.intro hk0 r2)
      clear hk0 r0 r1 r2
      go_region_held3 (fun w' => w'.cell? ⟨w.heap.size, 0, none⟩ = some (.bool g) ∧ w'.cell? ⟨w.heap.size, 1, none⟩ = some (.slice a n c) ∧ w'.cell? ⟨w.heap.size + 1, 0, none⟩ = some (.bool g2) ∧ w'.cell? ⟨w.heap.size + 1, 1, none⟩ = some (.slice a2 n2 c2)) (go_keep) (first | (go_at_call 41; refine (refnsub_any (M := Nil) (MB.nil _) ((HB.out.keepNil H0.out.1).keepNil (by repeat (first | exact Keeps.refl _ _ | refine Keeps.drew ?_ | refine Keeps.drewN ?_ _ | refine Keeps.alloc ?_ _))) ((HA.out.keepNil H0.out.1).keepNil (by repeat (first | exact Keeps.refl _ _ | refine Keeps.drew ?_ | refine Keeps.drewN ?_ _ | refine Keeps.alloc ?_ _))) hn2 HLE.out).mono ?_; rintro e w1 ⟨a1, c1, rfl, h1, hk1⟩; have d00 := hk1.cellE b0 id c00; have d01 := hk1.cellE b0 id c01; have d10 := hk1.cellE b1 id c10; have d11 := hk1.cellE b1 id c11; have H1 := Lib.hid h1; clear h1) | (go_at_call 38; refine (refnorm_any (M := With M (w.heap.size + 1 + 1)) ((((HM.out.keep H0.out.1).with b2).keep (M' := Nil) (by repeat (first | exact Keeps.refl _ _ | refine Keeps.drew ?_ | refine Keeps.drewN ?_ _ | refine Keeps.alloc ?_ _))).keep hk1) (zat_of g2 H1.out HF.out.2.2)).mono ?_; rintro e w2 ⟨g', a', n', c', rfl, h', hk2⟩; have e00 := hk2.cellE (Nat.lt_of_lt_of_le b0 hk1.size) id d00; have e01 := hk2.cellE (Nat.lt_of_lt_of_le b0 hk1.size) id d01; have e10 := hk2.cellE (Nat.lt_of_lt_of_le b1 hk1.size) id d10; have e11 := hk2.cellE (Nat.lt_of_lt_of_le b1 hk1.size) id d11; have r2' := RowIs.keep (RowIs.keep (RowIs.keep H0.out.2 (M := Nil) (by repeat (first | exact Keeps.refl _ _ | refine Keeps.drew ?_ | refine Keeps.drewN ?_ _ | refine Keeps.alloc ?_ _)) id) hk1 id) hk2 id; obtain ⟨c0, c1', f0, f1⟩ := r2'.two; have HT := Lib.hid h'; clear h' r2'))
      go_wp2
      have hzz := HT.out
      rw [show (if g2 = true then -((nval l2 - nval l : Nat) : Int) else ((nval l2 - nval l : Nat) : Int)) = ival (g, l) + ival (g2, l2) by have hle := HLE.out; cases g <;> cases g2 <;> simp [ival] at hg ⊢ <;> omega] at hzz
      exact bodyPost_ret (v := .agg #[.bool g', .slice a' n' c']) (by simp [results, Try.results17, go_sem, c0, c1']) rfl ⟨_, _, _, _, rfl, hzz.less (Keeps.pair _ _), (((H0.out.1.trans (by repeat (first | exact Keeps.refl _ _ | refine Keeps.drew ?_ | refine Keeps.drewN ?_ _ | refine Keeps.alloc ?_ _))).trans hk1).trans hk2).own (by omega) (Keeps.pair _ _)⟩
    · have HLE := Lib.hid (show nval l2 ≤ nval l by omega)
      obtain ⟨cm, hcm⟩ : ∃ cm : Int, cm = cmpN (nval l) (nval l2) := ⟨_, rfl⟩
      have hc0 : (0 : Int) ≤ cm := by
        rw [hcm]; unfold cmpN
        rw [if_neg (by omega)]
        split <;> omega
      have HC := Lib.hid hcm.symm
      clear hlt hcm
      go_enter Try.func17, Try.ntmps17
      go_upto_region 3 with (fail)
      obtain ⟨r0, r1, r2, hk0⟩ := HRS.out
      clear HRS
      generalize (((w.alloc (.cells #[.bool g, .slice a n c] 36)).alloc (.cells #[.bool g2, .slice a2 n2 c2] 36)).alloc (.cells #[.bool false, .slice none 0 0] 36)) = w00 at *
      obtain ⟨c00, c01, _, _⟩ := r0.two
      obtain ⟨c10, c11, _, _⟩ := r1.two
      have H00 := Lib.hid (And.intro hk0 (And.intro r0 (And.intro r1 r2)))
      clear hk0 r0 r1 r2
      go_upto_region 5 with (go_at_call 40; refine (refncmp_any (HA.out.keepNil H00.out.1) (HB.out.keepNil H00.out.1)).mono ?_; rintro e w0 ⟨rfl, hk1⟩; rw [HC.out])
      have hk0 := H00.out.1.trans hk1
      have r0 := H00.out.2.1.keep hk1 id
      have r1 := H00.out.2.2.1.keep hk1 id
      have r2 := H00.out.2.2.2.keep hk1 id
      clear H00 hk1 c00 c01 c10 c11
      obtain ⟨c00, c01, _, _⟩ := r0.two
      obtain ⟨c10, c11, _, _⟩ := r1.two
      obtain ⟨c20, c21, f20, f21⟩ := r2.two
      have b0 := r0.lt
      have b1 := r1.lt
      have b2 := r2.lt
      have H0 := Lib.hid (And.intro hk0 r2)
      clear hk0 r0 r1 r2
      go_region_held3 (fun w' => w'.cell? ⟨w.heap.size, 0, none⟩ = some (.bool g) ∧ w'.cell? ⟨w.heap.size, 1, none⟩ = some (.slice a n c) ∧ w'.cell? ⟨w.heap.size + 1, 0, none⟩ = some (.bool g2) ∧ w'.cell? ⟨w.heap.size + 1, 1, none⟩ = some (.slice a2 n2 c2)) (go_keep) (first | (go_at_call 41; refine (refnsub_any (M := Nil) (MB.nil _) ((HA.out.keepNil H0.out.1).keepNil (by repeat (first | exact Keeps.refl _ _ | refine Keeps.drew ?_ | refine Keeps.drewN ?_ _ | refine Keeps.alloc ?_ _))) ((HB.out.keepNil H0.out.1).keepNil (by repeat (first | exact Keeps.refl _ _ | refine Keeps.drew ?_ | refine Keeps.drewN ?_ _ | refine Keeps.alloc ?_ _))) hn HLE.out).mono ?_; rintro e w1 ⟨a1, c1, rfl, h1, hk1⟩; have d00 := hk1.cellE b0 id c00; have d01 := hk1.cellE b0 id c01; have d10 := hk1.cellE b1 id c10; have d11 := hk1.cellE b1 id c11; have H1 := Lib.hid h1; clear h1) | (go_at_call 38; refine (refnorm_any (M := With M (w.heap.size + 1 + 1)) ((((HM.out.keep H0.out.1).with b2).keep (M' := Nil) (by repeat (first | exact Keeps.refl _ _ | refine Keeps.drew ?_ | refine Keeps.drewN ?_ _ | refine Keeps.alloc ?_ _))).keep hk1) (zat_of g H1.out HF.out.2.1)).mono ?_; rintro e w2 ⟨g', a', n', c', rfl, h', hk2⟩; have e00 := hk2.cellE (Nat.lt_of_lt_of_le b0 hk1.size) id d00; have e01 := hk2.cellE (Nat.lt_of_lt_of_le b0 hk1.size) id d01; have e10 := hk2.cellE (Nat.lt_of_lt_of_le b1 hk1.size) id d10; have e11 := hk2.cellE (Nat.lt_of_lt_of_le b1 hk1.size) id d11; have r2' := RowIs.keep (RowIs.keep (RowIs.keep H0.out.2 (M := Nil) (by repeat (first | exact Keeps.refl _ _ | refine Keeps.drew ?_ | refine Keeps.drewN ?_ _ | refine Keeps.alloc ?_ _)) id) hk1 id) hk2 id; obtain ⟨c0, c1', f0, f1⟩ := r2'.two; have HT := Lib.hid h'; clear h' r2'))
      go_wp2
      have hzz := HT.out
      rw [show (if g = true then -((nval l - nval l2 : Nat) : Int) else ((nval l - nval l2 : Nat) : Int)) = ival (g, l) + ival (g2, l2) by have hle := HLE.out; cases g <;> cases g2 <;> simp [ival] at hg ⊢ <;> omega] at hzz
      exact bodyPost_ret (v := .agg #[.bool g', .slice a' n' c']) (by simp [results, Try.results17, go_sem, c0, c1']) rfl ⟨_, _, _, _, rfl, hzz.less (Keeps.pair _ _), (((H0.out.1.trans (by repeat (first | exact Keeps.refl _ _ | refine Keeps.drew ?_ | refine Keeps.drewN ?_ _ | refine Keeps.alloc ?_ _))).trans hk1).trans hk2).own (by omega) (Keeps.pair _ _)⟩
set_option maxHeartbeats 1000000 in
theorem refsub_any {M : Nat → Prop} {g g2 : Bool} {a a2 : Option Addr} {n c n2 c2 : Nat} {z z2 : Int} {w : World} (hM : MB M w) (h : ZAt Nil w g a n c z) (h2 : ZAt Nil w g2 a2 n2 c2 z2) (hn : n * 4 + 4 ≤ 140737488355328) (hn2 : n2 * 4 + 4 ≤ 140737488355328) :
    Calls Try.prog 29 #[.agg #[.bool g, .slice a n c], .agg #[.bool g2, .slice a2 n2 c2]] w fun e w' => ZRet M w (z - z2) e w' := by
  have hl2 := h2.nlen_le
  have HA := Lib.hid h
  have HB := Lib.hid h2
  have HM := Lib.hid hM
  have HN := Lib.hid (And.intro hn (show nlen (-z2).natAbs * 4 + 4 ≤ 140737488355328 by rw [Int.natAbs_neg]; omega))
  have HRS := Lib.hid (rows3 w 36 (.bool g) (.slice a n c) (.bool g2) (.slice a2 n2 c2) (.bool false) (.slice none 0 0))
  clear h h2 hM hn hn2 hl2
  go_enter Try.func29, Try.ntmps29
  go_wp2_with fail
  obtain ⟨r0, r1, r2, hk0⟩ := HRS.out
  clear HRS
  generalize (((w.alloc (.cells #[.bool g, .slice a n c] 36)).alloc (.cells #[.bool g2, .slice a2 n2 c2] 36)).alloc (.cells #[.bool false, .slice none 0 0] 36)) = w0 at *
  obtain ⟨c00, c01, _, _⟩ := r0.two
  obtain ⟨c10, c11, _, _⟩ := r1.two
  obtain ⟨c20, c21, f20, f21⟩ := r2.two
  have b0 := r0.lt
  have b1 := r1.lt
  have b2 := r2.lt
  have H0 := Lib.hid (And.intro hk0 r2)
  clear hk0 r0 r1 r2
  have ne1 : ¬ w.heap.size = w.heap.size + 1 + 1 := by omega
  have ne2 : ¬ w.heap.size + 1 + 1 = w.heap.size := by omega
  go_region_held3 (fun w' => w'.cell? ⟨w.heap.size, 0, none⟩ = some (.bool g) ∧ w'.cell? ⟨w.heap.size, 1, none⟩ = some (.slice a n c) ∧ w'.cell? ⟨w.heap.size + 1, 0, none⟩ = some (.bool g2) ∧ w'.cell? ⟨w.heap.size + 1, 1, none⟩ = some (.slice a2 n2 c2)) (go_keep) (first | (go_at_call 51; refine (refneg_any (M := Nil) (MB.nil _) ((HB.out.keepNil H0.out.1).keepNil (by repeat (first | exact Keeps.refl _ _ | refine Keeps.drew ?_ | refine Keeps.drewN ?_ _ | refine Keeps.alloc ?_ _)))).mono ?_; rintro e w1 ⟨g1, a1, n1, c1, rfl, h1, hk1⟩; have d00 := hk1.cellE b0 id c00; have d01 := hk1.cellE b0 id c01; have d10 := hk1.cellE b1 id c10; have d11 := hk1.cellE b1 id c11; have H1 := Lib.hid (And.intro h1 h1.len); clear h1) | (go_at_call 17; refine (refadd_any (M := With M (w.heap.size + 1 + 1)) ((((HM.out.keep H0.out.1).with b2).keep (M' := Nil) (by repeat (first | exact Keeps.refl _ _ | refine Keeps.drew ?_ | refine Keeps.drewN ?_ _ | refine Keeps.alloc ?_ _))).keep hk1) ((((HA.out.keepNil H0.out.1).keepNil (by repeat (first | exact Keeps.refl _ _ | refine Keeps.drew ?_ | refine Keeps.drewN ?_ _ | refine Keeps.alloc ?_ _))).keepNil hk1).keepNil (by repeat (first | exact Keeps.refl _ _ | refine Keeps.drew ?_ | refine Keeps.drewN ?_ _ | refine Keeps.alloc ?_ _))) ((H1.out.1.at' (by rw [H1.out.2]; have := HN.out.2; omega)).keepNil (by repeat (first | exact Keeps.refl _ _ | refine Keeps.drew ?_ | refine Keeps.drewN ?_ _ | refine Keeps.alloc ?_ _))) HN.out.1 (by rw [H1.out.2]; exact HN.out.2)).mono ?_; rintro e w2 ⟨g', a', n', c', rfl, h', hk2⟩; have e00 := hk2.cellE (Nat.lt_of_lt_of_le b0 hk1.size) id d00; have e01 := hk2.cellE (Nat.lt_of_lt_of_le b0 hk1.size) id d01; have e10 := hk2.cellE (Nat.lt_of_lt_of_le b1 hk1.size) id d10; have e11 := hk2.cellE (Nat.lt_of_lt_of_le b1 hk1.size) id d11; have r2' := RowIs.keep (RowIs.keep (RowIs.keep (RowIs.keep H0.out.2 (M := Nil) (by repeat (first | exact Keeps.refl _ _ | refine Keeps.drew ?_ | refine Keeps.drewN ?_ _ | refine Keeps.alloc ?_ _)) id) hk1 id) (M := Nil) (by repeat (first | exact Keeps.refl _ _ | refine Keeps.drew ?_ | refine Keeps.drewN ?_ _ | refine Keeps.alloc ?_ _)) id) hk2 id; obtain ⟨c0, c1', f0, f1⟩ := r2'.two; have HT := Lib.hid h'; clear h' r2'))
  go_wp2
  have hzz := HT.out
  rw [show z + -z2 = z - z2 by omega] at hzz
  exact bodyPost_ret (v := .agg #[.bool g', .slice a' n' c']) (by simp [results, Try.results29, go_sem, c0, c1']) rfl ⟨_, _, _, _, rfl, hzz.less (Keeps.pair _ _), ((((H0.out.1.trans (by repeat (first | exact Keeps.refl _ _ | refine Keeps.drew ?_ | refine Keeps.drewN ?_ _ | refine Keeps.alloc ?_ _))).trans hk1).trans (by repeat (first | exact Keeps.refl _ _ | refine Keeps.drew ?_ | refine Keeps.drewN ?_ _ | refine Keeps.alloc ?_ _))).trans hk2).own (by omega) (Keeps.pair _ _)⟩
end Go.Proofs.Ytfkclbhddiidbaa
