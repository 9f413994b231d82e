/- What (*periods.Set).Same does: whether two sets have the same numbers. Conditions: both sets read. -/
import Derived.Test.YtfkclbhddiidbaaGreatKPSameP
import Derived.Test.YtfkclbhddiidbaaGreatKPMerged
import Derived.Test.YtfkclbhddiidbaaGreatKPRest
import Derived.Deep.CutBlock
namespace Go.Rid
open Go.RowKit
theorem nlen_nat_small {q : Nat} (h : q ≤ 16777216) : nlen ((q : Int)).natAbs ≤ 1 := by
  apply nlen_le_of_lt
  rw [Nat.pow_one, Bs_def]; omega
/-- Where a stretch begins has room. -/
theorem segF_fit {q k : Nat} {zs : List Int} (hq : q ≤ 16777216) (hf : ∀ z ∈ zs, nlen z.natAbs * 4 + 64 ≤ 140737488355328) (hk : k ≤ zs.length) : nlen (segF q zs k).natAbs * 4 + 4 ≤ 140737488355328 := by
  unfold segF
  split
  · have := hf _ (seg_mem (zs := zs) (i := k - 1) (by omega)); omega
  · split
    · rename_i h
      have h0 := hf _ (seg_mem (zs := zs) (i := 0) h)
      have h1 := nlen_natAbs_add (zth zs 0) (-(q : Int))
      rw [Int.natAbs_neg] at h1
      have h2 := nlen_nat_small hq
      rw [Int.sub_eq_add_neg]
      omega
    · have : nlen (0 : Int).natAbs = 0 := by simp [nlen, limbsOf_zero]
      omega
end Go.Rid
namespace Go.Proofs.YtfkclbhddiidbaaGreat
open Go.RowKit Go.Rid
/-- What Same answers. -/
def SameRet (w : World) (S O : PSet) (e : Ending) (w' : World) : Prop := ∃ b, e = .returned (.bool b) ∧ (b = true ↔ ∀ x, has S x = has O x) ∧ Keeps Nil w w'
theorem mod_step {A : Int} {P x : Nat} (h : A % (P : Int) = (x : Int)) : (A + 1) % (P : Int) = (((x + 1) % P : Nat) : Int) := by
  rw [Int.natCast_emod, Int.natCast_add, ← h, Int.natCast_one, Int.emod_add_emod]
/-- A number's box. -/
def BoxZ (w : World) (b : Nat) (z : Int) (wx : World) : Prop := ∃ g a n c, RowIs wx b 38 [.bool g, .slice a n c] ∧ ZN Nil wx g a n c z ∧ Keeps Nil w wx
set_option maxHeartbeats 4000000 in
set_option maxRecDepth 100000 in
theorem same_any {M M' : Nat → Prop} {p p2 : Nat} {S O : PSet} {w : World} (hs0 : SetAt M w p S) (hs2 : SetAt M' w p2 O) (hf : Fine S) (hf2 : Fine O) :
    Calls Tryz.prog 11 #[.pointer (some ⟨p, 0, none⟩), .pointer (some ⟨p2, 0, none⟩)] w fun e w' => SameRet w S O e w' := by
  have HS := Lib.hid (And.intro hs0.toNil hs2.toNil)
  have HF := Lib.hid (And.intro hf hf2)
  have hP := hf.ok.pos
  have hP2 := hf.ok.le
  have hQ := hf2.ok.pos
  have hQ2 := hf2.ok.le
  obtain ⟨ac, nc, cc, ar, nr, cr, q1, _, _, q4⟩ := hs0
  obtain ⟨ac2, nc2, cc2, ar2, nr2, cr2, r1, _, _, r4⟩ := hs2
  obtain ⟨d0, d1, d2⟩ := q1.three
  obtain ⟨e0, e1, e2⟩ := r1.three
  have m3 := Live.of q1.lt
  have m4 := Live.of r1.lt
  obtain ⟨cap4, le4⟩ := And.intro q4.cap q4.le
  obtain ⟨cap5, le5⟩ := And.intro r4.cap r4.le
  have hnr : nr = S.cuts.length + 1 := by have := q4.len; have := hf.ok.len; omega
  have hnr2 : nr2 = O.cuts.length + 1 := by have := r4.len; have := hf2.ok.len; omega
  have HQ4 := Lib.hid (And.intro q4 (And.intro r4 (And.intro hnr hnr2)))
  clear q1 r1 q4 r4 hf hf2 hnr hnr2
  obtain ⟨la', ls, ld, ln, ln', ln1, ln1', lc', lf⟩ := liveRules
  go_enter Tryz.func11, Tryz.ntmps11
  go_upto_region 3 with (go_at_call 34; refine (made_sets (M := Nil) (ps := [some p, some p2]) rfl (ptrs2 (RowIs.alloc (w := w) (xs := [ptrV (some p), ptrV (some p2)])) id) (fun x hx => by
      rcases (by simpa using hx : x = p ∨ x = p2) with rfl | rfl
      · exact ⟨S, HS.out.1.keepNil (by repeat (first | exact Keeps.refl _ _ | refine Keeps.drew ?_ | refine Keeps.drewN ?_ _ | refine Keeps.alloc ?_ _)), HF.out.1⟩
      · exact ⟨O, HS.out.2.keepNil (by repeat (first | exact Keeps.refl _ _ | refine Keeps.drew ?_ | refine Keeps.drewN ?_ _ | refine Keeps.alloc ?_ _)), HF.out.2⟩)).mono ?_; rintro e w' ⟨rfl, rfl⟩)
  obtain ⟨w1, hw1⟩ : ∃ w1, w1 = w.alloc (.cells #[ptrV (some p), ptrV (some p2)] 25) := ⟨_, rfl⟩
  have hk1 : Keeps Nil w w1 := by rw [hw1]; exact (by repeat (first | exact Keeps.refl _ _ | refine Keeps.drew ?_ | refine Keeps.drewN ?_ _ | refine Keeps.alloc ?_ _))
  have d0' := hk1.cellE m3.lt id d0
  have e0' := hk1.cellE m4.lt id e0
  have HK1 := Lib.hid hk1
  have HD := Lib.hid (And.intro m3 (And.intro m4 (And.intro d0 (And.intro d2 (And.intro e0 e2)))))
  have l3 := hk1.live.2.2 _ m3
  have l4 := hk1.live.2.2 _ m4
  rw [← hw1]
  clear hw1 hk1 d0 d1 d2 e0 e1 e2 m3 m4
  go_region_held3 (fun w' => w'.cell? ⟨p, 0, none⟩ = some (.int .i64 S.P) ∧ w'.cell? ⟨p2, 0, none⟩ = some (.int .i64 O.P)) (go_keep) (first | (go_at_call 35; refine (common_any hP hP2 hQ hQ2).mono ?_; rintro e w2 ⟨rfl, hk2⟩; obtain ⟨rc2, rf2, ra2⟩ := (show Keeps Nil w1 w2 from (by repeat (first | exact Keeps.refl _ _ | assumption | refine Keeps.drew ?_ | refine Keeps.drewN ?_ _ | refine Keeps.alloc ?_ _ | exact Keeps.of_nil (by assumption) | refine Keeps.trans ?_ (Keeps.of_nil (by assumption)) | refine Keeps.setCell ?_ (.inr (by first | exact Nat.le_refl _ | (dsimp only; omega))) _ | refine Keeps.setCell ?_ (.inl (by first | (unfold Old; dsimp only; omega) | (unfold Old; simp; omega) | (unfold Old; simp))) _))).live; have q0 := ra2 _ l3; have q1 := ra2 _ l4; have HK2 := Lib.hid (HK1.out.trans (show Keeps Nil w1 w2 from (by repeat (first | exact Keeps.refl _ _ | assumption | refine Keeps.drew ?_ | refine Keeps.drewN ?_ _ | refine Keeps.alloc ?_ _ | exact Keeps.of_nil (by assumption) | refine Keeps.trans ?_ (Keeps.of_nil (by assumption)) | refine Keeps.setCell ?_ (.inr (by first | exact Nat.le_refl _ | (dsimp only; omega))) _ | refine Keeps.setCell ?_ (.inl (by first | (unfold Old; dsimp only; omega) | (unfold Old; simp; omega) | (unfold Old; simp))) _))))))
  have hqb : Nat.lcm S.P O.P ≤ 16777216 := by
    have h1 : Nat.lcm S.P O.P ≤ S.P * O.P := Nat.le_of_dvd (Nat.mul_pos (by omega) (by omega)) (Nat.lcm_dvd_mul _ _)
    have h2 : S.P * O.P ≤ 4096 * 4096 := Nat.mul_le_mul hP2 hQ2
    omega
  have hq1 : 1 ≤ Nat.lcm S.P O.P := lcm_pos hP hQ
  have HQ := Lib.hid (And.intro (Nat.dvd_lcm_left S.P O.P) (Nat.dvd_lcm_right S.P O.P))
  generalize Nat.lcm S.P O.P = q at *
  clear rc2 rf2 ra2 q0 q1 hk2 l3 l4 d0' e0'
  obtain ⟨zs, hzs⟩ : ∃ zs, zs = mergeC S.cuts O.cuts := ⟨_, rfl⟩
  have hn : zs.length ≤ 2000 := by
    have := length_mergeC S.cuts O.cuts
    rw [← hzs] at this
    have := HF.out.1.few
    have := HF.out.2.few
    omega
  have jn : IntKind.i64.wrap ((zs.length : Int) + 1) = (zs.length : Int) + 1 := IntWalk.i64_in _ (by omega)
  have hzp : zs.Pairwise (· < ·) := by rw [hzs]; exact sorted_mergeC HF.out.2.ok.sorted
  have hz1 : ∀ c ∈ S.cuts, c ∈ zs := fun c hc => by rw [hzs, mem_mergeC]; exact .inl hc
  have hz2 : ∀ c ∈ O.cuts, c ∈ zs := fun c hc => by rw [hzs, mem_mergeC]; exact .inr hc
  have hzf : ∀ z ∈ zs, nlen z.natAbs * 4 + 64 ≤ 140737488355328 := fun z hz => by
    rw [hzs, mem_mergeC] at hz
    rcases hz with hz | hz
    · exact HF.out.1.fit z hz
    · exact HF.out.2.fit z hz
  have HZ := Lib.hid (And.intro hzp (And.intro hz1 (And.intro hz2 hzf)))
  have HMG : Hid (∀ W : World, Keeps Nil w W → Calls Tryz.prog 36 #[.pointer (some ⟨p, 0, none⟩), .pointer (some ⟨p2, 0, none⟩)] W fun e w' => ListRet Nil W zs e w') := Lib.hid fun W k => by rw [hzs]; exact merged_any (M := Nil) (MB.nil _) (HS.out.1.keepNil k) (HS.out.2.keepNil k) HF.out.1 HF.out.2
  clear hzp hz1 hz2 hzf hzs
  go_wp2_with (go_at_call 36; refine (HMG.out _ HK2.out).mono ?_; rintro e w3 ⟨la, lc, rfl, hzl, hk3⟩)
  obtain ⟨capz, lez⟩ := And.intro hzl.cap hzl.le
  have HL := Lib.hid (And.intro hzl (HK2.out.trans hk3))
  clear hzl hk3
  go_loopw [36] (fun i wr => ∃ k : Nat, k ≤ zs.length + 1 ∧ i = .int .i64 k ∧ (∀ k' j : Nat, k' < k → j < segN q zs k' → has S (segF q zs k' + (j : Int)) = has O (segF q zs k' + (j : Int))) ∧ Keeps Nil w3 wr) (fun i _ => zs.length + 1 - (intOf i).toNat)
  case atStart => exact ⟨0, Nat.zero_le _, rfl, fun k' j h => by omega, Keeps.refl _ _⟩
  case round =>
    obtain ⟨k, hk, rfl, hall, hkk⟩ := hrel
    have HA := Lib.hid (And.intro hall hkk)
    clear hall hkk
    by_cases hlt : k < zs.length + 1
    · have i1 : (k : Int) < (zs.length : Int) + 1 := by omega
      go_upto_block 2 with (go_at_call 37; refine (zof_any (M := Nil) (z := 0) (MB.nil _) (by omega) (by omega)).mono ?_; rintro e w4 ⟨g0, a0, n0, c0, rfl, h0, hk4⟩)
      have hkd : Keeps Nil w4 (w4.alloc (.cells #[.bool g0, .slice a0 n0 c0] 38)) := (by repeat (first | exact Keeps.refl _ _ | refine Keeps.drew ?_ | refine Keeps.drewN ?_ _ | refine Keeps.alloc ?_ _))
      have rbt := RowIs.alloc (w := w4) (E := 38) (xs := [.bool g0, .slice a0 n0 c0])
      change RowIs (w4.alloc (.cells #[.bool g0, .slice a0 n0 c0] 38)) _ _ _ at rbt
      generalize w4.alloc (.cells #[.bool g0, .slice a0 n0 c0] 38) = wd at *
      have H0 := Lib.hid (And.intro (h0.keepNil hkd) (And.intro rbt (And.intro hkd (hk4.trans hkd))))
      have zbt := rbt.lt
      have zsz := hk4.size
      clear h0 rbt hkd hk4
      go_cut [] (fun wx => BoxZ wr w4.heap.size (segF q zs k) wx)
      case first =>
        obtain ⟨c00, c01, f00, f01⟩ := H0.out.2.1.two
        by_cases h0 : 0 < k
        · have i2 : (0 : Int) < (k : Int) := by omega
          have i3 : decide ((0 : Int) < (k : Int)) = true := decide_eq_true i2
          obtain ⟨m, rfl⟩ : ∃ m, k = m + 1 := ⟨k - 1, by omega⟩
          have j1 : IntKind.i64.wrap (m : Int) = (m : Int) := IntWalk.i64_in _ (by omega)
          have j2 : IntKind.i64.wrap ((m : Int) + 1 - 1) = (m : Int) := by rw [show (m : Int) + 1 - 1 = (m : Int) by omega]; exact j1
          have j3 : IntKind.i64.wrap (((m + 1 : Nat) : Int) - 1) = (m : Int) := by rw [show ((m + 1 : Nat) : Int) - 1 = (m : Int) by omega]; exact j1
          have j4 : (0 : Int) ≤ (m : Int) := by omega
          have j5 : (m : Int) < (zs.length : Int) := by omega
          have hmz : m < zs.length := by omega
          obtain ⟨b, off, s, a, n, c, hae, hb, _, x0, x1, hz⟩ := (HL.out.1.keepNil HA.out.2).at hmz
          subst hae
          have y0 := H0.out.2.2.2.cellE hb id x0
          have y1 := H0.out.2.2.2.cellE hb id x1
          have HZ1 := Lib.hid hz
          clear hz x0 x1
          go_wp2_with fail
          go_meet
          have kx : Keeps Nil wr _ := H0.out.2.2.2.own zsz (Keeps.pair (.bool s) (.slice a n c))
          exact ⟨s, a, n, c, H0.out.2.1.pair, by unfold segF; rw [if_pos h0]; exact HZ1.out.keepNil kx, kx⟩
        · have i2 : ¬ (0 : Int) < (k : Int) := by omega
          have i3 : decide ((0 : Int) < (k : Int)) = false := decide_eq_false i2
          by_cases hz0 : 0 < zs.length
          · have i4 : (0 : Int) < (zs.length : Int) := by omega
            have i5 : decide ((0 : Int) < (zs.length : Int)) = true := decide_eq_true i4
            obtain ⟨b, off, s, a, n, c, hae, hb, _, x0, x1, hz⟩ := (HL.out.1.keepNil HA.out.2).at hz0
            subst hae
            rw [Nat.zero_mul, Nat.add_zero] at x0 x1
            have y0 := H0.out.2.2.2.cellE hb id x0
            have y1 := H0.out.2.2.2.cellE hb id x1
            have hb' : b < wd.heap.size := Nat.lt_of_lt_of_le hb H0.out.2.2.2.size
            have hzf := HZ.out.2.2.2 _ (seg_mem hz0)
            have hqf := nlen_nat_small hqb
            have HZ1 := Lib.hid (And.intro ((hz.toNil.zat (by omega)).keepNil H0.out.2.2.2) (fit_ofN hz (by omega)))
            clear hz x0 x1
            have hMB : MB (One w4.heap.size) wd := fun x hx => by cases (show x = _ from hx); exact zbt
            go_upto_region 12 with (fail)
            refine wp_region_till (Keeps Nil wd) [6] (by kernel_rfl) ?_
            have hS : Keeps Nil wd (World.drew wd) := (by repeat (first | exact Keeps.refl _ _ | refine Keeps.drew ?_ | refine Keeps.drewN ?_ _ | refine Keeps.alloc ?_ _))
            refine wpTill_take (i := 0) (v := ?v1) rfl (by kernel_rfl) (fun _ _ _ h => h) (Or.inl ⟨by rfl, ?y1⟩) hS ?r1
            case y1 => (intro w' hSw; obtain ⟨hrc, hrf⟩ := hSw.rules; clear hSw;  go_simp; (try with_reducible rfl))
            try simp only [Act.put, List.setIfInBounds_toArray, List.set_cons_zero, List.set_cons_succ]
            refine wpTill_take (i := 1) (v := ?v2) rfl (by kernel_rfl) (fun _ _ _ h => h) (Or.inl ⟨by rfl, ?y2⟩) hS ?r2
            case y2 => (intro w' hSw; obtain ⟨hrc, hrf⟩ := hSw.rules; clear hSw;  go_simp; (try with_reducible rfl))
            try simp only [Act.put, List.setIfInBounds_toArray, List.set_cons_zero, List.set_cons_succ]
            refine wpTill_take (i := 2) (v := ?v3) rfl (by kernel_rfl) (fun _ _ _ h => h) (Or.inl ⟨by rfl, ?y3⟩) hS ?r3
            case y3 => (intro w' hSw; obtain ⟨hrc, hrf⟩ := hSw.rules; clear hSw;  go_simp; (try with_reducible rfl))
            try simp only [Act.put, List.setIfInBounds_toArray, List.set_cons_zero, List.set_cons_succ]
            refine wpTill_take (i := 3) (v := ?v4) rfl (by kernel_rfl) (fun _ _ _ h => h) (Or.inl ⟨by rfl, ?y4⟩) hS ?r4
            case y4 => (intro w' hSw; obtain ⟨hrc, hrf⟩ := hSw.rules; clear hSw;  go_simp; (try with_reducible rfl))
            try simp only [Act.put, List.setIfInBounds_toArray, List.set_cons_zero, List.set_cons_succ]
            refine wpTill_ready (rs := [4]) (by kernel_rfl) (by simp) ?_
            refine AllTill.cons rfl (fun K hK => ?_) AllTill.nil
            go_simp
            refine (zof_any (M := One w4.heap.size) (z := (q : Int)) (hMB.keep hS) (by omega) (by omega)).mono ?_
            rintro e w1 ⟨g8, a8, n8, c8, rfl, h8, hk⟩
            refine hK.out _ _ (fun h => h.trans hk) ?_
            clear hK K
            try simp only [Act.put, List.setIfInBounds_toArray, List.set_cons_zero, List.set_cons_succ]
            replace hS := hS.trans hk
            have H8 := Lib.hid h8
            clear hk h8
            refine wpTill_ready (rs := [5]) (by kernel_rfl) (by simp) ?_
            refine AllTill.cons rfl (fun K hK => ?_) AllTill.nil
            go_simp
            refine (zsub_any (M := One w4.heap.size) (hMB.keep hS) (HZ1.out.1.keepNil hS) (H8.out.zat (by omega)) HZ1.out.2 (fit_ofN H8.out (by omega))).mono ?_
            rintro e w1 ⟨g9, a9, n9, c9, rfl, h9, hk⟩
            refine hK.out _ _ (fun h => h.trans hk) ?_
            clear hK K
            try simp only [Act.put, List.setIfInBounds_toArray, List.set_cons_zero, List.set_cons_succ]
            replace hS := hS.trans hk
            have H9 := Lib.hid (And.intro h9 hS)
            obtain ⟨q0, q1, q2, q3⟩ := (H0.out.2.1.keep hS id).two
            have q4 := (H0.out.2.1.keep hS id).lt
            clear hk h9
            clear hS
            refine wpTill_ready (rs := [6]) (by kernel_rfl) (by simp) ?_
            refine AllTill.consT rfl (by decide) (fun K hK => ?_) AllTill.nil
            go_simp
            refine hK.out _ _ ?_
            clear hK K
            try simp only [Act.put, List.setIfInBounds_toArray, List.set_cons_zero, List.set_cons_succ]
            refine wpTill_done (by kernel_rfl) ?_ _
            skip
            go_wp2_with fail
            go_meet
            have kx : Keeps Nil wr _ := (H0.out.2.2.2.trans H9.out.2).own zsz (Keeps.pair (.bool g9) (.slice a9 n9 c9))
            exact ⟨g9, a9, n9, c9, (H0.out.2.1.keep H9.out.2 id).pair, by unfold segF; rw [if_neg h0, if_pos hz0]; exact (H9.out.1.move (Keeps.pair _ _) (fun _ _ => id) fun _ _ h => h.elim), kx⟩
          · have i4 : ¬ (0 : Int) < (zs.length : Int) := by omega
            have i5 : decide ((0 : Int) < (zs.length : Int)) = false := decide_eq_false i4
            go_wp2_with fail
            go_meet
            exact ⟨g0, a0, n0, c0, H0.out.2.1, by unfold segF; rw [if_neg h0, if_neg hz0]; exact H0.out.1, H0.out.2.2.2⟩
      case rest =>
        rename World => wa
        obtain ⟨g1, a1, n1, c1, rb, hz, hkx⟩ := hcut
        have hfit := segF_fit (k := k) hqb HZ.out.2.2.2 (by omega)
        have HX := Lib.hid (And.intro rb (And.intro (hz.zat hfit) (And.intro hkx (fit_ofN hz hfit))))
        obtain ⟨x0, x1, _, _⟩ := rb.two
        have lbt := Live.of rb.lt
        clear rb hz hkx hfit H0 zbt zsz
        go_upto_region 13 with (fail)
        go_cut [66] (fun v wx => v = .bool (decide (0 < k ∧ k < zs.length)) ∧ wa = wx)
        case first =>
          by_cases h0 : 0 < k
          · have i2 : (0 : Int) < (k : Int) := by omega
            have i3 : decide ((0 : Int) < (k : Int)) = true := decide_eq_true i2
            by_cases h1 : k < zs.length
            · have i4 : (k : Int) < (zs.length : Int) := by omega
              have i5 : decide ((k : Int) < (zs.length : Int)) = true := decide_eq_true i4
              go_wp2_with fail
              go_meet
              exact ⟨by rw [decide_eq_true ⟨h0, h1⟩], rfl⟩
            · have i4 : ¬ (k : Int) < (zs.length : Int) := by omega
              have i5 : decide ((k : Int) < (zs.length : Int)) = false := decide_eq_false i4
              go_wp2_with fail
              go_meet
              exact ⟨by rw [decide_eq_false (fun h => h1 h.2)], rfl⟩
          · have i2 : ¬ (0 : Int) < (k : Int) := by omega
            have i3 : decide ((0 : Int) < (k : Int)) = false := decide_eq_false i2
            go_wp2_with fail
            go_meet
            exact ⟨by rw [decide_eq_false (fun h => h0 h.1)], rfl⟩
        case rest =>
          obtain ⟨rfl, rfl⟩ := hcut
          go_upto_if 66 with (fail)
          go_cut [9] (fun v wx => v = .int .i64 (segN q zs k : Nat) ∧ Keeps Nil wa wx)
          case first =>
            by_cases hc : 0 < k ∧ k < zs.length
            · rw [decide_eq_true hc]
              obtain ⟨b, off, s, a, n, c, hae, hb, _, y0, y1, hz⟩ := (HL.out.1.keepNil (HA.out.2.trans HX.out.2.2.1)).at hc.2
              subst hae
              have lb := Live.of hb
              have hzf := HZ.out.2.2.2 _ (seg_mem hc.2)
              have hsf := segF_fit (k := k) hqb HZ.out.2.2.2 (by omega)
              have hs1 : nlen (zth zs k - segF q zs k).natAbs * 4 + 4 ≤ 140737488355328 := by
                have h1 := nlen_natAbs_add (zth zs k) (-(segF q zs k))
                rw [Int.natAbs_neg] at h1
                have h2 : segF q zs k = zth zs (k - 1) := by unfold segF; rw [if_pos hc.1]
                have h3 := HZ.out.2.2.2 _ (seg_mem (zs := zs) (i := k - 1) (by omega))
                rw [h2] at h1 ⊢
                rw [Int.sub_eq_add_neg]
                omega
              have hd : 0 < zth zs k - segF q zs k ∧ segN q zs k = min (zth zs k - segF q zs k).toNat q := by
                have h2 : segF q zs k = zth zs (k - 1) := by unfold segF; rw [if_pos hc.1]
                have h3 := seg_mono HZ.out.1 (show k - 1 < k by omega) hc.2
                refine ⟨by omega, ?_⟩
                unfold segN
                rw [if_pos hc, h2]
              have HZ1 := Lib.hid (And.intro (hz.toNil.zat (by omega)) (And.intro (fit_ofN hz (by omega)) (And.intro hs1 hd)))
              have i2 : (k : Int) < (zs.length : Int) := by omega
              have i3 : (0 : Int) ≤ (k : Int) := by omega
              clear hz hzf hsf hs1 hd hb
              have hz63 : ∃ bb, bb = fits64 (zth zs k - segF q zs k) := ⟨_, rfl⟩
              obtain ⟨bb, hbb⟩ := hz63
              obtain ⟨dd, hdd⟩ : ∃ dd, dd = int64 (zth zs k - segF q zs k) := ⟨_, rfl⟩
              have HBB := Lib.hid (And.intro hbb hdd)
              clear hbb hdd
              go_upto_region 14 with (fail)
              go_region_held3 (fun w' => w'.cell? ⟨b, off + k * 2, none⟩ = some (.bool s) ∧ w'.cell? ⟨b, off + k * 2 + 1, none⟩ = some (.slice a n c) ∧ w'.cell? ⟨w4.heap.size, 0, none⟩ = some (.bool g1) ∧ w'.cell? ⟨w4.heap.size, 1, none⟩ = some (.slice a1 n1 c1)) (go_keep) (first | (go_at_call 38; refine (zsub_any (M := Nil) (MB.nil _) (HZ1.out.1.keepNil (by repeat (first | exact Keeps.refl _ _ | assumption | refine Keeps.drew ?_ | refine Keeps.drewN ?_ _ | refine Keeps.alloc ?_ _ | exact Keeps.of_nil (by assumption) | refine Keeps.trans ?_ (Keeps.of_nil (by assumption)) | refine Keeps.setCell ?_ (.inr (by first | exact Nat.le_refl _ | (dsimp only; omega))) _ | refine Keeps.setCell ?_ (.inl (by first | (unfold Old; dsimp only; omega) | (unfold Old; simp; omega) | (unfold Old; simp))) _))) (HX.out.2.1.keepNil (by repeat (first | exact Keeps.refl _ _ | assumption | refine Keeps.drew ?_ | refine Keeps.drewN ?_ _ | refine Keeps.alloc ?_ _ | exact Keeps.of_nil (by assumption) | refine Keeps.trans ?_ (Keeps.of_nil (by assumption)) | refine Keeps.setCell ?_ (.inr (by first | exact Nat.le_refl _ | (dsimp only; omega))) _ | refine Keeps.setCell ?_ (.inl (by first | (unfold Old; dsimp only; omega) | (unfold Old; simp; omega) | (unfold Old; simp))) _))) HZ1.out.2.1 HX.out.2.2.2).mono ?_; rintro e w5 ⟨g5, a5, n5, m5, rfl, h5, hk5⟩; obtain ⟨rc5, rf5, ra5⟩ := (show Keeps Nil wa w5 from (by repeat (first | exact Keeps.refl _ _ | assumption | refine Keeps.drew ?_ | refine Keeps.drewN ?_ _ | refine Keeps.alloc ?_ _ | exact Keeps.of_nil (by assumption) | refine Keeps.trans ?_ (Keeps.of_nil (by assumption)) | refine Keeps.setCell ?_ (.inr (by first | exact Nat.le_refl _ | (dsimp only; omega))) _ | refine Keeps.setCell ?_ (.inl (by first | (unfold Old; dsimp only; omega) | (unfold Old; simp; omega) | (unfold Old; simp))) _))).live; have q0 := ra5 _ lb; have q1 := ra5 _ lbt; have H5 := Lib.hid (And.intro h5 (show Keeps Nil wa w5 from (by repeat (first | exact Keeps.refl _ _ | assumption | refine Keeps.drew ?_ | refine Keeps.drewN ?_ _ | refine Keeps.alloc ?_ _ | exact Keeps.of_nil (by assumption) | refine Keeps.trans ?_ (Keeps.of_nil (by assumption)) | refine Keeps.setCell ?_ (.inr (by first | exact Nat.le_refl _ | (dsimp only; omega))) _ | refine Keeps.setCell ?_ (.inl (by first | (unfold Old; dsimp only; omega) | (unfold Old; simp; omega) | (unfold Old; simp))) _)))); clear h5) | (go_at_call 39; refine (zint64_any (H5.out.1.zat HZ1.out.2.2.1)).mono ?_; rintro e w6 ⟨rfl, hk6⟩; obtain ⟨rc6, rf6, ra6⟩ := (show Keeps Nil w5 w6 from (by repeat (first | exact Keeps.refl _ _ | assumption | refine Keeps.drew ?_ | refine Keeps.drewN ?_ _ | refine Keeps.alloc ?_ _ | exact Keeps.of_nil (by assumption) | refine Keeps.trans ?_ (Keeps.of_nil (by assumption)) | refine Keeps.setCell ?_ (.inr (by first | exact Nat.le_refl _ | (dsimp only; omega))) _ | refine Keeps.setCell ?_ (.inl (by first | (unfold Old; dsimp only; omega) | (unfold Old; simp; omega) | (unfold Old; simp))) _))).live; have q3 := ra6 _ q0; have q4 := ra6 _ q1; have H6 := Lib.hid (H5.out.2.trans (show Keeps Nil w5 w6 from (by repeat (first | exact Keeps.refl _ _ | assumption | refine Keeps.drew ?_ | refine Keeps.drewN ?_ _ | refine Keeps.alloc ?_ _ | exact Keeps.of_nil (by assumption) | refine Keeps.trans ?_ (Keeps.of_nil (by assumption)) | refine Keeps.setCell ?_ (.inr (by first | exact Nat.le_refl _ | (dsimp only; omega))) _ | refine Keeps.setCell ?_ (.inl (by first | (unfold Old; dsimp only; omega) | (unfold Old; simp; omega) | (unfold Old; simp))) _)))); rw [← HBB.out.1, ← HBB.out.2]))
              cases bb with
              | true =>
                have hdz := int64_eq HBB.out.1.symm
                rw [← HBB.out.2] at hdz
                have hdb := of_decide_eq_true HBB.out.1.symm
                rw [← hdz] at hdb
                have hseg := HZ1.out.2.2.2
                rw [← hdz] at hseg
                have HSG := Lib.hid hseg.2
                obtain ⟨hd0, _⟩ := hseg
                clear hdz
                have i9 : IntKind.i64.wrap dd = dd := IntWalk.i64_in _ (by omega)
                clear hdb
                by_cases hdq : dd < (q : Int)
                · have i8 : min dd (q : Int) = dd := by omega
                  have i10 : ¬ (q : Int) < dd := by omega
                  go_wp2_with fail
                  go_meet
                  exact ⟨by rw [HSG.out]; congr 1; omega, H6.out⟩
                · have i8 : min dd (q : Int) = (q : Int) := by omega
                  have i9' : IntKind.i64.wrap (q : Int) = (q : Int) := IntWalk.i64_in _ (by omega)
                  go_wp2_with fail
                  go_meet
                  exact ⟨by rw [HSG.out]; congr 1; omega, H6.out⟩
              | false =>
                have hdb := of_decide_eq_false HBB.out.1.symm
                have hseg := HZ1.out.2.2.2
                have HSG := Lib.hid (show segN q zs k = q by rw [hseg.2]; omega)
                clear hdb hseg
                go_wp2_with fail
                go_meet
                exact ⟨by rw [HSG.out], H6.out⟩
            · rw [decide_eq_false hc]
              go_wp2_with fail
              go_meet
              exact ⟨by unfold segN; rw [if_neg hc], Keeps.refl _ _⟩
          case rest =>
            rename World => wb
            obtain ⟨rfl, hkb⟩ := hcut
            obtain ⟨n, hnn⟩ : ∃ n, n = segN q zs k := ⟨_, rfl⟩
            have hnq : n ≤ q := by rw [hnn]; unfold segN; split; exact Nat.min_le_right _ _; exact Nat.le_refl _
            rw [← hnn]
            have kw : Keeps Nil w wb := HL.out.2.trans (HA.out.2.trans (HX.out.2.2.1.trans hkb))
            obtain ⟨ki, hki⟩ : ∃ ki, ki = place S.cuts (segF q zs k) := ⟨_, rfl⟩
            obtain ⟨ko, hko⟩ : ∃ ko, ko = place O.cuts (segF q zs k) := ⟨_, rfl⟩
            have hkir : ki < nr := by have := place_le S.cuts (segF q zs k); have := HQ4.out.2.2.1; omega
            have hkor : ko < nr2 := by have := place_le O.cuts (segF q zs k); have := HQ4.out.2.2.2; omega
            obtain ⟨rb1, ro1, a3, n3, c3, hae, hb3, _, u0, hB⟩ := (BRows.keepNil HQ4.out.1 kw).at hkir
            obtain ⟨rb2, ro2, a4, n4, c4, hae2, hb4, _, u1, hB2⟩ := (BRows.keepNil HQ4.out.2.1 kw).at hkor
            have hn3 : n3 = S.P := by
              rw [← hB.1]; refine HF.out.1.ok.row _ ?_
              have : ki < S.rows.length := by rw [HF.out.1.ok.len]; have := HQ4.out.2.2.1; omega
              simp [List.getD, List.getElem?_eq_getElem this]
            have hn4 : n4 = O.P := by
              rw [← hB2.1]; refine HF.out.2.ok.row _ ?_
              have : ko < O.rows.length := by rw [HF.out.2.ok.len]; have := HQ4.out.2.2.2; omega
              simp [List.getD, List.getElem?_eq_getElem this]
            subst hae
            subst hae2
            subst hn3
            subst hn4
            obtain ⟨xa, hx0⟩ : ∃ xa : Nat, segF q zs k % (S.P : Int) = (xa : Int) := ⟨(segF q zs k % (S.P : Int)).toNat, by have := Int.emod_nonneg (segF q zs k) (show (S.P : Int) ≠ 0 by omega); omega⟩
            obtain ⟨xb, hx1⟩ : ∃ xb : Nat, segF q zs k % (O.P : Int) = (xb : Int) := ⟨(segF q zs k % (O.P : Int)).toNat, by have := Int.emod_nonneg (segF q zs k) (show (O.P : Int) ≠ 0 by omega); omega⟩
            have hg := HD.out
            have e2 := kw.cellE hg.1.lt id hg.2.2.2.1
            have e3 := kw.cellE hg.2.1.lt id hg.2.2.2.2.2
            have e4 := kw.cellE hg.1.lt id hg.2.2.1
            have e5 := kw.cellE hg.2.1.lt id hg.2.2.2.2.1
            have v0 := hkb.cellE lbt.lt id x0
            have v1 := hkb.cellE lbt.lt id x1
            have L1 := kw.live.2.2 _ hg.1
            have L2 := kw.live.2.2 _ hg.2.1
            have L3 := Live.of hb3
            have L4 := Live.of hb4
            have L5 := hkb.live.2.2 _ lbt
            have i1' : (0 : Int) ≤ (ki : Int) := by omega
            have i2' : (ki : Int) < (nr : Int) := by omega
            have i3' : (0 : Int) ≤ (ko : Int) := by omega
            have i4' : (ko : Int) < (nr2 : Int) := by omega
            have HKI := Lib.hid (And.intro hki (And.intro hko (And.intro hx0 (And.intro hx1 hnn))))
            have HBB := Lib.hid (And.intro hB (And.intro hB2 (And.intro kw hkb)))
            clear hki hko hx0 hx1 hnn hB hB2 kw hkb hg x0 x1 lbt hb3 hb4
            go_upto_region 17 with (fail)
            go_region_held3 (fun w' => w'.cell? ⟨p, 2, none⟩ = some (.slice (some ⟨rb1, ro1, none⟩) nr cr) ∧ w'.cell? ⟨p2, 2, none⟩ = some (.slice (some ⟨rb2, ro2, none⟩) nr2 cr2) ∧ w'.cell? ⟨rb1, ro1 + ki, none⟩ = some (.slice a3 S.P c3) ∧ w'.cell? ⟨rb2, ro2 + ko, none⟩ = some (.slice a4 O.P c4) ∧ w'.cell? ⟨w4.heap.size, 0, none⟩ = some (.bool g1) ∧ w'.cell? ⟨w4.heap.size, 1, none⟩ = some (.slice a1 n1 c1)) (go_keep) (first | (go_at_call_of 40 (Value.pointer (some ⟨p, 0, none⟩)); refine (at_any (HX.out.2.1.keepNil (HBB.out.2.2.2.trans (by repeat (first | exact Keeps.refl _ _ | assumption | refine Keeps.drew ?_ | refine Keeps.drewN ?_ _ | refine Keeps.alloc ?_ _ | exact Keeps.of_nil (by assumption) | refine Keeps.trans ?_ (Keeps.of_nil (by assumption)) | refine Keeps.setCell ?_ (.inr (by first | exact Nat.le_refl _ | (dsimp only; omega))) _ | refine Keeps.setCell ?_ (.inl (by first | (unfold Old; dsimp only; omega) | (unfold Old; simp; omega) | (unfold Old; simp))) _)))) (HS.out.1.keepNil (HBB.out.2.2.1.trans (by repeat (first | exact Keeps.refl _ _ | assumption | refine Keeps.drew ?_ | refine Keeps.drewN ?_ _ | refine Keeps.alloc ?_ _ | exact Keeps.of_nil (by assumption) | refine Keeps.trans ?_ (Keeps.of_nil (by assumption)) | refine Keeps.setCell ?_ (.inr (by first | exact Nat.le_refl _ | (dsimp only; omega))) _ | refine Keeps.setCell ?_ (.inl (by first | (unfold Old; dsimp only; omega) | (unfold Old; simp; omega) | (unfold Old; simp))) _)))) HF.out.1).mono ?_; rintro e w7 ⟨rfl, hk7⟩; rw [← HKI.out.1]; obtain ⟨rc7, rf7, ra7⟩ := (show Keeps Nil wb w7 from (by repeat (first | exact Keeps.refl _ _ | assumption | refine Keeps.drew ?_ | refine Keeps.drewN ?_ _ | refine Keeps.alloc ?_ _ | exact Keeps.of_nil (by assumption) | refine Keeps.trans ?_ (Keeps.of_nil (by assumption)) | refine Keeps.setCell ?_ (.inr (by first | exact Nat.le_refl _ | (dsimp only; omega))) _ | refine Keeps.setCell ?_ (.inl (by first | (unfold Old; dsimp only; omega) | (unfold Old; simp; omega) | (unfold Old; simp))) _))).live; have t1 := ra7 _ L1; have t2 := ra7 _ L2; have t3 := ra7 _ L3; have t4 := ra7 _ L4; have t5 := ra7 _ L5; have HK7 := Lib.hid (show Keeps Nil wb w7 from (by repeat (first | exact Keeps.refl _ _ | assumption | refine Keeps.drew ?_ | refine Keeps.drewN ?_ _ | refine Keeps.alloc ?_ _ | exact Keeps.of_nil (by assumption) | refine Keeps.trans ?_ (Keeps.of_nil (by assumption)) | refine Keeps.setCell ?_ (.inr (by first | exact Nat.le_refl _ | (dsimp only; omega))) _ | refine Keeps.setCell ?_ (.inl (by first | (unfold Old; dsimp only; omega) | (unfold Old; simp; omega) | (unfold Old; simp))) _)))) | (go_at_call_of 40 (Value.pointer (some ⟨p2, 0, none⟩)); refine (at_any (HX.out.2.1.keepNil (HBB.out.2.2.2.trans (by repeat (first | exact Keeps.refl _ _ | assumption | refine Keeps.drew ?_ | refine Keeps.drewN ?_ _ | refine Keeps.alloc ?_ _ | exact Keeps.of_nil (by assumption) | refine Keeps.trans ?_ (Keeps.of_nil (by assumption)) | refine Keeps.setCell ?_ (.inr (by first | exact Nat.le_refl _ | (dsimp only; omega))) _ | refine Keeps.setCell ?_ (.inl (by first | (unfold Old; dsimp only; omega) | (unfold Old; simp; omega) | (unfold Old; simp))) _)))) (HS.out.2.keepNil (HBB.out.2.2.1.trans (by repeat (first | exact Keeps.refl _ _ | assumption | refine Keeps.drew ?_ | refine Keeps.drewN ?_ _ | refine Keeps.alloc ?_ _ | exact Keeps.of_nil (by assumption) | refine Keeps.trans ?_ (Keeps.of_nil (by assumption)) | refine Keeps.setCell ?_ (.inr (by first | exact Nat.le_refl _ | (dsimp only; omega))) _ | refine Keeps.setCell ?_ (.inl (by first | (unfold Old; dsimp only; omega) | (unfold Old; simp; omega) | (unfold Old; simp))) _)))) HF.out.2).mono ?_; rintro e w8 ⟨rfl, hk8⟩; rw [← HKI.out.2.1]; obtain ⟨rc8, rf8, ra8⟩ := (show Keeps Nil wb w8 from (by repeat (first | exact Keeps.refl _ _ | assumption | refine Keeps.drew ?_ | refine Keeps.drewN ?_ _ | refine Keeps.alloc ?_ _ | exact Keeps.of_nil (by assumption) | refine Keeps.trans ?_ (Keeps.of_nil (by assumption)) | refine Keeps.setCell ?_ (.inr (by first | exact Nat.le_refl _ | (dsimp only; omega))) _ | refine Keeps.setCell ?_ (.inl (by first | (unfold Old; dsimp only; omega) | (unfold Old; simp; omega) | (unfold Old; simp))) _))).live; have s1 := ra8 _ L1; have s2 := ra8 _ L2; have s3 := ra8 _ L3; have s4 := ra8 _ L4; have s5 := ra8 _ L5; have HK8 := Lib.hid (show Keeps Nil wb w8 from (by repeat (first | exact Keeps.refl _ _ | assumption | refine Keeps.drew ?_ | refine Keeps.drewN ?_ _ | refine Keeps.alloc ?_ _ | exact Keeps.of_nil (by assumption) | refine Keeps.trans ?_ (Keeps.of_nil (by assumption)) | refine Keeps.setCell ?_ (.inr (by first | exact Nat.le_refl _ | (dsimp only; omega))) _ | refine Keeps.setCell ?_ (.inl (by first | (unfold Old; dsimp only; omega) | (unfold Old; simp; omega) | (unfold Old; simp))) _)))))
            clear t1 t2 t3 t4 t5 s1 s2 s3 s4 s5 rc7 rf7 ra7 rc8 rf8 ra8 hk7 hk8 e2 e3 u0 u1
            rename World => w9
            have hk9 : Keeps Nil wb w9 := by first | exact HK8.out | exact HK7.out
            have f4 := hk9.cellE L1.lt id e4
            have f5 := hk9.cellE L2.lt id e5
            have g0' := hk9.cellE L5.lt id v0
            have g1' := hk9.cellE L5.lt id v1
            have N1 := hk9.live.2.2 _ L1
            have N2 := hk9.live.2.2 _ L2
            have N5 := hk9.live.2.2 _ L5
            have HK9 := Lib.hid hk9
            have hPI : (0 : Int) < (S.P : Int) := by omega
            have hQI : (0 : Int) < (O.P : Int) := by omega
            clear hk9 e4 e5 v0 v1 L1 L2 L3 L4 L5
            go_upto_region 18 with (fail)
            go_region_held3 (fun w' => w'.cell? ⟨p, 0, none⟩ = some (.int .i64 S.P) ∧ w'.cell? ⟨p2, 0, none⟩ = some (.int .i64 O.P) ∧ w'.cell? ⟨w4.heap.size, 0, none⟩ = some (.bool g1) ∧ w'.cell? ⟨w4.heap.size, 1, none⟩ = some (.slice a1 n1 c1)) (go_keep) (first | (go_at_call_of 41 (Value.int .i64 (S.P : Int)); refine (left_any (HX.out.2.1.keepNil (HBB.out.2.2.2.trans (HK9.out.trans (by repeat (first | exact Keeps.refl _ _ | assumption | refine Keeps.drew ?_ | refine Keeps.drewN ?_ _ | refine Keeps.alloc ?_ _ | exact Keeps.of_nil (by assumption) | refine Keeps.trans ?_ (Keeps.of_nil (by assumption)) | refine Keeps.setCell ?_ (.inr (by first | exact Nat.le_refl _ | (dsimp only; omega))) _ | refine Keeps.setCell ?_ (.inl (by first | (unfold Old; dsimp only; omega) | (unfold Old; simp; omega) | (unfold Old; simp))) _))))) HX.out.2.2.2 hPI (by omega)).mono ?_; rintro e w10 ⟨rfl, hk10⟩; rw [HKI.out.2.2.1]; obtain ⟨rc10, rf10, ra10⟩ := (show Keeps Nil w9 w10 from (by repeat (first | exact Keeps.refl _ _ | assumption | refine Keeps.drew ?_ | refine Keeps.drewN ?_ _ | refine Keeps.alloc ?_ _ | exact Keeps.of_nil (by assumption) | refine Keeps.trans ?_ (Keeps.of_nil (by assumption)) | refine Keeps.setCell ?_ (.inr (by first | exact Nat.le_refl _ | (dsimp only; omega))) _ | refine Keeps.setCell ?_ (.inl (by first | (unfold Old; dsimp only; omega) | (unfold Old; simp; omega) | (unfold Old; simp))) _))).live; have t1 := ra10 _ N1; have t2 := ra10 _ N2; have t3 := ra10 _ N5; have HK10 := Lib.hid (show Keeps Nil w9 w10 from (by repeat (first | exact Keeps.refl _ _ | assumption | refine Keeps.drew ?_ | refine Keeps.drewN ?_ _ | refine Keeps.alloc ?_ _ | exact Keeps.of_nil (by assumption) | refine Keeps.trans ?_ (Keeps.of_nil (by assumption)) | refine Keeps.setCell ?_ (.inr (by first | exact Nat.le_refl _ | (dsimp only; omega))) _ | refine Keeps.setCell ?_ (.inl (by first | (unfold Old; dsimp only; omega) | (unfold Old; simp; omega) | (unfold Old; simp))) _)))) | (go_at_call_of 41 (Value.int .i64 (O.P : Int)); refine (left_any (HX.out.2.1.keepNil (HBB.out.2.2.2.trans (HK9.out.trans (by repeat (first | exact Keeps.refl _ _ | assumption | refine Keeps.drew ?_ | refine Keeps.drewN ?_ _ | refine Keeps.alloc ?_ _ | exact Keeps.of_nil (by assumption) | refine Keeps.trans ?_ (Keeps.of_nil (by assumption)) | refine Keeps.setCell ?_ (.inr (by first | exact Nat.le_refl _ | (dsimp only; omega))) _ | refine Keeps.setCell ?_ (.inl (by first | (unfold Old; dsimp only; omega) | (unfold Old; simp; omega) | (unfold Old; simp))) _))))) HX.out.2.2.2 hQI (by omega)).mono ?_; rintro e w11 ⟨rfl, hk11⟩; rw [HKI.out.2.2.2.1]; obtain ⟨rc11, rf11, ra11⟩ := (show Keeps Nil w9 w11 from (by repeat (first | exact Keeps.refl _ _ | assumption | refine Keeps.drew ?_ | refine Keeps.drewN ?_ _ | refine Keeps.alloc ?_ _ | exact Keeps.of_nil (by assumption) | refine Keeps.trans ?_ (Keeps.of_nil (by assumption)) | refine Keeps.setCell ?_ (.inr (by first | exact Nat.le_refl _ | (dsimp only; omega))) _ | refine Keeps.setCell ?_ (.inl (by first | (unfold Old; dsimp only; omega) | (unfold Old; simp; omega) | (unfold Old; simp))) _))).live; have s1 := ra11 _ N1; have s2 := ra11 _ N2; have s3 := ra11 _ N5; have HK11 := Lib.hid (show Keeps Nil w9 w11 from (by repeat (first | exact Keeps.refl _ _ | assumption | refine Keeps.drew ?_ | refine Keeps.drewN ?_ _ | refine Keeps.alloc ?_ _ | exact Keeps.of_nil (by assumption) | refine Keeps.trans ?_ (Keeps.of_nil (by assumption)) | refine Keeps.setCell ?_ (.inr (by first | exact Nat.le_refl _ | (dsimp only; omega))) _ | refine Keeps.setCell ?_ (.inl (by first | (unfold Old; dsimp only; omega) | (unfold Old; simp; omega) | (unfold Old; simp))) _)))))
            clear t1 t2 t3 s1 s2 s3 rc10 rf10 ra10 rc11 rf11 ra11 hk10 hk11 f4 f5 g0' g1' N1 N2 N5
            rename World => w12
            have hk12 : Keeps Nil w9 w12 := by first | exact HK11.out | exact HK10.out
            have HB12 := Lib.hid (And.intro (Bools.keepNil HBB.out.1 (HK9.out.trans hk12)) (And.intro (Bools.keepNil HBB.out.2.1 (HK9.out.trans hk12)) (And.intro (HBB.out.2.2.1.trans (HK9.out.trans hk12)) (HA.out.2.trans (HX.out.2.2.1.trans (HBB.out.2.2.2.trans (HK9.out.trans hk12)))))))
            clear hk12
            obtain ⟨capA, leA⟩ := And.intro HB12.out.1.2.cap HB12.out.1.2.le
            obtain ⟨capB, leB⟩ := And.intro HB12.out.2.1.2.cap HB12.out.2.1.2.le
            go_wp2_with fail
            go_loopw [14, 15, 112] (fun x y i wr2 => ∃ j xj yj : Nat, j ≤ n ∧ i = .int .i64 j ∧ x = .int .i64 xj ∧ y = .int .i64 yj ∧ (segF q zs k + (j : Int)) % (S.P : Int) = (xj : Int) ∧ (segF q zs k + (j : Int)) % (O.P : Int) = (yj : Int) ∧ (∀ j' : Nat, j' < j → has S (segF q zs k + (j' : Int)) = has O (segF q zs k + (j' : Int))) ∧ Keeps Nil w12 wr2) (fun _ _ i _ => n - (intOf i).toNat)
            case atStart => exact ⟨0, xa, xb, Nat.zero_le _, rfl, rfl, rfl, by rw [← HKI.out.2.2.1]; congr 1; omega, by rw [← HKI.out.2.2.2.1]; congr 1; omega, fun j' h => by omega, Keeps.refl _ _⟩
            case round =>
              rename World => wi
              obtain ⟨j, xj, yj, hj, rfl, rfl, rfl, hxj, hyj, heq, hki⟩ := hrel
              have hx1 : xj < S.P := by have := Int.emod_lt_of_pos (segF q zs k + (j : Int)) hPI; omega
              have hy1 : yj < O.P := by have := Int.emod_lt_of_pos (segF q zs k + (j : Int)) hQI; omega
              have HJ := Lib.hid (And.intro hxj (And.intro hyj (And.intro heq hki)))
              by_cases hjt : j < n
              · obtain ⟨b5, o5, hae3, hb5, _, p0⟩ := (Bools.keepNil HB12.out.1 hki).at hx1
                obtain ⟨b6, o6, hae4, hb6, _, p1⟩ := (Bools.keepNil HB12.out.2.1 hki).at hy1
                subst hae3
                subst hae4
                have hhs := seg_has HF.out.1.ok HZ.out.1 HZ.out.2.1 (k := k) (by omega) (HKI.out.2.2.2.2 ▸ hjt) hxj
                have hho := seg_has HF.out.2.ok HZ.out.1 HZ.out.2.2.1 (k := k) (by omega) (HKI.out.2.2.2.2 ▸ hjt) hyj
                rw [← HKI.out.1] at hhs
                rw [← HKI.out.2.1] at hho
                have i1x : (xj : Int) < (S.P : Int) := by omega
                have i1y : (yj : Int) < (O.P : Int) := by omega
                have i2x : (0 : Int) ≤ (xj : Int) := by omega
                have i2y : (0 : Int) ≤ (yj : Int) := by omega
                have ijn : (j : Int) < (n : Int) := by omega
                have HHAS := Lib.hid (And.intro hhs hho)
                clear hhs hho hxj hyj heq hki
                by_cases he : (S.rows.getD ki []).getD xj false = (O.rows.getD ko []).getD yj false
                · have HE := Lib.hid he
                  rw [← he] at p1
                  generalize hvx : (S.rows.getD ki []).getD xj false = vx at *
                  have i3x : IntKind.i64.wrap ((xj : Int) + 1) = (xj : Int) + 1 := IntWalk.i64_in _ (by omega)
                  have i3y : IntKind.i64.wrap ((yj : Int) + 1) = (yj : Int) + 1 := IntWalk.i64_in _ (by omega)
                  have hP0 : ¬ (S.P : Int) = 0 := by omega
                  have hQ0 : ¬ (O.P : Int) = 0 := by omega
                  have HVX := Lib.hid hvx
                  clear he hvx
                  go_wp2_with fail
                  go_quiet (fail)
                  go_wp2_with fail
                  go_quiet (fail)
                  go_wp2_with fail
                  go_roundw
                  case rel =>
                    refine ⟨j + 1, (xj + 1) % S.P, (yj + 1) % O.P, by omega, by go_num, ?_, ?_, ?_, ?_, fun j' hj' => ?_, HJ.out.2.2.2.trans (by repeat (first | exact Keeps.refl _ _ | refine Keeps.drew ?_ | refine Keeps.drewN ?_ _ | refine Keeps.alloc ?_ _))⟩
                    · exact congrArg (Value.int .i64) (by rw [Int.natCast_emod, Int.natCast_add]; rfl)
                    · exact congrArg (Value.int .i64) (by rw [Int.natCast_emod, Int.natCast_add]; rfl)
                    · rw [← mod_step HJ.out.1]; congr 1; omega
                    · rw [← mod_step HJ.out.2.1]; congr 1; omega
                    · rcases Nat.lt_succ_iff_lt_or_eq.1 hj' with h | rfl
                      · exact HJ.out.2.2.1 j' h
                      · rw [HHAS.out.1, HHAS.out.2]; exact HE.out
                  case measure => simp [intOf]; omega
                · have hx : ((S.rows.getD ki []).getD xj false == (O.rows.getD ko []).getD yj false) = false := by simpa using he
                  have hy : ¬ (S.rows.getD ki []).getD xj false = (O.rows.getD ko []).getD yj false := he
                  have HNE := Lib.hid (show ¬ ∀ x, has S x = has O x from fun h => he (by rw [← HHAS.out.1, ← HHAS.out.2]; exact h _))
                  clear he HHAS
                  generalize (S.rows.getD ki []).getD xj false = vx at *
                  generalize (O.rows.getD ko []).getD yj false = vy at *
                  go_wp2_with fail
                  go_quiet (fail)
                  go_wp2_with fail
                  go_ret
                  exact ⟨false, rfl, ⟨fun h => (by cases h), fun h => absurd h HNE.out⟩, HB12.out.2.2.1.trans (HJ.out.2.2.2.trans (by repeat (first | exact Keeps.refl _ _ | refine Keeps.drew ?_ | refine Keeps.drewN ?_ _ | refine Keeps.alloc ?_ _)))⟩
              · obtain rfl : j = n := by omega
                clear hxj hyj heq hki
                go_wp2_with fail
                go_roundw
                case rel => exact ⟨k + 1, by omega, by go_num, fun k' j' hk' hj' => by rcases Nat.lt_succ_iff_lt_or_eq.1 hk' with h | rfl; exact HA.out.1 k' j' h hj'; exact HJ.out.2.2.1 j' (by rw [HKI.out.2.2.2.2]; exact hj'), HB12.out.2.2.2.trans HJ.out.2.2.2⟩
                case measure => simp [intOf]; omega
    · obtain rfl : k = zs.length + 1 := by omega
      have hkI : ¬ (((zs.length + 1 : Nat) : Int) < (zs.length : Int) + 1) := by omega
      go_wp2_with fail
      go_ret
      exact ⟨true, rfl, ⟨fun _ => same_all hq1 HQ.out.1 HQ.out.2 HZ.out.1 HZ.out.2.1 HZ.out.2.2.1 (fun k j hk hj => HA.out.1 k j (by omega) hj), fun _ => rfl⟩, HL.out.2.trans HA.out.2⟩
end Go.Proofs.YtfkclbhddiidbaaGreat
