/- What riddleref18's Same does: have two sets the same numbers? Conditions: the sets' own reading; room. -/
import Derived.Test.YtfkclbhddiidbaaGreatKRSet9
import Derived.Test.YtfkclbhddiidbaaGreatKRSet8
import Derived.Test.YtfkclbhddiidbaaGreatKRSetA
import Derived.Test.YtfkclbhddiidbaaGreatKRJoined
import Derived.Test.YtfkclbhddiidbaaGreatKPSame
namespace Go.Rid
theorem mod_addn {A : Int} {P x : Nat} (h : A % (P : Int) = (x : Int)) (j : Nat) : (A + (j : Int)) % (P : Int) = (((x + j) % P : Nat) : Int) := by
  rw [Int.natCast_emod, Int.natCast_add, ← h, Int.emod_add_emod]
theorem tmod_add (x j p : Nat) : ((x : Int) + (j : Int)).tmod (p : Int) = (((x + j) % p : Nat) : Int) := by
  rw [← Int.natCast_add]; exact tmod_nat _ _
theorem segF_fit40 {q k : Nat} {zs : List Int} (hq : q ≤ 16777216) (hf : ∀ z ∈ zs, nlen z.natAbs * 4 + 64 ≤ 140737488355328) (hk : k ≤ zs.length) : nlen (segF q zs k).natAbs * 4 + 40 ≤ 140737488355328 := by
  unfold segF
  split
  · have := hf _ (seg_mem (zs := zs) (i := k - 1) (by omega)); omega
  · split
    · rename_i h
      have h0 := hf _ (seg_mem (zs := zs) (i := 0) h)
      have h1 := nlen_natAbs_add (zth zs 0) (-(q : Int))
      rw [Int.natAbs_neg] at h1
      have h2 := nlen_nat_small hq
      rw [Int.sub_eq_add_neg]
      omega
    · have : nlen (0 : Int).natAbs = 0 := by simp [nlen, limbsOf_zero]
      omega
end Go.Rid
namespace Go.Proofs.YtfkclbhddiidbaaGreat
open Go.RowKit Go.Rid
set_option maxHeartbeats 8000000 in
set_option maxRecDepth 100000 in
theorem refsame18_any {M : Nat → Prop} {ac ar ac2 ar2 : Option Addr} {nc cc nr cr nc2 cc2 nr2 cr2 : Nat} {S O : PSet} {w : World} (hs0 : SV M w ac nc cc ar nr cr S) (hs2 : SV M w ac2 nc2 cc2 ar2 nr2 cr2 O) (hf : Fine S) (hf2 : Fine O) :
    Calls Tryz.prog 12 #[.agg #[.int .i64 (S.P : Int), .slice ac nc cc, .slice ar nr cr], .agg #[.int .i64 (O.P : Int), .slice ac2 nc2 cc2, .slice ar2 nr2 cr2]] w fun e w' => SameRet w S O e w' := by
  have k00 : Keeps Nil w (w.alloc (.cells #[.int .i64 (S.P : Int), .slice ac nc cc, .slice ar nr cr] 30)) := (by repeat (first | exact Keeps.refl _ _ | refine Keeps.drew ?_ | refine Keeps.drewN ?_ _ | refine Keeps.alloc ?_ _))
  have k01 : Keeps Nil (w.alloc (.cells #[.int .i64 (S.P : Int), .slice ac nc cc, .slice ar nr cr] 30)) ((w.alloc (.cells #[.int .i64 (S.P : Int), .slice ac nc cc, .slice ar nr cr] 30)).alloc (.cells #[.int .i64 (O.P : Int), .slice ac2 nc2 cc2, .slice ar2 nr2 cr2] 30)) := (by repeat (first | exact Keeps.refl _ _ | refine Keeps.drew ?_ | refine Keeps.drewN ?_ _ | refine Keeps.alloc ?_ _))
  have r0 := (RowIs.alloc (w := w) (E := 30) (xs := [.int .i64 (S.P : Int), .slice ac nc cc, .slice ar nr cr])).keep k01 id
  have r1 := RowIs.alloc (w := w.alloc (.cells #[.int .i64 (S.P : Int), .slice ac nc cc, .slice ar nr cr] 30)) (E := 30) (xs := [.int .i64 (O.P : Int), .slice ac2 nc2 cc2, .slice ar2 nr2 cr2])
  rw [show (w.alloc (.cells #[.int .i64 (S.P : Int), .slice ac nc cc, .slice ar nr cr] 30)).heap.size = w.heap.size + 1 by simp] at r1
  change RowIs ((w.alloc (.cells #[.int .i64 (S.P : Int), .slice ac nc cc, .slice ar nr cr] 30)).alloc (.cells #[.int .i64 (O.P : Int), .slice ac2 nc2 cc2, .slice ar2 nr2 cr2] 30)) _ _ _ at r1
  have hk0 := k00.trans k01
  have HS := Lib.hid (And.intro (hs0.toNil.keepNil hk0) (hs2.toNil.keepNil hk0))
  have HF := Lib.hid (And.intro hf hf2)
  have hP := hf.ok.pos
  have hP2 := hf.ok.le
  have hQ := hf2.ok.pos
  have hQ2 := hf2.ok.le
  have HB := Lib.hid (And.intro r0 (And.intro r1 hk0))
  obtain ⟨cap4, le4⟩ := And.intro hs0.2.cap hs0.2.le
  obtain ⟨cap5, le5⟩ := And.intro hs2.2.cap hs2.2.le
  clear hs0 hs2 hf hf2 k00 k01
  obtain ⟨la', ls, ld, ln, ln', ln1, ln1', lc', lf⟩ := liveRules
  go_enter Tryz.func12, Tryz.ntmps12
  go_upto_region 1 with (fail)
  generalize (w.alloc (.cells #[.int .i64 (S.P : Int), .slice ac nc cc, .slice ar nr cr] 30)).alloc (.cells #[.int .i64 (O.P : Int), .slice ac2 nc2 cc2, .slice ar2 nr2 cr2] 30) = w0 at *
  obtain ⟨d0, d1, d2⟩ := r0.three
  obtain ⟨e0, e1, e2⟩ := r1.three
  have m3 := Live.of r0.lt
  have m4 := Live.of r1.lt
  clear r0 r1 hk0
  obtain ⟨zs, hzs⟩ : ∃ zs, zs = mergeC S.cuts O.cuts := ⟨_, rfl⟩
  have hn : zs.length ≤ 2000 := by
    have := Rid.length_mergeC S.cuts O.cuts
    rw [← hzs] at this
    have := HF.out.1.few
    have := HF.out.2.few
    omega
  have hqb : Nat.lcm S.P O.P ≤ 16777216 := lcm_small hP2 hQ2
  have hq1 : 1 ≤ Nat.lcm S.P O.P := lcm_pos hP hQ
  have HQ := Lib.hid (And.intro (Nat.dvd_lcm_left S.P O.P) (Nat.dvd_lcm_right S.P O.P))
  have hzp : zs.Pairwise (· < ·) := by rw [hzs]; exact sorted_mergeC HF.out.2.ok.sorted
  have hz1 : ∀ c ∈ S.cuts, c ∈ zs := fun c hc => by rw [hzs, mem_mergeC]; exact .inl hc
  have hz2 : ∀ c ∈ O.cuts, c ∈ zs := fun c hc => by rw [hzs, mem_mergeC]; exact .inr hc
  have hzf : ∀ z ∈ zs, nlen z.natAbs * 4 + 64 ≤ 140737488355328 := fun z hz => by
    rw [hzs, mem_mergeC] at hz
    rcases hz with hz | hz
    · exact HF.out.1.fit z hz
    · exact HF.out.2.fit z hz
  have HZ := Lib.hid (And.intro hzp (And.intro hz1 (And.intro hz2 hzf)))
  have HZS := Lib.hid hzs
  clear hzp hz1 hz2 hzf
  go_upto_region 2 with (go_at_call 42; refine (refcuts_any (M := Nil) (MB.nil _) HS.out.1.1 HS.out.2.1 HF.out.1.ok.sorted HF.out.2.ok.sorted HF.out.1.fit4 HF.out.2.fit4 (by have := HS.out.1.1.len; have := HF.out.1.few; omega) (by have := HS.out.2.1.len; have := HF.out.2.few; omega)).mono ?_; rintro e w3 ⟨la, lc, rfl, hzl, hk3⟩; have HL := Lib.hid (And.intro hzl hk3); clear hzl hk3)
  rw [← hzs] at HL ⊢
  clear hzs
  obtain ⟨capz, lez⟩ := And.intro HL.out.1.cap HL.out.1.le
  have d0' := HL.out.2.cellE m3.lt id d0
  have e0' := HL.out.2.cellE m4.lt id e0
  go_upto_region 3 with (go_at_call 43; refine (reflcm_any hP hP2 hQ hQ2).mono ?_; rintro e w' ⟨rfl, rfl⟩)
  clear d0' e0'
  generalize Nat.lcm S.P O.P = q at *
  have jn : IntKind.i64.wrap ((zs.length : Int) + 1) = (zs.length : Int) + 1 := IntWalk.i64_in _ (by omega)
  go_wp2_with fail
  go_loopw [7] (fun i wr => ∃ k : Nat, k ≤ zs.length + 1 ∧ i = .int .i64 k ∧ (∀ k' j : Nat, k' < k → j < segN q zs k' → has S (segF q zs k' + (j : Int)) = has O (segF q zs k' + (j : Int))) ∧ Keeps Nil w3 wr) (fun i _ => zs.length + 1 - (intOf i).toNat)
  case atStart => exact ⟨0, Nat.zero_le _, rfl, fun k' j h => by omega, Keeps.refl _ _⟩
  case round =>
    obtain ⟨k, hk, rfl, hall, hkk⟩ := hrel
    have HA := Lib.hid (And.intro hall hkk)
    clear hall hkk
    by_cases hlt : k < zs.length + 1
    · have i1 : (k : Int) ≤ (zs.length : Int) := by omega
      go_upto_region 7 with (go_at_call 20; refine (refof_any (M := Nil) (z := 0) (MB.nil _) (by omega) (by omega)).mono ?_; rintro e w4 ⟨g0, a0, n0, c0, rfl, h0, hk4⟩)
      have hkd : Keeps Nil w4 (w4.alloc (.cells #[.bool g0, .slice a0 n0 c0] 38)) := (by repeat (first | exact Keeps.refl _ _ | refine Keeps.drew ?_ | refine Keeps.drewN ?_ _ | refine Keeps.alloc ?_ _))
      have rbt := RowIs.alloc (w := w4) (E := 38) (xs := [.bool g0, .slice a0 n0 c0])
      change RowIs (w4.alloc (.cells #[.bool g0, .slice a0 n0 c0] 38)) _ _ _ at rbt
      generalize w4.alloc (.cells #[.bool g0, .slice a0 n0 c0] 38) = wd at *
      have H0 := Lib.hid (And.intro (h0.keepNil hkd) (And.intro rbt (And.intro hkd (hk4.trans hkd))))
      have zbt := rbt.lt
      have zsz := hk4.size
      clear h0 rbt hkd hk4
      go_upto_if 36 with (fail)
      go_cut [] (fun wx => BoxZ wr w4.heap.size (segF q zs k) wx)
      case first =>
        obtain ⟨c00, c01, f00, f01⟩ := H0.out.2.1.two
        by_cases h0 : 0 < k
        · have i2 : (0 : Int) < (k : Int) := by omega
          have i3 : decide ((0 : Int) < (k : Int)) = true := decide_eq_true i2
          obtain ⟨m, rfl⟩ : ∃ m, k = m + 1 := ⟨k - 1, by omega⟩
          have j1 : IntKind.i64.wrap (m : Int) = (m : Int) := IntWalk.i64_in _ (by omega)
          have j2 : IntKind.i64.wrap ((m : Int) + 1 - 1) = (m : Int) := by rw [show (m : Int) + 1 - 1 = (m : Int) by omega]; exact j1
          have j3 : IntKind.i64.wrap (((m + 1 : Nat) : Int) - 1) = (m : Int) := by rw [show ((m + 1 : Nat) : Int) - 1 = (m : Int) by omega]; exact j1
          have j4 : (0 : Int) ≤ (m : Int) := by omega
          have j5 : (m : Int) < (zs.length : Int) := by omega
          have hmz : m < zs.length := by omega
          obtain ⟨b, off, s, a, n, c, hae, hb, _, x0, x1, hz⟩ := (HL.out.1.keepNil HA.out.2).at hmz
          subst hae
          have y0 := H0.out.2.2.2.cellE hb id x0
          have y1 := H0.out.2.2.2.cellE hb id x1
          have HZ1 := Lib.hid hz
          clear hz x0 x1
          go_wp2_with fail
          go_meet
          have kx : Keeps Nil wr _ := H0.out.2.2.2.own zsz (Keeps.pair (.bool s) (.slice a n c))
          exact ⟨s, a, n, c, H0.out.2.1.pair, by unfold segF; rw [if_pos h0]; exact HZ1.out.keepNil kx, kx⟩
        · have i2 : ¬ (0 : Int) < (k : Int) := by omega
          have i3 : decide ((0 : Int) < (k : Int)) = false := decide_eq_false i2
          by_cases hz0 : 0 < zs.length
          · have i4 : (0 : Int) < (zs.length : Int) := by omega
            have i5 : decide ((0 : Int) < (zs.length : Int)) = true := decide_eq_true i4
            obtain ⟨b, off, s, a, n, c, hae, hb, _, x0, x1, hz⟩ := (HL.out.1.keepNil HA.out.2).at hz0
            subst hae
            rw [Nat.zero_mul, Nat.add_zero] at x0 x1
            have y0 := H0.out.2.2.2.cellE hb id x0
            have y1 := H0.out.2.2.2.cellE hb id x1
            have hb' : b < wd.heap.size := Nat.lt_of_lt_of_le hb H0.out.2.2.2.size
            have hzf := HZ.out.2.2.2 _ (seg_mem hz0)
            have hqf := nlen_nat_small hqb
            have HZ1 := Lib.hid (And.intro ((hz.toNil.zat (by omega)).keepNil H0.out.2.2.2) (fit_ofN hz (by omega)))
            clear hz x0 x1
            have hMB : MB (One w4.heap.size) wd := fun x hx => by cases (show x = _ from hx); exact zbt
            go_upto_region 11 with (fail)
            go_wp2_with fail
            refine wp_region_till (Keeps Nil wd) [6] (by kernel_rfl) ?_
            have hS : Keeps Nil wd (World.drew wd) := (by repeat (first | exact Keeps.refl _ _ | refine Keeps.drew ?_ | refine Keeps.drewN ?_ _ | refine Keeps.alloc ?_ _))
            refine wpTill_take (i := 0) (v := ?v1) rfl (by kernel_rfl) (fun _ _ _ h => h) (Or.inl ⟨by rfl, ?y1⟩) hS ?r1
            case y1 => (intro w' hSw; obtain ⟨hrc, hrf⟩ := hSw.rules; clear hSw;  go_simp; (try with_reducible rfl))
            try simp only [Act.put, List.setIfInBounds_toArray, List.set_cons_zero, List.set_cons_succ]
            refine wpTill_take (i := 1) (v := ?v2) rfl (by kernel_rfl) (fun _ _ _ h => h) (Or.inl ⟨by rfl, ?y2⟩) hS ?r2
            case y2 => (intro w' hSw; obtain ⟨hrc, hrf⟩ := hSw.rules; clear hSw;  go_simp; (try with_reducible rfl))
            try simp only [Act.put, List.setIfInBounds_toArray, List.set_cons_zero, List.set_cons_succ]
            refine wpTill_take (i := 2) (v := ?v3) rfl (by kernel_rfl) (fun _ _ _ h => h) (Or.inl ⟨by rfl, ?y3⟩) hS ?r3
            case y3 => (intro w' hSw; obtain ⟨hrc, hrf⟩ := hSw.rules; clear hSw;  go_simp; (try with_reducible rfl))
            try simp only [Act.put, List.setIfInBounds_toArray, List.set_cons_zero, List.set_cons_succ]
            refine wpTill_take (i := 3) (v := ?v4) rfl (by kernel_rfl) (fun _ _ _ h => h) (Or.inl ⟨by rfl, ?y4⟩) hS ?r4
            case y4 => (intro w' hSw; obtain ⟨hrc, hrf⟩ := hSw.rules; clear hSw;  go_simp; (try with_reducible rfl))
            try simp only [Act.put, List.setIfInBounds_toArray, List.set_cons_zero, List.set_cons_succ]
            refine wpTill_ready (rs := [4]) (by kernel_rfl) (by simp) ?_
            refine AllTill.cons rfl (fun K hK => ?_) AllTill.nil
            go_simp
            refine (refof_any (M := One w4.heap.size) (z := (q : Int)) (hMB.keep hS) (by omega) (by omega)).mono ?_
            rintro e w1 ⟨g8, a8, n8, c8, rfl, h8, hk⟩
            refine hK.out _ _ (fun h => h.trans hk) ?_
            clear hK K
            try simp only [Act.put, List.setIfInBounds_toArray, List.set_cons_zero, List.set_cons_succ]
            replace hS := hS.trans hk
            have H8 := Lib.hid h8
            clear hk h8
            refine wpTill_ready (rs := [5]) (by kernel_rfl) (by simp) ?_
            refine AllTill.cons rfl (fun K hK => ?_) AllTill.nil
            go_simp
            refine (refsub_any (M := One w4.heap.size) (hMB.keep hS) (HZ1.out.1.keepNil hS) (H8.out.zat (by omega)) HZ1.out.2 (fit_ofN H8.out (by omega))).mono ?_
            rintro e w1 ⟨g9, a9, n9, c9, rfl, h9, hk⟩
            refine hK.out _ _ (fun h => h.trans hk) ?_
            clear hK K
            try simp only [Act.put, List.setIfInBounds_toArray, List.set_cons_zero, List.set_cons_succ]
            replace hS := hS.trans hk
            have H9 := Lib.hid (And.intro h9 hS)
            obtain ⟨q0, q1, q2, q3⟩ := (H0.out.2.1.keep hS id).two
            have q4 := (H0.out.2.1.keep hS id).lt
            clear hk h9
            clear hS
            refine wpTill_ready (rs := [6]) (by kernel_rfl) (by simp) ?_
            refine AllTill.consT rfl (by decide) (fun K hK => ?_) AllTill.nil
            go_simp
            refine hK.out _ _ ?_
            clear hK K
            try simp only [Act.put, List.setIfInBounds_toArray, List.set_cons_zero, List.set_cons_succ]
            refine wpTill_done (by kernel_rfl) ?_ _
            skip
            go_wp2_with fail
            go_meet
            have kx : Keeps Nil wr _ := (H0.out.2.2.2.trans H9.out.2).own zsz (Keeps.pair (.bool g9) (.slice a9 n9 c9))
            exact ⟨g9, a9, n9, c9, (H0.out.2.1.keep H9.out.2 id).pair, by unfold segF; rw [if_neg h0, if_pos hz0]; exact (H9.out.1.move (Keeps.pair _ _) (fun _ _ => id) fun _ _ h => h.elim), kx⟩
          · have i4 : ¬ (0 : Int) < (zs.length : Int) := by omega
            have i5 : decide ((0 : Int) < (zs.length : Int)) = false := decide_eq_false i4
            go_wp2_with fail
            go_meet
            exact ⟨g0, a0, n0, c0, H0.out.2.1, by unfold segF; rw [if_neg h0, if_neg hz0]; exact H0.out.1, H0.out.2.2.2⟩
      case rest =>
        rename World => wa
        obtain ⟨g1, a1, n1, c1, rb, hz, hkx⟩ := hcut
        have hfit := segF_fit (k := k) hqb HZ.out.2.2.2 (by omega)
        have HX := Lib.hid (And.intro rb (And.intro (hz.zat hfit) (And.intro hkx (fit_ofN hz hfit))))
        have HNF := Lib.hid (show n1 * 4 + 40 ≤ 140737488355328 by rw [hz.len]; exact segF_fit40 hqb HZ.out.2.2.2 (by omega))
        obtain ⟨x0, x1, _, _⟩ := rb.two
        have lbt := Live.of rb.lt
        clear rb hz hkx hfit H0 zbt zsz
        go_upto_region 12 with (fail)
        go_cut [58] (fun v wx => v = .bool (decide (0 < k ∧ k < zs.length)) ∧ wa = wx)
        case first =>
          by_cases h0 : 0 < k
          · have i2 : (0 : Int) < (k : Int) := by omega
            have i3 : decide ((0 : Int) < (k : Int)) = true := decide_eq_true i2
            by_cases h1 : k < zs.length
            · have i4 : (k : Int) < (zs.length : Int) := by omega
              have i5 : decide ((k : Int) < (zs.length : Int)) = true := decide_eq_true i4
              go_wp2_with fail
              go_meet
              exact ⟨by rw [decide_eq_true ⟨h0, h1⟩], rfl⟩
            · have i4 : ¬ (k : Int) < (zs.length : Int) := by omega
              have i5 : decide ((k : Int) < (zs.length : Int)) = false := decide_eq_false i4
              go_wp2_with fail
              go_meet
              exact ⟨by rw [decide_eq_false (fun h => h1 h.2)], rfl⟩
          · have i2 : ¬ (0 : Int) < (k : Int) := by omega
            have i3 : decide ((0 : Int) < (k : Int)) = false := decide_eq_false i2
            go_wp2_with fail
            go_meet
            exact ⟨by rw [decide_eq_false (fun h => h0 h.1)], rfl⟩
        case rest =>
          obtain ⟨rfl, rfl⟩ := hcut
          go_upto_if 58 with (fail)
          go_cut [9] (fun v wx => v = .int .i64 (segN q zs k : Nat) ∧ Keeps Nil wa wx)
          case first =>
            by_cases hc : 0 < k ∧ k < zs.length
            · rw [decide_eq_true hc]
              obtain ⟨b, off, s, a, n, c, hae, hb, _, y0, y1, hz⟩ := (HL.out.1.keepNil (HA.out.2.trans HX.out.2.2.1)).at hc.2
              subst hae
              have lb := Live.of hb
              have hzf := HZ.out.2.2.2 _ (seg_mem hc.2)
              have hsf := segF_fit (k := k) hqb HZ.out.2.2.2 (by omega)
              have hs1 : nlen (zth zs k - segF q zs k).natAbs * 4 + 4 ≤ 140737488355328 := by
                have h1 := nlen_natAbs_add (zth zs k) (-(segF q zs k))
                rw [Int.natAbs_neg] at h1
                have h2 : segF q zs k = zth zs (k - 1) := by unfold segF; rw [if_pos hc.1]
                have h3 := HZ.out.2.2.2 _ (seg_mem (zs := zs) (i := k - 1) (by omega))
                rw [h2] at h1 ⊢
                rw [Int.sub_eq_add_neg]
                omega
              have hd : 0 < zth zs k - segF q zs k ∧ segN q zs k = min (zth zs k - segF q zs k).toNat q := by
                have h2 : segF q zs k = zth zs (k - 1) := by unfold segF; rw [if_pos hc.1]
                have h3 := seg_mono HZ.out.1 (show k - 1 < k by omega) hc.2
                refine ⟨by omega, ?_⟩
                unfold segN
                rw [if_pos hc, h2]
              have HZ1 := Lib.hid (And.intro (hz.toNil.zat (by omega)) (And.intro (fit_ofN hz (by omega)) (And.intro hs1 hd)))
              have i2 : (k : Int) < (zs.length : Int) := by omega
              have i3 : (0 : Int) ≤ (k : Int) := by omega
              clear hz hzf hsf hs1 hd hb
              have hz63 : ∃ bb, bb = fits64 (zth zs k - segF q zs k) := ⟨_, rfl⟩
              obtain ⟨bb, hbb⟩ := hz63
              obtain ⟨dd, hdd⟩ : ∃ dd, dd = int64 (zth zs k - segF q zs k) := ⟨_, rfl⟩
              have HBB := Lib.hid (And.intro hbb hdd)
              clear hbb hdd
              go_upto_region 13 with (fail)
              go_wp2_with fail
              go_region_held3 (fun w' => w'.cell? ⟨b, off + k * 2, none⟩ = some (.bool s) ∧ w'.cell? ⟨b, off + k * 2 + 1, none⟩ = some (.slice a n c) ∧ w'.cell? ⟨w4.heap.size, 0, none⟩ = some (.bool g1) ∧ w'.cell? ⟨w4.heap.size, 1, none⟩ = some (.slice a1 n1 c1)) (go_keep) (first | (go_at_call 44; refine (refsub_any (M := Nil) (MB.nil _) (HZ1.out.1.keepNil (by repeat (first | exact Keeps.refl _ _ | assumption | refine Keeps.drew ?_ | refine Keeps.drewN ?_ _ | refine Keeps.alloc ?_ _ | exact Keeps.of_nil (by assumption) | refine Keeps.trans ?_ (Keeps.of_nil (by assumption)) | refine Keeps.setCell ?_ (.inr (by first | exact Nat.le_refl _ | (dsimp only; omega))) _ | refine Keeps.setCell ?_ (.inl (by first | (unfold Old; dsimp only; omega) | (unfold Old; simp; omega) | (unfold Old; simp))) _))) (HX.out.2.1.keepNil (by repeat (first | exact Keeps.refl _ _ | assumption | refine Keeps.drew ?_ | refine Keeps.drewN ?_ _ | refine Keeps.alloc ?_ _ | exact Keeps.of_nil (by assumption) | refine Keeps.trans ?_ (Keeps.of_nil (by assumption)) | refine Keeps.setCell ?_ (.inr (by first | exact Nat.le_refl _ | (dsimp only; omega))) _ | refine Keeps.setCell ?_ (.inl (by first | (unfold Old; dsimp only; omega) | (unfold Old; simp; omega) | (unfold Old; simp))) _))) HZ1.out.2.1 HX.out.2.2.2).mono ?_; rintro e w5 ⟨g5, a5, n5, m5, rfl, h5, hk5⟩; obtain ⟨rc5, rf5, ra5⟩ := (show Keeps Nil wa w5 from (by repeat (first | exact Keeps.refl _ _ | assumption | refine Keeps.drew ?_ | refine Keeps.drewN ?_ _ | refine Keeps.alloc ?_ _ | exact Keeps.of_nil (by assumption) | refine Keeps.trans ?_ (Keeps.of_nil (by assumption)) | refine Keeps.setCell ?_ (.inr (by first | exact Nat.le_refl _ | (dsimp only; omega))) _ | refine Keeps.setCell ?_ (.inl (by first | (unfold Old; dsimp only; omega) | (unfold Old; simp; omega) | (unfold Old; simp))) _))).live; have q0 := ra5 _ lb; have q1 := ra5 _ lbt; have H5 := Lib.hid (And.intro h5 (show Keeps Nil wa w5 from (by repeat (first | exact Keeps.refl _ _ | assumption | refine Keeps.drew ?_ | refine Keeps.drewN ?_ _ | refine Keeps.alloc ?_ _ | exact Keeps.of_nil (by assumption) | refine Keeps.trans ?_ (Keeps.of_nil (by assumption)) | refine Keeps.setCell ?_ (.inr (by first | exact Nat.le_refl _ | (dsimp only; omega))) _ | refine Keeps.setCell ?_ (.inl (by first | (unfold Old; dsimp only; omega) | (unfold Old; simp; omega) | (unfold Old; simp))) _)))); clear h5) | (go_at_call 45; refine (refint64_any (H5.out.1.zat HZ1.out.2.2.1)).mono ?_; rintro e w6 ⟨rfl, hk6⟩; obtain ⟨rc6, rf6, ra6⟩ := (show Keeps Nil w5 w6 from (by repeat (first | exact Keeps.refl _ _ | assumption | refine Keeps.drew ?_ | refine Keeps.drewN ?_ _ | refine Keeps.alloc ?_ _ | exact Keeps.of_nil (by assumption) | refine Keeps.trans ?_ (Keeps.of_nil (by assumption)) | refine Keeps.setCell ?_ (.inr (by first | exact Nat.le_refl _ | (dsimp only; omega))) _ | refine Keeps.setCell ?_ (.inl (by first | (unfold Old; dsimp only; omega) | (unfold Old; simp; omega) | (unfold Old; simp))) _))).live; have q3 := ra6 _ q0; have q4 := ra6 _ q1; have H6 := Lib.hid (H5.out.2.trans (show Keeps Nil w5 w6 from (by repeat (first | exact Keeps.refl _ _ | assumption | refine Keeps.drew ?_ | refine Keeps.drewN ?_ _ | refine Keeps.alloc ?_ _ | exact Keeps.of_nil (by assumption) | refine Keeps.trans ?_ (Keeps.of_nil (by assumption)) | refine Keeps.setCell ?_ (.inr (by first | exact Nat.le_refl _ | (dsimp only; omega))) _ | refine Keeps.setCell ?_ (.inl (by first | (unfold Old; dsimp only; omega) | (unfold Old; simp; omega) | (unfold Old; simp))) _)))); rw [← HBB.out.1, ← HBB.out.2]))
              cases bb with
              | true =>
                have hdz := int64_eq HBB.out.1.symm
                rw [← HBB.out.2] at hdz
                have hdb := of_decide_eq_true HBB.out.1.symm
                rw [← hdz] at hdb
                have hseg := HZ1.out.2.2.2
                rw [← hdz] at hseg
                have HSG := Lib.hid hseg.2
                obtain ⟨hd0, _⟩ := hseg
                clear hdz
                have i9 : IntKind.i64.wrap dd = dd := IntWalk.i64_in _ (by omega)
                clear hdb
                by_cases hdq : dd < (q : Int)
                · have i8 : decide (dd < (q : Int)) = true := decide_eq_true hdq
                  go_wp2_with fail
                  go_meet
                  exact ⟨by rw [HSG.out]; congr 1; omega, H6.out⟩
                · have i8 : decide (dd < (q : Int)) = false := decide_eq_false hdq
                  go_wp2_with fail
                  go_meet
                  exact ⟨by rw [HSG.out]; congr 1; omega, H6.out⟩
              | false =>
                have hdb := of_decide_eq_false HBB.out.1.symm
                have hseg := HZ1.out.2.2.2
                have HSG := Lib.hid (show segN q zs k = q by rw [hseg.2]; omega)
                clear hdb hseg
                go_wp2_with fail
                go_meet
                exact ⟨by rw [HSG.out], H6.out⟩
            · rw [decide_eq_false hc]
              go_wp2_with fail
              go_meet
              exact ⟨by unfold segN; rw [if_neg hc], Keeps.refl _ _⟩
          case rest =>
            rename World => wb
            obtain ⟨rfl, hkb⟩ := hcut
            obtain ⟨n, hnn⟩ : ∃ n, n = segN q zs k := ⟨_, rfl⟩
            have hnq : n ≤ q := by rw [hnn]; unfold segN; split; exact Nat.min_le_right _ _; exact Nat.le_refl _
            rw [← hnn]
            have kw : Keeps Nil w0 wb := HL.out.2.trans (HA.out.2.trans (HX.out.2.2.1.trans hkb))
            obtain ⟨ki, hki⟩ : ∃ ki, ki = place S.cuts (segF q zs k) := ⟨_, rfl⟩
            obtain ⟨ko, hko⟩ : ∃ ko, ko = place O.cuts (segF q zs k) := ⟨_, rfl⟩
            obtain ⟨hkir, rb1, ro1, a3, c3, hae, hb3, u0, hB⟩ := SV.row (HS.out.1.keepNil kw) HF.out.1 (place_le S.cuts (segF q zs k))
            obtain ⟨hkor, rb2, ro2, a4, c4, hae2, hb4, u1, hB2⟩ := SV.row (HS.out.2.keepNil kw) HF.out.2 (place_le O.cuts (segF q zs k))
            rw [← hki] at hkir u0 hB
            rw [← hko] at hkor u1 hB2
            subst hae
            subst hae2
            obtain ⟨xa, hx0⟩ : ∃ xa : Nat, segF q zs k % (S.P : Int) = (xa : Int) := ⟨(segF q zs k % (S.P : Int)).toNat, by have := Int.emod_nonneg (segF q zs k) (show (S.P : Int) ≠ 0 by omega); omega⟩
            obtain ⟨xb, hx1⟩ : ∃ xb : Nat, segF q zs k % (O.P : Int) = (xb : Int) := ⟨(segF q zs k % (O.P : Int)).toNat, by have := Int.emod_nonneg (segF q zs k) (show (O.P : Int) ≠ 0 by omega); omega⟩
            obtain ⟨f0, f1, f2⟩ := (HB.out.1.keep kw id).three
            obtain ⟨g0', g1', g2'⟩ := (HB.out.2.1.keep kw id).three
            have v0 := hkb.cellE lbt.lt id x0
            have v1 := hkb.cellE lbt.lt id x1
            have L1 := kw.live.2.2 _ m3
            have L2 := kw.live.2.2 _ m4
            have L3 := Live.of hb3
            have L4 := Live.of hb4
            have L5 := hkb.live.2.2 _ lbt
            have i1' : (0 : Int) ≤ (ki : Int) := by omega
            have i2' : (ki : Int) < (nr : Int) := by omega
            have i3' : (0 : Int) ≤ (ko : Int) := by omega
            have i4' : (ko : Int) < (nr2 : Int) := by omega
            have HKI := Lib.hid (And.intro hki (And.intro hko (And.intro hx0 (And.intro hx1 hnn))))
            have HBB := Lib.hid (And.intro hB (And.intro hB2 (And.intro kw hkb)))
            have HSW := Lib.hid (And.intro (HS.out.1.keepNil kw) (HS.out.2.keepNil kw))
            have HXW := Lib.hid (HX.out.2.1.keepNil hkb)
            clear hki hko hx0 hx1 hnn hB hB2 kw hkb x0 x1 lbt hb3 hb4
            go_upto_region 16 with (fail)
            go_wp2_with fail
            go_region_held3 (fun w' => w'.cell? ⟨w.heap.size, 0, none⟩ = some (.int .i64 S.P) ∧ w'.cell? ⟨w.heap.size, 1, none⟩ = some (.slice ac nc cc) ∧ w'.cell? ⟨w.heap.size, 2, none⟩ = some (.slice (some ⟨rb1, ro1, none⟩) nr cr) ∧ w'.cell? ⟨rb1, ro1 + ki, none⟩ = some (.slice a3 S.P c3) ∧ w'.cell? ⟨w4.heap.size, 0, none⟩ = some (.bool g1) ∧ w'.cell? ⟨w4.heap.size, 1, none⟩ = some (.slice a1 n1 c1)) (go_keep) (first | (go_at_call 46; refine (refplace_any (i := (S.P : Int)) (HXW.out.keepNil (by repeat (first | exact Keeps.refl _ _ | assumption | refine Keeps.drew ?_ | refine Keeps.drewN ?_ _ | refine Keeps.alloc ?_ _ | exact Keeps.of_nil (by assumption) | refine Keeps.trans ?_ (Keeps.of_nil (by assumption)) | refine Keeps.setCell ?_ (.inr (by first | exact Nat.le_refl _ | (dsimp only; omega))) _ | refine Keeps.setCell ?_ (.inl (by first | (unfold Old; dsimp only; omega) | (unfold Old; simp; omega) | (unfold Old; simp))) _))) (HSW.out.1.keepNil (by repeat (first | exact Keeps.refl _ _ | assumption | refine Keeps.drew ?_ | refine Keeps.drewN ?_ _ | refine Keeps.alloc ?_ _ | exact Keeps.of_nil (by assumption) | refine Keeps.trans ?_ (Keeps.of_nil (by assumption)) | refine Keeps.setCell ?_ (.inr (by first | exact Nat.le_refl _ | (dsimp only; omega))) _ | refine Keeps.setCell ?_ (.inl (by first | (unfold Old; dsimp only; omega) | (unfold Old; simp; omega) | (unfold Old; simp))) _))) HF.out.1).mono ?_; rintro e w7 ⟨rfl, hk7⟩; rw [← HKI.out.1]; obtain ⟨rc7, rf7, ra7⟩ := (show Keeps Nil wb w7 from (by repeat (first | exact Keeps.refl _ _ | assumption | refine Keeps.drew ?_ | refine Keeps.drewN ?_ _ | refine Keeps.alloc ?_ _ | exact Keeps.of_nil (by assumption) | refine Keeps.trans ?_ (Keeps.of_nil (by assumption)) | refine Keeps.setCell ?_ (.inr (by first | exact Nat.le_refl _ | (dsimp only; omega))) _ | refine Keeps.setCell ?_ (.inl (by first | (unfold Old; dsimp only; omega) | (unfold Old; simp; omega) | (unfold Old; simp))) _))).live; have t1 := ra7 _ L1; have t2 := ra7 _ L2; have t3 := ra7 _ L3; have t4 := ra7 _ L4; have t5 := ra7 _ L5; have HK7 := Lib.hid (show Keeps Nil wb w7 from (by repeat (first | exact Keeps.refl _ _ | assumption | refine Keeps.drew ?_ | refine Keeps.drewN ?_ _ | refine Keeps.alloc ?_ _ | exact Keeps.of_nil (by assumption) | refine Keeps.trans ?_ (Keeps.of_nil (by assumption)) | refine Keeps.setCell ?_ (.inr (by first | exact Nat.le_refl _ | (dsimp only; omega))) _ | refine Keeps.setCell ?_ (.inl (by first | (unfold Old; dsimp only; omega) | (unfold Old; simp; omega) | (unfold Old; simp))) _)))))
            clear t1 t2 t3 t4 t5 rc7 rf7 ra7 hk7
            have q1 := HK7.out.cellE L2.lt id g1'
            have q2 := HK7.out.cellE L2.lt id g2'
            have q0 := HK7.out.cellE L2.lt id g0'
            have q3 := HK7.out.cellE L4.lt id u1
            have q4 := HK7.out.cellE L5.lt id v0
            have q5 := HK7.out.cellE L5.lt id v1
            have p0 := HK7.out.cellE L1.lt id f0
            have K2 := HK7.out.live.2.2 _ L2
            have K4 := HK7.out.live.2.2 _ L4
            have K5 := HK7.out.live.2.2 _ L5
            have K1 := HK7.out.live.2.2 _ L1
            go_upto_region 17 with (fail)
            go_wp2_with fail
            go_region_held3 (fun w' => w'.cell? ⟨w.heap.size + 1, 0, none⟩ = some (.int .i64 O.P) ∧ w'.cell? ⟨w.heap.size + 1, 1, none⟩ = some (.slice ac2 nc2 cc2) ∧ w'.cell? ⟨w.heap.size + 1, 2, none⟩ = some (.slice (some ⟨rb2, ro2, none⟩) nr2 cr2) ∧ w'.cell? ⟨rb2, ro2 + ko, none⟩ = some (.slice a4 O.P c4) ∧ w'.cell? ⟨w4.heap.size, 0, none⟩ = some (.bool g1) ∧ w'.cell? ⟨w4.heap.size, 1, none⟩ = some (.slice a1 n1 c1)) (go_keep) (first | (go_at_call 46; refine (refplace_any (i := (O.P : Int)) ((HXW.out.keepNil HK7.out).keepNil (by repeat (first | exact Keeps.refl _ _ | assumption | refine Keeps.drew ?_ | refine Keeps.drewN ?_ _ | refine Keeps.alloc ?_ _ | exact Keeps.of_nil (by assumption) | refine Keeps.trans ?_ (Keeps.of_nil (by assumption)) | refine Keeps.setCell ?_ (.inr (by first | exact Nat.le_refl _ | (dsimp only; omega))) _ | refine Keeps.setCell ?_ (.inl (by first | (unfold Old; dsimp only; omega) | (unfold Old; simp; omega) | (unfold Old; simp))) _))) ((HSW.out.2.keepNil HK7.out).keepNil (by repeat (first | exact Keeps.refl _ _ | assumption | refine Keeps.drew ?_ | refine Keeps.drewN ?_ _ | refine Keeps.alloc ?_ _ | exact Keeps.of_nil (by assumption) | refine Keeps.trans ?_ (Keeps.of_nil (by assumption)) | refine Keeps.setCell ?_ (.inr (by first | exact Nat.le_refl _ | (dsimp only; omega))) _ | refine Keeps.setCell ?_ (.inl (by first | (unfold Old; dsimp only; omega) | (unfold Old; simp; omega) | (unfold Old; simp))) _))) HF.out.2).mono ?_; rintro e w8 ⟨rfl, hk8⟩; rw [← HKI.out.2.1]; obtain ⟨rc8, rf8, ra8⟩ := (show Keeps Nil w7 w8 from (by repeat (first | exact Keeps.refl _ _ | assumption | refine Keeps.drew ?_ | refine Keeps.drewN ?_ _ | refine Keeps.alloc ?_ _ | exact Keeps.of_nil (by assumption) | refine Keeps.trans ?_ (Keeps.of_nil (by assumption)) | refine Keeps.setCell ?_ (.inr (by first | exact Nat.le_refl _ | (dsimp only; omega))) _ | refine Keeps.setCell ?_ (.inl (by first | (unfold Old; dsimp only; omega) | (unfold Old; simp; omega) | (unfold Old; simp))) _))).live; have t2 := ra8 _ K2; have t4 := ra8 _ K4; have t5 := ra8 _ K5; have HK8 := Lib.hid (show Keeps Nil w7 w8 from (by repeat (first | exact Keeps.refl _ _ | assumption | refine Keeps.drew ?_ | refine Keeps.drewN ?_ _ | refine Keeps.alloc ?_ _ | exact Keeps.of_nil (by assumption) | refine Keeps.trans ?_ (Keeps.of_nil (by assumption)) | refine Keeps.setCell ?_ (.inr (by first | exact Nat.le_refl _ | (dsimp only; omega))) _ | refine Keeps.setCell ?_ (.inl (by first | (unfold Old; dsimp only; omega) | (unfold Old; simp; omega) | (unfold Old; simp))) _)))))
            clear t2 t4 t5 rc8 rf8 ra8 hk8
            have y0 := HK8.out.cellE K2.lt id q0
            have y1 := HK8.out.cellE K5.lt id q4
            have y2 := HK8.out.cellE K5.lt id q5
            have y3 := HK8.out.cellE K1.lt id p0
            have J5 := HK8.out.live.2.2 _ K5
            have J2 := HK8.out.live.2.2 _ K2
            clear q0 q1 q2 q3 q4 q5 p0 K1 K2 K4 K5 u0 u1 f0 f1 f2 g0' g1' g2' v0 v1
            go_upto_region 20 with (first | (go_at_call_of 47 (Value.int .i64 (O.P : Int)); have hprev := HK10; clear hprev; refine (refrest_any (((HXW.out.keepNil HK7.out).keepNil HK8.out).keepNil HK10.out) HNF.out hQ hQ2).mono ?_; rintro e w11 ⟨rfl, hk11⟩; rw [HKI.out.2.2.2.1]; have HK11 := Lib.hid hk11; clear hk11) | (go_at_call_of 47 (Value.int .i64 (S.P : Int)); refine (refrest_any ((HXW.out.keepNil HK7.out).keepNil HK8.out) HNF.out hP hP2).mono ?_; rintro e w10 ⟨rfl, hk10⟩; rw [HKI.out.2.2.1]; have z0 := hk10.cellE J2.lt id y0; have z1 := hk10.cellE J5.lt id y1; have z2 := hk10.cellE J5.lt id y2; have HK10 := Lib.hid hk10; clear hk10))
            have kB : Keeps Nil wb w11 := HK7.out.trans (HK8.out.trans (HK10.out.trans HK11.out))
            have HB12 := Lib.hid (And.intro (Bools.keepNil HBB.out.1 kB) (And.intro (Bools.keepNil HBB.out.2.1 kB) (And.intro (HBB.out.2.2.1.trans kB) (HA.out.2.trans (HX.out.2.2.1.trans (HBB.out.2.2.2.trans kB))))))
            obtain ⟨capA, leA⟩ := And.intro HB12.out.1.2.cap HB12.out.1.2.le
            obtain ⟨capB, leB⟩ := And.intro HB12.out.2.1.2.cap HB12.out.2.1.2.le
            obtain ⟨f0, _, _⟩ := (HB.out.1.keep HB12.out.2.2.1 id).three
            obtain ⟨g0', _, _⟩ := (HB.out.2.1.keep HB12.out.2.2.1 id).three
            have b1' := (HB.out.1.keep HB12.out.2.2.1 id).lt
            have b2' := (HB.out.2.1.keep HB12.out.2.2.1 id).lt
            have hPI : (0 : Int) < (S.P : Int) := by omega
            have hQI : (0 : Int) < (O.P : Int) := by omega
            have hP0 : ¬ (S.P : Int) = 0 := by omega
            have hQ0 : ¬ (O.P : Int) = 0 := by omega
            have hxaP : xa < S.P := by have := Int.emod_lt_of_pos (segF q zs k) hPI; have := HKI.out.2.2.1; omega
            have hxbP : xb < O.P := by have := Int.emod_lt_of_pos (segF q zs k) hQI; have := HKI.out.2.2.2.1; omega
            clear kB y0 y1 y2 y3 J5 J2 z0 z1 z2 L1 L2 L3 L4 L5
            go_wp2_with fail
            go_loopw [16] (fun i wr2 => ∃ j : Nat, j ≤ n ∧ i = .int .i64 j ∧ (∀ j' : Nat, j' < j → has S (segF q zs k + (j' : Int)) = has O (segF q zs k + (j' : Int))) ∧ Keeps Nil w11 wr2) (fun i _ => n - (intOf i).toNat)
            case atStart => exact ⟨0, Nat.zero_le _, rfl, fun j' h => by omega, Keeps.refl _ _⟩
            case round =>
              rename World => wi
              obtain ⟨j, hj, rfl, heq, hki⟩ := hrel
              have f00 := hki.cellE b1' id f0
              have g00 := hki.cellE b2' id g0'
              have HJ := Lib.hid (And.intro heq hki)
              by_cases hjt : j < n
              · obtain ⟨xj, hxj⟩ : ∃ xj, xj = (xa + j) % S.P := ⟨_, rfl⟩
                obtain ⟨yj, hyj⟩ : ∃ yj, yj = (xb + j) % O.P := ⟨_, rfl⟩
                have hx1 : xj < S.P := by rw [hxj]; exact Nat.mod_lt _ hP
                have hy1 : yj < O.P := by rw [hyj]; exact Nat.mod_lt _ hQ
                have emA := tmod_add xa j S.P
                have emB := tmod_add xb j O.P
                have hmA := mod_addn HKI.out.2.2.1 j
                have hmB := mod_addn HKI.out.2.2.2.1 j
                rw [← hxj] at emA hmA
                rw [← hyj] at emB hmB
                obtain ⟨b5, o5, hae3, hb5, _, p0⟩ := (Bools.keepNil HB12.out.1 hki).at hx1
                obtain ⟨b6, o6, hae4, hb6, _, p1⟩ := (Bools.keepNil HB12.out.2.1 hki).at hy1
                subst hae3
                subst hae4
                have hhs := seg_has HF.out.1.ok HZ.out.1 HZ.out.2.1 (k := k) (by omega) (HKI.out.2.2.2.2 ▸ hjt) hmA
                have hho := seg_has HF.out.2.ok HZ.out.1 HZ.out.2.2.1 (k := k) (by omega) (HKI.out.2.2.2.2 ▸ hjt) hmB
                rw [← HKI.out.1] at hhs
                rw [← HKI.out.2.1] at hho
                have i1x : (xj : Int) < (S.P : Int) := by omega
                have i1y : (yj : Int) < (O.P : Int) := by omega
                have i2x : (0 : Int) ≤ (xj : Int) := by omega
                have i2y : (0 : Int) ≤ (yj : Int) := by omega
                have ijn : (j : Int) < (n : Int) := by omega
                have wA : IntKind.i64.wrap ((xa : Int) + (j : Int)) = (xa : Int) + (j : Int) := IntWalk.i64_in _ (by omega)
                have wB : IntKind.i64.wrap ((xb : Int) + (j : Int)) = (xb : Int) + (j : Int) := IntWalk.i64_in _ (by omega)
                have HHAS := Lib.hid (And.intro hhs hho)
                clear hhs hho hmA hmB hxj hyj heq hki
                by_cases he : (S.rows.getD ki []).getD xj false = (O.rows.getD ko []).getD yj false
                · have HE := Lib.hid he
                  rw [← he] at p1
                  generalize hvx : (S.rows.getD ki []).getD xj false = vx at *
                  have HVX := Lib.hid hvx
                  clear he hvx
                  go_wp2_with fail
                  go_quiet (fail)
                  go_wp2_with fail
                  go_roundw
                  case rel =>
                    refine ⟨j + 1, by omega, by go_num, fun j' hj' => ?_, HJ.out.2.trans (by repeat (first | exact Keeps.refl _ _ | refine Keeps.drew ?_ | refine Keeps.drewN ?_ _ | refine Keeps.alloc ?_ _))⟩
                    rcases Nat.lt_succ_iff_lt_or_eq.1 hj' with h | rfl
                    · exact HJ.out.1 j' h
                    · rw [HHAS.out.1, HHAS.out.2]; exact HE.out
                  case measure => simp [intOf]; omega
                · have hx : ((S.rows.getD ki []).getD xj false == (O.rows.getD ko []).getD yj false) = false := by simpa using he
                  have hy : ¬ (S.rows.getD ki []).getD xj false = (O.rows.getD ko []).getD yj false := he
                  have HNE := Lib.hid (show ¬ ∀ x, has S x = has O x from fun h => he (by rw [← HHAS.out.1, ← HHAS.out.2]; exact h _))
                  clear he HHAS
                  generalize (S.rows.getD ki []).getD xj false = vx at *
                  generalize (O.rows.getD ko []).getD yj false = vy at *
                  go_wp2_with fail
                  go_quiet (fail)
                  go_wp2_with fail
                  go_ret
                  exact ⟨false, rfl, ⟨fun h => (by cases h), fun h => absurd h HNE.out⟩, HB.out.2.2.trans (HB12.out.2.2.1.trans (HJ.out.2.trans (by repeat (first | exact Keeps.refl _ _ | refine Keeps.drew ?_ | refine Keeps.drewN ?_ _ | refine Keeps.alloc ?_ _))))⟩
              · obtain rfl : j = n := by omega
                clear heq hki
                go_wp2_with fail
                go_roundw
                case rel => exact ⟨k + 1, by omega, by go_num, fun k' j' hk' hj' => by rcases Nat.lt_succ_iff_lt_or_eq.1 hk' with h | rfl; exact HA.out.1 k' j' h hj'; exact HJ.out.1 j' (by rw [HKI.out.2.2.2.2]; exact hj'), HB12.out.2.2.2.trans HJ.out.2⟩
                case measure => simp [intOf]; omega
    · obtain rfl : k = zs.length + 1 := by omega
      have hkI : ¬ (((zs.length + 1 : Nat) : Int) ≤ (zs.length : Int)) := by omega
      have HALL := Lib.hid (show ∀ x, has S x = has O x from fun x => same_all hq1 HQ.out.1 HQ.out.2 HZ.out.1 HZ.out.2.1 HZ.out.2.2.1 (fun k j hk hj => HA.out.1 k j (by omega) hj) x)
      go_wp2_with fail
      go_ret
      exact ⟨true, rfl, ⟨fun _ => HALL.out, fun _ => rfl⟩, HB.out.2.2.trans (HL.out.2.trans HA.out.2)⟩
end Go.Proofs.YtfkclbhddiidbaaGreat
