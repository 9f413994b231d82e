/- What the law's own 'is' does: the set's period, cuts, members are the document's. Conditions: both sets' own reading; room. -/
import Derived.Test.YtfkclbhddiidbaaGreatKCutsH
import Derived.Test.YtfkclbhddiidbaaGreatKPLaw1
import Derived.Test.YtfkclbhddiidbaaGreatKPRead
import Derived.Test.YtfkclbhddiidbaaGreatKRefs
import Derived.Test.YtfkclbhddiidbaaGreatKPHas
import Derived.Test.YtfkclbhddiidbaaGreatKRSet8
import Derived.Test.YtfkclbhddiidbaaGreatKPEqual
import Derived.Test.YtfkclbhddiidbaaGreatKRegions
namespace Go.Proofs.YtfkclbhddiidbaaGreat
open Go.RowKit Go.Rid
/-- The first Cuts' blocks. -/
def Mid (w0 w1 : World) : Nat → Prop := fun b => w0.heap.size ≤ b ∧ b < w1.heap.size
theorem numsKeep {w w' : World} {a : Option Addr} {n c : Nat} {xs : List Int} (h : SlOf Nil w 2 (RNum Nil w) 0 a n c xs) (k : Keeps Nil w w') : SlOf Nil w' 2 (RNum Nil w') 0 a n c xs :=
  SlOf.move h k (fun _ _ h => h.elim) (fun _ _ => id) fun _ _ hx => RNum.moves hx k (fun _ _ h => h.elim) fun _ _ => id
set_option maxHeartbeats 8000000 in
set_option maxRecDepth 100000 in
theorem is_any {M M2 : Nat → Prop} {p : Nat} {ac ar a : Option Addr} {nc cc nr cr n c : Nat} {S : PSet} {xs : List Int} {w : World} (hs : SetAt M w p S) (hv : SV M2 w ac nc cc ar nr cr S) (hf : Fine S) (hx : SlOf Nil w 2 (RNum Nil w) 0 a n c xs) :
    Calls Tryz.prog 10 #[.pointer (some ⟨p, 0, none⟩), .agg #[.int .i64 (S.P : Int), .slice ac nc cc, .slice ar nr cr], .slice a n c] w fun e w' => e = .returned (.bool true) ∧ Keeps Nil w w' := by
  have hk0 : Keeps Nil w (w.alloc (.cells #[.int .i64 (S.P : Int), .slice ac nc cc, .slice ar nr cr] 30)) := (by repeat (first | exact Keeps.refl _ _ | refine Keeps.drew ?_ | refine Keeps.drewN ?_ _ | refine Keeps.alloc ?_ _))
  have r0 := RowIs.alloc (w := w) (E := 30) (xs := [.int .i64 (S.P : Int), .slice ac nc cc, .slice ar nr cr])
  change RowIs (w.alloc (.cells #[.int .i64 (S.P : Int), .slice ac nc cc, .slice ar nr cr] 30)) _ _ _ at r0
  have HS := Lib.hid (And.intro (hs.toNil.keepNil hk0) (And.intro (hv.toNil.keepNil hk0) (SlOf.move hx hk0 (M2 := Nil) (R' := RNum Nil (w.alloc (.cells #[.int .i64 (S.P : Int), .slice ac nc cc, .slice ar nr cr] 30))) (fun _ _ h => h.elim) (fun _ _ => id) fun _ _ h => RNum.moves h hk0 (fun _ _ h => h.elim) fun _ _ => id)))
  have HF := Lib.hid hf
  have HB := Lib.hid (And.intro r0 hk0)
  have hcc := hv.1.cap
  have hcl := hv.1.le
  have hncl : nc = S.cuts.length := hv.1.len.symm
  have hncb : nc ≤ 1000 := by have := hf.few; omega
  have HNC := Lib.hid hncl
  clear hncl
  have hxc := SlOf.cap hx
  have hxl := SlOf.le hx
  clear hs hv hf hx hk0
  go_enter Tryz.func10, Tryz.ntmps10
  go_upto_region 1 with (fail)
  generalize w.alloc (.cells #[.int .i64 (S.P : Int), .slice ac nc cc, .slice ar nr cr] 30) = w0 at *
  obtain ⟨d0, d1, d2⟩ := r0.three
  have b0 := r0.lt
  clear r0
  go_upto_region 3 with (first | (go_at_call 18; have hprev := H1; clear hprev; refine (cutsT_any (M := Old w1) (MB.old _) (HS.out.1.keepNil H1.out.2.2) HF.out).mono ?_; rintro e w2 ⟨a2, c2, els2, rfl, hg2, hsp2, hk2⟩; have H2 := Lib.hid (And.intro hg2 (And.intro hsp2 hk2)); clear hg2 hsp2 hk2) | (go_at_call 18; refine (cutsT_any (M := Old w0) (MB.old _) HS.out.1 HF.out).mono ?_; rintro e w1 ⟨a1, c1, els, rfl, hg1, hsp1, hk1⟩; have H1 := Lib.hid (And.intro hg1 (And.intro hsp1 hk1)); clear hg1 hsp1 hk1))
  have hm1 : els.length = nc := by rw [HNC.out]; exact H1.out.1.len.symm
  have hm2 : els2.length = nc := by rw [HNC.out]; exact H2.out.1.len.symm
  rw [hm1, hm2]
  have HM12 := Lib.hid (And.intro hm1 hm2)
  clear hm1 hm2
  have hk02 := H1.out.2.2.trans H2.out.2.2
  have e0 := hk02.cellE b0 id d0
  have e1 := hk02.cellE b0 id d1
  have HK2 := Lib.hid hk02
  have HP := Lib.hid (HS.out.1.keepNil hk02)
  obtain ⟨a1', c1', hv, hsl1⟩ := H1.out.1.sl RZT.moves (fun b hb => hb)
  cases hv
  obtain ⟨a2', c2', hv, hsl2⟩ := H2.out.1.sl RZT.moves (fun b hb => hb)
  cases hv
  have hC : ZInts Nil w2 a1 els.length c1 S.cuts := SlOf.move hsl1 H2.out.2.2 (fun _ _ h => h.elim) (fun _ _ h => h.elim) fun _ _ hx => RZ.moves hx.rz H2.out.2.2 (fun _ _ h => h.elim) fun _ _ h => h.elim
  have hD : ZInts (Old w1) w2 a2 els2.length c2 S.cuts := SlOf.move hsl2 (Keeps.refl Nil w2) (fun _ _ h => h.elim) (fun _ _ => id) fun _ _ hx => hx.rz
  rw [HM12.out.1] at hC
  rw [HM12.out.2] at hD
  have hcap1 := hC.cap
  have hle1 := hC.le
  have hcap2 := hD.cap
  have hle2 := hD.le
  have HC := Lib.hid hC
  have HD := Lib.hid hD
  have HW := Lib.hid (HS.out.2.1.1.keepNil HK2.out)
  have HX := Lib.hid (numsKeep HS.out.2.2 HK2.out)
  clear hC hD hsl1 hsl2 hk02
  have lb0 := Live.of (Nat.lt_of_lt_of_le b0 HK2.out.size)
  clear d0 d1 d2
  go_wp2_with fail
  go_region_held3 (fun w' => w'.cell? ⟨w.heap.size, 0, none⟩ = some (.int .i64 (S.P : Int)) ∧ w'.cell? ⟨w.heap.size, 1, none⟩ = some (.slice ac nc cc)) (go_keep) (first | (go_at_call 19; refine (period_of (HP.out.keepNil (show Keeps Nil w2 _ from (by repeat (first | exact Keeps.refl _ _ | assumption | refine Keeps.drew ?_ | refine Keeps.drewN ?_ _ | refine Keeps.alloc ?_ _ | exact Keeps.of_nil (by assumption) | refine Keeps.trans ?_ (Keeps.of_nil (by assumption)) | refine Keeps.setCell ?_ (.inr (by first | exact Nat.le_refl _ | (dsimp only; omega))) _ | refine Keeps.setCell ?_ (.inl (by first | (unfold Old; dsimp only; omega) | (unfold Old; simp; omega) | (unfold Old; simp))) _))))).mono ?_; rintro e w' ⟨rfl, rfl⟩))
  go_wp2_with fail
  go_loopw [9] (fun i wr => ∃ k : Nat, k ≤ nc ∧ i = .int .i64 k ∧ Keeps Nil w2 wr) (fun i _ => nc - (intOf i).toNat)
  case atStart => exact ⟨0, Nat.zero_le _, rfl, (by repeat (first | exact Keeps.refl _ _ | assumption | refine Keeps.drew ?_ | refine Keeps.drewN ?_ _ | refine Keeps.alloc ?_ _ | exact Keeps.of_nil (by assumption) | refine Keeps.trans ?_ (Keeps.of_nil (by assumption)) | refine Keeps.setCell ?_ (.inr (by first | exact Nat.le_refl _ | (dsimp only; omega))) _ | refine Keeps.setCell ?_ (.inl (by first | (unfold Old; dsimp only; omega) | (unfold Old; simp; omega) | (unfold Old; simp))) _))⟩
  case round =>
    obtain ⟨k, hk, rfl, hkk⟩ := hrel
    have i0 : (0 : Int) ≤ (k : Int) := by omega
    by_cases hlt : k < nc
    · have i1 : (k : Int) < (nc : Int) := by omega
      obtain ⟨b1, o1, g1, a4, n4, c4, hae, hb1, _, x0, x1, hz1⟩ := (HC.out.keepNil hkk).at hlt
      subst hae
      obtain ⟨b2, o2, g2, a5, n5, c5, hae, hb2, _, y0, y1, hz2⟩ := (HW.out.keepNil hkk).at hlt
      subst hae
      obtain rfl : g1 = g2 := hz1.1.trans hz2.1.symm
      have l1 := Live.of hb1
      have l2 := Live.of hb2
      have l0 := hkk.live.2.2 _ lb0
      have z1 := hkk.cellE lb0.lt id e1
      have z0 := hkk.cellE lb0.lt id e0
      have HZ := Lib.hid (And.intro hz1 (And.intro hz2 hkk))
      have HFZ := Lib.hid (HF.out.fit (zth S.cuts k) (by rw [zth_lt (by have := HNC.out; omega)]; exact List.getElem_mem _))
      clear hz1 hz2 hkk hb1 hb2
      have HE := Lib.hid (And.intro e0 e1)
      clear e0 e1
      go_wp2_with fail
      go_region_held3 (fun w' => w'.cell? ⟨w.heap.size, 1, none⟩ = some (.slice (some ⟨b2, o2, none⟩) nc cc) ∧ w'.cell? ⟨b1, o1 + k * 2, none⟩ = some (.bool g1) ∧ w'.cell? ⟨b1, o1 + k * 2 + 1, none⟩ = some (.slice a4 n4 c4) ∧ w'.cell? ⟨b2, o2 + k * 2, none⟩ = some (.bool g1) ∧ w'.cell? ⟨b2, o2 + k * 2 + 1, none⟩ = some (.slice a5 n5 c5)) (go_keep) (first | (go_at_call 22; refine (ints_same (HZ.out.1.keepNil (show Keeps Nil wr _ from (by repeat (first | exact Keeps.refl _ _ | assumption | refine Keeps.drew ?_ | refine Keeps.drewN ?_ _ | refine Keeps.alloc ?_ _ | exact Keeps.of_nil (by assumption) | refine Keeps.trans ?_ (Keeps.of_nil (by assumption)) | refine Keeps.setCell ?_ (.inr (by first | exact Nat.le_refl _ | (dsimp only; omega))) _ | refine Keeps.setCell ?_ (.inl (by first | (unfold Old; dsimp only; omega) | (unfold Old; simp; omega) | (unfold Old; simp))) _)))) (HZ.out.2.1.keepNil (show Keeps Nil wr _ from (by repeat (first | exact Keeps.refl _ _ | assumption | refine Keeps.drew ?_ | refine Keeps.drewN ?_ _ | refine Keeps.alloc ?_ _ | exact Keeps.of_nil (by assumption) | refine Keeps.trans ?_ (Keeps.of_nil (by assumption)) | refine Keeps.setCell ?_ (.inr (by first | exact Nat.le_refl _ | (dsimp only; omega))) _ | refine Keeps.setCell ?_ (.inl (by first | (unfold Old; dsimp only; omega) | (unfold Old; simp; omega) | (unfold Old; simp))) _))))).mono ?_; rintro e w3 ⟨rfl, hk3⟩; obtain ⟨rc3, rf3, ra3⟩ := (show Keeps Nil wr w3 from (by repeat (first | exact Keeps.refl _ _ | assumption | refine Keeps.drew ?_ | refine Keeps.drewN ?_ _ | refine Keeps.alloc ?_ _ | exact Keeps.of_nil (by assumption) | refine Keeps.trans ?_ (Keeps.of_nil (by assumption)) | refine Keeps.setCell ?_ (.inr (by first | exact Nat.le_refl _ | (dsimp only; omega))) _ | refine Keeps.setCell ?_ (.inl (by first | (unfold Old; dsimp only; omega) | (unfold Old; simp; omega) | (unfold Old; simp))) _))).live))
      go_wp2_with fail
      have HK3 := Lib.hid (show Keeps Nil wr w3 from (by repeat (first | exact Keeps.refl _ _ | assumption | refine Keeps.drew ?_ | refine Keeps.drewN ?_ _ | refine Keeps.alloc ?_ _ | exact Keeps.of_nil (by assumption) | refine Keeps.trans ?_ (Keeps.of_nil (by assumption)) | refine Keeps.setCell ?_ (.inr (by first | exact Nat.le_refl _ | (dsimp only; omega))) _ | refine Keeps.setCell ?_ (.inl (by first | (unfold Old; dsimp only; omega) | (unfold Old; simp; omega) | (unfold Old; simp))) _)))
      clear rc3 rf3 ra3 hk3 x0 x1 y0 y1 z1 z0 l0 l1 l2
      go_loopw [10] (fun i wx => ∃ j : Int, -2 ≤ j ∧ j ≤ 3 ∧ i = .int .i64 j ∧ Keeps Nil w3 wx) (fun i _ => (3 - intOf i).toNat)
      case atStart => exact ⟨-2, by omega, by omega, rfl, Keeps.refl _ _⟩
      case round =>
        rename World => wx
        obtain ⟨j, hj0, hj1, rfl, hkx⟩ := hrel
        by_cases hjt : j < 3
        · have hkr := HZ.out.2.2.trans (HK3.out.trans hkx)
          obtain ⟨t0, t1, t2⟩ := (HB.out.1.keep (HK2.out.trans hkr) id).three
          obtain ⟨b3, o3, g3, a6, n6, c6, hae, hb2, _, y0, y1, hz2⟩ := (HW.out.keepNil hkr).at hlt
          cases hae
          have hsm : nlen j.natAbs ≤ 1 := nlen_le_of_lt (by simp only [Nat.pow_one, Bs]; omega)
          have hfy : nlen (zth S.cuts k + j).natAbs * 4 + 44 ≤ 140737488355328 := by
            have := nlen_natAbs_add (zth S.cuts k) j; have := HFZ.out; omega
          have HFY := Lib.hid (And.intro hfy (show nlen j.natAbs * 4 + 4 ≤ 140737488355328 by omega))
          have HZ2 := Lib.hid (And.intro (hz2.zat (by have := HFZ.out; omega)) (fit_ofN hz2 (by have := HFZ.out; omega)))
          have l2 := Live.of hb2
          have l0 := hkr.live.2.2 _ lb0
          have HR := Lib.hid (And.intro hkr hkx)
          clear hkr hkx hz2 hb2 hfy hsm
          obtain ⟨la, ls, ld, ln, ln', ln1, ln1', lc, lf⟩ := liveRules
          go_upto_region 13 with (fail)
          go_cut [11] (fun v wy => BoxOf wx (zth S.cuts k + j) v wy)
          case first =>
            go_region_held3 (fun w' => w'.cell? ⟨w.heap.size, 1, none⟩ = some (.slice (some ⟨b2, o2, none⟩) nc cc) ∧ w'.cell? ⟨b2, o2 + k * 2, none⟩ = some (.bool g3) ∧ w'.cell? ⟨b2, o2 + k * 2 + 1, none⟩ = some (.slice a6 n6 c6)) (go_keep) (first | (go_at_call 20; refine (refof_any (M := Old _) (MB.old _) (by omega) (by omega)).mono ?_; rintro e w10 ⟨g7, a7, n7, m7, rfl, h7, hk10⟩; obtain ⟨rc1, rf1, ra1⟩ := hk10.live; have q1 : Live w10 w.heap.size := (show Keeps Nil wx w10 from (by repeat (first | exact Keeps.refl _ _ | assumption | refine Keeps.drew ?_ | refine Keeps.drewN ?_ _ | refine Keeps.alloc ?_ _ | exact Keeps.of_nil (by assumption) | refine Keeps.trans ?_ (Keeps.of_nil (by assumption)) | refine Keeps.setCell ?_ (.inr (by first | exact Nat.le_refl _ | (dsimp only; omega))) _ | refine Keeps.setCell ?_ (.inl (by first | (unfold Old; dsimp only; omega) | (unfold Old; simp; omega) | (unfold Old; simp))) _))).live.2.2 _ l0; have q1' : Live w10 b2 := (show Keeps Nil wx w10 from (by repeat (first | exact Keeps.refl _ _ | assumption | refine Keeps.drew ?_ | refine Keeps.drewN ?_ _ | refine Keeps.alloc ?_ _ | exact Keeps.of_nil (by assumption) | refine Keeps.trans ?_ (Keeps.of_nil (by assumption)) | refine Keeps.setCell ?_ (.inr (by first | exact Nat.le_refl _ | (dsimp only; omega))) _ | refine Keeps.setCell ?_ (.inl (by first | (unfold Old; dsimp only; omega) | (unfold Old; simp; omega) | (unfold Old; simp))) _))).live.2.2 _ l2; have qn1 := live_ne q1; have qm1 := live_ne' q1; have qn1' := live_ne q1'; have qm1' := live_ne' q1'; have zs1 := hk10.size; (try simp at zs1); have H7 := Lib.hid h7; clear h7) | (go_at_call 32; refine (refadd_any (M := Old _) (MB.old _) (HZ2.out.1.keepNil (by repeat (first | exact Keeps.refl _ _ | assumption | refine Keeps.drew ?_ | refine Keeps.drewN ?_ _ | refine Keeps.alloc ?_ _ | exact Keeps.of_nil (by assumption) | refine Keeps.trans ?_ (Keeps.of_nil (by assumption)) | refine Keeps.setCell ?_ (.inr (by first | exact Nat.le_refl _ | (dsimp only; omega))) _ | refine Keeps.setCell ?_ (.inl (by first | (unfold Old; dsimp only; omega) | (unfold Old; simp; omega) | (unfold Old; simp))) _))) (H7.out.lateZ (by repeat (first | exact Keeps.refl _ _ | assumption | refine Keeps.drew ?_ | refine Keeps.drewN ?_ _ | refine Keeps.alloc ?_ _ | exact Keeps.of_nil (by assumption) | refine Keeps.trans ?_ (Keeps.of_nil (by assumption)) | refine Keeps.setCell ?_ (.inr (by first | exact Nat.le_refl _ | (dsimp only; omega))) _ | refine Keeps.setCell ?_ (.inl (by first | (unfold Old; dsimp only; omega) | (unfold Old; simp; omega) | (unfold Old; simp))) _)) HFY.out.2) HZ2.out.2 (fit_ofN H7.out HFY.out.2)).mono ?_; rintro e w11 ⟨g8, a8, n8, m8, rfl, h8, hk11⟩; obtain ⟨rc2, rf2, ra2⟩ := hk11.live; obtain ⟨rc12, rf12, ra12⟩ := (hk10.trans (show Keeps Nil w10 w11 from (by repeat (first | exact Keeps.refl _ _ | assumption | refine Keeps.drew ?_ | refine Keeps.drewN ?_ _ | refine Keeps.alloc ?_ _ | exact Keeps.of_nil (by assumption) | refine Keeps.trans ?_ (Keeps.of_nil (by assumption)) | refine Keeps.setCell ?_ (.inr (by first | exact Nat.le_refl _ | (dsimp only; omega))) _ | refine Keeps.setCell ?_ (.inl (by first | (unfold Old; dsimp only; omega) | (unfold Old; simp; omega) | (unfold Old; simp))) _)))).live; have q2 : Live w11 w.heap.size := (show Keeps Nil w10 w11 from (by repeat (first | exact Keeps.refl _ _ | assumption | refine Keeps.drew ?_ | refine Keeps.drewN ?_ _ | refine Keeps.alloc ?_ _ | exact Keeps.of_nil (by assumption) | refine Keeps.trans ?_ (Keeps.of_nil (by assumption)) | refine Keeps.setCell ?_ (.inr (by first | exact Nat.le_refl _ | (dsimp only; omega))) _ | refine Keeps.setCell ?_ (.inl (by first | (unfold Old; dsimp only; omega) | (unfold Old; simp; omega) | (unfold Old; simp))) _))).live.2.2 _ q1; have q2' : Live w11 b2 := (show Keeps Nil w10 w11 from (by repeat (first | exact Keeps.refl _ _ | assumption | refine Keeps.drew ?_ | refine Keeps.drewN ?_ _ | refine Keeps.alloc ?_ _ | exact Keeps.of_nil (by assumption) | refine Keeps.trans ?_ (Keeps.of_nil (by assumption)) | refine Keeps.setCell ?_ (.inr (by first | exact Nat.le_refl _ | (dsimp only; omega))) _ | refine Keeps.setCell ?_ (.inl (by first | (unfold Old; dsimp only; omega) | (unfold Old; simp; omega) | (unfold Old; simp))) _))).live.2.2 _ q1'; have qn2 := live_ne q2; have qm2 := live_ne' q2; have qn2' := live_ne q2'; have qm2' := live_ne' q2'; have zs2 := hk11.size; (try simp at zs2); have H8 := Lib.hid h8; clear h8))
            all_goals (go_wp2_with fail; go_meet)
            all_goals exact ⟨_, rfl, ⟨g8, a8, n8, m8, by simp (maxDischargeDepth := 6) [*, go_sem], by simp (maxDischargeDepth := 6) [*, go_sem], H8.out.late (M := Nil) (by repeat (first | exact Keeps.refl _ _ | assumption | refine Keeps.drew ?_ | refine Keeps.drewN ?_ _ | refine Keeps.alloc ?_ _ | exact Keeps.of_nil (by assumption) | refine Keeps.trans ?_ (Keeps.of_nil (by assumption)) | refine Keeps.setCell ?_ (.inr (by first | exact Nat.le_refl _ | (dsimp only; omega))) _ | refine Keeps.setCell ?_ (.inl (by first | (unfold Old; dsimp only; omega) | (unfold Old; simp; omega) | (unfold Old; simp))) _)) (fun _ h => h.elim)⟩, (by repeat (first | exact Keeps.refl _ _ | assumption | refine Keeps.drew ?_ | refine Keeps.drewN ?_ _ | refine Keeps.alloc ?_ _ | exact Keeps.of_nil (by assumption) | refine Keeps.trans ?_ (Keeps.of_nil (by assumption)) | refine Keeps.setCell ?_ (.inr (by first | exact Nat.le_refl _ | (dsimp only; omega))) _ | refine Keeps.setCell ?_ (.inl (by first | (unfold Old; dsimp only; omega) | (unfold Old; simp; omega) | (unfold Old; simp))) _))⟩
          case rest =>
            rename World => wy
            obtain ⟨by', rfl, ⟨g8, a8, n8, m8, d0, d1, hzy⟩, hky⟩ := hcut
            have lby : by' < wy.heap.size := World.block_lt_of_cell? wy ⟨by', 0, none⟩ d0
            have lb2 := Live.of lby
            have l1 := hky.live.2.2 _ l0
            have s0 := hky.cellE l0.lt id t0
            have s1 := hky.cellE l0.lt id t1
            have s2 := hky.cellE l0.lt id t2
            have hk2y := HK2.out.trans (HR.out.1.trans hky)
            have HY := Lib.hid (And.intro (hzy.zat (show nlen (zth S.cuts k + j).natAbs * 4 + 4 ≤ 140737488355328 by have := HFY.out.1; omega)) (And.intro (show n8 * 4 + 40 ≤ 140737488355328 by have := hzy.len; have := HFY.out.1; omega) (And.intro (HP.out.keepNil (HR.out.1.trans hky)) (HS.out.2.1.keepNil hk2y))))
            have HKY := Lib.hid (HR.out.2.trans hky)
            obtain ⟨hv, hhv⟩ : ∃ hv, hv = has S (zth S.cuts k + j) := ⟨_, rfl⟩
            have HV := Lib.hid hhv
            have jn : IntKind.i64.wrap (j + 1) = j + 1 := IntWalk.i64_in _ (by omega)
            clear hhv hzy hky lby l0 l2 t0 t1 t2 y0 y1 la ls ld ln ln' ln1 ln1' lc lf hk2y
            go_wp2_with fail
            go_region_held3 (fun w' => w'.cell? ⟨w.heap.size, 0, none⟩ = some (.int .i64 (S.P : Int)) ∧ w'.cell? ⟨w.heap.size, 1, none⟩ = some (.slice (some ⟨b2, o2, none⟩) nc cc) ∧ w'.cell? ⟨w.heap.size, 2, none⟩ = some (.slice ar nr cr) ∧ w'.cell? ⟨by', 0, none⟩ = some (.bool g8) ∧ w'.cell? ⟨by', 1, none⟩ = some (.slice a8 n8 m8)) (go_keep) (first | (go_at_call 17; refine (has_any (HY.out.1.keepNil (show Keeps Nil wy _ from (by repeat (first | exact Keeps.refl _ _ | assumption | refine Keeps.drew ?_ | refine Keeps.drewN ?_ _ | refine Keeps.alloc ?_ _ | exact Keeps.of_nil (by assumption) | refine Keeps.trans ?_ (Keeps.of_nil (by assumption)) | refine Keeps.setCell ?_ (.inr (by first | exact Nat.le_refl _ | (dsimp only; omega))) _ | refine Keeps.setCell ?_ (.inl (by first | (unfold Old; dsimp only; omega) | (unfold Old; simp; omega) | (unfold Old; simp))) _)))) (by have := HY.out.2.1; omega) (HY.out.2.2.1.keepNil (show Keeps Nil wy _ from (by repeat (first | exact Keeps.refl _ _ | assumption | refine Keeps.drew ?_ | refine Keeps.drewN ?_ _ | refine Keeps.alloc ?_ _ | exact Keeps.of_nil (by assumption) | refine Keeps.trans ?_ (Keeps.of_nil (by assumption)) | refine Keeps.setCell ?_ (.inr (by first | exact Nat.le_refl _ | (dsimp only; omega))) _ | refine Keeps.setCell ?_ (.inl (by first | (unfold Old; dsimp only; omega) | (unfold Old; simp; omega) | (unfold Old; simp))) _)))) HF.out).mono ?_; rintro e w20 ⟨rfl, hk20⟩; rw [← HV.out]; obtain ⟨rc20, rf20, ra20⟩ := (show Keeps Nil wy w20 from (by repeat (first | exact Keeps.refl _ _ | assumption | refine Keeps.drew ?_ | refine Keeps.drewN ?_ _ | refine Keeps.alloc ?_ _ | exact Keeps.of_nil (by assumption) | refine Keeps.trans ?_ (Keeps.of_nil (by assumption)) | refine Keeps.setCell ?_ (.inr (by first | exact Nat.le_refl _ | (dsimp only; omega))) _ | refine Keeps.setCell ?_ (.inl (by first | (unfold Old; dsimp only; omega) | (unfold Old; simp; omega) | (unfold Old; simp))) _))).live) | (go_at_call 33; refine (refhas_any (HY.out.1.keepNil (show Keeps Nil wy _ from (by repeat (first | exact Keeps.refl _ _ | assumption | refine Keeps.drew ?_ | refine Keeps.drewN ?_ _ | refine Keeps.alloc ?_ _ | exact Keeps.of_nil (by assumption) | refine Keeps.trans ?_ (Keeps.of_nil (by assumption)) | refine Keeps.setCell ?_ (.inr (by first | exact Nat.le_refl _ | (dsimp only; omega))) _ | refine Keeps.setCell ?_ (.inl (by first | (unfold Old; dsimp only; omega) | (unfold Old; simp; omega) | (unfold Old; simp))) _)))) HY.out.2.1 (HY.out.2.2.2.keepNil (show Keeps Nil wy _ from (by repeat (first | exact Keeps.refl _ _ | assumption | refine Keeps.drew ?_ | refine Keeps.drewN ?_ _ | refine Keeps.alloc ?_ _ | exact Keeps.of_nil (by assumption) | refine Keeps.trans ?_ (Keeps.of_nil (by assumption)) | refine Keeps.setCell ?_ (.inr (by first | exact Nat.le_refl _ | (dsimp only; omega))) _ | refine Keeps.setCell ?_ (.inl (by first | (unfold Old; dsimp only; omega) | (unfold Old; simp; omega) | (unfold Old; simp))) _)))) HF.out).mono ?_; rintro e w21 ⟨rfl, hk21⟩; rw [← HV.out]; obtain ⟨rc21, rf21, ra21⟩ := (show Keeps Nil wy w21 from (by repeat (first | exact Keeps.refl _ _ | assumption | refine Keeps.drew ?_ | refine Keeps.drewN ?_ _ | refine Keeps.alloc ?_ _ | exact Keeps.of_nil (by assumption) | refine Keeps.trans ?_ (Keeps.of_nil (by assumption)) | refine Keeps.setCell ?_ (.inr (by first | exact Nat.le_refl _ | (dsimp only; omega))) _ | refine Keeps.setCell ?_ (.inl (by first | (unfold Old; dsimp only; omega) | (unfold Old; simp; omega) | (unfold Old; simp))) _))).live))
            all_goals go_wp2_with fail
            all_goals go_roundw
            all_goals first | exact ⟨j + 1, by omega, by omega, by go_num, HKY.out.trans (show Keeps Nil wy _ from (by repeat (first | exact Keeps.refl _ _ | assumption | refine Keeps.drew ?_ | refine Keeps.drewN ?_ _ | refine Keeps.alloc ?_ _ | exact Keeps.of_nil (by assumption) | refine Keeps.trans ?_ (Keeps.of_nil (by assumption)) | refine Keeps.setCell ?_ (.inr (by first | exact Nat.le_refl _ | (dsimp only; omega))) _ | refine Keeps.setCell ?_ (.inl (by first | (unfold Old; dsimp only; omega) | (unfold Old; simp; omega) | (unfold Old; simp))) _)))⟩ | (simp [intOf]; omega)
        · go_wp2_with fail
          go_roundw
          case rel => exact ⟨k + 1, by omega, by go_num, HZ.out.2.2.trans (HK3.out.trans hkx)⟩
          case measure => simp [intOf]; omega
    · go_wp2_with fail
      go_loopw [12] (fun i wx => ∃ u : Nat, u ≤ n ∧ i = .int .i64 u ∧ Keeps Nil w2 wx) (fun i _ => n - (intOf i).toNat)
      case atStart => exact ⟨0, Nat.zero_le _, rfl, hkk⟩
      case round =>
        rename World => wx
        obtain ⟨u, hu, rfl, hkx⟩ := hrel
        have j0 : (0 : Int) ≤ (u : Int) := by omega
        by_cases hut : u < n
        · have j1 : (u : Int) < (n : Int) := by omega
          obtain ⟨t0, t1, t2⟩ := (HB.out.1.keep (HK2.out.trans hkx) id).three
          obtain ⟨b3, o3, cs, hae, hb, _, hl, hc, g3, a6, n6, c6, hcs, hz, hr⟩ := (numsKeep HX.out hkx).at hut
          subst hae
          subst hcs
          have y0 := hc 0 (by omega)
          have y1 := hc 1 (by omega)
          simp only [Nat.add_zero, List.getD_cons_zero, List.getD_cons_succ] at y0 y1
          have l3 := Live.of hb
          have l1 := hkx.live.2.2 _ lb0
          have HY := Lib.hid (And.intro hz (And.intro (show n6 * 4 + 40 ≤ 140737488355328 by omega) (And.intro (HP.out.keepNil hkx) (HS.out.2.1.keepNil (HK2.out.trans hkx)))))
          have HKX := Lib.hid hkx
          obtain ⟨hv, hhv⟩ : ∃ hv, hv = has S (xs.getD u 0) := ⟨_, rfl⟩
          have HV := Lib.hid hhv
          clear hhv hz hkx hb hc hl hr
          go_wp2_with fail
          go_region_held3 (fun w' => w'.cell? ⟨w.heap.size, 0, none⟩ = some (.int .i64 (S.P : Int)) ∧ w'.cell? ⟨w.heap.size, 1, none⟩ = some (.slice ac nc cc) ∧ w'.cell? ⟨w.heap.size, 2, none⟩ = some (.slice ar nr cr) ∧ w'.cell? ⟨b3, o3 + u * 2, none⟩ = some (.bool g3) ∧ w'.cell? ⟨b3, o3 + u * 2 + 1, none⟩ = some (.slice a6 n6 c6)) (go_keep) (first | (go_at_call 17; refine (has_any (HY.out.1.keepNil (show Keeps Nil wx _ from (by repeat (first | exact Keeps.refl _ _ | assumption | refine Keeps.drew ?_ | refine Keeps.drewN ?_ _ | refine Keeps.alloc ?_ _ | exact Keeps.of_nil (by assumption) | refine Keeps.trans ?_ (Keeps.of_nil (by assumption)) | refine Keeps.setCell ?_ (.inr (by first | exact Nat.le_refl _ | (dsimp only; omega))) _ | refine Keeps.setCell ?_ (.inl (by first | (unfold Old; dsimp only; omega) | (unfold Old; simp; omega) | (unfold Old; simp))) _)))) (by have := HY.out.2.1; omega) (HY.out.2.2.1.keepNil (show Keeps Nil wx _ from (by repeat (first | exact Keeps.refl _ _ | assumption | refine Keeps.drew ?_ | refine Keeps.drewN ?_ _ | refine Keeps.alloc ?_ _ | exact Keeps.of_nil (by assumption) | refine Keeps.trans ?_ (Keeps.of_nil (by assumption)) | refine Keeps.setCell ?_ (.inr (by first | exact Nat.le_refl _ | (dsimp only; omega))) _ | refine Keeps.setCell ?_ (.inl (by first | (unfold Old; dsimp only; omega) | (unfold Old; simp; omega) | (unfold Old; simp))) _)))) HF.out).mono ?_; rintro e w20 ⟨rfl, hk20⟩; rw [← HV.out]; obtain ⟨rc20, rf20, ra20⟩ := (show Keeps Nil wx w20 from (by repeat (first | exact Keeps.refl _ _ | assumption | refine Keeps.drew ?_ | refine Keeps.drewN ?_ _ | refine Keeps.alloc ?_ _ | exact Keeps.of_nil (by assumption) | refine Keeps.trans ?_ (Keeps.of_nil (by assumption)) | refine Keeps.setCell ?_ (.inr (by first | exact Nat.le_refl _ | (dsimp only; omega))) _ | refine Keeps.setCell ?_ (.inl (by first | (unfold Old; dsimp only; omega) | (unfold Old; simp; omega) | (unfold Old; simp))) _))).live) | (go_at_call 33; refine (refhas_any (HY.out.1.keepNil (show Keeps Nil wx _ from (by repeat (first | exact Keeps.refl _ _ | assumption | refine Keeps.drew ?_ | refine Keeps.drewN ?_ _ | refine Keeps.alloc ?_ _ | exact Keeps.of_nil (by assumption) | refine Keeps.trans ?_ (Keeps.of_nil (by assumption)) | refine Keeps.setCell ?_ (.inr (by first | exact Nat.le_refl _ | (dsimp only; omega))) _ | refine Keeps.setCell ?_ (.inl (by first | (unfold Old; dsimp only; omega) | (unfold Old; simp; omega) | (unfold Old; simp))) _)))) HY.out.2.1 (HY.out.2.2.2.keepNil (show Keeps Nil wx _ from (by repeat (first | exact Keeps.refl _ _ | assumption | refine Keeps.drew ?_ | refine Keeps.drewN ?_ _ | refine Keeps.alloc ?_ _ | exact Keeps.of_nil (by assumption) | refine Keeps.trans ?_ (Keeps.of_nil (by assumption)) | refine Keeps.setCell ?_ (.inr (by first | exact Nat.le_refl _ | (dsimp only; omega))) _ | refine Keeps.setCell ?_ (.inl (by first | (unfold Old; dsimp only; omega) | (unfold Old; simp; omega) | (unfold Old; simp))) _)))) HF.out).mono ?_; rintro e w21 ⟨rfl, hk21⟩; rw [← HV.out]; obtain ⟨rc21, rf21, ra21⟩ := (show Keeps Nil wx w21 from (by repeat (first | exact Keeps.refl _ _ | assumption | refine Keeps.drew ?_ | refine Keeps.drewN ?_ _ | refine Keeps.alloc ?_ _ | exact Keeps.of_nil (by assumption) | refine Keeps.trans ?_ (Keeps.of_nil (by assumption)) | refine Keeps.setCell ?_ (.inr (by first | exact Nat.le_refl _ | (dsimp only; omega))) _ | refine Keeps.setCell ?_ (.inl (by first | (unfold Old; dsimp only; omega) | (unfold Old; simp; omega) | (unfold Old; simp))) _))).live))
          all_goals go_wp2_with fail
          all_goals go_roundw
          all_goals first | exact ⟨u + 1, by omega, by go_num, HKX.out.trans (show Keeps Nil wx _ from (by repeat (first | exact Keeps.refl _ _ | assumption | refine Keeps.drew ?_ | refine Keeps.drewN ?_ _ | refine Keeps.alloc ?_ _ | exact Keeps.of_nil (by assumption) | refine Keeps.trans ?_ (Keeps.of_nil (by assumption)) | refine Keeps.setCell ?_ (.inr (by first | exact Nat.le_refl _ | (dsimp only; omega))) _ | refine Keeps.setCell ?_ (.inl (by first | (unfold Old; dsimp only; omega) | (unfold Old; simp; omega) | (unfold Old; simp))) _)))⟩ | (simp [intOf]; omega)
        · have HKX := Lib.hid hkx
          clear hkx hkk
          go_wp2_with fail
          have HSC := Lib.hid (grown_scr H1.out.1 H1.out.2.1 (H2.out.2.2.trans HKX.out))
          generalize els.flatten ++ zI (c1 - els.length) = R0 at HSC
          have hhi := (H2.out.2.2.trans HKX.out).size
          go_loopw [13] (fun i wr => ∃ k : Nat, k ≤ c1 ∧ i = .int .i64 k ∧ Scr 38 w0.heap.size w1.heap.size wr a1 c1 k R0 ∧ Keeps (Mid w0 w1) wx wr) (fun i _ => c1 - (intOf i).toNat)
          case atStart => exact ⟨0, Nat.zero_le _, rfl, HSC.out, Keeps.refl _ _⟩
          case round =>
            rename World => wr
            rename Nat => k0
            obtain ⟨k, hk, rfl, hsc, hkr⟩ := hrel
            have i0 : (0 : Int) ≤ (k : Int) := by omega
            by_cases hlt : k < c1
            · rcases hsc with h | ⟨g, cs, hae, hg1, hg2, hrow, hlen, hagr, hsoft⟩
              · omega
              · subst hae
                have i1 : (k : Int) < (c1 : Int) := by omega
                obtain ⟨s, a', n', c', r0, r1, hle', hcap', -⟩ := hsoft k hlt
                have p1 : wr.cell? ⟨g, k * 2 + 1, none⟩ = some (.slice a' n' c') := by rw [hrow.cell, hagr _ (by omega)]; exact r1
                have hgr := Live.of hrow.lt
                have HRW := Lib.hid (And.intro hrow (And.intro hlen (And.intro hagr (And.intro hsoft (And.intro hkr (And.intro r0 r1))))))
                clear hrow hlen hagr hsoft hkr r0 r1
                go_wp2_with fail
                go_loopw [14] (fun i wt => ∃ t : Nat, t ≤ n' ∧ i = .int .i64 t ∧ RowIs wt g 38 cs ∧ Softs w0.heap.size w1.heap.size g wt R0 c1 ∧ Keeps (Mid w0 w1) wr wt) (fun i _ => n' - (intOf i).toNat)
                case atStart => exact ⟨0, Nat.zero_le _, rfl, HRW.out.1, HRW.out.2.2.2.1, Keeps.refl _ _⟩
                case round =>
                  rename World => wt
                  obtain ⟨t, ht, rfl, hrow', hsoft', hkt'⟩ := hrel
                  have p0 : wt.cell? ⟨g, k * 2, none⟩ = some (.bool s) := by rw [hrow'.cell, HRW.out.2.2.1 _ (by omega)]; exact HRW.out.2.2.2.2.2.1
                  have p1 : wt.cell? ⟨g, k * 2 + 1, none⟩ = some (.slice a' n' c') := by rw [hrow'.cell, HRW.out.2.2.1 _ (by omega)]; exact HRW.out.2.2.2.2.2.2
                  have hgl := hrow'.lt
                  have hhw := Nat.le_trans hhi (Nat.le_trans HRW.out.2.2.2.2.1.size hkt'.size)
                  by_cases htn : t < n'
                  · obtain ⟨s2, a2', n2', c2', -, q1, -, -, hso⟩ := hsoft' k hlt
                    cases HRW.out.2.2.2.2.2.2.symm.trans q1
                    obtain ⟨b, off, hae, hb1, hb2, hbg, ⟨v, hv⟩, hf⟩ := hso t htn
                    subst hae
                    replace hb1 : w0.heap.size ≤ b := hb1
                    replace hb2 : b < w1.heap.size := hb2
                    replace hbg : ¬ g = b := fun e => hbg e.symm
                    have hbl : b < wt.heap.size := Nat.lt_of_lt_of_le hb2 hhw
                    have j0 : (0 : Int) ≤ (t : Int) := by omega
                    have j1 : (t : Int) < (n' : Int) := by omega
                    have HT := Lib.hid (And.intro hrow' (And.intro hsoft' (And.intro hkt' (And.intro (show Mid w0 w1 b from ⟨hb1, hb2⟩) hhw))))
                    clear hrow' hsoft' hkt' hso q1 hb1 hb2 p0 hhw
                    go_wp2_with fail
                    refine wp_region_tillN (Keeps Nil wt) [16] (by kernel_rfl) ?_
                    have hS : Keeps Nil wt (World.drew wt) := (by repeat (first | exact Keeps.refl _ _ | refine Keeps.drew ?_ | refine Keeps.drewN ?_ _ | refine Keeps.alloc ?_ _))
                    refine wpTill_takeN (i := 0) (v := ?v1) #[false, true, false, false, false, true, true, true, true, true, true, true, true, true, true, false, false] rfl (by kernel_rfl) (Or.inl ⟨by rfl, ?y1⟩) hS ?r1
                    case y1 => (intro w' hSw; obtain ⟨hrc, hrf⟩ := hSw.rules; clear hSw;  go_simp; (try with_reducible rfl))
                    try simp only [Act.put, List.getElem_toArray, List.getElem_cons_zero, List.getElem_cons_succ, List.setIfInBounds_toArray, List.set_cons_zero, List.set_cons_succ]
                    refine wpTill_takeN (i := 1) (v := ?v2) #[true, false, false, false, false, true, true, true, true, true, true, true, true, true, true, false, false] rfl (by kernel_rfl) (Or.inl ⟨by rfl, ?y2⟩) hS ?r2
                    case y2 => (intro w' hSw; obtain ⟨hrc, hrf⟩ := hSw.rules; clear hSw;  go_simp; (try with_reducible rfl))
                    try simp only [Act.put, List.getElem_toArray, List.getElem_cons_zero, List.getElem_cons_succ, List.setIfInBounds_toArray, List.set_cons_zero, List.set_cons_succ]
                    refine wpTill_takeN (i := 2) (v := ?v3) #[true, true, false, false, false, true, true, true, true, true, true, true, true, true, true, false, false] rfl (by kernel_rfl) (Or.inl ⟨by rfl, ?y3⟩) hS ?r3
                    case y3 => (intro w' hSw; obtain ⟨hrc, hrf⟩ := hSw.rules; clear hSw;  go_simp; (try with_reducible rfl))
                    try simp only [Act.put, List.getElem_toArray, List.getElem_cons_zero, List.getElem_cons_succ, List.setIfInBounds_toArray, List.set_cons_zero, List.set_cons_succ]
                    refine wpTill_takeN (i := 3) (v := ?v4) #[true, true, true, false, false, true, true, true, true, true, true, true, true, true, true, false, false] rfl (by kernel_rfl) (Or.inl ⟨by rfl, ?y4⟩) hS ?r4
                    case y4 => (intro w' hSw; obtain ⟨hrc, hrf⟩ := hSw.rules; clear hSw;  go_simp; (try with_reducible rfl))
                    try simp only [Act.put, List.getElem_toArray, List.getElem_cons_zero, List.getElem_cons_succ, List.setIfInBounds_toArray, List.set_cons_zero, List.set_cons_succ]
                    refine wpTill_takeN (i := 4) (v := ?v5) #[true, true, true, true, false, true, true, true, true, true, true, true, true, true, true, false, false] rfl (by kernel_rfl) (Or.inl ⟨by rfl, ?y5⟩) hS ?r5
                    case y5 => (intro w' hSw; obtain ⟨hrc, hrf⟩ := hSw.rules; clear hSw;  go_simp; (try with_reducible rfl))
                    try simp only [Act.put, List.getElem_toArray, List.getElem_cons_zero, List.getElem_cons_succ, List.setIfInBounds_toArray, List.set_cons_zero, List.set_cons_succ]
                    refine wpTill_takeN (i := 5) (v := ?v6) #[true, true, true, true, true, false, true, true, true, true, true, true, true, true, true, false, false] rfl (by kernel_rfl) (Or.inl ⟨by rfl, ?y6⟩) hS ?r6
                    case y6 => (intro w' hSw; obtain ⟨hrc, hrf⟩ := hSw.rules; clear hSw;  go_simp; (try with_reducible rfl))
                    try simp only [Act.put, List.getElem_toArray, List.getElem_cons_zero, List.getElem_cons_succ, List.setIfInBounds_toArray, List.set_cons_zero, List.set_cons_succ]
                    refine wpTill_takeN (i := 6) (v := ?v7) #[true, true, true, true, true, true, false, true, false, false, false, true, false, false, false, true, false] rfl (by kernel_rfl) (Or.inl ⟨by rfl, ?y7⟩) hS ?r7
                    case y7 => (intro w' hSw; obtain ⟨hrc, hrf⟩ := hSw.rules; clear hSw;  go_simp; (try with_reducible rfl))
                    try simp only [Act.put, List.getElem_toArray, List.getElem_cons_zero, List.getElem_cons_succ, List.setIfInBounds_toArray, List.set_cons_zero, List.set_cons_succ]
                    refine wpTill_takeN (i := 7) (v := ?v8) #[true, true, true, true, true, true, true, false, false, false, false, true, false, false, false, true, false] rfl (by kernel_rfl) (Or.inl ⟨by rfl, ?y8⟩) hS ?r8
                    case y8 => (intro w' hSw; obtain ⟨hrc, hrf⟩ := hSw.rules; clear hSw;  go_simp; (try with_reducible rfl))
                    try simp only [Act.put, List.getElem_toArray, List.getElem_cons_zero, List.getElem_cons_succ, List.setIfInBounds_toArray, List.set_cons_zero, List.set_cons_succ]
                    refine wpTill_takeN (i := 8) (v := ?v9) #[true, true, true, true, true, true, true, true, false, false, false, true, false, false, false, true, false] rfl (by kernel_rfl) (Or.inl ⟨by rfl, ?y9⟩) hS ?r9
                    case y9 => (intro w' hSw; obtain ⟨hrc, hrf⟩ := hSw.rules; clear hSw;  go_simp; (try with_reducible rfl))
                    try simp only [Act.put, List.getElem_toArray, List.getElem_cons_zero, List.getElem_cons_succ, List.setIfInBounds_toArray, List.set_cons_zero, List.set_cons_succ]
                    refine wpTill_takeN (i := 9) (v := ?v10) #[true, true, true, true, true, true, true, true, true, false, false, true, false, false, false, true, false] rfl (by kernel_rfl) (Or.inl ⟨by rfl, ?y10⟩) hS ?r10
                    case y10 => (intro w' hSw; obtain ⟨hrc, hrf⟩ := hSw.rules; clear hSw;  go_simp; (try with_reducible rfl))
                    try simp only [Act.put, List.getElem_toArray, List.getElem_cons_zero, List.getElem_cons_succ, List.setIfInBounds_toArray, List.set_cons_zero, List.set_cons_succ]
                    refine wpTill_takeN (i := 10) (v := ?v11) #[true, true, true, true, true, true, true, true, true, true, false, true, false, false, false, true, false] rfl (by kernel_rfl) (Or.inl ⟨by rfl, ?y11⟩) hS ?r11
                    case y11 => (intro w' hSw; obtain ⟨hrc, hrf⟩ := hSw.rules; clear hSw;  go_simp; (try with_reducible rfl))
                    try simp only [Act.put, List.getElem_toArray, List.getElem_cons_zero, List.getElem_cons_succ, List.setIfInBounds_toArray, List.set_cons_zero, List.set_cons_succ]
                    refine wpTill_takeN (i := 11) (v := ?v12) #[true, true, true, true, true, true, true, true, true, true, true, false, false, false, false, true, false] rfl (by kernel_rfl) (Or.inl ⟨by rfl, ?y12⟩) hS ?r12
                    case y12 => (intro w' hSw; obtain ⟨hrc, hrf⟩ := hSw.rules; clear hSw;  go_simp; (try with_reducible rfl))
                    try simp only [Act.put, List.getElem_toArray, List.getElem_cons_zero, List.getElem_cons_succ, List.setIfInBounds_toArray, List.set_cons_zero, List.set_cons_succ]
                    refine wpTill_takeN (i := 12) (v := ?v13) #[true, true, true, true, true, true, true, true, true, true, true, true, false, false, false, true, false] rfl (by kernel_rfl) (Or.inl ⟨by rfl, ?y13⟩) hS ?r13
                    case y13 => (intro w' hSw; obtain ⟨hrc, hrf⟩ := hSw.rules; clear hSw;  go_simp; (try with_reducible rfl))
                    try simp only [Act.put, List.getElem_toArray, List.getElem_cons_zero, List.getElem_cons_succ, List.setIfInBounds_toArray, List.set_cons_zero, List.set_cons_succ]
                    refine wpTill_takeN (i := 13) (v := ?v14) #[true, true, true, true, true, true, true, true, true, true, true, true, true, false, false, true, false] rfl (by kernel_rfl) (Or.inl ⟨by rfl, ?y14⟩) hS ?r14
                    case y14 => (intro w' hSw; obtain ⟨hrc, hrf⟩ := hSw.rules; clear hSw;  go_simp; (try with_reducible rfl))
                    try simp only [Act.put, List.getElem_toArray, List.getElem_cons_zero, List.getElem_cons_succ, List.setIfInBounds_toArray, List.set_cons_zero, List.set_cons_succ]
                    refine wpTill_takeN (i := 14) (v := ?v15) #[true, true, true, true, true, true, true, true, true, true, true, true, true, true, false, true, false] rfl (by kernel_rfl) (Or.inl ⟨by rfl, ?y15⟩) hS ?r15
                    case y15 => (intro w' hSw; obtain ⟨hrc, hrf⟩ := hSw.rules; clear hSw;  go_simp; (try with_reducible rfl))
                    try simp only [Act.put, List.getElem_toArray, List.getElem_cons_zero, List.getElem_cons_succ, List.setIfInBounds_toArray, List.set_cons_zero, List.set_cons_succ]
                    refine wpTill_takeN (i := 15) (v := ?v16) #[true, true, true, true, true, true, true, true, true, true, true, true, true, true, true, false, false] rfl (by kernel_rfl) (Or.inl ⟨by rfl, ?y16⟩) hS ?r16
                    case y16 => (intro w' hSw; obtain ⟨hrc, hrf⟩ := hSw.rules; clear hSw;  go_simp; (try with_reducible rfl))
                    try simp only [Act.put, List.getElem_toArray, List.getElem_cons_zero, List.getElem_cons_succ, List.setIfInBounds_toArray, List.set_cons_zero, List.set_cons_succ]
                    clear hS
                    refine wpTill_ready (rs := [16]) (by kernel_rfl) (by simp) ?_
                    refine AllTill.consT rfl (by decide) (fun K hK => ?_) AllTill.nil
                    go_simp
                    refine hK.out _ _ ?_
                    clear hK K
                    try simp only [Act.put, List.setIfInBounds_toArray, List.set_cons_zero, List.set_cons_succ]
                    refine wpTill_doneN (by kernel_rfl) ?_ _
                    skip
                    go_wp2_with fail
                    go_roundw
                    case rel => exact ⟨t + 1, by omega, by go_num, (HT.out.1.setOther hbg).keep (Keeps.drew (Keeps.refl Nil _)) id, (HT.out.2.1.set _ _).keep (Keeps.drew (Keeps.refl Nil _)) (fun _ h => h.elim) (Nat.le_trans HT.out.2.2.2.2 (Keeps.size (Keeps.setCell (Keeps.refl (Mid w0 w1) wt) (.inl HT.out.2.2.2.1) _))), HT.out.2.2.1.trans (Keeps.drew (Keeps.setCell (Keeps.refl _ _) (.inl HT.out.2.2.2.1) _))⟩
                    case measure => simp [intOf]; omega
                  · have f0 := hrow'.frozen (k * 2)
                    have f1 := hrow'.frozen (k * 2 + 1)
                    have HT := Lib.hid (And.intro hrow' (And.intro hsoft' (And.intro hkt' hhw)))
                    have hgn : ¬ g = wt.heap.size := by omega
                    have hgm : ¬ wt.heap.size = g := by omega
                    clear hrow' hsoft' hkt' hhw
                    go_wp2_with fail
                    go_roundw
                    case rel => exact ⟨k + 1, by omega, by go_num, Scr.put2 hg1 hg2 HT.out.1 HRW.out.2.1 HRW.out.2.2.1 HT.out.2.1 HT.out.2.2.2, (HRW.out.2.2.2.2.1.trans HT.out.2.2.1).trans (Keeps.alloc (Keeps.setCell (Keeps.setCell (Keeps.refl _ _) (.inl ⟨hg1, hg2⟩) _) (.inl ⟨hg1, hg2⟩) _) _)⟩
                    case measure => simp [intOf]; omega
            · have hkM : Keeps (Mid w0 w1) w0 wr := (HK2.out.trans HKX.out).of_nil.trans hkr
              have HS3 := Lib.hid (HS.out.1.move (M2 := Nil) hkM (fun b hb hm => absurd hm.1 (by omega)) (fun _ _ h => h.elim))
              have HW3 := Lib.hid (ZInts.move (M2 := Nil) HS.out.2.1.1 hkM (fun b hb hm => absurd hm.1 (by omega)) (fun _ _ h => h.elim))
              have HD3 := Lib.hid (ZInts.move (M2 := Nil) HD.out (HKX.out.of_nil.trans hkr) (fun b hb hm => hm.2) (fun _ _ h => h.elim))
              have r3 := HB.out.1.keep hkM (fun hm => absurd hm.1 (by omega))
              have HB3 := Lib.hid (And.intro r3 hkM)
              clear hsc hkr hkM r3
              go_upto_region 31 with (first | (go_at_call 18; refine (cuts_any (M := Nil) (MB.nil _) HS3.out HF.out).mono ?_; rintro e w4 ⟨a3, c3, rfl, hz3, hk4⟩; rw [← HNC.out] at hz3 ⊢; have H3 := Lib.hid (And.intro hz3 hk4); clear hz3 hk4))
              have hcap3 := H3.out.1.cap
              have hle3 := H3.out.1.le
              go_wp2_with fail
              go_loopw [16] (fun i wq => ∃ k : Nat, k ≤ nc ∧ i = .int .i64 k ∧ Keeps Nil w4 wq) (fun i _ => nc - (intOf i).toNat)
              case atStart => exact ⟨0, Nat.zero_le _, rfl, Keeps.refl _ _⟩
              case round =>
                rename World => wq
                obtain ⟨k2, hk2, rfl, hkq⟩ := hrel
                have j0 : (0 : Int) ≤ (k2 : Int) := by omega
                by_cases hlt2 : k2 < nc
                · have j1 : (k2 : Int) < (nc : Int) := by omega
                  obtain ⟨b1, o1, g1, a4, n4, c4, hae, hb1, -, x0, x1, hz1⟩ := (HD3.out.keepNil (H3.out.2.trans hkq)).at hlt2
                  subst hae
                  obtain ⟨b2, o2, g2, a5, n5, c5, hae, hb2, -, y0, y1, hz2⟩ := (HW3.out.keepNil (H3.out.2.trans hkq)).at hlt2
                  subst hae
                  obtain ⟨b3, o3, g3, a6, n6, c6, hae, hb3, -, z0, z1, hz3⟩ := (H3.out.1.keepNil hkq).at hlt2
                  subst hae
                  obtain rfl : g1 = g2 := hz1.1.trans hz2.1.symm
                  obtain rfl : g1 = g3 := hz1.1.trans hz3.1.symm
                  have rq := HB3.out.1.keep (H3.out.2.trans hkq) id
                  have t1 := rq.three.2.1
                  have l0 := Live.of rq.lt
                  have l1 := Live.of hb1
                  have l2 := Live.of hb2
                  have l3 := Live.of hb3
                  have HZ := Lib.hid (And.intro hz1 (And.intro hz2 (And.intro hz3 hkq)))
                  clear hz1 hz2 hz3 hkq hb1 hb2 hb3 rq
                  go_wp2_with fail
                  go_region_held3 (fun w' => w'.cell? ⟨w.heap.size, 1, none⟩ = some (.slice (some ⟨b2, o2, none⟩) nc cc) ∧ w'.cell? ⟨b1, o1 + k2 * 2, none⟩ = some (.bool g1) ∧ w'.cell? ⟨b1, o1 + k2 * 2 + 1, none⟩ = some (.slice a4 n4 c4) ∧ w'.cell? ⟨b2, o2 + k2 * 2, none⟩ = some (.bool g1) ∧ w'.cell? ⟨b2, o2 + k2 * 2 + 1, none⟩ = some (.slice a5 n5 c5) ∧ w'.cell? ⟨b3, o3 + k2 * 2, none⟩ = some (.bool g1) ∧ w'.cell? ⟨b3, o3 + k2 * 2 + 1, none⟩ = some (.slice a6 n6 c6)) (go_keep) (first | (go_at_call_of 22 (Value.agg #[.bool g1, .slice a4 n4 c4]); refine (ints_same (HZ.out.1.keepNil (show Keeps Nil wq _ from (by repeat (first | exact Keeps.refl _ _ | assumption | refine Keeps.drew ?_ | refine Keeps.drewN ?_ _ | refine Keeps.alloc ?_ _ | exact Keeps.of_nil (by assumption) | refine Keeps.trans ?_ (Keeps.of_nil (by assumption)) | refine Keeps.setCell ?_ (.inr (by first | exact Nat.le_refl _ | (dsimp only; omega))) _ | refine Keeps.setCell ?_ (.inl (by first | (unfold Old; dsimp only; omega) | (unfold Old; simp; omega) | (unfold Old; simp))) _)))) (HZ.out.2.1.keepNil (show Keeps Nil wq _ from (by repeat (first | exact Keeps.refl _ _ | assumption | refine Keeps.drew ?_ | refine Keeps.drewN ?_ _ | refine Keeps.alloc ?_ _ | exact Keeps.of_nil (by assumption) | refine Keeps.trans ?_ (Keeps.of_nil (by assumption)) | refine Keeps.setCell ?_ (.inr (by first | exact Nat.le_refl _ | (dsimp only; omega))) _ | refine Keeps.setCell ?_ (.inl (by first | (unfold Old; dsimp only; omega) | (unfold Old; simp; omega) | (unfold Old; simp))) _))))).mono ?_; rintro e w5 ⟨rfl, hk5⟩; obtain ⟨rc5, rf5, ra5⟩ := (show Keeps Nil wq w5 from (by repeat (first | exact Keeps.refl _ _ | assumption | refine Keeps.drew ?_ | refine Keeps.drewN ?_ _ | refine Keeps.alloc ?_ _ | exact Keeps.of_nil (by assumption) | refine Keeps.trans ?_ (Keeps.of_nil (by assumption)) | refine Keeps.setCell ?_ (.inr (by first | exact Nat.le_refl _ | (dsimp only; omega))) _ | refine Keeps.setCell ?_ (.inl (by first | (unfold Old; dsimp only; omega) | (unfold Old; simp; omega) | (unfold Old; simp))) _))).live) | (go_at_call_of 22 (Value.agg #[.bool g1, .slice a6 n6 c6]); refine (ints_same (HZ.out.2.2.1.keepNil (show Keeps Nil wq _ from (by repeat (first | exact Keeps.refl _ _ | assumption | refine Keeps.drew ?_ | refine Keeps.drewN ?_ _ | refine Keeps.alloc ?_ _ | exact Keeps.of_nil (by assumption) | refine Keeps.trans ?_ (Keeps.of_nil (by assumption)) | refine Keeps.setCell ?_ (.inr (by first | exact Nat.le_refl _ | (dsimp only; omega))) _ | refine Keeps.setCell ?_ (.inl (by first | (unfold Old; dsimp only; omega) | (unfold Old; simp; omega) | (unfold Old; simp))) _)))) (HZ.out.2.1.keepNil (show Keeps Nil wq _ from (by repeat (first | exact Keeps.refl _ _ | assumption | refine Keeps.drew ?_ | refine Keeps.drewN ?_ _ | refine Keeps.alloc ?_ _ | exact Keeps.of_nil (by assumption) | refine Keeps.trans ?_ (Keeps.of_nil (by assumption)) | refine Keeps.setCell ?_ (.inr (by first | exact Nat.le_refl _ | (dsimp only; omega))) _ | refine Keeps.setCell ?_ (.inl (by first | (unfold Old; dsimp only; omega) | (unfold Old; simp; omega) | (unfold Old; simp))) _))))).mono ?_; rintro e w6 ⟨rfl, hk6⟩; obtain ⟨rc6, rf6, ra6⟩ := (show Keeps Nil wq w6 from (by repeat (first | exact Keeps.refl _ _ | assumption | refine Keeps.drew ?_ | refine Keeps.drewN ?_ _ | refine Keeps.alloc ?_ _ | exact Keeps.of_nil (by assumption) | refine Keeps.trans ?_ (Keeps.of_nil (by assumption)) | refine Keeps.setCell ?_ (.inr (by first | exact Nat.le_refl _ | (dsimp only; omega))) _ | refine Keeps.setCell ?_ (.inl (by first | (unfold Old; dsimp only; omega) | (unfold Old; simp; omega) | (unfold Old; simp))) _))).live))
                  all_goals go_wp2_with fail
                  all_goals go_roundw
                  all_goals first | exact ⟨k2 + 1, by omega, by go_num, HZ.out.2.2.2.trans (show Keeps Nil wq _ from (by repeat (first | exact Keeps.refl _ _ | assumption | refine Keeps.drew ?_ | refine Keeps.drewN ?_ _ | refine Keeps.alloc ?_ _ | exact Keeps.of_nil (by assumption) | refine Keeps.trans ?_ (Keeps.of_nil (by assumption)) | refine Keeps.setCell ?_ (.inr (by first | exact Nat.le_refl _ | (dsimp only; omega))) _ | refine Keeps.setCell ?_ (.inl (by first | (unfold Old; dsimp only; omega) | (unfold Old; simp; omega) | (unfold Old; simp))) _)))⟩ | (simp [intOf]; omega)
                · have HE2 := Lib.hid (HB.out.2.trans' (HB3.out.2.trans (H3.out.2.trans hkq).of_nil) (fun b hm => .inr (Nat.le_trans HB.out.2.size hm.1)))
                  clear hkq
                  go_wp2_with fail
                  go_ret
                  exact ⟨rfl, HE2.out⟩
end Go.Proofs.YtfkclbhddiidbaaGreat
