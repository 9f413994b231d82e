/- The law PeriodsShift: the walk. Conditions: the recipe and the points read; room for them. -/
import Derived.Test.YtfkclbhddiidbaaKPJoins
import Derived.Test.YtfkclbhddiidbaaKRefCmp
namespace Go.Rid
/-- Where no cut lies between, a number and the period together says the same. -/
theorem shift_has {S : PSet} (h : S.Ok) {z : Int} (hb : ¬ ∃ j, j < S.cuts.length ∧ z < zth S.cuts j ∧ zth S.cuts j ≤ z + (S.P : Int)) : has S z = has S (z + (S.P : Int)) := by
  have hp := h.pos
  refine has_shift (fun c hc => ?_) (by rw [Int.add_emod_right])
  obtain ⟨j, hj, rfl⟩ := seg_of_mem hc
  constructor
  · intro h1; omega
  · intro h1
    by_cases h2 : z < zth S.cuts j
    · exact absurd ⟨j, hj, h2, h1⟩ hb
    · omega
theorem cmpZ_of_lt {a b : Int} (h : a < b) : cmpZ a b = -1 := by unfold cmpZ; rw [if_pos h]
theorem cmpZ_nonneg {a b : Int} (h : b ≤ a) : (0 : Int) ≤ cmpZ a b := by unfold cmpZ; rw [if_neg (by omega)]; split <;> omega
end Go.Rid
namespace Go.Proofs.Ytfkclbhddiidbaa
open Go.RowKit Go.Rid
/-- What each operation of the last test yields, where the second half of it is not asked. -/
def ShF (zv cv lv iv pv : Value) (cm : Int) : Nat → Value → World → Prop
  | 0, v, _ => v = zv
  | 1, v, _ => v = lv
  | 2, v, _ => v = iv
  | 3, v, _ => v = pv
  | 4, v, _ => v = cv
  | 5, v, _ => v = .int .i64 cm
  | 6, v, _ => v = .bool false
  | 7, v, _ => v = .bool false
  | 15, v, _ => v = .bool false
  | _, _, _ => True
theorem shF_keep (zv cv lv iv pv : Value) (cm : Int) : ∀ j v w w', Keeps Nil w w' → ShF zv cv lv iv pv cm j v w → ShF zv cv lv iv pv cm j v w' := by
  intro j v w w' _ h
  unfold ShF at *
  split at h <;> exact h
set_option maxHeartbeats 8000000 in
set_option maxRecDepth 100000 in
theorem PeriodsShift_walk (w : World) {a a2 : Option Addr} {n c n2 c2 : Nat} {l : List Mk} {zs : List Int} (h : Makes Nil w a n c l) (hn : n * 88 ≤ 140737488355328) (h2 : SlOf Nil w 2 (RNum Nil w) 0 a2 n2 c2 zs) (hn2 : n2 * 32 + 4096 ≤ 140737488355328) :
    Calls Try.prog 5 #[.slice a n c, .slice a2 n2 c2] w fun e w' => e = .returned (.bool true) ∧ Keeps Nil w w' := by
  have hroom := roomy_cuts h.fit
  have hgood : ∀ S ∈ buildS l, GoodS (cutsOf l) S := good_build l 12 (Nat.le_refl _)
  have hbl := length_fold (l.take 12) [noneSet]
  have HL := Lib.hid h
  have HPT := Lib.hid (And.intro h2 hn2)
  have hN1 : 1 ≤ (buildS l).length := by have := hbl.1; simpa [buildS] using this
  have hN2 : (buildS l).length ≤ 1000 := by have := hbl.2; simp only [List.length_singleton, List.length_take] at this; unfold buildS; omega
  have HG := Lib.hid (And.intro hroom hgood)
  clear h hroom hgood hbl hn h2 hn2
  have qnil : ∀ (w : World) (a : Option Addr) (n c n' c' : Nat), (binOp .eql 24 (.slice a n c) (.slice none n' c')).run Try.prog w = .ok (.bool a.isNone) w := fun w a n c n' c' => Lib.run_eql_slice_nil w _ _ a n c n' c' Try.underlying24
  go_enter Try.func5, Try.ntmps5
  go_upto_region 4 with (first | (go_at_call 6; refine (sets_any (M := Nil) (MB.nil _) HL.out).mono ?_; rintro e w1 ⟨aS, cS, rfl, hS, hk1⟩; obtain ⟨b0, off0, p0, hae, hb0, _⟩ := hS.at (i := 0) (by omega); subst hae) | (go_at_call 7; refine known_any.mono ?_; rintro e w2 ⟨rfl, hk2⟩))
  have HS := Lib.hid (hS.keepNil hk2)
  have HK2 := Lib.hid (hk1.trans hk2)
  obtain ⟨capS, leS⟩ := And.intro (SlOf.cap hS) (SlOf.le hS)
  clear hS hk1 hk2 hb0 HL
  generalize buildS l = all at *
  generalize hNN : all.length = N at *
  go_wp2_with fail
  go_loopw [6] (fun i wr => ∃ k : Nat, k ≤ N ∧ i = .int .i64 k ∧ Keeps Nil w2 wr) (fun i _ => N - (intOf i).toNat)
  case atStart => exact ⟨0, Nat.zero_le _, rfl, Keeps.refl _ _⟩
  case round =>
    obtain ⟨k, hk, rfl, hkk⟩ := hrel
    by_cases hlt : k < N
    · obtain ⟨bx, ox, pA, hae, _, _, x0, hA⟩ := (HS.out.keepNil hkk).at hlt
      cases hae
      have gA : GoodS (cutsOf l) (all.getD k noneSet) := good_get HG.out.2 k
      generalize all.getD k noneSet = A at *
      have HGD := Lib.hid gA
      have HF := Lib.hid (gA.fine HG.out.1)
      have HAB := Lib.hid hA
      have HKK := Lib.hid hkk
      have hP := gA.ok.pos
      have hP2 := gA.ok.le
      have i4 : (0 : Int) ≤ (k : Int) := by omega
      have i5 : (k : Int) < (N : Int) := by omega
      have i6 : ¬ (A.P : Int) < 1 := by omega
      have i7 : ¬ (4096 : Int) < (A.P : Int) := by omega
      have i8 : decide ((A.P : Int) < 1) = false := decide_eq_false i6
      have i9 : decide ((4096 : Int) < (A.P : Int)) = false := decide_eq_false i7
      clear hA gA hkk
      go_upto_region 13 with (first | (go_at_call 11; refine (some_any (nums_keep HPT.out.1 (HK2.out.trans (HKK.out.trans (by repeat (first | exact Keeps.refl _ _ | assumption | refine Keeps.drew ?_ | refine Keeps.drewN ?_ _ | refine Keeps.alloc ?_ _ | exact Keeps.of_nil (by assumption) | refine Keeps.trans ?_ (Keeps.of_nil (by assumption)) | refine Keeps.setCell ?_ (.inr (by first | exact Nat.le_refl _ | (dsimp only; omega))) _ | refine Keeps.setCell ?_ (.inl (by first | (unfold Old; dsimp only; omega) | (unfold Old; simp; omega) | (unfold Old; simp))) _))))) HPT.out.2 (sets1 (RowIs.alloc (xs := [.pointer (some ⟨pA, 0, none⟩)])) (HAB.out.keepNil (by repeat (first | exact Keeps.refl _ _ | assumption | refine Keeps.drew ?_ | refine Keeps.drewN ?_ _ | refine Keeps.alloc ?_ _ | exact Keeps.of_nil (by assumption) | refine Keeps.trans ?_ (Keeps.of_nil (by assumption)) | refine Keeps.setCell ?_ (.inr (by first | exact Nat.le_refl _ | (dsimp only; omega))) _ | refine Keeps.setCell ?_ (.inl (by first | (unfold Old; dsimp only; omega) | (unfold Old; simp; omega) | (unfold Old; simp))) _)))) (by decide) (fun S hS => by rw [show S = A by simpa using hS]; exact ⟨HF.out, goodFew HGD.out⟩)).mono ?_; rintro e w9 ⟨a9, N9, c9, xs9, rfl, hx9, hk9⟩) | (go_at_call 16; refine (period_of (HAB.out.keepNil (by repeat (first | exact Keeps.refl _ _ | assumption | refine Keeps.drew ?_ | refine Keeps.drewN ?_ _ | refine Keeps.alloc ?_ _ | exact Keeps.of_nil (by assumption) | refine Keeps.trans ?_ (Keeps.of_nil (by assumption)) | refine Keeps.setCell ?_ (.inr (by first | exact Nat.le_refl _ | (dsimp only; omega))) _ | refine Keeps.setCell ?_ (.inl (by first | (unfold Old; dsimp only; omega) | (unfold Old; simp; omega) | (unfold Old; simp))) _)))).mono ?_; rintro e w8 ⟨rfl, rfl⟩) | (go_at_call 15; refine (cuts_any (M := Nil) (MB.nil _) HAB.out HF.out).mono ?_; rintro e w5 ⟨a5, c5, rfl, hz5, hk5⟩))
      obtain ⟨q, hq⟩ : ∃ q, q = A.cuts.length := ⟨_, rfl⟩
      have hq12 : q ≤ 12 := by rw [hq]; exact goodFew HGD.out
      rw [← hq] at hz5 ⊢
      obtain ⟨capq, leq⟩ := And.intro hz5.cap hz5.le
      obtain ⟨cap9, le9⟩ := And.intro hx9.cap hx9.le
      have HX9 := Lib.hid hx9
      have HKW := Lib.hid (show Keeps Nil wr w9 from (by repeat (first | exact Keeps.refl _ _ | assumption | refine Keeps.drew ?_ | refine Keeps.drewN ?_ _ | refine Keeps.alloc ?_ _ | exact Keeps.of_nil (by assumption) | refine Keeps.trans ?_ (Keeps.of_nil (by assumption)) | refine Keeps.setCell ?_ (.inr (by first | exact Nat.le_refl _ | (dsimp only; omega))) _ | refine Keeps.setCell ?_ (.inl (by first | (unfold Old; dsimp only; omega) | (unfold Old; simp; omega) | (unfold Old; simp))) _)))
      have HCU := Lib.hid (And.intro (hz5.keepNil ((show Keeps Nil w5 _ from (by repeat (first | exact Keeps.refl _ _ | refine Keeps.drew ?_ | refine Keeps.drewN ?_ _ | refine Keeps.alloc ?_ _))).trans hk9)) hq)
      have HAS := Lib.hid (HAB.out.keepNil HKW.out)
      have HSRT := Lib.hid HGD.out.ok.sorted
      clear hx9 hk9 hk5 hz5 x0 hq
      go_wp2_with fail
      go_loopw [11] (fun i wx => ∃ u : Nat, u ≤ N9 ∧ i = .int .i64 u ∧ Keeps Nil w9 wx) (fun i _ => N9 - (intOf i).toNat)
      case atStart => exact ⟨0, Nat.zero_le _, rfl, Keeps.refl _ _⟩
      case round =>
        rename World => wx
        obtain ⟨u, hu, rfl, hkx⟩ := hrel
        by_cases hut : u < N9
        · obtain ⟨b, off, g, a', n', c', z, hae, hb, y0, y1, hz, hr'⟩ := RN2.at (RN2.keepNil HX9.out hkx) hut
          subst hae
          have j1 : (0 : Int) ≤ (u : Int) := by omega
          have j2 : (u : Int) < (N9 : Int) := by omega
          have HKX := Lib.hid hkx
          have hnl := hz.nlen_le
          have HZ0 := Lib.hid hz
          clear hz hkx
          go_upto_region 17 with (fail)
          have hkd : Keeps Nil wx (wx.alloc (.cells #[.bool g, .slice a' n' c'] 36)) := (by repeat (first | exact Keeps.refl _ _ | refine Keeps.drew ?_ | refine Keeps.drewN ?_ _ | refine Keeps.alloc ?_ _))
          have rbt := RowIs.alloc (w := wx) (E := 36) (xs := [.bool g, .slice a' n' c'])
          change RowIs (wx.alloc (.cells #[.bool g, .slice a' n' c'] 36)) _ _ _ at rbt
          generalize wx.alloc (.cells #[.bool g, .slice a' n' c'] 36) = wd at *
          obtain ⟨c0, c1, _, _⟩ := rbt.two
          have b0 := Live.of rbt.lt
          have HZ := Lib.hid (And.intro (HZ0.out.keepNil hkd) (show n' * 4 + 4 ≤ 140737488355328 by omega))
          have HD := Lib.hid (And.intro rbt hkd)
          clear rbt hkd y0 y1 hb
          have hsm := nlen_nat_small (q := A.P) (by omega)
          have hfy : nlen (z + (A.P : Int)).natAbs * 4 + 4 ≤ 140737488355328 := by
            have := nlen_natAbs_add z (A.P : Int); omega
          have HFY := Lib.hid (And.intro hfy (show nlen ((A.P : Int)).natAbs * 4 + 4 ≤ 140737488355328 by omega))
          clear hfy hsm hnl
          obtain ⟨la, ls, ld, ln, ln', ln1, ln1', lc, lf⟩ := liveRules
          go_cut [13] (fun v wx => BoxOf wd (z + (A.P : Int)) v wx)
          case first =>
            go_region_held3 (fun w' => w'.cell? ⟨wx.heap.size, 0, none⟩ = some (.bool g) ∧ w'.cell? ⟨wx.heap.size, 1, none⟩ = some (.slice a' n' c')) (go_keep) (first | (go_at_call 18; refine (refof_any (M := Old _) (MB.old _) (by omega) (by omega)).mono ?_; rintro e w10 ⟨g1, a1, n1, m1, rfl, h1, hk10⟩; obtain ⟨rc1, rf1, ra1⟩ := hk10.live; have q1 : Live w10 wx.heap.size := (show Keeps Nil wd w10 from (by repeat (first | exact Keeps.refl _ _ | assumption | refine Keeps.drew ?_ | refine Keeps.drewN ?_ _ | refine Keeps.alloc ?_ _ | exact Keeps.of_nil (by assumption) | refine Keeps.trans ?_ (Keeps.of_nil (by assumption)) | refine Keeps.setCell ?_ (.inr (by first | exact Nat.le_refl _ | (dsimp only; omega))) _ | refine Keeps.setCell ?_ (.inl (by first | (unfold Old; dsimp only; omega) | (unfold Old; simp; omega) | (unfold Old; simp))) _))).live.2.2 _ b0; have qn1 := live_ne q1; have qm1 := live_ne' q1; have zs1 := hk10.size; (try simp at zs1); have H1 := Lib.hid h1; clear h1) | (go_at_call 17; refine (refadd_any (M := Old _) (MB.old _) (HZ.out.1.keepNil (by repeat (first | exact Keeps.refl _ _ | assumption | refine Keeps.drew ?_ | refine Keeps.drewN ?_ _ | refine Keeps.alloc ?_ _ | exact Keeps.of_nil (by assumption) | refine Keeps.trans ?_ (Keeps.of_nil (by assumption)) | refine Keeps.setCell ?_ (.inr (by first | exact Nat.le_refl _ | (dsimp only; omega))) _ | refine Keeps.setCell ?_ (.inl (by first | (unfold Old; dsimp only; omega) | (unfold Old; simp; omega) | (unfold Old; simp))) _))) (H1.out.lateZ (by repeat (first | exact Keeps.refl _ _ | assumption | refine Keeps.drew ?_ | refine Keeps.drewN ?_ _ | refine Keeps.alloc ?_ _ | exact Keeps.of_nil (by assumption) | refine Keeps.trans ?_ (Keeps.of_nil (by assumption)) | refine Keeps.setCell ?_ (.inr (by first | exact Nat.le_refl _ | (dsimp only; omega))) _ | refine Keeps.setCell ?_ (.inl (by first | (unfold Old; dsimp only; omega) | (unfold Old; simp; omega) | (unfold Old; simp))) _)) HFY.out.2) HZ.out.2 (fit_ofN H1.out HFY.out.2)).mono ?_; rintro e w11 ⟨g4, a4, n4, m4, rfl, h4, hk11⟩; obtain ⟨rc2, rf2, ra2⟩ := hk11.live; obtain ⟨rc12, rf12, ra12⟩ := (hk10.trans (show Keeps Nil w10 w11 from (by repeat (first | exact Keeps.refl _ _ | assumption | refine Keeps.drew ?_ | refine Keeps.drewN ?_ _ | refine Keeps.alloc ?_ _ | exact Keeps.of_nil (by assumption) | refine Keeps.trans ?_ (Keeps.of_nil (by assumption)) | refine Keeps.setCell ?_ (.inr (by first | exact Nat.le_refl _ | (dsimp only; omega))) _ | refine Keeps.setCell ?_ (.inl (by first | (unfold Old; dsimp only; omega) | (unfold Old; simp; omega) | (unfold Old; simp))) _)))).live; have q2 : Live w11 wx.heap.size := (show Keeps Nil w10 w11 from (by repeat (first | exact Keeps.refl _ _ | assumption | refine Keeps.drew ?_ | refine Keeps.drewN ?_ _ | refine Keeps.alloc ?_ _ | exact Keeps.of_nil (by assumption) | refine Keeps.trans ?_ (Keeps.of_nil (by assumption)) | refine Keeps.setCell ?_ (.inr (by first | exact Nat.le_refl _ | (dsimp only; omega))) _ | refine Keeps.setCell ?_ (.inl (by first | (unfold Old; dsimp only; omega) | (unfold Old; simp; omega) | (unfold Old; simp))) _))).live.2.2 _ q1; have qn2 := live_ne q2; have qm2 := live_ne' q2; have zs2 := hk11.size; (try simp at zs2); have H4 := Lib.hid h4; clear h4))
            all_goals (go_wp2_with fail; go_meet)
            all_goals exact ⟨_, rfl, ⟨g4, a4, n4, m4, by simp (maxDischargeDepth := 6) [*, go_sem], by simp (maxDischargeDepth := 6) [*, go_sem], H4.out.late (M := Nil) (by repeat (first | exact Keeps.refl _ _ | assumption | refine Keeps.drew ?_ | refine Keeps.drewN ?_ _ | refine Keeps.alloc ?_ _ | exact Keeps.of_nil (by assumption) | refine Keeps.trans ?_ (Keeps.of_nil (by assumption)) | refine Keeps.setCell ?_ (.inr (by first | exact Nat.le_refl _ | (dsimp only; omega))) _ | refine Keeps.setCell ?_ (.inl (by first | (unfold Old; dsimp only; omega) | (unfold Old; simp; omega) | (unfold Old; simp))) _)) (fun _ h => h.elim)⟩, (by repeat (first | exact Keeps.refl _ _ | assumption | refine Keeps.drew ?_ | refine Keeps.drewN ?_ _ | refine Keeps.alloc ?_ _ | exact Keeps.of_nil (by assumption) | refine Keeps.trans ?_ (Keeps.of_nil (by assumption)) | refine Keeps.setCell ?_ (.inr (by first | exact Nat.le_refl _ | (dsimp only; omega))) _ | refine Keeps.setCell ?_ (.inl (by first | (unfold Old; dsimp only; omega) | (unfold Old; simp; omega) | (unfold Old; simp))) _))⟩
          case rest =>
            rename World => wy
            obtain ⟨by', rfl, ⟨g4, a4, n4, m4, d0, d1, hzy⟩, hky⟩ := hcut
            have lby : by' < wy.heap.size := World.block_lt_of_cell? wy ⟨by', 0, none⟩ d0
            have lb2 := Live.of lby
            have lb1 := hky.live.2.2 _ b0
            have e0 := hky.cellE b0.lt id c0
            have e1 := hky.cellE b0.lt id c1
            have HY := Lib.hid (And.intro (hzy.zat HFY.out.1) (And.intro (fit_ofN hzy HFY.out.1) (And.intro (HZ.out.1.keepNil hky) (HD.out.2.trans hky))))
            have HCY := Lib.hid (And.intro (And.intro d0 d1) (And.intro (And.intro e0 e1) (And.intro lb1 lb2)))
            clear hzy hky lby c0 c1 d0 d1 e0 e1 b0 lb1 lb2
            go_wp2_with fail
            go_loopw [14, 15] (fun v i wv => ∃ (s : Nat) (bt : Bool), s ≤ q ∧ i = .int .i64 s ∧ v = .bool bt ∧ (bt = true ↔ ∃ j, j < s ∧ z < zth A.cuts j ∧ zth A.cuts j ≤ z + (A.P : Int)) ∧ Keeps Nil wy wv) (fun _ i _ => q - (intOf i).toNat)
            case atStart => exact ⟨0, false, Nat.zero_le _, rfl, rfl, ⟨fun h => (by cases h), fun ⟨j, h, _⟩ => (by omega)⟩, Keeps.refl _ _⟩
            case round =>
              rename World => wv
              obtain ⟨s, bt, hs, rfl, rfl, hbt, hkv⟩ := hrel
              have HBT := Lib.hid (And.intro hbt hkv)
              obtain ⟨⟨d0', d1'⟩, ⟨e0', e1'⟩, lb1', lb2'⟩ := HCY.out
              have d0 := hkv.cellE lb2'.lt id d0'
              have d1 := hkv.cellE lb2'.lt id d1'
              have e0 := hkv.cellE lb1'.lt id e0'
              have e1 := hkv.cellE lb1'.lt id e1'
              have lb1 := hkv.live.2.2 _ lb1'
              have lb2 := hkv.live.2.2 _ lb2'
              clear hbt d0' d1' e0' e1' lb1' lb2'
              by_cases hst : s < q
              · obtain ⟨b3, o3, g3, a3, n3, c3, hae, hb3, _, v0, v1, hz3⟩ := (HCU.out.1.keepNil (HKX.out.trans (HY.out.2.2.2.trans hkv))).at hst
                subst hae
                have lb3 := Live.of hb3
                have hsl : s < A.cuts.length := by have := HCU.out.2; omega
                have hf3 := HF.out.fit4 _ (seg_mem hsl)
                have HZ3 := Lib.hid (hz3.zat hf3)
                have k1 : (0 : Int) ≤ (s : Int) := by omega
                have k2 : (s : Int) < (q : Int) := by omega
                clear hz3 hf3 hb3
                go_upto_region 22 with (fail)
                go_cut [82] (fun v wz => v = .bool false ∧ Keeps Nil wv wz)
                case first =>
                  by_cases h0 : 0 < s
                  · obtain ⟨m, rfl⟩ : ∃ m, s = m + 1 := ⟨s - 1, by omega⟩
                    have k3 : (0 : Int) < ((m + 1 : Nat) : Int) := by omega
                    have k4 : decide ((0 : Int) < ((m + 1 : Nat) : Int)) = true := decide_eq_true k3
                    have m1 : IntKind.i64.wrap (m : Int) = (m : Int) := IntWalk.i64_in _ (by omega)
                    have m2 : IntKind.i64.wrap ((m : Int) + 1 - 1) = (m : Int) := by rw [show (m : Int) + 1 - 1 = (m : Int) by omega]; exact m1
                    have m3 : IntKind.i64.wrap (((m + 1 : Nat) : Int) - 1) = (m : Int) := by rw [show ((m + 1 : Nat) : Int) - 1 = (m : Int) by omega]; exact m1
                    have m4' : (0 : Int) ≤ (m : Int) := by omega
                    have m5 : (m : Int) < (q : Int) := by omega
                    have m6 : (0 : Int) < (m : Int) + 1 := by omega
                    have m8 : (m : Int) + 1 < (q : Int) := by omega
                    have m9 : (0 : Int) ≤ (m : Int) + 1 := by omega
                    have m7 : decide ((0 : Int) < (m : Int) + 1) = true := decide_eq_true m6
                    obtain ⟨b5, o5, g5, a6, n6, c6, hae, hb5, _, v2, v3, hz6⟩ := (HCU.out.1.keepNil (HKX.out.trans (HY.out.2.2.2.trans hkv))).at (i := m) (by omega)
                    cases hae
                    have hml : m < A.cuts.length := by omega
                    have HZ6 := Lib.hid (hz6.zat (HF.out.fit4 _ (seg_mem hml)))
                    have HCM := Lib.hid (cmpZ_of_lt (seg_mono HSRT.out (Nat.lt_succ_self m) hsl))
                    clear hz6 hb5
                    go_region_held3 (fun w' => w'.cell? ⟨b3, o3 + m * 2, none⟩ = some (.bool g5) ∧ w'.cell? ⟨b3, o3 + m * 2 + 1, none⟩ = some (.slice a6 n6 c6) ∧ w'.cell? ⟨b3, o3 + (m + 1) * 2, none⟩ = some (.bool g3) ∧ w'.cell? ⟨b3, o3 + (m + 1) * 2 + 1, none⟩ = some (.slice a3 n3 c3)) (go_keep) (first | (go_at_call 19; refine (refcmp_any (HZ6.out.keepNil (by repeat (first | exact Keeps.refl _ _ | assumption | refine Keeps.drew ?_ | refine Keeps.drewN ?_ _ | refine Keeps.alloc ?_ _ | exact Keeps.of_nil (by assumption) | refine Keeps.trans ?_ (Keeps.of_nil (by assumption)) | refine Keeps.setCell ?_ (.inr (by first | exact Nat.le_refl _ | (dsimp only; omega))) _ | refine Keeps.setCell ?_ (.inl (by first | (unfold Old; dsimp only; omega) | (unfold Old; simp; omega) | (unfold Old; simp))) _))) (HZ3.out.keepNil (by repeat (first | exact Keeps.refl _ _ | assumption | refine Keeps.drew ?_ | refine Keeps.drewN ?_ _ | refine Keeps.alloc ?_ _ | exact Keeps.of_nil (by assumption) | refine Keeps.trans ?_ (Keeps.of_nil (by assumption)) | refine Keeps.setCell ?_ (.inr (by first | exact Nat.le_refl _ | (dsimp only; omega))) _ | refine Keeps.setCell ?_ (.inl (by first | (unfold Old; dsimp only; omega) | (unfold Old; simp; omega) | (unfold Old; simp))) _)))).mono ?_; rintro e w12 ⟨rfl, hk12⟩; rw [HCM.out]; obtain ⟨rc12, rf12, ra12⟩ := (show Keeps Nil wv w12 from (by repeat (first | exact Keeps.refl _ _ | assumption | refine Keeps.drew ?_ | refine Keeps.drewN ?_ _ | refine Keeps.alloc ?_ _ | exact Keeps.of_nil (by assumption) | refine Keeps.trans ?_ (Keeps.of_nil (by assumption)) | refine Keeps.setCell ?_ (.inr (by first | exact Nat.le_refl _ | (dsimp only; omega))) _ | refine Keeps.setCell ?_ (.inl (by first | (unfold Old; dsimp only; omega) | (unfold Old; simp; omega) | (unfold Old; simp))) _))).live; have q12 := ra12 _ lb3))
                    go_wp2_with fail
                    go_meet
                    exact ⟨rfl, (by repeat (first | exact Keeps.refl _ _ | assumption | refine Keeps.drew ?_ | refine Keeps.drewN ?_ _ | refine Keeps.alloc ?_ _ | exact Keeps.of_nil (by assumption) | refine Keeps.trans ?_ (Keeps.of_nil (by assumption)) | refine Keeps.setCell ?_ (.inr (by first | exact Nat.le_refl _ | (dsimp only; omega))) _ | refine Keeps.setCell ?_ (.inl (by first | (unfold Old; dsimp only; omega) | (unfold Old; simp; omega) | (unfold Old; simp))) _))⟩
                  · have k3 : ¬ (0 : Int) < (s : Int) := by omega
                    have k4 : decide ((0 : Int) < (s : Int)) = false := decide_eq_false k3
                    go_quiet (fail)
                    go_wp2_with fail
                    go_meet
                    exact ⟨rfl, (by repeat (first | exact Keeps.refl _ _ | assumption | refine Keeps.drew ?_ | refine Keeps.drewN ?_ _ | refine Keeps.alloc ?_ _ | exact Keeps.of_nil (by assumption) | refine Keeps.trans ?_ (Keeps.of_nil (by assumption)) | refine Keeps.setCell ?_ (.inr (by first | exact Nat.le_refl _ | (dsimp only; omega))) _ | refine Keeps.setCell ?_ (.inl (by first | (unfold Old; dsimp only; omega) | (unfold Old; simp; omega) | (unfold Old; simp))) _))⟩
                case rest =>
                  rename World => wz
                  obtain ⟨rfl, hkz⟩ := hcut
                  have f0 := hkz.cellE lb2.lt id d0
                  have f1 := hkz.cellE lb2.lt id d1
                  have g0 := hkz.cellE lb1.lt id e0
                  have g1' := hkz.cellE lb1.lt id e1
                  have v0' := hkz.cellE lb3.lt id v0
                  have v1' := hkz.cellE lb3.lt id v1
                  have L1 := hkz.live.2.2 _ lb1
                  have L2 := hkz.live.2.2 _ lb2
                  have L3 := hkz.live.2.2 _ lb3
                  have HKZ := Lib.hid hkz
                  have HKV := Lib.hid hkv
                  clear d0 d1 e0 e1 v0 v1 lb1 lb2 lb3 hkz hkv
                  go_upto_region 24 with (fail)
                  by_cases hx1 : z < zth A.cuts s
                  · by_cases hx2 : zth A.cuts s ≤ z + (A.P : Int)
                    · obtain ⟨cm, hcm⟩ : ∃ cm : Int, cm = cmpZ (z + (A.P : Int)) (zth A.cuts s) := ⟨_, rfl⟩
                      have hc0 : (0 : Int) ≤ cm := by rw [hcm]; exact cmpZ_nonneg hx2
                      have hc1 : decide ((0 : Int) ≤ cm) = true := decide_eq_true hc0
                      have HC := Lib.hid (And.intro (cmpZ_of_lt hx1) (And.intro hcm.symm (And.intro hx1 hx2)))
                      clear hx1 hx2 hcm
                      go_region_held3 (fun w' => w'.cell? ⟨by', 0, none⟩ = some (.bool g4) ∧ w'.cell? ⟨by', 1, none⟩ = some (.slice a4 n4 m4) ∧ w'.cell? ⟨wx.heap.size, 0, none⟩ = some (.bool g) ∧ w'.cell? ⟨wx.heap.size, 1, none⟩ = some (.slice a' n' c') ∧ w'.cell? ⟨b3, o3 + s * 2, none⟩ = some (.bool g3) ∧ w'.cell? ⟨b3, o3 + s * 2 + 1, none⟩ = some (.slice a3 n3 c3)) (go_keep) (first | (go_at_call 19; have hprev := hk13; clear hprev; refine (refcmp_any (HY.out.1.keepNil (HKV.out.trans (HKZ.out.trans (by repeat (first | exact Keeps.refl _ _ | assumption | refine Keeps.drew ?_ | refine Keeps.drewN ?_ _ | refine Keeps.alloc ?_ _ | exact Keeps.of_nil (by assumption) | refine Keeps.trans ?_ (Keeps.of_nil (by assumption)) | refine Keeps.setCell ?_ (.inr (by first | exact Nat.le_refl _ | (dsimp only; omega))) _ | refine Keeps.setCell ?_ (.inl (by first | (unfold Old; dsimp only; omega) | (unfold Old; simp; omega) | (unfold Old; simp))) _))))) (HZ3.out.keepNil (HKZ.out.trans (by repeat (first | exact Keeps.refl _ _ | assumption | refine Keeps.drew ?_ | refine Keeps.drewN ?_ _ | refine Keeps.alloc ?_ _ | exact Keeps.of_nil (by assumption) | refine Keeps.trans ?_ (Keeps.of_nil (by assumption)) | refine Keeps.setCell ?_ (.inr (by first | exact Nat.le_refl _ | (dsimp only; omega))) _ | refine Keeps.setCell ?_ (.inl (by first | (unfold Old; dsimp only; omega) | (unfold Old; simp; omega) | (unfold Old; simp))) _))))).mono ?_; rintro e w14 ⟨rfl, hk14⟩; rw [HC.out.2.1]; obtain ⟨rc14, rf14, ra14⟩ := (show Keeps Nil wz w14 from (by repeat (first | exact Keeps.refl _ _ | assumption | refine Keeps.drew ?_ | refine Keeps.drewN ?_ _ | refine Keeps.alloc ?_ _ | exact Keeps.of_nil (by assumption) | refine Keeps.trans ?_ (Keeps.of_nil (by assumption)) | refine Keeps.setCell ?_ (.inr (by first | exact Nat.le_refl _ | (dsimp only; omega))) _ | refine Keeps.setCell ?_ (.inl (by first | (unfold Old; dsimp only; omega) | (unfold Old; simp; omega) | (unfold Old; simp))) _))).live; have qa14 := ra14 _ L1; have qb14 := ra14 _ L2; have qc14 := ra14 _ L3) | (go_at_call 19; refine (refcmp_any (HY.out.2.2.1.keepNil (HKV.out.trans (HKZ.out.trans (by repeat (first | exact Keeps.refl _ _ | assumption | refine Keeps.drew ?_ | refine Keeps.drewN ?_ _ | refine Keeps.alloc ?_ _ | exact Keeps.of_nil (by assumption) | refine Keeps.trans ?_ (Keeps.of_nil (by assumption)) | refine Keeps.setCell ?_ (.inr (by first | exact Nat.le_refl _ | (dsimp only; omega))) _ | refine Keeps.setCell ?_ (.inl (by first | (unfold Old; dsimp only; omega) | (unfold Old; simp; omega) | (unfold Old; simp))) _))))) (HZ3.out.keepNil (HKZ.out.trans (by repeat (first | exact Keeps.refl _ _ | assumption | refine Keeps.drew ?_ | refine Keeps.drewN ?_ _ | refine Keeps.alloc ?_ _ | exact Keeps.of_nil (by assumption) | refine Keeps.trans ?_ (Keeps.of_nil (by assumption)) | refine Keeps.setCell ?_ (.inr (by first | exact Nat.le_refl _ | (dsimp only; omega))) _ | refine Keeps.setCell ?_ (.inl (by first | (unfold Old; dsimp only; omega) | (unfold Old; simp; omega) | (unfold Old; simp))) _))))).mono ?_; rintro e w13 ⟨rfl, hk13⟩; rw [HC.out.1]; obtain ⟨rc13, rf13, ra13⟩ := (show Keeps Nil wz w13 from (by repeat (first | exact Keeps.refl _ _ | assumption | refine Keeps.drew ?_ | refine Keeps.drewN ?_ _ | refine Keeps.alloc ?_ _ | exact Keeps.of_nil (by assumption) | refine Keeps.trans ?_ (Keeps.of_nil (by assumption)) | refine Keeps.setCell ?_ (.inr (by first | exact Nat.le_refl _ | (dsimp only; omega))) _ | refine Keeps.setCell ?_ (.inl (by first | (unfold Old; dsimp only; omega) | (unfold Old; simp; omega) | (unfold Old; simp))) _))).live; have qa13 := ra13 _ L1; have qb13 := ra13 _ L2; have qc13 := ra13 _ L3))
                      go_wp2_with fail
                      go_roundw
                      case rel => exact ⟨s + 1, true, by omega, by go_num, rfl, ⟨fun _ => ⟨s, Nat.lt_succ_self _, HC.out.2.2⟩, fun _ => rfl⟩, HKV.out.trans (HKZ.out.trans (by repeat (first | exact Keeps.refl _ _ | assumption | refine Keeps.drew ?_ | refine Keeps.drewN ?_ _ | refine Keeps.alloc ?_ _ | exact Keeps.of_nil (by assumption) | refine Keeps.trans ?_ (Keeps.of_nil (by assumption)) | refine Keeps.setCell ?_ (.inr (by first | exact Nat.le_refl _ | (dsimp only; omega))) _ | refine Keeps.setCell ?_ (.inl (by first | (unfold Old; dsimp only; omega) | (unfold Old; simp; omega) | (unfold Old; simp))) _)))⟩
                      case measure => simp [intOf]; omega
                    · obtain ⟨cm, hcm⟩ : ∃ cm : Int, cm = cmpZ (z + (A.P : Int)) (zth A.cuts s) := ⟨_, rfl⟩
                      have hc0 : cm = -1 := by rw [hcm]; exact cmpZ_of_lt (by omega)
                      have HC := Lib.hid (And.intro (cmpZ_of_lt hx1) (And.intro (hcm.symm.trans hc0) (And.intro hx1 hx2)))
                      clear hx1 hx2 hcm hc0 cm
                      go_region_held3 (fun w' => w'.cell? ⟨by', 0, none⟩ = some (.bool g4) ∧ w'.cell? ⟨by', 1, none⟩ = some (.slice a4 n4 m4) ∧ w'.cell? ⟨wx.heap.size, 0, none⟩ = some (.bool g) ∧ w'.cell? ⟨wx.heap.size, 1, none⟩ = some (.slice a' n' c') ∧ w'.cell? ⟨b3, o3 + s * 2, none⟩ = some (.bool g3) ∧ w'.cell? ⟨b3, o3 + s * 2 + 1, none⟩ = some (.slice a3 n3 c3)) (go_keep) (first | (go_at_call 19; have hprev := hk13; clear hprev; refine (refcmp_any (HY.out.1.keepNil (HKV.out.trans (HKZ.out.trans (by repeat (first | exact Keeps.refl _ _ | assumption | refine Keeps.drew ?_ | refine Keeps.drewN ?_ _ | refine Keeps.alloc ?_ _ | exact Keeps.of_nil (by assumption) | refine Keeps.trans ?_ (Keeps.of_nil (by assumption)) | refine Keeps.setCell ?_ (.inr (by first | exact Nat.le_refl _ | (dsimp only; omega))) _ | refine Keeps.setCell ?_ (.inl (by first | (unfold Old; dsimp only; omega) | (unfold Old; simp; omega) | (unfold Old; simp))) _))))) (HZ3.out.keepNil (HKZ.out.trans (by repeat (first | exact Keeps.refl _ _ | assumption | refine Keeps.drew ?_ | refine Keeps.drewN ?_ _ | refine Keeps.alloc ?_ _ | exact Keeps.of_nil (by assumption) | refine Keeps.trans ?_ (Keeps.of_nil (by assumption)) | refine Keeps.setCell ?_ (.inr (by first | exact Nat.le_refl _ | (dsimp only; omega))) _ | refine Keeps.setCell ?_ (.inl (by first | (unfold Old; dsimp only; omega) | (unfold Old; simp; omega) | (unfold Old; simp))) _))))).mono ?_; rintro e w14 ⟨rfl, hk14⟩; rw [HC.out.2.1]; obtain ⟨rc14, rf14, ra14⟩ := (show Keeps Nil wz w14 from (by repeat (first | exact Keeps.refl _ _ | assumption | refine Keeps.drew ?_ | refine Keeps.drewN ?_ _ | refine Keeps.alloc ?_ _ | exact Keeps.of_nil (by assumption) | refine Keeps.trans ?_ (Keeps.of_nil (by assumption)) | refine Keeps.setCell ?_ (.inr (by first | exact Nat.le_refl _ | (dsimp only; omega))) _ | refine Keeps.setCell ?_ (.inl (by first | (unfold Old; dsimp only; omega) | (unfold Old; simp; omega) | (unfold Old; simp))) _))).live; have qa14 := ra14 _ L1; have qb14 := ra14 _ L2; have qc14 := ra14 _ L3) | (go_at_call 19; refine (refcmp_any (HY.out.2.2.1.keepNil (HKV.out.trans (HKZ.out.trans (by repeat (first | exact Keeps.refl _ _ | assumption | refine Keeps.drew ?_ | refine Keeps.drewN ?_ _ | refine Keeps.alloc ?_ _ | exact Keeps.of_nil (by assumption) | refine Keeps.trans ?_ (Keeps.of_nil (by assumption)) | refine Keeps.setCell ?_ (.inr (by first | exact Nat.le_refl _ | (dsimp only; omega))) _ | refine Keeps.setCell ?_ (.inl (by first | (unfold Old; dsimp only; omega) | (unfold Old; simp; omega) | (unfold Old; simp))) _))))) (HZ3.out.keepNil (HKZ.out.trans (by repeat (first | exact Keeps.refl _ _ | assumption | refine Keeps.drew ?_ | refine Keeps.drewN ?_ _ | refine Keeps.alloc ?_ _ | exact Keeps.of_nil (by assumption) | refine Keeps.trans ?_ (Keeps.of_nil (by assumption)) | refine Keeps.setCell ?_ (.inr (by first | exact Nat.le_refl _ | (dsimp only; omega))) _ | refine Keeps.setCell ?_ (.inl (by first | (unfold Old; dsimp only; omega) | (unfold Old; simp; omega) | (unfold Old; simp))) _))))).mono ?_; rintro e w13 ⟨rfl, hk13⟩; rw [HC.out.1]; obtain ⟨rc13, rf13, ra13⟩ := (show Keeps Nil wz w13 from (by repeat (first | exact Keeps.refl _ _ | assumption | refine Keeps.drew ?_ | refine Keeps.drewN ?_ _ | refine Keeps.alloc ?_ _ | exact Keeps.of_nil (by assumption) | refine Keeps.trans ?_ (Keeps.of_nil (by assumption)) | refine Keeps.setCell ?_ (.inr (by first | exact Nat.le_refl _ | (dsimp only; omega))) _ | refine Keeps.setCell ?_ (.inl (by first | (unfold Old; dsimp only; omega) | (unfold Old; simp; omega) | (unfold Old; simp))) _))).live; have qa13 := ra13 _ L1; have qb13 := ra13 _ L2; have qc13 := ra13 _ L3))
                      go_wp2_with fail
                      go_roundw
                      case rel => exact ⟨s + 1, bt, by omega, by go_num, rfl, ⟨fun h => by obtain ⟨j, h1, h2⟩ := HBT.out.1.1 h; exact ⟨j, by omega, h2⟩, fun ⟨j, h1, h2⟩ => HBT.out.1.2 (by rcases Nat.lt_succ_iff_lt_or_eq.1 h1 with h | rfl; exact ⟨j, h, h2⟩; exact absurd h2.2 (by have := HC.out.2.2.2; omega))⟩, HKV.out.trans (HKZ.out.trans (by repeat (first | exact Keeps.refl _ _ | assumption | refine Keeps.drew ?_ | refine Keeps.drewN ?_ _ | refine Keeps.alloc ?_ _ | exact Keeps.of_nil (by assumption) | refine Keeps.trans ?_ (Keeps.of_nil (by assumption)) | refine Keeps.setCell ?_ (.inr (by first | exact Nat.le_refl _ | (dsimp only; omega))) _ | refine Keeps.setCell ?_ (.inl (by first | (unfold Old; dsimp only; omega) | (unfold Old; simp; omega) | (unfold Old; simp))) _)))⟩
                      case measure => simp [intOf]; omega
                  · obtain ⟨cm, hcm⟩ : ∃ cm : Int, cm = cmpZ z (zth A.cuts s) := ⟨_, rfl⟩
                    have hc0 : (0 : Int) ≤ cm := by rw [hcm]; exact cmpZ_nonneg (by omega)
                    have HC := Lib.hid (And.intro hcm.symm (And.intro hx1 hc0))
                    clear hx1 hcm hc0
                    obtain ⟨RF, hRF⟩ : ∃ RF, RF = ShF (.agg #[.bool g, .slice a' n' c']) (.agg #[.bool g3, .slice a3 n3 c3]) (.slice (some ⟨b3, o3, none⟩) q c5) (.int .i64 (s : Int)) (.pointer (some ⟨b3, o3 + s * 2, none⟩)) cm := ⟨_, rfl⟩
                    refine wp_region_facts [83, 84, 85, 86, 87, 88, 89, 90, 91, 92, 93, 94, 95, 96, 97, 98] (RF) (by kernel_rfl) (by kernel_rfl) (by rw [hRF]; exact shF_keep _ _ _ _ _ _) ?fsteps ?ffin
                    case fsteps =>
                      show FactSteps _ _ _ _ _ _ _ 16
                      refine FactSteps.succ (n := 15) rfl ?s1 ?t1
                      case s1 =>
                        intro us wj hk hp K hK
                        simp only [putAll, Act.put, List.setIfInBounds_toArray, List.set_cons_zero, List.set_cons_succ] at hK ⊢
                        rw [hRF] at hp hK
                        have e7 : us 90 = .bool false := hp 7 (by kernel_rfl)
                        rw [e7] at hK ⊢
                        go_simp
                        refine hK.out _ _ ?_ ?_
                        · exact (by repeat (first | exact Keeps.refl _ _ | assumption | refine Keeps.drew ?_ | refine Keeps.drewN ?_ _ | refine Keeps.alloc ?_ _ | exact Keeps.of_nil (by assumption) | refine Keeps.trans ?_ (Keeps.of_nil (by assumption)) | refine Keeps.setCell ?_ (.inr (by first | exact Nat.le_refl _ | (dsimp only; omega))) _ | refine Keeps.setCell ?_ (.inl (by first | (unfold Old; dsimp only; omega) | (unfold Old; simp; omega) | (unfold Old; simp))) _))
                        · exact rfl
                      refine FactSteps.succ (n := 14) rfl ?s2 ?t2
                      case s2 =>
                        intro us wj hk hp K hK
                        simp only [putAll, Act.put, List.setIfInBounds_toArray, List.set_cons_zero, List.set_cons_succ] at hK ⊢
                        rw [hRF] at hp hK
                        have e7 : us 90 = .bool false := hp 7 (by kernel_rfl)
                        rw [e7] at hK ⊢
                        go_simp
                        refine hK.out _ _ ?_ ?_
                        · exact (by repeat (first | exact Keeps.refl _ _ | assumption | refine Keeps.drew ?_ | refine Keeps.drewN ?_ _ | refine Keeps.alloc ?_ _ | exact Keeps.of_nil (by assumption) | refine Keeps.trans ?_ (Keeps.of_nil (by assumption)) | refine Keeps.setCell ?_ (.inr (by first | exact Nat.le_refl _ | (dsimp only; omega))) _ | refine Keeps.setCell ?_ (.inl (by first | (unfold Old; dsimp only; omega) | (unfold Old; simp; omega) | (unfold Old; simp))) _))
                        · exact trivial
                      refine FactSteps.succ (n := 13) rfl ?s3 ?t3
                      case s3 =>
                        intro us wj hk hp K hK
                        simp only [putAll, Act.put, List.setIfInBounds_toArray, List.set_cons_zero, List.set_cons_succ] at hK ⊢
                        rw [hRF] at hp hK
                        have e7 : us 90 = .bool false := hp 7 (by kernel_rfl)
                        rw [e7] at hK ⊢
                        go_simp
                        refine hK.out _ _ ?_ ?_
                        · exact (by repeat (first | exact Keeps.refl _ _ | assumption | refine Keeps.drew ?_ | refine Keeps.drewN ?_ _ | refine Keeps.alloc ?_ _ | exact Keeps.of_nil (by assumption) | refine Keeps.trans ?_ (Keeps.of_nil (by assumption)) | refine Keeps.setCell ?_ (.inr (by first | exact Nat.le_refl _ | (dsimp only; omega))) _ | refine Keeps.setCell ?_ (.inl (by first | (unfold Old; dsimp only; omega) | (unfold Old; simp; omega) | (unfold Old; simp))) _))
                        · exact trivial
                      refine FactSteps.succ (n := 12) rfl ?s4 ?t4
                      case s4 =>
                        intro us wj hk hp K hK
                        simp only [putAll, Act.put, List.setIfInBounds_toArray, List.set_cons_zero, List.set_cons_succ] at hK ⊢
                        rw [hRF] at hp hK
                        have e7 : us 90 = .bool false := hp 7 (by kernel_rfl)
                        rw [e7] at hK ⊢
                        go_simp
                        refine hK.out _ _ ?_ ?_
                        · exact (by repeat (first | exact Keeps.refl _ _ | assumption | refine Keeps.drew ?_ | refine Keeps.drewN ?_ _ | refine Keeps.alloc ?_ _ | exact Keeps.of_nil (by assumption) | refine Keeps.trans ?_ (Keeps.of_nil (by assumption)) | refine Keeps.setCell ?_ (.inr (by first | exact Nat.le_refl _ | (dsimp only; omega))) _ | refine Keeps.setCell ?_ (.inl (by first | (unfold Old; dsimp only; omega) | (unfold Old; simp; omega) | (unfold Old; simp))) _))
                        · exact trivial
                      refine FactSteps.succ (n := 11) rfl ?s5 ?t5
                      case s5 =>
                        intro us wj hk hp K hK
                        simp only [putAll, Act.put, List.setIfInBounds_toArray, List.set_cons_zero, List.set_cons_succ] at hK ⊢
                        rw [hRF] at hp hK
                        have e7 : us 90 = .bool false := hp 7 (by kernel_rfl)
                        rw [e7] at hK ⊢
                        go_simp
                        refine hK.out _ _ ?_ ?_
                        · exact (by repeat (first | exact Keeps.refl _ _ | assumption | refine Keeps.drew ?_ | refine Keeps.drewN ?_ _ | refine Keeps.alloc ?_ _ | exact Keeps.of_nil (by assumption) | refine Keeps.trans ?_ (Keeps.of_nil (by assumption)) | refine Keeps.setCell ?_ (.inr (by first | exact Nat.le_refl _ | (dsimp only; omega))) _ | refine Keeps.setCell ?_ (.inl (by first | (unfold Old; dsimp only; omega) | (unfold Old; simp; omega) | (unfold Old; simp))) _))
                        · exact trivial
                      refine FactSteps.succ (n := 10) rfl ?s6 ?t6
                      case s6 =>
                        intro us wj hk hp K hK
                        simp only [putAll, Act.put, List.setIfInBounds_toArray, List.set_cons_zero, List.set_cons_succ] at hK ⊢
                        rw [hRF] at hp hK
                        have e7 : us 90 = .bool false := hp 7 (by kernel_rfl)
                        rw [e7] at hK ⊢
                        go_simp
                        refine hK.out _ _ ?_ ?_
                        · exact (by repeat (first | exact Keeps.refl _ _ | assumption | refine Keeps.drew ?_ | refine Keeps.drewN ?_ _ | refine Keeps.alloc ?_ _ | exact Keeps.of_nil (by assumption) | refine Keeps.trans ?_ (Keeps.of_nil (by assumption)) | refine Keeps.setCell ?_ (.inr (by first | exact Nat.le_refl _ | (dsimp only; omega))) _ | refine Keeps.setCell ?_ (.inl (by first | (unfold Old; dsimp only; omega) | (unfold Old; simp; omega) | (unfold Old; simp))) _))
                        · exact trivial
                      refine FactSteps.succ (n := 9) rfl ?s7 ?t7
                      case s7 =>
                        intro us wj hk hp K hK
                        simp only [putAll, Act.put, List.setIfInBounds_toArray, List.set_cons_zero, List.set_cons_succ] at hK ⊢
                        rw [hRF] at hp hK
                        have e7 : us 90 = .bool false := hp 7 (by kernel_rfl)
                        rw [e7] at hK ⊢
                        go_simp
                        refine hK.out _ _ ?_ ?_
                        · exact (by repeat (first | exact Keeps.refl _ _ | assumption | refine Keeps.drew ?_ | refine Keeps.drewN ?_ _ | refine Keeps.alloc ?_ _ | exact Keeps.of_nil (by assumption) | refine Keeps.trans ?_ (Keeps.of_nil (by assumption)) | refine Keeps.setCell ?_ (.inr (by first | exact Nat.le_refl _ | (dsimp only; omega))) _ | refine Keeps.setCell ?_ (.inl (by first | (unfold Old; dsimp only; omega) | (unfold Old; simp; omega) | (unfold Old; simp))) _))
                        · exact trivial
                      refine FactSteps.succ (n := 8) rfl ?s8 ?t8
                      case s8 =>
                        intro us wj hk hp K hK
                        simp only [putAll, Act.put, List.setIfInBounds_toArray, List.set_cons_zero, List.set_cons_succ] at hK ⊢
                        rw [hRF] at hp hK
                        have e7 : us 90 = .bool false := hp 7 (by kernel_rfl)
                        rw [e7] at hK ⊢
                        go_simp
                        refine hK.out _ _ ?_ ?_
                        · exact (by repeat (first | exact Keeps.refl _ _ | assumption | refine Keeps.drew ?_ | refine Keeps.drewN ?_ _ | refine Keeps.alloc ?_ _ | exact Keeps.of_nil (by assumption) | refine Keeps.trans ?_ (Keeps.of_nil (by assumption)) | refine Keeps.setCell ?_ (.inr (by first | exact Nat.le_refl _ | (dsimp only; omega))) _ | refine Keeps.setCell ?_ (.inl (by first | (unfold Old; dsimp only; omega) | (unfold Old; simp; omega) | (unfold Old; simp))) _))
                        · exact trivial
                      refine FactSteps.succ (n := 7) rfl ?s9 ?t9
                      case s9 =>
                        intro us wj hk hp K hK
                        simp only [putAll, Act.put, List.setIfInBounds_toArray, List.set_cons_zero, List.set_cons_succ] at hK ⊢
                        rw [hRF] at hp hK
                        have e6 : us 89 = .bool false := hp 6 (by kernel_rfl)
                        rw [e6] at hK ⊢
                        go_simp
                        refine hK.out _ _ ?_ ?_
                        · exact (by repeat (first | exact Keeps.refl _ _ | assumption | refine Keeps.drew ?_ | refine Keeps.drewN ?_ _ | refine Keeps.alloc ?_ _ | exact Keeps.of_nil (by assumption) | refine Keeps.trans ?_ (Keeps.of_nil (by assumption)) | refine Keeps.setCell ?_ (.inr (by first | exact Nat.le_refl _ | (dsimp only; omega))) _ | refine Keeps.setCell ?_ (.inl (by first | (unfold Old; dsimp only; omega) | (unfold Old; simp; omega) | (unfold Old; simp))) _))
                        · exact rfl
                      refine FactSteps.succ (n := 6) rfl ?s10 ?t10
                      case s10 =>
                        intro us wj hk hp K hK
                        simp only [putAll, Act.put, List.setIfInBounds_toArray, List.set_cons_zero, List.set_cons_succ] at hK ⊢
                        rw [hRF] at hp hK
                        have e5 : us 88 = .int .i64 cm := hp 5 (by kernel_rfl)
                        rw [e5] at hK ⊢
                        go_simp
                        refine hK.out _ _ ?_ ?_
                        · exact (by repeat (first | exact Keeps.refl _ _ | assumption | refine Keeps.drew ?_ | refine Keeps.drewN ?_ _ | refine Keeps.alloc ?_ _ | exact Keeps.of_nil (by assumption) | refine Keeps.trans ?_ (Keeps.of_nil (by assumption)) | refine Keeps.setCell ?_ (.inr (by first | exact Nat.le_refl _ | (dsimp only; omega))) _ | refine Keeps.setCell ?_ (.inl (by first | (unfold Old; dsimp only; omega) | (unfold Old; simp; omega) | (unfold Old; simp))) _))
                        · exact (by have h9 := HC.out.2.2; show Value.bool _ = Value.bool false; simp; try omega)
                      refine FactSteps.succ (n := 5) rfl ?s11 ?t11
                      case s11 =>
                        intro us wj hk hp K hK
                        simp only [putAll, Act.put, List.setIfInBounds_toArray, List.set_cons_zero, List.set_cons_succ] at hK ⊢
                        rw [hRF] at hp hK
                        have e0' : us 83 = .agg #[.bool g, .slice a' n' c'] := hp 0 (by kernel_rfl)
                        have e4' : us 87 = .agg #[.bool g3, .slice a3 n3 c3] := hp 4 (by kernel_rfl)
                        rw [e0', e4'] at hK ⊢
                        go_simp
                        refine (refcmp_any (HY.out.2.2.1.keepNil (HKV.out.trans (HKZ.out.trans hk))) (HZ3.out.keepNil (HKZ.out.trans hk))).mono ?_
                        rintro e wk ⟨rfl, hk2⟩
                        refine hK.out _ _ ?_ ?_
                        · exact (by repeat (first | exact Keeps.refl _ _ | assumption | refine Keeps.drew ?_ | refine Keeps.drewN ?_ _ | refine Keeps.alloc ?_ _ | exact Keeps.of_nil (by assumption) | refine Keeps.trans ?_ (Keeps.of_nil (by assumption)) | refine Keeps.setCell ?_ (.inr (by first | exact Nat.le_refl _ | (dsimp only; omega))) _ | refine Keeps.setCell ?_ (.inl (by first | (unfold Old; dsimp only; omega) | (unfold Old; simp; omega) | (unfold Old; simp))) _))
                        · exact (congrArg (Value.int .i64) HC.out.1)
                      refine FactSteps.succ (n := 4) rfl ?s12 ?t12
                      case s12 =>
                        intro us wj hk hp K hK
                        simp only [putAll, Act.put, List.setIfInBounds_toArray, List.set_cons_zero, List.set_cons_succ] at hK ⊢
                        rw [hRF] at hp hK
                        have e3' : us 86 = .pointer (some ⟨b3, o3 + s * 2, none⟩) := hp 3 (by kernel_rfl)
                        rw [e3'] at hK ⊢
                        have y0 := hk.cellE L3.lt id v0'
                        have y1 := hk.cellE L3.lt id v1'
                        go_simp
                        refine hK.out _ _ ?_ ?_
                        · exact (by repeat (first | exact Keeps.refl _ _ | assumption | refine Keeps.drew ?_ | refine Keeps.drewN ?_ _ | refine Keeps.alloc ?_ _ | exact Keeps.of_nil (by assumption) | refine Keeps.trans ?_ (Keeps.of_nil (by assumption)) | refine Keeps.setCell ?_ (.inr (by first | exact Nat.le_refl _ | (dsimp only; omega))) _ | refine Keeps.setCell ?_ (.inl (by first | (unfold Old; dsimp only; omega) | (unfold Old; simp; omega) | (unfold Old; simp))) _))
                        · exact rfl
                      refine FactSteps.succ (n := 3) rfl ?s13 ?t13
                      case s13 =>
                        intro us wj hk hp K hK
                        simp only [putAll, Act.put, List.setIfInBounds_toArray, List.set_cons_zero, List.set_cons_succ] at hK ⊢
                        rw [hRF] at hp hK
                        have e1' : us 84 = .slice (some ⟨b3, o3, none⟩) q c5 := hp 1 (by kernel_rfl)
                        have e2' : us 85 = .int .i64 (s : Int) := hp 2 (by kernel_rfl)
                        rw [e1', e2'] at hK ⊢
                        go_simp
                        refine hK.out _ _ ?_ ?_
                        · exact (by repeat (first | exact Keeps.refl _ _ | assumption | refine Keeps.drew ?_ | refine Keeps.drewN ?_ _ | refine Keeps.alloc ?_ _ | exact Keeps.of_nil (by assumption) | refine Keeps.trans ?_ (Keeps.of_nil (by assumption)) | refine Keeps.setCell ?_ (.inr (by first | exact Nat.le_refl _ | (dsimp only; omega))) _ | refine Keeps.setCell ?_ (.inl (by first | (unfold Old; dsimp only; omega) | (unfold Old; simp; omega) | (unfold Old; simp))) _))
                        · exact rfl
                      refine FactSteps.succ (n := 2) rfl ?s14 ?t14
                      case s14 =>
                        intro us wj hk hp K hK
                        simp only [putAll, Act.put, List.setIfInBounds_toArray, List.set_cons_zero, List.set_cons_succ] at hK ⊢
                        rw [hRF] at hp hK
                        go_simp
                        refine hK.out _ _ ?_ ?_
                        · exact (by repeat (first | exact Keeps.refl _ _ | assumption | refine Keeps.drew ?_ | refine Keeps.drewN ?_ _ | refine Keeps.alloc ?_ _ | exact Keeps.of_nil (by assumption) | refine Keeps.trans ?_ (Keeps.of_nil (by assumption)) | refine Keeps.setCell ?_ (.inr (by first | exact Nat.le_refl _ | (dsimp only; omega))) _ | refine Keeps.setCell ?_ (.inl (by first | (unfold Old; dsimp only; omega) | (unfold Old; simp; omega) | (unfold Old; simp))) _))
                        · exact rfl
                      refine FactSteps.succ (n := 1) rfl ?s15 ?t15
                      case s15 =>
                        intro us wj hk hp K hK
                        simp only [putAll, Act.put, List.setIfInBounds_toArray, List.set_cons_zero, List.set_cons_succ] at hK ⊢
                        rw [hRF] at hp hK
                        go_simp
                        refine hK.out _ _ ?_ ?_
                        · exact (by repeat (first | exact Keeps.refl _ _ | assumption | refine Keeps.drew ?_ | refine Keeps.drewN ?_ _ | refine Keeps.alloc ?_ _ | exact Keeps.of_nil (by assumption) | refine Keeps.trans ?_ (Keeps.of_nil (by assumption)) | refine Keeps.setCell ?_ (.inr (by first | exact Nat.le_refl _ | (dsimp only; omega))) _ | refine Keeps.setCell ?_ (.inl (by first | (unfold Old; dsimp only; omega) | (unfold Old; simp; omega) | (unfold Old; simp))) _))
                        · exact rfl
                      refine FactSteps.succ (n := 0) rfl ?s16 ?t16
                      case s16 =>
                        intro us wj hk hp K hK
                        simp only [putAll, Act.put, List.setIfInBounds_toArray, List.set_cons_zero, List.set_cons_succ] at hK ⊢
                        rw [hRF] at hp hK
                        have y0 := hk.cellE L1.lt id g0
                        have y1 := hk.cellE L1.lt id g1'
                        go_simp
                        refine hK.out _ _ ?_ ?_
                        · exact (by repeat (first | exact Keeps.refl _ _ | assumption | refine Keeps.drew ?_ | refine Keeps.drewN ?_ _ | refine Keeps.alloc ?_ _ | exact Keeps.of_nil (by assumption) | refine Keeps.trans ?_ (Keeps.of_nil (by assumption)) | refine Keeps.setCell ?_ (.inr (by first | exact Nat.le_refl _ | (dsimp only; omega))) _ | refine Keeps.setCell ?_ (.inl (by first | (unfold Old; dsimp only; omega) | (unfold Old; simp; omega) | (unfold Old; simp))) _))
                        · exact rfl
                      exact FactSteps.zero
                    case' ffin =>
                      intro us wz hkz hf
                      simp only [putAll, Act.put, List.setIfInBounds_toArray, List.set_cons_zero, List.set_cons_succ]
                      have f15 := hf 15 (by decide)
                      clear hf
                    rw [hRF] at f15
                    rw [show us 98 = Value.bool false from f15]
                    clear f15
                    go_wp2_with fail
                    go_roundw
                    case rel => exact ⟨s + 1, bt, by omega, by go_num, rfl, ⟨fun h => by obtain ⟨j, h1, h2⟩ := HBT.out.1.1 h; exact ⟨j, by omega, h2⟩, fun ⟨j, h1, h2⟩ => HBT.out.1.2 (by rcases Nat.lt_succ_iff_lt_or_eq.1 h1 with h | rfl; exact ⟨j, h, h2⟩; exact absurd h2.1 (by have := HC.out.2.1; omega))⟩, HKV.out.trans (HKZ.out.trans (by repeat (first | exact Keeps.refl _ _ | assumption | refine Keeps.drew ?_ | refine Keeps.drewN ?_ _ | refine Keeps.alloc ?_ _ | exact Keeps.of_nil (by assumption) | refine Keeps.trans ?_ (Keeps.of_nil (by assumption)) | refine Keeps.setCell ?_ (.inr (by first | exact Nat.le_refl _ | (dsimp only; omega))) _ | refine Keeps.setCell ?_ (.inl (by first | (unfold Old; dsimp only; omega) | (unfold Old; simp; omega) | (unfold Old; simp))) _)))⟩
                    case measure => simp [intOf]; omega
              · obtain rfl : s = q := by omega
                have k2 : ¬ (s : Int) < (s : Int) := by omega
                have HKV := Lib.hid hkv
                clear hkv
                go_upto_region 26 with (fail)
                cases bt with
                | true =>
                  go_quiet (fail)
                  go_wp2_with fail
                  go_roundw
                  case rel => exact ⟨u + 1, by omega, by go_num, HKX.out.trans (HY.out.2.2.2.trans (HKV.out.trans (by repeat (first | exact Keeps.refl _ _ | assumption | refine Keeps.drew ?_ | refine Keeps.drewN ?_ _ | refine Keeps.alloc ?_ _ | exact Keeps.of_nil (by assumption) | refine Keeps.trans ?_ (Keeps.of_nil (by assumption)) | refine Keeps.setCell ?_ (.inr (by first | exact Nat.le_refl _ | (dsimp only; omega))) _ | refine Keeps.setCell ?_ (.inl (by first | (unfold Old; dsimp only; omega) | (unfold Old; simp; omega) | (unfold Old; simp))) _))))⟩
                  case measure => simp [intOf]; omega
                | false =>
                  have hsame := shift_has HGD.out.ok (z := z) (fun hex => by
                    rw [← HCU.out.2] at hex
                    have := HBT.out.1.2 hex
                    cases this)
                  obtain ⟨bv, hbv⟩ : ∃ bv, bv = has A z := ⟨_, rfl⟩
                  have HBV := Lib.hid (And.intro hbv.symm (hsame.symm.trans hbv.symm))
                  have hne : (bv != bv) = false := by simp
                  clear hsame hbv
                  go_region_held3 (fun w' => w'.cell? ⟨by', 0, none⟩ = some (.bool g4) ∧ w'.cell? ⟨by', 1, none⟩ = some (.slice a4 n4 m4) ∧ w'.cell? ⟨wx.heap.size, 0, none⟩ = some (.bool g) ∧ w'.cell? ⟨wx.heap.size, 1, none⟩ = some (.slice a' n' c')) (go_keep) (first | (go_at_call_of 12 (Value.agg #[.bool g, .slice a' n' c']); refine (has_any (HY.out.2.2.1.keepNil (HKV.out.trans (by repeat (first | exact Keeps.refl _ _ | assumption | refine Keeps.drew ?_ | refine Keeps.drewN ?_ _ | refine Keeps.alloc ?_ _ | exact Keeps.of_nil (by assumption) | refine Keeps.trans ?_ (Keeps.of_nil (by assumption)) | refine Keeps.setCell ?_ (.inr (by first | exact Nat.le_refl _ | (dsimp only; omega))) _ | refine Keeps.setCell ?_ (.inl (by first | (unfold Old; dsimp only; omega) | (unfold Old; simp; omega) | (unfold Old; simp))) _)))) HZ.out.2 (HAS.out.keepNil (HKX.out.trans (HY.out.2.2.2.trans (HKV.out.trans (by repeat (first | exact Keeps.refl _ _ | assumption | refine Keeps.drew ?_ | refine Keeps.drewN ?_ _ | refine Keeps.alloc ?_ _ | exact Keeps.of_nil (by assumption) | refine Keeps.trans ?_ (Keeps.of_nil (by assumption)) | refine Keeps.setCell ?_ (.inr (by first | exact Nat.le_refl _ | (dsimp only; omega))) _ | refine Keeps.setCell ?_ (.inl (by first | (unfold Old; dsimp only; omega) | (unfold Old; simp; omega) | (unfold Old; simp))) _)))))) HF.out).mono ?_; rintro e w15 ⟨rfl, hk15⟩; rw [HBV.out.1]; obtain ⟨rc15, rf15, ra15⟩ := (show Keeps Nil wv w15 from (by repeat (first | exact Keeps.refl _ _ | assumption | refine Keeps.drew ?_ | refine Keeps.drewN ?_ _ | refine Keeps.alloc ?_ _ | exact Keeps.of_nil (by assumption) | refine Keeps.trans ?_ (Keeps.of_nil (by assumption)) | refine Keeps.setCell ?_ (.inr (by first | exact Nat.le_refl _ | (dsimp only; omega))) _ | refine Keeps.setCell ?_ (.inl (by first | (unfold Old; dsimp only; omega) | (unfold Old; simp; omega) | (unfold Old; simp))) _))).live; have qa15 := ra15 _ lb1; have qb15 := ra15 _ lb2) | (go_at_call_of 12 (Value.agg #[.bool g4, .slice a4 n4 m4]); refine (has_any (HY.out.1.keepNil (HKV.out.trans (by repeat (first | exact Keeps.refl _ _ | assumption | refine Keeps.drew ?_ | refine Keeps.drewN ?_ _ | refine Keeps.alloc ?_ _ | exact Keeps.of_nil (by assumption) | refine Keeps.trans ?_ (Keeps.of_nil (by assumption)) | refine Keeps.setCell ?_ (.inr (by first | exact Nat.le_refl _ | (dsimp only; omega))) _ | refine Keeps.setCell ?_ (.inl (by first | (unfold Old; dsimp only; omega) | (unfold Old; simp; omega) | (unfold Old; simp))) _)))) HY.out.2.1 (HAS.out.keepNil (HKX.out.trans (HY.out.2.2.2.trans (HKV.out.trans (by repeat (first | exact Keeps.refl _ _ | assumption | refine Keeps.drew ?_ | refine Keeps.drewN ?_ _ | refine Keeps.alloc ?_ _ | exact Keeps.of_nil (by assumption) | refine Keeps.trans ?_ (Keeps.of_nil (by assumption)) | refine Keeps.setCell ?_ (.inr (by first | exact Nat.le_refl _ | (dsimp only; omega))) _ | refine Keeps.setCell ?_ (.inl (by first | (unfold Old; dsimp only; omega) | (unfold Old; simp; omega) | (unfold Old; simp))) _)))))) HF.out).mono ?_; rintro e w16 ⟨rfl, hk16⟩; rw [HBV.out.2]; obtain ⟨rc16, rf16, ra16⟩ := (show Keeps Nil wv w16 from (by repeat (first | exact Keeps.refl _ _ | assumption | refine Keeps.drew ?_ | refine Keeps.drewN ?_ _ | refine Keeps.alloc ?_ _ | exact Keeps.of_nil (by assumption) | refine Keeps.trans ?_ (Keeps.of_nil (by assumption)) | refine Keeps.setCell ?_ (.inr (by first | exact Nat.le_refl _ | (dsimp only; omega))) _ | refine Keeps.setCell ?_ (.inl (by first | (unfold Old; dsimp only; omega) | (unfold Old; simp; omega) | (unfold Old; simp))) _))).live; have qa16 := ra16 _ lb1; have qb16 := ra16 _ lb2))
                  go_wp2_with fail
                  go_roundw
                  case rel => exact ⟨u + 1, by omega, by go_num, HKX.out.trans (HY.out.2.2.2.trans (HKV.out.trans (by repeat (first | exact Keeps.refl _ _ | assumption | refine Keeps.drew ?_ | refine Keeps.drewN ?_ _ | refine Keeps.alloc ?_ _ | exact Keeps.of_nil (by assumption) | refine Keeps.trans ?_ (Keeps.of_nil (by assumption)) | refine Keeps.setCell ?_ (.inr (by first | exact Nat.le_refl _ | (dsimp only; omega))) _ | refine Keeps.setCell ?_ (.inl (by first | (unfold Old; dsimp only; omega) | (unfold Old; simp; omega) | (unfold Old; simp))) _))))⟩
                  case measure => simp [intOf]; omega
        · obtain rfl : u = N9 := by omega
          have i10 : ¬ (u : Int) < (u : Int) := by omega
          have HKX := Lib.hid hkx
          clear hkx
          go_wp2_with fail
          go_roundw
          case rel => exact ⟨k + 1, by omega, by go_num, HKK.out.trans (HKW.out.trans HKX.out)⟩
          case measure => simp [intOf]; omega
    · obtain rfl : k = N := by omega
      have i5 : ¬ (k : Int) < (k : Int) := by omega
      have HKK := Lib.hid hkk
      clear hkk
      go_wp2_with fail
      go_ret
      exact ⟨rfl, HK2.out.trans HKK.out⟩
end Go.Proofs.Ytfkclbhddiidbaa
