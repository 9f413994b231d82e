/- (*periods.Set).joined: the walk. Conditions: both sets read; what joins them is a function of two bools. -/
import Derived.Test.YtfkclbhddiidbaaGreatKJoins
namespace Go.Proofs.YtfkclbhddiidbaaGreat
open Go.RowKit Go.Rid
theorem length_ins (x : Int) : ∀ l : List Int, (ins x l).length ≤ l.length + 1
  | [] => by simp [ins]
  | y :: l => by
    have := length_ins x l
    unfold ins
    split
    · simp
    · split
      · simp
      · simp only [List.length_cons]; omega
theorem length_mergeC (a b : List Int) : (mergeC a b).length ≤ a.length + b.length := by
  induction a with
  | nil => simp [mergeC]
  | cons x a ih =>
    have := length_ins x (mergeC a b)
    simp only [mergeC, List.foldr_cons, List.length_cons] at *
    omega
theorem joined_start {M : Nat → Prop} {p p2 : Nat} {S O : PSet} {w w0 wc w4 : World} (hM : MB M w) (k0 : Keeps Nil w w0) (k1 : Keeps Nil w0 wc) (k2 : Keeps Nil wc w4) (hs : SetAt M w0 p S) (hs2 : SetAt M w0 p2 O) :
    MB (Box M wc.heap.size (w4.heap.size - wc.heap.size)) w4 ∧ SetAt (Box M wc.heap.size (w4.heap.size - wc.heap.size)) w4 p S ∧ SetAt (Box M wc.heap.size (w4.heap.size - wc.heap.size)) w4 p2 O := by
  have h : ∀ b, b < w0.heap.size → Box M wc.heap.size (w4.heap.size - wc.heap.size) b → M b := fun b hb hx => by
    rcases hx with hx | hx
    · exact hx
    · have := k1.size; omega
  exact ⟨hM.box ((k0.trans k1).trans k2) (by have := k2.size; omega), hs.move (k1.trans k2) (fun _ _ h => h.elim) h, hs2.move (k1.trans k2) (fun _ _ h => h.elim) h⟩
set_option maxHeartbeats 4000000 in
set_option maxRecDepth 100000 in
theorem joined_any {M : Nat → Prop} {p p2 F : Nat} {f : Bool → Bool → Bool} {S O : PSet} {w : World} (hM : MB M w) (hs : SetAt M w p S) (hs2 : SetAt M w p2 O) (hf : Fine S) (hf2 : Fine O) (hF : BoolFn F f) :
    Calls Tryz.prog 48 #[.pointer (some ⟨p, 0, none⟩), .pointer (some ⟨p2, 0, none⟩), .func (.func F) #[] #[]] w fun e w' => JoinRet M w f S O e w' := by
  obtain ⟨b0, b1, b2, hk0⟩ := rows111 w 25 25 78 (.pointer (some ⟨p, 0, none⟩)) (.pointer (some ⟨p2, 0, none⟩)) (.func (.func F) #[] #[])
  obtain ⟨i1, hi1⟩ := info_parts info_Int
  obtain ⟨i2, hi2⟩ := info_parts info_row
  have HI := Lib.hid (And.intro hi1 hi2)
  have HM := Lib.hid hM
  have HS := Lib.hid (And.intro (hs.keepNil hk0) (hs2.keepNil hk0))
  have HF := Lib.hid (And.intro hf (And.intro hf2 hF))
  have hP := hf.ok.pos
  have hP2 := hf.ok.le
  have hQ := hf2.ok.pos
  have hQ2 := hf2.ok.le
  obtain ⟨ac, nc, cc, ar, nr, cr, q1, _, _, _⟩ := hs.keepNil hk0
  obtain ⟨ac2, nc2, cc2, ar2, nr2, cr2, r1, _, _, _⟩ := hs2.keepNil hk0
  clear hM hs hs2 hf hf2 hF hi1 hi2
  obtain ⟨la, ls, ld, ln, ln', ln1, ln1', lc, lf⟩ := liveRules
  go_enter Tryz.func48, Tryz.ntmps48
  go_upto_region 1 with (fail)
  generalize (((w.alloc (.cells #[.pointer (some ⟨p, 0, none⟩)] 25)).alloc (.cells #[.pointer (some ⟨p2, 0, none⟩)] 25)).alloc (.cells #[.func (.func F) #[] #[]] 78)) = w0 at *
  have HB := Lib.hid (And.intro b0 (And.intro b1 (And.intro b2 hk0)))
  obtain ⟨v0, _⟩ := b0.one
  obtain ⟨v1, _⟩ := b1.one
  obtain ⟨v2, _⟩ := b2.one
  obtain ⟨d0, d1, d2⟩ := q1.three
  obtain ⟨e0, e1, e2⟩ := r1.three
  have m0 := Live.of b0.lt
  have m1 := Live.of b1.lt
  have m2 := Live.of b2.lt
  have m3 := Live.of q1.lt
  have m4 := Live.of r1.lt
  clear b0 b1 b2 hk0 q1 r1
  go_upto_region 3 with (go_at_call 34; refine (made_sets (M := Nil) (ps := [some p, some p2]) rfl (ptrs2 (RowIs.alloc (w := w0) (xs := [ptrV (some p), ptrV (some p2)])) id) (fun x hx => by
      rcases (by simpa using hx : x = p ∨ x = p2) with rfl | rfl
      · exact ⟨S, (HS.out.1.keepNil (by repeat (first | exact Keeps.refl _ _ | refine Keeps.drew ?_ | refine Keeps.drewN ?_ _ | refine Keeps.alloc ?_ _))).toNil, HF.out.1⟩
      · exact ⟨O, (HS.out.2.keepNil (by repeat (first | exact Keeps.refl _ _ | refine Keeps.drew ?_ | refine Keeps.drewN ?_ _ | refine Keeps.alloc ?_ _))).toNil, HF.out.2.1⟩)).mono ?_; rintro e w' ⟨rfl, rfl⟩)
  obtain ⟨w1, hw1⟩ : ∃ w1, w1 = w0.alloc (.cells #[ptrV (some p), ptrV (some p2)] 25) := ⟨_, rfl⟩
  have hk1 : Keeps Nil w0 w1 := by rw [hw1]; exact (by repeat (first | exact Keeps.refl _ _ | refine Keeps.drew ?_ | refine Keeps.drewN ?_ _ | refine Keeps.alloc ?_ _))
  have HK1 := Lib.hid hk1
  obtain ⟨rc1, rf1, ra1⟩ := hk1.live
  have l0 := ra1 _ m0
  have l1 := ra1 _ m1
  have l2 := ra1 _ m2
  have l3 := ra1 _ m3
  have l4 := ra1 _ m4
  have v0' := hk1.cellE m0.lt id v0
  have v1' := hk1.cellE m1.lt id v1
  have v2' := hk1.cellE m2.lt id v2
  have d0' := hk1.cellE m3.lt id d0
  have d2' := hk1.cellE m3.lt id d2
  have e0' := hk1.cellE m4.lt id e0
  have e2' := hk1.cellE m4.lt id e2
  clear v0 v1 v2 d0 d1 d2 e0 e1 e2 m0 m1 m2 m3 m4 rc1 rf1 ra1
  rw [← hw1]
  clear hw1
  go_cut [8] (fun v wx => QBox w1 (Nat.lcm S.P O.P) v wx)
  case first =>
    go_region_held3 (fun w' => w'.cell? ⟨w.heap.size, 0, none⟩ = some (.pointer (some ⟨p, 0, none⟩)) ∧ w'.cell? ⟨w.heap.size + 1, 0, none⟩ = some (.pointer (some ⟨p2, 0, none⟩)) ∧ w'.cell? ⟨p, 0, none⟩ = some (.int .i64 S.P) ∧ w'.cell? ⟨p2, 0, none⟩ = some (.int .i64 O.P)) (go_keep) (first | (go_at_call 35; refine (common_any hP hP2 hQ hQ2).mono ?_; rintro e w2 ⟨rfl, hk2⟩; obtain ⟨rc2, rf2, ra2⟩ := hk2.live; obtain ⟨rd2, rg2, rb2⟩ := (show Keeps Nil w1 w2 from (by repeat (first | exact Keeps.refl _ _ | assumption | refine Keeps.drew ?_ | refine Keeps.drewN ?_ _ | refine Keeps.alloc ?_ _ | exact Keeps.of_nil (by assumption) | refine Keeps.trans ?_ (Keeps.of_nil (by assumption)) | refine Keeps.setCell ?_ (.inr (by first | exact Nat.le_refl _ | (dsimp only; omega))) _ | refine Keeps.setCell ?_ (.inl (by first | (unfold Old; dsimp only; omega) | (unfold Old; simp; omega) | (unfold Old; simp))) _))).live; have zs2 := hk2.size; (try simp at zs2)))
    all_goals (go_wp2_with fail; go_meet)
    all_goals exact ⟨_, rfl, by simp (maxDischargeDepth := 6) [*, go_sem], by first | (simp; done) | (simp [World.setCell]; omega), (by repeat (first | exact Keeps.refl _ _ | assumption | refine Keeps.drew ?_ | refine Keeps.drewN ?_ _ | refine Keeps.alloc ?_ _ | exact Keeps.of_nil (by assumption) | refine Keeps.trans ?_ (Keeps.of_nil (by assumption)) | refine Keeps.setCell ?_ (.inr (by first | exact Nat.le_refl _ | (dsimp only; omega))) _ | refine Keeps.setCell ?_ (.inl (by first | (unfold Old; dsimp only; omega) | (unfold Old; simp; omega) | (unfold Old; simp))) _))⟩
  case rest =>
    obtain ⟨bq, rfl, cq, hbq, hk2⟩ := hcut
    have HK2 := Lib.hid (And.intro (HK1.out.trans hk2) hk2)
    obtain ⟨rc2, rf2, ra2⟩ := hk2.live
    have l0' := ra2 _ l0
    have l1' := ra2 _ l1
    have l2' := ra2 _ l2
    have l3' := ra2 _ l3
    have l4' := ra2 _ l4
    have u0 := hk2.cellE l0.lt id v0'
    have u1 := hk2.cellE l1.lt id v1'
    have u2 := hk2.cellE l2.lt id v2'
    have lbq := Live.of hbq
    clear v0' v1' v2' d0' d2' e0' e2' l0 l1 l2 l3 l4 rc2 rf2 ra2 hk1 hk2
    by_cases hq : 4096 < Nat.lcm S.P O.P
    · have hqI : (4096 : Int) < (Nat.lcm S.P O.P : Int) := by omega
      go_wp2_with fail
      go_ret2
      exact .inl ⟨hq, rfl, HB.out.2.2.2.trans HK2.out.1⟩
    · have hqI : ¬ (4096 : Int) < (Nat.lcm S.P O.P : Int) := by omega
      have hq1 : 1 ≤ Nat.lcm S.P O.P := lcm_pos hP hQ
      have hq2 : Nat.lcm S.P O.P ≤ 4096 := by omega
      have hd1 : S.P ∣ Nat.lcm S.P O.P := Nat.dvd_lcm_left ..
      have hd2 : O.P ∣ Nat.lcm S.P O.P := Nat.dvd_lcm_right ..
      generalize hqq : Nat.lcm S.P O.P = q at *
      go_upto_region 8 with (first
        | (go_at_call 82; refine (rowat_any (i := 0) (k := 0) (q := q) (HS.out.1.keepNil (HK2.out.1.trans (by repeat (first | exact Keeps.refl _ _ | refine Keeps.drew ?_ | refine Keeps.drewN ?_ _ | refine Keeps.alloc ?_ _)))) (HS.out.2.keepNil (HK2.out.1.trans (by repeat (first | exact Keeps.refl _ _ | refine Keeps.drew ?_ | refine Keeps.drewN ?_ _ | refine Keeps.alloc ?_ _)))) HF.out.1 HF.out.2.1 (by simp [*, go_sem]) (by simp [*, go_sem]) (by simp [*, go_sem]) (by simp [*, go_sem]) (by simp [*]) (by simp [*]) (by simp [*]) (by simp [*]) HF.out.2.2 (Nat.zero_le _) (Nat.zero_le _) hq1 hq2 hd1 hd2).mono ?_; rintro e w3 ⟨g3, rfl, hg3, hgb3, hk3⟩; rw [length_both])
        | (go_at_call 23; refine whole_own.mono ?_; rintro e w4 ⟨po, gr, rfl, ho4, hr4, hgr, hpo, hk4⟩))
      have hwc : Keeps Nil wc w3 := hk3
      have hw34 : Keeps Nil w3 w4 := hk4
      have hc4 : Keeps Nil wc w4 := hwc.trans hw34
      have y0 := hc4.cellE l0'.lt id u0
      have y1 := hc4.cellE l1'.lt id u1
      have y2 := hc4.cellE l2'.lt id u2
      have HC4 := Lib.hid (And.intro hwc (And.intro hw34 hc4))
      have HG3 := Lib.hid (And.intro hg3 hgb3)
      have HO4 := Lib.hid (And.intro ho4 (And.intro hr4 (And.intro hgr hpo)))
      have HX := Lib.hid (joined_start HM.out HB.out.2.2.2 HK2.out.1 hc4 HS.out.1 HS.out.2)
      have HY := Lib.hid (And.intro l0' (And.intro l1' (And.intro l2' lbq)))
      have HU := Lib.hid (And.intro u0 (And.intro u1 (And.intro u2 cq)))
      clear hk3 hk4 hwc hw34 hc4 hg3 hgb3 ho4 hr4 hgr hpo u0 u1 u2 cq l0' l1' l2' l3' l4' hbq lbq
      go_wp2_with (go_at_call 36; refine (merged_any HX.out.1 HX.out.2.1 HX.out.2.2 HF.out.1 HF.out.2.1).mono ?_; rintro e w5 ⟨la, lc, rfl, hzl, hk5⟩)
      have hmc : ∀ b, M b → b < wc.heap.size := fun b hb => by have := HM.out b hb; have := HB.out.2.2.2.size; have := HK2.out.1.size; omega
      have HH := Lib.hid (half_start hmc HC4.out.2.1 hk5 HG3.out.1 HG3.out.2 (length_both _ _ _ _) hq2 HO4.out.1 HO4.out.2.1 HO4.out.2.2.1 HO4.out.2.2.2 hzl)
      have HS5 := Lib.hid (And.intro hzl (HC4.out.2.2.trans hk5))
      have HMC := Lib.hid hmc
      generalize hzs : mergeC S.cuts O.cuts = zs at *
      have hn : zs.length ≤ 2000 := by
        have := length_mergeC S.cuts O.cuts
        rw [hzs] at this
        have := HF.out.1.few
        have := HF.out.2.1.few
        omega
      obtain ⟨capz, lez⟩ := And.intro hzl.cap hzl.le
      have HZS := Lib.hid hzs
      clear hmc hzl hk5 hzs
      go_loopw [38] (fun i wr => ∃ (k : Nat) (vc vr : Value) (eC eR : List (List Value)) (out : List Int × List (List Bool)), k ≤ zs.length ∧ i = .int .i64 k ∧ Half M wc.heap.size po q wr vc vr eC eR out la zs.length lc zs ∧ out = (zs.take k).foldl (pushRow (rowsAt f q S O)) ([], [both f q (S.rows.getD 0 []) (O.rows.getD 0 [])]) ∧ (∀ r ∈ out.2, r.length = q) ∧ (1 ≤ out.2.length ∧ out.2.length ≤ k + 1 ∧ out.1.length ≤ k) ∧ Keeps Nil wc wr) (fun i _ => zs.length - (intOf i).toNat)
      case atStart => exact ⟨0, _, _, _, _, _, Nat.zero_le _, rfl, HH.out, rfl, fun r hr => by rw [List.mem_singleton.1 hr]; exact length_both _ _ _ _, ⟨Nat.le_refl _, Nat.le_refl _, Nat.le_refl _⟩, HS5.out.2⟩
      case round =>
        clear HH
        obtain ⟨k, vc, vr, eC, eR, out, hk, rfl, hH, hout, hrl, hol, hkk⟩ := hrel
        by_cases hlt : k < zs.length
        · obtain ⟨b, off, s, a, n, c, hae, hb, _, x0, x1, hz⟩ := hH.list.at hlt
          subst hae
          have lb := Live.of hb
          have y0 := hkk.cellE HY.out.1.lt id HU.out.1
          have y1 := hkk.cellE HY.out.2.1.lt id HU.out.2.1
          have y2 := hkk.cellE HY.out.2.2.1.lt id HU.out.2.2.1
          have y3 := hkk.cellE HY.out.2.2.2.lt id HU.out.2.2.2
          have HR := Lib.hid (And.intro hH (And.intro hout (And.intro hrl (And.intro hol (And.intro hkk hz)))))
          clear hH hout hrl hol hkk hz hb
          go_upto_region 11 with (fail)
          have hkd : Keeps Nil wr (wr.alloc (.cells #[.bool s, .slice a n c] 38)) := (by repeat (first | exact Keeps.refl _ _ | refine Keeps.drew ?_ | refine Keeps.drewN ?_ _ | refine Keeps.alloc ?_ _))
          have rbt := RowIs.alloc (w := wr) (E := 38) (xs := [.bool s, .slice a n c])
          change RowIs (wr.alloc (.cells #[.bool s, .slice a n c] 38)) _ _ _ at rbt
          generalize wr.alloc (.cells #[.bool s, .slice a n c] 38) = wd at *
          have HD := Lib.hid (And.intro hkd rbt)
          have HYD : Hid (∀ wj, Keeps Nil wd wj → wj.cell? ⟨w.heap.size, 0, none⟩ = some (.pointer (some ⟨p, 0, none⟩)) ∧ wj.cell? ⟨bq, 0, none⟩ = some (.int .i64 (q : Int)) ∧ wj.cell? ⟨w.heap.size + 1, 0, none⟩ = some (.pointer (some ⟨p2, 0, none⟩)) ∧ wj.cell? ⟨w.heap.size + 1 + 1, 0, none⟩ = some (.func (.func F) #[] #[]) ∧ Live wj w.heap.size ∧ Live wj bq ∧ Live wj (w.heap.size + 1) ∧ Live wj (w.heap.size + 1 + 1)) := Lib.hid fun wj k => by
            have kk := (HR.out.2.2.2.2.1.trans HD.out.1).trans k
            exact ⟨kk.cellE HY.out.1.lt id HU.out.1, kk.cellE HY.out.2.2.2.lt id HU.out.2.2.2, kk.cellE HY.out.2.1.lt id HU.out.2.1, kk.cellE HY.out.2.2.1.lt id HU.out.2.2.1, kk.live.2.2 _ HY.out.1, kk.live.2.2 _ HY.out.2.2.2, kk.live.2.2 _ HY.out.2.1, kk.live.2.2 _ HY.out.2.2.1⟩
          have HSD : Hid (∀ wj, Keeps Nil wd wj → SetAt M wj p S ∧ SetAt M wj p2 O ∧ ZAt Nil wj s a n c (zth zs k)) := Lib.hid fun wj kj => by
            have kk := HK2.out.1.trans ((HR.out.2.2.2.2.1.trans HD.out.1).trans kj)
            have hfit : nlen (zth zs k).natAbs * 4 + 4 ≤ 140737488355328 := by
              have hm : zth zs k ∈ mergeC S.cuts O.cuts := by rw [HZS.out, zth_lt hlt]; exact List.getElem_mem _
              rw [mem_mergeC] at hm
              rcases hm with hm | hm
              · exact HF.out.1.fit4 _ hm
              · exact HF.out.2.1.fit4 _ hm
            exact ⟨HS.out.1.keepNil kk, HS.out.2.keepNil kk, (HR.out.2.2.2.2.2.toNil.zat hfit).keepNil (HD.out.1.trans kj)⟩
          obtain ⟨r, hr⟩ : ∃ r, r = both f q (S.rows.getD (place S.cuts (zth zs k)) []) (O.rows.getD (place O.cuts (zth zs k)) []) := ⟨_, rfl⟩
          have hrq : r.length = q := by rw [hr]; exact length_both _ _ _ _
          have HRR := Lib.hid (And.intro hr hrq)
          obtain ⟨v0, hv0⟩ : ∃ v0, v0 = Value.func (.func 82) #[] #[.pointer (some ⟨w.heap.size, 0, none⟩), .pointer (some ⟨bq, 0, none⟩), .pointer (some ⟨w.heap.size + 1, 0, none⟩), .pointer (some ⟨w.heap.size + 1 + 1, 0, none⟩)] := ⟨_, rfl⟩
          have HPL := Lib.hid (And.intro (place_le S.cuts (zth zs k)) (place_le O.cuts (zth zs k)))
          clear hkd rbt y0 y1 y2 y3 x0 x1 lb hr hrq
          obtain ⟨RF, hRF⟩ : ∃ RF, RF = RowF wd.heap.size v0 (.agg #[.bool s, .slice a n c]) p p2 (place S.cuts (zth zs k)) (place O.cuts (zth zs k)) r := ⟨_, rfl⟩
          refine wp_region_facts [42, 43, 44, 45, 46, 47, 48, 49, 13] (RF) (by kernel_rfl) (by kernel_rfl) (by rw [hRF]; exact rowF_keep _ _ _ _ _ _ _ _) ?fsteps ?ffin
          case fsteps =>
            show FactSteps _ _ _ _ _ _ _ 9
            refine FactSteps.succ (n := 8) rfl ?s1 ?t1
            case s1 =>
              intro us wj hk hp K hK
              simp only [putAll, Act.put, List.setIfInBounds_toArray, List.set_cons_zero, List.set_cons_succ] at hK ⊢
              rw [hRF] at hp hK
              obtain ⟨g, e7, h7, b7⟩ := hp 7 (by kernel_rfl)
              rw [show us 49 = _ from e7] at hK ⊢
              go_simp
              refine hK.out _ _ ?_ ?_
              · exact (by repeat (first | exact Keeps.refl _ _ | assumption | refine Keeps.drew ?_ | refine Keeps.drewN ?_ _ | refine Keeps.alloc ?_ _ | exact Keeps.of_nil (by assumption) | refine Keeps.trans ?_ (Keeps.of_nil (by assumption)) | refine Keeps.setCell ?_ (.inr (by first | exact Nat.le_refl _ | (dsimp only; omega))) _ | refine Keeps.setCell ?_ (.inl (by first | (unfold Old; dsimp only; omega) | (unfold Old; simp; omega) | (unfold Old; simp))) _))
              · exact ⟨g, rfl, h7, b7⟩
            refine FactSteps.succ (n := 7) rfl ?s2 ?t2
            case s2 =>
              intro us wj hk hp K hK
              simp only [putAll, Act.put, List.setIfInBounds_toArray, List.set_cons_zero, List.set_cons_succ] at hK ⊢
              rw [hRF] at hp hK
              have e0 : us 42 = v0 := hp 0 (by kernel_rfl)
              have e3 : us 45 = _ := hp 3 (by kernel_rfl)
              have e6 : us 48 = _ := hp 6 (by kernel_rfl)
              rw [e0, e3, e6] at hK ⊢
              rw [hv0] at hK ⊢
              go_simp
              refine (rowat_any (HSD.out _ hk).1 (HSD.out _ hk).2.1 HF.out.1 HF.out.2.1 (HYD.out _ hk).1 (HYD.out _ hk).2.1 (HYD.out _ hk).2.2.1 (HYD.out _ hk).2.2.2.1 (HYD.out _ hk).2.2.2.2.1 (HYD.out _ hk).2.2.2.2.2.1 (HYD.out _ hk).2.2.2.2.2.2.1 (HYD.out _ hk).2.2.2.2.2.2.2 HF.out.2.2 HPL.out.1 HPL.out.2 hq1 hq2 hd1 hd2).mono ?_
              rintro e wk ⟨g, rfl, h7, b7, hk2⟩
              refine hK.out _ _ ?_ ?_
              · exact (by repeat (first | exact Keeps.refl _ _ | assumption | refine Keeps.drew ?_ | refine Keeps.drewN ?_ _ | refine Keeps.alloc ?_ _ | exact Keeps.of_nil (by assumption) | refine Keeps.trans ?_ (Keeps.of_nil (by assumption)) | refine Keeps.setCell ?_ (.inr (by first | exact Nat.le_refl _ | (dsimp only; omega))) _ | refine Keeps.setCell ?_ (.inl (by first | (unfold Old; dsimp only; omega) | (unfold Old; simp; omega) | (unfold Old; simp))) _))
              · exact (by rw [← HRR.out.1] at h7 ⊢; exact ⟨g, rfl, h7, Nat.le_trans hk.size b7⟩)
            refine FactSteps.succ (n := 6) rfl ?s3 ?t3
            case s3 =>
              intro us wj hk hp K hK
              simp only [putAll, Act.put, List.setIfInBounds_toArray, List.set_cons_zero, List.set_cons_succ] at hK ⊢
              rw [hRF] at hp hK
              have e4 : us 46 = _ := hp 4 (by kernel_rfl)
              have e5 : us 47 = _ := hp 5 (by kernel_rfl)
              rw [e4, e5] at hK ⊢
              go_simp
              refine (at_any (HSD.out _ hk).2.2 (HSD.out _ hk).2.1 HF.out.2.1).mono ?_
              rintro e wk ⟨rfl, hk2⟩
              refine hK.out _ _ ?_ ?_
              · exact (by repeat (first | exact Keeps.refl _ _ | assumption | refine Keeps.drew ?_ | refine Keeps.drewN ?_ _ | refine Keeps.alloc ?_ _ | exact Keeps.of_nil (by assumption) | refine Keeps.trans ?_ (Keeps.of_nil (by assumption)) | refine Keeps.setCell ?_ (.inr (by first | exact Nat.le_refl _ | (dsimp only; omega))) _ | refine Keeps.setCell ?_ (.inl (by first | (unfold Old; dsimp only; omega) | (unfold Old; simp; omega) | (unfold Old; simp))) _))
              · exact rfl
            refine FactSteps.succ (n := 5) rfl ?s4 ?t4
            case s4 =>
              intro us wj hk hp K hK
              simp only [putAll, Act.put, List.setIfInBounds_toArray, List.set_cons_zero, List.set_cons_succ] at hK ⊢
              rw [hRF] at hp hK
              obtain ⟨c0, c1, _, _⟩ := (HD.out.2.keep hk id).two
              go_simp
              refine hK.out _ _ ?_ ?_
              · exact (by repeat (first | exact Keeps.refl _ _ | assumption | refine Keeps.drew ?_ | refine Keeps.drewN ?_ _ | refine Keeps.alloc ?_ _ | exact Keeps.of_nil (by assumption) | refine Keeps.trans ?_ (Keeps.of_nil (by assumption)) | refine Keeps.setCell ?_ (.inr (by first | exact Nat.le_refl _ | (dsimp only; omega))) _ | refine Keeps.setCell ?_ (.inl (by first | (unfold Old; dsimp only; omega) | (unfold Old; simp; omega) | (unfold Old; simp))) _))
              · exact rfl
            refine FactSteps.succ (n := 4) rfl ?s5 ?t5
            case s5 =>
              intro us wj hk hp K hK
              simp only [putAll, Act.put, List.setIfInBounds_toArray, List.set_cons_zero, List.set_cons_succ] at hK ⊢
              rw [hRF] at hp hK
              obtain ⟨c0, c1, c2, c3, _⟩ := HYD.out _ hk
              go_simp
              refine hK.out _ _ ?_ ?_
              · exact (by repeat (first | exact Keeps.refl _ _ | assumption | refine Keeps.drew ?_ | refine Keeps.drewN ?_ _ | refine Keeps.alloc ?_ _ | exact Keeps.of_nil (by assumption) | refine Keeps.trans ?_ (Keeps.of_nil (by assumption)) | refine Keeps.setCell ?_ (.inr (by first | exact Nat.le_refl _ | (dsimp only; omega))) _ | refine Keeps.setCell ?_ (.inl (by first | (unfold Old; dsimp only; omega) | (unfold Old; simp; omega) | (unfold Old; simp))) _))
              · exact rfl
            refine FactSteps.succ (n := 3) rfl ?s6 ?t6
            case s6 =>
              intro us wj hk hp K hK
              simp only [putAll, Act.put, List.setIfInBounds_toArray, List.set_cons_zero, List.set_cons_succ] at hK ⊢
              rw [hRF] at hp hK
              have e4 : us 43 = _ := hp 1 (by kernel_rfl)
              have e5 : us 44 = _ := hp 2 (by kernel_rfl)
              rw [e4, e5] at hK ⊢
              go_simp
              refine (at_any (HSD.out _ hk).2.2 (HSD.out _ hk).1 HF.out.1).mono ?_
              rintro e wk ⟨rfl, hk2⟩
              refine hK.out _ _ ?_ ?_
              · exact (by repeat (first | exact Keeps.refl _ _ | assumption | refine Keeps.drew ?_ | refine Keeps.drewN ?_ _ | refine Keeps.alloc ?_ _ | exact Keeps.of_nil (by assumption) | refine Keeps.trans ?_ (Keeps.of_nil (by assumption)) | refine Keeps.setCell ?_ (.inr (by first | exact Nat.le_refl _ | (dsimp only; omega))) _ | refine Keeps.setCell ?_ (.inl (by first | (unfold Old; dsimp only; omega) | (unfold Old; simp; omega) | (unfold Old; simp))) _))
              · exact rfl
            refine FactSteps.succ (n := 2) rfl ?s7 ?t7
            case s7 =>
              intro us wj hk hp K hK
              simp only [putAll, Act.put, List.setIfInBounds_toArray, List.set_cons_zero, List.set_cons_succ] at hK ⊢
              rw [hRF] at hp hK
              obtain ⟨c0, c1, _, _⟩ := (HD.out.2.keep hk id).two
              go_simp
              refine hK.out _ _ ?_ ?_
              · exact (by repeat (first | exact Keeps.refl _ _ | assumption | refine Keeps.drew ?_ | refine Keeps.drewN ?_ _ | refine Keeps.alloc ?_ _ | exact Keeps.of_nil (by assumption) | refine Keeps.trans ?_ (Keeps.of_nil (by assumption)) | refine Keeps.setCell ?_ (.inr (by first | exact Nat.le_refl _ | (dsimp only; omega))) _ | refine Keeps.setCell ?_ (.inl (by first | (unfold Old; dsimp only; omega) | (unfold Old; simp; omega) | (unfold Old; simp))) _))
              · exact rfl
            refine FactSteps.succ (n := 1) rfl ?s8 ?t8
            case s8 =>
              intro us wj hk hp K hK
              simp only [putAll, Act.put, List.setIfInBounds_toArray, List.set_cons_zero, List.set_cons_succ] at hK ⊢
              rw [hRF] at hp hK
              obtain ⟨c0, c1, c2, c3, _⟩ := HYD.out _ hk
              go_simp
              refine hK.out _ _ ?_ ?_
              · exact (by repeat (first | exact Keeps.refl _ _ | assumption | refine Keeps.drew ?_ | refine Keeps.drewN ?_ _ | refine Keeps.alloc ?_ _ | exact Keeps.of_nil (by assumption) | refine Keeps.trans ?_ (Keeps.of_nil (by assumption)) | refine Keeps.setCell ?_ (.inr (by first | exact Nat.le_refl _ | (dsimp only; omega))) _ | refine Keeps.setCell ?_ (.inl (by first | (unfold Old; dsimp only; omega) | (unfold Old; simp; omega) | (unfold Old; simp))) _))
              · exact rfl
            refine FactSteps.succ (n := 0) rfl ?s9 ?t9
            case s9 =>
              intro us wj hk hp K hK
              simp only [putAll, Act.put, List.setIfInBounds_toArray, List.set_cons_zero, List.set_cons_succ] at hK ⊢
              rw [hRF] at hp hK
              go_simp
              refine hK.out _ _ ?_ ?_
              · exact (by repeat (first | exact Keeps.refl _ _ | assumption | refine Keeps.drew ?_ | refine Keeps.drewN ?_ _ | refine Keeps.alloc ?_ _ | exact Keeps.of_nil (by assumption) | refine Keeps.trans ?_ (Keeps.of_nil (by assumption)) | refine Keeps.setCell ?_ (.inr (by first | exact Nat.le_refl _ | (dsimp only; omega))) _ | refine Keeps.setCell ?_ (.inl (by first | (unfold Old; dsimp only; omega) | (unfold Old; simp; omega) | (unfold Old; simp))) _))
              · exact hv0.symm
            exact FactSteps.zero
          case' ffin =>
            intro us wz hkz hf
            simp only [putAll, Act.put, List.setIfInBounds_toArray, List.set_cons_zero, List.set_cons_succ]
            have f8 := hf 8 (by decide)
            clear hf
          rw [hRF] at f8
          obtain ⟨g, e8, h8, b8⟩ := f8
          rw [HRR.out.2] at e8
          rw [show us 13 = _ from e8]
          have hH2 := HR.out.1.keepNil (HD.out.1.trans hkz)
          obtain ⟨gl, cap, la2, ln2, lc2, hvr, hcap1, hcap2, xl, hlb, hB⟩ := hH2.last HR.out.2.2.2.1.1
          subst hvr
          obtain ⟨m, hm⟩ : ∃ m, eR.length = m + 1 := ⟨eR.length - 1, by have := hH2.lR; have := HR.out.2.2.2.1.1; omega⟩
          have hm2 : out.2.length = m + 1 := by rw [hH2.lR, hm]
          have hmk : m ≤ 2000 := by have := HR.out.2.2.2.1.2.1; omega
          obtain ⟨z0, z1, z2⟩ := hH2.box.three
          rw [hm] at z2 xl hcap1
          rw [show m + 1 - 1 = m by omega] at xl
          rw [hm2, show m + 1 - 1 = m by omega] at hB
          have hlq : (out.2.getD m []).length = q := by
            refine HR.out.2.2.1 _ ?_
            simp [List.getD, List.getElem?_eq_getElem (show m < out.2.length by omega)]
          have hln : q = ln2 := by rw [← hlq]; exact hB.1
          subst hln
          have hrB := Bools.ofRow (M := Nil) h8 id (by rw [HRR.out.2]; omega)
          rw [HRR.out.2] at hrB
          have lpo := Live.of hH2.box.lt
          have lgl := Live.of hlb
          have HE := Lib.hid (And.intro hH2 (And.intro hB (And.intro hrB (And.intro hm (And.intro hm2 (And.intro hkz (And.intro h8 b8)))))))
          clear hH2 hB hrB hm hm2 hlb h8 b8 hlq e8
          have ld := liveRules.2.2.1
          have HPR : Hid (zs.take (k + 1) = zs.take k ++ [zth zs k] ∧ pushRow (rowsAt f q S O) out (zth zs k) = if r = out.2.getD m [] then out else (out.1 ++ [zth zs k], out.2 ++ [r])) := Lib.hid ⟨take_zth hlt, by
            unfold pushRow
            rw [show rowsAt f q S O (zth zs k) = r from HRR.out.1.symm, HE.out.2.2.2.2.1]; rfl⟩
          have j1 : IntKind.i64.wrap (m : Int) = (m : Int) := IntWalk.i64_in _ (by omega)
          have j2 : IntKind.i64.wrap ((m : Int) + 1 - 1) = (m : Int) := by rw [show (m : Int) + 1 - 1 = (m : Int) by omega]; exact j1
          have j3 : IntKind.i64.wrap (((m + 1 : Nat) : Int) - 1) = (m : Int) := by rw [show ((m + 1 : Nat) : Int) - 1 = (m : Int) by omega]; exact j1
          have j6 : (m : Int) < (m : Int) + 1 := by omega
          have j4 : (0 : Int) ≤ (m : Int) := by omega
          have j5 : (m : Int) < ((m + 1 : Nat) : Int) := by omega
          by_cases heq : r = out.2.getD m []
          · have HQ := Lib.hid (decide_eq_true heq)
            go_wp2_with fail
            go_region_held3 (fun w' => w'.cell? ⟨po, 2, none⟩ = some (.slice (some ⟨gl, 0, none⟩) (m + 1 : Nat) cap) ∧ w'.cell? ⟨gl, m, none⟩ = some (.slice la2 q lc2)) (go_keep) (first | (go_at_call 84; refine (equal_any (M := Nil) (M' := Nil) (Bools.keepNil HE.out.2.2.1 (by repeat (first | exact Keeps.refl _ _ | assumption | refine Keeps.drew ?_ | refine Keeps.drewN ?_ _ | refine Keeps.alloc ?_ _ | exact Keeps.of_nil (by assumption) | refine Keeps.trans ?_ (Keeps.of_nil (by assumption)) | refine Keeps.setCell ?_ (.inr (by first | exact Nat.le_refl _ | (dsimp only; omega))) _ | refine Keeps.setCell ?_ (.inl (by first | (unfold Old; dsimp only; omega) | (unfold Old; simp; omega) | (unfold Old; simp))) _))) (Bools.keepNil HE.out.2.1 (by repeat (first | exact Keeps.refl _ _ | assumption | refine Keeps.drew ?_ | refine Keeps.drewN ?_ _ | refine Keeps.alloc ?_ _ | exact Keeps.of_nil (by assumption) | refine Keeps.trans ?_ (Keeps.of_nil (by assumption)) | refine Keeps.setCell ?_ (.inr (by first | exact Nat.le_refl _ | (dsimp only; omega))) _ | refine Keeps.setCell ?_ (.inl (by first | (unfold Old; dsimp only; omega) | (unfold Old; simp; omega) | (unfold Old; simp))) _))) rfl hq2).mono ?_; rintro e w6 ⟨rfl, hk6⟩; rw [HQ.out]; obtain ⟨rc6, rf6, ra6⟩ := (show Keeps Nil wz w6 from (by repeat (first | exact Keeps.refl _ _ | assumption | refine Keeps.drew ?_ | refine Keeps.drewN ?_ _ | refine Keeps.alloc ?_ _ | exact Keeps.of_nil (by assumption) | refine Keeps.trans ?_ (Keeps.of_nil (by assumption)) | refine Keeps.setCell ?_ (.inr (by first | exact Nat.le_refl _ | (dsimp only; omega))) _ | refine Keeps.setCell ?_ (.inl (by first | (unfold Old; dsimp only; omega) | (unfold Old; simp; omega) | (unfold Old; simp))) _))).live; have q0 := ra6 _ lpo; have q1 := ra6 _ lgl; have HK6 := Lib.hid (show Keeps Nil wz w6 from (by repeat (first | exact Keeps.refl _ _ | assumption | refine Keeps.drew ?_ | refine Keeps.drewN ?_ _ | refine Keeps.alloc ?_ _ | exact Keeps.of_nil (by assumption) | refine Keeps.trans ?_ (Keeps.of_nil (by assumption)) | refine Keeps.setCell ?_ (.inr (by first | exact Nat.le_refl _ | (dsimp only; omega))) _ | refine Keeps.setCell ?_ (.inl (by first | (unfold Old; dsimp only; omega) | (unfold Old; simp; omega) | (unfold Old; simp))) _)))))
            go_wp2_with fail
            go_roundw
            case rel => exact ⟨k + 1, _, _, _, _, out, by omega, by go_num, HE.out.1.keepNil HK6.out, by rw [HPR.out.1, List.foldl_append, ← HR.out.2.1, List.foldl_cons, List.foldl_nil, HPR.out.2, if_pos heq], HR.out.2.2.1, ⟨HR.out.2.2.2.1.1, by have := HR.out.2.2.2.1.2.1; omega, by have := HR.out.2.2.2.1.2.2; omega⟩, HR.out.2.2.2.2.1.trans (HD.out.1.trans (HE.out.2.2.2.2.2.1.trans HK6.out))⟩
            case measure => simp [intOf]; omega
          · have HQ := Lib.hid (decide_eq_false heq)
            go_wp2_with fail
            go_region_held3 (fun w' => w'.cell? ⟨po, 2, none⟩ = some (.slice (some ⟨gl, 0, none⟩) (m + 1 : Nat) cap) ∧ w'.cell? ⟨gl, m, none⟩ = some (.slice la2 q lc2)) (go_keep) (first | (go_at_call 84; refine (equal_any (M := Nil) (M' := Nil) (Bools.keepNil HE.out.2.2.1 (by repeat (first | exact Keeps.refl _ _ | assumption | refine Keeps.drew ?_ | refine Keeps.drewN ?_ _ | refine Keeps.alloc ?_ _ | exact Keeps.of_nil (by assumption) | refine Keeps.trans ?_ (Keeps.of_nil (by assumption)) | refine Keeps.setCell ?_ (.inr (by first | exact Nat.le_refl _ | (dsimp only; omega))) _ | refine Keeps.setCell ?_ (.inl (by first | (unfold Old; dsimp only; omega) | (unfold Old; simp; omega) | (unfold Old; simp))) _))) (Bools.keepNil HE.out.2.1 (by repeat (first | exact Keeps.refl _ _ | assumption | refine Keeps.drew ?_ | refine Keeps.drewN ?_ _ | refine Keeps.alloc ?_ _ | exact Keeps.of_nil (by assumption) | refine Keeps.trans ?_ (Keeps.of_nil (by assumption)) | refine Keeps.setCell ?_ (.inr (by first | exact Nat.le_refl _ | (dsimp only; omega))) _ | refine Keeps.setCell ?_ (.inl (by first | (unfold Old; dsimp only; omega) | (unfold Old; simp; omega) | (unfold Old; simp))) _))) rfl hq2).mono ?_; rintro e w6 ⟨rfl, hk6⟩; rw [HQ.out]; obtain ⟨rc6, rf6, ra6⟩ := (show Keeps Nil wz w6 from (by repeat (first | exact Keeps.refl _ _ | assumption | refine Keeps.drew ?_ | refine Keeps.drewN ?_ _ | refine Keeps.alloc ?_ _ | exact Keeps.of_nil (by assumption) | refine Keeps.trans ?_ (Keeps.of_nil (by assumption)) | refine Keeps.setCell ?_ (.inr (by first | exact Nat.le_refl _ | (dsimp only; omega))) _ | refine Keeps.setCell ?_ (.inl (by first | (unfold Old; dsimp only; omega) | (unfold Old; simp; omega) | (unfold Old; simp))) _))).live; have q0 := ra6 _ lpo; have q1 := ra6 _ lgl; have HK6 := Lib.hid (show Keeps Nil wz w6 from (by repeat (first | exact Keeps.refl _ _ | assumption | refine Keeps.drew ?_ | refine Keeps.drewN ?_ _ | refine Keeps.alloc ?_ _ | exact Keeps.of_nil (by assumption) | refine Keeps.trans ?_ (Keeps.of_nil (by assumption)) | refine Keeps.setCell ?_ (.inr (by first | exact Nat.le_refl _ | (dsimp only; omega))) _ | refine Keeps.setCell ?_ (.inl (by first | (unfold Old; dsimp only; omega) | (unfold Old; simp; omega) | (unfold Old; simp))) _)))))
            go_upto_region 13 with (fail)
            have HBS := Lib.hid (show wc.heap.size ≤ w6.heap.size from (HR.out.2.2.2.2.1.trans (HD.out.1.trans (HE.out.2.2.2.2.2.1.trans HK6.out))).size)
            have h6 := HE.out.1.keepNil HK6.out
            have hbt := (HD.out.2.keep HE.out.2.2.2.2.2.1 id).keep HK6.out id
            have hfar : (⟨q, w6.heap.size, po, wc.heap.size, wr.heap.size, vc, .slice (some ⟨gl, 0, none⟩) eR.length cap, eC, eR, s, a, n, c, some ⟨g, 0, none⟩, q, q⟩ : JC).far wr.heap.size := HR.out.1.far (Nat.le_refl _)
            have H6 := Lib.hid (And.intro h6 (And.intro hbt hfar))
            have heC : eC.length ≤ 2000 := by have := h6.lC; have := HR.out.2.2.2.1.2.2; omega
            have heR : eR.length ≤ 2001 := by have := HE.out.2.2.2.1; omega
            obtain ⟨J, hJ⟩ : ∃ J : JC, J = ⟨q, w6.heap.size, po, wc.heap.size, wr.heap.size, vc, .slice (some ⟨gl, 0, none⟩) eR.length cap, eC, eR, s, a, n, c, some ⟨g, 0, none⟩, q, q⟩ := ⟨_, rfl⟩
            obtain ⟨JF, hJF⟩ : ∃ JF, JF = J.F := ⟨_, rfl⟩
            obtain ⟨JP, hJP⟩ : ∃ JP, JP = J.Pre := ⟨_, rfl⟩
            obtain ⟨JR, hJR⟩ : ∃ JR, JR = J.R := ⟨_, rfl⟩
            clear h6 hbt hfar
            refine wp_region_order [65, 66, 67, 68, 69, 70, 71, 72, 73, 74, 75, 76, 77, 78, 79, 80, 81, 82, 87, 83, 84, 88] JF (Turn Nil po vc (.slice (some ⟨gl, 0, none⟩) eR.length cap)) JP JR (by kernel_rfl) (by kernel_rfl) (by rw [hJF, hJR]; exact J.hF _ (by kernel_rfl) (by kernel_rfl)) (by rw [hJP, hJR]; exact J.hP _ (by kernel_rfl) (by kernel_rfl) (by rw [hJ]; exact H6.out.2.2)) (by rw [hJP, hJ]; exact H6.out.1.pre H6.out.2.1) ?osteps ?ofin
            case osteps =>
              show OrderSteps _ _ _ _ _ _ _ _ _ _ 22
              refine OrderSteps.succ (n := 21) rfl ?os21 ?ot21
              case os21 =>
                intro us wj hk hpr hp K hK
                rw [hJP] at hpr
                rw [hJF, hJR] at hK
                rw [hJF] at hp
                subst hJ
                simp only [putAll, Act.put, List.setIfInBounds_toArray, List.set_cons_zero, List.set_cons_succ] at hK ⊢
                have e20 : us 84 = .pointer (some ⟨po, 2, none⟩) := hp 20 (by kernel_rfl)
                obtain ⟨a2, c2, e15, ho, hn⟩ : ∃ a2 c2, us 80 = .slice a2 (eR.length + 1) c2 ∧ OwnEls wj wc.heap.size 59 1 (us 80) (eR ++ [[Value.slice (some ⟨g, 0, none⟩) q q]]) ∧ ∀ k, (us 80).ownBlock = some k → (Value.slice (some ⟨gl, 0, none⟩) eR.length cap).ownBlock = some k ∨ w6.heap.size ≤ k := hp 15 (by kernel_rfl)
                rw [e20, e15] at hK ⊢
                rw [e15] at ho hn
                obtain ⟨y, z, hr⟩ := hpr
                have f2 := hr.frozen 2
                obtain ⟨_, _, d2⟩ := hr.three
                go_simp
                refine hK.out undef _ ?_ ?_ ?_
                · exact ⟨⟨_, _, _, hr⟩, _, rfl⟩
                · exact hk.setCell (.inl (.inr (.inl rfl))) _
                · exact ⟨a2, c2, y, ho.keep ((Keeps.refl (One po) wj).set1 2 _) (fun b hb hm => ho.ty hr (by decide) (by rw [hb]; exact congrArg some hm)), hn, hr.set 2 _⟩
              refine OrderSteps.succ (n := 20) rfl ?os20 ?ot20
              case os20 =>
                intro us wj hk hpr hp K hK
                rw [hJP] at hpr
                rw [hJF, hJR] at hK
                rw [hJF] at hp
                subst hJ
                simp only [putAll, Act.put, List.setIfInBounds_toArray, List.set_cons_zero, List.set_cons_succ] at hK ⊢
                have e19 : us 83 = .pointer (some ⟨po, 0, none⟩) := hp 19 (by kernel_rfl)
                rw [e19] at hK ⊢
                go_simp
                refine hK.out _ _ ?_ ?_ ?_
                · exact rfl
                · exact hk
                · exact rfl
              refine OrderSteps.succ (n := 19) rfl ?os19 ?ot19
              case os19 =>
                intro us wj hk hpr hp K hK
                rw [hJP] at hpr
                rw [hJF, hJR] at hK
                rw [hJF] at hp
                subst hJ
                simp only [putAll, Act.put, List.setIfInBounds_toArray, List.set_cons_zero, List.set_cons_succ] at hK ⊢
                have e1 : us 66 = .pointer (some ⟨po, 0, none⟩) := hp 1 (by kernel_rfl)
                rw [e1] at hK ⊢
                go_simp
                refine hK.out _ _ ?_ ?_ ?_
                · exact rfl
                · exact hk
                · exact rfl
              refine OrderSteps.succ (n := 18) rfl ?os18 ?ot18
              case os18 =>
                intro us wj hk hpr hp K hK
                rw [hJP] at hpr
                rw [hJF, hJR] at hK
                rw [hJF] at hp
                subst hJ
                simp only [putAll, Act.put, List.setIfInBounds_toArray, List.set_cons_zero, List.set_cons_succ] at hK ⊢
                have e17 : us 82 = .pointer (some ⟨po, 1, none⟩) := hp 17 (by kernel_rfl)
                obtain ⟨a2, c2, e8, ho, hn⟩ : ∃ a2 c2, us 73 = .slice a2 (eC.length + 1) c2 ∧ OwnEls wj wc.heap.size 38 2 (us 73) (eC ++ [[Value.bool s, Value.slice a n c]]) ∧ ∀ k, (us 73).ownBlock = some k → vc.ownBlock = some k ∨ w6.heap.size ≤ k := hp 8 (by kernel_rfl)
                rw [e17, e8] at hK ⊢
                rw [e8] at ho hn
                obtain ⟨y, z, hr⟩ := hpr
                have f1 := hr.frozen 1
                obtain ⟨_, d1, _⟩ := hr.three
                go_simp
                refine hK.out undef _ ?_ ?_ ?_
                · exact ⟨⟨_, _, _, hr⟩, _, rfl⟩
                · exact hk.setCell (.inl (.inr (.inl rfl))) _
                · exact ⟨a2, c2, z, ho.keep ((Keeps.refl (One po) wj).set1 1 _) (fun b hb hm => ho.ty hr (by decide) (by rw [hb]; exact congrArg some hm)), hn, hr.set 1 _⟩
              refine OrderSteps.succ (n := 17) rfl ?os17 ?ot17
              case os17 =>
                intro us wj hk hpr hp K hK
                rw [hJP] at hpr
                rw [hJF, hJR] at hK
                rw [hJF] at hp
                subst hJ
                simp only [putAll, Act.put, List.setIfInBounds_toArray, List.set_cons_zero, List.set_cons_succ] at hK ⊢
                have e16 : us 81 = .pointer (some ⟨po, 0, none⟩) := hp 16 (by kernel_rfl)
                rw [e16] at hK ⊢
                go_simp
                refine hK.out _ _ ?_ ?_ ?_
                · exact rfl
                · exact hk
                · exact rfl
              refine OrderSteps.succ (n := 16) rfl ?os16 ?ot16
              case os16 =>
                intro us wj hk hpr hp K hK
                rw [hJP] at hpr
                rw [hJF, hJR] at hK
                rw [hJF] at hp
                subst hJ
                simp only [putAll, Act.put, List.setIfInBounds_toArray, List.set_cons_zero, List.set_cons_succ] at hK ⊢
                have e0 : us 65 = .pointer (some ⟨po, 0, none⟩) := hp 0 (by kernel_rfl)
                rw [e0] at hK ⊢
                go_simp
                refine hK.out _ _ ?_ ?_ ?_
                · exact rfl
                · exact hk
                · exact rfl
              refine OrderSteps.succ (n := 15) rfl ?os15 ?ot15
              case os15 =>
                intro us wj hk hpr hp K hK
                rw [hJP] at hpr
                rw [hJF, hJR] at hK
                rw [hJF] at hp
                subst hJ
                simp only [putAll, Act.put, List.setIfInBounds_toArray, List.set_cons_zero, List.set_cons_succ] at hK ⊢
                have e12 : us 77 = .slice (some ⟨gl, 0, none⟩) eR.length cap := hp 12 (by kernel_rfl)
                obtain ⟨b2, e14, hr14, hfar⟩ := hp 14 (by kernel_rfl)
                rw [e12, show us 79 = _ from e14] at hK ⊢
                rw [if_pos (by kernel_rfl)]
                refine oper_append_els wj (.tmp 77) (.tmp 79) 68 rfl wc.heap.size 59 i2 (.slice none 0 0) 1 24 Tryz.underlying68 HI.out.2.1 HI.out.2.2.1 HI.out.2.2.2.1 HI.out.2.2.2.2 rfl (by decide) (.slice (some ⟨gl, 0, none⟩) eR.length cap) eR rfl hpr ⟨b2, 0, none⟩ 1 1 [[.slice (some ⟨g, 0, none⟩) q q]] rfl rfl (by simp) (row_news hr14) (by simp [Value.oneCell']) (by omega) (by omega) (by have := hk.size; have := HBS.out; omega) ?_
                intro v' w' ho hk2 hf2
                obtain ⟨a2, c2, ev⟩ := ho.isSlice
                rw [List.length_append] at ev
                refine hK.out _ _ ?_ ?_ ?_
                · exact ⟨hpr, hk2⟩
                · exact hk.trans' hk2 (fun b hb => .inl (.inr (.inr (.inr hb))))
                · exact ⟨a2, c2, ev, ho, fun b hb => by rcases hf2 b hb with h | h; exact .inl h; exact .inr (Nat.le_trans hk.size h)⟩
              refine OrderSteps.succ (n := 14) rfl ?os14 ?ot14
              case os14 =>
                intro us wj hk hpr hp K hK
                rw [hJP] at hpr
                rw [hJF, hJR] at hK
                rw [hJF] at hp
                subst hJ
                simp only [putAll, Act.put, List.setIfInBounds_toArray, List.set_cons_zero, List.set_cons_succ] at hK ⊢
                have e13 : us 78 = .slice (some ⟨g, 0, none⟩) q q := hp 13 (by kernel_rfl)
                rw [e13] at hK ⊢
                go_simp
                refine hK.out _ _ ?_ ?_ ?_
                · exact (by repeat (first | exact Keeps.refl _ _ | refine Keeps.drew ?_ | refine Keeps.drewN ?_ _ | refine Keeps.alloc ?_ _))
                · exact hk.trans (by repeat (first | exact Keeps.refl _ _ | assumption | refine Keeps.drew ?_ | refine Keeps.drewN ?_ _ | refine Keeps.alloc ?_ _ | exact Keeps.of_nil (by assumption) | refine Keeps.trans ?_ (Keeps.of_nil (by assumption)) | refine Keeps.setCell ?_ (.inr (by first | exact Nat.le_refl _ | (dsimp only; omega))) _ | refine Keeps.setCell ?_ (.inl (by first | (unfold Old; dsimp only; omega) | (unfold Old; simp; omega) | (unfold Old; simp))) _))
                · exact ⟨wj.heap.size, rfl, RowIs.alloc (w := wj) (xs := [.slice (some ⟨g, 0, none⟩) q q]), H6.out.1.far hk.size⟩
              refine OrderSteps.succ (n := 13) rfl ?os13 ?ot13
              case os13 =>
                intro us wj hk hpr hp K hK
                rw [hJP] at hpr
                rw [hJF, hJR] at hK
                rw [hJF] at hp
                subst hJ
                simp only [putAll, Act.put, List.setIfInBounds_toArray, List.set_cons_zero, List.set_cons_succ] at hK ⊢
                go_simp
                refine hK.out _ _ ?_ ?_ ?_
                · exact rfl
                · exact hk
                · exact rfl
              refine OrderSteps.succ (n := 12) rfl ?os12 ?ot12
              case os12 =>
                intro us wj hk hpr hp K hK
                rw [hJP] at hpr
                rw [hJF, hJR] at hK
                rw [hJF] at hp
                subst hJ
                simp only [putAll, Act.put, List.setIfInBounds_toArray, List.set_cons_zero, List.set_cons_succ] at hK ⊢
                have e11 : us 76 = .pointer (some ⟨po, 2, none⟩) := hp 11 (by kernel_rfl)
                rw [e11] at hK ⊢
                obtain ⟨y, hr⟩ := hpr
                obtain ⟨_, _, d2⟩ := hr.three
                go_simp
                refine hK.out _ _ ?_ ?_ ?_
                · exact rfl
                · exact hk
                · exact rfl
              refine OrderSteps.succ (n := 11) rfl ?os11 ?ot11
              case os11 =>
                intro us wj hk hpr hp K hK
                rw [hJP] at hpr
                rw [hJF, hJR] at hK
                rw [hJF] at hp
                subst hJ
                simp only [putAll, Act.put, List.setIfInBounds_toArray, List.set_cons_zero, List.set_cons_succ] at hK ⊢
                have e10 : us 75 = .pointer (some ⟨po, 0, none⟩) := hp 10 (by kernel_rfl)
                rw [e10] at hK ⊢
                go_simp
                refine hK.out _ _ ?_ ?_ ?_
                · exact rfl
                · exact hk
                · exact rfl
              refine OrderSteps.succ (n := 10) rfl ?os10 ?ot10
              case os10 =>
                intro us wj hk hpr hp K hK
                rw [hJP] at hpr
                rw [hJF, hJR] at hK
                rw [hJF] at hp
                subst hJ
                simp only [putAll, Act.put, List.setIfInBounds_toArray, List.set_cons_zero, List.set_cons_succ] at hK ⊢
                have e9 : us 74 = .pointer (some ⟨po, 0, none⟩) := hp 9 (by kernel_rfl)
                rw [e9] at hK ⊢
                go_simp
                refine hK.out _ _ ?_ ?_ ?_
                · exact rfl
                · exact hk
                · exact rfl
              refine OrderSteps.succ (n := 9) rfl ?os9 ?ot9
              case os9 =>
                intro us wj hk hpr hp K hK
                rw [hJP] at hpr
                rw [hJF, hJR] at hK
                rw [hJF] at hp
                subst hJ
                simp only [putAll, Act.put, List.setIfInBounds_toArray, List.set_cons_zero, List.set_cons_succ] at hK ⊢
                go_simp
                refine hK.out _ _ ?_ ?_ ?_
                · exact rfl
                · exact hk
                · exact rfl
              refine OrderSteps.succ (n := 8) rfl ?os8 ?ot8
              case os8 =>
                intro us wj hk hpr hp K hK
                rw [hJP] at hpr
                rw [hJF, hJR] at hK
                rw [hJF] at hp
                subst hJ
                simp only [putAll, Act.put, List.setIfInBounds_toArray, List.set_cons_zero, List.set_cons_succ] at hK ⊢
                have e5 : us 70 = vc := hp 5 (by kernel_rfl)
                obtain ⟨b2, e7, hr7, hfar⟩ := hp 7 (by kernel_rfl)
                rw [e5, show us 72 = _ from e7] at hK ⊢
                rw [if_pos (by kernel_rfl)]
                refine oper_append_els wj (.tmp 70) (.tmp 72) 23 rfl wc.heap.size 38 i1 (.agg #[.bool false, .slice none 0 0]) 2 32 Tryz.underlying23 HI.out.1.1 HI.out.1.2.1 HI.out.1.2.2.1 HI.out.1.2.2.2 rfl (by decide) vc eC rfl hpr ⟨b2, 0, none⟩ 1 1 [[.bool s, .slice a n c]] rfl rfl (by simp) (row_news hr7) (by simp [Value.oneCell']) (by omega) (by omega) (by have := hk.size; have := HBS.out; omega) ?_
                intro v' w' ho hk2 hf2
                obtain ⟨a2, c2, ev⟩ := ho.isSlice
                rw [List.length_append] at ev
                refine hK.out _ _ ?_ ?_ ?_
                · exact ⟨hpr, hk2⟩
                · exact hk.trans' hk2 (fun b hb => .inl (.inr (.inr (.inl hb))))
                · exact ⟨a2, c2, ev, ho, fun b hb => by rcases hf2 b hb with h | h; exact .inl h; exact .inr (Nat.le_trans hk.size h)⟩
              refine OrderSteps.succ (n := 7) rfl ?os7 ?ot7
              case os7 =>
                intro us wj hk hpr hp K hK
                rw [hJP] at hpr
                rw [hJF, hJR] at hK
                rw [hJF] at hp
                subst hJ
                simp only [putAll, Act.put, List.setIfInBounds_toArray, List.set_cons_zero, List.set_cons_succ] at hK ⊢
                have e6 : us 71 = .agg #[.bool s, .slice a n c] := hp 6 (by kernel_rfl)
                rw [e6] at hK ⊢
                go_simp
                refine hK.out _ _ ?_ ?_ ?_
                · exact (by repeat (first | exact Keeps.refl _ _ | refine Keeps.drew ?_ | refine Keeps.drewN ?_ _ | refine Keeps.alloc ?_ _))
                · exact hk.trans (by repeat (first | exact Keeps.refl _ _ | assumption | refine Keeps.drew ?_ | refine Keeps.drewN ?_ _ | refine Keeps.alloc ?_ _ | exact Keeps.of_nil (by assumption) | refine Keeps.trans ?_ (Keeps.of_nil (by assumption)) | refine Keeps.setCell ?_ (.inr (by first | exact Nat.le_refl _ | (dsimp only; omega))) _ | refine Keeps.setCell ?_ (.inl (by first | (unfold Old; dsimp only; omega) | (unfold Old; simp; omega) | (unfold Old; simp))) _))
                · exact ⟨wj.heap.size, rfl, RowIs.alloc (w := wj) (xs := [.bool s, .slice a n c]), H6.out.1.far hk.size⟩
              refine OrderSteps.succ (n := 6) rfl ?os6 ?ot6
              case os6 =>
                intro us wj hk hpr hp K hK
                rw [hJP] at hpr
                rw [hJF, hJR] at hK
                rw [hJF] at hp
                subst hJ
                simp only [putAll, Act.put, List.setIfInBounds_toArray, List.set_cons_zero, List.set_cons_succ] at hK ⊢
                obtain ⟨c0, c1, _, _⟩ := RowIs.two (show RowIs wj wr.heap.size 38 [.bool s, .slice a n c] from hpr)
                go_simp
                refine hK.out _ _ ?_ ?_ ?_
                · exact rfl
                · exact hk
                · exact rfl
              refine OrderSteps.succ (n := 5) rfl ?os5 ?ot5
              case os5 =>
                intro us wj hk hpr hp K hK
                rw [hJP] at hpr
                rw [hJF, hJR] at hK
                rw [hJF] at hp
                subst hJ
                simp only [putAll, Act.put, List.setIfInBounds_toArray, List.set_cons_zero, List.set_cons_succ] at hK ⊢
                have e4 : us 69 = .pointer (some ⟨po, 1, none⟩) := hp 4 (by kernel_rfl)
                rw [e4] at hK ⊢
                obtain ⟨z, hr⟩ := hpr
                obtain ⟨_, d1, _⟩ := hr.three
                go_simp
                refine hK.out _ _ ?_ ?_ ?_
                · exact rfl
                · exact hk
                · exact rfl
              refine OrderSteps.succ (n := 4) rfl ?os4 ?ot4
              case os4 =>
                intro us wj hk hpr hp K hK
                rw [hJP] at hpr
                rw [hJF, hJR] at hK
                rw [hJF] at hp
                subst hJ
                simp only [putAll, Act.put, List.setIfInBounds_toArray, List.set_cons_zero, List.set_cons_succ] at hK ⊢
                have e3 : us 68 = .pointer (some ⟨po, 0, none⟩) := hp 3 (by kernel_rfl)
                rw [e3] at hK ⊢
                go_simp
                refine hK.out _ _ ?_ ?_ ?_
                · exact rfl
                · exact hk
                · exact rfl
              refine OrderSteps.succ (n := 3) rfl ?os3 ?ot3
              case os3 =>
                intro us wj hk hpr hp K hK
                rw [hJP] at hpr
                rw [hJF, hJR] at hK
                rw [hJF] at hp
                subst hJ
                simp only [putAll, Act.put, List.setIfInBounds_toArray, List.set_cons_zero, List.set_cons_succ] at hK ⊢
                have e2 : us 67 = .pointer (some ⟨po, 0, none⟩) := hp 2 (by kernel_rfl)
                rw [e2] at hK ⊢
                go_simp
                refine hK.out _ _ ?_ ?_ ?_
                · exact rfl
                · exact hk
                · exact rfl
              refine OrderSteps.succ (n := 2) rfl ?os2 ?ot2
              case os2 =>
                intro us wj hk hpr hp K hK
                rw [hJP] at hpr
                rw [hJF, hJR] at hK
                rw [hJF] at hp
                subst hJ
                simp only [putAll, Act.put, List.setIfInBounds_toArray, List.set_cons_zero, List.set_cons_succ] at hK ⊢
                go_simp
                refine hK.out _ _ ?_ ?_ ?_
                · exact rfl
                · exact hk
                · exact rfl
              refine OrderSteps.succ (n := 1) rfl ?os1 ?ot1
              case os1 =>
                intro us wj hk hpr hp K hK
                rw [hJP] at hpr
                rw [hJF, hJR] at hK
                rw [hJF] at hp
                subst hJ
                simp only [putAll, Act.put, List.setIfInBounds_toArray, List.set_cons_zero, List.set_cons_succ] at hK ⊢
                go_simp
                refine hK.out _ _ ?_ ?_ ?_
                · exact rfl
                · exact hk
                · exact rfl
              refine OrderSteps.succ (n := 0) rfl ?os0 ?ot0
              case os0 =>
                intro us wj hk hpr hp K hK
                rw [hJP] at hpr
                rw [hJF, hJR] at hK
                rw [hJF] at hp
                subst hJ
                simp only [putAll, Act.put, List.setIfInBounds_toArray, List.set_cons_zero, List.set_cons_succ] at hK ⊢
                go_simp
                refine hK.out _ _ ?_ ?_ ?_
                · exact rfl
                · exact hk
                · exact rfl
              exact OrderSteps.zero
            case' ofin =>
              intro us w7 hk7 hf7
              simp only [putAll, Act.put, List.setIfInBounds_toArray, List.set_cons_zero, List.set_cons_succ]
            rw [hJF, hJ] at hf7
            obtain ⟨a8, c8, z8, ho8, hn8, hr8⟩ := hf7 18 (by decide)
            obtain ⟨a9, c9, y9, ho9, hn9, hr9⟩ := hf7 21 (by decide)
            clear hJF hJP hJR hJ hf7
            obtain ⟨_, e8, e9⟩ := hr8.same3 hr9
            subst e8
            subst e9
            have hgd : wr.heap.size ≤ g := Nat.le_trans HD.out.1.size HE.out.2.2.2.2.2.2.2
            have hng : ¬ Turn M po vc (.slice (some ⟨gl, 0, none⟩) eR.length cap) g := fun hm => by
              have hw := HR.out.2.2.2.2.1.size
              rcases hm with hm | hm | hm | hm
              · have := HMC.out _ hm; omega
              · have := HR.out.1.box.lt; omega
              · have := (HR.out.1.oC.lt _ hm).2; omega
              · have := (HR.out.1.oR.lt _ hm).2; omega
            have hrg := Bools.ofRow (HE.out.2.2.2.2.2.2.1.keep HK6.out id) hng (by rw [HRR.out.2]; omega)
            rw [HRR.out.2] at hrg
            have h8 := H6.out.1.push hk7 hr8 ⟨s, a, n, c, rfl, HR.out.2.2.2.2.2.keepNil (HD.out.1.trans (HE.out.2.2.2.2.2.1.trans HK6.out))⟩ ⟨_, _, _, rfl, hrg⟩ ho8 ho9 hn8 hn9
            have hpo2 : wc.heap.size ≤ po := by have := HO4.out.2.2.1; have := HO4.out.2.2.2; have := HC4.out.1.size; omega
            have k8 : Keeps Nil wc w7 := (HR.out.2.2.2.2.1.trans (HD.out.1.trans (HE.out.2.2.2.2.2.1.trans HK6.out))).trans' hk7 (fun b hb => by
              rcases hb with hb | hb | hb | hb
              · exact hb.elim
              · right; omega
              · exact .inr (H6.out.1.oC.lt _ hb).1
              · exact .inr (H6.out.1.oR.lt _ hb).1)
            have H8 := Lib.hid (And.intro h8 k8)
            clear h8 k8 hrg hng hr8 hr9 ho8 ho9 hn8 hn9 hk7
            go_wp2_with fail
            go_roundw
            case rel => exact ⟨k + 1, _, _, _, _, (out.1 ++ [zth zs k], out.2 ++ [r]), by omega, by go_num, H8.out.1, by rw [HPR.out.1, List.foldl_append, ← HR.out.2.1, List.foldl_cons, List.foldl_nil, HPR.out.2, if_neg heq], fun x hx => by rcases List.mem_append.1 hx with hx | hx; exact HR.out.2.2.1 x hx; rw [List.mem_singleton.1 hx]; exact HRR.out.2, ⟨by simp, by have := HR.out.2.2.2.1.2.1; simp; omega, by have := HR.out.2.2.2.1.2.2; simp; omega⟩, H8.out.2⟩
            case measure => simp [intOf]; omega
        · obtain rfl : k = zs.length := by omega
          rw [List.take_length] at hout
          have hpo2 : wc.heap.size ≤ po := by have := HO4.out.2.2.1; have := HO4.out.2.2.2; have := HC4.out.1.size; omega
          have hsa := hH.setAt HMC.out hpo2
          have hj : joined f S O = ⟨q, out.1, out.2⟩ := by
            unfold joined
            simp only [hqq, HZS.out, ← hout]
          rw [← hj] at hsa
          have HSA := Lib.hid (And.intro hsa (HB.out.2.2.2.trans (HK2.out.1.trans hkk)))
          clear hH hout hrl hol hkk hsa hj
          go_wp2_with fail
          go_ret2
          exact .inr ⟨by rw [hqq]; exact hq2, po, rfl, HSA.out.1, HSA.out.2⟩
end Go.Proofs.YtfkclbhddiidbaaGreat
