/- What riddleref18's joined does: what two sets have, by value. Conditions: the sets' own reading; room. -/
import Derived.Test.YtfkclbhddiidbaaGreatKRJoinH
import Derived.Test.YtfkclbhddiidbaaGreatKRSet6
import Derived.Test.YtfkclbhddiidbaaGreatKPJoined
import Derived.Test.YtfkclbhddiidbaaGreatKRegions
namespace Go.Rid
open Go.RowKit
theorem rows3V (w : World) (E1 E2 E3 : TypeId) (x1 x2 x3 : List Value) : RowIs (((w.alloc (.cells x1.toArray E1)).alloc (.cells x2.toArray E2)).alloc (.cells x3.toArray E3)) w.heap.size E1 x1 ∧ RowIs (((w.alloc (.cells x1.toArray E1)).alloc (.cells x2.toArray E2)).alloc (.cells x3.toArray E3)) (w.heap.size + 1) E2 x2 ∧ RowIs (((w.alloc (.cells x1.toArray E1)).alloc (.cells x2.toArray E2)).alloc (.cells x3.toArray E3)) (w.heap.size + 1 + 1) E3 x3 ∧ Keeps Nil w (((w.alloc (.cells x1.toArray E1)).alloc (.cells x2.toArray E2)).alloc (.cells x3.toArray E3)) := by
  have r1 := RowIs.alloc (w := w) (E := E1) (xs := x1)
  have r2 := RowIs.alloc (w := w.alloc (.cells x1.toArray E1)) (E := E2) (xs := x2)
  have r3 := RowIs.alloc (w := (w.alloc (.cells x1.toArray E1)).alloc (.cells x2.toArray E2)) (E := E3) (xs := x3)
  have k2 : Keeps Nil (w.alloc (.cells x1.toArray E1)) ((w.alloc (.cells x1.toArray E1)).alloc (.cells x2.toArray E2)) := (by repeat (first | exact Keeps.refl _ _ | refine Keeps.drew ?_ | refine Keeps.drewN ?_ _ | refine Keeps.alloc ?_ _))
  have k3 : Keeps Nil ((w.alloc (.cells x1.toArray E1)).alloc (.cells x2.toArray E2)) (((w.alloc (.cells x1.toArray E1)).alloc (.cells x2.toArray E2)).alloc (.cells x3.toArray E3)) := (by repeat (first | exact Keeps.refl _ _ | refine Keeps.drew ?_ | refine Keeps.drewN ?_ _ | refine Keeps.alloc ?_ _))
  have s1 : (w.alloc (.cells x1.toArray E1)).heap.size = w.heap.size + 1 := by simp
  have s2 : ((w.alloc (.cells x1.toArray E1)).alloc (.cells x2.toArray E2)).heap.size = w.heap.size + 1 + 1 := by simp
  rw [s1] at r2
  rw [s2] at r3
  exact ⟨(r1.keep k2 id).keep k3 id, r2.keep k3 id, r3, (by repeat (first | exact Keeps.refl _ _ | refine Keeps.drew ?_ | refine Keeps.drewN ?_ _ | refine Keeps.alloc ?_ _))⟩
end Go.Rid
namespace Go.Proofs.YtfkclbhddiidbaaGreat
open Go.RowKit Go.Rid
def RJoinRet (M : Nat → Prop) (w : World) (f : Bool → Bool → Bool) (S O : PSet) (e : Ending) (w' : World) : Prop :=
  (4096 < Nat.lcm S.P O.P ∧ RSetNo w 180 e w') ∨ (¬ 4096 < Nat.lcm S.P O.P ∧ RSetYes M w (Rid.joined f S O) e w')
theorem SV.row {M : Nat → Prop} {w : World} {ac : Option Addr} {nc cc : Nat} {ar : Option Addr} {nr cr : Nat} {S : PSet} (h : SV M w ac nc cc ar nr cr S) (hf : Fine S) {k : Nat} (hk : k ≤ S.cuts.length) :
    k < nr ∧ ∃ b off a c, ar = some ⟨b, off, none⟩ ∧ b < w.heap.size ∧ w.cell? ⟨b, off + k, none⟩ = some (.slice a S.P c) ∧ Bools M w a S.P c (S.rows.getD k []) := by
  have hl : k < S.rows.length := by rw [hf.ok.len]; omega
  have hkr : k < nr := by have := h.2.len; omega
  obtain ⟨b, off, a, n, c, e, hb, _, hc, hB⟩ := h.2.at hkr
  have hn : n = S.P := by
    rw [← hB.1]
    simp only [List.getD, List.getElem?_eq_getElem hl, Option.getD_some]
    exact hf.ok.row _ (List.getElem_mem hl)
  subst hn
  exact ⟨hkr, b, off, a, c, e, hb, hc, hB⟩
theorem info_rowb : (Tryz.prog.info? 58).map (fun i => (i.zero, i.size, i.bytes)) = some (some (.slice none 0 0), 1, 24) := by kernel_rfl
theorem refwhole_own {a : Option Addr} {n c : Nat} {w : World} :
    Calls Tryz.prog 24 #[.slice a n c] w fun e w' => ∃ g, e = .returned (.agg #[.int .i64 (n : Int), .slice none 0 0, .slice (some ⟨g, 0, none⟩) 1 1]) ∧ RowIs w' g 58 [.slice a n c] ∧ w.heap.size ≤ g ∧ Keeps Nil w w' := by
  go_enter Tryz.func24, Tryz.ntmps24
  go_wp2_with fail
  have r0 := RowIs.alloc (w := w) (E := 30) (xs := [.int .i64 n, .slice none 0 0, .slice (some ⟨w.heap.size + 1, 0, none⟩) 1 1])
  have k0 : Keeps Nil w (w.alloc (.cells #[.int .i64 n, .slice none 0 0, .slice (some ⟨w.heap.size + 1, 0, none⟩) 1 1] 30)) := (by repeat (first | exact Keeps.refl _ _ | refine Keeps.drew ?_ | refine Keeps.drewN ?_ _ | refine Keeps.alloc ?_ _))
  change RowIs (w.alloc (.cells #[.int .i64 n, .slice none 0 0, .slice (some ⟨w.heap.size + 1, 0, none⟩) 1 1] 30)) _ _ _ at r0
  have hs : (w.alloc (.cells #[.int .i64 n, .slice none 0 0, .slice (some ⟨w.heap.size + 1, 0, none⟩) 1 1] 30)).heap.size = w.heap.size + 1 := by simp
  generalize w.alloc (.cells #[.int .i64 n, .slice none 0 0, .slice (some ⟨w.heap.size + 1, 0, none⟩) 1 1] 30) = w0 at *
  have r1 := RowIs.alloc (w := w0) (E := 58) (xs := [.slice a n c])
  have k1 : Keeps Nil w0 (w0.alloc (.cells #[.slice a n c] 58)) := (by repeat (first | exact Keeps.refl _ _ | refine Keeps.drew ?_ | refine Keeps.drewN ?_ _ | refine Keeps.alloc ?_ _))
  rw [hs] at r1
  obtain ⟨c0, c1, c2⟩ := (r0.keep k1 id).three
  exact bodyPost_ret (v := .agg #[.int .i64 n, .slice none 0 0, .slice (some ⟨w.heap.size + 1, 0, none⟩) 1 1]) (by simp [results, Tryz.results24, go_sem, c0, c1, c2]) rfl ⟨_, rfl, r1, by omega, k0.trans k1⟩
set_option maxHeartbeats 8000000 in
set_option maxRecDepth 100000 in
theorem refjoined_any {M : Nat → Prop} {ac ar ac2 ar2 : Option Addr} {nc cc nr cr nc2 cc2 nr2 cr2 : Nat} {S O : PSet} {m : Bool} {w : World} (hM : MB M w) (hs : SV M w ac nc cc ar nr cr S) (hs2 : SV M w ac2 nc2 cc2 ar2 nr2 cr2 O) (hf : Fine S) (hf2 : Fine O) :
    Calls Tryz.prog 65 #[.agg #[.int .i64 (S.P : Int), .slice ac nc cc, .slice ar nr cr], .agg #[.int .i64 (O.P : Int), .slice ac2 nc2 cc2, .slice ar2 nr2 cr2], .bool m] w fun e w' => RJoinRet M w (refF m) S O e w' := by
  obtain ⟨i1, hi1⟩ := info_parts info_Int
  have HI := Lib.hid hi1
  obtain ⟨i2, hi2⟩ := info_parts info_rowb
  have HI2 := Lib.hid hi2
  have HM := Lib.hid hM
  have HF := Lib.hid (And.intro hf hf2)
  have hP := hf.ok.pos
  have hP2 := hf.ok.le
  have hQ := hf2.ok.pos
  have hQ2 := hf2.ok.le
  have HRS := Lib.hid (rows3V w 30 30 30 [.int .i64 (S.P : Int), .slice ac nc cc, .slice ar nr cr] [.int .i64 (O.P : Int), .slice ac2 nc2 cc2, .slice ar2 nr2 cr2] [.int .i64 0, .slice none 0 0, .slice none 0 0])
  have HS := Lib.hid (And.intro hs hs2)
  clear hM hs hs2 hf hf2 hi1 hi2
  obtain ⟨la, ls, ld, ln, ln', ln1, ln1', lc, lf⟩ := liveRules
  go_enter Tryz.func65, Tryz.ntmps65
  go_upto_region 1 with (fail)
  obtain ⟨r0, r1, r2, hk0⟩ := HRS.out
  clear HRS
  generalize ((w.alloc (.cells #[.int .i64 (S.P : Int), .slice ac nc cc, .slice ar nr cr] 30)).alloc (.cells #[.int .i64 (O.P : Int), .slice ac2 nc2 cc2, .slice ar2 nr2 cr2] 30)).alloc (.cells #[.int .i64 0, .slice none 0 0, .slice none 0 0] 30) = w0 at *
  obtain ⟨d0, d1, d2⟩ := r0.three
  obtain ⟨e0, e1, e2⟩ := r1.three
  obtain ⟨f0, f1, f2⟩ := r2.three
  have g0 := r2.frozen 0
  have g1 := r2.frozen 1
  have g2 := r2.frozen 2
  have HB := Lib.hid (And.intro r0 (And.intro r1 (And.intro r2 hk0)))
  have hW6 : ∀ b, b < w.heap.size → With M (w.heap.size + 1 + 1) b → M b := fun b hb hm => by
    rcases hm with hm | hm
    · exact hm
    · have : b = w.heap.size + 1 + 1 := hm; omega
  have HM6 := Lib.hid ((HM.out.keep hk0).with r2.lt)
  have HS0 := Lib.hid (And.intro (HS.out.1.move hk0 (fun _ _ h => h.elim) hW6) (HS.out.2.move hk0 (fun _ _ h => h.elim) hW6))
  clear hW6
  have l0 := Live.of r0.lt
  have l1 := Live.of r1.lt
  clear r0 r1 r2 hk0 HS
  go_upto_region 2 with (go_at_call 43; refine (reflcm_any hP hP2 hQ hQ2).mono ?_; rintro e w' ⟨rfl, rfl⟩)
  by_cases hq : 4096 < Nat.lcm S.P O.P
  · have hqI : (4096 : Int) < (Nat.lcm S.P O.P : Int) := by omega
    have HQ := Lib.hid hq
    clear hq
    go_wp2_with fail
    obtain ⟨k0, k1, k2⟩ := (HB.out.2.2.1.triple (u' := .int .i64 0) (v' := .slice none 0 0) (x' := .slice none 0 0)).three
    exact bodyPost_ret (v := .tuple #[.agg #[.int .i64 0, .slice none 0 0, .slice none 0 0], .int .i64 180]) (by simp [results, Tryz.results65, go_sem, k0, k1, k2]) rfl (.inl ⟨HQ.out, rfl, HB.out.2.2.2.own (by omega) (Keeps.triple _ _ _)⟩)
  · have hqI : ¬ (4096 : Int) < (Nat.lcm S.P O.P : Int) := by omega
    have hq1 : 1 ≤ Nat.lcm S.P O.P := lcm_pos hP hQ
    have HQ := Lib.hid hq
    obtain ⟨q, hqq⟩ : ∃ q, q = Nat.lcm S.P O.P := ⟨_, rfl⟩
    rw [← hqq] at hq hqI hq1 ⊢
    have HQE := Lib.hid hqq
    have hq2 : q ≤ 4096 := by omega
    clear hqq
    obtain ⟨n1, rb, ro, a3, c3, hae, hb, x0, hB⟩ := HS0.out.1.row HF.out.1 (Nat.zero_le _)
    obtain ⟨n2, rb2, ro2, a4, c4, hae2, hb2, x1, hB2⟩ := HS0.out.2.row HF.out.2 (Nat.zero_le _)
    subst hae hae2
    have HR0 := Lib.hid (And.intro hB hB2)
    have l2 := Live.of hb
    have l3 := Live.of hb2
    have i1' : (0 : Int) < (nr : Int) := by omega
    have i2' : (0 : Int) < (nr2 : Int) := by omega
    simp only [Nat.add_zero] at x0 x1
    clear hB hB2 hb hb2
    have HM0 := Lib.hid (show ∀ b, (With M (w.heap.size + 1 + 1)) b → b < w0.heap.size from HM6.out)
    go_upto_region 4 with (fail)
    go_cut [9] (fun v wx => R18.RBegun (With M (w.heap.size + 1 + 1)) w0 q (both (refF m) q (S.rows.getD 0 []) (O.rows.getD 0 [])) v wx)
    case first =>
      go_wp2_with fail
      go_region_held3 (fun w' => w'.cell? ⟨w.heap.size, 2, none⟩ = some (.slice (some ⟨rb, ro, none⟩) nr cr) ∧ w'.cell? ⟨w.heap.size + 1, 2, none⟩ = some (.slice (some ⟨rb2, ro2, none⟩) nr2 cr2) ∧ w'.cell? ⟨rb, ro, none⟩ = some (.slice a3 S.P c3) ∧ w'.cell? ⟨rb2, ro2, none⟩ = some (.slice a4 O.P c4)) (go_keep) (first | (go_at_call 98; refine (refboth_any (M := Old _) (MB.old _) (Bools.keepNil (HR0.out.1.move (M2 := Nil) (Keeps.refl Nil _) (fun _ _ h => h.elim) fun _ _ h => h.elim) (by repeat (first | exact Keeps.refl _ _ | assumption | refine Keeps.drew ?_ | refine Keeps.drewN ?_ _ | refine Keeps.alloc ?_ _ | exact Keeps.of_nil (by assumption) | refine Keeps.trans ?_ (Keeps.of_nil (by assumption)) | refine Keeps.setCell ?_ (.inr (by first | exact Nat.le_refl _ | (dsimp only; omega))) _ | refine Keeps.setCell ?_ (.inl (by first | (unfold Old; dsimp only; omega) | (unfold Old; simp; omega) | (unfold Old; simp))) _))) (Bools.keepNil (HR0.out.2.move (M2 := Nil) (Keeps.refl Nil _) (fun _ _ h => h.elim) fun _ _ h => h.elim) (by repeat (first | exact Keeps.refl _ _ | assumption | refine Keeps.drew ?_ | refine Keeps.drewN ?_ _ | refine Keeps.alloc ?_ _ | exact Keeps.of_nil (by assumption) | refine Keeps.trans ?_ (Keeps.of_nil (by assumption)) | refine Keeps.setCell ?_ (.inr (by first | exact Nat.le_refl _ | (dsimp only; omega))) _ | refine Keeps.setCell ?_ (.inl (by first | (unfold Old; dsimp only; omega) | (unfold Old; simp; omega) | (unfold Old; simp))) _))) hP hQ (by omega)).mono ?_; rintro e w3 ⟨a5, c5, rfl, h5, hk3⟩; obtain ⟨rc3, rf3, ra3⟩ := hk3.live; have q0 := (show Keeps Nil w0 w3 from (by repeat (first | exact Keeps.refl _ _ | assumption | refine Keeps.drew ?_ | refine Keeps.drewN ?_ _ | refine Keeps.alloc ?_ _ | exact Keeps.of_nil (by assumption) | refine Keeps.trans ?_ (Keeps.of_nil (by assumption)) | refine Keeps.setCell ?_ (.inr (by first | exact Nat.le_refl _ | (dsimp only; omega))) _ | refine Keeps.setCell ?_ (.inl (by first | (unfold Old; dsimp only; omega) | (unfold Old; simp; omega) | (unfold Old; simp))) _))).live.2.2 _ l0; have q1 := (show Keeps Nil w0 w3 from (by repeat (first | exact Keeps.refl _ _ | assumption | refine Keeps.drew ?_ | refine Keeps.drewN ?_ _ | refine Keeps.alloc ?_ _ | exact Keeps.of_nil (by assumption) | refine Keeps.trans ?_ (Keeps.of_nil (by assumption)) | refine Keeps.setCell ?_ (.inr (by first | exact Nat.le_refl _ | (dsimp only; omega))) _ | refine Keeps.setCell ?_ (.inl (by first | (unfold Old; dsimp only; omega) | (unfold Old; simp; omega) | (unfold Old; simp))) _))).live.2.2 _ l1; have q2 := (show Keeps Nil w0 w3 from (by repeat (first | exact Keeps.refl _ _ | assumption | refine Keeps.drew ?_ | refine Keeps.drewN ?_ _ | refine Keeps.alloc ?_ _ | exact Keeps.of_nil (by assumption) | refine Keeps.trans ?_ (Keeps.of_nil (by assumption)) | refine Keeps.setCell ?_ (.inr (by first | exact Nat.le_refl _ | (dsimp only; omega))) _ | refine Keeps.setCell ?_ (.inl (by first | (unfold Old; dsimp only; omega) | (unfold Old; simp; omega) | (unfold Old; simp))) _))).live.2.2 _ l2; have q3 := (show Keeps Nil w0 w3 from (by repeat (first | exact Keeps.refl _ _ | assumption | refine Keeps.drew ?_ | refine Keeps.drewN ?_ _ | refine Keeps.alloc ?_ _ | exact Keeps.of_nil (by assumption) | refine Keeps.trans ?_ (Keeps.of_nil (by assumption)) | refine Keeps.setCell ?_ (.inr (by first | exact Nat.le_refl _ | (dsimp only; omega))) _ | refine Keeps.setCell ?_ (.inl (by first | (unfold Old; dsimp only; omega) | (unfold Old; simp; omega) | (unfold Old; simp))) _))).live.2.2 _ l3; have qn1 := live_ne q0; have zs1 := hk3.size; (try simp at zs1); have H5 := Lib.hid h5; clear h5) | (go_at_call 24; refine refwhole_own.mono ?_; rintro e w4 ⟨gr, rfl, hgr, hgb, hk4⟩; obtain ⟨rc4, rf4, ra4⟩ := hk4.live; obtain ⟨rc34, rf34, ra34⟩ := (hk3.trans (show Keeps Nil w3 w4 from (by repeat (first | exact Keeps.refl _ _ | assumption | refine Keeps.drew ?_ | refine Keeps.drewN ?_ _ | refine Keeps.alloc ?_ _ | exact Keeps.of_nil (by assumption) | refine Keeps.trans ?_ (Keeps.of_nil (by assumption)) | refine Keeps.setCell ?_ (.inr (by first | exact Nat.le_refl _ | (dsimp only; omega))) _ | refine Keeps.setCell ?_ (.inl (by first | (unfold Old; dsimp only; omega) | (unfold Old; simp; omega) | (unfold Old; simp))) _)))).live; have p0 := (show Keeps Nil w3 w4 from (by repeat (first | exact Keeps.refl _ _ | assumption | refine Keeps.drew ?_ | refine Keeps.drewN ?_ _ | refine Keeps.alloc ?_ _ | exact Keeps.of_nil (by assumption) | refine Keeps.trans ?_ (Keeps.of_nil (by assumption)) | refine Keeps.setCell ?_ (.inr (by first | exact Nat.le_refl _ | (dsimp only; omega))) _ | refine Keeps.setCell ?_ (.inl (by first | (unfold Old; dsimp only; omega) | (unfold Old; simp; omega) | (unfold Old; simp))) _))).live.2.2 _ q0; have p1 := (show Keeps Nil w3 w4 from (by repeat (first | exact Keeps.refl _ _ | assumption | refine Keeps.drew ?_ | refine Keeps.drewN ?_ _ | refine Keeps.alloc ?_ _ | exact Keeps.of_nil (by assumption) | refine Keeps.trans ?_ (Keeps.of_nil (by assumption)) | refine Keeps.setCell ?_ (.inr (by first | exact Nat.le_refl _ | (dsimp only; omega))) _ | refine Keeps.setCell ?_ (.inl (by first | (unfold Old; dsimp only; omega) | (unfold Old; simp; omega) | (unfold Old; simp))) _))).live.2.2 _ q1; have p2 := (show Keeps Nil w3 w4 from (by repeat (first | exact Keeps.refl _ _ | assumption | refine Keeps.drew ?_ | refine Keeps.drewN ?_ _ | refine Keeps.alloc ?_ _ | exact Keeps.of_nil (by assumption) | refine Keeps.trans ?_ (Keeps.of_nil (by assumption)) | refine Keeps.setCell ?_ (.inr (by first | exact Nat.le_refl _ | (dsimp only; omega))) _ | refine Keeps.setCell ?_ (.inl (by first | (unfold Old; dsimp only; omega) | (unfold Old; simp; omega) | (unfold Old; simp))) _))).live.2.2 _ q2; have p3 := (show Keeps Nil w3 w4 from (by repeat (first | exact Keeps.refl _ _ | assumption | refine Keeps.drew ?_ | refine Keeps.drewN ?_ _ | refine Keeps.alloc ?_ _ | exact Keeps.of_nil (by assumption) | refine Keeps.trans ?_ (Keeps.of_nil (by assumption)) | refine Keeps.setCell ?_ (.inr (by first | exact Nat.le_refl _ | (dsimp only; omega))) _ | refine Keeps.setCell ?_ (.inl (by first | (unfold Old; dsimp only; omega) | (unfold Old; simp; omega) | (unfold Old; simp))) _))).live.2.2 _ q3; have zs2 := hk4.size; (try simp at zs2); have H6 := Lib.hid (And.intro hgr hgb); clear hgr hgb))
      all_goals (go_wp2_with fail; go_meet)
      · exact R18.rbegun_of HM0.out (Nat.le_refl _) H5.out H6.out.1 H6.out.2 hk4 (show Keeps Nil w4 _ from (by repeat (first | exact Keeps.refl _ _ | refine Keeps.drew ?_ | refine Keeps.drewN ?_ _ | refine Keeps.alloc ?_ _))).of_nil (.inr hk4.size) (by have := H6.out.1.lt; omega) (by omega) RowIs.alloc (show Keeps Nil w0 w3 from (by repeat (first | exact Keeps.refl _ _ | assumption | refine Keeps.drew ?_ | refine Keeps.drewN ?_ _ | refine Keeps.alloc ?_ _ | exact Keeps.of_nil (by assumption) | refine Keeps.trans ?_ (Keeps.of_nil (by assumption)) | refine Keeps.setCell ?_ (.inr (by first | exact Nat.le_refl _ | (dsimp only; omega))) _ | refine Keeps.setCell ?_ (.inl (by first | (unfold Old; dsimp only; omega) | (unfold Old; simp; omega) | (unfold Old; simp))) _)))
      · exact R18.rbegun_of HM0.out (Nat.le_refl _) H5.out H6.out.1 (by have := H6.out.2; simp at this; omega) (show Keeps Nil w3 w4 from (by repeat (first | exact Keeps.refl _ _ | assumption | refine Keeps.drew ?_ | refine Keeps.drewN ?_ _ | refine Keeps.alloc ?_ _ | exact Keeps.of_nil (by assumption) | refine Keeps.trans ?_ (Keeps.of_nil (by assumption)) | refine Keeps.setCell ?_ (.inr (by first | exact Nat.le_refl _ | (dsimp only; omega))) _ | refine Keeps.setCell ?_ (.inl (by first | (unfold Old; dsimp only; omega) | (unfold Old; simp; omega) | (unfold Old; simp))) _))) (Keeps.triple _ _ _) (.inr (Nat.le_refl _)) (by have := H6.out.2; simp at this; omega) (by omega) ((RowIs.alloc (w := w3) (xs := [.int .i64 0, .slice none 0 0, .slice none 0 0])).keep hk4 id).triple (show Keeps Nil w0 w3 from (by repeat (first | exact Keeps.refl _ _ | assumption | refine Keeps.drew ?_ | refine Keeps.drewN ?_ _ | refine Keeps.alloc ?_ _ | exact Keeps.of_nil (by assumption) | refine Keeps.trans ?_ (Keeps.of_nil (by assumption)) | refine Keeps.setCell ?_ (.inr (by first | exact Nat.le_refl _ | (dsimp only; omega))) _ | refine Keeps.setCell ?_ (.inl (by first | (unfold Old; dsimp only; omega) | (unfold Old; simp; omega) | (unfold Old; simp))) _)))
      · exact R18.rbegun_of HM0.out (by simp [World.drew]) H5.out H6.out.1 H6.out.2 hk4 (Keeps.triple _ _ _) (.inl (by simp [World.drew])) (by have := H6.out.2; omega) (Nat.le_refl _) ((((RowIs.alloc (w := w0) (xs := [.int .i64 0, .slice none 0 0, .slice none 0 0])).keep (M := Nil) (Keeps.drew (Keeps.refl _ _)) id).keep hk3 id).keep hk4 id).triple (show Keeps Nil w0 w3 from (by repeat (first | exact Keeps.refl _ _ | assumption | refine Keeps.drew ?_ | refine Keeps.drewN ?_ _ | refine Keeps.alloc ?_ _ | exact Keeps.of_nil (by assumption) | refine Keeps.trans ?_ (Keeps.of_nil (by assumption)) | refine Keeps.setCell ?_ (.inr (by first | exact Nat.le_refl _ | (dsimp only; omega))) _ | refine Keeps.setCell ?_ (.inl (by first | (unfold Old; dsimp only; omega) | (unfold Old; simp; omega) | (unfold Old; simp))) _)))
    case rest =>
      rename World => wc
      obtain ⟨po, gr, a5, c5, rfl, hbox, hrow, hBr, hgr0, hpo0, hk9⟩ := hcut
      have hbo := hbox.lt
      have hro := hrow.lt
      have hTM : ∀ b, b < w0.heap.size → Turn (With M (w.heap.size + 1 + 1)) po (.slice none 0 0) (.slice (some ⟨gr, 0, none⟩) 1 1) b → With M (w.heap.size + 1 + 1) b := fun b hb hm => by
        rcases hm with hm | hm | hm | hm
        · exact hm
        · omega
        · simp [Value.ownBlock] at hm
        · simp [Value.ownBlock] at hm; omega
      have hTB : MB (Turn (With M (w.heap.size + 1 + 1)) po (.slice none 0 0) (.slice (some ⟨gr, 0, none⟩) 1 1)) wc := fun b hm => by
        rcases hm with hm | hm | hm | hm
        · have := HM0.out b hm; have := hk9.size; omega
        · omega
        · simp [Value.ownBlock] at hm
        · simp [Value.ownBlock] at hm; omega
      have HC := Lib.hid (And.intro hTB (And.intro (HS0.out.1.1.move hk9 (fun _ _ h => h.elim) hTM) (HS0.out.2.1.move hk9 (fun _ _ h => h.elim) hTM)))
      have HW := Lib.hid (And.intro hbox (And.intro hrow (And.intro hBr (And.intro hgr0 (And.intro hpo0 hk9)))))
      have b1 := Nat.lt_of_lt_of_le l0.lt hk9.size
      have b2 := Nat.lt_of_lt_of_le l1.lt hk9.size
      have y1 := hk9.cellE l0.lt id d1
      have y2 := hk9.cellE l1.lt id e1
      clear hbox hrow hBr hgr0 hpo0 hk9 hTM hTB hbo hro x0 x1 d0 d1 d2 e0 e1 e2 f0 f1 f2 g0 g1 g2
      go_wp2_with (go_at_call 42; refine (refcuts_any HC.out.1 HC.out.2.1 HC.out.2.2 HF.out.1.ok.sorted HF.out.2.ok.sorted HF.out.1.fit4 HF.out.2.fit4 (by have := HC.out.2.1.len; have := HF.out.1.few; omega) (by have := HC.out.2.2.len; have := HF.out.2.few; omega)).mono ?_; rintro e w5 ⟨la', lc', rfl, hzl, hk5⟩; have H5 := Lib.hid (And.intro hzl hk5); clear hzl hk5)
      have HH := Lib.hid (R18.half_start (base := w0.heap.size) (Bools.keepNil HW.out.2.2.1 H5.out.2) (HW.out.1.keep H5.out.2 id) (HW.out.2.1.keep H5.out.2 id) HW.out.2.2.2.1 H5.out.1)
      have HK5 := Lib.hid (HW.out.2.2.2.2.2.trans H5.out.2)
      obtain ⟨zs, hzs⟩ : ∃ zs, zs = mergeC S.cuts O.cuts := ⟨_, rfl⟩
      have hn : zs.length ≤ 2000 := by
        have := length_mergeC S.cuts O.cuts
        rw [← hzs] at this
        have := HF.out.1.few
        have := HF.out.2.few
        omega
      rw [← hzs] at H5 HH ⊢
      have HZS := Lib.hid hzs
      obtain ⟨capz, lez⟩ := And.intro H5.out.1.cap H5.out.1.le
      clear hzs y1 y2 b1 b2
      go_loopw [11] (fun i wr => ∃ (k : Nat) (vc vr : Value) (eC eR : List (List Value)) (out : List Int × List (List Bool)), k ≤ zs.length ∧ i = .int .i64 k ∧ R18.Half (With M (w.heap.size + 1 + 1)) w0.heap.size po q wr vc vr eC eR out la' zs.length lc' zs ∧ out = (zs.take k).foldl (pushRow (rowsAt (refF m) q S O)) ([], [both (refF m) q (S.rows.getD 0 []) (O.rows.getD 0 [])]) ∧ (∀ r ∈ out.2, r.length = q) ∧ (1 ≤ out.2.length ∧ out.2.length ≤ k + 1 ∧ out.1.length ≤ k) ∧ Keeps Nil w0 wr) (fun i _ => zs.length - (intOf i).toNat)
      case atStart => exact ⟨0, _, _, _, _, _, Nat.zero_le _, rfl, HH.out, rfl, fun r hr => by rw [List.mem_singleton.1 hr]; exact length_both _ _ _ _, ⟨Nat.le_refl _, Nat.le_refl _, Nat.le_refl _⟩, HK5.out⟩
      case round =>
        clear HH
        obtain ⟨k, vc, vr, eC, eR, out, hk, rfl, hH, hout, hrl, hol, hkk⟩ := hrel
        by_cases hlt : k < zs.length
        · obtain ⟨z, hz⟩ : ∃ z, z = zth zs k := ⟨_, rfl⟩
          obtain ⟨b, off, s, a6, n6, c6, rfl, hb4, _, x0, x1, hzn⟩ := hH.list.at hlt
          have hfit : nlen z.natAbs * 4 + 4 ≤ 140737488355328 := by
            have hm : z ∈ mergeC S.cuts O.cuts := by rw [← HZS.out, hz, zth_lt hlt]; exact List.getElem_mem _
            rw [mem_mergeC] at hm
            rcases hm with hm | hm
            · exact HF.out.1.fit4 _ hm
            · exact HF.out.2.fit4 _ hm
          rw [← hz] at hzn
          have HZ := Lib.hid (And.intro (hzn.zat hfit) hzn)
          have HZE := Lib.hid hz
          obtain ⟨k1, hk1⟩ : ∃ k1, k1 = place S.cuts z := ⟨_, rfl⟩
          obtain ⟨k2, hk2⟩ : ∃ k2, k2 = place O.cuts z := ⟨_, rfl⟩
          have HPL := Lib.hid (And.intro hk1 hk2)
          obtain ⟨j1, rb', ro', a7, c7, hae, hb1, x2, hB1⟩ := HS0.out.1.row HF.out.1 (place_le S.cuts z)
          obtain ⟨j2, rb2', ro2', a8, c8, hae2, hb2, x3, hB2⟩ := HS0.out.2.row HF.out.2 (place_le O.cuts z)
          cases hae
          cases hae2
          rw [← hk1] at j1 x2 hB1
          rw [← hk2] at j2 x3 hB2
          have HRW := Lib.hid (And.intro (Bools.keepNil hB1 hkk) (Bools.keepNil hB2 hkk))
          have y2 := hkk.cellE hb1 id x2
          have y3 := hkk.cellE hb2 id x3
          obtain ⟨d0, d1, d2⟩ := (HB.out.1.keep hkk id).three
          obtain ⟨e0, e1, e2⟩ := (HB.out.2.1.keep hkk id).three
          have l0' := hkk.live.2.2 _ l0
          have l1' := hkk.live.2.2 _ l1
          have l2' := hkk.live.2.2 _ l2
          have l3' := hkk.live.2.2 _ l3
          have l4' := Live.of hb4
          have HSW := Lib.hid (And.intro (HS0.out.1.keepNil hkk) (HS0.out.2.keepNil hkk))
          have HHf := Lib.hid (And.intro hH (And.intro hout (And.intro hrl (And.intro hol hkk))))
          have i3 : (0 : Int) ≤ (k : Int) := by omega
          have i4 : (k : Int) < (zs.length : Int) := by omega
          have i5 : (0 : Int) ≤ (k1 : Int) := by omega
          have i6 : (k1 : Int) < (nr : Int) := by omega
          have i7 : (0 : Int) ≤ (k2 : Int) := by omega
          have i8 : (k2 : Int) < (nr2 : Int) := by omega
          clear hH hout hrl hol hkk hzn hz hfit hk1 hk2 hB1 hB2 x2 x3 hb4 hb1 hb2
          go_upto_region 9 with (fail)
          go_wp2_with fail
          go_region_held3 (fun w' => w'.cell? ⟨w.heap.size, 0, none⟩ = some (.int .i64 S.P) ∧ w'.cell? ⟨w.heap.size, 1, none⟩ = some (.slice ac nc cc) ∧ w'.cell? ⟨w.heap.size, 2, none⟩ = some (.slice (some ⟨rb, ro, none⟩) nr cr) ∧ w'.cell? ⟨w.heap.size + 1, 0, none⟩ = some (.int .i64 O.P) ∧ w'.cell? ⟨w.heap.size + 1, 1, none⟩ = some (.slice ac2 nc2 cc2) ∧ w'.cell? ⟨w.heap.size + 1, 2, none⟩ = some (.slice (some ⟨rb2, ro2, none⟩) nr2 cr2) ∧ w'.cell? ⟨rb, ro + k1, none⟩ = some (.slice a7 S.P c7) ∧ w'.cell? ⟨rb2, ro2 + k2, none⟩ = some (.slice a8 O.P c8) ∧ w'.cell? ⟨b, off + k * 2, none⟩ = some (.bool s) ∧ w'.cell? ⟨b, off + k * 2 + 1, none⟩ = some (.slice a6 n6 c6)) (go_keep) (first
            | (go_at_call_of 46 (Value.agg #[.int .i64 (S.P : Int), .slice ac nc cc, .slice (some ⟨rb, ro, none⟩) nr cr]); refine (refplace_any (i := (S.P : Int)) (HZ.out.1.keepNil (by repeat (first | exact Keeps.refl _ _ | assumption | refine Keeps.drew ?_ | refine Keeps.drewN ?_ _ | refine Keeps.alloc ?_ _ | exact Keeps.of_nil (by assumption) | refine Keeps.trans ?_ (Keeps.of_nil (by assumption)) | refine Keeps.setCell ?_ (.inr (by first | exact Nat.le_refl _ | (dsimp only; omega))) _ | refine Keeps.setCell ?_ (.inl (by first | (unfold Old; dsimp only; omega) | (unfold Old; simp; omega) | (unfold Old; simp))) _))) (HSW.out.1.keepNil (by repeat (first | exact Keeps.refl _ _ | assumption | refine Keeps.drew ?_ | refine Keeps.drewN ?_ _ | refine Keeps.alloc ?_ _ | exact Keeps.of_nil (by assumption) | refine Keeps.trans ?_ (Keeps.of_nil (by assumption)) | refine Keeps.setCell ?_ (.inr (by first | exact Nat.le_refl _ | (dsimp only; omega))) _ | refine Keeps.setCell ?_ (.inl (by first | (unfold Old; dsimp only; omega) | (unfold Old; simp; omega) | (unfold Old; simp))) _))) HF.out.1).mono ?_; rintro e w6 ⟨rfl, hk6⟩; obtain ⟨rc6, rf6, ra6⟩ := hk6.live; rw [← HPL.out.1]; have m0 := (show Keeps Nil wr w6 from (by repeat (first | exact Keeps.refl _ _ | assumption | refine Keeps.drew ?_ | refine Keeps.drewN ?_ _ | refine Keeps.alloc ?_ _ | exact Keeps.of_nil (by assumption) | refine Keeps.trans ?_ (Keeps.of_nil (by assumption)) | refine Keeps.setCell ?_ (.inr (by first | exact Nat.le_refl _ | (dsimp only; omega))) _ | refine Keeps.setCell ?_ (.inl (by first | (unfold Old; dsimp only; omega) | (unfold Old; simp; omega) | (unfold Old; simp))) _))).live.2.2 _ l0'; have m1 := (show Keeps Nil wr w6 from (by repeat (first | exact Keeps.refl _ _ | assumption | refine Keeps.drew ?_ | refine Keeps.drewN ?_ _ | refine Keeps.alloc ?_ _ | exact Keeps.of_nil (by assumption) | refine Keeps.trans ?_ (Keeps.of_nil (by assumption)) | refine Keeps.setCell ?_ (.inr (by first | exact Nat.le_refl _ | (dsimp only; omega))) _ | refine Keeps.setCell ?_ (.inl (by first | (unfold Old; dsimp only; omega) | (unfold Old; simp; omega) | (unfold Old; simp))) _))).live.2.2 _ l1'; have m2 := (show Keeps Nil wr w6 from (by repeat (first | exact Keeps.refl _ _ | assumption | refine Keeps.drew ?_ | refine Keeps.drewN ?_ _ | refine Keeps.alloc ?_ _ | exact Keeps.of_nil (by assumption) | refine Keeps.trans ?_ (Keeps.of_nil (by assumption)) | refine Keeps.setCell ?_ (.inr (by first | exact Nat.le_refl _ | (dsimp only; omega))) _ | refine Keeps.setCell ?_ (.inl (by first | (unfold Old; dsimp only; omega) | (unfold Old; simp; omega) | (unfold Old; simp))) _))).live.2.2 _ l2'; have m3 := (show Keeps Nil wr w6 from (by repeat (first | exact Keeps.refl _ _ | assumption | refine Keeps.drew ?_ | refine Keeps.drewN ?_ _ | refine Keeps.alloc ?_ _ | exact Keeps.of_nil (by assumption) | refine Keeps.trans ?_ (Keeps.of_nil (by assumption)) | refine Keeps.setCell ?_ (.inr (by first | exact Nat.le_refl _ | (dsimp only; omega))) _ | refine Keeps.setCell ?_ (.inl (by first | (unfold Old; dsimp only; omega) | (unfold Old; simp; omega) | (unfold Old; simp))) _))).live.2.2 _ l3'; have m4 := (show Keeps Nil wr w6 from (by repeat (first | exact Keeps.refl _ _ | assumption | refine Keeps.drew ?_ | refine Keeps.drewN ?_ _ | refine Keeps.alloc ?_ _ | exact Keeps.of_nil (by assumption) | refine Keeps.trans ?_ (Keeps.of_nil (by assumption)) | refine Keeps.setCell ?_ (.inr (by first | exact Nat.le_refl _ | (dsimp only; omega))) _ | refine Keeps.setCell ?_ (.inl (by first | (unfold Old; dsimp only; omega) | (unfold Old; simp; omega) | (unfold Old; simp))) _))).live.2.2 _ l4')
            | (go_at_call_of 46 (Value.agg #[.int .i64 (O.P : Int), .slice ac2 nc2 cc2, .slice (some ⟨rb2, ro2, none⟩) nr2 cr2]); refine (refplace_any (i := (O.P : Int)) (HZ.out.1.keepNil (by repeat (first | exact Keeps.refl _ _ | assumption | refine Keeps.drew ?_ | refine Keeps.drewN ?_ _ | refine Keeps.alloc ?_ _ | exact Keeps.of_nil (by assumption) | refine Keeps.trans ?_ (Keeps.of_nil (by assumption)) | refine Keeps.setCell ?_ (.inr (by first | exact Nat.le_refl _ | (dsimp only; omega))) _ | refine Keeps.setCell ?_ (.inl (by first | (unfold Old; dsimp only; omega) | (unfold Old; simp; omega) | (unfold Old; simp))) _))) (HSW.out.2.keepNil (by repeat (first | exact Keeps.refl _ _ | assumption | refine Keeps.drew ?_ | refine Keeps.drewN ?_ _ | refine Keeps.alloc ?_ _ | exact Keeps.of_nil (by assumption) | refine Keeps.trans ?_ (Keeps.of_nil (by assumption)) | refine Keeps.setCell ?_ (.inr (by first | exact Nat.le_refl _ | (dsimp only; omega))) _ | refine Keeps.setCell ?_ (.inl (by first | (unfold Old; dsimp only; omega) | (unfold Old; simp; omega) | (unfold Old; simp))) _))) HF.out.2).mono ?_; rintro e w7 ⟨rfl, hk7⟩; obtain ⟨rc7, rf7, ra7⟩ := hk7.live; obtain ⟨rc67, rf67, ra67⟩ := (hk6.trans (show Keeps Nil w6 w7 from (by repeat (first | exact Keeps.refl _ _ | assumption | refine Keeps.drew ?_ | refine Keeps.drewN ?_ _ | refine Keeps.alloc ?_ _ | exact Keeps.of_nil (by assumption) | refine Keeps.trans ?_ (Keeps.of_nil (by assumption)) | refine Keeps.setCell ?_ (.inr (by first | exact Nat.le_refl _ | (dsimp only; omega))) _ | refine Keeps.setCell ?_ (.inl (by first | (unfold Old; dsimp only; omega) | (unfold Old; simp; omega) | (unfold Old; simp))) _)))).live; rw [← HPL.out.2]; have p0 := (show Keeps Nil w6 w7 from (by repeat (first | exact Keeps.refl _ _ | assumption | refine Keeps.drew ?_ | refine Keeps.drewN ?_ _ | refine Keeps.alloc ?_ _ | exact Keeps.of_nil (by assumption) | refine Keeps.trans ?_ (Keeps.of_nil (by assumption)) | refine Keeps.setCell ?_ (.inr (by first | exact Nat.le_refl _ | (dsimp only; omega))) _ | refine Keeps.setCell ?_ (.inl (by first | (unfold Old; dsimp only; omega) | (unfold Old; simp; omega) | (unfold Old; simp))) _))).live.2.2 _ m0; have p1 := (show Keeps Nil w6 w7 from (by repeat (first | exact Keeps.refl _ _ | assumption | refine Keeps.drew ?_ | refine Keeps.drewN ?_ _ | refine Keeps.alloc ?_ _ | exact Keeps.of_nil (by assumption) | refine Keeps.trans ?_ (Keeps.of_nil (by assumption)) | refine Keeps.setCell ?_ (.inr (by first | exact Nat.le_refl _ | (dsimp only; omega))) _ | refine Keeps.setCell ?_ (.inl (by first | (unfold Old; dsimp only; omega) | (unfold Old; simp; omega) | (unfold Old; simp))) _))).live.2.2 _ m1; have p2 := (show Keeps Nil w6 w7 from (by repeat (first | exact Keeps.refl _ _ | assumption | refine Keeps.drew ?_ | refine Keeps.drewN ?_ _ | refine Keeps.alloc ?_ _ | exact Keeps.of_nil (by assumption) | refine Keeps.trans ?_ (Keeps.of_nil (by assumption)) | refine Keeps.setCell ?_ (.inr (by first | exact Nat.le_refl _ | (dsimp only; omega))) _ | refine Keeps.setCell ?_ (.inl (by first | (unfold Old; dsimp only; omega) | (unfold Old; simp; omega) | (unfold Old; simp))) _))).live.2.2 _ m2; have p3 := (show Keeps Nil w6 w7 from (by repeat (first | exact Keeps.refl _ _ | assumption | refine Keeps.drew ?_ | refine Keeps.drewN ?_ _ | refine Keeps.alloc ?_ _ | exact Keeps.of_nil (by assumption) | refine Keeps.trans ?_ (Keeps.of_nil (by assumption)) | refine Keeps.setCell ?_ (.inr (by first | exact Nat.le_refl _ | (dsimp only; omega))) _ | refine Keeps.setCell ?_ (.inl (by first | (unfold Old; dsimp only; omega) | (unfold Old; simp; omega) | (unfold Old; simp))) _))).live.2.2 _ m3; have p4 := (show Keeps Nil w6 w7 from (by repeat (first | exact Keeps.refl _ _ | assumption | refine Keeps.drew ?_ | refine Keeps.drewN ?_ _ | refine Keeps.alloc ?_ _ | exact Keeps.of_nil (by assumption) | refine Keeps.trans ?_ (Keeps.of_nil (by assumption)) | refine Keeps.setCell ?_ (.inr (by first | exact Nat.le_refl _ | (dsimp only; omega))) _ | refine Keeps.setCell ?_ (.inl (by first | (unfold Old; dsimp only; omega) | (unfold Old; simp; omega) | (unfold Old; simp))) _))).live.2.2 _ m4)
            | (go_at_call 98; refine (refboth_any (M := Old _) (MB.old _) (Bools.keepNil (HRW.out.1.move (M2 := Nil) (Keeps.refl Nil _) (fun _ _ h => h.elim) fun _ _ h => h.elim) (by repeat (first | exact Keeps.refl _ _ | assumption | refine Keeps.drew ?_ | refine Keeps.drewN ?_ _ | refine Keeps.alloc ?_ _ | exact Keeps.of_nil (by assumption) | refine Keeps.trans ?_ (Keeps.of_nil (by assumption)) | refine Keeps.setCell ?_ (.inr (by first | exact Nat.le_refl _ | (dsimp only; omega))) _ | refine Keeps.setCell ?_ (.inl (by first | (unfold Old; dsimp only; omega) | (unfold Old; simp; omega) | (unfold Old; simp))) _))) (Bools.keepNil (HRW.out.2.move (M2 := Nil) (Keeps.refl Nil _) (fun _ _ h => h.elim) fun _ _ h => h.elim) (by repeat (first | exact Keeps.refl _ _ | assumption | refine Keeps.drew ?_ | refine Keeps.drewN ?_ _ | refine Keeps.alloc ?_ _ | exact Keeps.of_nil (by assumption) | refine Keeps.trans ?_ (Keeps.of_nil (by assumption)) | refine Keeps.setCell ?_ (.inr (by first | exact Nat.le_refl _ | (dsimp only; omega))) _ | refine Keeps.setCell ?_ (.inl (by first | (unfold Old; dsimp only; omega) | (unfold Old; simp; omega) | (unfold Old; simp))) _))) hP hQ (by omega)).mono ?_; rintro e w8 ⟨a9, c9, rfl, h9, hk8⟩; obtain ⟨rc8, rf8, ra8⟩ := hk8.live; obtain ⟨rc78, rf78, ra78⟩ := ((show Keeps Nil wr w7 from (by repeat (first | exact Keeps.refl _ _ | assumption | refine Keeps.drew ?_ | refine Keeps.drewN ?_ _ | refine Keeps.alloc ?_ _ | exact Keeps.of_nil (by assumption) | refine Keeps.trans ?_ (Keeps.of_nil (by assumption)) | refine Keeps.setCell ?_ (.inr (by first | exact Nat.le_refl _ | (dsimp only; omega))) _ | refine Keeps.setCell ?_ (.inl (by first | (unfold Old; dsimp only; omega) | (unfold Old; simp; omega) | (unfold Old; simp))) _))).trans (show Keeps Nil w7 w8 from (by repeat (first | exact Keeps.refl _ _ | assumption | refine Keeps.drew ?_ | refine Keeps.drewN ?_ _ | refine Keeps.alloc ?_ _ | exact Keeps.of_nil (by assumption) | refine Keeps.trans ?_ (Keeps.of_nil (by assumption)) | refine Keeps.setCell ?_ (.inr (by first | exact Nat.le_refl _ | (dsimp only; omega))) _ | refine Keeps.setCell ?_ (.inl (by first | (unfold Old; dsimp only; omega) | (unfold Old; simp; omega) | (unfold Old; simp))) _)))).live; have H9 := Lib.hid (And.intro h9 (show Keeps Nil wr w8 from (by repeat (first | exact Keeps.refl _ _ | assumption | refine Keeps.drew ?_ | refine Keeps.drewN ?_ _ | refine Keeps.alloc ?_ _ | exact Keeps.of_nil (by assumption) | refine Keeps.trans ?_ (Keeps.of_nil (by assumption)) | refine Keeps.setCell ?_ (.inr (by first | exact Nat.le_refl _ | (dsimp only; omega))) _ | refine Keeps.setCell ?_ (.inl (by first | (unfold Old; dsimp only; omega) | (unfold Old; simp; omega) | (unfold Old; simp))) _)))); clear h9))
          obtain ⟨r, hr⟩ : ∃ r, r = both (refF m) q (S.rows.getD k1 []) (O.rows.getD k2 []) := ⟨_, rfl⟩
          have hrq : r.length = q := by rw [hr]; exact length_both _ _ _ _
          have h9 := H9.out.1
          rw [← hr] at h9
          have hRT : RBools (Turn (With M (w.heap.size + 1 + 1)) po vc vr) w8 [.slice a9 q c9] r := ⟨_, _, _, rfl, h9.move (Keeps.refl Nil _) (fun _ _ h => h.elim) fun b' _ hm => Nat.lt_of_lt_of_le (HHf.out.1.mb (HM6.out.keep HHf.out.2.2.2.2) b' hm) (show Keeps Nil wr w7 from (by repeat (first | exact Keeps.refl _ _ | assumption | refine Keeps.drew ?_ | refine Keeps.drewN ?_ _ | refine Keeps.alloc ?_ _ | exact Keeps.of_nil (by assumption) | refine Keeps.trans ?_ (Keeps.of_nil (by assumption)) | refine Keeps.setCell ?_ (.inr (by first | exact Nat.le_refl _ | (dsimp only; omega))) _ | refine Keeps.setCell ?_ (.inl (by first | (unfold Old; dsimp only; omega) | (unfold Old; simp; omega) | (unfold Old; simp))) _))).size⟩
          have hzT := HZ.out.2.keepNil H9.out.2
          have hrr : rowsAt (refF m) q S O z = r := by rw [hr, HPL.out.1, HPL.out.2]; rfl
          have hH2 := HHf.out.1.keepNil H9.out.2
          obtain ⟨gl, cap, la2, ln2, lc2, hvr, hcap1, hcap2, xl, hlb, hB⟩ := hH2.last HHf.out.2.2.2.1.1
          subst hvr
          obtain ⟨mm, hm⟩ : ∃ mm, eR.length = mm + 1 := ⟨eR.length - 1, by have := hH2.lR; have := HHf.out.2.2.2.1.1; omega⟩
          have hm2 : out.2.length = mm + 1 := by rw [hH2.lR, hm]
          have hmk : mm ≤ 2000 := by have := HHf.out.2.2.2.1.2.1; omega
          obtain ⟨z0, z1, z2⟩ := hH2.box.three
          have t0 := hH2.box.frozen 0
          have t1 := hH2.box.frozen 1
          have t2 := hH2.box.frozen 2
          rw [hm] at z2 xl hcap1
          rw [show mm + 1 - 1 = mm by omega] at xl
          rw [hm2, show mm + 1 - 1 = mm by omega] at hB
          have hlq : (out.2.getD mm []).length = q := by
            refine HHf.out.2.2.1 _ ?_
            simp [List.getD, List.getElem?_eq_getElem (show mm < out.2.length by omega)]
          have hln : q = ln2 := by rw [← hlq]; exact hB.1
          subst hln
          have lpo := Live.of hH2.box.lt
          have lgl := Live.of hlb
          obtain ⟨L, hL⟩ : ∃ L, L = out.2.getD mm [] := ⟨_, rfl⟩
          rw [← hL] at hB
          have heC : eC.length ≤ 2000 := by have := hH2.lC; have := HHf.out.2.2.2.1.2.2; omega
          have HE := Lib.hid (And.intro hH2 (And.intro hB (And.intro h9 (And.intro hm (And.intro hm2 (And.intro hRT hzT))))))
          have HPR : Hid (zs.take (k + 1) = zs.take k ++ [z] ∧ pushRow (rowsAt (refF m) q S O) out z = if r = L then out else (out.1 ++ [z], out.2 ++ [r])) := Lib.hid ⟨by rw [HZE.out]; exact take_zth hlt, by
            unfold pushRow
            rw [hrr, hm2, hL]; rfl⟩
          have HQR := Lib.hid hrq
          have HKW := Lib.hid (HHf.out.2.2.2.2.trans H9.out.2)
          have z3 := H9.out.2.cellE l4'.lt id x0
          have z4 := H9.out.2.cellE l4'.lt id x1
          have l4w := H9.out.2.live.2.2 _ l4'
          have j1 : IntKind.i64.wrap (mm : Int) = (mm : Int) := IntWalk.i64_in _ (by omega)
          have j2 : IntKind.i64.wrap ((mm : Int) + 1 - 1) = (mm : Int) := by rw [show (mm : Int) + 1 - 1 = (mm : Int) by omega]; exact j1
          have j3 : IntKind.i64.wrap (((mm + 1 : Nat) : Int) - 1) = (mm : Int) := by rw [show ((mm + 1 : Nat) : Int) - 1 = (mm : Int) by omega]; exact j1
          have j6 : (mm : Int) < (mm : Int) + 1 := by omega
          have j4 : (0 : Int) ≤ (mm : Int) := by omega
          have j5 : (mm : Int) < ((mm + 1 : Nat) : Int) := by omega
          clear hr hrq h9 hRT hzT hrr hH2 hB hm hm2 hlb hlq hL hk6 hk7 hk8 rc6 rf6 ra6 rc7 rf7 ra7 rc8 rf8 ra8 rc67 rf67 ra67 rc78 rf78 ra78 m0 m1 m2 m3 m4 p0 p1 p2 p3 p4 y2 y3 x0 x1 d0 d1 d2 e0 e1 e2 l0' l1' l2' l3' l4'
          by_cases heq : r = L
          · have HQ := Lib.hid (decide_eq_true heq)
            have HQ2 := Lib.hid heq
            clear heq
            go_wp2_with (go_at_call 99; refine (refsame_any HE.out.2.2.1 HE.out.2.1 rfl).mono ?_; rintro e w9 ⟨rfl, hk9⟩; rw [HQ.out]; have H10 := Lib.hid hk9; clear hk9)
            go_roundw
            case rel => exact ⟨k + 1, _, _, _, _, out, by omega, by go_num, HE.out.1.keepNil H10.out, by rw [HPR.out.1, List.foldl_append, ← HHf.out.2.1, List.foldl_cons, List.foldl_nil, HPR.out.2, if_pos HQ2.out], HHf.out.2.2.1, ⟨HHf.out.2.2.2.1.1, by have := HHf.out.2.2.2.1.2.1; omega, by have := HHf.out.2.2.2.1.2.2; omega⟩, HKW.out.trans H10.out⟩
            case measure => simp [intOf]; omega
          · have HQ := Lib.hid (decide_eq_false heq)
            have HQ2 := Lib.hid heq
            clear heq
            go_upto_region 12 with (go_at_call 99; refine (refsame_any HE.out.2.2.1 HE.out.2.1 rfl).mono ?_; rintro e w9 ⟨rfl, hk9⟩; rw [HQ.out]; have H10 := Lib.hid hk9; clear hk9)
            have hH3 := HE.out.1.keepNil H10.out
            have hbx := hH3.box
            have lbx := hbx.lt
            have z0' := H10.out.cellE lpo.lt id z0
            have z1' := H10.out.cellE lpo.lt id z1
            have z2' := H10.out.cellE lpo.lt id z2
            have z3' := H10.out.cellE l4w.lt id z3
            have z4' := H10.out.cellE l4w.lt id z4
            have l4v := Nat.lt_of_lt_of_le l4w.lt H10.out.size
            have hsz9 := (HKW.out.trans H10.out).size
            have H11 := Lib.hid (And.intro hH3 (And.intro (HE.out.2.2.2.2.2.1.move H10.out (fun _ _ h => h.elim) fun _ _ h => h) (HE.out.2.2.2.2.2.2.keepNil H10.out)))
            clear hH3 hbx z0 z1 z2 z3 z4 t0 t1 t2
            go_wp2_with fail
            refine wp_region_till (Keeps Nil w9) [7, 8, 9] (by kernel_rfl) ?_
            have hS : Keeps Nil w9 (World.drew w9) := (by repeat (first | exact Keeps.refl _ _ | refine Keeps.drew ?_ | refine Keeps.drewN ?_ _ | refine Keeps.alloc ?_ _))
            refine wpTill_take (i := 0) (v := ?v1) rfl (by kernel_rfl) (fun _ _ _ h => h) (Or.inl ⟨by rfl, ?y1⟩) hS ?r1
            case y1 => (intro w' hSw; obtain ⟨hrc, hrf⟩ := hSw.rules; clear hSw;  go_simp; (try with_reducible rfl))
            try simp only [Act.put, List.setIfInBounds_toArray, List.set_cons_zero, List.set_cons_succ]
            refine wpTill_take (i := 1) (v := ?v2) rfl (by kernel_rfl) (fun _ _ _ h => h) (Or.inl ⟨by rfl, ?y2⟩) hS ?r2
            case y2 => (intro w' hSw; obtain ⟨hrc, hrf⟩ := hSw.rules; clear hSw;  go_simp; (try with_reducible rfl))
            try simp only [Act.put, List.setIfInBounds_toArray, List.set_cons_zero, List.set_cons_succ]
            refine wpTill_take (i := 2) (v := ?v3) rfl (by kernel_rfl) (fun _ _ _ h => h) (Or.inl ⟨by rfl, ?y3⟩) hS ?r3
            case y3 => (intro w' hSw; obtain ⟨hrc, hrf⟩ := hSw.rules; clear hSw;  go_simp; (try with_reducible rfl))
            try simp only [Act.put, List.setIfInBounds_toArray, List.set_cons_zero, List.set_cons_succ]
            refine wpTill_take (i := 3) (v := ?v4) rfl (by kernel_rfl) (fun _ _ _ h => h) (Or.inl ⟨by rfl, ?y4⟩) hS ?r4
            case y4 => (intro w' hSw; obtain ⟨hrc, hrf⟩ := hSw.rules; clear hSw;  go_simp; (try with_reducible rfl))
            try simp only [Act.put, List.setIfInBounds_toArray, List.set_cons_zero, List.set_cons_succ]
            refine wpTill_take (i := 4) (v := ?v5) rfl (by kernel_rfl) (fun _ _ _ h => h) (Or.inl ⟨by rfl, ?y5⟩) hS ?r5
            case y5 => (intro w' hSw; obtain ⟨hrc, hrf⟩ := hSw.rules; clear hSw;  go_simp; (try with_reducible rfl))
            try simp only [Act.put, List.setIfInBounds_toArray, List.set_cons_zero, List.set_cons_succ]
            refine wpTill_take (i := 5) (v := ?v6) rfl (by kernel_rfl) (fun _ _ _ h => h) (Or.inl ⟨by rfl, ?y6⟩) hS ?r6
            case y6 => (intro w' hSw; obtain ⟨hrc, hrf⟩ := hSw.rules; clear hSw;  go_simp; (try with_reducible rfl))
            try simp only [Act.put, List.setIfInBounds_toArray, List.set_cons_zero, List.set_cons_succ]
            refine wpTill_ready (rs := [6]) (by kernel_rfl) (by simp) ?_
            refine AllTill.cons rfl (fun K hK => ?_) AllTill.nil
            go_simp
            refine hK.out _ _ (fun h => h.alloc _) ?_
            clear hK K
            try simp only [Act.put, List.setIfInBounds_toArray, List.set_cons_zero, List.set_cons_succ]
            clear hS
            have r11 : RowIs (w9.alloc (.cells #[.bool s, .slice a6 n6 c6] 38)).drew w9.heap.size 38 [.bool s, .slice a6 n6 c6] := RowIs.alloc
            have k11 : Keeps Nil w9 (w9.alloc (.cells #[.bool s, .slice a6 n6 c6] 38)).drew := (by repeat (first | exact Keeps.refl _ _ | refine Keeps.drew ?_ | refine Keeps.drewN ?_ _ | refine Keeps.alloc ?_ _))
            have z01 := k11.cellE lbx id z0'
            have z11 := k11.cellE lbx id z1'
            have z21 := k11.cellE lbx id z2'
            have HR11 := Lib.hid (And.intro r11 (And.intro k11 (H11.out.1.keepNil k11)))
            clear r11 k11
            generalize (w9.alloc (.cells #[.bool s, .slice a6 n6 c6] 38)).drew = w11 at *
            refine wpTill_ready (rs := [7]) (by kernel_rfl) (by simp) ?_
            refine AllTill.consT rfl (by decide) (fun K hK => ?_) AllTill.nil
            rw [if_pos (by kernel_rfl)]
            refine oper_append_els w11 (.tmp 81) (.tmp 86) 23 rfl w0.heap.size 38 i1 (.agg #[.bool false, .slice none 0 0]) 2 32 Tryz.underlying23 HI.out.1 HI.out.2.1 HI.out.2.2.1 HI.out.2.2.2 rfl (by decide) vc eC rfl HR11.out.2.2.oC ⟨w9.heap.size, 0, none⟩ 1 1 [[.bool s, .slice a6 n6 c6]] rfl rfl (by simp) (row_news HR11.out.1) (by simp [Value.oneCell']) (by omega) (by omega) (by have := HR11.out.2.1.size; omega) ?_
            intro v' w12 ho hk12 hf12
            refine hK.out _ _ ?_
            clear hK K
            try simp only [Act.put, List.setIfInBounds_toArray, List.set_cons_zero, List.set_cons_succ]
            obtain ⟨a10, c10, rfl⟩ := ho.isSlice
            rw [show (eC ++ [[Value.bool s, .slice a6 n6 c6]]).length = eC.length + 1 by simp] at ho hf12 ⊢
            have hnb : ¬ vc.ownBlock = some po := fun e => HR11.out.2.2.oC.ty HR11.out.2.2.box (by decide) e
            have hvcr := HR11.out.2.2.oC.ty2 HR11.out.2.2.oR (by decide)
            have b12 := HR11.out.2.2.box.keep hk12 hnb
            obtain ⟨z02, z12, z22⟩ := b12.three
            have t02 := b12.frozen 0
            have t12 := b12.frozen 1
            have t22 := b12.frozen 2
            have oR12 := HR11.out.2.2.oR.keep hk12 (fun b' hb' hm => hvcr b' hm hb')
            have H12 := Lib.hid (And.intro ho (And.intro hk12 (And.intro hf12 (And.intro b12 oR12))))
            clear ho hk12 hf12 b12 oR12 hnb hvcr z01 z11 z21 z0' z1' z2' z3' z4'
            refine wpTill_ready (rs := [8]) (by kernel_rfl) (by simp) ?_
            refine AllTill.consT rfl (by decide) (fun K hK => ?_) AllTill.nil
            go_simp
            refine hK.out _ _ ?_
            clear hK K
            try simp only [Act.put, List.setIfInBounds_toArray, List.set_cons_zero, List.set_cons_succ]
            refine wpTill_ready (rs := [9]) (by kernel_rfl) (by simp) ?_
            refine AllTill.consT rfl (by decide) (fun K hK => ?_) AllTill.nil
            go_simp
            refine hK.out _ _ ?_
            clear hK K
            try simp only [Act.put, List.setIfInBounds_toArray, List.set_cons_zero, List.set_cons_succ]
            refine wpTill_done (by kernel_rfl) ?_ _
            skip
            have k13 : Keeps (One po) w12 (w12.setCell ⟨po, 1, none⟩ (.slice a10 (eC.length + 1) c10)) := (Keeps.refl (One po) w12).set1 1 _
            have b13 := H12.out.2.2.2.1.set 1 (.slice a10 (eC.length + 1) c10)
            have oC13 := H12.out.1.keep k13 fun b' hb' hm => H12.out.1.ty H12.out.2.2.2.1 (by decide) (by rw [hb']; exact congrArg some hm)
            have oR13 := H12.out.2.2.2.2.keep k13 fun b' hb' hm => H12.out.2.2.2.2.ty H12.out.2.2.2.1 (by decide) (by rw [hb']; exact congrArg some hm)
            change RowIs _ po _ [.int .i64 (q : Int), .slice a10 (eC.length + 1) c10, .slice (some ⟨gl, 0, none⟩) eR.length cap] at b13
            clear z02 z12 z22 t02 t12 t22
            generalize w12.setCell ⟨po, 1, none⟩ (.slice a10 (eC.length + 1) c10) = w13 at *
            obtain ⟨z0, z1, z2⟩ := b13.three
            have hb13 := b13.lt
            have HA := Lib.hid (And.intro oC13 (And.intro oR13 (And.intro b13 k13)))
            have hs13 : w0.heap.size ≤ w13.heap.size := by have := HR11.out.2.1.size; have := H12.out.2.1.size; have := k13.size; omega
            clear oC13 oR13 b13 k13
            go_wp2_with (at_builtin; refine wpList_append_els _ rfl (.tmp 90) (.tmp 92) 28 rfl w0.heap.size 58 i2 (.slice none 0 0) 1 24 Tryz.underlying28 HI2.out.1 HI2.out.2.1 HI2.out.2.2.1 HI2.out.2.2.2 rfl (by decide) (.slice (some ⟨gl, 0, none⟩) eR.length cap) eR rfl (HA.out.2.1.keepNil (by repeat (first | exact Keeps.refl _ _ | refine Keeps.drew ?_ | refine Keeps.drewN ?_ _ | refine Keeps.alloc ?_ _))) ⟨w13.heap.size, 0, none⟩ 1 1 [[.slice a9 q c9]] rfl rfl (by simp) (alloc_news _ _ _) (by simp [Value.oneCell']) (by have := HE.out.2.2.2.1; omega) (by have := HE.out.2.2.2.1; omega) (by simp; omega) ?_; intro v' w15 ho15 hk15 hf15 _; obtain ⟨a11, c11, rfl⟩ := ho15.isSlice; rw [show (eR ++ [[Value.slice a9 q c9]]).length = eR.length + 1 by simp] at ho15 hf15 ⊢; have b14 := HA.out.2.2.1.keep (M := Nil) (show Keeps Nil w13 (w13.alloc (.cells #[.slice a9 q c9] 58)) from (by repeat (first | exact Keeps.refl _ _ | refine Keeps.drew ?_ | refine Keeps.drewN ?_ _ | refine Keeps.alloc ?_ _))) id; have hnb : ¬ (Value.slice (some ⟨gl, 0, none⟩) eR.length cap).ownBlock = some po := (fun e => HA.out.2.1.ty HA.out.2.2.1 (by decide) e); have b15 := b14.keep hk15 hnb; obtain ⟨z02, z12, z22⟩ := b15.three; have t22 := b15.frozen 2; have oC15 := (HA.out.1.keepNil (show Keeps Nil w13 (w13.alloc (.cells #[.slice a9 q c9] 58)) from (by repeat (first | exact Keeps.refl _ _ | refine Keeps.drew ?_ | refine Keeps.drewN ?_ _ | refine Keeps.alloc ?_ _)))).keep hk15 (fun b' hb' hm => HA.out.1.ty2 HA.out.2.1 (by decide) b' hb' hm); have H15 := Lib.hid (And.intro ho15 (And.intro hk15 (And.intro hf15 (And.intro b15 oC15)))); clear ho15 hk15 hf15 b14 b15 oC15 hnb)
            go_roundw
            case rel =>
              have b16 := H15.out.2.2.2.1.set 2 (.slice a11 (eR.length + 1) c11)
              change RowIs _ po _ [.int .i64 (q : Int), .slice a10 (eC.length + 1) c10, .slice a11 (eR.length + 1) c11] at b16
              have k16 : Keeps (One po) w15 (w15.setCell ⟨po, 2, none⟩ (.slice a11 (eR.length + 1) c11)) := (Keeps.refl (One po) w15).set1 2 _
              have oC16 := H15.out.2.2.2.2.keep k16 fun b' hb' hm => H15.out.2.2.2.2.ty H15.out.2.2.2.1 (by decide) (by rw [hb']; exact congrArg some hm)
              have oR16 := H15.out.1.keep k16 fun b' hb' hm => H15.out.1.ty H15.out.2.2.2.1 (by decide) (by rw [hb']; exact congrArg some hm)
              have kT : Keeps (Turn Nil po vc (.slice (some ⟨gl, 0, none⟩) eR.length cap)) w9 (w15.setCell ⟨po, 2, none⟩ (.slice a11 (eR.length + 1) c11)) :=
                ((((HR11.out.2.1.of_nil.trans (H12.out.2.1.mono fun b' hb' => .inr (.inr (.inl hb')))).trans (HA.out.2.2.2.mono fun b' hb' => .inr (.inl hb'))).transNil (by repeat (first | exact Keeps.refl _ _ | refine Keeps.drew ?_ | refine Keeps.drewN ?_ _ | refine Keeps.alloc ?_ _))).trans (H15.out.2.1.mono fun b' hb' => .inr (.inr (.inr hb')))).trans (k16.mono fun b' hb' => .inr (.inl hb'))
              have hp := H11.out.1.push kT b16 ⟨_, _, _, _, rfl, H11.out.2.2⟩ H11.out.2.1 oC16 oR16 (fun b' hb' => by
                rcases H12.out.2.2.1 b' hb' with h | h
                · exact .inl h
                · have := HR11.out.2.1.size; exact .inr (by omega)) (fun b' hb' => by
                rcases H15.out.2.2.1 b' hb' with h | h
                · exact .inl h
                · have := HR11.out.2.1.size; have := H12.out.2.1.size; have := HA.out.2.2.2.size; simp at h; exact .inr (by omega))
              refine ⟨k + 1, _, _, _, _, (out.1 ++ [z], out.2 ++ [r]), by omega, by go_num, hp, by rw [HPR.out.1, List.foldl_append, ← HHf.out.2.1, List.foldl_cons, List.foldl_nil, HPR.out.2, if_neg HQ2.out], fun r' hr' => ?_, ⟨by simp, by have := HHf.out.2.2.2.1.2.1; simp; omega, by have := HHf.out.2.2.2.1.2.2; simp; omega⟩, (HKW.out.trans H10.out).trans' kT fun b' hb' => ?_⟩
              · rcases List.mem_append.1 hr' with h | h
                · exact HHf.out.2.2.1 r' h
                · rw [List.mem_singleton.1 h]; exact HQR.out
              · rcases hb' with h | h | h | h
                · exact .inl h
                · have := HW.out.2.2.2.2.1; exact .inr (by omega)
                · exact .inr (H11.out.1.oC.lt b' h).1
                · exact .inr (H11.out.1.oR.lt b' h).1
            case measure => simp [intOf]; omega
        · obtain rfl : k = zs.length := by omega
          have i1'' : ¬ (zs.length : Int) < (zs.length : Int) := by omega
          obtain ⟨ac9, nc9, cc9, ar9, nr9, cr9, e1, e2, hsv⟩ := hH.sv HM0.out
          subst e1 e2
          have hbx := hH.box
          obtain ⟨z0, z1, z2⟩ := hbx.three
          have r6 := HB.out.2.2.1.keep hkk id
          obtain ⟨q0, q1, q2⟩ := r6.three
          have t0 := r6.frozen 0
          have t1 := r6.frozen 1
          have t2 := r6.frozen 2
          have HO := Lib.hid (show out = (zs.take zs.length).foldl (pushRow (rowsAt (refF m) q S O)) ([], [both (refF m) q (S.rows.getD 0 []) (O.rows.getD 0 [])]) from hout)
          have HFN := Lib.hid (And.intro hsv (And.intro r6 hkk))
          clear hH hout hsv hbx r6 hkk hrl hol
          go_wp2_with fail
          obtain ⟨y0, y1, y2⟩ := (HFN.out.2.1.triple (u' := .int .i64 (q : Int)) (v' := .slice ac9 nc9 cc9) (x' := .slice ar9 nr9 cr9)).three
          have hj : Rid.joined (refF m) S O = ⟨q, out.1, out.2⟩ := by
            unfold Rid.joined
            rw [HO.out, List.take_length, HZS.out, HQE.out]
          refine bodyPost_ret (v := .tuple #[.agg #[.int .i64 (q : Int), .slice ac9 nc9 cc9, .slice ar9 nr9 cr9], .int .i64 0]) (by simp [results, Tryz.results65, go_sem, y0, y1, y2]) rfl (.inr ⟨HQ.out, ?_⟩)
          rw [hj]
          exact ⟨_, _, _, _, _, _, rfl, HFN.out.1.move (M' := One (w.heap.size + 1 + 1)) (Keeps.triple _ _ _) (fun _ _ h => .inr h) (fun _ _ h => .inl h), (HB.out.2.2.2.trans HFN.out.2.2).own (by omega) (Keeps.triple _ _ _)⟩
end Go.Proofs.YtfkclbhddiidbaaGreat
