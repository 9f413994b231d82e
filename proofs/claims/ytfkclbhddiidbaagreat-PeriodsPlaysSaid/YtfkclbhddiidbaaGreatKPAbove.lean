/- What periods.Above does: a set in new memory. Conditions: the number's own reading; room. -/
import Derived.Test.YtfkclbhddiidbaaGreatKPMake
import Derived.Test.YtfkclbhddiidbaaGreatKRegions
namespace Go.Proofs.YtfkclbhddiidbaaGreat
open Go.RowKit Go.Rid

/-- What each operation of Above's one statement yields. -/
def AboveF (M : Nat → Prop) (v0 : Value) (z : Int) : Nat → Value → World → Prop
  | 0, v, _ => v = v0
  | 1, v, w => ∃ g a n c, v = .agg #[.bool g, .slice a n c] ∧ ZN Nil w g a n c 1
  | 2, v, w => ∃ g a n c, v = .agg #[.bool g, .slice a n c] ∧ ZN M w g a n c (z + 1)
  | 3, v, w => ∃ p, v = .slice p 1 1 ∧ ZInts M w p 1 1 [z + 1]
  | 4, v, w => ∃ p, v = .slice p 1 1 ∧ Bools M w p 1 1 [false]
  | 5, v, w => ∃ p, v = .slice p 1 1 ∧ Bools M w p 1 1 [true]
  | 6, v, w => ∃ p, v = .slice p 2 2 ∧ BRows M w p 2 2 [[false], [true]]
  | 7, v, w => ∃ p q, v = .agg #[.int .i64 1, .slice p 1 1, .slice q 2 2] ∧ ZInts M w p 1 1 [z + 1] ∧ BRows M w q 2 2 [[false], [true]]
  | _, v, w => ∃ p, v = .pointer (some ⟨p, 0, none⟩) ∧ SetAt M w p (aboveSet z)
theorem Bools.keepNil {M : Nat → Prop} {w w' : World} {a : Option Addr} {n c : Nat} {l : List Bool} (h : Bools M w a n c l) (k : Keeps Nil w w') : Bools M w' a n c l := h.move k (fun _ _ h => h.elim) fun _ _ => id
theorem BRows.keepNil {M : Nat → Prop} {w w' : World} {a : Option Addr} {n c : Nat} {l : List (List Bool)} (h : BRows M w a n c l) (k : Keeps Nil w w') : BRows M w' a n c l := h.move k (fun _ _ h => h.elim) fun _ _ => id
def SetOut (M : Nat → Prop) (S : PSet) (v : Value) (w : World) : Prop := ∃ p, v = .pointer (some ⟨p, 0, none⟩) ∧ SetAt M w p S
theorem brows2 {M : Nat → Prop} {w : World} {g : Nat} {E : TypeId} {a a2 : Option Addr} {n c n2 c2 : Nat} {l l2 : List Bool} (h : RowIs w g E [.slice a n c, .slice a2 n2 c2]) (hM : ¬ M g) (h1 : Bools M w a n c l) (h2 : Bools M w a2 n2 c2 l2) : BRows M w (some ⟨g, 0, none⟩) 2 2 [l, l2] :=
  BRows.ofRow (els := [[.slice a n c], [.slice a2 n2 c2]]) h (by simp) hM (by simp) rfl fun i hi => by
    rcases (show i = 0 ∨ i = 1 by simp at hi; omega) with rfl | rfl
    · exact ⟨_, _, _, rfl, h1⟩
    · exact ⟨_, _, _, rfl, h2⟩
theorem aboveF_keep (M : Nat → Prop) (v0 : Value) (z : Int) : ∀ j v w w', Keeps Nil w w' → AboveF M v0 z j v w → AboveF M v0 z j v w' := by
  intro j v w w' k h
  unfold AboveF at *
  split at h
  · exact h
  · obtain ⟨g, a, n, c, e, h⟩ := h; exact ⟨g, a, n, c, e, h.keepNil k⟩
  · obtain ⟨g, a, n, c, e, h⟩ := h; exact ⟨g, a, n, c, e, h.keepNil k⟩
  · obtain ⟨p, e, h⟩ := h; exact ⟨p, e, h.keepNil k⟩
  · obtain ⟨p, e, h⟩ := h; exact ⟨p, e, Bools.keepNil h k⟩
  · obtain ⟨p, e, h⟩ := h; exact ⟨p, e, Bools.keepNil h k⟩
  · obtain ⟨p, e, h⟩ := h; exact ⟨p, e, BRows.keepNil h k⟩
  · obtain ⟨p, q, e, h, h2⟩ := h; exact ⟨p, q, e, h.keepNil k, BRows.keepNil h2 k⟩
  · obtain ⟨p, e, h⟩ := h; exact ⟨p, e, h.keepNil k⟩

set_option maxHeartbeats 2000000 in
set_option maxRecDepth 100000 in
theorem above_any {M : Nat → Prop} {g : Bool} {a : Option Addr} {n c : Nat} {z : Int} {w : World} (hM : MB M w) (h : ZAt Nil w g a n c z) (hn : n * 4 + 68 ≤ 140737488355328) :
    Calls Tryz.prog 15 #[.agg #[.bool g, .slice a n c]] w fun e w' => SetRet M w (aboveSet z) e w' := by
  have hk0 : Keeps Nil w (w.alloc (.cells #[.bool g, .slice a n c] 38)) := (by repeat (first | exact Keeps.refl _ _ | refine Keeps.drew ?_ | refine Keeps.drewN ?_ _ | refine Keeps.alloc ?_ _))
  have r0 := RowIs.alloc (w := w) (E := 38) (xs := [.bool g, .slice a n c])
  change RowIs (w.alloc (.cells #[.bool g, .slice a n c] 38)) _ _ _ at r0
  have HM := Lib.hid (hM.keep hk0)
  have HA := Lib.hid (And.intro (h.keepNil hk0) hn)
  have hnm : ∀ x : World, w.heap.size ≤ x.heap.size → ¬ M x.heap.size := fun x hx hm => by have := hM _ hm; omega
  have HNM := Lib.hid hnm
  clear h hn hM hnm
  go_enter Tryz.func15, Tryz.ntmps15
  go_wp2_with fail
  generalize w.alloc (.cells #[.bool g, .slice a n c] 38) = w0 at *
  have HR0 := Lib.hid r0
  have HK0 := Lib.hid hk0
  clear r0 hk0
  refine wp_region_facts [3, 4, 5, 6, 7, 8, 9, 10, 11, 2] (AboveF M (.agg #[.bool g, .slice a n c]) z) (by kernel_rfl) (by kernel_rfl) (aboveF_keep M _ z) ?fsteps ?ffin
  case fsteps =>
    show FactSteps _ _ _ _ _ _ _ 10
    refine FactSteps.succ (n := 9) rfl ?s1 ?t1
    case s1 =>
      intro us wj hk hp K hK
      simp only [putAll, Act.put, List.setIfInBounds_toArray, List.set_cons_zero, List.set_cons_succ] at hK ⊢
      obtain ⟨p, e8, h8⟩ : AboveF M (.agg #[.bool g, .slice a n c]) z 8 (us 11) wj := hp 8 (by kernel_rfl)
      rw [e8] at hK ⊢
      go_simp
      refine hK.out _ _ ?_ ?_
      · exact (by repeat (first | exact Keeps.refl _ _ | assumption | refine Keeps.drew ?_ | refine Keeps.drewN ?_ _ | refine Keeps.alloc ?_ _ | exact Keeps.of_nil (by assumption) | refine Keeps.trans ?_ (Keeps.of_nil (by assumption)) | refine Keeps.setCell ?_ (.inr (by first | exact Nat.le_refl _ | (dsimp only; omega))) _ | refine Keeps.setCell ?_ (.inl (by first | (unfold Old; dsimp only; omega) | (unfold Old; simp; omega) | (unfold Old; simp))) _))
      · exact ⟨p, rfl, h8⟩
    refine FactSteps.succ (n := 8) rfl ?s2 ?t2
    case s2 =>
      intro us wj hk hp K hK
      simp only [putAll, Act.put, List.setIfInBounds_toArray, List.set_cons_zero, List.set_cons_succ] at hK ⊢
      obtain ⟨p, q, e7, h7, h7'⟩ : AboveF M (.agg #[.bool g, .slice a n c]) z 7 (us 10) wj := hp 7 (by kernel_rfl)
      rw [e7] at hK ⊢
      go_simp
      refine hK.out _ _ ?_ ?_
      · exact (by repeat (first | exact Keeps.refl _ _ | assumption | refine Keeps.drew ?_ | refine Keeps.drewN ?_ _ | refine Keeps.alloc ?_ _ | exact Keeps.of_nil (by assumption) | refine Keeps.trans ?_ (Keeps.of_nil (by assumption)) | refine Keeps.setCell ?_ (.inr (by first | exact Nat.le_refl _ | (dsimp only; omega))) _ | refine Keeps.setCell ?_ (.inl (by first | (unfold Old; dsimp only; omega) | (unfold Old; simp; omega) | (unfold Old; simp))) _))
      · exact ⟨wj.heap.size, rfl, _, _, _, _, _, _, RowIs.alloc, HNM.out _ (Nat.le_trans HK0.out.size hk.size), h7.keepNil (by repeat (first | exact Keeps.refl _ _ | refine Keeps.drew ?_ | refine Keeps.drewN ?_ _ | refine Keeps.alloc ?_ _)), BRows.keepNil h7' (by repeat (first | exact Keeps.refl _ _ | refine Keeps.drew ?_ | refine Keeps.drewN ?_ _ | refine Keeps.alloc ?_ _))⟩
    refine FactSteps.succ (n := 7) rfl ?s3 ?t3
    case s3 =>
      intro us wj hk hp K hK
      simp only [putAll, Act.put, List.setIfInBounds_toArray, List.set_cons_zero, List.set_cons_succ] at hK ⊢
      obtain ⟨p, e3, h3⟩ : AboveF M (.agg #[.bool g, .slice a n c]) z 3 (us 6) wj := hp 3 (by kernel_rfl)
      obtain ⟨q, e6, h6⟩ : AboveF M (.agg #[.bool g, .slice a n c]) z 6 (us 9) wj := hp 6 (by kernel_rfl)
      rw [e3, e6] at hK ⊢
      go_simp
      refine hK.out _ _ ?_ ?_
      · exact (by repeat (first | exact Keeps.refl _ _ | assumption | refine Keeps.drew ?_ | refine Keeps.drewN ?_ _ | refine Keeps.alloc ?_ _ | exact Keeps.of_nil (by assumption) | refine Keeps.trans ?_ (Keeps.of_nil (by assumption)) | refine Keeps.setCell ?_ (.inr (by first | exact Nat.le_refl _ | (dsimp only; omega))) _ | refine Keeps.setCell ?_ (.inl (by first | (unfold Old; dsimp only; omega) | (unfold Old; simp; omega) | (unfold Old; simp))) _))
      · exact ⟨p, q, rfl, h3, h6⟩
    refine FactSteps.succ (n := 6) rfl ?s4 ?t4
    case s4 =>
      intro us wj hk hp K hK
      simp only [putAll, Act.put, List.setIfInBounds_toArray, List.set_cons_zero, List.set_cons_succ] at hK ⊢
      obtain ⟨p, e4, h4⟩ : AboveF M (.agg #[.bool g, .slice a n c]) z 4 (us 7) wj := hp 4 (by kernel_rfl)
      obtain ⟨q, e5, h5⟩ : AboveF M (.agg #[.bool g, .slice a n c]) z 5 (us 8) wj := hp 5 (by kernel_rfl)
      rw [e4, e5] at hK ⊢
      go_simp
      refine hK.out _ _ ?_ ?_
      · exact (by repeat (first | exact Keeps.refl _ _ | assumption | refine Keeps.drew ?_ | refine Keeps.drewN ?_ _ | refine Keeps.alloc ?_ _ | exact Keeps.of_nil (by assumption) | refine Keeps.trans ?_ (Keeps.of_nil (by assumption)) | refine Keeps.setCell ?_ (.inr (by first | exact Nat.le_refl _ | (dsimp only; omega))) _ | refine Keeps.setCell ?_ (.inl (by first | (unfold Old; dsimp only; omega) | (unfold Old; simp; omega) | (unfold Old; simp))) _))
      · exact ⟨some ⟨wj.heap.size, 0, none⟩, rfl, brows2 (RowIs.alloc (xs := [.slice p 1 1, .slice q 1 1])) (HNM.out _ (Nat.le_trans HK0.out.size hk.size)) (Bools.keepNil h4 (by repeat (first | exact Keeps.refl _ _ | refine Keeps.drew ?_ | refine Keeps.drewN ?_ _ | refine Keeps.alloc ?_ _))) (Bools.keepNil h5 (by repeat (first | exact Keeps.refl _ _ | refine Keeps.drew ?_ | refine Keeps.drewN ?_ _ | refine Keeps.alloc ?_ _)))⟩
    refine FactSteps.succ (n := 5) rfl ?s5 ?t5
    case s5 =>
      intro us wj hk hp K hK
      simp only [putAll, Act.put, List.setIfInBounds_toArray, List.set_cons_zero, List.set_cons_succ] at hK ⊢
      go_simp
      refine hK.out _ _ ?_ ?_
      · exact (by repeat (first | exact Keeps.refl _ _ | assumption | refine Keeps.drew ?_ | refine Keeps.drewN ?_ _ | refine Keeps.alloc ?_ _ | exact Keeps.of_nil (by assumption) | refine Keeps.trans ?_ (Keeps.of_nil (by assumption)) | refine Keeps.setCell ?_ (.inr (by first | exact Nat.le_refl _ | (dsimp only; omega))) _ | refine Keeps.setCell ?_ (.inl (by first | (unfold Old; dsimp only; omega) | (unfold Old; simp; omega) | (unfold Old; simp))) _))
      · exact ⟨some ⟨wj.heap.size, 0, none⟩, rfl, Bools.ofRow (l := [true]) (RowIs.alloc (xs := [true].map Value.bool)) (HNM.out _ (Nat.le_trans HK0.out.size hk.size)) (by simp)⟩
    refine FactSteps.succ (n := 4) rfl ?s6 ?t6
    case s6 =>
      intro us wj hk hp K hK
      simp only [putAll, Act.put, List.setIfInBounds_toArray, List.set_cons_zero, List.set_cons_succ] at hK ⊢
      go_simp
      refine hK.out _ _ ?_ ?_
      · exact (by repeat (first | exact Keeps.refl _ _ | assumption | refine Keeps.drew ?_ | refine Keeps.drewN ?_ _ | refine Keeps.alloc ?_ _ | exact Keeps.of_nil (by assumption) | refine Keeps.trans ?_ (Keeps.of_nil (by assumption)) | refine Keeps.setCell ?_ (.inr (by first | exact Nat.le_refl _ | (dsimp only; omega))) _ | refine Keeps.setCell ?_ (.inl (by first | (unfold Old; dsimp only; omega) | (unfold Old; simp; omega) | (unfold Old; simp))) _))
      · exact ⟨some ⟨wj.heap.size, 0, none⟩, rfl, Bools.ofRow (l := [false]) (RowIs.alloc (xs := [false].map Value.bool)) (HNM.out _ (Nat.le_trans HK0.out.size hk.size)) (by simp)⟩
    refine FactSteps.succ (n := 3) rfl ?s7 ?t7
    case s7 =>
      intro us wj hk hp K hK
      simp only [putAll, Act.put, List.setIfInBounds_toArray, List.set_cons_zero, List.set_cons_succ] at hK ⊢
      obtain ⟨s2, a2, n2, c2, e2, h2⟩ : AboveF M (.agg #[.bool g, .slice a n c]) z 2 (us 5) wj := hp 2 (by kernel_rfl)
      rw [e2] at hK ⊢
      go_simp
      refine hK.out _ _ ?_ ?_
      · exact (by repeat (first | exact Keeps.refl _ _ | assumption | refine Keeps.drew ?_ | refine Keeps.drewN ?_ _ | refine Keeps.alloc ?_ _ | exact Keeps.of_nil (by assumption) | refine Keeps.trans ?_ (Keeps.of_nil (by assumption)) | refine Keeps.setCell ?_ (.inr (by first | exact Nat.le_refl _ | (dsimp only; omega))) _ | refine Keeps.setCell ?_ (.inl (by first | (unfold Old; dsimp only; omega) | (unfold Old; simp; omega) | (unfold Old; simp))) _))
      · exact ⟨some ⟨wj.heap.size, 0, none⟩, rfl, ZInts.one (RowIs.alloc (xs := [.bool s2, .slice a2 n2 c2])) (h2.keepNil (by repeat (first | exact Keeps.refl _ _ | refine Keeps.drew ?_ | refine Keeps.drewN ?_ _ | refine Keeps.alloc ?_ _))) (HNM.out _ (Nat.le_trans HK0.out.size hk.size))⟩
    refine FactSteps.succ (n := 2) rfl ?s8 ?t8
    case s8 =>
      intro us wj hk hp K hK
      simp only [putAll, Act.put, List.setIfInBounds_toArray, List.set_cons_zero, List.set_cons_succ] at hK ⊢
      have e0 : us 3 = .agg #[.bool g, .slice a n c] := hp 0 (by kernel_rfl)
      obtain ⟨s1, a1, n1, c1, e1, h1⟩ : AboveF M (.agg #[.bool g, .slice a n c]) z 1 (us 4) wj := hp 1 (by kernel_rfl)
      rw [e0, e1] at hK ⊢
      go_simp
      refine (zadd_any (M := M) (HM.out.keep hk) (HA.out.1.keepNil hk) (h1.zat fit_one) (by have := HA.out.2; omega) (fit_ofN h1 fit_one)).mono ?_
      rintro e wk ⟨s2, a2, n2, c2, rfl, h2, hk2⟩
      refine hK.out _ _ ?_ ?_
      · exact (by repeat (first | exact Keeps.refl _ _ | assumption | refine Keeps.drew ?_ | refine Keeps.drewN ?_ _ | refine Keeps.alloc ?_ _ | exact Keeps.of_nil (by assumption) | refine Keeps.trans ?_ (Keeps.of_nil (by assumption)) | refine Keeps.setCell ?_ (.inr (by first | exact Nat.le_refl _ | (dsimp only; omega))) _ | refine Keeps.setCell ?_ (.inl (by first | (unfold Old; dsimp only; omega) | (unfold Old; simp; omega) | (unfold Old; simp))) _))
      · exact ⟨s2, a2, n2, c2, rfl, h2⟩
    refine FactSteps.succ (n := 1) rfl ?s9 ?t9
    case s9 =>
      intro us wj hk hp K hK
      simp only [putAll, Act.put, List.setIfInBounds_toArray, List.set_cons_zero, List.set_cons_succ] at hK ⊢
      go_simp
      refine (zof_any (M := Nil) (z := 1) (MB.nil _) (by omega) (by omega)).mono ?_
      rintro e wk ⟨s2, a2, n2, c2, rfl, h2, hk2⟩
      refine hK.out _ _ ?_ ?_
      · exact (by repeat (first | exact Keeps.refl _ _ | assumption | refine Keeps.drew ?_ | refine Keeps.drewN ?_ _ | refine Keeps.alloc ?_ _ | exact Keeps.of_nil (by assumption) | refine Keeps.trans ?_ (Keeps.of_nil (by assumption)) | refine Keeps.setCell ?_ (.inr (by first | exact Nat.le_refl _ | (dsimp only; omega))) _ | refine Keeps.setCell ?_ (.inl (by first | (unfold Old; dsimp only; omega) | (unfold Old; simp; omega) | (unfold Old; simp))) _))
      · exact ⟨s2, a2, n2, c2, rfl, h2⟩
    refine FactSteps.succ (n := 0) rfl ?s10 ?t10
    case s10 =>
      intro us wj hk hp K hK
      simp only [putAll, Act.put, List.setIfInBounds_toArray, List.set_cons_zero, List.set_cons_succ] at hK ⊢
      obtain ⟨c0, c1, _, _⟩ := (HR0.out.keep hk id).two
      go_simp
      refine hK.out _ _ ?_ ?_
      · exact (by repeat (first | exact Keeps.refl _ _ | assumption | refine Keeps.drew ?_ | refine Keeps.drewN ?_ _ | refine Keeps.alloc ?_ _ | exact Keeps.of_nil (by assumption) | refine Keeps.trans ?_ (Keeps.of_nil (by assumption)) | refine Keeps.setCell ?_ (.inr (by first | exact Nat.le_refl _ | (dsimp only; omega))) _ | refine Keeps.setCell ?_ (.inl (by first | (unfold Old; dsimp only; omega) | (unfold Old; simp; omega) | (unfold Old; simp))) _))
      · exact rfl
    exact FactSteps.zero
  case' ffin =>
    intro us wz hkz hf
    simp only [putAll, Act.put, List.setIfInBounds_toArray, List.set_cons_zero, List.set_cons_succ]
    have f9 := hf 9 (by decide)
    clear hf
  obtain ⟨p, e9, h9⟩ : SetOut M (aboveSet z) (us 2) wz := f9
  rw [e9]
  go_wp2_with fail
  go_ret
  exact ⟨p, rfl, h9, HK0.out.trans hkz⟩
end Go.Proofs.YtfkclbhddiidbaaGreat
