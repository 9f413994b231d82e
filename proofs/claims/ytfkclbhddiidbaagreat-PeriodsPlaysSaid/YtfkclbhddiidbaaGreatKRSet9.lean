/- What riddleref18's cuts does: two rising lists, merged, each number once. Conditions: the lists' own reading; room. -/
import Derived.Test.YtfkclbhddiidbaaGreatKRSet7
import Derived.Test.YtfkclbhddiidbaaGreatKGrow
namespace Go.Rid
theorem merge_lt {a : Int} {ys l : List Int} (h : (a :: ys).Pairwise (· < ·)) (h2 : l.Pairwise (· < ·)) (h3 : ∀ x ∈ l, a < x) : mergeC (a :: ys) l = a :: mergeC ys l := by
  have h' := List.pairwise_cons.1 h
  refine sorted_unique (sorted_mergeC h2) (List.pairwise_cons.2 ⟨fun x hx => ?_, sorted_mergeC h2⟩) fun x => ?_
  · rcases mem_mergeC.1 hx with hx | hx
    · exact h'.1 x hx
    · exact h3 x hx
  · rw [mem_mergeC, List.mem_cons, List.mem_cons, mem_mergeC, or_assoc]
theorem merge_gt {b : Int} {ys l : List Int} (h2 : (b :: l).Pairwise (· < ·)) (h3 : ∀ x ∈ ys, b < x) : mergeC ys (b :: l) = b :: mergeC ys l := by
  have h' := List.pairwise_cons.1 h2
  refine sorted_unique (sorted_mergeC h2) (List.pairwise_cons.2 ⟨fun x hx => ?_, sorted_mergeC h'.2⟩) fun x => ?_
  · rcases mem_mergeC.1 hx with hx | hx
    · exact h3 x hx
    · exact h'.1 x hx
  · rw [mem_mergeC, List.mem_cons, List.mem_cons, mem_mergeC]
    constructor
    · rintro (h | h | h)
      · exact .inr (.inl h)
      · exact .inl h
      · exact .inr (.inr h)
    · rintro (h | h | h)
      · exact .inr (.inl h)
      · exact .inl h
      · exact .inr (.inr h)
theorem merge_eq {a : Int} {ys l : List Int} (h : (a :: ys).Pairwise (· < ·)) (h2 : (a :: l).Pairwise (· < ·)) : mergeC (a :: ys) (a :: l) = a :: mergeC ys l := by
  have h' := List.pairwise_cons.1 h
  have h2' := List.pairwise_cons.1 h2
  refine sorted_unique (sorted_mergeC h2) (List.pairwise_cons.2 ⟨fun x hx => ?_, sorted_mergeC h2'.2⟩) fun x => ?_
  · rcases mem_mergeC.1 hx with hx | hx
    · exact h'.1 x hx
    · exact h2'.1 x hx
  · rw [mem_mergeC, List.mem_cons, List.mem_cons, List.mem_cons, mem_mergeC]
    constructor
    · rintro ((h | h) | (h | h))
      · exact .inl h
      · exact .inr (.inl h)
      · exact .inl h
      · exact .inr (.inr h)
    · rintro (h | h | h)
      · exact .inl (.inl h)
      · exact .inl (.inr h)
      · exact .inr (.inr h)
theorem drop_zth {zs : List Int} {i : Nat} (h : i < zs.length) : zs.drop i = zth zs i :: zs.drop (i + 1) := by rw [List.drop_eq_getElem_cons h, zth_lt h]
theorem drop_above {zs : List Int} (hs : zs.Pairwise (· < ·)) {i : Nat} {x : Int} (h : i < zs.length) (hx : x < zth zs i) : ∀ y ∈ zs.drop i, x < y := by
  have := hs.drop (i := i)
  rw [drop_zth h] at this ⊢
  intro y hy
  rcases List.mem_cons.1 hy with rfl | hy
  · exact hx
  · have := (List.pairwise_cons.1 this).1 y hy; omega
/-- What is still to be merged. -/
def toMerge (zs zs2 : List Int) (i k : Nat) : List Int := mergeC (zs.drop i) (zs2.drop k)
theorem toMerge_left {zs zs2 : List Int} (h : zs.Pairwise (· < ·)) (h2 : zs2.Pairwise (· < ·)) {i k : Nat} (hi : i < zs.length) (hc : k = zs2.length ∨ (k < zs2.length ∧ zth zs i < zth zs2 k)) : toMerge zs zs2 i k = zth zs i :: toMerge zs zs2 (i + 1) k := by
  unfold toMerge
  have h1 := h.drop (i := i)
  rw [drop_zth hi] at h1 ⊢
  refine merge_lt h1 h2.drop fun x hx => ?_
  rcases hc with rfl | ⟨hk, hl⟩
  · simp at hx
  · exact drop_above h2 hk hl x hx
theorem toMerge_right {zs zs2 : List Int} (h : zs.Pairwise (· < ·)) (h2 : zs2.Pairwise (· < ·)) {i k : Nat} (hk : k < zs2.length) (hc : i = zs.length ∨ (i < zs.length ∧ zth zs2 k < zth zs i)) : toMerge zs zs2 i k = zth zs2 k :: toMerge zs zs2 i (k + 1) := by
  unfold toMerge
  have h1 := h2.drop (i := k)
  rw [drop_zth hk] at h1 ⊢
  refine merge_gt h1 fun x hx => ?_
  rcases hc with rfl | ⟨hi, hl⟩
  · simp at hx
  · exact drop_above h hi hl x hx
theorem toMerge_both {zs zs2 : List Int} (h : zs.Pairwise (· < ·)) (h2 : zs2.Pairwise (· < ·)) {i k : Nat} (hi : i < zs.length) (hk : k < zs2.length) (he : zth zs i = zth zs2 k) : toMerge zs zs2 i k = zth zs i :: toMerge zs zs2 (i + 1) (k + 1) := by
  unfold toMerge
  have h1 := h.drop (i := i)
  have h3 := h2.drop (i := k)
  rw [drop_zth hi] at h1 ⊢
  rw [drop_zth hk, ← he] at h3 ⊢
  exact merge_eq h1 h3
theorem toMerge_none {zs zs2 : List Int} : toMerge zs zs2 zs.length zs2.length = [] := by simp [toMerge, mergeC]
end Go.Rid
namespace Go.Proofs.YtfkclbhddiidbaaGreat
open Go.RowKit Go.Rid
set_option maxHeartbeats 4000000 in
theorem refcuts_any {M : Nat → Prop} {a a2 : Option Addr} {n c n2 c2 : Nat} {zs zs2 : List Int} {w : World} (hM : MB M w) (h : ZInts M w a n c zs) (h2 : ZInts M w a2 n2 c2 zs2) (hs : zs.Pairwise (· < ·)) (hs2 : zs2.Pairwise (· < ·)) (hf : ∀ x ∈ zs, nlen x.natAbs * 4 + 4 ≤ 140737488355328) (hf2 : ∀ x ∈ zs2, nlen x.natAbs * 4 + 4 ≤ 140737488355328) (hn : n ≤ 1000) (hn2 : n2 ≤ 1000) :
    Calls Tryz.prog 42 #[.slice a n c, .slice a2 n2 c2] w fun e w' => ListRet M w (mergeC zs zs2) e w' := by
  obtain ⟨i1, hi1⟩ := info_parts info_Int
  have HI := Lib.hid hi1
  have hcap := h.cap
  have hle := h.le
  have hcap2 := h2.cap
  have hle2 := h2.le
  have HM := Lib.hid hM
  have HS := Lib.hid (And.intro h h2)
  have HL := Lib.hid (And.intro h.len h2.len)
  have HSO := Lib.hid (And.intro hs hs2)
  have HF := Lib.hid (And.intro hf hf2)
  clear h h2 hM hs hs2 hf hf2 hi1
  go_enter Tryz.func42, Tryz.ntmps42
  go_wp2_with fail
  go_loopw [5, 6, 7] (fun v i j wr => ∃ (k m : Nat) (els : List (List Value)) (xs : List Int), k ≤ n ∧ m ≤ n2 ∧ i = .int .i64 k ∧ j = .int .i64 m ∧ els.length ≤ k + m ∧ Keeps Nil w wr ∧ Grown RZ 0 38 2 M wr w.heap.size v els xs ∧ xs ++ toMerge zs zs2 k m = mergeC zs zs2) (fun _ i j _ => (n - (intOf i).toNat) + (n2 - (intOf j).toNat))
  case atStart => exact ⟨0, 0, [], [], Nat.zero_le _, Nat.zero_le _, rfl, rfl, by simp, Keeps.refl _ _, Grown.nil, by simp [toMerge]⟩
  case round =>
    obtain ⟨k, m, els, xs, hk, hm, rfl, rfl, hel, hkk, hg, hx⟩ := hrel
    have HKK := Lib.hid hkk
    have HG := Lib.hid hg
    have HEL := Lib.hid hel
    have HXS := Lib.hid hx
    clear hg hel hx
    by_cases hk1 : k < n
    · obtain ⟨b, off, g3, a3, n3, c3, rfl, hb, _, x0, x1, hx⟩ := HS.out.1.at hk1
      have hkl : k < zs.length := by rw [HL.out.1]; exact hk1
      have HZ := Lib.hid (And.intro hx (HF.out.1 _ (show zth zs k ∈ zs by rw [zth_lt hkl]; exact List.getElem_mem _)))
      have p0 := hkk.cellE hb id x0
      have p1 := hkk.cellE hb id x1
      have hb' := Nat.lt_of_lt_of_le hb hkk.size
      have HE := Lib.hid (show RZ (And' M u5) wr [.bool g3, .slice a3 n3 c3] (zth zs k) from ⟨g3, a3, n3, c3, rfl, hx.move hkk (fun _ _ h => h.elim) fun b hb hm => by rcases hm with hm | hm; exact hm; exact absurd (HG.out.own.lt b hm).1 (by omega)⟩)
      have j1 : (k : Int) < (n : Int) := by omega
      have j2 : ¬ (k : Int) = (n : Int) := by omega
      have j3 : ((k : Int) == (n : Int)) = false := beq_eq_false_iff_ne.2 j2
      have j4 : (0 : Int) ≤ (k : Int) := by omega
      clear x0 x1 hx
      by_cases hm1 : m < n2
      · obtain ⟨b2, off2, g4, a4, n4, c4, rfl, hb2, _, x0, x1, hx⟩ := HS.out.2.at hm1
        have hml : m < zs2.length := by rw [HL.out.2]; exact hm1
        have HZ2 := Lib.hid (And.intro hx (HF.out.2 _ (show zth zs2 m ∈ zs2 by rw [zth_lt hml]; exact List.getElem_mem _)))
        have q0 := hkk.cellE hb2 id x0
        have q1 := hkk.cellE hb2 id x1
        have hb2' := Nat.lt_of_lt_of_le hb2 hkk.size
        have HE2 := Lib.hid (show RZ (And' M u5) wr [.bool g4, .slice a4 n4 c4] (zth zs2 m) from ⟨g4, a4, n4, c4, rfl, hx.move hkk (fun _ _ h => h.elim) fun b hb hm => by rcases hm with hm | hm; exact hm; exact absurd (HG.out.own.lt b hm).1 (by omega)⟩)
        have l1 : (m : Int) < (n2 : Int) := by omega
        have l2 : ¬ (m : Int) = (n2 : Int) := by omega
        have l3 : ((m : Int) == (n2 : Int)) = false := beq_eq_false_iff_ne.2 l2
        have l4 : (0 : Int) ≤ (m : Int) := by omega
        clear x0 x1 hx hkk
        obtain ⟨cm, hcm⟩ : ∃ cm : Int, cm = cmpZ (zth zs k) (zth zs2 m) := ⟨_, rfl⟩
        have hcc := cmpZ_cases (zth zs k) (zth zs2 m)
        rw [← hcm] at hcc
        have HCE := Lib.hid hcm
        clear hcm
        rcases hcc with ⟨h1, h2⟩ | ⟨h1, h2⟩ | ⟨h1, h2⟩
        · subst h1
          have HH := Lib.hid h2
          clear h2
          go_upto_region 6 with (fail)
          go_wp2_with fail
          go_region_held3 (fun w' => w'.cell? ⟨b, off + k * 2, none⟩ = some (.bool g3) ∧ w'.cell? ⟨b, off + k * 2 + 1, none⟩ = some (.slice a3 n3 c3) ∧ w'.cell? ⟨b2, off2 + m * 2, none⟩ = some (.bool g4) ∧ w'.cell? ⟨b2, off2 + m * 2 + 1, none⟩ = some (.slice a4 n4 c4)) (go_keep) (first | (go_at_call 79; refine (refcmp_any (((HZ.out.1.zat HZ.out.2).keepNil HKK.out).keepNil (by repeat (first | exact Keeps.refl _ _ | refine Keeps.drew ?_ | refine Keeps.drewN ?_ _ | refine Keeps.alloc ?_ _))) (((HZ2.out.1.zat HZ2.out.2).keepNil HKK.out).keepNil (by repeat (first | exact Keeps.refl _ _ | refine Keeps.drew ?_ | refine Keeps.drewN ?_ _ | refine Keeps.alloc ?_ _)))).mono ?_; rintro e w1 ⟨rfl, hk1⟩; rw [← HCE.out]; have y0 := hk1.cellE hb' id p0; have y1 := hk1.cellE hb' id p1; have y2 := hk1.cellE hb2' id q0; have y3 := hk1.cellE hb2' id q1; have H1 := Lib.hid ((show Keeps Nil wr _ from (by repeat (first | exact Keeps.refl _ _ | refine Keeps.drew ?_ | refine Keeps.drewN ?_ _ | refine Keeps.alloc ?_ _))).trans hk1); clear hk1))
          all_goals
            go_wp2_with (at_builtin; refine wpList_append_els _ rfl (.tmp 40) (.tmp 45) 23 rfl w.heap.size 38 i1 (.agg #[.bool false, .slice none 0 0]) 2 32 Tryz.underlying23 HI.out.1 HI.out.2.1 HI.out.2.2.1 HI.out.2.2.2 rfl (by decide) u5 els rfl ((HG.out.own.keepNil H1.out).keepNil (by repeat (first | exact Keeps.refl _ _ | refine Keeps.drew ?_ | refine Keeps.drewN ?_ _ | refine Keeps.alloc ?_ _))) ⟨w1.heap.size, 0, none⟩ 1 1 [[.bool g3, .slice a3 n3 c3]] rfl rfl (by simp) (alloc_news _ _ _) (by simp [Value.oneCell']) (by have := HEL.out; omega) (by have := HEL.out; omega) (by have := HKK.out.size; have := (H1.out).size; simp; omega) ?_; intro v' w2 ho hk2 hf2 _; have HO := Lib.hid (And.intro ho (And.intro hk2 hf2)); clear ho hk2 hf2)
            go_roundw
            case rel => exact ⟨k + 1, m, els ++ [[.bool g3, .slice a3 n3 c3]], _, by omega, by omega, by go_num, by go_num, by have := HEL.out; simp; omega, ((HKK.out.trans (H1.out)).trans (by repeat (first | exact Keeps.refl _ _ | refine Keeps.drew ?_ | refine Keeps.drewN ?_ _ | refine Keeps.alloc ?_ _))).trans' HO.out.2.1 (fun b hb => .inr (HG.out.own.lt b hb).1), Grown.snoc RZ.moves ((HG.out.keepNil RZ.moves (H1.out)).keepNil RZ.moves (by repeat (first | exact Keeps.refl _ _ | refine Keeps.drew ?_ | refine Keeps.drewN ?_ _ | refine Keeps.alloc ?_ _))) (((HE.out.move (H1.out) (M' := Nil) (M2 := And' M u5) (fun _ _ h => h.elim) fun _ _ h => h)).move (M' := Nil) (M2 := And' M u5) (by repeat (first | exact Keeps.refl _ _ | refine Keeps.drew ?_ | refine Keeps.drewN ?_ _ | refine Keeps.alloc ?_ _)) (fun _ _ h => h.elim) fun _ _ h => h) HO.out.1 HO.out.2.1 HO.out.2.2, by rw [List.append_assoc, List.singleton_append, ← toMerge_left HSO.out.1 HSO.out.2 hkl (.inr ⟨hml, HH.out⟩)]; exact HXS.out⟩
            case measure => simp [intOf]; omega
        · subst h1
          have HH := Lib.hid h2
          clear h2
          go_upto_region 6 with (fail)
          go_wp2_with fail
          go_region_held3 (fun w' => w'.cell? ⟨b, off + k * 2, none⟩ = some (.bool g3) ∧ w'.cell? ⟨b, off + k * 2 + 1, none⟩ = some (.slice a3 n3 c3) ∧ w'.cell? ⟨b2, off2 + m * 2, none⟩ = some (.bool g4) ∧ w'.cell? ⟨b2, off2 + m * 2 + 1, none⟩ = some (.slice a4 n4 c4)) (go_keep) (first | (go_at_call 79; refine (refcmp_any (((HZ.out.1.zat HZ.out.2).keepNil HKK.out).keepNil (by repeat (first | exact Keeps.refl _ _ | refine Keeps.drew ?_ | refine Keeps.drewN ?_ _ | refine Keeps.alloc ?_ _))) (((HZ2.out.1.zat HZ2.out.2).keepNil HKK.out).keepNil (by repeat (first | exact Keeps.refl _ _ | refine Keeps.drew ?_ | refine Keeps.drewN ?_ _ | refine Keeps.alloc ?_ _)))).mono ?_; rintro e w1 ⟨rfl, hk1⟩; rw [← HCE.out]; have y0 := hk1.cellE hb' id p0; have y1 := hk1.cellE hb' id p1; have y2 := hk1.cellE hb2' id q0; have y3 := hk1.cellE hb2' id q1; have H1 := Lib.hid ((show Keeps Nil wr _ from (by repeat (first | exact Keeps.refl _ _ | refine Keeps.drew ?_ | refine Keeps.drewN ?_ _ | refine Keeps.alloc ?_ _))).trans hk1); clear hk1))
          all_goals
            go_wp2_with (at_builtin; refine wpList_append_els _ rfl (.tmp 40) (.tmp 45) 23 rfl w.heap.size 38 i1 (.agg #[.bool false, .slice none 0 0]) 2 32 Tryz.underlying23 HI.out.1 HI.out.2.1 HI.out.2.2.1 HI.out.2.2.2 rfl (by decide) u5 els rfl ((HG.out.own.keepNil H1.out).keepNil (by repeat (first | exact Keeps.refl _ _ | refine Keeps.drew ?_ | refine Keeps.drewN ?_ _ | refine Keeps.alloc ?_ _))) ⟨w1.heap.size, 0, none⟩ 1 1 [[.bool g3, .slice a3 n3 c3]] rfl rfl (by simp) (alloc_news _ _ _) (by simp [Value.oneCell']) (by have := HEL.out; omega) (by have := HEL.out; omega) (by have := HKK.out.size; have := (H1.out).size; simp; omega) ?_; intro v' w2 ho hk2 hf2 _; have HO := Lib.hid (And.intro ho (And.intro hk2 hf2)); clear ho hk2 hf2)
            go_roundw
            case rel => exact ⟨k + 1, m + 1, els ++ [[.bool g3, .slice a3 n3 c3]], _, by omega, by omega, by go_num, by go_num, by have := HEL.out; simp; omega, ((HKK.out.trans (H1.out)).trans (by repeat (first | exact Keeps.refl _ _ | refine Keeps.drew ?_ | refine Keeps.drewN ?_ _ | refine Keeps.alloc ?_ _))).trans' HO.out.2.1 (fun b hb => .inr (HG.out.own.lt b hb).1), Grown.snoc RZ.moves ((HG.out.keepNil RZ.moves (H1.out)).keepNil RZ.moves (by repeat (first | exact Keeps.refl _ _ | refine Keeps.drew ?_ | refine Keeps.drewN ?_ _ | refine Keeps.alloc ?_ _))) (((HE.out.move (H1.out) (M' := Nil) (M2 := And' M u5) (fun _ _ h => h.elim) fun _ _ h => h)).move (M' := Nil) (M2 := And' M u5) (by repeat (first | exact Keeps.refl _ _ | refine Keeps.drew ?_ | refine Keeps.drewN ?_ _ | refine Keeps.alloc ?_ _)) (fun _ _ h => h.elim) fun _ _ h => h) HO.out.1 HO.out.2.1 HO.out.2.2, by rw [List.append_assoc, List.singleton_append, ← toMerge_both HSO.out.1 HSO.out.2 hkl hml HH.out]; exact HXS.out⟩
            case measure => simp [intOf]; omega
        · subst h1
          have HH := Lib.hid h2
          clear h2
          go_upto_region 6 with (fail)
          go_wp2_with fail
          go_region_held3 (fun w' => w'.cell? ⟨b, off + k * 2, none⟩ = some (.bool g3) ∧ w'.cell? ⟨b, off + k * 2 + 1, none⟩ = some (.slice a3 n3 c3) ∧ w'.cell? ⟨b2, off2 + m * 2, none⟩ = some (.bool g4) ∧ w'.cell? ⟨b2, off2 + m * 2 + 1, none⟩ = some (.slice a4 n4 c4)) (go_keep) (first | (go_at_call 79; refine (refcmp_any (((HZ.out.1.zat HZ.out.2).keepNil HKK.out).keepNil (by repeat (first | exact Keeps.refl _ _ | refine Keeps.drew ?_ | refine Keeps.drewN ?_ _ | refine Keeps.alloc ?_ _))) (((HZ2.out.1.zat HZ2.out.2).keepNil HKK.out).keepNil (by repeat (first | exact Keeps.refl _ _ | refine Keeps.drew ?_ | refine Keeps.drewN ?_ _ | refine Keeps.alloc ?_ _)))).mono ?_; rintro e w1 ⟨rfl, hk1⟩; rw [← HCE.out]; have y0 := hk1.cellE hb' id p0; have y1 := hk1.cellE hb' id p1; have y2 := hk1.cellE hb2' id q0; have y3 := hk1.cellE hb2' id q1; have H1 := Lib.hid ((show Keeps Nil wr _ from (by repeat (first | exact Keeps.refl _ _ | refine Keeps.drew ?_ | refine Keeps.drewN ?_ _ | refine Keeps.alloc ?_ _))).trans hk1); clear hk1))
          all_goals
            go_wp2_with (at_builtin; refine wpList_append_els _ rfl (.tmp 49) (.tmp 54) 23 rfl w.heap.size 38 i1 (.agg #[.bool false, .slice none 0 0]) 2 32 Tryz.underlying23 HI.out.1 HI.out.2.1 HI.out.2.2.1 HI.out.2.2.2 rfl (by decide) u5 els rfl ((HG.out.own.keepNil H1.out).keepNil (by repeat (first | exact Keeps.refl _ _ | refine Keeps.drew ?_ | refine Keeps.drewN ?_ _ | refine Keeps.alloc ?_ _))) ⟨w1.heap.size, 0, none⟩ 1 1 [[.bool g4, .slice a4 n4 c4]] rfl rfl (by simp) (alloc_news _ _ _) (by simp [Value.oneCell']) (by have := HEL.out; omega) (by have := HEL.out; omega) (by have := HKK.out.size; have := (H1.out).size; simp; omega) ?_; intro v' w2 ho hk2 hf2 _; have HO := Lib.hid (And.intro ho (And.intro hk2 hf2)); clear ho hk2 hf2)
            go_roundw
            case rel => exact ⟨k, m + 1, els ++ [[.bool g4, .slice a4 n4 c4]], _, by omega, by omega, by go_num, by go_num, by have := HEL.out; simp; omega, ((HKK.out.trans (H1.out)).trans (by repeat (first | exact Keeps.refl _ _ | refine Keeps.drew ?_ | refine Keeps.drewN ?_ _ | refine Keeps.alloc ?_ _))).trans' HO.out.2.1 (fun b hb => .inr (HG.out.own.lt b hb).1), Grown.snoc RZ.moves ((HG.out.keepNil RZ.moves (H1.out)).keepNil RZ.moves (by repeat (first | exact Keeps.refl _ _ | refine Keeps.drew ?_ | refine Keeps.drewN ?_ _ | refine Keeps.alloc ?_ _))) (((HE2.out.move (H1.out) (M' := Nil) (M2 := And' M u5) (fun _ _ h => h.elim) fun _ _ h => h)).move (M' := Nil) (M2 := And' M u5) (by repeat (first | exact Keeps.refl _ _ | refine Keeps.drew ?_ | refine Keeps.drewN ?_ _ | refine Keeps.alloc ?_ _)) (fun _ _ h => h.elim) fun _ _ h => h) HO.out.1 HO.out.2.1 HO.out.2.2, by rw [List.append_assoc, List.singleton_append, ← toMerge_right HSO.out.1 HSO.out.2 hml (.inr ⟨hkl, HH.out⟩)]; exact HXS.out⟩
            case measure => simp [intOf]; omega
      · obtain rfl : m = n2 := by omega
        have l1 : ¬ (m : Int) < (m : Int) := by omega
        clear hkk
        go_wp2_with (at_builtin; refine wpList_append_els _ rfl (.tmp 40) (.tmp 45) 23 rfl w.heap.size 38 i1 (.agg #[.bool false, .slice none 0 0]) 2 32 Tryz.underlying23 HI.out.1 HI.out.2.1 HI.out.2.2.1 HI.out.2.2.2 rfl (by decide) u5 els rfl ((HG.out.own.keepNil (Keeps.refl Nil wr)).keepNil (by repeat (first | exact Keeps.refl _ _ | refine Keeps.drew ?_ | refine Keeps.drewN ?_ _ | refine Keeps.alloc ?_ _))) ⟨wr.heap.size, 0, none⟩ 1 1 [[.bool g3, .slice a3 n3 c3]] rfl rfl (by simp) (alloc_news _ _ _) (by simp [Value.oneCell']) (by have := HEL.out; omega) (by have := HEL.out; omega) (by have := HKK.out.size; have := ((Keeps.refl Nil wr)).size; simp; omega) ?_; intro v' w2 ho hk2 hf2 _; have HO := Lib.hid (And.intro ho (And.intro hk2 hf2)); clear ho hk2 hf2)
        go_roundw
        case rel => exact ⟨k + 1, m, els ++ [[.bool g3, .slice a3 n3 c3]], _, by omega, by omega, by go_num, by go_num, by have := HEL.out; simp; omega, ((HKK.out.trans ((Keeps.refl Nil wr))).trans (by repeat (first | exact Keeps.refl _ _ | refine Keeps.drew ?_ | refine Keeps.drewN ?_ _ | refine Keeps.alloc ?_ _))).trans' HO.out.2.1 (fun b hb => .inr (HG.out.own.lt b hb).1), Grown.snoc RZ.moves ((HG.out.keepNil RZ.moves ((Keeps.refl Nil wr))).keepNil RZ.moves (by repeat (first | exact Keeps.refl _ _ | refine Keeps.drew ?_ | refine Keeps.drewN ?_ _ | refine Keeps.alloc ?_ _))) (((HE.out.move ((Keeps.refl Nil wr)) (M' := Nil) (M2 := And' M u5) (fun _ _ h => h.elim) fun _ _ h => h)).move (M' := Nil) (M2 := And' M u5) (by repeat (first | exact Keeps.refl _ _ | refine Keeps.drew ?_ | refine Keeps.drewN ?_ _ | refine Keeps.alloc ?_ _)) (fun _ _ h => h.elim) fun _ _ h => h) HO.out.1 HO.out.2.1 HO.out.2.2, by rw [List.append_assoc, List.singleton_append, ← toMerge_left HSO.out.1 HSO.out.2 hkl (.inl HL.out.2.symm)]; exact HXS.out⟩
        case measure => simp [intOf]; omega
    · obtain rfl : k = n := by omega
      have j1 : ¬ (k : Int) < (k : Int) := by omega
      by_cases hm1 : m < n2
      · obtain ⟨b2, off2, g4, a4, n4, c4, rfl, hb2, _, x0, x1, hx⟩ := HS.out.2.at hm1
        have hml : m < zs2.length := by rw [HL.out.2]; exact hm1
        have q0 := hkk.cellE hb2 id x0
        have q1 := hkk.cellE hb2 id x1
        have hb2' := Nat.lt_of_lt_of_le hb2 hkk.size
        have HE2 := Lib.hid (show RZ (And' M u5) wr [.bool g4, .slice a4 n4 c4] (zth zs2 m) from ⟨g4, a4, n4, c4, rfl, hx.move hkk (fun _ _ h => h.elim) fun b hb hm => by rcases hm with hm | hm; exact hm; exact absurd (HG.out.own.lt b hm).1 (by omega)⟩)
        have l1 : (m : Int) < (n2 : Int) := by omega
        have l4 : (0 : Int) ≤ (m : Int) := by omega
        clear x0 x1 hx hkk
        go_wp2_with (at_builtin; refine wpList_append_els _ rfl (.tmp 49) (.tmp 54) 23 rfl w.heap.size 38 i1 (.agg #[.bool false, .slice none 0 0]) 2 32 Tryz.underlying23 HI.out.1 HI.out.2.1 HI.out.2.2.1 HI.out.2.2.2 rfl (by decide) u5 els rfl ((HG.out.own.keepNil (Keeps.refl Nil wr)).keepNil (by repeat (first | exact Keeps.refl _ _ | refine Keeps.drew ?_ | refine Keeps.drewN ?_ _ | refine Keeps.alloc ?_ _))) ⟨wr.heap.size, 0, none⟩ 1 1 [[.bool g4, .slice a4 n4 c4]] rfl rfl (by simp) (alloc_news _ _ _) (by simp [Value.oneCell']) (by have := HEL.out; omega) (by have := HEL.out; omega) (by have := HKK.out.size; have := ((Keeps.refl Nil wr)).size; simp; omega) ?_; intro v' w2 ho hk2 hf2 _; have HO := Lib.hid (And.intro ho (And.intro hk2 hf2)); clear ho hk2 hf2)
        go_roundw
        case rel => exact ⟨k, m + 1, els ++ [[.bool g4, .slice a4 n4 c4]], _, by omega, by omega, by go_num, by go_num, by have := HEL.out; simp; omega, ((HKK.out.trans ((Keeps.refl Nil wr))).trans (by repeat (first | exact Keeps.refl _ _ | refine Keeps.drew ?_ | refine Keeps.drewN ?_ _ | refine Keeps.alloc ?_ _))).trans' HO.out.2.1 (fun b hb => .inr (HG.out.own.lt b hb).1), Grown.snoc RZ.moves ((HG.out.keepNil RZ.moves ((Keeps.refl Nil wr))).keepNil RZ.moves (by repeat (first | exact Keeps.refl _ _ | refine Keeps.drew ?_ | refine Keeps.drewN ?_ _ | refine Keeps.alloc ?_ _))) (((HE2.out.move ((Keeps.refl Nil wr)) (M' := Nil) (M2 := And' M u5) (fun _ _ h => h.elim) fun _ _ h => h)).move (M' := Nil) (M2 := And' M u5) (by repeat (first | exact Keeps.refl _ _ | refine Keeps.drew ?_ | refine Keeps.drewN ?_ _ | refine Keeps.alloc ?_ _)) (fun _ _ h => h.elim) fun _ _ h => h) HO.out.1 HO.out.2.1 HO.out.2.2, by rw [List.append_assoc, List.singleton_append, ← toMerge_right HSO.out.1 HSO.out.2 hml (.inl HL.out.1.symm)]; exact HXS.out⟩
        case measure => simp [intOf]; omega
      · obtain rfl : m = n2 := by omega
        have l1 : ¬ (m : Int) < (m : Int) := by omega
        obtain ⟨a', c', hv, hL⟩ := HG.out.sl RZ.moves (fun b hb => HM.out b hb)
        subst hv
        have hln := HG.out.len
        have hx := HXS.out
        rw [← HL.out.1, ← HL.out.2, toMerge_none, List.append_nil] at hx
        have HLL := Lib.hid (And.intro hL (And.intro hln hx))
        clear hL hkk hln hx
        go_wp2_with fail
        go_ret
        have hL := HLL.out.1
        rw [← HLL.out.2.1, HLL.out.2.2] at hL ⊢
        exact ⟨_, _, rfl, hL, HKK.out⟩
end Go.Proofs.YtfkclbhddiidbaaGreat
