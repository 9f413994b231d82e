/- Lists that a call builds by append, told of what their elements say. No condition but room. -/
import Derived.Test.YtfkclbhddiidbaaGreatKPMake
namespace Go.Rid
open Go.RowKit
section
variable {α : Type}
/-- What is said of an element goes on where its blocks are left alone. -/
def Moves (R : (Nat → Prop) → World → List Value → α → Prop) : Prop := ∀ ⦃M M' M2 : Nat → Prop⦄ ⦃w w' : World⦄ ⦃cs : List Value⦄ ⦃x : α⦄, R M w cs x → Keeps M' w w' → (∀ b, b < w.heap.size → M' b → M b) → (∀ b, b < w.heap.size → M2 b → M b) → R M2 w' cs x
/-- A list that grows: v holds xs. -/
structure Grown (R : (Nat → Prop) → World → List Value → α → Prop) (d : α) (E : TypeId) (sz : Nat) (M : Nat → Prop) (w : World) (base : Nat) (v : Value) (els : List (List Value)) (xs : List α) : Prop where
  own : OwnEls w base E sz v els
  len : xs.length = els.length
  el : ∀ i, i < els.length → R (And' M v) w (els.getD i []) (xs.getD i d)
variable {R : (Nat → Prop) → World → List Value → α → Prop} {d : α} {E : TypeId} {sz : Nat} {M : Nat → Prop} {w w' : World} {base : Nat} {v v' : Value} {els : List (List Value)} {xs : List α}
theorem Grown.nil : Grown R d E sz M w base (.slice none 0 0) [] [] := ⟨OwnEls.nil _ _ _ _, rfl, fun i hi => by simp at hi⟩
theorem Grown.keepNil (hR : Moves R) (h : Grown R d E sz M w base v els xs) (k : Keeps Nil w w') : Grown R d E sz M w' base v els xs :=
  ⟨h.own.keepNil k, h.len, fun i hi => hR (h.el i hi) k (fun _ _ h => h.elim) fun _ _ => id⟩
/-- Other blocks of the call's own turn. -/
theorem Grown.keep (hR : Moves R) (h : Grown R d E sz M w base v els xs) {M' : Nat → Prop} (k : Keeps M' w w') (hv : ∀ b, v.ownBlock = some b → ¬ M' b) (hM : ∀ b, b < w.heap.size → M' b → M b) : Grown R d E sz M w' base v els xs :=
  ⟨h.own.keep k hv, h.len, fun i hi => hR (h.el i hi) k (fun b hb hm => .inl (hM b hb hm)) fun _ _ => id⟩
theorem getD_snoc_lt {β : Type} (l : List β) (x d : β) {i : Nat} (h : i < l.length) : (l ++ [x]).getD i d = l.getD i d := by
  simp [List.getD, List.getElem?_append_left h]
theorem getD_snoc_eq {β : Type} (l : List β) (x d : β) : (l ++ [x]).getD l.length d = x := by simp [List.getD]
theorem Grown.snoc (hR : Moves R) (h : Grown R d E sz M w base v els xs) {c : List Value} {x : α} (hc : R (And' M v) w c x) (ho : OwnEls w' base E sz v' (els ++ [c])) (k : Keeps (Own v) w w') (hf : Fresh w v v') : Grown R d E sz M w' base v' (els ++ [c]) (xs ++ [x]) := by
  have h2 : ∀ b, b < w.heap.size → And' M v' b → And' M v b := fun b hb hm => by
    rcases hm with hm | hm
    · exact .inl hm
    · rcases hf b hm with h' | h'
      · exact .inr h'
      · omega
  refine ⟨ho, by simp [h.len], fun i hi => ?_⟩
  rcases Nat.lt_or_ge i els.length with hi' | hi'
  · rw [getD_snoc_lt _ _ _ hi', getD_snoc_lt _ _ _ (by rw [h.len]; exact hi')]
    exact hR (h.el i hi') k (fun b _ hb => .inr hb) h2
  · have : i = els.length := by simp at hi; omega
    subst this
    rw [getD_snoc_eq, ← h.len, getD_snoc_eq]
    exact hR hc k (fun b _ hb => .inr hb) h2
/-- The list, done. -/
theorem Grown.sl (hR : Moves R) (h : Grown R d E sz M w base v els xs) (hM : ∀ b, M b → b < base) : ∃ a c, v = .slice a els.length c ∧ SlOf M w sz (R M w) d a els.length c xs :=
  OwnEls.sl h.own (fun b hb hm => by have := (h.own.lt b hb).1; have := hM b hm; omega) h.len fun i hi => hR (h.el i hi) (Keeps.refl Nil w) (fun _ _ h => h.elim) fun _ _ => .inl
end
theorem RZ.moves : Moves RZ := fun _ _ _ _ _ _ _ h k h1 h2 => h.move k h1 h2
theorem RBools.moves : Moves RBools := fun _ _ _ _ _ _ _ h k h1 h2 => h.move k h1 h2
theorem MB.and {M : Nat → Prop} {w w' : World} {base : Nat} {E : TypeId} {sz : Nat} {v : Value} {els : List (List Value)} (h : MB M w') (ho : OwnEls w base E sz v els) (k : w.heap.size ≤ w'.heap.size) : MB (And' M v) w' := fun b hb => by
  rcases hb with hb | hb
  · exact h b hb
  · have := (ho.lt b hb).2; omega
end Go.Rid
namespace Go.Proofs.YtfkclbhddiidbaaGreat
open Go.RowKit Go.Rid

theorem info_Int : (Tryz.prog.info? 38).map (fun i => (i.zero, i.size, i.bytes)) = some (some (.agg #[.bool false, .slice none 0 0]), 2, 32) := by kernel_rfl
theorem take_zth {zs : List Int} {k : Nat} (h : k < zs.length) : zs.take (k + 1) = zs.take k ++ [zth zs k] := by rw [List.take_succ_eq_append_getElem h, zth_lt h]
def ListRet (M : Nat → Prop) (w : World) (zs : List Int) (e : Ending) (w' : World) : Prop := ∃ a c, e = .returned (.slice a zs.length c) ∧ ZInts M w' a zs.length c zs ∧ Keeps Nil w w'
set_option maxHeartbeats 2000000 in
theorem cuts_any {M M' : Nat → Prop} {p : Nat} {S : PSet} {w : World} (hM : MB M w) (hs : SetAt M' w p S) (hf : Fine S) :
    Calls Tryz.prog 18 #[.pointer (some ⟨p, 0, none⟩)] w fun e w' => ListRet M w S.cuts e w' := by
  obtain ⟨ac, nc, cc, ar, nr, cr, q1, _, q3, _⟩ := hs
  obtain ⟨i1, hi1⟩ := info_parts info_Int
  have HI := Lib.hid hi1
  have hnc : nc = S.cuts.length := q3.len.symm
  obtain ⟨d0, d1, d2⟩ := q1.three
  have hfew := hf.few
  have hcap := q3.cap
  have hle := q3.le
  have HM := Lib.hid hM
  have HF := Lib.hid hf
  have HS := Lib.hid q3
  have HN := Lib.hid hnc
  have hn1 : nc ≤ 1000 := by omega
  clear hM hf q3 hfew q1 hnc hi1
  go_enter Tryz.func18, Tryz.ntmps18
  go_wp2_with fail
  go_loopw [3, 13] (fun v i wr => ∃ (k : Nat) (els : List (List Value)), k ≤ nc ∧ i = .int .i64 k ∧ els.length = k ∧ Keeps Nil w wr ∧ Grown RZ 0 38 2 M wr w.heap.size v els (S.cuts.take k)) (fun _ i _ => nc - (intOf i).toNat)
  case atStart => exact ⟨0, [], Nat.zero_le _, rfl, rfl, Keeps.refl _ _, Grown.nil⟩
  case round =>
    obtain ⟨k, els, hk, rfl, hel, hkk, hg⟩ := hrel
    have HKK := Lib.hid hkk
    have HG := Lib.hid hg
    have HEL := Lib.hid hel
    clear hg hel
    by_cases hlt : k < nc
    · obtain ⟨b, off, g', a', n', c', hae, hb, _, e0, e1, hz⟩ := (HS.out.keepNil hkk).at hlt
      subst hae
      have lb := Live.of hb
      have hzfit := HF.out.fit4 (zth S.cuts k) (by rw [zth_lt (by have := HN.out; omega)]; exact List.getElem_mem _)
      have HZ := Lib.hid (hz.toNil.zat hzfit)
      have HMV := Lib.hid (MB.and (HM.out.keep hkk) HG.out.own (Nat.le_refl _))
      clear hz hkk hzfit
      go_wp2_with (first | (go_at_call 59; refine (norm_any (M := And' M u3) (HMV.out.keep (M' := Nil) (by repeat (first | exact Keeps.refl _ _ | refine Keeps.drew ?_ | refine Keeps.drewN ?_ _ | refine Keeps.alloc ?_ _))) (HZ.out.keepNil (by repeat (first | exact Keeps.refl _ _ | refine Keeps.drew ?_ | refine Keeps.drewN ?_ _ | refine Keeps.alloc ?_ _)))).mono ?_; rintro e w1 ⟨g1, a1, n1, m1, rfl, h1, hk1⟩; have HK1 := Lib.hid (show Keeps Nil wr w1 from (by repeat (first | exact Keeps.refl _ _ | assumption | refine Keeps.drew ?_ | refine Keeps.drewN ?_ _ | refine Keeps.alloc ?_ _ | exact Keeps.of_nil (by assumption) | refine Keeps.trans ?_ (Keeps.of_nil (by assumption)) | refine Keeps.setCell ?_ (.inr (by first | exact Nat.le_refl _ | (dsimp only; omega))) _ | refine Keeps.setCell ?_ (.inl (by first | (unfold Old; dsimp only; omega) | (unfold Old; simp; omega) | (unfold Old; simp))) _))); have H1 := Lib.hid h1; clear h1 hk1) | (at_builtin; refine wpList_append_els _ rfl (.tmp 17) (.tmp 20) 23 rfl w.heap.size 38 i1 (.agg #[.bool false, .slice none 0 0]) 2 32 Tryz.underlying23 HI.out.1 HI.out.2.1 HI.out.2.2.1 HI.out.2.2.2 rfl (by decide) u3 els rfl ((HG.out.own.keepNil HK1.out).keepNil (by repeat (first | exact Keeps.refl _ _ | refine Keeps.drew ?_ | refine Keeps.drewN ?_ _ | refine Keeps.alloc ?_ _))) ⟨w1.heap.size, 0, none⟩ 1 1 [[.bool g1, .slice a1 n1 m1]] rfl rfl (by simp) (alloc_news _ _ _) (by simp [Value.oneCell']) (by rw [HEL.out]; omega) (by rw [HEL.out]; omega) (by have := HKK.out.size; have := HK1.out.size; simp; omega) ?_; intro v' w2 ho hk2 hf2 _; have HO := Lib.hid (And.intro ho (And.intro hk2 hf2)); clear ho hk2 hf2))
      go_roundw
      case rel => exact ⟨k + 1, els ++ [[.bool g1, .slice a1 n1 m1]], by omega, by go_num, by rw [List.length_append, HEL.out]; rfl, (((HKK.out.trans HK1.out).trans (by repeat (first | exact Keeps.refl _ _ | refine Keeps.drew ?_ | refine Keeps.drewN ?_ _ | refine Keeps.alloc ?_ _))).trans' HO.out.2.1 (fun b hb => .inr (HG.out.own.lt b hb).1)), by rw [take_zth (by have := HN.out; omega)]; exact Grown.snoc RZ.moves ((HG.out.keepNil RZ.moves HK1.out).keepNil RZ.moves (by repeat (first | exact Keeps.refl _ _ | refine Keeps.drew ?_ | refine Keeps.drewN ?_ _ | refine Keeps.alloc ?_ _))) ⟨g1, a1, n1, m1, rfl, H1.out.keepNil (by repeat (first | exact Keeps.refl _ _ | refine Keeps.drew ?_ | refine Keeps.drewN ?_ _ | refine Keeps.alloc ?_ _))⟩ HO.out.1 HO.out.2.1 HO.out.2.2⟩
      case measure => simp [intOf]; omega
    · obtain rfl : k = nc := by omega
      obtain ⟨a', c', hv, hL⟩ := HG.out.sl RZ.moves (fun b hb => HM.out b hb)
      subst hv
      have HL := Lib.hid hL
      clear hL hkk
      go_wp2_with fail
      go_ret
      have hL := HL.out
      rw [List.take_of_length_le (by have := HN.out; omega)] at hL
      rw [HEL.out, HN.out] at hL ⊢
      exact ⟨_, _, rfl, hL, HKK.out⟩
end Go.Proofs.YtfkclbhddiidbaaGreat
