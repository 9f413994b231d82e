/- What (*periods.Set).Rest does: a set in new memory. Conditions: the set's own reading. -/
import Derived.Test.YtfkclbhddiidbaaGreatKPMerged
import Derived.Test.YtfkclbhddiidbaaGreatKPMade
import Derived.Test.YtfkclbhddiidbaaGreatKPClass
namespace Go.Rid
open Go.RowKit
theorem ptrs1 {M : Nat → Prop} {w : World} {g : Nat} {E : TypeId} {p : Option Nat} (h : RowIs w g E [ptrV p]) (hM : ¬ M g) : Sl M w 1 (some ⟨g, 0, none⟩) 1 1 (fun i _ => ptrV ([p].getD i none)) :=
  ⟨Nat.le_refl _, by decide, (fun h => by cases h), fun q hq _ => by
    cases hq
    refine ⟨rfl, h.lt, hM, fun i j hi hj => ?_⟩
    obtain rfl : i = 0 := by omega
    obtain rfl : j = 0 := by omega
    exact h.cell 0⟩
theorem ptrs2 {M : Nat → Prop} {w : World} {g : Nat} {E : TypeId} {p q : Option Nat} (h : RowIs w g E [ptrV p, ptrV q]) (hM : ¬ M g) : Sl M w 1 (some ⟨g, 0, none⟩) 2 2 (fun i _ => ptrV ([p, q].getD i none)) :=
  ⟨Nat.le_refl _, by decide, (fun h => by cases h), fun r hr _ => by
    cases hr
    refine ⟨rfl, h.lt, hM, fun i j hi hj => ?_⟩
    obtain rfl : j = 0 := by omega
    rcases (show i = 0 ∨ i = 1 by omega) with rfl | rfl
    · exact h.cell 0
    · exact h.cell 1⟩
theorem OwnEls.isSlice {w : World} {base : Nat} {E : TypeId} {sz : Nat} {v : Value} {els : List (List Value)} (h : OwnEls w base E sz v els) : ∃ a c, v = .slice a els.length c := by
  rcases h.form with ⟨h1, h2⟩ | ⟨g, cap, rest, h1, _⟩
  · subst h2; exact ⟨none, 0, h1⟩
  · exact ⟨_, _, h1⟩
theorem take_get {β : Type} (l : List β) (d : β) {k : Nat} (h : k < l.length) : l.take (k + 1) = l.take k ++ [l.getD k d] := by
  rw [List.take_succ_eq_append_getElem h]; simp [List.getD, List.getElem?_eq_getElem h]
theorem not_step (l : List Bool) {n i : Nat} (hl : l.length = n) (hi : i < n) : (((l.take i).map (fun b => Value.bool (!b))) ++ zeros (n - i) (.bool false)).set i (.bool (!l.getD i false)) = ((l.take (i + 1)).map (fun b => Value.bool (!b))) ++ zeros (n - (i + 1)) (.bool false) := by
  rw [take_get l false (by omega), List.map_append, List.set_append_right _ _ (by simp; omega), List.length_map, List.length_take, Nat.min_eq_left (by omega), Nat.sub_self]
  have : zeros (n - i) (Value.bool false) = .bool false :: zeros (n - (i + 1)) (.bool false) := by
    unfold zeros; rw [show n - i = (n - (i + 1)) + 1 by omega, List.replicate_succ]
  rw [this]; simp
end Go.Rid
namespace Go.Proofs.YtfkclbhddiidbaaGreat
open Go.RowKit Go.Rid
theorem info_row : (Tryz.prog.info? 59).map (fun i => (i.zero, i.size, i.bytes)) = some (some (.slice none 0 0), 1, 24) := by kernel_rfl
set_option maxHeartbeats 4000000 in
set_option maxRecDepth 100000 in
theorem rest_any {M : Nat → Prop} {p : Nat} {S : PSet} {w : World} (hM : MB M w) (hs : SetAt M w p S) (hf : Fine S) :
    Calls Tryz.prog 26 #[.pointer (some ⟨p, 0, none⟩)] w fun e w' => SetRet M w (restOf S) e w' := by
  obtain ⟨i0, hi0⟩ := info_parts info_bool
  obtain ⟨i1, hi1⟩ := info_parts info_row
  have HI := Lib.hid (And.intro hi0 hi1)
  have HM := Lib.hid hM
  have HS := Lib.hid hs
  have HF := Lib.hid hf
  obtain ⟨ac, nc, cc, ar, nr, cr, q1, _, q3, q4⟩ := hs
  obtain ⟨d0, d1, d2⟩ := q1.three
  have b1 := Live.of q1.lt
  have hnr : nr = S.rows.length := q4.len.symm
  have hcap := q4.cap
  have hle := q4.le
  have hfew := hf.few
  have hlen := hf.ok.len
  have hnr2 : nr ≤ 1001 := by omega
  have HQ := Lib.hid (And.intro q3 (And.intro q4 hnr))
  obtain ⟨la, ls, ld, ln, ln', ln1, ln1', lc, lf⟩ := liveRules
  have HMD : Hid (∀ W : World, Keeps Nil w W → RowIs W w.heap.size 25 [ptrV (some p)] → Calls Tryz.prog 34 #[.slice (some ⟨w.heap.size, 0, none⟩) 1 1] W fun e w' => e = .returned (.bool true) ∧ W = w') := Lib.hid (fun W k hr =>
    (made_sets (M := Nil) (ps := [some p]) rfl (ptrs1 hr id) (fun x hx => by
      obtain rfl : x = p := by simpa using hx
      exact ⟨S, (HS.out.keepNil k).toNil, HF.out⟩)).mono fun e w' ⟨he, hw⟩ => ⟨by rw [he]; rfl, hw⟩)
  clear hM hf q1 q3 q4 hi0 hi1 hnr hfew hlen
  go_enter Tryz.func26, Tryz.ntmps26
  go_wp2_with (go_at_call 34; refine (HMD.out _ (by repeat (first | exact Keeps.refl _ _ | refine Keeps.drew ?_ | refine Keeps.drewN ?_ _ | refine Keeps.alloc ?_ _)) (RowIs.alloc (xs := [ptrV (some p)]))).mono ?_; rintro e w1 ⟨rfl, rfl⟩)
  have hk0 : Keeps Nil w (w.alloc (.cells #[ptrV (some p)] 25)) := (by repeat (first | exact Keeps.refl _ _ | refine Keeps.drew ?_ | refine Keeps.drewN ?_ _ | refine Keeps.alloc ?_ _))
  have d0' := hk0.cellE b1.lt id d0
  have d1' := hk0.cellE b1.lt id d1
  have d2' := hk0.cellE b1.lt id d2
  have b1' := Live.of (Nat.lt_of_lt_of_le b1.lt hk0.size)
  clear HMD d0 d1 d2 b1
  generalize w.alloc (.cells #[ptrV (some p)] 25) = w0 at *
  go_region_held3 (fun w' => w'.cell? ⟨p, 0, none⟩ = some (.int .i64 S.P) ∧ w'.cell? ⟨p, 1, none⟩ = some (.slice ac nc cc)) (go_keep) (fail)
  obtain ⟨w1, hw1⟩ : ∃ w1, w1 = (w0.alloc (.cells #[.int .i64 S.P, .slice ac nc cc, .slice none 0 0] 70)).drew := ⟨_, rfl⟩
  have hk1 : Keeps Nil w0 w1 := by rw [hw1]; exact (by repeat (first | exact Keeps.refl _ _ | refine Keeps.drew ?_ | refine Keeps.drewN ?_ _ | refine Keeps.alloc ?_ _))
  have r1 : RowIs w1 w0.heap.size 70 [.int .i64 S.P, .slice ac nc cc, .slice none 0 0] := by rw [hw1]; exact (RowIs.alloc (w := w0) (xs := [.int .i64 S.P, .slice ac nc cc, .slice none 0 0])).keep (M := Nil) (by repeat (first | exact Keeps.refl _ _ | refine Keeps.drew ?_ | refine Keeps.drewN ?_ _ | refine Keeps.alloc ?_ _)) id
  rw [← hw1]
  have d2'' := hk1.cellE b1'.lt id d2'
  have b1'' := Live.of (Nat.lt_of_lt_of_le b1'.lt hk1.size)
  have HK1 := Lib.hid (And.intro (hk0.trans hk1) (And.intro r1 hk0.size))
  clear hw1 hk0 hk1 r1 d0' d1' d2' b1'
  go_wp2_with fail
  go_loopw [27] (fun i wr => ∃ (k : Nat) (v : Value) (els : List (List Value)), k ≤ nr ∧ i = .int .i64 k ∧ els.length = k ∧ RowIs wr w0.heap.size 70 [.int .i64 S.P, .slice ac nc cc, v] ∧ Grown RBools [] 59 1 (With M w0.heap.size) wr (w0.heap.size + 1) v els ((S.rows.take k).map fun r => r.map not) ∧ Keeps Nil w wr) (fun i _ => nr - (intOf i).toNat)
  case atStart => exact ⟨0, .slice none 0 0, [], Nat.zero_le _, rfl, rfl, HK1.out.2.1, Grown.nil, HK1.out.1⟩
  case round =>
    rename World => wo
    obtain ⟨k, v, els, hk, rfl, hel, hrow, hg, hkk⟩ := hrel
    have HR := Lib.hid (And.intro hrow (And.intro hg (And.intro hkk hel)))
    have lr := hrow.lt
    by_cases hlt : k < nr
    · obtain ⟨b, off, a', n', c', hae, hb, _, e0, hB⟩ := (BRows.keepNil HQ.out.2.1 hkk).at hlt
      subst hae
      have lb := Live.of hb
      have lrr := Live.of lr
      have hn' : n' = S.P := by
        rw [← hB.1]; refine HF.out.ok.row _ ?_
        have : k < S.rows.length := by have := HQ.out.2.2; omega
        simp [List.getD, List.getElem?_eq_getElem this]
      have hP := HF.out.ok.pos
      have hP2 := HF.out.ok.le
      have capb := hB.2.cap
      have leb := hB.2.le
      subst hn'
      have HB := Lib.hid hB
      obtain ⟨x0, x1, x2⟩ := hrow.three
      obtain ⟨z0, z1, z2⟩ : wo.frozen? ⟨w0.heap.size, 0, none⟩ = false ∧ wo.frozen? ⟨w0.heap.size, 1, none⟩ = false ∧ wo.frozen? ⟨w0.heap.size, 2, none⟩ = false := ⟨hrow.frozen 0, hrow.frozen 1, hrow.frozen 2⟩
      clear hrow hg hkk hB hel lr
      go_wp2_with (at_make; refine wpList_make_row _ rfl _ _ 59 rfl 4 i0 (.bool false) Tryz.underlying59 HI.out.1.1 HI.out.1.2.1 HI.out.1.2.2.1 rfl .i64 .i64 _ _ S.P rfl rfl rfl rfl (by rw [HI.out.1.2.2.2]; omega) (by omega) ?_; intro w2 hrow2 hk2 hsz2; have HR2 := Lib.hid (And.intro hrow2 hk2); clear hrow2 hk2 hsz2)
      clear x0 x1 x2 z0 z1 z2
      have hne : ¬ w0.heap.size = wo.heap.size := by have := lrr.lt; omega
      go_loopw [36] (fun i wx => ∃ j : Nat, j ≤ S.P ∧ i = .int .i64 j ∧ RowIs wx wo.heap.size 4 ((((S.rows.getD k []).take j).map (fun b => Value.bool (!b))) ++ zeros (S.P - j) (.bool false)) ∧ Keeps Nil wo wx) (fun i _ => S.P - (intOf i).toNat)
      case atStart => exact ⟨0, Nat.zero_le _, rfl, by simpa using HR2.out.1, HR2.out.2⟩
      case round =>
        obtain ⟨j, hj, rfl, hrx, hkx⟩ := hrel
        have HX := Lib.hid (And.intro hrx hkx)
        by_cases hjt : j < S.P
        · obtain ⟨b2, off2, hae2, hb2, _, p0⟩ := (Bools.keepNil HB.out hkx).at hjt
          subst hae2
          have p1 := hrx.cell j
          have f1 := hrx.frozen j
          have hml : ((S.rows.getD k []).take j).length = j := by rw [List.length_take, HB.out.1, Nat.min_eq_left hj]
          rw [List.getElem?_append_right (by rw [List.length_map, hml]; exact Nat.le_refl _), List.length_map, hml, Nat.sub_self, show zeros (S.P - j) (Value.bool false) = .bool false :: zeros (S.P - j - 1) (.bool false) by unfold zeros; rw [show S.P - j = (S.P - j - 1) + 1 by omega, List.replicate_succ]; simp] at p1
          have p1' : wr.cell? ⟨wo.heap.size, j, none⟩ = some (.bool false) := p1
          have hjI : (j : Int) < (S.P : Int) := by omega
          have HNS := Lib.hid (not_step (S.rows.getD k []) HB.out.1 hjt)
          generalize hxx : (S.rows.getD k []).getD j false = x at *
          have HXX := Lib.hid hxx
          clear hrx hkx p1 hml hxx
          go_wp2_with fail
          go_roundw
          case rel => exact ⟨j + 1, by omega, by go_num, by have h := HX.out.1.set j (.bool (!x)); rw [HNS.out] at h; exact h, HX.out.2.own (Nat.le_refl _) ((Keeps.refl (One wo.heap.size) _).set1 j _)⟩
          case measure => simp [intOf]; omega
        · obtain rfl : j = S.P := by omega
          have hq := HR.out.1.keep hkx id
          obtain ⟨x0, x1, x2⟩ := hq.three
          have z2 := hq.frozen 2
          have hrx' := hrx
          rw [Nat.sub_self, show zeros 0 (Value.bool false) = [] from rfl, List.append_nil, List.take_of_length_le (by rw [HB.out.1]; exact Nat.le_refl _)] at hrx'
          have hown := HR.out.2.1.own.keepNil hkx
          have HO := Lib.hid (And.intro hq (And.intro hrx' (And.intro hown hkx)))
          have lq := hq.lt
          clear hq hrx' hown hrx hkx
          go_wp2_with (at_builtin; refine wpList_append_els _ rfl (.tmp 52) (.tmp 54) 68 rfl (w0.heap.size + 1) 59 i1 (.slice none 0 0) 1 24 Tryz.underlying68 HI.out.2.1 HI.out.2.2.1 HI.out.2.2.2.1 HI.out.2.2.2.2 rfl (by decide) v els rfl (HO.out.2.2.1.keepNil (by repeat (first | exact Keeps.refl _ _ | refine Keeps.drew ?_ | refine Keeps.drewN ?_ _ | refine Keeps.alloc ?_ _))) ⟨wr.heap.size, 0, none⟩ 1 1 [[.slice (some ⟨wo.heap.size, 0, none⟩) S.P S.P]] rfl rfl (by simp) (alloc_news _ _ _) (by simp [Value.oneCell']) (by rw [HR.out.2.2.2]; omega) (by rw [HR.out.2.2.2]; omega) (by simp; omega) ?_; intro v' w3 ho hk3 hf3 _; obtain ⟨a5, c5, rfl⟩ := ho.isSlice; have hq3 := (HO.out.1.keep (M := Nil) (by repeat (first | exact Keeps.refl _ _ | refine Keeps.drew ?_ | refine Keeps.drewN ?_ _ | refine Keeps.alloc ?_ _)) id).keep hk3 (fun hm => by have := (HR.out.2.1.own.lt _ hm).1; omega); obtain ⟨y0, y1, y2⟩ := hq3.three; have t2 := hq3.frozen 2; have HA := Lib.hid (And.intro ho (And.intro hk3 (And.intro hf3 hq3))); clear ho hk3 hf3 hq3)
          go_roundw
          case rel =>
            have hwo : w0.heap.size + 1 ≤ wo.heap.size := lrr.lt
            have hll : ((S.rows.getD k []).map not).length = S.P := by rw [List.length_map]; exact HB.out.1
            have hx0 : RowIs wr wo.heap.size 4 (((S.rows.getD k []).map not).map Value.bool) := by rw [List.map_map]; exact HO.out.2.1
            have hbx := Bools.ofRow (M := And' (With M w0.heap.size) v) hx0 (fun hm => by
              rcases hm with (hm | hm) | hm
              · have := HM.out _ hm; have := HK1.out.2.2; omega
              · exact hne hm.symm
              · have := (HR.out.2.1.own.lt _ hm).2; omega) (by omega)
            rw [hll] at hbx
            have hg2 := Grown.snoc RBools.moves ((HR.out.2.1.keepNil RBools.moves HO.out.2.2.2).keepNil RBools.moves (w' := wr.alloc (.cells #[.slice (some ⟨wo.heap.size, 0, none⟩) S.P S.P] 59)) (by repeat (first | exact Keeps.refl _ _ | refine Keeps.drew ?_ | refine Keeps.drewN ?_ _ | refine Keeps.alloc ?_ _))) (x := (S.rows.getD k []).map not) ⟨_, _, _, rfl, Bools.keepNil hbx (by repeat (first | exact Keeps.refl _ _ | refine Keeps.drew ?_ | refine Keeps.drewN ?_ _ | refine Keeps.alloc ?_ _))⟩ HA.out.1 HA.out.2.1 HA.out.2.2.1
            have hs1 := (Keeps.refl (One w0.heap.size) w3).set1 2 (.slice a5 (els.length + 1) c5)
            refine ⟨k + 1, _, els ++ [[.slice (some ⟨wo.heap.size, 0, none⟩) S.P S.P]], by omega, by go_num, by rw [List.length_append, HR.out.2.2.2]; rfl, HA.out.2.2.2.set 2 _, ?_, ?_⟩
            · rw [take_get S.rows [] (by have := HQ.out.2.2; omega), List.map_append]
              have hg3 := hg2.keep RBools.moves hs1 (fun b hb hm => by have := (HA.out.1.lt b hb).1; have : b = w0.heap.size := hm; omega) (fun b _ hm => .inr hm)
              simpa using hg3
            · exact (((HR.out.2.2.1.trans HO.out.2.2.2).trans (by repeat (first | exact Keeps.refl _ _ | refine Keeps.drew ?_ | refine Keeps.drewN ?_ _ | refine Keeps.alloc ?_ _))).trans' HA.out.2.1 (fun b hb => .inr (by have := (HR.out.2.1.own.lt b hb).1; have := HK1.out.2.2; omega))).own HK1.out.2.2 hs1
          case measure => simp [intOf]; omega
    · obtain rfl : k = nr := by omega
      obtain ⟨a5, c5, hv, hL⟩ := hg.sl RBools.moves (fun b hb => by rcases hb with hb | hb; have := HM.out b hb; have := HK1.out.2.2; omega; omega)
      subst hv
      have HL := Lib.hid (And.intro hrow (And.intro hL hkk))
      clear hrow hL hg hkk lr hel
      go_wp2_with fail
      go_ret
      have hL := HL.out.2.1
      rw [List.take_of_length_le (by have := HQ.out.2.2; omega)] at hL
      refine ⟨_, rfl, ⟨ac, nc, cc, a5, _, c5, HL.out.1, fun hm => by have := HM.out _ hm; have := HK1.out.2.2; omega, HQ.out.1.keepNil HL.out.2.2, ?_⟩, HL.out.2.2⟩
      exact BRows.move (M := With M w0.heap.size) hL (Keeps.refl Nil _) (fun _ _ h => h.elim) fun _ _ => .inl
end Go.Proofs.YtfkclbhddiidbaaGreat
