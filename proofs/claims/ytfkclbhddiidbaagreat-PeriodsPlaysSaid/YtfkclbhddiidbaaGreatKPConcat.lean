/- What slices.Concat does at lists of numbers: one list in new memory. Conditions: the lists' own reading; room. -/
import Derived.Test.YtfkclbhddiidbaaGreatKGrow
import Derived.Shelf.Spec.SlicesGrow
import Derived.Laws.AppendOwnNone

namespace Go.Rid
open Go.RowKit
/-- The cells of a slice's elements, one behind the other. -/
theorem SlOf.news {α : Type} {M : Nat → Prop} {w : World} {sz : Nat} {R : List Value → α → Prop} {d : α} {p : Addr} {n c : Nat} {xs : List α} (h : SlOf M w sz R d (some p) n c xs) (h0 : 0 < n) (hsz : 0 < sz) :
    ∃ new : List (List Value), new.length = n ∧ (∀ c ∈ new, c.length = sz) ∧ (∀ j u, new.flatten[j]? = some u → w.cell? (p.add j) = some u) ∧ (∀ i, i < n → R (new.getD i []) (xs.getD i d)) ∧ p.block < w.heap.size := by
  obtain ⟨f, h1, h2⟩ := h.ex
  obtain ⟨hs, hb, hn, hc⟩ := h1.some p rfl h0
  obtain ⟨b, off, spot⟩ := p
  subst hs
  have hel : ∀ i, i < n → ((List.range n).map f).getD i [] = f i := fun i hi => by simp [List.getD, hi]
  have hlen : ∀ c ∈ (List.range n).map f, c.length = sz := fun c hc => by
    obtain ⟨i, hi, rfl⟩ := List.mem_map.1 hc
    exact (h2 i (by simpa using hi)).1
  refine ⟨(List.range n).map f, by simp, hlen, fun j u hj => ?_, ⟨fun i hi => by rw [hel i hi]; exact (h2 i hi).2, hb⟩⟩
  have hjl : j < n * sz := by
    have := (List.getElem?_eq_some_iff.1 hj).1
    rw [length_flatten_sz _ hlen] at this
    simpa using this
  have hi : j / sz < n := Nat.div_lt_of_lt_mul (by rwa [Nat.mul_comm] at hjl)
  have hm : j % sz < sz := Nat.mod_lt _ hsz
  have hf := flatten_get ((List.range n).map f) hlen (j / sz) (j % sz) (by simpa using hi) hm
  have hdm : j / sz * sz + j % sz = j := Nat.div_add_mod' j sz
  rw [hdm, hel _ hi] at hf
  rw [hj] at hf
  cases hf
  have := hc (j / sz) (j % sz) hi hm
  rw [Nat.add_assoc, hdm] at this
  rw [Addr.add_lit]; exact this
section
variable {α : Type} {R : (Nat → Prop) → World → List Value → α → Prop} {d : α} {E : TypeId} {sz : Nat} {M : Nat → Prop} {w w' : World} {base : Nat} {v v' : Value} {els new : List (List Value)} {xs ys : List α}
theorem getD_append_lt {β : Type} (l m : List β) (d : β) {i : Nat} (h : i < l.length) : (l ++ m).getD i d = l.getD i d := by simp [List.getD, List.getElem?_append_left h]
theorem getD_append_ge {β : Type} (l m : List β) (d : β) {i : Nat} (h : l.length ≤ i) : (l ++ m).getD i d = m.getD (i - l.length) d := by simp [List.getD, List.getElem?_append_right h]
theorem Grown.append (hR : Moves R) (h : Grown R d E sz M w base v els xs) (hl : ys.length = new.length) (hc : ∀ i, i < new.length → R (And' M v) w (new.getD i []) (ys.getD i d)) (ho : OwnEls w' base E sz v' (els ++ new)) (k : Keeps (Own v) w w') (hf : Fresh w v v') : Grown R d E sz M w' base v' (els ++ new) (xs ++ ys) := by
  have h2 : ∀ b, b < w.heap.size → And' M v' b → And' M v b := fun b hb hm => by
    rcases hm with hm | hm
    · exact .inl hm
    · rcases hf b hm with h' | h'
      · exact .inr h'
      · omega
  refine ⟨ho, by simp [h.len, hl], fun i hi => ?_⟩
  rcases Nat.lt_or_ge i els.length with hi' | hi'
  · rw [getD_append_lt _ _ _ hi', getD_append_lt _ _ _ (by rw [h.len]; exact hi')]
    exact hR (h.el i hi') k (fun b _ hb => .inr hb) h2
  · rw [getD_append_ge _ _ _ hi', getD_append_ge _ _ _ (by rw [h.len]; exact hi'), h.len]
    rw [List.length_append] at hi
    exact hR (hc _ (by omega)) k (fun b _ hb => .inr hb) h2
end
/-- Lists of numbers. -/
def RZs (M : Nat → Prop) (w : World) (cs : List Value) (zs : List Int) : Prop := ∃ a n c, cs = [.slice a n c] ∧ ZInts M w a n c zs
def ZLists (M : Nat → Prop) (w : World) (a : Option Addr) (n c : Nat) (zss : List (List Int)) : Prop := SlOf M w 1 (RZs M w) [] a n c zss
theorem ZLists.keepNil {M : Nat → Prop} {w w' : World} {a : Option Addr} {n c : Nat} {zss : List (List Int)} (h : ZLists M w a n c zss) (k : Keeps Nil w w') : ZLists M w' a n c zss :=
  SlOf.keep h k (fun _ _ h => h.elim) fun _ _ ⟨a, n, c, e, q⟩ => ⟨a, n, c, e, q.keepNil k⟩
theorem ZLists.at {M : Nat → Prop} {w : World} {a : Option Addr} {n c : Nat} {zss : List (List Int)} (h : ZLists M w a n c zss) {i : Nat} (hi : i < n) :
    ∃ b off a' n' c', a = some ⟨b, off, none⟩ ∧ b < w.heap.size ∧ ¬ M b ∧ w.cell? ⟨b, off + i, none⟩ = some (.slice a' n' c') ∧ ZInts M w a' n' c' (zss.getD i []) := by
  obtain ⟨b, off, cs, rfl, hb, hn, hl, hc, a', n', c', rfl, hz⟩ := SlOf.at h hi
  exact ⟨b, off, a', n', c', rfl, hb, hn, by simpa using hc 0 (by omega), hz⟩
/-- How many in all. -/
def total (zss : List (List Int)) (k : Nat) : Nat := ((zss.take k).flatten).length
theorem flat_succ {zss : List (List Int)} {k : Nat} (h : k < zss.length) : (zss.take (k + 1)).flatten = (zss.take k).flatten ++ zss.getD k [] := by
  rw [List.take_succ_eq_append_getElem h, List.flatten_append]; simp [List.getD, List.getElem?_eq_getElem h]
theorem total_succ {zss : List (List Int)} {k : Nat} (h : k < zss.length) : total zss (k + 1) = total zss k + (zss.getD k []).length := by
  unfold total; rw [flat_succ h, List.length_append]
theorem total_le {zss : List (List Int)} (k : Nat) : total zss k ≤ zss.flatten.length := by
  have h := List.take_append_drop k zss
  have : zss.flatten = (zss.take k).flatten ++ (zss.drop k).flatten := by rw [← List.flatten_append, h]
  rw [this, List.length_append]; unfold total; omega
end Go.Rid
namespace Go.Proofs.YtfkclbhddiidbaaGreat
open Go.RowKit Go.Rid

theorem zeroCells_length (n : Nat) : (Builtin.zeroCells (Value.agg #[.bool false, .slice none 0 0]).cells n).size = n * 2 := by
  simp [Builtin.zeroCells, Value.cells]
set_option maxHeartbeats 1000000 in
theorem grow_zero (w : World) : Calls Tryz.prog 101 #[.slice none 0 0, .int .i64 0] w fun e w' => e = .returned (.slice none 0 0) ∧ w = w' := by
  go_enter Tryz.func101, Tryz.ntmps101
  go_wp2
  go_ret
  exact ⟨rfl, rfl⟩
set_option maxHeartbeats 1000000 in
theorem grow_nil {n : Nat} (w : World) (h0 : 0 < n) (h1 : n ≤ 4000) : Calls Tryz.prog 101 #[.slice none 0 0, .int .i64 n] w fun e w' => ∃ v, e = .returned v ∧ OwnEls w' w.heap.size 38 2 v [] ∧ Keeps Nil w w' := by
  obtain ⟨i0, hi, hz0, hz1, hz2⟩ := info_parts info_Int
  have h := fun ty => Lib.run_append_grow_zeros w 23 3 ty 38 i0 (.agg #[.bool false, .slice none 0 0]) .i64 .i64 Tryz.underlying23 Tryz.underlying3 hi hz0 none 0 0 [] (run_firstCells_none w.drew i0.size 0 0 0) n h0 (by rw [hz1]; decide) (by omega) (by omega) (by rw [hz2]; omega) (by rw [hz2, Nat.zero_add]; exact growslice_fits (by omega) (by omega))
  simp only [Nat.zero_add] at h
  have hG1 : n ≤ grownCap w n 0 38 := grownCap_ge w _ _ _
  have hG2 := grownCap_le_maxLen w n 0 38 (by unfold maxLen; omega)
  unfold maxLen at hG2
  have HC := Lib.hid (show ∀ G, n ≤ G → (([] : List Value).toArray ++ Builtin.zeroCells (Value.agg #[.bool false, .slice none 0 0]).cells n ++ Builtin.zeroCells (Value.agg #[.bool false, .slice none 0 0]).cells (G - n)).size = G * 2 from fun G hG => by
    simp [zeroCells_length]; omega)
  generalize grownCap w n 0 38 = G at *
  generalize hX : ([] : List Value).toArray ++ Builtin.zeroCells (Value.agg #[.bool false, .slice none 0 0]).cells n ++ Builtin.zeroCells (Value.agg #[.bool false, .slice none 0 0]).cells (G - n) = X at *
  have HX := Lib.hid hX
  have h0' : ¬ (n : Int) < 0 := by omega
  have h0'' : (0 : Int) < (n : Int) := by omega
  clear hi hz0 hz1 hz2 hX
  go_enter Tryz.func101, Tryz.ntmps101
  go_wp2_with (at_builtin; refine Lib.wpList_append_run _ rfl _ _ _ _ rfl _ _ rfl rfl _ _ (h _) ?_)
  go_ret
  have hs := HC.out G hG1
  rw [HX.out] at hs
  refine ⟨_, rfl, ⟨⟨rfl, .inr ⟨w.heap.size, G, X, rfl, Nat.le_refl _, ?_, Nat.zero_le _, by unfold maxLen; omega, by rw [hs], rfl⟩⟩, by simp⟩, (by repeat (first | exact Keeps.refl _ _ | refine Keeps.drew ?_ | refine Keeps.drewN ?_ _ | refine Keeps.alloc ?_ _))⟩
  exact heap_alloc_new w.drew _

/-- One list in new memory, that says this. -/
def GrownRet (M : Nat → Prop) (w : World) (zs : List Int) (e : Ending) (w' : World) : Prop := ∃ v els, e = .returned v ∧ Grown RZ 0 38 2 M w' w.heap.size v els zs ∧ Keeps Nil w w'
set_option maxHeartbeats 2000000 in
theorem concat_any {M : Nat → Prop} {a : Option Addr} {n c : Nat} {zss : List (List Int)} {w : World} (hM : MB M w) (h : ZLists M w a n c zss) (hn : n ≤ 4) (hl : zss.flatten.length ≤ 2000) :
    Calls Tryz.prog 69 #[.slice a n c] w fun e w' => GrownRet M w zss.flatten e w' := by
  obtain ⟨i1, hi1⟩ := info_parts info_Int
  have HI := Lib.hid hi1
  have HM := Lib.hid hM
  have HH := Lib.hid h
  have HN := Lib.hid h.len
  have hcap := h.cap
  have hle := h.le
  have HT := Lib.hid (fun k => Nat.le_trans (total_le (zss := zss) k) hl)
  clear h hM hi1
  go_enter Tryz.func69, Tryz.ntmps69
  go_wp2_with fail
  go_loop [3, 11] (fun s i => ∃ k : Nat, k ≤ n ∧ i = .int .i64 k ∧ s = .int .i64 (total zss k : Int)) (fun _ i => n - (intOf i).toNat)
  case atStart => exact ⟨0, Nat.zero_le _, rfl, rfl⟩
  case round =>
    obtain ⟨k, hk, rfl, rfl⟩ := hrel
    have ht := HT.out k
    by_cases hlt : k < n
    · obtain ⟨b, off, a', n', c', hae, hb, _, e0, hz⟩ := HH.out.at hlt
      subst hae
      have hts := total_succ (zss := zss) (k := k) (by rw [HN.out]; exact hlt)
      have ht2 := HT.out (k + 1)
      rw [hz.len] at hts
      have hn' : n' ≤ 2000 := by omega
      have HTS := Lib.hid hts
      clear hts ht2 hz
      have ht0 : ¬ ((total zss k : Int) + (n' : Int)) < 0 := by omega
      go_wp2_with fail
      go_round
      case rel => exact ⟨k + 1, by omega, by go_num, by rw [HTS.out]; go_num⟩
      case measure => simp [intOf]; omega
    · obtain rfl : k = n := by omega
      have hfl : total zss k = zss.flatten.length := by unfold total; rw [List.take_of_length_le (by rw [HN.out]; exact Nat.le_refl _)]
      have HFL := Lib.hid hfl
      have HG0 : Hid (Calls Tryz.prog 101 #[.slice none 0 0, .int .i64 (total zss k : Int)] w fun e w' => ∃ v, e = .returned v ∧ OwnEls w' w.heap.size 38 2 v [] ∧ Keeps Nil w w') := Lib.hid (by
        rcases Nat.eq_zero_or_pos (total zss k) with h0 | h0
        · rw [h0]
          exact (grow_zero w).mono fun e w' ⟨he, hw⟩ => ⟨_, he, by subst hw; exact ⟨OwnEls.nil _ _ _ _, Keeps.refl _ _⟩⟩
        · exact grow_nil w h0 (by omega))
      clear hfl
      go_wp2_with (go_at_call 101; refine HG0.out.mono ?_; rintro e w1 ⟨v0, rfl, ho, hk1⟩; have HO := Lib.hid (And.intro ho hk1); clear ho hk1)
      go_loopw [6, 27] (fun v i wr => ∃ (j : Nat) (els : List (List Value)), j ≤ k ∧ i = .int .i64 j ∧ els.length = total zss j ∧ Keeps Nil w wr ∧ Grown RZ 0 38 2 M wr w.heap.size v els (zss.take j).flatten) (fun _ i _ => k - (intOf i).toNat)
      case atStart => exact ⟨0, [], Nat.zero_le _, rfl, rfl, HO.out.2, ⟨HO.out.1, rfl, fun i hi => by simp at hi⟩⟩
      case round =>
        obtain ⟨j, els, hj, rfl, hel, hkk, hg⟩ := hrel
        have HKK := Lib.hid hkk
        have HG := Lib.hid hg
        have HEL := Lib.hid hel
        clear hg hel
        by_cases hjt : j < k
        · obtain ⟨b, off, a', n', c', hae, hb, _, e0w, hz⟩ := HH.out.at hjt
          subst hae
          have e0 := hkk.cellE hb id e0w
          have lb := Live.of (Nat.lt_of_lt_of_le hb hkk.size)
          have hts := total_succ (zss := zss) (k := j) (by rw [HN.out]; exact hjt)
          have ht1 := HT.out j
          have ht2 := HT.out (j + 1)
          rw [hz.len] at hts
          have hn' : n' ≤ 2000 := by omega
          have HTS := Lib.hid hts
          clear hts ht2
          have HZ := Lib.hid hz
          cases a' with
          | none =>
            obtain ⟨rfl, rfl⟩ := SlOf.none hz
            have hze : zss.getD j [] = [] := List.eq_nil_of_length_eq_zero hz.len
            have HZE := Lib.hid hze
            clear hz hkk hze e0w
            go_wp2_with (at_builtin; refine wpList_append_own_none rfl _ _ 23 rfl w.heap.size 38 i1 2 Tryz.underlying23 HI.out.1 _ _ _ rfl HG.out.own.row rfl ?_)
            go_roundw
            case rel => exact ⟨j + 1, els, by omega, by go_num, by rw [HTS.out, HEL.out]; rfl, HKK.out, by rw [flat_succ (by rw [HN.out]; exact hjt), HZE.out, List.append_nil]; exact HG.out⟩
            case measure => simp [intOf]; omega
          | some p =>
            obtain ⟨new, hnl, hnsz, hnews, hnr⟩ : ∃ new : List (List Value), new.length = n' ∧ (∀ c ∈ new, c.length = 2) ∧ (∀ j u, new.flatten[j]? = some u → wr.cell? (p.add j) = some u) ∧ (∀ i, i < n' → RZ M w (new.getD i []) ((zss.getD j []).getD i 0)) := by
              rcases Nat.eq_zero_or_pos n' with h0 | h0
              · exact ⟨[], by simp [h0], by simp, by simp, fun i hi => by omega⟩
              · obtain ⟨new, q1, q2, q3, q4, q5⟩ := SlOf.news hz h0 (by decide)
                exact ⟨new, q1, q2, fun j u hj => (hkk.cell (p := p.add j) (by cases p; unfold Addr.add; split <;> exact q5) id).trans (q3 j u hj), q4⟩
            have h1c : ∀ u ∈ new.flatten, u.oneCell' = true := by
              intro u hu
              obtain ⟨c, hc, hu⟩ := List.mem_flatten.1 hu
              obtain ⟨i, hi, rfl⟩ := List.mem_iff_getElem.1 hc
              obtain ⟨s, a, m, cc, e, _⟩ := hnr i (by omega)
              rw [show new.getD i [] = new[i] by simp [List.getD, List.getElem?_eq_getElem hi]] at e
              rw [e] at hu
              simp at hu
              rcases hu with rfl | rfl <;> rfl
            have HNW := Lib.hid (And.intro hnl (And.intro hnsz (And.intro hnews (And.intro hnr (And.intro h1c hz.len)))))
            clear hz hkk e0w hnl hnsz hnews hnr h1c
            go_wp2_with (at_builtin; refine wpList_append_els _ rfl (.tmp 31) (.tmp 32) 23 rfl w.heap.size 38 i1 (.agg #[.bool false, .slice none 0 0]) 2 32 Tryz.underlying23 HI.out.1 HI.out.2.1 HI.out.2.2.1 HI.out.2.2.2 rfl (by decide) u6 els rfl HG.out.own p c' n' new rfl HNW.out.1 HNW.out.2.1 HNW.out.2.2.1 HNW.out.2.2.2.2.1 (by rw [HEL.out]; omega) (by rw [HEL.out]; omega) HKK.out.size ?_; intro v' w2 ho hk2 hf2 _; have HO2 := Lib.hid (And.intro ho (And.intro hk2 hf2)); clear ho hk2 hf2)
            go_roundw
            case rel => exact ⟨j + 1, els ++ new, by omega, by go_num, by rw [List.length_append, HEL.out, HNW.out.1, HTS.out], HKK.out.trans' HO2.out.2.1 (fun b hb => .inr (HG.out.own.lt b hb).1), by
              rw [flat_succ (by rw [HN.out]; exact hjt)]
              exact Grown.append RZ.moves HG.out (by rw [HNW.out.1]; exact HNW.out.2.2.2.2.2) (fun i hi => (HNW.out.2.2.2.1 i (by rw [← HNW.out.1]; exact hi)).move HKK.out (fun _ _ h => h.elim) fun b hb hm => by
                rcases hm with hm | hm
                · exact hm
                · have := (HG.out.own.lt b hm).1; omega) HO2.out.1 HO2.out.2.1 HO2.out.2.2⟩
            case measure => simp [intOf]; omega
        · obtain rfl : j = k := by omega
          clear hkk
          go_wp2_with fail
          go_ret
          have hg := HG.out
          rw [List.take_of_length_le (by rw [HN.out]; exact Nat.le_refl _)] at hg
          exact ⟨_, els, rfl, hg, HKK.out⟩
end Go.Proofs.YtfkclbhddiidbaaGreat
