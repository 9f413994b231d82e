/- What periods.merged does: the cuts of two sets, rising, each once, in new memory. Conditions: the sets' own reading. -/
import Derived.Test.YtfkclbhddiidbaaGreatKPConcat
import Derived.Test.YtfkclbhddiidbaaGreatKPCompact
import Derived.Test.YtfkclbhddiidbaaGreatKPSet
import Derived.Shelf.SlSortCmp.NoneTotal
namespace Go.Rid
open Go.RowKit
theorem OwnEls.form {w : World} {base : Nat} {E : TypeId} {sz : Nat} {v : Value} {els : List (List Value)} (h : OwnEls w base E sz v els) :
    (v = .slice none 0 0 ∧ els = []) ∨ ∃ g cap rest, v = .slice (some ⟨g, 0, none⟩) els.length cap ∧ RowIs w g E (els.flatten ++ rest) ∧ els.length ≤ cap ∧ cap ≤ 9223372036854775807 ∧ base ≤ g ∧ v.ownBlock = some g := by
  rcases h.row.2 with ⟨h1, h2⟩ | ⟨g, cap, cur, rfl, hb, hg, hnc, hcm, hcs, htake⟩
  · exact .inl ⟨h1, List.eq_nil_of_length_eq_zero h2⟩
  · refine .inr ⟨g, cap, cur.toList.drop els.flatten.length, rfl, ?_, hnc, by unfold maxLen at hcm; exact hcm, hb, rfl⟩
    unfold RowIs
    rw [hg]
    congr 2
    rw [← length_flatten_sz els h.sz] at htake
    have : els.flatten ++ cur.toList.drop els.flatten.length = cur.toList := by
      conv => rhs; rw [← List.take_append_drop els.flatten.length cur.toList]
      rw [htake]
    rw [this]
theorem SlOf.ofPrefix {α : Type} {M : Nat → Prop} {w : World} {sz : Nat} {R : List Value → α → Prop} {d : α} {g : Nat} {E : TypeId} {els : List (List Value)} {rest : List Value} {xs : List α} {c : Nat} (h : RowIs w g E (els.flatten ++ rest)) (hsz : ∀ c ∈ els, c.length = sz) (hM : ¬ M g) (hn : els.length ≤ c) (hc : c ≤ 9223372036854775807)
    (hx : xs.length = els.length) (hR : ∀ i, i < els.length → R (els.getD i []) (xs.getD i d)) : SlOf M w sz R d (some ⟨g, 0, .none⟩) els.length c xs := by
  refine ⟨hx, fun i => els.getD i [], ⟨hn, hc, (fun h => by cases h), fun p hp _ => ?_⟩, fun i hi => ⟨hsz _ (by simp [List.getD, List.getElem?_eq_getElem hi]), hR i hi⟩⟩
  cases hp
  refine ⟨rfl, h.lt, hM, fun i j hi hj => ?_⟩
  have := flatten_get els hsz i j hi hj
  simp only [Nat.zero_add]
  rw [h.cell (i * sz + j), List.getElem?_append_left (List.getElem?_eq_some_iff.1 this).1, this]
theorem zlists2 {M : Nat → Prop} {w : World} {g : Nat} {E : TypeId} {a a2 : Option Addr} {n c n2 c2 : Nat} {zs zs2 : List Int} (h : RowIs w g E [.slice a n c, .slice a2 n2 c2]) (hM : ¬ M g) (h1 : ZInts M w a n c zs) (h2 : ZInts M w a2 n2 c2 zs2) : ZLists M w (some ⟨g, 0, none⟩) 2 2 [zs, zs2] :=
  SlOf.ofRow (els := [[.slice a n c], [.slice a2 n2 c2]]) h (by simp) hM (by simp) rfl fun i hi => by
    rcases (show i = 0 ∨ i = 1 by simp at hi; omega) with rfl | rfl
    · exact ⟨_, _, _, rfl, h1⟩
    · exact ⟨_, _, _, rfl, h2⟩
/-- Elements and numbers side by side. -/
theorem zip_ps {els : List (List Value)} {zs : List Int} (h : zs.length = els.length) : rowP (els.zip zs) = els.flatten ∧ (els.zip zs).length = els.length ∧ ∀ k, k < els.length → pg (els.zip zs) k = (els.getD k [], zs.getD k 0) := by
  refine ⟨?_, by simp [h], fun k hk => ?_⟩
  · unfold rowP; congr 1; rw [List.map_fst_zip (by omega)]
  · rw [pg_lt (by simp; omega)]; simp [List.getD, List.getElem?_eq_getElem hk, List.getElem?_eq_getElem (show k < zs.length by omega)]
end Go.Rid
namespace Go.Proofs.YtfkclbhddiidbaaGreat
open Go.RowKit Go.Rid
set_option maxHeartbeats 1000000 in
theorem compact_none {a : Option Addr} {c : Nat} {f : Value} {w : World} : Calls Tryz.prog 72 #[.slice a 0 c, f] w fun e w' => e = .returned (.slice a 0 c) ∧ w = w' := by
  go_enter Tryz.func72, Tryz.ntmps72
  go_wp2_with fail
  go_ret
  exact ⟨rfl, rfl⟩
/-- Sorted and made each once: the row that a call made. -/
theorem tidy_any {M : Nat → Prop} {base : Nat} {v : Value} {els : List (List Value)} {zs : List Int} {w : World} (hM : ∀ b, M b → b < base) (h : Grown RZ 0 38 2 M w base v els zs) (hn : zs.length ≤ 4000) (hf : ∀ z ∈ zs, nlen z.natAbs * 4 + 4 ≤ 140737488355328) :
    Calls Tryz.prog 70 #[v, .func (.func 71) #[] #[]] w fun e w' => e = .returned (.tuple #[]) ∧ Keeps (fun b => base ≤ b) w w' ∧
      Calls Tryz.prog 72 #[v, .func (.func 73) #[] #[]] w' fun e w2 => ∃ a c zs', e = .returned (.slice a zs'.length c) ∧ ZInts M w2 a zs'.length c zs' ∧ zs'.Pairwise (· < ·) ∧ (∀ x, x ∈ zs' ↔ x ∈ zs) ∧ Keeps (fun b => base ≤ b) w' w2 := by
  rcases h.own.form with ⟨rfl, rfl⟩ | ⟨g, cap, rest, rfl, hrow, hnc, hcap, hbg, hown⟩
  · have hz : zs = [] := List.eq_nil_of_length_eq_zero (by simpa using h.len)
    subst hz
    refine (AnyF.slices_SortFunc_none Tryz.sortInt none 0 _ w).mono ?_
    rintro e w' ⟨rfl, rfl⟩
    refine ⟨rfl, Keeps.refl _ _, compact_none.mono ?_⟩
    rintro e w2 ⟨rfl, rfl⟩
    exact ⟨none, 0, [], rfl, ZInts.none, List.Pairwise.nil, fun x => Iff.rfl, Keeps.refl _ _⟩
  · have hsz : ∀ c ∈ els, c.length = 2 := h.own.sz
    rw [← h.len]
    refine (sort_any (N := And' M (.slice (some ⟨g, 0, none⟩) els.length cap)) (.inr hown) hrow hsz h.len h.el hf (by have := h.len; omega)).mono ?_
    rintro e w' ⟨els2, zs2, rfl, hl2, hsz2, hperm, hpw, hrow2, hr2, hk2⟩
    have hlen2 : els2.length = zs.length := by rw [← hl2]; exact hperm.length_eq
    have hkk : Keeps (fun b => base ≤ b) w w' := hk2.mono fun b hb => by cases (show b = g from hb); exact hbg
    refine ⟨rfl, hkk, ?_⟩
    obtain ⟨z1, z2, z3⟩ := zip_ps hl2
    have hR : ∀ p ∈ els2.zip zs2, RZ (And' M (.slice (some ⟨g, 0, none⟩) els.length cap)) w' p.1 p.2 ∧ p.1.length = 2 ∧ p.2 ∈ zs := by
      intro p hp
      obtain ⟨i, hi, rfl⟩ := List.mem_iff_getElem.1 hp
      have hi' : i < els2.length := by omega
      rw [← pg_lt hi, z3 i hi']
      refine ⟨(hr2 i hi').move hk2 (fun b _ hb => .inr (by cases (show b = g from hb); exact hown)) fun _ _ => id, hsz2 _ (by simp [List.getD, List.getElem?_eq_getElem hi']), ?_⟩
      refine hperm.subset ?_
      simp [List.getD, List.getElem?_eq_getElem (show i < zs2.length by omega)]
    have hpz : ∀ k, k < els2.length → pz (els2.zip zs2) k = zs2.getD k 0 := fun k hk => by unfold pz; rw [z3 k hk]
    have hs : ∀ i j, i ≤ j → j < (els2.zip zs2).length → pz (els2.zip zs2) i ≤ pz (els2.zip zs2) j := fun i j hij hj => by
      rw [hpz i (by omega), hpz j (by omega)]
      rcases Nat.lt_or_eq_of_le hij with h' | rfl
      · have := List.pairwise_iff_getElem.1 hpw i j (by omega) (by omega) h'
        simpa [List.getD, List.getElem?_eq_getElem (show i < zs2.length by omega), List.getElem?_eq_getElem (show j < zs2.length by omega)] using this
      · exact Int.le_refl _
    rw [← z1] at hrow2
    refine (compact_any (N := And' M (.slice (some ⟨g, 0, none⟩) els.length cap)) (.inr hown) hrow2 (fun p hp => (hR p hp).2.1) (fun p hp => (hR p hp).1) (fun p hp => hf _ (hR p hp).2.2) (by rw [z2, hlen2]) (by omega) (by rw [h.len]; exact hnc) hcap).mono ?_
    rintro e w2 ⟨rest', rfl, hrow3, hk3⟩
    obtain ⟨s1, s2, s3⟩ := comp_spec hs (els2.zip zs2).length (Nat.le_refl _)
    have hcle := comp_le (els2.zip zs2) (els2.zip zs2).length
    generalize comp (els2.zip zs2) (els2.zip zs2).length = cs at *
    refine ⟨some ⟨g, 0, none⟩, cap, cs.map Prod.snd, by simp, ?_, s3, fun x => ?_, hk3.mono fun b hb => by cases (show b = g from hb); exact hbg⟩
    · have hcl : cs.length ≤ cap := by have := h.len; omega
      have := SlOf.ofPrefix (M := M) (sz := 2) (R := RZ M w2) (d := 0) (els := cs.map Prod.fst) (rest := rest') (xs := cs.map Prod.snd) (c := cap) hrow3 (by
        intro c hc
        obtain ⟨p, hp, rfl⟩ := List.mem_map.1 hc
        obtain ⟨j, hj, rfl⟩ := s1 p hp
        rw [pg_lt hj]; exact (hR _ (List.getElem_mem _)).2.1) (fun hm => by have := hM _ hm; omega) (by simpa using hcl) hcap (by simp) (fun i hi => by
        have hi' : i < cs.length := by simpa using hi
        have e1 : (cs.map Prod.fst).getD i [] = cs[i].1 := by simp [List.getD, List.getElem?_eq_getElem hi']
        have e2 : (cs.map Prod.snd).getD i 0 = cs[i].2 := by simp [List.getD, List.getElem?_eq_getElem hi']
        rw [e1, e2]
        obtain ⟨j, hj, e⟩ := s1 cs[i] (List.getElem_mem _)
        rw [e, pg_lt hj]
        exact (hR _ (List.getElem_mem _)).1.move hk3 (fun b _ hb => .inr (by cases (show b = g from hb); exact hown)) fun _ _ => .inl)
      unfold ZInts
      simpa using this
    · constructor
      · intro hx
        obtain ⟨p, hp, rfl⟩ := List.mem_map.1 hx
        obtain ⟨j, hj, rfl⟩ := s1 p hp
        rw [pg_lt hj]; exact (hR _ (List.getElem_mem _)).2.2
      · intro hx
        obtain ⟨i, hi, rfl⟩ := List.mem_iff_getElem.1 (hperm.symm.subset hx)
        obtain ⟨p, hp, e⟩ := s2 i (by omega)
        rw [hpz i (by omega)] at e
        refine List.mem_map.2 ⟨p, hp, ?_⟩
        rw [e]; simp [List.getD, List.getElem?_eq_getElem hi]

theorem merge_unique {a b zs : List Int} (hb : b.Pairwise (· < ·)) (hz : zs.Pairwise (· < ·)) (h : ∀ x, x ∈ zs ↔ x ∈ [a, b].flatten) : zs = mergeC a b :=
  sorted_unique hz (sorted_mergeC hb) fun x => by rw [h x, mem_mergeC]; simp
set_option maxHeartbeats 2000000 in
theorem merged_any {M : Nat → Prop} {p p2 : Nat} {S O : PSet} {w : World} (hM : MB M w) (hs : SetAt M w p S) (hs2 : SetAt M w p2 O) (hf : Fine S) (hf2 : Fine O) :
    Calls Tryz.prog 36 #[.pointer (some ⟨p, 0, none⟩), .pointer (some ⟨p2, 0, none⟩)] w fun e w' => ListRet M w (mergeC S.cuts O.cuts) e w' := by
  obtain ⟨ac, nc, cc, ar, nr, cr, q1, _, q3, _⟩ := hs
  obtain ⟨ac2, nc2, cc2, ar2, nr2, cr2, r1, _, r3, _⟩ := hs2
  obtain ⟨d0, d1, d2⟩ := q1.three
  obtain ⟨e0, e1, e2⟩ := r1.three
  have b1 := Live.of q1.lt
  have b2 := Live.of r1.lt
  have HM := Lib.hid hM
  have HS := Lib.hid (And.intro q3 r3)
  have HF := Lib.hid (And.intro hf hf2)
  clear q1 r1 q3 r3 hM hf hf2
  go_enter Tryz.func36, Tryz.ntmps36
  have ld := liveRules.2.2.1
  have hnm : ¬ M w.heap.size := fun hm => by have := HM.out _ hm; omega
  have hfl : [S.cuts, O.cuts].flatten.length ≤ 2000 := by have := HF.out.1.few; have := HF.out.2.few; simp; omega
  have HFL := Lib.hid (And.intro hfl hnm)
  have HFT := Lib.hid (show ∀ z ∈ [S.cuts, O.cuts].flatten, nlen z.natAbs * 4 + 4 ≤ 140737488355328 from fun z hz => by
    simp only [List.flatten_cons, List.flatten_nil, List.append_nil, List.mem_append] at hz
    rcases hz with hz | hz
    · exact HF.out.1.fit4 z hz
    · exact HF.out.2.fit4 z hz)
  clear hfl hnm
  go_wp2_with fail
  go_region_held3 (fun w' => w'.cell? ⟨p, 1, none⟩ = some (.slice ac nc cc) ∧ w'.cell? ⟨p2, 1, none⟩ = some (.slice ac2 nc2 cc2)) (go_keep) (first | (go_at_call 69; refine (concat_any (M := M) (zss := [S.cuts, O.cuts]) (HM.out.keep (M' := Nil) (by repeat (first | exact Keeps.refl _ _ | refine Keeps.drew ?_ | refine Keeps.drewN ?_ _ | refine Keeps.alloc ?_ _))) (zlists2 ((RowIs.alloc (w := w) (xs := [.slice ac nc cc, .slice ac2 nc2 cc2])).keep (M := Nil) (by repeat (first | exact Keeps.refl _ _ | refine Keeps.drew ?_ | refine Keeps.drewN ?_ _ | refine Keeps.alloc ?_ _)) id) HFL.out.2 (HS.out.1.keepNil (by repeat (first | exact Keeps.refl _ _ | refine Keeps.drew ?_ | refine Keeps.drewN ?_ _ | refine Keeps.alloc ?_ _))) (HS.out.2.keepNil (by repeat (first | exact Keeps.refl _ _ | refine Keeps.drew ?_ | refine Keeps.drewN ?_ _ | refine Keeps.alloc ?_ _)))) (by omega) HFL.out.1).mono ?_; rintro e w1 ⟨v, els, rfl, hg, hk1⟩; obtain ⟨rc1, rf1, ra1⟩ := (show Keeps Nil w w1 from (by repeat (first | exact Keeps.refl _ _ | assumption | refine Keeps.drew ?_ | refine Keeps.drewN ?_ _ | refine Keeps.alloc ?_ _ | exact Keeps.of_nil (by assumption) | refine Keeps.trans ?_ (Keeps.of_nil (by assumption)) | refine Keeps.setCell ?_ (.inr (by first | exact Nat.le_refl _ | (dsimp only; omega))) _ | refine Keeps.setCell ?_ (.inl (by first | (unfold Old; dsimp only; omega) | (unfold Old; simp; omega) | (unfold Old; simp))) _))).live; have l1 := (show Keeps Nil w w1 from (by repeat (first | exact Keeps.refl _ _ | assumption | refine Keeps.drew ?_ | refine Keeps.drewN ?_ _ | refine Keeps.alloc ?_ _ | exact Keeps.of_nil (by assumption) | refine Keeps.trans ?_ (Keeps.of_nil (by assumption)) | refine Keeps.setCell ?_ (.inr (by first | exact Nat.le_refl _ | (dsimp only; omega))) _ | refine Keeps.setCell ?_ (.inl (by first | (unfold Old; dsimp only; omega) | (unfold Old; simp; omega) | (unfold Old; simp))) _))).live.2.2 _ b1; have l2 := (show Keeps Nil w w1 from (by repeat (first | exact Keeps.refl _ _ | assumption | refine Keeps.drew ?_ | refine Keeps.drewN ?_ _ | refine Keeps.alloc ?_ _ | exact Keeps.of_nil (by assumption) | refine Keeps.trans ?_ (Keeps.of_nil (by assumption)) | refine Keeps.setCell ?_ (.inr (by first | exact Nat.le_refl _ | (dsimp only; omega))) _ | refine Keeps.setCell ?_ (.inl (by first | (unfold Old; dsimp only; omega) | (unfold Old; simp; omega) | (unfold Old; simp))) _))).live.2.2 _ b2; have HG := Lib.hid (And.intro hg (And.intro (show Keeps Nil w w1 from (by repeat (first | exact Keeps.refl _ _ | assumption | refine Keeps.drew ?_ | refine Keeps.drewN ?_ _ | refine Keeps.alloc ?_ _ | exact Keeps.of_nil (by assumption) | refine Keeps.trans ?_ (Keeps.of_nil (by assumption)) | refine Keeps.setCell ?_ (.inr (by first | exact Nat.le_refl _ | (dsimp only; omega))) _ | refine Keeps.setCell ?_ (.inl (by first | (unfold Old; dsimp only; omega) | (unfold Old; simp; omega) | (unfold Old; simp))) _))) hk1)); clear hg))
  clear rc1 rf1 ra1 hk1
  have HT := Lib.hid (tidy_any (M := M) (fun b hb => by have := HM.out b hb; simp; omega) HG.out.1 (by have := HFL.out.1; omega) HFT.out)
  go_wp2_with (first | (go_at_call 70; refine (HT.out).mono ?_; rintro e w2 ⟨rfl, hk2, hc⟩; have HC := Lib.hid hc; have HK2 := Lib.hid hk2; clear hc hk2) | (go_at_call 72; refine HC.out.mono ?_; rintro e w3 ⟨a, c, zs', rfl, hz, hpw, hmem, hk3⟩; have HZ := Lib.hid (And.intro hz (And.intro hpw (And.intro hmem hk3))); clear hz hpw hmem hk3))
  go_ret
  have e := merge_unique HF.out.2.ok.sorted HZ.out.2.1 HZ.out.2.2.1
  have hz := HZ.out.1
  rw [e] at hz
  refine ⟨_, _, by rw [← e]; rfl, hz, ?_⟩
  exact (HG.out.2.1.trans' HK2.out fun b hb => .inr (by simp at hb; omega)).trans' HZ.out.2.2.2 fun b hb => .inr (by simp at hb; omega)
end Go.Proofs.YtfkclbhddiidbaaGreat
