/- What the function inside (*periods.Set).joined does: a row of two sets' rows. Conditions: the sets' own reading; the rows are there; the period is a multiple. -/
import Derived.Test.YtfkclbhddiidbaaGreatKPLong
import Derived.Test.YtfkclbhddiidbaaGreatKRegions
import Derived.Test.YtfkclbhddiidbaaGreatKPMade
import Derived.Shelf.Abstract
namespace Go.Rid
open Go.RowKit
theorem getD_longR {l : List Bool} {q i : Nat} (h : i < q) : (longR l q).getD i false = l.getD (i % l.length) false := by simp [longR, List.getD, h]
theorem both_getD {f : Bool → Bool → Bool} {q i : Nat} {a b : List Bool} (h : i < q) : (both f q a b).getD i false = f (a.getD (i % a.length) false) (b.getD (i % b.length) false) := by simp [both, List.getD, h]
/-- The row, half done. -/
def halfRow (f : Bool → Bool → Bool) (q : Nat) (a b : List Bool) (n : Nat) : List Bool := (both f q a b).take n ++ (longR a q).drop n
theorem halfRow_zero (f : Bool → Bool → Bool) (q : Nat) (a b : List Bool) : halfRow f q a b 0 = longR a q := by simp [halfRow]
theorem halfRow_all (f : Bool → Bool → Bool) (q : Nat) (a b : List Bool) : halfRow f q a b q = both f q a b := by
  simp [halfRow, List.take_of_length_le (Nat.le_of_eq (length_both f q a b)), List.drop_of_length_le (Nat.le_of_eq (length_longR a q))]
theorem length_halfRow {f : Bool → Bool → Bool} {q : Nat} {a b : List Bool} {n : Nat} (h : n ≤ q) : (halfRow f q a b n).length = q := by simp [halfRow, length_both, length_longR]; omega
theorem halfRow_get {f : Bool → Bool → Bool} {q : Nat} {a b : List Bool} {n : Nat} (h : n < q) : (halfRow f q a b n)[n]? = some (a.getD (n % a.length) false) := by
  unfold halfRow
  rw [List.getElem?_append_right (by rw [List.length_take]; exact Nat.min_le_left _ _), List.getElem?_drop, List.length_take, length_both, Nat.min_eq_left (by omega), show n + (n - n) = n by omega, List.getElem?_eq_getElem (by rw [length_longR]; exact h)]
  simp [longR]
theorem halfRow_succ {f : Bool → Bool → Bool} {q : Nat} {a b : List Bool} {n : Nat} (h : n < q) : (halfRow f q a b n).set n (f (a.getD (n % a.length) false) (b.getD (n % b.length) false)) = halfRow f q a b (n + 1) := by
  unfold halfRow
  rw [List.set_append_right _ _ (by rw [List.length_take]; exact Nat.min_le_left _ _), List.length_take, length_both, Nat.min_eq_left (by omega), Nat.sub_self, List.drop_eq_getElem_cons (by rw [length_longR]; exact h), List.set_cons_zero, List.take_succ_eq_append_getElem (by rw [length_both]; exact h)]
  simp [both]
end Go.Rid
namespace Go.Proofs.YtfkclbhddiidbaaGreat
open Go.RowKit Go.Rid
/-- What a function of two Bools answers. -/
def BoolFn (F : Nat) (f : Bool → Bool → Bool) : Prop := (∀ args w, (callFunc F args).run Tryz.prog w = .ok (.enter F args) w) ∧ ∀ (x y : Bool) (w : World), Calls Tryz.prog F #[.bool x, .bool y] w fun e w' => e = .returned (.bool (f x y)) ∧ Keeps Nil w w'
theorem meet_fn : BoolFn 49 (fun x y => x && y) := by
  refine ⟨enters_of Tryz.func49 (by kernel_rfl) rfl, ?_⟩
  intro x y w
  go_enter Tryz.func49, Tryz.ntmps49
  cases x
  · go_wp2
    go_ret
    exact ⟨rfl, Keeps.refl _ _⟩
  · go_wp2
    go_ret
    exact ⟨rfl, Keeps.refl _ _⟩
theorem join_fn : BoolFn 50 (fun x y => x || y) := by
  refine ⟨enters_of Tryz.func50 (by kernel_rfl) rfl, ?_⟩
  intro x y w
  go_enter Tryz.func50, Tryz.ntmps50
  cases x
  · go_wp2
    go_ret
    exact ⟨rfl, Keeps.refl _ _⟩
  · go_wp2
    go_ret
    exact ⟨rfl, Keeps.refl _ _⟩
set_option maxHeartbeats 4000000 in
set_option maxRecDepth 100000 in
theorem rowat_any {M M' : Nat → Prop} {p p2 bs bq bo bf i k q F : Nat} {f : Bool → Bool → Bool} {S O : PSet} {w : World} (hs : SetAt M w p S) (hs2 : SetAt M' w p2 O) (hf : Fine S) (hf2 : Fine O) (c1 : w.cell? ⟨bs, 0, none⟩ = some (.pointer (some ⟨p, 0, none⟩))) (c2 : w.cell? ⟨bq, 0, none⟩ = some (.int .i64 (q : Int))) (c3 : w.cell? ⟨bo, 0, none⟩ = some (.pointer (some ⟨p2, 0, none⟩))) (c4 : w.cell? ⟨bf, 0, none⟩ = some (.func (.func F) #[] #[]))
    (l1 : Live w bs) (l2 : Live w bq) (l3 : Live w bo) (l4 : Live w bf) (hF : BoolFn F f) (hi : i ≤ S.cuts.length) (hk : k ≤ O.cuts.length) (hq : 1 ≤ q) (hq2 : q ≤ 4096) (hd : S.P ∣ q) (hd2 : O.P ∣ q) :
    Calls Tryz.prog 82 #[.int .i64 i, .int .i64 k, .pointer (some ⟨bs, 0, none⟩), .pointer (some ⟨bq, 0, none⟩), .pointer (some ⟨bo, 0, none⟩), .pointer (some ⟨bf, 0, none⟩)] w fun e w' => RowRet w (both f q (S.rows.getD i []) (O.rows.getD k [])) e w' := by
  obtain ⟨ac, nc, cc, ar, nr, cr, q1, _, _, q4⟩ := hs
  obtain ⟨ac2, nc2, cc2, ar2, nr2, cr2, r1, _, _, r4⟩ := hs2
  obtain ⟨_, _, d2⟩ := q1.three
  obtain ⟨_, _, e2⟩ := r1.three
  have m1 := Live.of q1.lt
  have m2 := Live.of r1.lt
  have hir : i < nr := by have := q4.len; have := hf.ok.len; omega
  have hkr : k < nr2 := by have := r4.len; have := hf2.ok.len; omega
  obtain ⟨cap1, le1⟩ := And.intro q4.cap q4.le
  obtain ⟨cap2, le2⟩ := And.intro r4.cap r4.le
  obtain ⟨rb, ro, a3, n3, c3', hae, hb, _, x0, hB⟩ := q4.at hir
  obtain ⟨rb2, ro2, a4, n4, c4', hae2, hb2, _, y0, hB2⟩ := r4.at hkr
  subst hae
  subst hae2
  have m3 := Live.of hb
  have m4 := Live.of hb2
  have hn3 : n3 = S.P := by
    rw [← hB.1]; refine hf.ok.row _ ?_
    have : i < S.rows.length := by rw [hf.ok.len]; omega
    simp [List.getD, List.getElem?_eq_getElem this]
  have hn4 : n4 = O.P := by
    rw [← hB2.1]; refine hf2.ok.row _ ?_
    have : k < O.rows.length := by rw [hf2.ok.len]; omega
    simp [List.getD, List.getElem?_eq_getElem this]
  obtain ⟨u, hu⟩ := hd
  obtain ⟨v, hv⟩ := hd2
  have HB := Lib.hid (And.intro hB hB2)
  have HU := Lib.hid (show q = u * n3 ∧ q = v * n4 ∧ 1 ≤ n3 ∧ 1 ≤ n4 by rw [hn3, hn4, Nat.mul_comm u, Nat.mul_comm v]; exact ⟨hu, hv, hf.ok.pos, hf2.ok.pos⟩)
  have HFN := Lib.hid hF.2
  have heg := hF.1
  obtain ⟨la, ls, ld, ln, ln', ln1, ln1', lc, lf⟩ := liveRules
  generalize S.rows.getD i [] = A at *
  generalize O.rows.getD k [] = B at *
  have i1 : (i : Int) < (nr : Int) := by omega
  have i2 : (k : Int) < (nr2 : Int) := by omega
  clear q1 r1 q4 r4 hb hb2 hB hB2 hu hv hn3 hn4 hF hf hf2
  go_enter Tryz.func82, Tryz.ntmps82
  go_wp2_with fail
  go_region_held3 (fun w' => w'.cell? ⟨bs, 0, none⟩ = some (.pointer (some ⟨p, 0, none⟩)) ∧ w'.cell? ⟨bq, 0, none⟩ = some (.int .i64 (q : Int)) ∧ w'.cell? ⟨bo, 0, none⟩ = some (.pointer (some ⟨p2, 0, none⟩)) ∧ w'.cell? ⟨p, 2, none⟩ = some (.slice (some ⟨rb, ro, none⟩) nr cr) ∧ w'.cell? ⟨p2, 2, none⟩ = some (.slice (some ⟨rb2, ro2, none⟩) nr2 cr2) ∧ w'.cell? ⟨rb, ro + i, none⟩ = some (.slice a3 n3 c3') ∧ w'.cell? ⟨rb2, ro2 + k, none⟩ = some (.slice a4 n4 c4')) (go_keep) (first | (go_at_call_of 83 (Value.slice a3 n3 c3'); refine (long_any (HB.out.1.move (M2 := Nil) (show Keeps Nil w _ from (by repeat (first | exact Keeps.refl _ _ | assumption | refine Keeps.drew ?_ | refine Keeps.drewN ?_ _ | refine Keeps.alloc ?_ _ | exact Keeps.of_nil (by assumption) | refine Keeps.trans ?_ (Keeps.of_nil (by assumption)) | refine Keeps.setCell ?_ (.inr (by first | exact Nat.le_refl _ | (dsimp only; omega))) _ | refine Keeps.setCell ?_ (.inl (by first | (unfold Old; dsimp only; omega) | (unfold Old; simp; omega) | (unfold Old; simp))) _))) (fun _ _ h => h.elim) fun _ _ h => h.elim) HU.out.2.2.1 HU.out.1 hq hq2).mono ?_; rintro e w1 ⟨ga, rfl, hra, hga, hk1⟩; obtain ⟨rc1, rf1, ra1⟩ := (show Keeps Nil w w1 from (by repeat (first | exact Keeps.refl _ _ | assumption | refine Keeps.drew ?_ | refine Keeps.drewN ?_ _ | refine Keeps.alloc ?_ _ | exact Keeps.of_nil (by assumption) | refine Keeps.trans ?_ (Keeps.of_nil (by assumption)) | refine Keeps.setCell ?_ (.inr (by first | exact Nat.le_refl _ | (dsimp only; omega))) _ | refine Keeps.setCell ?_ (.inl (by first | (unfold Old; dsimp only; omega) | (unfold Old; simp; omega) | (unfold Old; simp))) _))).live; have HA1 := Lib.hid (And.intro hra hga); have lw1 := Live.of hra.lt; clear hra hga) | (go_at_call_of 83 (Value.slice a4 n4 c4'); refine (long_any (HB.out.2.move (M2 := Nil) (show Keeps Nil w _ from (by repeat (first | exact Keeps.refl _ _ | assumption | refine Keeps.drew ?_ | refine Keeps.drewN ?_ _ | refine Keeps.alloc ?_ _ | exact Keeps.of_nil (by assumption) | refine Keeps.trans ?_ (Keeps.of_nil (by assumption)) | refine Keeps.setCell ?_ (.inr (by first | exact Nat.le_refl _ | (dsimp only; omega))) _ | refine Keeps.setCell ?_ (.inl (by first | (unfold Old; dsimp only; omega) | (unfold Old; simp; omega) | (unfold Old; simp))) _))) (fun _ _ h => h.elim) fun _ _ h => h.elim) HU.out.2.2.2 HU.out.2.1 hq hq2).mono ?_; rintro e w2 ⟨gb, rfl, hrb, hgb, hk2⟩; obtain ⟨rc2, rf2, ra2⟩ := (show Keeps Nil w w2 from (by repeat (first | exact Keeps.refl _ _ | assumption | refine Keeps.drew ?_ | refine Keeps.drewN ?_ _ | refine Keeps.alloc ?_ _ | exact Keeps.of_nil (by assumption) | refine Keeps.trans ?_ (Keeps.of_nil (by assumption)) | refine Keeps.setCell ?_ (.inr (by first | exact Nat.le_refl _ | (dsimp only; omega))) _ | refine Keeps.setCell ?_ (.inl (by first | (unfold Old; dsimp only; omega) | (unfold Old; simp; omega) | (unfold Old; simp))) _))).live; have HB1 := Lib.hid (And.intro hrb (And.intro hgb (And.intro (show Keeps Nil w1 w2 from (by repeat (first | exact Keeps.refl _ _ | assumption | refine Keeps.drew ?_ | refine Keeps.drewN ?_ _ | refine Keeps.alloc ?_ _ | exact Keeps.of_nil (by assumption) | refine Keeps.trans ?_ (Keeps.of_nil (by assumption)) | refine Keeps.setCell ?_ (.inr (by first | exact Nat.le_refl _ | (dsimp only; omega))) _ | refine Keeps.setCell ?_ (.inl (by first | (unfold Old; dsimp only; omega) | (unfold Old; simp; omega) | (unfold Old; simp))) _))) (show Keeps Nil w w2 from (by repeat (first | exact Keeps.refl _ _ | assumption | refine Keeps.drew ?_ | refine Keeps.drewN ?_ _ | refine Keeps.alloc ?_ _ | exact Keeps.of_nil (by assumption) | refine Keeps.trans ?_ (Keeps.of_nil (by assumption)) | refine Keeps.setCell ?_ (.inr (by first | exact Nat.le_refl _ | (dsimp only; omega))) _ | refine Keeps.setCell ?_ (.inl (by first | (unfold Old; dsimp only; omega) | (unfold Old; simp; omega) | (unfold Old; simp))) _)))))); clear hrb hgb))
  rw [length_longR, length_longR]
  clear rc1 rf1 ra1 rc2 hk1 hk2
  go_wp2_with fail
  have hne : ¬ ga = gb := fun e => by have := HA1.out.1.lt; have := HB1.out.2.1; omega
  have hne' : ¬ gb = ga := fun e => hne e.symm
  have lgb := HB1.out.1.lt
  have hbf : w2.cell? ⟨bf, 0, none⟩ = some (.func (.func F) #[] #[]) := HB1.out.2.2.2.cellE l4.lt id c4
  have HBF := Lib.hid (And.intro hbf (Nat.lt_of_lt_of_le l4.lt HB1.out.2.2.2.size))
  have hgaw : w.heap.size ≤ ga := HA1.out.2
  have hbga : ¬ bf = ga := fun e => by have := l4.lt; omega
  clear hbf c1 c2 c3 c4 l1 l2 l3 l4 d2 e2 m1 m2 m3 m4 x0 y0 rf2 ra2 lw1
  go_loopw [31] (fun i wr => ∃ n : Nat, n ≤ q ∧ i = .int .i64 n ∧ RowIs wr ga 4 ((halfRow f q A B n).map Value.bool) ∧ RowIs wr gb 4 ((longR B q).map Value.bool) ∧ wr.cell? ⟨bf, 0, none⟩ = some (.func (.func F) #[] #[]) ∧ bf < wr.heap.size ∧ Keeps Nil w wr) (fun i _ => q - (intOf i).toNat)
  case atStart => exact ⟨0, Nat.zero_le _, rfl, by rw [halfRow_zero]; exact HA1.out.1.keep HB1.out.2.2.1 id, HB1.out.1, HBF.out.1, HBF.out.2, HB1.out.2.2.2⟩
  case round =>
    obtain ⟨n, hn, rfl, hra, hrb, hbf, hbl, hkk⟩ := hrel
    have HR := Lib.hid (And.intro hra (And.intro hrb hkk))
    by_cases hlt : n < q
    · have p0 := hra.cell n
      have p1 := hrb.cell n
      have f0 := hra.frozen n
      rw [List.getElem?_map, halfRow_get hlt, Option.map_some] at p0
      rw [List.getElem?_map, List.getElem?_eq_getElem (by rw [length_longR]; exact hlt), Option.map_some, show (longR B q)[n]'(by rw [length_longR]; exact hlt) = B.getD (n % B.length) false by simp [longR]] at p1
      have lga := hra.lt
      have lgb' := hrb.lt
      have i3 : (n : Int) < (q : Int) := by omega
      have i4 : (0 : Int) ≤ (n : Int) := by omega
      have HSU := Lib.hid (halfRow_succ (f := f) (a := A) (b := B) hlt)
      generalize A.getD (n % A.length) false = x at *
      generalize B.getD (n % B.length) false = y at *
      clear hra hrb hkk
      go_wp2_with fail
      refine wp_region_till (Keeps Nil wr) [13] (by kernel_rfl) ?_
      have hS : Keeps Nil wr (World.drew wr) := (by repeat (first | exact Keeps.refl _ _ | refine Keeps.drew ?_ | refine Keeps.drewN ?_ _ | refine Keeps.alloc ?_ _))
      refine wpTill_take (i := 0) (v := ?v1) rfl (by kernel_rfl) (fun _ _ _ h => h) (Or.inl ⟨by rfl, ?y1⟩) hS ?r1
      case y1 => (intro w' hSw; obtain ⟨hrc, hrf⟩ := hSw.rules; clear hSw;  go_simp; (try with_reducible rfl))
      try simp only [Act.put, List.setIfInBounds_toArray, List.set_cons_zero, List.set_cons_succ]
      refine wpTill_take (i := 1) (v := ?v2) rfl (by kernel_rfl) (fun _ _ _ h => h) (Or.inl ⟨by rfl, ?y2⟩) hS ?r2
      case y2 => (intro w' hSw; obtain ⟨hrc, hrf⟩ := hSw.rules; clear hSw;  go_simp; (try with_reducible rfl))
      try simp only [Act.put, List.setIfInBounds_toArray, List.set_cons_zero, List.set_cons_succ]
      refine wpTill_take (i := 2) (v := ?v3) rfl (by kernel_rfl) (fun _ _ _ h => h) (Or.inl ⟨by rfl, ?y3⟩) hS ?r3
      case y3 => (intro w' hSw; obtain ⟨hrc, hrf⟩ := hSw.rules; clear hSw;  go_simp; (try with_reducible rfl))
      try simp only [Act.put, List.setIfInBounds_toArray, List.set_cons_zero, List.set_cons_succ]
      refine wpTill_take (i := 3) (v := ?v4) rfl (by kernel_rfl) (fun _ _ _ h => h) (Or.inl ⟨by rfl, ?y4⟩) hS ?r4
      case y4 => (intro w' hSw; obtain ⟨hrc, hrf⟩ := hSw.rules; clear hSw;  go_simp; (try with_reducible rfl))
      try simp only [Act.put, List.setIfInBounds_toArray, List.set_cons_zero, List.set_cons_succ]
      refine wpTill_take (i := 4) (v := ?v5) rfl (by kernel_rfl) (fun _ _ _ h => h) (Or.inl ⟨by rfl, ?y5⟩) hS ?r5
      case y5 => (intro w' hSw; obtain ⟨hrc, hrf⟩ := hSw.rules; clear hSw;  go_simp; (try with_reducible rfl))
      try simp only [Act.put, List.setIfInBounds_toArray, List.set_cons_zero, List.set_cons_succ]
      refine wpTill_take (i := 5) (v := ?v6) rfl (by kernel_rfl) (fun _ _ _ h => h) (Or.inl ⟨by rfl, ?y6⟩) hS ?r6
      case y6 => (intro w' hSw; obtain ⟨hrc, hrf⟩ := hSw.rules; clear hSw;  go_simp; (try with_reducible rfl))
      try simp only [Act.put, List.setIfInBounds_toArray, List.set_cons_zero, List.set_cons_succ]
      refine wpTill_take (i := 6) (v := ?v7) rfl (by kernel_rfl) (fun _ _ _ h => h) (Or.inl ⟨by rfl, ?y7⟩) hS ?r7
      case y7 => (intro w' hSw; obtain ⟨hrc, hrf⟩ := hSw.rules; clear hSw;  go_simp; (try with_reducible rfl))
      try simp only [Act.put, List.setIfInBounds_toArray, List.set_cons_zero, List.set_cons_succ]
      refine wpTill_take (i := 7) (v := ?v8) rfl (by kernel_rfl) (fun _ _ _ h => h) (Or.inl ⟨by rfl, ?y8⟩) hS ?r8
      case y8 => (intro w' hSw; obtain ⟨hrc, hrf⟩ := hSw.rules; clear hSw;  go_simp; (try with_reducible rfl))
      try simp only [Act.put, List.setIfInBounds_toArray, List.set_cons_zero, List.set_cons_succ]
      refine wpTill_take (i := 8) (v := ?v9) rfl (by kernel_rfl) (fun _ _ _ h => h) (Or.inl ⟨by rfl, ?y9⟩) hS ?r9
      case y9 => (intro w' hSw; obtain ⟨hrc, hrf⟩ := hSw.rules; clear hSw;  go_simp; (try with_reducible rfl))
      try simp only [Act.put, List.setIfInBounds_toArray, List.set_cons_zero, List.set_cons_succ]
      refine wpTill_take (i := 9) (v := ?v10) rfl (by kernel_rfl) (fun _ _ _ h => h) (Or.inl ⟨by rfl, ?y10⟩) hS ?r10
      case y10 => (intro w' hSw; obtain ⟨hrc, hrf⟩ := hSw.rules; clear hSw;  go_simp; (try with_reducible rfl))
      try simp only [Act.put, List.setIfInBounds_toArray, List.set_cons_zero, List.set_cons_succ]
      refine wpTill_take (i := 10) (v := ?v11) rfl (by kernel_rfl) (fun _ _ _ h => h) (Or.inl ⟨by rfl, ?y11⟩) hS ?r11
      case y11 => (intro w' hSw; obtain ⟨hrc, hrf⟩ := hSw.rules; clear hSw;  go_simp; (try with_reducible rfl))
      try simp only [Act.put, List.setIfInBounds_toArray, List.set_cons_zero, List.set_cons_succ]
      refine wpTill_ready (rs := [11]) (by kernel_rfl) (by simp) ?_
      refine AllTill.cons rfl (fun K hK => ?_) AllTill.nil
      go_simp
      refine (HFN.out x y _).mono ?_
      rintro e w1 ⟨rfl, hk⟩
      refine hK.out _ _ (fun h => h.trans hk) ?_
      clear hK K
      try simp only [Act.put, List.setIfInBounds_toArray, List.set_cons_zero, List.set_cons_succ]
      replace hS := hS.trans hk
      have f1 := (HR.out.1.keep hS id).frozen n
      have p2 := (hS.cellE lga id p0)
      have HS := Lib.hid hS
      clear hk
      refine wpTill_take (i := 12) (v := ?v12) rfl (by kernel_rfl) (fun _ _ _ h => h) (Or.inl ⟨by rfl, ?y12⟩) hS ?r12
      case y12 => (intro w' hSw; obtain ⟨hrc, hrf⟩ := hSw.rules; clear hSw;  go_simp; (try with_reducible rfl))
      try simp only [Act.put, List.setIfInBounds_toArray, List.set_cons_zero, List.set_cons_succ]
      clear hS
      refine wpTill_ready (rs := [13]) (by kernel_rfl) (by simp) ?_
      refine AllTill.consT rfl (by decide) (fun K hK => ?_) AllTill.nil
      go_simp
      refine hK.out _ _ ?_
      clear hK K
      try simp only [Act.put, List.setIfInBounds_toArray, List.set_cons_zero, List.set_cons_succ]
      refine wpTill_done (by kernel_rfl) ?_ _
      skip
      go_wp2_with fail
      have ks := (Keeps.refl (One ga) w1).set1 n (.bool (f x y))
      have KS := Lib.hid ks
      have HBF2 := Lib.hid (And.intro (HS.out.cellE hbl id hbf) (Nat.lt_of_lt_of_le hbl HS.out.size))
      clear ks hbf hbl
      go_roundw
      case rel =>
        refine ⟨n + 1, by omega, by go_num, ?_, (HR.out.2.1.keep HS.out id).keep KS.out hne', KS.out.cellE HBF2.out.2 hbga HBF2.out.1, Nat.lt_of_lt_of_le HBF2.out.2 KS.out.size, (HR.out.2.2.trans HS.out).own hgaw KS.out⟩
        have h := (HR.out.1.keep HS.out id).set n (.bool (f x y))
        rw [← List.map_set, HSU.out] at h
        exact h
      case measure => simp [intOf]; omega
    · obtain rfl : n = q := by omega
      rw [halfRow_all] at hra
      have HRA := Lib.hid (And.intro hra hkk)
      clear hra hrb hkk hbf hbl HR
      go_wp2_with fail
      go_ret
      exact ⟨_, by rw [length_both]; rfl, HRA.out.1, hgaw, HRA.out.2⟩
end Go.Proofs.YtfkclbhddiidbaaGreat
