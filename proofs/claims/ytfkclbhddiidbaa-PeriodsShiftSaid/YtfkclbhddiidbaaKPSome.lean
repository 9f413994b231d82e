/- What the laws' own 'some' does: numbers to look at. Conditions: what is given reads; room. -/
import Derived.Test.YtfkclbhddiidbaaKPSets
import Derived.Test.YtfkclbhddiidbaaKRefZ
import Derived.Laws.AppendOwnNone
namespace Go.Rid
open Go.RowKit
/-- A number with some room. -/
def RN2 (M : Nat → Prop) (w : World) (cs : List Value) (z : Int) : Prop := ∃ g a n c, cs = [.bool g, .slice a n c] ∧ ZAt M w g a n c z ∧ n * 4 + 16 ≤ 140737488355328
theorem RN2.moves : Moves RN2 := by
  intro M M' M2 w w' cs x h k h1 h2
  obtain ⟨g, a, n, c, e, q, r⟩ := h; exact ⟨g, a, n, c, e, q.move k h1 h2, r⟩
theorem RN2.ofZN {M : Nat → Prop} {w : World} {g : Bool} {a : Option Addr} {n c : Nat} {z : Int} (h : ZN M w g a n c z) (hz : nlen z.natAbs * 4 + 16 ≤ 140737488355328) : RN2 M w [.bool g, .slice a n c] z :=
  ⟨g, a, n, c, rfl, h.at' (by have := h.len; omega), by have := h.len; omega⟩
/-- The list, as it grows. -/
def Gets (w0 : World) (E : TypeId) (w : World) (v : Value) (L : Nat) : Prop := ∃ els xs, Grown RN2 0 E 2 Nil w w0.heap.size v els xs ∧ els.length ≤ L ∧ Keeps Nil w0 w
theorem Gets.keepNil {w0 w w' : World} {E : TypeId} {v : Value} {L : Nat} (h : Gets w0 E w v L) (k : Keeps Nil w w') : Gets w0 E w' v L := by
  obtain ⟨els, xs, h1, h2, h3⟩ := h; exact ⟨els, xs, h1.keepNil RN2.moves k, h2, h3.trans k⟩
theorem Gets.mono {w0 w : World} {E : TypeId} {v : Value} {L L' : Nat} (h : Gets w0 E w v L) (hl : L ≤ L') : Gets w0 E w v L' := by
  obtain ⟨els, xs, h1, h2, h3⟩ := h; exact ⟨els, xs, h1, Nat.le_trans h2 hl, h3⟩
/-- The elements of an argument, as append asks for them. -/
theorem SlOf.news0 {α : Type} {w : World} {sz : Nat} {R : List Value → α → Prop} {d : α} {p : Addr} {n c : Nat} {xs : List α} (h : SlOf Nil w sz R d (some p) n c xs) (hsz : 0 < sz) :
    ∃ new : List (List Value), new.length = n ∧ (∀ c ∈ new, c.length = sz) ∧ (∀ j u, new.flatten[j]? = some u → w.cell? (p.add j) = some u) ∧ (∀ i, i < n → R (new.getD i []) (xs.getD i d)) ∧ (0 < n → p.block < w.heap.size) := by
  rcases Nat.eq_zero_or_pos n with rfl | h0
  · exact ⟨[], rfl, by simp, fun j u hj => by simp at hj, fun i hi => by omega, fun h => by omega⟩
  · obtain ⟨new, h1, h2, h3, h4, h5⟩ := h.news h0 hsz
    exact ⟨new, h1, h2, h3, h4, fun _ => h5⟩
end Go.Rid
namespace Go.Proofs.Ytfkclbhddiidbaa
open Go.RowKit Go.Rid
theorem nums_keep {w w' : World} {a : Option Addr} {n c : Nat} {xs : List Int} (h : SlOf Nil w 2 (RNum Nil w) 0 a n c xs) (k : Keeps Nil w w') : SlOf Nil w' 2 (RNum Nil w') 0 a n c xs :=
  SlOf.move h k (fun _ _ h => h.elim) (fun _ _ => id) fun _ _ hx => RNum.moves hx k (fun _ _ h => h.elim) fun _ _ => id
theorem own_empty (w : World) (E : TypeId) : OwnEls (w.alloc (.cells #[] E)) w.heap.size E 2 (.slice (some ⟨w.heap.size, 0, none⟩) 0 0) [] :=
  ⟨⟨rfl, .inr ⟨w.heap.size, 0, #[], rfl, Nat.le_refl _, (RowIs.alloc (w := w) (E := E) (xs := [])).out, Nat.le_refl _, by decide, by simp, by simp⟩⟩, by simp⟩
/-- One element more. -/
theorem Gets.snoc {w0 w wa w' : World} {v v' : Value} {L : Nat} {els : List (List Value)} {xs : List Int} {c : List Value} {z : Int} (hg : Grown RN2 0 36 2 Nil w w0.heap.size v els xs) (hl : els.length ≤ L) (h0 : Keeps Nil w0 w) (ka : Keeps Nil w wa) (hc : RN2 (And' Nil v) wa c z) (ho : OwnEls w' w0.heap.size 36 2 v' (els ++ [c])) (k : Keeps (Own v) wa w') (hf : Fresh wa v v') : Gets w0 36 w' v' (L + 1) :=
  ⟨_, _, Grown.snoc RN2.moves (hg.keepNil RN2.moves ka) hc ho k hf, by simp; omega, (h0.trans ka).trans' k fun b hb => .inr (hg.own.lt b hb).1⟩
theorem Gets.snoc2 {w0 w wa w' : World} {v v' : Value} {L : Nat} {els : List (List Value)} {xs : List Int} {c c2 : List Value} {z z2 : Int} (hg : Grown RN2 0 36 2 Nil w w0.heap.size v els xs) (hl : els.length ≤ L) (h0 : Keeps Nil w0 w) (ka : Keeps Nil w wa) (hc : RN2 (And' Nil v) wa c z) (hc2 : RN2 (And' Nil v) wa c2 z2) (ho : OwnEls w' w0.heap.size 36 2 v' (els ++ [c, c2])) (k : Keeps (Own v) wa w') (hf : Fresh wa v v') : Gets w0 36 w' v' (L + 2) :=
  ⟨_, _, Grown.append RN2.moves (ys := [z, z2]) (hg.keepNil RN2.moves ka) rfl (fun i hi => by
    rcases (show i = 0 ∨ i = 1 by simp at hi; omega) with rfl | rfl
    · exact hc
    · exact hc2) ho k hf, by simp; omega, (h0.trans ka).trans' k fun b hb => .inr (hg.own.lt b hb).1⟩
/-- What 'some' answers. -/
def SomeRet (w : World) (e : Ending) (w' : World) : Prop := ∃ a N c xs, e = .returned (.slice a N c) ∧ SlOf Nil w' 2 (RN2 Nil w') 0 a N c xs ∧ Keeps Nil w w'
set_option maxHeartbeats 4000000 in
set_option maxRecDepth 100000 in
theorem some_any {a a2 : Option Addr} {n c n2 c2 : Nat} {zs : List Int} {Ss : List PSet} {w : World} (h : SlOf Nil w 2 (RNum Nil w) 0 a n c zs) (hn : n * 32 + 4096 ≤ 140737488355328) (h2 : Sets Nil Nil w a2 n2 c2 Ss) (hn2 : n2 ≤ 2) (hf : ∀ S ∈ Ss, Fine S ∧ S.cuts.length ≤ 12) :
    Calls Try.prog 11 #[.slice a n c, .slice a2 n2 c2] w fun e w' => SomeRet w e w' := by
  obtain ⟨i1, hi1⟩ := info_parts info_Int
  have HI := Lib.hid hi1
  have hcap := h.cap
  have hle := h.le
  have hcap2 := SlOf.cap h2
  have hle2 := SlOf.le h2
  have hlen2 : Ss.length = n2 := SlOf.len h2
  have HS := Lib.hid (And.intro h2 (And.intro hf hlen2))
  have r0 := RowIs.alloc (w := w) (E := 36) (xs := [])
  have hk0 : Keeps Nil w (w.alloc (.cells #[] 36)) := (by repeat (first | exact Keeps.refl _ _ | refine Keeps.drew ?_ | refine Keeps.drewN ?_ _ | refine Keeps.alloc ?_ _))
  have HL := Lib.hid h
  clear hi1 h2 hf hlen2
  go_enter Try.func11, Try.ntmps11
  go_upto_region 1 with (fail)
  go_cut [5] (fun v wx => Gets w 36 wx v n)
  case first =>
    cases a with
    | none =>
      obtain ⟨rfl, rfl⟩ := h.none
      clear h
      go_wp2_with (at_builtin; refine wpList_append_own_none rfl _ _ 23 rfl w.heap.size 36 i1 2 Try.underlying23 HI.out.1 _ _ _ rfl (own_empty w _).row rfl ?_)
      go_meet
      exact ⟨[], [], ⟨own_empty w _, rfl, fun i hi => by simp at hi⟩, by simp, hk0⟩
    | some p =>
      obtain ⟨new, m1, m2, m3, m4, m5⟩ := h.news0 (by decide)
      have hns : ∀ j u, new.flatten[j]? = some u → (w.alloc (.cells #[] 36)).cell? (p.add j) = some u := fun j u hj => by
        have h0 : 0 < n := by
          rcases Nat.eq_zero_or_pos n with h0 | h0
          · rw [h0] at m1
            have : new = [] := List.eq_nil_of_length_eq_zero m1
            rw [this] at hj; simp at hj
          · exact h0
        rw [← m3 j u hj]
        exact hk0.cell (p := p.add j) (show (p.add j).block < w.heap.size by have := m5 h0; unfold Addr.add; split <;> exact this) id
      have hone : ∀ u ∈ new.flatten, u.oneCell' = true := fun u hu => by
        obtain ⟨cs, hcs, hu⟩ := List.mem_flatten.1 hu
        obtain ⟨i, hi, rfl⟩ := List.mem_iff_getElem.1 hcs
        obtain ⟨g, a', n', c', e, _⟩ := m4 i (by omega)
        rw [show new.getD i [] = new[i] by simp [List.getD, List.getElem?_eq_getElem hi]] at e
        rw [e] at hu
        rcases (by simpa using hu : u = .bool g ∨ u = .slice a' n' c') with rfl | rfl
        · rfl
        · rfl
      have HNW := Lib.hid (And.intro m1 (And.intro m2 (And.intro m4 (And.intro hns hone))))
      clear m1 m2 m3 m4 m5 hns hone h
      go_wp2_with (at_builtin; refine wpList_append_els _ rfl (.tmp 10) (.tmp 11) 23 rfl w.heap.size 36 i1 (.agg #[.bool false, .slice none 0 0]) 2 32 Try.underlying23 HI.out.1 HI.out.2.1 HI.out.2.2.1 HI.out.2.2.2 rfl (by decide) (.slice (some ⟨w.heap.size, 0, none⟩) 0 0) [] rfl (own_empty w _) p c n new rfl HNW.out.1 HNW.out.2.1 HNW.out.2.2.2.1 HNW.out.2.2.2.2 (by simp; omega) (by simp; omega) (by simp) ?_; intro v' w2 ho hk2 hf2 _; have HO := Lib.hid (And.intro ho (And.intro hk2 hf2)); clear ho hk2 hf2)
      go_meet
      refine ⟨_, _, Grown.append RN2.moves (ys := zs) (⟨own_empty w _, rfl, fun i hi => by simp at hi⟩ : Grown RN2 0 36 2 Nil (w.alloc (.cells #[] 36)) w.heap.size (.slice (some ⟨w.heap.size, 0, none⟩) 0 0) [] []) (by rw [HNW.out.1]; exact HL.out.len) (fun i hi => ?_) HO.out.1 HO.out.2.1 HO.out.2.2, by simp [HNW.out.1], hk0.trans' HO.out.2.1 fun b hb => ?_⟩
      · obtain ⟨g, a', n', c', e, hz, hr⟩ := HNW.out.2.2.1 i (by rw [← HNW.out.1]; exact hi)
        exact RN2.moves ⟨g, a', n', c', e, hz, by omega⟩ hk0 (fun _ _ h => h.elim) fun b hb hm => by
          rcases hm with hm | hm
          · exact hm
          · simp [Value.ownBlock] at hm; omega
      · have : some w.heap.size = some b := hb
        cases this; exact .inr (Nat.le_refl _)
  case rest =>
    rename World => w3
    have HG3 := Lib.hid hcut
    clear hcut h hk0 r0
    go_wp2_with fail
    go_loopw [5, 6] (fun v i wr => ∃ j : Nat, j ≤ 19 ∧ i = .int .i64 ((j : Int) - 9) ∧ Gets w 36 wr v (n + j)) (fun _ i _ => 19 - (intOf i + 9).toNat)
    case atStart => exact ⟨0, by omega, rfl, HG3.out⟩
    case round =>
      obtain ⟨j, hj, rfl, els, xs, hg, hl, hkk⟩ := hrel
      have HG := Lib.hid (And.intro hg (And.intro hl hkk))
      clear hg hl hkk HG3
      by_cases hjt : j < 19
      · have i2 : (j : Int) - 9 < 10 := by omega
        have HMV := Lib.hid (MB.and (MB.nil wr) HG.out.1.own (Nat.le_refl _))
        go_wp2_with (first | (go_at_call 18; refine (refof_any (M := And' Nil u5) (z := (j : Int) - 9) HMV.out (by omega) (by omega)).mono ?_; rintro e w4 ⟨g1, a1, n1, m1, rfl, h1, hk1⟩; have H1 := Lib.hid (And.intro h1 hk1); clear h1 hk1) | (at_builtin; refine wpList_append_els _ rfl (.tmp 17) (.tmp 20) 23 rfl w.heap.size 36 i1 (.agg #[.bool false, .slice none 0 0]) 2 32 Try.underlying23 HI.out.1 HI.out.2.1 HI.out.2.2.1 HI.out.2.2.2 rfl (by decide) u5 els rfl ((HG.out.1.own.keepNil H1.out.2).keepNil (by repeat (first | exact Keeps.refl _ _ | refine Keeps.drew ?_ | refine Keeps.drewN ?_ _ | refine Keeps.alloc ?_ _))) ⟨w4.heap.size, 0, none⟩ 1 1 [[.bool g1, .slice a1 n1 m1]] rfl rfl (by simp) (alloc_news _ _ _) (by simp [Value.oneCell']) (by have := HG.out.2.1; omega) (by have := HG.out.2.1; omega) (by have := HG.out.2.2.size; have := H1.out.2.size; simp; omega) ?_; intro v' w5 ho hk2 hf2 _; have HO := Lib.hid (And.intro ho (And.intro hk2 hf2)); clear ho hk2 hf2))
        go_roundw
        case rel =>
          have hs := nlen_le_of_lt (n := ((j : Int) - 9).natAbs) (k := 1) (by rw [Nat.pow_one, Bs_def]; omega)
          exact ⟨j + 1, by omega, by go_num, Gets.snoc HG.out.1 HG.out.2.1 HG.out.2.2 (H1.out.2.trans (by repeat (first | exact Keeps.refl _ _ | refine Keeps.drew ?_ | refine Keeps.drewN ?_ _ | refine Keeps.alloc ?_ _))) (RN2.ofZN (H1.out.1.keepNil (by repeat (first | exact Keeps.refl _ _ | refine Keeps.drew ?_ | refine Keeps.drewN ?_ _ | refine Keeps.alloc ?_ _))) (by omega)) HO.out.1 HO.out.2.1 HO.out.2.2⟩
        case measure => simp [intOf]; omega
      · obtain rfl : j = 19 := by omega
        have HGG := Lib.hid (show Gets w 36 wr u5 (n + 19) from ⟨els, xs, HG.out⟩)
        clear HG
        go_wp2_with fail
        go_loopw [5, 7] (fun v i wx => ∃ s : Nat, s ≤ n2 ∧ i = .int .i64 s ∧ Gets w 36 wx v (n + 19 + 24 * s)) (fun _ i _ => n2 - (intOf i).toNat)
        case atStart => exact ⟨0, Nat.zero_le _, rfl, HGG.out⟩
        case round =>
          rename World => wx
          obtain ⟨s, hs, rfl, els, xs, hg, hl, hkk⟩ := hrel
          have HG := Lib.hid (And.intro hg (And.intro hl hkk))
          clear HGG
          by_cases hst : s < n2
          · obtain ⟨b, off, p, hae, hb, _, x0, hS⟩ := (HS.out.1.keepNil hkk).at hst
            subst hae
            have hfS := HS.out.2.1 (Ss.getD s noneSet) (by simp [List.getD, List.getElem?_eq_getElem (show s < Ss.length by have := HS.out.2.2; omega)])
            generalize Ss.getD s noneSet = S at *
            have i2 : (s : Int) < (n2 : Int) := by omega
            have i3 : (0 : Int) ≤ (s : Int) := by omega
            have HMV := Lib.hid (MB.and (MB.nil wx) HG.out.1.own (Nat.le_refl _))
            have HFS := Lib.hid (And.intro hfS.1 (And.intro hfS.2 hS))
            clear hg hl hkk hb hfS hS
            go_wp2_with (go_at_call 15; refine (cuts_any (M := And' Nil u5) HMV.out HFS.out.2.2 HFS.out.1).mono ?_; rintro e w4 ⟨a4, c4, rfl, hz4, hk4⟩)
            obtain ⟨q, hq⟩ : ∃ q, q = S.cuts.length := ⟨_, rfl⟩
            have hq12 : q ≤ 12 := by rw [hq]; exact HFS.out.2.1
            rw [← hq] at hz4 ⊢
            obtain ⟨capq, leq⟩ := And.intro hz4.cap hz4.le
            have HZ4 := Lib.hid (And.intro hz4 (And.intro hk4 hq))
            clear hz4 hk4 x0 hq
            have h0r : Gets w 36 w4 u5 (n + 19 + 24 * s + 2 * 0) ∧ ZInts (And' Nil u5) w4 a4 q c4 S.cuts := ⟨⟨els, xs, HG.out.1.keepNil RN2.moves HZ4.out.2.1, HG.out.2.1, HG.out.2.2.trans HZ4.out.2.1⟩, HZ4.out.1⟩
            have H0R := Lib.hid h0r
            clear h0r HG HMV
            go_loopw [5, 9] (fun v i wy => ∃ k : Nat, k ≤ q ∧ i = .int .i64 k ∧ Gets w 36 wy v (n + 19 + 24 * s + 2 * k) ∧ ZInts (And' Nil v) wy a4 q c4 S.cuts) (fun _ i _ => q - (intOf i).toNat)
            case atStart => exact ⟨0, Nat.zero_le _, rfl, H0R.out.1, H0R.out.2⟩
            case round =>
              rename World => wy
              obtain ⟨k, hk, rfl, ⟨els, xs, hg, hl, hkk⟩, hzi⟩ := hrel
              have HG := Lib.hid (And.intro hg (And.intro hl (And.intro hkk hzi)))
              clear H0R
              by_cases hkq : k < q
              · obtain ⟨b2, off2, g2, a5, n5, c5, hae, hb2, _, y0, y1, hz5⟩ := hzi.at hkq
                subst hae
                have hz5f := HFS.out.1.fit (zth S.cuts k) (seg_mem (by have := HZ4.out.2.2; omega))
                have HMV := Lib.hid (MB.and (MB.nil wy) HG.out.1.own (Nat.le_refl _))
                have HZ5 := Lib.hid (And.intro hz5 hz5f)
                have i4 : (k : Int) < (q : Int) := by omega
                have i5 : (0 : Int) ≤ (k : Int) := by omega
                have hfit := fit_one
                have HFO := Lib.hid hfit
                clear hg hl hkk hzi hz5 hz5f hfit
                go_upto_region 13 with (fail)
                refine wp_region_till (Keeps Nil wy) [12, 13] (by kernel_rfl) ?_
                have hS : Keeps Nil wy (World.drew wy) := (by repeat (first | exact Keeps.refl _ _ | refine Keeps.drew ?_ | refine Keeps.drewN ?_ _ | refine Keeps.alloc ?_ _))
                refine wpTill_take (i := 0) (v := ?v1) rfl (by kernel_rfl) (fun _ _ _ h => h) (Or.inl ⟨by rfl, ?y1⟩) hS ?r1
                case y1 => (intro w' hSw; obtain ⟨hrc, hrf⟩ := hSw.rules; clear hSw;  go_simp; (try with_reducible rfl))
                try simp only [Act.put, List.setIfInBounds_toArray, List.set_cons_zero, List.set_cons_succ]
                refine wpTill_take (i := 1) (v := ?v2) rfl (by kernel_rfl) (fun _ _ _ h => h) (Or.inl ⟨by rfl, ?y2⟩) hS ?r2
                case y2 => (intro w' hSw; obtain ⟨hrc, hrf⟩ := hSw.rules; clear hSw;  go_simp; (try with_reducible rfl))
                try simp only [Act.put, List.setIfInBounds_toArray, List.set_cons_zero, List.set_cons_succ]
                refine wpTill_take (i := 2) (v := ?v3) rfl (by kernel_rfl) (fun _ _ _ h => h) (Or.inl ⟨by rfl, ?y3⟩) hS ?r3
                case y3 => (intro w' hSw; obtain ⟨hrc, hrf⟩ := hSw.rules; clear hSw;  go_simp; (try with_reducible rfl))
                try simp only [Act.put, List.setIfInBounds_toArray, List.set_cons_zero, List.set_cons_succ]
                refine wpTill_take (i := 3) (v := ?v4) rfl (by kernel_rfl) (fun _ _ _ h => h) (Or.inl ⟨by rfl, ?y4⟩) hS ?r4
                case y4 => (intro w' hSw; obtain ⟨hrc, hrf⟩ := hSw.rules; clear hSw;  go_simp; (try with_reducible rfl))
                try simp only [Act.put, List.setIfInBounds_toArray, List.set_cons_zero, List.set_cons_succ]
                refine wpTill_take (i := 4) (v := ?v5) rfl (by kernel_rfl) (fun _ _ _ h => h) (Or.inl ⟨by rfl, ?y5⟩) hS ?r5
                case y5 => (intro w' hSw; obtain ⟨hrc, hrf⟩ := hSw.rules; clear hSw;  go_simp; (try with_reducible rfl))
                try simp only [Act.put, List.setIfInBounds_toArray, List.set_cons_zero, List.set_cons_succ]
                refine wpTill_take (i := 5) (v := ?v6) rfl (by kernel_rfl) (fun _ _ _ h => h) (Or.inl ⟨by rfl, ?y6⟩) hS ?r6
                case y6 => (intro w' hSw; obtain ⟨hrc, hrf⟩ := hSw.rules; clear hSw;  go_simp; (try with_reducible rfl))
                try simp only [Act.put, List.setIfInBounds_toArray, List.set_cons_zero, List.set_cons_succ]
                refine wpTill_take (i := 6) (v := ?v7) rfl (by kernel_rfl) (fun _ _ _ h => h) (Or.inl ⟨by rfl, ?y7⟩) hS ?r7
                case y7 => (intro w' hSw; obtain ⟨hrc, hrf⟩ := hSw.rules; clear hSw;  go_simp; (try with_reducible rfl))
                try simp only [Act.put, List.setIfInBounds_toArray, List.set_cons_zero, List.set_cons_succ]
                refine wpTill_take (i := 7) (v := ?v8) rfl (by kernel_rfl) (fun _ _ _ h => h) (Or.inl ⟨by rfl, ?y8⟩) hS ?r8
                case y8 => (intro w' hSw; obtain ⟨hrc, hrf⟩ := hSw.rules; clear hSw;  go_simp; (try with_reducible rfl))
                try simp only [Act.put, List.setIfInBounds_toArray, List.set_cons_zero, List.set_cons_succ]
                refine wpTill_take (i := 8) (v := ?v9) rfl (by kernel_rfl) (fun _ _ _ h => h) (Or.inl ⟨by rfl, ?y9⟩) hS ?r9
                case y9 => (intro w' hSw; obtain ⟨hrc, hrf⟩ := hSw.rules; clear hSw;  go_simp; (try with_reducible rfl))
                try simp only [Act.put, List.setIfInBounds_toArray, List.set_cons_zero, List.set_cons_succ]
                refine wpTill_ready (rs := [9]) (by kernel_rfl) (by simp) ?_
                refine AllTill.cons rfl (fun K hK => ?_) AllTill.nil
                go_simp
                refine (refof_any (M := Nil) (z := 1) (MB.nil _) (by omega) (by omega)).mono ?_
                rintro e w1 ⟨g8, a8, n8, c8, rfl, h8, hk⟩
                refine hK.out _ _ (fun h => h.trans hk) ?_
                clear hK K
                try simp only [Act.put, List.setIfInBounds_toArray, List.set_cons_zero, List.set_cons_succ]
                replace hS := hS.trans hk
                have H8 := Lib.hid h8
                clear hk h8
                refine wpTill_ready (rs := [10]) (by kernel_rfl) (by simp) ?_
                refine AllTill.cons rfl (fun K hK => ?_) AllTill.nil
                go_simp
                refine (refsub_any (M := And' Nil u5) (HMV.out.keep hS) ((HZ5.out.1.toNil.zat (by have := HZ5.out.2; omega)).keepNil hS) (H8.out.zat HFO.out) (fit_ofN HZ5.out.1 (by have := HZ5.out.2; omega)) (fit_ofN H8.out HFO.out)).mono ?_
                rintro e w1 ⟨g9, a9, n9, c9, rfl, h9, hk⟩
                refine hK.out _ _ (fun h => h.trans hk) ?_
                clear hK K
                try simp only [Act.put, List.setIfInBounds_toArray, List.set_cons_zero, List.set_cons_succ]
                replace hS := hS.trans hk
                have H9 := Lib.hid h9
                clear hk h9
                refine wpTill_ready (rs := [11]) (by kernel_rfl) (by simp) ?_
                refine AllTill.cons rfl (fun K hK => ?_) AllTill.nil
                go_simp
                refine hK.out _ _ (fun h => h.alloc _) ?_
                clear hK K
                try simp only [Act.put, List.setIfInBounds_toArray, List.set_cons_zero, List.set_cons_succ]
                rename World => w6
                have HS6 := Lib.hid hS
                clear hS
                refine wpTill_ready (rs := [12]) (by kernel_rfl) (by simp) ?_
                refine AllTill.consT rfl (by decide) (fun K hK => ?_) AllTill.nil
                rw [if_pos (by kernel_rfl)]
                refine oper_append_els (w6.alloc (.cells #[.bool g2, .slice a5 n5 c5, .bool g9, .slice a9 n9 c9] 36)) (.tmp 39) (.tmp 50) 23 rfl w.heap.size 36 i1 (.agg #[.bool false, .slice none 0 0]) 2 32 Try.underlying23 HI.out.1 HI.out.2.1 HI.out.2.2.1 HI.out.2.2.2 rfl (by decide) u5 els rfl ((HG.out.1.own.keepNil HS6.out).keepNil (by repeat (first | exact Keeps.refl _ _ | refine Keeps.drew ?_ | refine Keeps.drewN ?_ _ | refine Keeps.alloc ?_ _))) ⟨w6.heap.size, 0, none⟩ 2 2 [[.bool g2, .slice a5 n5 c5], [.bool g9, .slice a9 n9 c9]] rfl rfl (by simp) (fun j u hj => alloc_news w6 [.bool g2, .slice a5 n5 c5, .bool g9, .slice a9 n9 c9] _ j u hj) (by simp [Value.oneCell']) (by have := HG.out.2.1; omega) (by have := HG.out.2.1; omega) (by have := HG.out.2.2.1.size; have := HS6.out.size; simp; omega) ?_
                intro v' w7 ho hk2 hf2
                refine hK.out _ _ ?_
                clear hK K
                try simp only [Act.put, List.setIfInBounds_toArray, List.set_cons_zero, List.set_cons_succ]
                have HO := Lib.hid (And.intro ho (And.intro hk2 hf2))
                clear ho hk2 hf2
                refine wpTill_ready (rs := [13]) (by kernel_rfl) (by simp) ?_
                refine AllTill.consT rfl (by decide) (fun K hK => ?_) AllTill.nil
                go_simp
                refine hK.out _ _ ?_
                clear hK K
                try simp only [Act.put, List.setIfInBounds_toArray, List.set_cons_zero, List.set_cons_succ]
                refine wpTill_done (by kernel_rfl) ?_ _
                skip
                go_wp2_with fail
                go_roundw
                case rel =>
                  have ka : Keeps Nil wy (w6.alloc (.cells #[.bool g2, .slice a5 n5 c5, .bool g9, .slice a9 n9 c9] 36)) := HS6.out.trans (by repeat (first | exact Keeps.refl _ _ | refine Keeps.drew ?_ | refine Keeps.drewN ?_ _ | refine Keeps.alloc ?_ _))
                  have hf1 := HZ5.out.2
                  have hf2 := nlen_natAbs_add (zth S.cuts k) (-1)
                  have hf3 : nlen (-1 : Int).natAbs ≤ 1 := nlen_le_of_lt (by decide)
                  rw [show zth S.cuts k + -1 = zth S.cuts k - 1 by omega] at hf2
                  refine ⟨k + 1, by omega, by go_num, (Gets.snoc2 HG.out.1 HG.out.2.1 HG.out.2.2.1 ka (RN2.ofZN (HZ5.out.1.keepNil ka) (by omega)) (RN2.ofZN (H9.out.keepNil (by repeat (first | exact Keeps.refl _ _ | refine Keeps.drew ?_ | refine Keeps.drewN ?_ _ | refine Keeps.alloc ?_ _))) (by omega)) HO.out.1 HO.out.2.1 HO.out.2.2).mono (by omega), ?_⟩
                  exact (HG.out.2.2.2.keepNil ka).move HO.out.2.1 (fun b _ hb => .inr hb) fun b hb hm => by
                    rcases hm with hm | hm
                    · exact .inl hm
                    · rcases HO.out.2.2 b hm with h' | h'
                      · exact .inr h'
                      · omega
                case measure => simp [intOf]; omega
              · obtain rfl : k = q := by omega
                have i4 : ¬ (k : Int) < (k : Int) := by omega
                clear hg hl hkk hzi
                go_wp2_with fail
                go_roundw
                case rel => exact ⟨s + 1, by omega, by go_num, els, xs, HG.out.1, by have := HG.out.2.1; omega, HG.out.2.2.1⟩
                case measure => simp [intOf]; omega
          · obtain rfl : s = n2 := by omega
            have i4 : ¬ (s : Int) < (s : Int) := by omega
            obtain ⟨av, cv, hv, hL⟩ := hg.sl RN2.moves (fun _ h => h.elim)
            subst hv
            have HLL := Lib.hid (And.intro hL hkk)
            clear hg hl hkk hL HG
            go_wp2_with fail
            go_ret
            exact ⟨_, _, _, _, rfl, HLL.out.1, HLL.out.2⟩
end Go.Proofs.Ytfkclbhddiidbaa
