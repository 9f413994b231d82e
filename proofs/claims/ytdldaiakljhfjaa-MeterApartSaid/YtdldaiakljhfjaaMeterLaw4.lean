/- The walk of MeterApart: it returns true. Conditions: a number in int's range; lists' own reading. -/
import Derived.Test.YtdldaiakljhfjaaRows
import Derived.Test.YtdldaiakljhfjaaBase
import Derived.Test.YtdldaiakljhfjaaMeterHelp
import Derived.Test.YtdldaiakljhfjaaMeterLaw2
import Derived.Deep.RegionWith
namespace Go.Proofs.Ytdldaiakljhfjaa
open Go.RowKit Go.Rid

set_option maxHeartbeats 1000000 in
/-- one: the two meters answer alike. -/
theorem one_any {g r n' c' : Nat} {a' : Option Addr} {l : List (Bool × List Nat)} {sp : Bool} {N L s o z : Int} {w : World} (h : MeterAt w g N L s o) (hr : RefMeterAt w r N L s o) (hgr : g ≠ r) (hs0 : 0 ≤ s) (hs1 : s ≤ N) (hN : N ≤ 2000)
    (hI : Ints (Two g r) w a' n' c' l) (hr' : n' * 32 ≤ 140737488355328) (hz1 : z ≤ 9223372036854775807) :
    Calls Try.prog 20 #[.pointer (some ⟨g, 0, none⟩), .pointer (some ⟨r, 0, none⟩), .agg #[.bool sp, .int .i64 z, .slice a' n' c']] w fun e w' => e = .returned (.bool true) ∧
      ∃ s' o', 0 ≤ s' ∧ s' ≤ N ∧ MeterAt w' g N L s' o' ∧ RefMeterAt w' r N L s' o' ∧ Keeps (Two g r) w w' := by
  have HM := Lib.hid h
  have HR := Lib.hid hr
  have HI := Lib.hid hI
  have hg := h.lt
  have hrl := RowIs.lt hr
  have HB := Lib.hid (RowIs.alloc (w := w) (E := 36) (xs := [.bool sp, .int .i64 z, .slice a' n' c']))
  clear h hr hI
  cases sp
  · have HMB : Hid (MB (Two g r) w) := Lib.hid (fun b h => by rcases h with rfl | rfl <;> assumption)
    go_enter Try.func20, Try.ntmps20
    go_wp2_with fail
    refine (lent_any (M := Two g r) (HMB.out.keep (M' := Nil) (by repeat (first | exact Keeps.refl _ _ | refine Keeps.drew ?_ | refine Keeps.drewN ?_ _ | refine Keeps.alloc ?_ _))) (HI.out.keepNil (by repeat (first | exact Keeps.refl _ _ | refine Keeps.drew ?_ | refine Keeps.drewN ?_ _ | refine Keeps.alloc ?_ _))) hr').mono ?_
    rintro e w4 ⟨a4, c4, rfl, hl4, hk4⟩
    have b4 := HB.out.keep hk4 id
    obtain ⟨c40, c41, c42⟩ := b4.three
    have H4 := Lib.hid (And.intro hl4 (And.intro ((Keeps.of_nil (M := Nil) (by repeat (first | exact Keeps.refl _ _ | refine Keeps.drew ?_ | refine Keeps.drewN ?_ _ | refine Keeps.alloc ?_ _))).trans hk4 : Keeps Nil w w4) b4))
    have hz4 := hk4.size
    simp at hz4
    clear hl4 hk4 b4
    go_wp2_with fail
    have hy := nodeM_range (limbs := L) (o := o) (xs := l) hs0 hs1
    have HY := Lib.hid hy
    clear hy
    go_region_held3 (fun w' => w'.cell? ⟨w.heap.size, 2, none⟩ = some (.slice a' n' c')) (go_keep) (first | (go_at_call 16; refine (node_any (M := Nil) (MB.nil _) ((HM.out.keepNil H4.out.2.1).keepNil (by repeat (first | exact Keeps.refl _ _ | refine Keeps.drew ?_ | refine Keeps.drewN ?_ _ | refine Keeps.alloc ?_ _))) ((H4.out.1.keepNil (by repeat (first | exact Keeps.refl _ _ | refine Keeps.drew ?_ | refine Keeps.drewN ?_ _ | refine Keeps.alloc ?_ _))).turn fun _ _ h => h.elim) hs0 hs1 hN).mono ?_; rintro e w5 ⟨rfl, hm5, hk5⟩; have b5 := (H4.out.2.2.keep (M := Nil) (by repeat (first | exact Keeps.refl _ _ | refine Keeps.drew ?_ | refine Keeps.drewN ?_ _ | refine Keeps.alloc ?_ _)) id).keep hk5 (show ¬ w.heap.size = g by omega); obtain ⟨c50, c51, c52⟩ := b5.three; have HK5 := Lib.hid (And.intro hm5 (And.intro hk5 b5))) | (go_at_call 17; refine (refnode_any (M := Nil) (RowIs.keep (RowIs.keep (RowIs.keep HR.out H4.out.2.1 id) (M := Nil) (by repeat (first | exact Keeps.refl _ _ | refine Keeps.drew ?_ | refine Keeps.drewN ?_ _ | refine Keeps.alloc ?_ _)) id) HK5.out.2.1 (show ¬ r = g by omega)) ((((HI.out.keepNil H4.out.2.1).keepNil (by repeat (first | exact Keeps.refl _ _ | refine Keeps.drew ?_ | refine Keeps.drewN ?_ _ | refine Keeps.alloc ?_ _))).keep HK5.out.2.1 (fun b _ h => .inl h)).turn fun _ _ h => h.elim) hs0 hs1 hN).mono ?_; rintro e w6 ⟨rfl, hm6, hk6⟩; have b6 := HK5.out.2.2.keep hk6 (show ¬ w.heap.size = r by omega); obtain ⟨c60, c61, c62⟩ := b6.three; have HK6 := Lib.hid (And.intro hm6 (And.intro hk6 b6))) | (go_at_call 18; refine (kept_any (M := Two g r) (M2 := Two g r) (((H4.out.1.keepNil (by repeat (first | exact Keeps.refl _ _ | refine Keeps.drew ?_ | refine Keeps.drewN ?_ _ | refine Keeps.alloc ?_ _))).keep HK5.out.2.1 (fun b _ h => .inl h)).keep HK6.out.2.1 (fun b _ h => .inr h)) ((((HI.out.keepNil H4.out.2.1).keepNil (by repeat (first | exact Keeps.refl _ _ | refine Keeps.drew ?_ | refine Keeps.drewN ?_ _ | refine Keeps.alloc ?_ _))).keep HK5.out.2.1 (fun b _ h => .inl h)).keep HK6.out.2.1 (fun b _ h => .inr h))).mono ?_; rintro e w7 ⟨rfl, hk7⟩; have HK7 := Lib.hid hk7; obtain ⟨c70, c71, c72⟩ := (HK6.out.2.2.keep hk7 id).three))
    go_wp2
    go_ret
    refine ⟨rfl, _, _, HY.out.1, HY.out.2, ((HK5.out.1.beside (RowIs.keep (RowIs.keep (RowIs.keep HR.out H4.out.2.1 id) (M := Nil) (by repeat (first | exact Keeps.refl _ _ | refine Keeps.drew ?_ | refine Keeps.drewN ?_ _ | refine Keeps.alloc ?_ _)) id) HK5.out.2.1 (show ¬ r = g by omega)) (by decide) hgr HK6.out.2.1)).keepNil HK7.out, RowIs.keep HK6.out.1 HK7.out id, ?_⟩
    exact (((H4.out.2.1.trans (by repeat (first | exact Keeps.refl _ _ | refine Keeps.drew ?_ | refine Keeps.drewN ?_ _ | refine Keeps.alloc ?_ _))).of_nil.trans (HK5.out.2.1.mono (fun b hb => .inl hb))).trans (HK6.out.2.1.mono (fun b hb => .inr hb))).transNil HK7.out
  · have hy := spendM_range (o := o) (n := z) hs0 hs1
    have HY := Lib.hid hy
    clear hy
    go_enter Try.func20, Try.ntmps20
    go_wp2_with fail
    go_region_held3 (fun w' => w'.cell? ⟨w.heap.size, 1, none⟩ = some (.int .i64 z)) (go_keep) (first | (go_at_call 13; refine (spend_any (HM.out.keepNil (by repeat (first | exact Keeps.refl _ _ | refine Keeps.drew ?_ | refine Keeps.drewN ?_ _ | refine Keeps.alloc ?_ _))) hs0 hs1 hN hz1).mono ?_; rintro e w5 ⟨rfl, hm5, hk5⟩; have b5 := (HB.out.keep (M := Nil) (by repeat (first | exact Keeps.refl _ _ | refine Keeps.drew ?_ | refine Keeps.drewN ?_ _ | refine Keeps.alloc ?_ _)) id).keep hk5 (show ¬ w.heap.size = g by omega); obtain ⟨c50, c51, c52⟩ := b5.three; have HK5 := Lib.hid (And.intro hm5 (And.intro hk5 b5))) | (go_at_call 14; refine (refspend_any (RowIs.keep (RowIs.keep HR.out (M := Nil) (by repeat (first | exact Keeps.refl _ _ | refine Keeps.drew ?_ | refine Keeps.drewN ?_ _ | refine Keeps.alloc ?_ _)) id) HK5.out.2.1 (show ¬ r = g by omega)) hs0 hs1 hN hz1).mono ?_; rintro e w6 ⟨rfl, hm6, hk6⟩; have b6 := HK5.out.2.2.keep hk6 (show ¬ w.heap.size = r by omega); obtain ⟨c60, c61, c62⟩ := b6.three; have HK6 := Lib.hid (And.intro hm6 (And.intro hk6 b6))))
    go_wp2
    go_ret
    refine ⟨rfl, _, _, HY.out.1, HY.out.2, HK5.out.1.beside (RowIs.keep (RowIs.keep HR.out (M := Nil) (by repeat (first | exact Keeps.refl _ _ | refine Keeps.drew ?_ | refine Keeps.drewN ?_ _ | refine Keeps.alloc ?_ _)) id) HK5.out.2.1 (show ¬ r = g by omega)) (by decide) hgr HK6.out.2.1, HK6.out.1, ?_⟩
    exact ((Keeps.of_nil (by repeat (first | exact Keeps.refl _ _ | refine Keeps.drew ?_ | refine Keeps.drewN ?_ _ | refine Keeps.alloc ?_ _))).trans (HK5.out.2.1.mono (fun b hb => .inl hb))).trans (HK6.out.2.1.mono (fun b hb => .inr hb))

/-- A meter beside blocks of other kinds that are written. -/
theorem MeterAt.besideM {M : Nat → Prop} {w w' : World} {g : Nat} {n l s o : Int} (h : MeterAt w g n l s o) (k : Keeps M w w') (hM : ∀ b, M b → b ≠ g ∧ ∃ E xs, RowIs w b E xs ∧ E ≠ 63) : MeterAt w' g n l s o := by
  obtain ⟨t, h1, h2, h3⟩ := h
  refine ⟨t, h1.keep k (fun e => (hM _ e).1 rfl), h2.keep k (fun e => ?_), h3⟩
  obtain ⟨_, E, xs, hr, hE⟩ := hM _ e
  have := h2.out.symm.trans hr.out
  simp at this
  exact hE this.2.symm
theorem two_kinds {w : World} {g r g2 : Nat} {n l s o n2 l2 s2 o2 : Int} (h : MeterAt w g n l s o) (hr : RefMeterAt w r n2 l2 s2 o2) (h1 : g ≠ g2) (h2 : r ≠ g2) : ∀ b, Two g r b → b ≠ g2 ∧ ∃ E xs, RowIs w b E xs ∧ E ≠ 63 := by
  rintro b (rfl | rfl)
  · obtain ⟨t, h, _⟩ := h
    exact ⟨h1, _, _, h, by decide⟩
  · exact ⟨h2, _, _, hr, by decide⟩

set_option maxRecDepth 100000 in
set_option maxHeartbeats 2000000 in
theorem MeterApart_walk {a0 : Int} {a a2 : Option Addr} {n c n2 c2 : Nat} {xs ys : List (Bool × Int × List (Bool × List Nat))} (w : World) (hx : Script Nil w a n c xs) (_ : n * 40 ≤ 140737488355328) (hy : Script Nil w a2 n2 c2 ys) (_ : n2 * 40 ≤ 140737488355328) (h00 : -9223372036854775808 ≤ a0) (h01 : a0 ≤ 9223372036854775807) :
    Calls Try.prog 6 #[.slice a n c, .slice a2 n2 c2, .int .i64 a0] w fun e w' => e = .returned (.bool true) ∧ Keeps Nil w w' := by
  have HX := Lib.hid hx.old
  have HY := Lib.hid hy.old
  have hcap := SlOf.cap hx
  have hle := SlOf.le hx
  have hcap2 := SlOf.cap hy
  have hle2 := SlOf.le hy
  clear hx hy
  go_enter Try.func6, Try.ntmps6
  go_wp2_with fail
  refine (pick_any a0 40 _ h00 h01 (by decide) (by decide)).mono ?_
  rintro e w1 ⟨p, rfl, hp0, hp1, rfl⟩
  go_wp2_with fail
  refine (new_ok (1 + p) 2 _ (by omega) (by omega) (by omega) (by omega)).mono ?_
  rintro e w1 ⟨g, rfl, hm1, hk1, hg1⟩
  have H1 := Lib.hid (And.intro hm1 (And.intro hk1 hg1))
  clear hm1 hk1 hg1
  go_wp2_with fail
  refine (new_ok (1 + p) 2 _ (by omega) (by omega) (by omega) (by omega)).mono ?_
  rintro e w2 ⟨g2, rfl, hm2, hk2, hg2⟩
  have H2 := Lib.hid (And.intro (H1.out.1.keepNil hk2) (And.intro hm2 (And.intro (H1.out.2.1.trans hk2) hg2)))
  clear hm2 hk2 hg2
  go_wp2_with fail
  refine (known_any _).mono ?_
  rintro e w3 ⟨rfl, hk3⟩
  have H3 := Lib.hid (And.intro (H2.out.1.keepNil hk3) (And.intro (H2.out.2.1.keepNil hk3) (H2.out.2.2.1.trans hk3)))
  clear hk3
  go_wp2_with fail
  refine (refnew_any (1 + p) 2 _).mono ?_
  rintro e w4 ⟨r, rfl, hm4, hk4, hg4⟩
  have H4 := Lib.hid (And.intro (H3.out.1.keepNil hk4) (And.intro (H3.out.2.1.keepNil hk4) (And.intro hm4 (And.intro (H3.out.2.2.trans hk4) hg4))))
  clear hm4 hk4 hg4
  go_wp2_with fail
  refine (refnew_any (1 + p) 2 _).mono ?_
  rintro e w5 ⟨r2, rfl, hm5, hk5, hg5⟩
  have H5 := Lib.hid (And.intro (H4.out.1.keepNil hk5) (And.intro (H4.out.2.1.keepNil hk5) (And.intro (RowIs.keep H4.out.2.2.1 hk5 id) (And.intro hm5 (H4.out.2.2.2.1.trans hk5)))))
  clear hm5 hk5
  have hA : w.heap.size ≤ g ∧ g < g2 ∧ g2 < r ∧ r < r2 := by
    have q1 := H1.out.2.2
    have q2 := H1.out.1.lt
    have q3 := H2.out.2.2.2
    have q4 := H3.out.2.1.lt
    have q5 := H4.out.2.2.2.2
    have q6 := RowIs.lt H4.out.2.2.1
    exact ⟨q1, by omega, by omega, by omega⟩
  have HA := Lib.hid hA
  clear hA
  go_wp2_with fail
  go_loopw [14] (fun i wr => ∃ (k : Nat) (s o s2 o2 : Int), k ≤ max n n2 ∧ i = .int .i64 k ∧ 0 ≤ s ∧ s ≤ 1 + p ∧ 0 ≤ s2 ∧ s2 ≤ 1 + p ∧ MeterAt wr g (1 + p) 2 s o ∧ MeterAt wr g2 (1 + p) 2 s2 o2 ∧ RefMeterAt wr r (1 + p) 2 s o ∧ RefMeterAt wr r2 (1 + p) 2 s2 o2 ∧ Keeps Nil w wr) (fun i _ => max n n2 - (intOf i).toNat)
  case atStart => exact ⟨0, 0, 0, 0, 0, Nat.zero_le _, rfl, by omega, by omega, by omega, by omega, H5.out.1, H5.out.2.1, H5.out.2.2.1, H5.out.2.2.2.1, H5.out.2.2.2.2⟩
  case round =>
    obtain ⟨k, s, o, s2, o2, hk, rfl, hs0, hs1, hs20, hs21, hm, hm2, hr, hr2, hkk⟩ := hrel
    have HR := Lib.hid (And.intro hm (And.intro hm2 (And.intro hr (And.intro hr2 hkk))))
    have HX' := Lib.hid (HX.out.keepNil hkk)
    have HY' := Lib.hid (HY.out.keepNil hkk)
    clear hm hm2 hr hr2 hkk
    by_cases h1 : k < n
    · obtain ⟨b, off, sp, z, l, a', n', c', rfl, hb, hnM, p0, p1, p2, hL, hr', hz0, hz1⟩ := HX'.out.at h1
      have HI := Lib.hid hL
      clear hL
      by_cases h2 : k < n2
      · go_wp2_with fail
        refine (one_any (g := g) (r := r) (l := l) HR.out.1 HR.out.2.2.1 (by have := HA.out; omega) hs0 hs1 (by omega) (HI.out.turn (fun b _ h => by have := HA.out; rcases h with rfl | rfl <;> (show w.heap.size ≤ _; omega))) hr' hz1).mono ?_
        rintro e w6 ⟨rfl, s', o', q0, q1, hm6, hr6, hk6⟩
        have m26 := HR.out.2.1.besideM hk6 (two_kinds HR.out.1 HR.out.2.2.1 (by have := HA.out; omega) (by have := HA.out; omega))
        have r26 := RowIs.keep HR.out.2.2.2.1 hk6 (fun h => by have := HA.out; rcases h with h | h <;> omega)
        have k6 : Keeps Nil w w6 := HR.out.2.2.2.2.trans' hk6 (fun b h => by have := HA.out; rcases h with rfl | rfl <;> (right; omega))
        have H6 := Lib.hid (And.intro hm6 (And.intro m26 (And.intro hr6 (And.intro r26 k6))))
        have hb6 := hk6
        have HZ := Lib.hid (And.intro q0 q1)
        have HY6 := Lib.hid (HY.out.keep k6 (fun _ _ h => h.elim))
        clear hm6 m26 hr6 r26 k6 hb6 hk6
        obtain ⟨bb, offb, spb, zb, lb, ab', nb', cb', rfl, hbb, hnMb, pb0, pb1, pb2, hLb, hrb', hzb0, hz1b⟩ := HY6.out.at h2
        have HIb := Lib.hid hLb
        clear hLb
        go_wp2_with fail
        refine (one_any (g := g2) (r := r2) (l := lb) H6.out.2.1 H6.out.2.2.2.1 (by have := HA.out; omega) hs20 hs21 (by omega) (HIb.out.turn (fun b _ h => by have := HA.out; rcases h with rfl | rfl <;> (show w.heap.size ≤ _; omega))) hrb' hz1b).mono ?_
        rintro e w7 ⟨rfl, s2', o2', q20, q21, hm7, hr7, hk7⟩
        have m17 := H6.out.1.besideM hk7 (two_kinds H6.out.2.1 H6.out.2.2.2.1 (by have := HA.out; omega) (by have := HA.out; omega))
        have r17 := RowIs.keep H6.out.2.2.1 hk7 (fun h => by have := HA.out; rcases h with h | h <;> omega)
        have k7 : Keeps Nil w w7 := H6.out.2.2.2.2.trans' hk7 (fun b h => by have := HA.out; rcases h with rfl | rfl <;> (right; omega))
        have H7 := Lib.hid (And.intro m17 (And.intro hm7 (And.intro r17 (And.intro hr7 k7))))
        clear hm7 hr7 hk7 m17 r17 k7
        go_wp2
        go_roundw
        case rel => exact ⟨k + 1, s', o', s2', o2', by omega, by go_num, q0, q1, q20, q21, H7.out⟩
        case measure => simp [intOf]; omega
      · go_wp2_with fail
        refine (one_any (g := g) (r := r) (l := l) HR.out.1 HR.out.2.2.1 (by have := HA.out; omega) hs0 hs1 (by omega) (HI.out.turn (fun b _ h => by have := HA.out; rcases h with rfl | rfl <;> (show w.heap.size ≤ _; omega))) hr' hz1).mono ?_
        rintro e w6 ⟨rfl, s', o', q0, q1, hm6, hr6, hk6⟩
        have m26 := HR.out.2.1.besideM hk6 (two_kinds HR.out.1 HR.out.2.2.1 (by have := HA.out; omega) (by have := HA.out; omega))
        have r26 := RowIs.keep HR.out.2.2.2.1 hk6 (fun h => by have := HA.out; rcases h with h | h <;> omega)
        have k6 : Keeps Nil w w6 := HR.out.2.2.2.2.trans' hk6 (fun b h => by have := HA.out; rcases h with rfl | rfl <;> (right; omega))
        have H6 := Lib.hid (And.intro hm6 (And.intro m26 (And.intro hr6 (And.intro r26 k6))))
        have hb6 := hk6
        have HZ := Lib.hid (And.intro q0 q1)
        clear hm6 m26 hr6 r26 k6 hb6 hk6
        go_wp2
        go_roundw
        case rel => exact ⟨k + 1, s', o', s2, o2, by omega, by go_num, q0, q1, hs20, hs21, H6.out⟩
        case measure => simp [intOf]; omega
    · by_cases h2 : k < n2
      · obtain ⟨bb, offb, spb, zb, lb, ab', nb', cb', rfl, hbb, hnMb, pb0, pb1, pb2, hLb, hrb', hzb0, hz1b⟩ := HY'.out.at h2
        have HIb := Lib.hid hLb
        clear hLb
        go_wp2_with fail
        refine (one_any (g := g2) (r := r2) (l := lb) HR.out.2.1 HR.out.2.2.2.1 (by have := HA.out; omega) hs20 hs21 (by omega) (HIb.out.turn (fun b _ h => by have := HA.out; rcases h with rfl | rfl <;> (show w.heap.size ≤ _; omega))) hrb' hz1b).mono ?_
        rintro e w7 ⟨rfl, s2', o2', q20, q21, hm7, hr7, hk7⟩
        have m17 := HR.out.1.besideM hk7 (two_kinds HR.out.2.1 HR.out.2.2.2.1 (by have := HA.out; omega) (by have := HA.out; omega))
        have r17 := RowIs.keep HR.out.2.2.1 hk7 (fun h => by have := HA.out; rcases h with h | h <;> omega)
        have k7 : Keeps Nil w w7 := HR.out.2.2.2.2.trans' hk7 (fun b h => by have := HA.out; rcases h with rfl | rfl <;> (right; omega))
        have H7 := Lib.hid (And.intro m17 (And.intro hm7 (And.intro r17 (And.intro hr7 k7))))
        clear hm7 hr7 hk7 m17 r17 k7
        go_wp2
        go_roundw
        case rel => exact ⟨k + 1, s, o, s2', o2', by omega, by go_num, hs0, hs1, q20, q21, H7.out⟩
        case measure => simp [intOf]; omega
      · obtain ⟨e10, e11, e12, e13, _, _⟩ := RefMeterAt.cells HR.out.2.2.1
        obtain ⟨e20, e21, e22, e23, _, _⟩ := RefMeterAt.cells HR.out.2.2.2.1
        have hrl := RowIs.lt HR.out.2.2.1
        have hrl2 := RowIs.lt HR.out.2.2.2.1
        go_wp2_with fail
        refine (node_nil _ _ _ _).mono ?_
        rintro e w6 ⟨rfl, hk6⟩
        go_wp2_with fail
        refine (spend_nil _ _).mono ?_
        rintro e w7 ⟨rfl, hk7⟩
        go_wp2_with fail
        refine (spent_nil _).mono ?_
        rintro e w8 ⟨rfl, hk8⟩
        go_wp2_with fail
        refine (over_nil _).mono ?_
        rintro e w9 ⟨rfl, hk9⟩
        have kk : Keeps Nil wr w9 := ((hk6.trans hk7).trans hk8).trans hk9
        have f2 := kk.cellE hrl id e12
        have f3 := kk.cellE hrl id e13
        have f22 := kk.cellE hrl2 id e22
        have f23 := kk.cellE hrl2 id e23
        have hs9 := kk.size
        have HK := Lib.hid kk
        clear kk hk6 hk7 hk8 hk9 e10 e11 e12 e13 e20 e21 e22 e23
        have hr9 : r < w9.heap.size := by omega
        have hr29 : r2 < w9.heap.size := by omega
        go_wp2_with fail
        go_region_held3 (fun w' => w'.cell? ⟨r, 2, none⟩ = some (.int .i64 s) ∧ w'.cell? ⟨r, 3, none⟩ = some (.int .i64 o) ∧ w'.cell? ⟨r2, 2, none⟩ = some (.int .i64 s2) ∧ w'.cell? ⟨r2, 3, none⟩ = some (.int .i64 o2)) (go_keep) (first | (go_at_call_of 9 (Value.pointer (some ⟨g, 0, none⟩)); refine (spent_any ((HR.out.1.keepNil HK.out).keepNil (by repeat (first | exact Keeps.refl _ _ | refine Keeps.drew ?_ | refine Keeps.drewN ?_ _ | refine Keeps.alloc ?_ _)))).mono ?_; rintro e u1 ⟨rfl, j1⟩; have J1 := Lib.hid j1; have t2 := j1.cellE hr9 id f2; have t3 := j1.cellE hr9 id f3; have t4 := j1.cellE hr29 id f22; have t5 := j1.cellE hr29 id f23; have z1 := Nat.lt_of_lt_of_le hr9 j1.size; have z2 := Nat.lt_of_lt_of_le hr29 j1.size) | (go_at_call_of 10 (Value.pointer (some ⟨g, 0, none⟩)); refine (over_any (((HR.out.1.keepNil HK.out).keepNil (by repeat (first | exact Keeps.refl _ _ | refine Keeps.drew ?_ | refine Keeps.drewN ?_ _ | refine Keeps.alloc ?_ _))).keepNil J1.out)).mono ?_; rintro e u2 ⟨rfl, j2⟩; have J2 := Lib.hid j2; have t22 := j2.cellE z1 id t2; have t23 := j2.cellE z1 id t3; have t24 := j2.cellE z2 id t4; have t25 := j2.cellE z2 id t5; have z3 := Nat.lt_of_lt_of_le z1 j2.size; have z4 := Nat.lt_of_lt_of_le z2 j2.size) | (go_at_call_of 9 (Value.pointer (some ⟨g2, 0, none⟩)); refine (spent_any ((((HR.out.2.1.keepNil HK.out).keepNil (by repeat (first | exact Keeps.refl _ _ | refine Keeps.drew ?_ | refine Keeps.drewN ?_ _ | refine Keeps.alloc ?_ _))).keepNil J1.out).keepNil J2.out)).mono ?_; rintro e u3 ⟨rfl, j3⟩; have J3 := Lib.hid j3; have t32 := j3.cellE z3 id t22; have t33 := j3.cellE z3 id t23; have t34 := j3.cellE z4 id t24; have t35 := j3.cellE z4 id t25; have z5 := Nat.lt_of_lt_of_le z3 j3.size; have z6 := Nat.lt_of_lt_of_le z4 j3.size) | (go_at_call_of 10 (Value.pointer (some ⟨g2, 0, none⟩)); refine (over_any (((((HR.out.2.1.keepNil HK.out).keepNil (by repeat (first | exact Keeps.refl _ _ | refine Keeps.drew ?_ | refine Keeps.drewN ?_ _ | refine Keeps.alloc ?_ _))).keepNil J1.out).keepNil J2.out).keepNil J3.out)).mono ?_; rintro e u4 ⟨rfl, j4⟩; have J4 := Lib.hid j4; have t42 := j4.cellE z5 id t32; have t43 := j4.cellE z5 id t33; have t44 := j4.cellE z6 id t34; have t45 := j4.cellE z6 id t35))
        go_wp2
        go_ret
        exact ⟨rfl, (((((HR.out.2.2.2.2.trans HK.out).trans (by repeat (first | exact Keeps.refl _ _ | refine Keeps.drew ?_ | refine Keeps.drewN ?_ _ | refine Keeps.alloc ?_ _))).trans J1.out).trans J2.out).trans J3.out).trans J4.out⟩
end Go.Proofs.Ytdldaiakljhfjaa
