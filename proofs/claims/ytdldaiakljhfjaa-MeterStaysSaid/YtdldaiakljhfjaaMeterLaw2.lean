/- The walks of MeterPlays, MeterStays, MeterApart: they return true. Conditions: numbers in int's range; lists' own reading. -/
import Derived.Test.YtdldaiakljhfjaaRows
import Derived.Test.YtdldaiakljhfjaaBase
import Derived.Test.YtdldaiakljhfjaaMeterHelp
namespace Go.Proofs.Ytdldaiakljhfjaa
open Go.RowKit Go.Rid

/-- A step of a script: its three cells. -/
def RStep (M : Nat → Prop) (w : World) (cs : List Value) (x : Bool × Int × List (Bool × List Nat)) : Prop :=
  ∃ a m c, cs = [.bool x.1, .int .i64 x.2.1, .slice a m c] ∧ Ints M w a m c x.2.2 ∧ m * 32 ≤ 140737488355328 ∧ -9223372036854775808 ≤ x.2.1 ∧ x.2.1 ≤ 9223372036854775807
def Script (M : Nat → Prop) (w : World) (a : Option Addr) (n c : Nat) (xs : List (Bool × Int × List (Bool × List Nat))) : Prop := SlOf M w 3 (RStep M w) (false, 0, []) a n c xs
theorem Script.keep {M M' : Nat → Prop} {w w' : World} {a : Option Addr} {n c : Nat} {xs : List (Bool × Int × List (Bool × List Nat))} (h : Script M w a n c xs) (k : Keeps M' w w') (hm : ∀ b, b < w.heap.size → M' b → M b) : Script M w' a n c xs :=
  SlOf.keep h k hm fun _ _ ⟨a, m, c, e, hx, r⟩ => ⟨a, m, c, e, hx.keep k hm, r⟩
theorem Script.keepNil {M : Nat → Prop} {w w' : World} {a : Option Addr} {n c : Nat} {xs : List (Bool × Int × List (Bool × List Nat))} (h : Script M w a n c xs) (k : Keeps Nil w w') : Script M w' a n c xs := h.keep k fun _ _ h => h.elim
theorem Script.at {M : Nat → Prop} {w : World} {a : Option Addr} {n c : Nat} {xs : List (Bool × Int × List (Bool × List Nat))} (h : Script M w a n c xs) {i : Nat} (hi : i < n) :
    ∃ b off sp z l a' n' c', a = some ⟨b, off, none⟩ ∧ b < w.heap.size ∧ ¬ M b ∧ w.cell? ⟨b, off + i * 3, none⟩ = some (.bool sp) ∧ w.cell? ⟨b, off + i * 3 + 1, none⟩ = some (.int .i64 z) ∧ w.cell? ⟨b, off + i * 3 + 2, none⟩ = some (.slice a' n' c') ∧
      Ints M w a' n' c' l ∧ n' * 32 ≤ 140737488355328 ∧ -9223372036854775808 ≤ z ∧ z ≤ 9223372036854775807 := by
  obtain ⟨b, off, cs, rfl, hb, hn, hl, hc, a', n', c', h1, h2, h3, h4, h5⟩ := SlOf.at h hi
  subst h1
  exact ⟨b, off, _, _, _, a', n', c', rfl, hb, hn, by simpa using hc 0 (by omega), by simpa using hc 1 (by omega), by simpa using hc 2 (by omega), h2, h3, h4, h5⟩

theorem spendM_range {nodes s o n : Int} (h0 : 0 ≤ s) (h1 : s ≤ nodes) : 0 ≤ (spendM nodes s o n).1 ∧ (spendM nodes s o n).1 ≤ nodes := by
  unfold spendM spendS
  repeat' split
  all_goals (dsimp only; omega)
theorem nodeM_range {nodes limbs s o : Int} {xs : List (Bool × List Nat)} (h0 : 0 ≤ s) (h1 : s ≤ nodes) : 0 ≤ (nodeM nodes limbs s o xs).1 ∧ (nodeM nodes limbs s o xs).1 ≤ nodes := by
  unfold nodeM nodeS
  repeat' split
  all_goals (dsimp only; omega)

/-- All blocks from a number on. -/
def From (B : Nat) : Nat → Prop := fun b => B ≤ b
/-- Two blocks. -/
def Two (g r : Nat) : Nat → Prop := fun b => b = g ∨ b = r
theorem Script.old {w : World} {a : Option Addr} {n c : Nat} {xs : List (Bool × Int × List (Bool × List Nat))} (h : Script Nil w a n c xs) : Script (From w.heap.size) w a n c xs :=
  SlOf.turn h (fun b hb h => by unfold From at h; omega) fun _ _ ⟨a, m, c, e, hx, r⟩ => ⟨a, m, c, e, hx.turn (fun b hb h => by unfold From at h; omega), r⟩
/-- A meter beside a block of another kind that is written. -/
theorem MeterAt.beside {w w' : World} {g r : Nat} {n l s o : Int} {E : TypeId} {xs : List Value} (h : MeterAt w g n l s o) (hr : RowIs w r E xs) (hE : E ≠ 63) (hne : g ≠ r) (k : Keeps (Rid.One r) w w') : MeterAt w' g n l s o := by
  obtain ⟨t, h1, h2, h3⟩ := h
  refine ⟨t, h1.keep k hne, h2.keep k (fun e => ?_), h3⟩
  have e' : t = r := e
  subst e'
  have := h2.out.symm.trans hr.out
  simp at this
  exact hE this.2.symm

set_option maxHeartbeats 1000000 in
theorem MeterPlays_walk {a0 a1 : Int} {a : Option Addr} {n c : Nat} {xs : List (Bool × Int × List (Bool × List Nat))} (w : World) (h00 : -9223372036854775808 ≤ a0) (h01 : a0 ≤ 9223372036854775807) (h10 : -9223372036854775808 ≤ a1) (h11 : a1 ≤ 9223372036854775807) (hx : Script Nil w a n c xs) (_ : n * 40 ≤ 140737488355328) :
    Calls Try.prog 4 #[.int .i64 a0, .int .i64 a1, .slice a n c] w fun e w' => e = .returned (.bool true) ∧ Keeps Nil w w' := by
  have HX := Lib.hid hx.old
  have hcap := SlOf.cap hx
  have hle := SlOf.le hx
  clear hx
  go_enter Try.func4, Try.ntmps4
  go_wp2_with fail
  refine (pick_any a0 2000 _ h00 h01 (by decide) (by decide)).mono ?_
  rintro e w1 ⟨p, rfl, hp0, hp1, rfl⟩
  go_wp2_with fail
  refine (pick_any a1 8 _ h10 h11 (by decide) (by decide)).mono ?_
  rintro e w1 ⟨q, rfl, hq0, hq1, rfl⟩
  go_wp2_with fail
  refine (new_ok (1 + p) (1 + q) _ (by omega) (by omega) (by omega) (by omega)).mono ?_
  rintro e w1 ⟨g, rfl, hm1, hk1, hg1⟩
  have H1 := Lib.hid (And.intro hm1 (And.intro hk1 hg1))
  clear hm1 hk1 hg1
  go_wp2_with fail
  refine (refnew_any (1 + p) (1 + q) _).mono ?_
  rintro e w2 ⟨r, rfl, hm2, hk2, hg2⟩
  have H2 := Lib.hid (And.intro (H1.out.1.keepNil hk2) (And.intro hm2 (And.intro hk2 hg2)))
  clear hm2 hk2 hg2
  go_wp2_with fail
  refine (known_any _).mono ?_
  rintro e w3 ⟨rfl, hk3⟩
  have hgr : g < r := by have := H1.out.1.lt; have := H2.out.2.2.2; omega
  have H3 := Lib.hid (And.intro (H2.out.1.keepNil hk3) (And.intro (RowIs.keep H2.out.2.1 hk3 id) (And.intro ((H1.out.2.1.trans H2.out.2.2.1).trans hk3) (And.intro H1.out.2.2 hgr))))
  clear hk3
  go_wp2_with fail
  go_loopw [12] (fun i wr => ∃ (k : Nat) (s o : Int), k ≤ n ∧ i = .int .i64 k ∧ 0 ≤ s ∧ s ≤ 1 + p ∧ MeterAt wr g (1 + p) (1 + q) s o ∧ RefMeterAt wr r (1 + p) (1 + q) s o ∧ Keeps Nil w wr) (fun i _ => n - (intOf i).toNat)
  case atStart => exact ⟨0, 0, 0, Nat.zero_le _, rfl, by omega, by omega, H3.out.1, H3.out.2.1, H3.out.2.2.1⟩
  case round =>
    obtain ⟨k, s, o, hk, rfl, hs0, hs1, hm, hr, hkk⟩ := hrel
    have HR := Lib.hid (And.intro hm (And.intro hr hkk))
    have HX' := Lib.hid (HX.out.keepNil hkk)
    have hg := hm.lt
    have hrl := RowIs.lt hr
    have hgr := H3.out.2.2.2.2
    have HG := Lib.hid H3.out.2.2.2.1
    clear hm hr hkk
    by_cases hlt : k < n
    · obtain ⟨b, off, sp, z, l, a', n', c', rfl, hb, hnM, p0, p1, p2, hL, hr', hz0, hz1⟩ := HX'.out.at hlt
      have HI := Lib.hid hL
      clear hL
      cases sp
      · have R0 := RowIs.alloc (w := wr) (E := 36) (xs := [.bool false, .int .i64 z, .slice a' n' c'])
        have HB := Lib.hid R0
        clear R0
        have HT := Lib.hid (HI.out.turn (M' := Two g r) (fun b _ h => by have := HG.out; unfold From; rcases h with rfl | rfl <;> omega))
        have HMB : Hid (MB (Two g r) wr) := Lib.hid (fun b h => by rcases h with rfl | rfl <;> assumption)
        go_wp2_with fail
        refine (lent_any (M := Two g r) (HMB.out.keep (M' := Nil) (by repeat (first | exact Keeps.refl _ _ | refine Keeps.drew ?_ | refine Keeps.drewN ?_ _ | refine Keeps.alloc ?_ _))) (HT.out.keepNil (by repeat (first | exact Keeps.refl _ _ | refine Keeps.drew ?_ | refine Keeps.drewN ?_ _ | refine Keeps.alloc ?_ _))) hr').mono ?_
        rintro e w4 ⟨a4, c4, rfl, hl4, hk4⟩
        have b4 := HB.out.keep hk4 id
        obtain ⟨c40, c41, c42⟩ := b4.three
        have H4 := Lib.hid (And.intro hl4 (And.intro hk4 b4))
        clear hl4 hk4 b4
        go_wp2_with fail
        refine (node_any (M := Nil) (MB.nil _) ((HR.out.1.keepNil (by repeat (first | exact Keeps.refl _ _ | refine Keeps.drew ?_ | refine Keeps.drewN ?_ _ | refine Keeps.alloc ?_ _))).keepNil H4.out.2.1) (H4.out.1.turn fun _ _ h => h.elim) hs0 hs1 (by omega)).mono ?_
        rintro e w5 ⟨rfl, hm5, hk5⟩
        have b5 := H4.out.2.2.keep hk5 (show ¬ wr.heap.size = g by omega)
        obtain ⟨c50, c51, c52⟩ := b5.three
        have H5 := Lib.hid (And.intro hm5 (And.intro hk5 b5))
        clear hm5 hk5 b5 c40 c41 c42
        go_wp2_with fail
        refine (refnode_any (M := Nil) (RowIs.keep (RowIs.keep (RowIs.keep HR.out.2.1 (M := Nil) (by repeat (first | exact Keeps.refl _ _ | refine Keeps.drew ?_ | refine Keeps.drewN ?_ _ | refine Keeps.alloc ?_ _)) id) H4.out.2.1 id) H5.out.2.1 (show ¬ r = g by omega)) (((HT.out.keepNil (by repeat (first | exact Keeps.refl _ _ | refine Keeps.drew ?_ | refine Keeps.drewN ?_ _ | refine Keeps.alloc ?_ _))).keepNil H4.out.2.1).keep H5.out.2.1 (fun b _ h => .inl h) |>.turn fun _ _ h => h.elim) hs0 hs1 (by omega)).mono ?_
        rintro e w6 ⟨rfl, hm6, hk6⟩
        have b6 := H5.out.2.2.keep hk6 (show ¬ wr.heap.size = r by omega)
        obtain ⟨c60, c61, c62⟩ := b6.three
        have m6 := H5.out.1.beside (RowIs.keep (RowIs.keep (RowIs.keep HR.out.2.1 (M := Nil) (by repeat (first | exact Keeps.refl _ _ | refine Keeps.drew ?_ | refine Keeps.drewN ?_ _ | refine Keeps.alloc ?_ _)) id) H4.out.2.1 id) H5.out.2.1 (show ¬ r = g by omega)) (by decide) (by omega) hk6
        have H6 := Lib.hid (And.intro m6 (And.intro hm6 hk6))
        clear m6 hm6 hk6 b6 c50 c51 c52
        go_wp2_with fail
        refine (kept_any (M := Two g r) (M2 := Two g r) (((H4.out.1.keep H5.out.2.1 (fun b _ h => .inl h)).keep H6.out.2.2 (fun b _ h => .inr h))) ((((HT.out.keepNil (by repeat (first | exact Keeps.refl _ _ | refine Keeps.drew ?_ | refine Keeps.drewN ?_ _ | refine Keeps.alloc ?_ _))).keepNil H4.out.2.1).keep H5.out.2.1 (fun b _ h => .inl h)).keep H6.out.2.2 (fun b _ h => .inr h))).mono ?_
        rintro e w8 ⟨rfl, hk8⟩
        have hrng := nodeM_range (limbs := 1 + q) (o := o) (xs := l) hs0 hs1
        have HK5 : Hid (Keeps Nil w w8) := Lib.hid (((HR.out.2.2.trans (by repeat (first | exact Keeps.refl _ _ | refine Keeps.drew ?_ | refine Keeps.drewN ?_ _ | refine Keeps.alloc ?_ _))).trans H4.out.2.1).trans' (M' := Two g r) (((H5.out.2.1.mono (fun b hb => .inl hb)).trans (H6.out.2.2.mono (fun b hb => .inr hb))).transNil hk8) (fun b hb => by have := HG.out; rcases hb with rfl | rfl <;> (right; omega)))
        have m8 := H6.out.1.keepNil hk8
        have r8 := RowIs.keep H6.out.2.1 hk8 id
        generalize nodeM (1 + p) (1 + q) s o l = y at *
        obtain ⟨q0, q1, q2, q3, _, _⟩ := RefMeterAt.cells r8
        have H5' := Lib.hid (And.intro m8 r8)
        have hrl5 := RowIs.lt r8
        clear m8 r8 hk8 c60 c61 c62 H5
        have H5 := H5'
        go_wp2_with fail
        go_region_held3 (fun w' => w'.cell? ⟨r, 2, none⟩ = some (.int .i64 y.1) ∧ w'.cell? ⟨r, 3, none⟩ = some (.int .i64 y.2.1)) (go_keep) (first | (go_at_call 9; refine (spent_any (H5.out.1.keepNil (by repeat (first | exact Keeps.refl _ _ | refine Keeps.drew ?_ | refine Keeps.drewN ?_ _ | refine Keeps.alloc ?_ _)))).mono ?_; rintro e w6 ⟨rfl, hk6⟩; have s2 := hk6.cellE hrl5 id q2; have s3 := hk6.cellE hrl5 id q3) | (go_at_call 10; refine (over_any ((H5.out.1.keepNil (by repeat (first | exact Keeps.refl _ _ | refine Keeps.drew ?_ | refine Keeps.drewN ?_ _ | refine Keeps.alloc ?_ _))).keepNil hk6)).mono ?_; rintro e w7 ⟨rfl, hk7⟩; have s4 := hk7.cellE (Nat.lt_of_lt_of_le hrl5 hk6.size) id s2; have s5 := hk7.cellE (Nat.lt_of_lt_of_le hrl5 hk6.size) id s3))
        go_wp2
        go_roundw
        case rel => exact ⟨k + 1, y.1, y.2.1, by omega, by go_num, hrng.1, hrng.2, ((H5.out.1.keepNil (by repeat (first | exact Keeps.refl _ _ | refine Keeps.drew ?_ | refine Keeps.drewN ?_ _ | refine Keeps.alloc ?_ _))).keepNil hk6).keepNil hk7, RowIs.keep (RowIs.keep (RowIs.keep H5.out.2 (M := Nil) (by repeat (first | exact Keeps.refl _ _ | refine Keeps.drew ?_ | refine Keeps.drewN ?_ _ | refine Keeps.alloc ?_ _)) id) hk6 id) hk7 id, ((HK5.out.trans (by repeat (first | exact Keeps.refl _ _ | refine Keeps.drew ?_ | refine Keeps.drewN ?_ _ | refine Keeps.alloc ?_ _))).trans hk6).trans hk7⟩
        case measure => simp [intOf]; omega
      · have R0 := RowIs.alloc (w := wr) (E := 36) (xs := [.bool true, .int .i64 z, .slice a' n' c'])
        have HB := Lib.hid R0
        clear R0
        go_wp2_with fail
        refine (spend_any (HR.out.1.keepNil (by repeat (first | exact Keeps.refl _ _ | refine Keeps.drew ?_ | refine Keeps.drewN ?_ _ | refine Keeps.alloc ?_ _))) hs0 hs1 (by omega) hz1).mono ?_
        rintro e w4 ⟨rfl, hm4, hk4⟩
        have b4 := HB.out.keep hk4 (show ¬ wr.heap.size = g by omega)
        have r4 := RowIs.keep (RowIs.keep HR.out.2.1 (M := Nil) (by repeat (first | exact Keeps.refl _ _ | refine Keeps.drew ?_ | refine Keeps.drewN ?_ _ | refine Keeps.alloc ?_ _)) id) hk4 (show ¬ r = g by omega)
        obtain ⟨c40, c41, c42⟩ := b4.three
        have H4 := Lib.hid (And.intro hm4 (And.intro r4 hk4))
        clear hm4 r4 hk4 b4
        go_wp2_with fail
        refine (refspend_any H4.out.2.1 hs0 hs1 (by omega) hz1).mono ?_
        rintro e w5 ⟨rfl, hm5, hk5⟩
        have m5 := H4.out.1.beside H4.out.2.1 (by decide) (by omega) hk5
        have hrng := spendM_range (o := o) (n := z) hs0 hs1
        have HK5 : Hid (Keeps Nil w w5) := Lib.hid ((HR.out.2.2.trans (by repeat (first | exact Keeps.refl _ _ | refine Keeps.drew ?_ | refine Keeps.drewN ?_ _ | refine Keeps.alloc ?_ _))).trans' (M' := fun b => b = g ∨ b = r) ((H4.out.2.2.mono (fun b hb => .inl hb)).trans (hk5.mono (fun b hb => .inr hb))) (fun b hb => by have := HG.out; rcases hb with rfl | rfl <;> (right; omega)))
        generalize spendM (1 + p) s o z = y at *
        obtain ⟨q0, q1, q2, q3, _, _⟩ := RefMeterAt.cells hm5
        have H5 := Lib.hid (And.intro m5 hm5)
        have hrl5 := RowIs.lt hm5
        clear m5 hm5 hk5 c40 c41 c42
        go_wp2_with fail
        go_region_held3 (fun w' => w'.cell? ⟨r, 2, none⟩ = some (.int .i64 y.1) ∧ w'.cell? ⟨r, 3, none⟩ = some (.int .i64 y.2.1)) (go_keep) (first | (go_at_call 9; refine (spent_any (H5.out.1.keepNil (by repeat (first | exact Keeps.refl _ _ | refine Keeps.drew ?_ | refine Keeps.drewN ?_ _ | refine Keeps.alloc ?_ _)))).mono ?_; rintro e w6 ⟨rfl, hk6⟩; have s2 := hk6.cellE hrl5 id q2; have s3 := hk6.cellE hrl5 id q3) | (go_at_call 10; refine (over_any ((H5.out.1.keepNil (by repeat (first | exact Keeps.refl _ _ | refine Keeps.drew ?_ | refine Keeps.drewN ?_ _ | refine Keeps.alloc ?_ _))).keepNil hk6)).mono ?_; rintro e w7 ⟨rfl, hk7⟩; have s4 := hk7.cellE (Nat.lt_of_lt_of_le hrl5 hk6.size) id s2; have s5 := hk7.cellE (Nat.lt_of_lt_of_le hrl5 hk6.size) id s3))
        go_wp2
        go_roundw
        case rel => exact ⟨k + 1, y.1, y.2.1, by omega, by go_num, hrng.1, hrng.2, ((H5.out.1.keepNil (by repeat (first | exact Keeps.refl _ _ | refine Keeps.drew ?_ | refine Keeps.drewN ?_ _ | refine Keeps.alloc ?_ _))).keepNil hk6).keepNil hk7, RowIs.keep (RowIs.keep (RowIs.keep H5.out.2 (M := Nil) (by repeat (first | exact Keeps.refl _ _ | refine Keeps.drew ?_ | refine Keeps.drewN ?_ _ | refine Keeps.alloc ?_ _)) id) hk6 id) hk7 id, ((HK5.out.trans (by repeat (first | exact Keeps.refl _ _ | refine Keeps.drew ?_ | refine Keeps.drewN ?_ _ | refine Keeps.alloc ?_ _))).trans hk6).trans hk7⟩
        case measure => simp [intOf]; omega
    · go_wp2
      go_ret
      exact ⟨rfl, HR.out.2.2⟩
end Go.Proofs.Ytdldaiakljhfjaa
