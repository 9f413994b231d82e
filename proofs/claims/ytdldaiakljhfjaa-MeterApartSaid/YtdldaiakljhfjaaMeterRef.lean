/- What the reference's meter does: the same numbers. Conditions: the meter is one that New made; lists' own reading. -/
import Derived.Test.YtdldaiakljhfjaaRows
import Derived.Test.YtdldaiakljhfjaaBase
import Derived.Test.YtdldaiakljhfjaaLimbs
import Derived.Test.YtdldaiakljhfjaaRefLimbs
import Derived.Test.YtdldaiakljhfjaaMeter
import Derived.Test.YtdldaiakljhfjaaMeterTurn
namespace Go.Proofs.Ytdldaiakljhfjaa
open Go.RowKit Go.Rid

/-- The reference's meter in memory. -/
def RefMeterAt (w : World) (g : Nat) (nodes limbs spent over : Int) : Prop := RowIs w g 43 [.int .i64 nodes, .int .i64 limbs, .int .i64 spent, .int .i64 over]
theorem RefMeterAt.cells {w : World} {g : Nat} {n l s o : Int} (h : RefMeterAt w g n l s o) : w.cell? ⟨g, 0, none⟩ = some (.int .i64 n) ∧ w.cell? ⟨g, 1, none⟩ = some (.int .i64 l) ∧ w.cell? ⟨g, 2, none⟩ = some (.int .i64 s) ∧ w.cell? ⟨g, 3, none⟩ = some (.int .i64 o) ∧
    w.frozen? ⟨g, 2, none⟩ = false ∧ w.frozen? ⟨g, 3, none⟩ = false := ⟨h.cell 0, h.cell 1, h.cell 2, h.cell 3, h.frozen 2, h.frozen 3⟩

theorem refnew_any (nodes limbs : Int) (w : World) :
    Calls Try.prog 12 #[.int .i64 nodes, .int .i64 limbs] w fun r w' => ∃ g, r = .returned (.pointer (some ⟨g, 0, none⟩)) ∧ RefMeterAt w' g nodes limbs 0 0 ∧ Keeps Nil w w' ∧ w.heap.size ≤ g := by
  go_enter Try.func12, Try.ntmps12
  go_wp2
  go_ret
  exact ⟨_, rfl, RowIs.alloc (xs := [_, _, _, _]), (Keeps.refl Nil w).alloc _, Nat.le_refl _⟩

set_option maxHeartbeats 400000 in
theorem refspend_any {g : Nat} {nodes limbs s o n : Int} {w : World} (h : RefMeterAt w g nodes limbs s o) (hs0 : 0 ≤ s) (hs : s ≤ nodes) (hn : nodes ≤ 2000) (hlo : n ≤ 9223372036854775807) :
    Calls Try.prog 14 #[.pointer (some ⟨g, 0, none⟩), .int .i64 n] w fun r w' => r = .returned (.int .i64 (spendM nodes s o n).2.2) ∧ RefMeterAt w' g nodes limbs (spendM nodes s o n).1 (spendM nodes s o n).2.1 ∧ Keeps (Rid.One g) w w' := by
  obtain ⟨c0, c1, c2, c3, f2, f3⟩ := h.cells
  have H := Lib.hid h
  clear h
  by_cases ho : o = 0
  · by_cases h1 : n < 0
    · have e : spendM nodes s o n = (s, 0, 1) := by simp [spendM, spendS, ho, h1]
      have ho' : (o != 0) = false := by simpa using ho
      have E := Lib.hid e
      have HO := Lib.hid ho
      clear e ho
      go_enter Try.func14, Try.ntmps14
      go_wp2
      go_ret
      rw [E.out]
      exact ⟨rfl, HO.out ▸ H.out, Keeps.refl _ _⟩
    · by_cases h2 : nodes - s < n
      · have e : spendM nodes s o n = (s, 70, 70) := by simp [spendM, spendS, ho, h1, h2]
        have ho' : (o != 0) = false := by simpa using ho
        have E := Lib.hid e
        clear e ho
        go_enter Try.func14, Try.ntmps14
        go_wp2_with fail
        go_quiet (fail)
        go_wp2
        go_ret
        rw [E.out]
        exact ⟨rfl, RowIs.set (w := w.drewN nq) H.out 3 _, ((Keeps.refl (Rid.One g) w).drewN nq).set1 _ _⟩
      · have e : spendM nodes s o n = (s + n, 0, 0) := by simp [spendM, spendS, ho, h1, h2]
        have ho' : (o != 0) = false := by simpa using ho
        have E := Lib.hid e
        have HO := Lib.hid ho
        clear e ho
        go_enter Try.func14, Try.ntmps14
        go_wp2_with fail
        go_quiet (fail)
        go_wp2
        go_ret
        rw [E.out]
        exact ⟨rfl, HO.out ▸ RowIs.set (w := w.drewN nq) H.out 2 _, ((Keeps.refl (Rid.One g) w).drewN nq).set1 _ _⟩
  · have e : spendM nodes s o n = (s, o, o) := by simp [spendM, ho]
    have ho' : (o != 0) = true := by simpa using ho
    have E := Lib.hid e
    clear e ho
    go_enter Try.func14, Try.ntmps14
    go_wp2
    go_ret
    rw [E.out]
    exact ⟨rfl, H.out, Keeps.refl _ _⟩

set_option maxHeartbeats 400000 in
theorem refnode_any {M : Nat → Prop} {g n c : Nat} {a : Option Addr} {xs : List (Bool × List Nat)} {nodes limbs s o : Int} {w : World} (h : RefMeterAt w g nodes limbs s o) (hx : Ints M w a n c xs) (hs0 : 0 ≤ s) (hs : s ≤ nodes) (hn : nodes ≤ 2000) :
    Calls Try.prog 17 #[.pointer (some ⟨g, 0, none⟩), .slice a n c] w fun r w' => r = .returned (.int .i64 (nodeM nodes limbs s o xs).2.2) ∧ RefMeterAt w' g nodes limbs (nodeM nodes limbs s o xs).1 (nodeM nodes limbs s o xs).2.1 ∧ Keeps (Rid.One g) w w' := by
  obtain ⟨c0, c1, c2, c3, f2, f3⟩ := h.cells
  have hg := RowIs.lt h
  have H := Lib.hid h
  have HX := Lib.hid hx
  have hcap := SlOf.cap hx
  have hle := SlOf.le hx
  have HL := Lib.hid (SlOf.len hx)
  clear h hx
  by_cases ho : o = 0
  · have ho' : (o != 0) = false := by simpa using ho
    have HO := Lib.hid ho
    clear ho
    go_enter Try.func17, Try.ntmps17
    go_wp2
    go_loopw [5] (fun i wr => ∃ k : Nat, k ≤ n ∧ i = .int .i64 k ∧ (∀ j, j < k → ¬ limbs < (top (ith xs j).2 : Int)) ∧ Keeps Nil w wr) (fun i _ => n - (intOf i).toNat)
    case atStart => exact ⟨0, Nat.zero_le _, rfl, fun j hj => by omega, Keeps.refl _ _⟩
    case round =>
      obtain ⟨k, hk, rfl, hj, hkk⟩ := hrel
      have hr := RowIs.keep H.out hkk id
      obtain ⟨d0, d1, d2, d3, e2, e3⟩ := RefMeterAt.cells hr
      have hg' := RowIs.lt hr
      have HR := Lib.hid hr
      have HX' := Lib.hid (HX.out.keepNil hkk)
      have HJ := Lib.hid hj
      have HKK := Lib.hid hkk
      clear hr hj hkk c0 c1 c2 c3 f2 f3
      by_cases hlt : k < n
      · obtain ⟨b, off, a', n', c', rfl, hb, hnM, p0, p1, hL, hr⟩ := HX'.out.at hlt
        have HL' := Lib.hid hL
        clear hL
        by_cases hgr : limbs < (top (ith xs k).2 : Int)
        · have e : nodeM nodes limbs s o xs = (s, 71, 71) := by simp [nodeM, HO.out, nodeS, great_true (by have := HL.out; omega) hgr]
          have E := Lib.hid e
          clear e
          go_wp2_with (go_at_call 28; refine (ref07limbs_any HL'.out).mono ?_; rintro e w2 ⟨rfl, hk2⟩; have q := RowIs.keep HR.out hk2 id; have Q := Lib.hid q; have K2 := Lib.hid hk2; obtain ⟨g0, g1, g2, g3, x2, x3⟩ := RefMeterAt.cells q; clear q hk2)
          go_ret
          rw [E.out]
          exact ⟨rfl, RowIs.set Q.out 3 _, ((HKK.out.trans K2.out).of_nil (M := Rid.One g)).set1 _ _⟩
        · go_wp2_with (go_at_call 28; refine (ref07limbs_any HL'.out).mono ?_; rintro e w2 ⟨rfl, hk2⟩; have q := RowIs.keep HR.out hk2 id; have Q := Lib.hid q; have K2 := Lib.hid hk2; obtain ⟨g0, g1, g2, g3, x2, x3⟩ := RefMeterAt.cells q; clear q hk2)
          go_roundw
          case rel => exact ⟨k + 1, by omega, by go_num, fun j hj => by rcases Nat.lt_succ_iff_lt_or_eq.1 hj with h | rfl; exact Int.not_lt.2 (HJ.out j h); exact Int.not_lt.2 hgr, HKK.out.trans K2.out⟩
          case measure => simp [intOf]; omega
      · obtain rfl : k = n := by omega
        have hgf : great limbs xs = false := great_false (fun i hi => HJ.out i (by have := HL.out; omega))
        by_cases hsn : s = nodes
        · subst hsn
          have e : nodeM s limbs s o xs = (s, 70, 70) := by simp [nodeM, HO.out, nodeS, hgf]
          have E := Lib.hid e
          clear e hgf
          go_wp2_with fail
          go_quiet (fail)
          go_wp2
          go_ret
          rw [E.out]
          exact ⟨rfl, RowIs.set (w := wr.drewN nq) HR.out 3 _, ((HKK.out.of_nil (M := Rid.One g)).drewN nq).set1 _ _⟩
        · have e : nodeM nodes limbs s o xs = (s + 1, 0, 0) := by simp [nodeM, HO.out, nodeS, hgf, hsn]
          have E := Lib.hid e
          have hsb : (s == nodes) = false := by simpa using hsn
          clear e hgf hsn
          go_wp2_with fail
          go_quiet (fail)
          go_wp2
          go_ret
          rw [E.out]
          exact ⟨rfl, HO.out ▸ RowIs.set (w := wr.drewN nq) HR.out 2 _, ((HKK.out.of_nil (M := Rid.One g)).drewN nq).set1 _ _⟩
  · have e : nodeM nodes limbs s o xs = (s, o, o) := by simp [nodeM, ho]
    have ho' : (o != 0) = true := by simpa using ho
    have E := Lib.hid e
    clear e ho
    go_enter Try.func17, Try.ntmps17
    go_wp2
    go_ret
    rw [E.out]
    exact ⟨rfl, H.out, Keeps.refl _ _⟩
end Go.Proofs.Ytdldaiakljhfjaa
