/- What (periods.row).long does: a row by a greater period, in new memory. Conditions: the row's own reading; the period divides. -/
import Derived.Test.YtfkclbhddiidbaaGreatKGrow
namespace Go.Rid
open Go.RowKit
/-- A row by a greater period. -/
def longR (l : List Bool) (q : Nat) : List Bool := (List.range q).map fun i => l.getD (i % l.length) false
theorem length_longR (l : List Bool) (q : Nat) : (longR l q).length = q := by simp [longR]
theorem longR_add (l : List Bool) (k : Nat) : longR l (k * l.length + l.length) = longR l (k * l.length) ++ l := by
  unfold longR
  rw [List.range_add, List.map_append, List.map_map]
  congr 1
  apply List.ext_getElem
  · simp
  · intro i h1 h2
    have hi : i < l.length := h2
    simp [Function.comp, List.getD, Nat.mul_add_mod_self_right, Nat.mod_eq_of_lt hi, List.getElem?_eq_getElem hi]
theorem splice_mid {α : Type} (A Z cs : List α) (h : cs.length ≤ Z.length) : splice (A ++ Z) A.length cs = (A ++ cs) ++ Z.drop cs.length := by
  unfold splice
  simp [List.drop_append]
theorem splice_long (l : List Bool) (k q : Nat) (h : k * l.length + l.length ≤ q) : splice ((longR l (k * l.length)).map Value.bool ++ zeros (q - k * l.length) (.bool false)) (k * l.length) (l.map Value.bool) = (longR l (k * l.length + l.length)).map Value.bool ++ zeros (q - (k * l.length + l.length)) (.bool false) := by
  have e := splice_mid ((longR l (k * l.length)).map Value.bool) (zeros (q - k * l.length) (.bool false)) (l.map Value.bool) (by simp [zeros]; omega)
  rw [List.length_map, length_longR] at e
  rw [e, longR_add, List.map_append]
  congr 1
  simp [zeros]; omega
theorem Bools.src {M : Nat → Prop} {w : World} {a : Option Addr} {n c : Nat} {l : List Bool} (h : Bools M w a n c l) : SrcIs M w a (l.map Value.bool) := by
  intro hp
  have hl := h.1
  rw [List.length_map] at hp
  obtain ⟨b, off, rfl, hb, hn, hc⟩ := h.2.at (by omega)
  refine ⟨b, off, rfl, hb, hn, fun j v hj => ?_⟩
  have hjl : j < l.length := by simpa using (List.getElem?_eq_some_iff.1 hj).1
  have h0 := hc j 0 (by omega) (by omega)
  simp only [Nat.mul_one, Nat.add_zero] at h0
  rw [h0]
  simp only [List.getElem?_map, List.getElem?_eq_getElem hjl, Option.map_some] at hj
  simp only [List.getD, List.getElem?_eq_getElem hjl, Option.getD_some]
  exact hj
end Go.Rid
namespace Go.Proofs.YtfkclbhddiidbaaGreat
open Go.RowKit Go.Rid

theorem info_bool' : (Tryz.prog.info? 4).map (fun i => (i.zero, i.size, i.bytes)) = some (some (.bool false), 1, 1) := by kernel_rfl
theorem size_bool : (Tryz.prog.info? 4).map (·.size) = some 1 := by kernel_rfl
def RowRet (w : World) (l : List Bool) (e : Ending) (w' : World) : Prop := ∃ g, e = .returned (.slice (some ⟨g, 0, none⟩) l.length l.length) ∧ RowIs w' g 4 (l.map Value.bool) ∧ w.heap.size ≤ g ∧ Keeps Nil w w'
set_option maxHeartbeats 2000000 in
theorem long_any {M : Nat → Prop} {a : Option Addr} {n c q m : Nat} {l : List Bool} {w : World} (h : Bools M w a n c l) (hn : 1 ≤ n) (hm : q = m * n) (hq : 1 ≤ q) (hq2 : q ≤ 4096) :
    Calls Tryz.prog 83 #[.slice a n c, .int .i64 (q : Int)] w fun e w' => RowRet w (longR l q) e w' := by
  obtain ⟨i0, hi, hz0, hz1, hz2⟩ := info_parts info_bool'
  have hln := h.1
  have hcap := h.2.cap
  have hle := h.2.le
  have HH := Lib.hid h
  have HQ := Lib.hid (And.intro hm hln)
  clear h hm hln
  go_enter Tryz.func83, Tryz.ntmps83
  go_wp2_with (at_make; refine wpList_make_row _ rfl _ _ 59 rfl 4 i0 (.bool false) Tryz.underlying59 hi hz0 hz1 rfl .i64 .i64 _ _ q rfl rfl rfl rfl (by rw [hz2]; omega) (by omega) ?_; intro w1 hrow hk1 hsz1; have HR := Lib.hid (And.intro hrow hk1); clear hrow hk1 hsz1)
  go_loopw [6] (fun i wr => ∃ k j : Nat, k ≤ m ∧ j = k * n ∧ i = .int .i64 j ∧ RowIs wr w.heap.size 4 ((longR l j).map Value.bool ++ zeros (q - j) (.bool false)) ∧ Keeps Nil w wr) (fun i _ => q - (intOf i).toNat)
  case atStart => exact ⟨0, 0, Nat.zero_le _, by omega, rfl, by simpa [longR] using HR.out.1, HR.out.2⟩
  case round =>
    obtain ⟨k, j, hk, hj, rfl, hrow, hkk⟩ := hrel
    have HJ := Lib.hid hj
    clear hj
    by_cases hlt : j < q
    · have hstep : j + n ≤ q := by
        have h1 := HJ.out
        have h2 := HQ.out.1
        have h3 : k + 1 ≤ m := by
          rcases Nat.lt_or_ge k m with h | h
          · exact h
          · have : m * n ≤ k * n := Nat.mul_le_mul_right _ h; omega
        have : (k + 1) * n ≤ m * n := Nat.mul_le_mul_right _ h3
        rw [Nat.add_mul] at this; omega
      have hjI : (j : Int) < (q : Int) := by omega
      have hg := hrow.lt
      have HROW := Lib.hid hrow
      have HKK := Lib.hid hkk
      clear hrow hkk
      go_wp2_with (with_reducible refine wpList_copy_row (M := M) rfl (.tmp 18) (.tmp 19) 59 59 rfl 4 Tryz.underlying59 size_bool _ _ _ _ _ _ rfl rfl w.heap.size j _ 4 HROW.out (l.map Value.bool) ?qn ?qd ?qs ?qf ?q1 ?_)
      case qn => have := HQ.out.2; simp; omega
      try (case qd => intro _; rfl)
      case qs => exact (HH.out.move HKK.out (fun _ _ h => h.elim) fun _ _ => id).src
      case qf => have := HQ.out.2; simp [length_longR, zeros]; omega
      case q1 => intro v hv; obtain ⟨x, _, rfl⟩ := List.mem_map.1 hv; rfl
      intro w2 hrow2 hk2
      have HR2 := Lib.hid hrow2
      have HK2 := Lib.hid (HKK.out.trans' hk2 fun b hb => .inr (by cases (show b = w.heap.size from hb); exact Nat.le_refl _))
      have HL := Lib.hid (show (l.map Value.bool).length = n by simpa using HQ.out.2)
      clear hrow2 hk2
      go_wp2_with fail
      go_roundw
      case rel =>
        refine ⟨k + 1, j + n, ?_, ?_, by go_num, ?_, HK2.out⟩
        · have h1 := HJ.out
          have h2 := HQ.out.1
          rcases Nat.lt_or_ge k m with h | h
          · exact h
          · have : m * n ≤ k * n := Nat.mul_le_mul_right _ h; omega
        · rw [HJ.out, Nat.add_mul, Nat.one_mul]
        · have := HR2.out
          rw [HJ.out] at this ⊢
          have hl := HQ.out.2
          rw [← hl] at this ⊢
          rw [splice_long l k q (by rw [hl, ← HJ.out]; exact hstep)] at this
          exact this
      case measure => simp [intOf]; omega
    · have hjq : j = q := by
        have h1 := HJ.out
        have h2 := HQ.out.1
        have : k * n ≤ m * n := Nat.mul_le_mul_right _ hk
        omega
      subst hjq
      have HROW := Lib.hid hrow
      clear hrow
      go_wp2_with fail
      go_ret
      have hr := HROW.out
      rw [Nat.sub_self, show zeros 0 (Value.bool false) = [] from rfl, List.append_nil] at hr
      exact ⟨_, by rw [length_longR]; rfl, hr, Nat.le_refl _, hkk⟩
end Go.Proofs.YtfkclbhddiidbaaGreat
