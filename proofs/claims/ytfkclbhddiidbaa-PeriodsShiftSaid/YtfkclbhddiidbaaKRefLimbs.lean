/- What the references' Trim and Limbs do: the limbs without the noughts at the end, in new memory; how many there are. Conditions: none but the slices' own reading. -/
import Derived.Test.YtfkclbhddiidbaaRows
import Derived.Test.YtfkclbhddiidbaaKWords
import Derived.Test.YtfkclbhddiidbaaKNats
import Derived.Laws.CopyOwn
namespace Go.Proofs.Ytfkclbhddiidbaa
open Go.RowKit Go.Rid


set_option maxHeartbeats 400000 in
theorem ref01trim_any {M M' : Nat → Prop} {a : Option Addr} {n c : Nat} {l : List Nat} {w : World} (hM : MB M w) (h : Limbs M' w a n c l) (hr : n * 4 ≤ 140737488355328) :
    Calls Try.prog 62 #[.slice a n c] w fun e w' => ∃ a' c', e = .returned (.slice a' (top l) c') ∧ Limbs M w' a' (top l) c' (trim l) ∧ Keeps Nil w w' := by
  have hle := h.sl.le
  have hcap := h.sl.cap
  have HH := Lib.hid h
  have HM := Lib.hid hM
  obtain ⟨i0, hi, hz0, hz1, hz2⟩ := info_parts info_u32
  clear h hM
  go_enter Try.func62, Try.ntmps62
  go_wp2
  go_loop [3] (fun i => ∃ k : Nat, k ≤ n ∧ topK l n = topK l k ∧ i = .int .i64 k) (fun i => (intOf i).toNat)
  case atStart => exact ⟨n, Nat.le_refl _, rfl, rfl⟩
  case round =>
    obtain ⟨k, hk, ht, rfl⟩ := hrel
    have HT := Lib.hid ht
    clear ht
    by_cases h0 : k ≠ 0 ∧ ((lim l (k - 1) : Int) == 0) = true
    · obtain ⟨h0, h1⟩ := h0
      obtain ⟨j, rfl⟩ : ∃ j, k = j + 1 := ⟨k - 1, by omega⟩
      simp only [Nat.add_sub_cancel] at h1
      obtain ⟨b, off, rfl, hb, hnM, hc⟩ := HH.out.sl.at (by omega)
      have hcell : w.cell? ⟨b, off + j, none⟩ = some (.int .u32 (lim l j : Int)) := by simpa using hc j 0 (by omega) (by omega)
      clear hc
      go_wp2
      go_round
      case rel => exact ⟨j, by omega, by rw [HT.out, topK_zero (by simpa using h1)], rfl⟩
      case measure => simp [intOf]
    · have e : top l = k := by
        unfold top; rw [HH.out.len, HT.out]
        cases k with
        | zero => rfl
        | succ j => exact topK_pos (by intro hj; exact h0 ⟨by omega, by simp [hj]⟩)
      have hguard : k = 0 ∨ (∃ b off j, k = j + 1 ∧ a = some ⟨b, off, none⟩ ∧ w.cell? ⟨b, off + j, none⟩ = some (.int .u32 (lim l j : Int)) ∧ ((lim l j : Int) == 0) = false) := by
        cases k with
        | zero => exact .inl rfl
        | succ j =>
          obtain ⟨b, off, rfl, hb, hnM, hc⟩ := HH.out.sl.at (by omega)
          exact .inr ⟨b, off, j, rfl, rfl, by simpa using hc j 0 (by omega) (by omega), by simp; intro hj; exact h0 ⟨by omega, by simp [hj]⟩⟩
      have HE := Lib.hid e
      clear e h0
      have htl := top_le l
      have hln := HH.out.len
      have hcs : (u32s (trim l)).length = min n (top l) := by rw [length_u32s, length_trim]; omega
      have hfit : 0 + (u32s (trim l)).length ≤ (zeros (top l) (.int .u32 0)).length := by rw [length_zeros, length_u32s, length_trim]; omega
      have HS := Lib.hid hcs
      have HF := Lib.hid hfit
      clear hcs hfit htl hln
      rcases hguard with rfl | ⟨b, off, j, rfl, rfl, hcell, hz⟩
      all_goals
        go_wp2_with (at_make; refine wpList_make_row _ rfl _ _ 34 rfl 71 i0 (.int .u32 0) Try.underlying34 hi hz0 hz1 rfl .i64 .i64 _ _ (top l) rfl rfl ?_ ?_ ?_ ?_ ?_)
        case refine_1 => rw [HE.out]; rfl
        case refine_2 => rw [HE.out]; rfl
        case refine_3 => have := top_le l; have := HH.out.len; omega
        case refine_4 => have := top_le l; have := HH.out.len; omega
        case refine_5 =>
          intro w1 hrow hk1 hsz1
          have HK := Lib.hid (And.intro hk1 hsz1)
          clear hk1 hsz1
          go_wp2_with (with_reducible refine wpList_copy_row rfl (.tmp 21) (.tmp 22) 34 34 rfl 71 Try.underlying34 size_u32 _ _ _ _ _ _ rfl rfl w.heap.size 0 _ 71 hrow (u32s (trim l)) HS.out (fun _ => rfl) ((HH.out.src (k := top l) (by have := top_le l; have := HH.out.len; omega)).keepNil HK.out.1) HF.out (one_u32s _) ?_; intro w2 hrow2 hk2)
          go_ret
          rw [splice_all _ _ (by rw [length_zeros, length_u32s, length_trim])] at hrow2
          have hx := Limbs.ofRow hrow2 (fun x hx => HH.out.lt x (mem_trim hx)) (M := M) (fun h => by have := HM.out _ h; omega) (by rw [length_trim]; have := top_le l; have := HH.out.len; omega)
          rw [length_trim] at hx
          exact ⟨_, _, rfl, hx, HK.out.1.trans' hk2 (fun k hk => .inr (by cases hk; exact Nat.le_refl _))⟩
end Go.Proofs.Ytfkclbhddiidbaa
