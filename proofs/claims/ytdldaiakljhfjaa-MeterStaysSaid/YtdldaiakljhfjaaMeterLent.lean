/- What the meter laws' helpers do: numbers lent, numbers kept. Conditions: the lists' own reading. -/
import Derived.Test.YtdldaiakljhfjaaRows
import Derived.Test.YtdldaiakljhfjaaBase
import Derived.Test.YtdldaiakljhfjaaOwn
import Derived.Test.YtdldaiakljhfjaaLimbs
import Derived.Test.YtdldaiakljhfjaaRefLimbs
namespace Go.Proofs.Ytdldaiakljhfjaa
open Go.RowKit Go.Rid

theorem info_Int : (Try.prog.info? 48).map (fun i => (i.zero, i.size, i.bytes)) = some (some (.agg #[.bool false, .slice none 0 0]), 2, 32) := by kernel_rfl

theorem getD_snoc_lt {α : Type} (l : List α) (x d : α) {j : Nat} (h : j < l.length) : (l ++ [x]).getD j d = l.getD j d := by
  simp [List.getD, List.getElem?_append_left h]
theorem getD_snoc_eq {α : Type} (l : List α) (x d : α) : (l ++ [x]).getD l.length d = x := by
  simp [List.getD]
/-- One number more was lent. -/
theorem lent_step {M : Nat → Prop} {wr w1 w2 w3 : World} {v v3 : Value} {els : List (List Value)} {xs : List (Bool × List Nat)} {k n' : Nat} {o : Obj} {E : TypeId} (hk1 : Keeps Nil wr w1) (hs1 : w1.heap.size = wr.heap.size + 1) (hk2 : Keeps (Rid.One wr.heap.size) w1 w2)
    (hk3 : Keeps (Own v) (w2.alloc o) w3) (hf : Fresh (w2.alloc o) v v3) (hv : ∀ b, v.ownBlock = some b → b < wr.heap.size) (hM : MB M wr) (hlen : els.length = k) (hel : ∀ j, j < k → RInt (And' M v) wr (els.getD j []) (ith xs j))
    (hrow : RowIs w2 wr.heap.size E (u32s (ith xs k).2)) (hn : (ith xs k).2.length = n') (hlt : ∀ x ∈ (ith xs k).2, x < 4294967296) (hr : n' * 4 ≤ 140737488355328) :
    (∀ j, j < k + 1 → RInt (And' M v3) w3 ((els ++ [[Value.bool (ith xs k).1, Value.slice (some ⟨wr.heap.size, 0, none⟩) n' n']]).getD j []) (ith xs j)) ∧ Keeps (Own v) wr w3 := by
  have ks : Keeps (Own v) wr w2 := hk1.of_nil.trans' hk2 (fun b hb => .inr (by cases hb; exact Nat.le_refl _))
  have kt : Keeps (Own v) wr w3 := (ks.alloc o).trans hk3
  have hsz : wr.heap.size < w2.heap.size := by have := hk2.size; omega
  have hne : ¬ v3.ownBlock = some wr.heap.size := fun h => by
    rcases hf _ h with h | h
    · have := hv _ h; omega
    · simp at h; omega
  refine ⟨fun j hj => ?_, kt⟩
  rcases Nat.lt_succ_iff_lt_or_eq.1 hj with h | rfl
  · rw [getD_snoc_lt _ _ _ (by omega)]
    refine (hel j h).move kt (fun b _ hb => .inr hb) (fun b hb h => ?_)
    rcases h with h | h
    · exact .inl h
    · rcases hf _ h with h | h
      · exact .inr h
      · simp at h; omega
  · rw [← hlen, getD_snoc_eq]
    rw [hlen]
    have h3 : RowIs w3 wr.heap.size E (u32s (ith xs j).2) := (hrow.keep ((Keeps.refl Nil w2).alloc o) id).keep hk3 (fun h => by have := hv _ h; omega)
    have := Limbs.ofRow (M := And' M v3) h3 hlt (fun h => by rcases h with h | h; have := hM _ h; omega; exact hne h) (by omega)
    rw [hn] at this
    exact ⟨_, _, _, rfl, this, hr⟩

set_option maxHeartbeats 1000000 in
theorem lent_any {M : Nat → Prop} {n c : Nat} {a : Option Addr} {xs : List (Bool × List Nat)} {w : World} (hM : MB M w) (hx : Ints M w a n c xs) (hr : n * 32 ≤ 140737488355328) :
    Calls Try.prog 15 #[.slice a n c] w fun r w' => ∃ a' c', r = .returned (.slice a' n c') ∧ Ints M w' a' n c' xs ∧ Keeps Nil w w' := by
  have HM := Lib.hid hM
  have HX := Lib.hid hx
  have hcap := SlOf.cap hx
  have hle := SlOf.le hx
  have HL := Lib.hid (SlOf.len hx)
  obtain ⟨i0, hi, hz0, hz1, hz2⟩ := info_parts info_u32
  obtain ⟨i1, hi1, hz3, hz4, hz5⟩ := info_parts info_Int
  have HI := Lib.hid (And.intro hi1 (And.intro hz3 (And.intro hz4 hz5)))
  clear hM hx hi1 hz3 hz4 hz5
  go_enter Try.func15, Try.ntmps15
  go_wp2
  go_loopw [3, 4] (fun o i wr => ∃ k els, k ≤ n ∧ i = .int .i64 (k : Nat) ∧ OwnEls wr w.heap.size 48 2 o els ∧ els.length = k ∧ (∀ j, j < k → RInt (And' M o) wr (els.getD j []) (ith xs j)) ∧ Keeps Nil w wr) (fun _ i _ => n - (intOf i).toNat)
  case atStart => exact ⟨0, [], Nat.zero_le _, rfl, OwnEls.nil _ _ _ _, rfl, fun j hj => by omega, Keeps.refl _ _⟩
  case round =>
    obtain ⟨k, els, hk, rfl, hown, hlen, hel, hkk⟩ := hrel
    have HR := Lib.hid (And.intro hown (And.intro hlen hel))
    have HX' := Lib.hid (HX.out.keepNil hkk)
    have HK := Lib.hid hkk
    clear hown hlen hel hkk
    by_cases hlt : k < n
    · obtain ⟨b, off, a', n', c', rfl, hb, hnM, p0, p1, hL, hr'⟩ := HX'.out.at hlt
      have hcs : (u32s (ith xs k).2).length = min n' n' := by rw [length_u32s, hL.len]; omega
      have hfit : 0 + (u32s (ith xs k).2).length ≤ (zeros n' (.int .u32 0)).length := by rw [length_zeros, length_u32s, hL.len]; omega
      have HS := Lib.hid hcs
      have HF := Lib.hid hfit
      have HL' := Lib.hid hL
      clear hcs hfit hL
      go_wp2_with (first | (at_make; refine wpList_make_row _ rfl _ _ 46 rfl 64 i0 (.int .u32 0) Try.underlying46 hi hz0 hz1 rfl .i64 .i64 _ _ n' rfl rfl rfl rfl (by rw [hz2]; omega) (by omega) ?_; intro w1 hrow hk1 hsz1; have q0 := hk1.cellE hb id p0; have q1 := hk1.cellE hb id p1; have HK1 := Lib.hid (And.intro hk1 hsz1); have HW1 := Lib.hid hrow; clear hk1 hsz1 p0 p1 hrow) | (with_reducible refine wpList_copy_row (M := M) rfl (.tmp 19) (.tmp 24) 46 46 rfl 64 Try.underlying46 size_u32 _ _ _ _ _ _ rfl rfl wr.heap.size 0 _ 64 HW1.out (u32s (ith xs k).2) HS.out (fun _ => rfl) (SrcIs.keepNil (by have := HL'.out.src (k := n') (Nat.le_refl _); rwa [List.take_of_length_le (by rw [HL'.out.len]; exact Nat.le_refl _)] at this) HK1.out.1) HF.out (one_u32s _) ?_; intro w2 hrow2 hk2; have q2 := hk2.cellE (by have := HK1.out.2; omega) (by unfold Rid.One; omega) q0; have q3 := hk2.cellE (by have := HK1.out.2; omega) (by unfold Rid.One; omega) q1; have HK2 := Lib.hid hk2; have HW2 := Lib.hid hrow2; clear hk2 q0 q1 hrow2) | (at_builtin; refine wpList_append_els _ rfl (.tmp 26) (.tmp 34) 34 rfl w.heap.size 48 i1 (.agg #[.bool false, .slice none 0 0]) 2 32 Try.underlying34 HI.out.1 HI.out.2.1 HI.out.2.2.1 HI.out.2.2.2 rfl (by decide) _ els rfl (((HR.out.1.keepNil HK1.out.1).keep HK2.out (fun b hb => by have := HR.out.1.lt b hb; unfold Rid.One; omega)).keepNil (by repeat (first | exact Keeps.refl _ _ | refine Keeps.drew ?_ | refine Keeps.drewN ?_ _ | refine Keeps.alloc ?_ _))) ⟨w2.heap.size, 0, none⟩ 1 1 [[.bool (ith xs k).1, .slice (some ⟨wr.heap.size, 0, none⟩) n' n']] rfl rfl (by simp) (alloc_news _ _ _) (by simp [Value.oneCell']) (by rw [HR.out.2.1]; omega) (by rw [HR.out.2.1]; omega) (by have := HK.out.size; have := HK1.out.1.size; have := HK2.out.size; simp; omega) ?_; intro v3 w3 hown3 hk3 hfr _; have HW3 := Lib.hid (And.intro hown3 (And.intro hk3 hfr)); clear hown3 hk3 hfr))
      go_roundw
      case rel =>
        have hrw := HW2.out
        rw [splice_all _ _ (by rw [length_zeros, length_u32s, HL'.out.len])] at hrw
        have R := lent_step HK1.out.1 HK1.out.2 HK2.out HW3.out.2.1 HW3.out.2.2 (fun b hb => (HR.out.1.lt b hb).2) (HM.out.keep HK.out) HR.out.2.1 HR.out.2.2 hrw HL'.out.len HL'.out.lt hr'
        exact ⟨k + 1, _, by omega, by go_num, HW3.out.1, by simp [HR.out.2.1], R.1, HK.out.trans' R.2 (fun b hb => .inr (HR.out.1.lt b hb).1)⟩
      case measure => simp [intOf]; omega
    · obtain rfl : k = n := by omega
      go_wp2
      go_ret
      obtain ⟨a', c', e, h⟩ := HR.out.1.sl (M := M) (R := RInt M wr) (d := (false, [])) (xs := xs) (fun b hb hM => by have := HM.out _ hM; have := (HR.out.1.lt b hb).1; omega) (by rw [HL.out, HR.out.2.1]) (fun i hi => (HR.out.2.2 i (by have := HR.out.2.1; omega)).turn fun b _ h => .inl h)
      rw [HR.out.2.1] at e h
      subst e
      exact ⟨a', c', rfl, h, HK.out⟩
end Go.Proofs.Ytdldaiakljhfjaa
