/- What zint.trim, slices.Clone at limbs and their like do: the limbs without the noughts at the end, in new memory. Conditions: none but the slices' own reading. -/
import Derived.Test.YtdldaiakljhfjaaRows
import Derived.Test.YtdldaiakljhfjaaBase
namespace Go.Proofs.Ytdldaiakljhfjaa
open Go.RowKit Go.Rid

theorem info_u32 : (Try.prog.info? 64).map (fun i => (i.zero, i.size, i.bytes)) = some (some (.int .u32 0), 1, 4) := by kernel_rfl
theorem size_u32 : (Try.prog.info? 64).map (·.size) = some 1 := by kernel_rfl

set_option maxHeartbeats 400000 in
theorem clone_u32_nil (w : World) : Calls Try.prog 36 #[.slice none 0 0] w fun e w' => e = .returned (.slice none 0 0) ∧ w = w' := by
  have q : ∀ (w : World) (a : Option Addr) (n c n' c' : Nat), (binOp .eql 46 (.slice a n c) (.slice none n' c')).run Try.prog w = .ok (.bool a.isNone) w := fun w a n c n' c' => Lib.run_eql_slice_nil w _ _ a n c n' c' Try.underlying46
  go_enter Try.func36, Try.ntmps36
  go_wp2
  go_ret
  exact ⟨rfl, rfl⟩

set_option maxHeartbeats 400000 in
theorem clone_u32 {M : Nat → Prop} {a : Option Addr} {n c : Nat} {l : List Nat} {w : World} (hM : MB M w) (h : Limbs M w a n c l) (hr : n * 4 ≤ 140737488355328) :
    Calls Try.prog 36 #[.slice a n c] w fun e w' => ∃ a' c', e = .returned (.slice a' n c') ∧ Limbs M w' a' n c' l ∧ Keeps Nil w w' := by
  cases a with
  | none =>
    obtain ⟨rfl, rfl⟩ := h.sl.none rfl
    exact (clone_u32_nil w).mono fun e w' ⟨he, hw⟩ => by subst hw; exact ⟨_, _, he, h, Keeps.refl _ _⟩
  | some p =>
    have q : ∀ (w : World) (a : Option Addr) (n c n' c' : Nat), (binOp .eql 46 (.slice a n c) (.slice none n' c')).run Try.prog w = .ok (.bool a.isNone) w := fun w a n c n' c' => Lib.run_eql_slice_nil w _ _ a n c n' c' Try.underlying46
    obtain ⟨i0, hi, hz0, hz1, hz2⟩ := info_parts info_u32
    have HH := Lib.hid h
    have HM := Lib.hid hM
    clear h hM
    go_enter Try.func36, Try.ntmps36
    go_wp2_with (at_builtin; refine wpList_append_own _ rfl _ _ 46 rfl w.heap.size 64 i0 (.int .u32 0) 1 4 Try.underlying46 hi hz0 hz1 hz2 rfl (by decide) _ _ _ rfl (World.ownsRow_made w #[] 0 (Nat.le_refl _) (Nat.zero_le _) rfl) p n c (l.map u32) rfl ?qc1 ?qc2 ?qc3 ?qc4 ?qc5 ?qc6 ?_)
    case qc1 => simp [HH.out.len]
    case qc2 =>
      intro j u hj
      have hx := HH.out.src (k := n) (Nat.le_refl _)
      rw [List.take_of_length_le (by have := HH.out.len; omega)] at hx
      have hjl : j < (u32s l).length := (List.getElem?_eq_some_iff.1 hj).1
      obtain ⟨b, off, e, hb, _, hc⟩ := hx (by omega)
      cases e
      rw [← hc j u hj, Addr.add_lit]
      exact World.cell?_alloc_lt _ _ (a := ⟨b, off + j, none⟩) hb
    case qc3 => exact u32_one l
    case qc4 => unfold maxLen; omega
    case qc5 => omega
    case qc6 => simp
    intro v' w1 hown hgrow hnil
    go_wp2
    go_ret
    have h := HH.out
    obtain ⟨a', c', rfl, hL⟩ := Limbs.owned (M := M) (l := l) (by simpa using hown) h.lt HM.out
    exact ⟨_, _, rfl, hL, ((Keeps.refl _ w).alloc _).grow hgrow (by intro k hk; simp [Value.ownBlock] at hk; omega)⟩

theorem trim_nil (w : World) : Calls Try.prog 33 #[.slice none 0 0] w fun e w' => e = .returned (.slice none 0 0) ∧ w = w' := by
  go_enter Try.func33, Try.ntmps33
  go_wp2
  go_loop [0] (fun s => s = .slice none 0 0) (fun _ => 0)
  case atStart => rfl
  case round =>
    subst hrel
    go_wp2_with (go_at_call 36; refine (clone_u32_nil _).mono ?_; rintro e w' ⟨rfl, rfl⟩)
    go_ret
    exact ⟨rfl, rfl⟩

set_option maxHeartbeats 400000 in
theorem trim_zero {M : Nat → Prop} {p : Addr} {c : Nat} {w : World} (hM : MB M w) (h : Limbs M w (some p) 0 c []) :
    Calls Try.prog 33 #[.slice (some p) 0 c] w fun e w' => ∃ a' c', e = .returned (.slice a' 0 c') ∧ Limbs M w' a' 0 c' [] ∧ Keeps Nil w w' := by
  have hcap := h.sl.cap
  have HH := Lib.hid h
  clear h
  go_enter Try.func33, Try.ntmps33
  go_wp2
  go_loop [0] (fun s => s = .slice (some p) 0 c) (fun _ => 0)
  case atStart => rfl
  case round =>
    subst hrel
    go_wp2_with (go_at_call 36; refine (clone_u32 hM HH.out (by omega)).mono ?_; rintro e w' ⟨a', c', rfl, h', hk'⟩)
    go_ret
    exact ⟨_, _, rfl, h', hk'⟩

set_option maxHeartbeats 400000 in
theorem trim_some {M : Nat → Prop} {b off n c : Nat} {l : List Nat} {w : World} (hM : MB M w) (h : Limbs M w (some ⟨b, off, none⟩) n c l) (hr : n * 4 ≤ 140737488355328) :
    Calls Try.prog 33 #[.slice (some ⟨b, off, none⟩) n c] w fun e w' => ∃ a' c', e = .returned (.slice a' (top l) c') ∧ Limbs M w' a' (top l) c' (trim l) ∧ Keeps Nil w w' := by
  have hle := h.sl.le
  have hcap := h.sl.cap
  have HH := Lib.hid h
  clear h
  go_enter Try.func33, Try.ntmps33
  go_wp2
  go_loop [0] (fun s => ∃ k : Nat, k ≤ n ∧ topK l n = topK l k ∧ s = .slice (some ⟨b, off, none⟩) k c) (fun s => match s with | .slice _ k _ => k | _ => 0)
  case atStart => exact ⟨n, Nat.le_refl _, rfl, rfl⟩
  case round =>
    obtain ⟨k, hk, ht, rfl⟩ := hrel
    have HT := Lib.hid ht
    clear ht
    cases k with
    | zero =>
      have hL : Limbs M w (some ⟨b, off, none⟩) 0 c (trim l) := by
        have e : top l = 0 := by unfold top; rw [HH.out.len]; exact HT.out
        have hx := HH.out.take (k := 0) (by omega)
        rw [← e] at hx ⊢
        exact hx
      have HL := Lib.hid hL
      clear hL
      go_wp2_with (go_at_call 36; refine (clone_u32 hM HL.out (by omega)).mono ?_; rintro e w' ⟨a', c', rfl, h', hk'⟩)
      go_ret
      have e : top l = 0 := by unfold top; rw [HH.out.len]; exact HT.out
      rw [e]
      exact ⟨_, _, rfl, h', hk'⟩
    | succ k =>
      have hcell : w.cell? ⟨b, off + k, none⟩ = some (.int .u32 (lim l k : Int)) := by simpa using (HH.out.sl.some _ rfl (by omega)).2.2.2 k 0 (by omega) (by omega)
      by_cases h1 : ((lim l k : Int) == 0) = true
      · go_wp2
        go_round
        case rel => exact ⟨k, by omega, by rw [HT.out, topK_zero (by simpa using h1)], rfl⟩
        case measure => simp
      · have h1' : ((lim l k : Int) == 0) = false := by simpa using h1
        have e : top l = k + 1 := by unfold top; rw [HH.out.len, HT.out, topK_pos (by simpa using h1')]
        have hL : Limbs M w (some ⟨b, off, none⟩) (k + 1) c (trim l) :=
          by have hx := HH.out.take (k := k + 1) (by omega); rw [← e] at hx ⊢; exact hx
        have HL := Lib.hid hL
        have HE := Lib.hid e
        clear hL e
        go_wp2_with (go_at_call 36; refine (clone_u32 hM HL.out (by omega)).mono ?_; rintro e w' ⟨a', c', rfl, h', hk'⟩)
        go_ret
        rw [HE.out]
        exact ⟨_, _, rfl, h', hk'⟩

theorem trim_any {M : Nat → Prop} {a : Option Addr} {n c : Nat} {l : List Nat} {w : World} (hM : MB M w) (h : Limbs M w a n c l) (hr : n * 4 ≤ 140737488355328) :
    Calls Try.prog 33 #[.slice a n c] w fun e w' => ∃ a' c', e = .returned (.slice a' (top l) c') ∧ Limbs M w' a' (top l) c' (trim l) ∧ Keeps Nil w w' := by
  rcases Nat.eq_zero_or_pos n with rfl | hn
  · have e : l = [] := List.eq_nil_of_length_eq_zero h.len
    subst e
    cases a with
    | none =>
      obtain ⟨_, rfl⟩ := h.sl.none rfl
      exact (trim_nil w).mono fun e w' ⟨he, hw⟩ => by subst hw; exact ⟨_, _, he, h, Keeps.refl _ _⟩
    | some p => exact trim_zero hM h
  · obtain ⟨b, off, rfl, _⟩ := h.sl.at hn
    exact trim_some hM h hr

/-- zint.Limbs. -/
theorem limbs_any {M : Nat → Prop} {g : Bool} {a : Option Addr} {n c : Nat} {l : List Nat} {w : World} (hM : MB M w) (h : Limbs M w a n c l) (hr : n * 4 ≤ 140737488355328) :
    Calls Try.prog 27 #[.agg #[.bool g, .slice a n c]] w fun e w' => e = .returned (.int .i64 (top l : Int)) ∧ Keeps Nil w w' := by
  have HH := Lib.hid h
  have HM := Lib.hid hM
  clear h hM
  go_enter Try.func27, Try.ntmps27
  go_wp2_with (go_at_call 33; refine (trim_any (HM.out.keep ((Keeps.refl Nil w).alloc _)) (HH.out.keep' ((Keeps.refl M w).alloc _)) hr).mono ?_; rintro e w' ⟨a', c', rfl, h', hk'⟩)
  go_ret
  exact ⟨rfl, ((Keeps.refl Nil w).alloc _).trans hk'⟩
end Go.Proofs.Ytdldaiakljhfjaa
