/- What the references' at, Cmp, Add, Sub on limbs do. Conditions: the slices' own reading; room. -/
import Derived.Test.YtfkclbhddiidbaaKRefOf
namespace Go.Rid
open Go.RowKit
/-- Limbs as elements of one cell. -/
def els32 (l : List Nat) : List (List Value) := l.map fun x => [u32 x]
theorem els32_snoc (l : List Nat) (x : Nat) : els32 (l ++ [x]) = els32 l ++ [[u32 x]] := by simp [els32]
theorem els32_flat (l : List Nat) : (els32 l).flatten = l.map u32 := by
  induction l with
  | nil => rfl
  | cons x l ih => simp only [els32, List.map_cons, List.flatten_cons] at *; rw [ih]; rfl
theorem length_els32 (l : List Nat) : (els32 l).length = l.length := by simp [els32]
theorem OwnEls.limbs {M : Nat → Prop} {w : World} {base : Nat} {E : TypeId} {v : Value} {l : List Nat} (h : OwnEls w base E 1 v (els32 l)) (hl : Small l) (hM : ∀ b, M b → b < base) : ∃ a c, v = .slice a l.length c ∧ Limbs M w a l.length c l := by
  have hr := h.row
  rw [els32_flat, length_els32] at hr
  exact Limbs.owned hr hl hM
theorem lim_or (l : List Nat) (i : Nat) : i < l.length ∨ lim l i = 0 := by
  rcases Nat.lt_or_ge i l.length with h | h
  · exact .inl h
  · exact .inr (lim_ge h)
end Go.Rid
namespace Go.Proofs.Ytfkclbhddiidbaa
open Go.RowKit Go.Rid
theorem refat_any {a : Option Addr} {n c i : Nat} {l : List Nat} {M : Nat → Prop} {w : World} (h : Limbs M w a n c l) (hi : i ≤ 9223372036854775807) :
    Calls Try.prog 63 #[.slice a n c, .int .i64 (i : Int)] w fun e w' => e = .returned (.int .u64 (lim l i : Int)) ∧ w = w' := by
  have hcap := h.sl.cap
  have hle := h.sl.le
  have hs := h.lim_lt i
  by_cases hlt : i < n
  · obtain ⟨b, off, hae, _, _, p0⟩ := h.cell hlt
    subst hae
    have i1 : (i : Int) < (n : Int) := by omega
    have i2 : (0 : Int) ≤ (i : Int) := by omega
    clear h
    go_enter Try.func63, Try.ntmps63
    go_wp2_with fail
    go_ret
    exact ⟨rfl, rfl⟩
  · have e : lim l i = 0 := lim_ge (by rw [h.len]; omega)
    have i1 : ¬ (i : Int) < (n : Int) := by omega
    rw [e]
    clear h e hs
    go_enter Try.func63, Try.ntmps63
    go_wp2_with fail
    go_ret
    exact ⟨rfl, rfl⟩
set_option maxHeartbeats 1000000 in
theorem refncmp_any {a a2 : Option Addr} {n c n2 c2 : Nat} {l l2 : List Nat} {w : World} (h : Limbs Nil w a n c l) (h2 : Limbs Nil w a2 n2 c2 l2) :
    Calls Try.prog 40 #[.slice a n c, .slice a2 n2 c2] w fun e w' => e = .returned (.int .i64 (cmpN (nval l) (nval l2))) ∧ Keeps Nil w w' := by
  have hcap := h.sl.cap
  have hle := h.sl.le
  have hcap2 := h2.sl.cap
  have hle2 := h2.sl.le
  have HL := Lib.hid (And.intro h h2)
  clear h h2
  go_enter Try.func40, Try.ntmps40
  go_wp2_with fail
  go_loopw [5, 6] (fun o i wr => ∃ k : Nat, k ≤ max n n2 ∧ i = .int .i64 k ∧ o = .int .i64 (cmpN (nval (l.take k)) (nval (l2.take k))) ∧ Keeps Nil w wr) (fun _ i _ => max n n2 - (intOf i).toNat)
  case atStart => exact ⟨0, Nat.zero_le _, rfl, rfl, Keeps.refl _ _⟩
  case round =>
    obtain ⟨k, hk, rfl, rfl, hkk⟩ := hrel
    have HK := Lib.hid hkk
    have HC := Lib.hid (cmpN_step l l2 HL.out.1.lt HL.out.2.lt k)
    have HA := Lib.hid (And.intro (refat_any (i := k) (HL.out.1.keepNil hkk) (by omega)) (refat_any (i := k) (HL.out.2.keepNil hkk) (by omega)))
    clear hkk
    generalize hg : cmpN (nval (l.take k)) (nval (l2.take k)) = o at *
    by_cases hlt : k < max n n2
    · have hgu : ((k : Int) < (n : Int) ∧ decide ((k : Int) < (n : Int)) = true) ∨ (¬ (k : Int) < (n : Int) ∧ decide ((k : Int) < (n : Int)) = false ∧ (k : Int) < (n2 : Int) ∧ decide ((k : Int) < (n2 : Int)) = true) := by
        by_cases h1 : k < n
        · exact .inl ⟨by omega, decide_eq_true (by omega)⟩
        · exact .inr ⟨by omega, decide_eq_false (by omega), by omega, decide_eq_true (by omega)⟩
      have ha := HL.out.1.lim_lt k
      have hb := HL.out.2.lim_lt k
      generalize lim l k = x at *
      generalize lim l2 k = y at *
      rcases hgu with ⟨g1, g2⟩ | ⟨g1, g2, g3, g4⟩
      all_goals
        rcases Nat.lt_trichotomy x y with hxy | hxy | hxy
        · have i1 : (x : Int) < (y : Int) := by omega
          have i2 : ¬ (y : Int) < (x : Int) := by omega
          have HO := Lib.hid (show (if x < y then (-1 : Int) else if y < x then 1 else o) = -1 by rw [if_pos hxy])
          go_wp2_with (first | (go_at_call_of 63 (Value.slice a n c); refine HA.out.1.mono ?_; rintro e w' ⟨rfl, rfl⟩) | (go_at_call_of 63 (Value.slice a2 n2 c2); refine HA.out.2.mono ?_; rintro e w' ⟨rfl, rfl⟩))
          go_roundw
          case rel => exact ⟨k + 1, by omega, by go_num, by rw [HC.out, HO.out], HK.out⟩
          case measure => simp [intOf]; omega
        · subst hxy
          have i1 : ¬ (x : Int) < (x : Int) := by omega
          have HO := Lib.hid (show (if x < x then (-1 : Int) else if x < x then 1 else o) = o by simp)
          go_wp2_with (first | (go_at_call_of 63 (Value.slice a n c); refine HA.out.1.mono ?_; rintro e w' ⟨rfl, rfl⟩) | (go_at_call_of 63 (Value.slice a2 n2 c2); refine HA.out.2.mono ?_; rintro e w' ⟨rfl, rfl⟩))
          go_roundw
          case rel => exact ⟨k + 1, by omega, by go_num, by rw [HC.out, HO.out], HK.out⟩
          case measure => simp [intOf]; omega
        · have i1 : ¬ (x : Int) < (y : Int) := by omega
          have i2 : (y : Int) < (x : Int) := by omega
          have HO := Lib.hid (show (if x < y then (-1 : Int) else if y < x then 1 else o) = 1 by rw [if_neg (by omega), if_pos hxy])
          go_wp2_with (first | (go_at_call_of 63 (Value.slice a n c); refine HA.out.1.mono ?_; rintro e w' ⟨rfl, rfl⟩) | (go_at_call_of 63 (Value.slice a2 n2 c2); refine HA.out.2.mono ?_; rintro e w' ⟨rfl, rfl⟩))
          go_roundw
          case rel => exact ⟨k + 1, by omega, by go_num, by rw [HC.out, HO.out], HK.out⟩
          case measure => simp [intOf]; omega
    · have g1 : ¬ (k : Int) < (n : Int) := by omega
      have g2 : decide ((k : Int) < (n : Int)) = false := decide_eq_false g1
      have g3 : ¬ (k : Int) < (n2 : Int) := by omega
      have g4 : decide ((k : Int) < (n2 : Int)) = false := decide_eq_false g3
      rw [List.take_of_length_le (by rw [HL.out.1.len]; omega), List.take_of_length_le (by rw [HL.out.2.len]; omega)] at hg
      have HGG := Lib.hid hg
      clear hg
      go_wp2_with fail
      go_ret
      rw [HGG.out]
      exact ⟨rfl, HK.out⟩
set_option maxHeartbeats 2000000 in
set_option maxRecDepth 100000 in
theorem refnadd_any {M : Nat → Prop} {a a2 : Option Addr} {n c n2 c2 : Nat} {l l2 : List Nat} {w : World} (hM : MB M w) (h : Limbs Nil w a n c l) (h2 : Limbs Nil w a2 n2 c2 l2) (hr : n * 4 + 4 ≤ 140737488355328) (hr2 : n2 * 4 + 4 ≤ 140737488355328) :
    Calls Try.prog 39 #[.slice a n c, .slice a2 n2 c2] w fun e w' => ∃ a' c', e = .returned (.slice a' (nlen (nval l + nval l2)) c') ∧ Limbs M w' a' (nlen (nval l + nval l2)) c' (limbsOf (nval l + nval l2)) ∧ Keeps Nil w w' := by
  obtain ⟨i0, hi0⟩ := info_parts info_u32
  have HI := Lib.hid hi0
  have HL := Lib.hid (And.intro h h2)
  have HM := Lib.hid hM
  clear h h2 hM hi0
  go_enter Try.func39, Try.ntmps39
  go_wp2_with fail
  go_loopw [5, 6, 7] (fun v o i wr => ∃ k : Nat, k ≤ max n n2 ∧ i = .int .i64 k ∧ o = .int .u64 ((addK l l2 k).2 : Int) ∧ OwnEls wr w.heap.size 71 1 v (els32 (addK l l2 k).1) ∧ Keeps Nil w wr) (fun _ _ i _ => max n n2 - (intOf i).toNat)
  case atStart => exact ⟨0, Nat.zero_le _, rfl, rfl, OwnEls.nil _ _ _ _, Keeps.refl _ _⟩
  case round =>
    obtain ⟨k, hk, rfl, rfl, ho, hkk⟩ := hrel
    obtain ⟨q1, q2, q3, q4⟩ := addK_spec HL.out.1.lt HL.out.2.lt k
    have HK := Lib.hid (And.intro hkk (And.intro ho (And.intro q1 (And.intro q2 q4))))
    have hel : (els32 (addK l l2 k).1).length = k := by rw [length_els32, q1]
    have HEL := Lib.hid hel
    have HA := Lib.hid (And.intro (refat_any (i := k) (HL.out.1.keepNil hkk) (by omega)) (refat_any (i := k) (HL.out.2.keepNil hkk) (by omega)))
    have hsz := hkk.size
    clear hkk ho q1 q2 q4 hel
    by_cases hlt : k < max n n2
    · have hgu : ((k : Int) < (n : Int) ∧ decide ((k : Int) < (n : Int)) = true) ∨ (¬ (k : Int) < (n : Int) ∧ decide ((k : Int) < (n : Int)) = false ∧ (k : Int) < (n2 : Int) ∧ decide ((k : Int) < (n2 : Int)) = true) := by
        by_cases h1 : k < n
        · exact .inl ⟨by omega, decide_eq_true (by omega)⟩
        · exact .inr ⟨by omega, decide_eq_false (by omega), by omega, decide_eq_true (by omega)⟩
      have ha := HL.out.1.lim_lt k
      have hb := HL.out.2.lim_lt k
      have e1 : (addK l l2 (k + 1)).2 = ((addK l l2 k).2 + lim l k + lim l2 k) / Bs := rfl
      have e2 : (addK l l2 (k + 1)).1 = (addK l l2 k).1 ++ [((addK l l2 k).2 + lim l k + lim l2 k) % Bs] := rfl
      have HE := Lib.hid (And.intro e1 e2)
      clear e1 e2
      generalize lim l k = x at *
      generalize lim l2 k = y at *
      generalize (addK l l2 k).2 = o at *
      rcases hgu with ⟨g1, g2⟩ | ⟨g1, g2, g3, g4⟩
      all_goals
        go_wp2_with (first | (go_at_call_of 63 (Value.slice a n c); refine HA.out.1.mono ?_; rintro e w' ⟨rfl, rfl⟩) | (go_at_call_of 63 (Value.slice a2 n2 c2); refine HA.out.2.mono ?_; rintro e w' ⟨rfl, rfl⟩) | (at_builtin; refine wpList_append_els _ rfl (.tmp 30) (.tmp 34) 34 rfl w.heap.size 71 i0 (.int .u32 0) 1 4 Try.underlying34 HI.out.1 HI.out.2.1 HI.out.2.2.1 HI.out.2.2.2 rfl (by decide) u5 (els32 (addK l l2 k).1) rfl (HK.out.2.1.keepNil (by repeat (first | exact Keeps.refl _ _ | refine Keeps.drew ?_ | refine Keeps.drewN ?_ _ | refine Keeps.alloc ?_ _))) ⟨wr.heap.size, 0, none⟩ 1 1 [[.int .u32 (((x : Int) + (y : Int) + (o : Int)) % 4294967296)]] rfl rfl (by simp) (alloc_news _ _ _) (by simp [Value.oneCell']) (by rw [HEL.out]; omega) (by rw [HEL.out]; omega) (by simp; omega) ?_; intro v' w2 ho hk2 hf2 _; have HO := Lib.hid (And.intro ho hk2); clear ho hk2 hf2))
        go_roundw
        case rel =>
          have ev : Value.int .u32 (((x : Int) + (y : Int) + (o : Int)) % 4294967296) = Go.Rid.u32 ((o + x + y) % Bs) := by unfold Go.Rid.u32; congr 1; rw [Bs_def]; omega
          have ho := HO.out.1
          rw [ev, ← els32_snoc] at ho
          exact ⟨k + 1, by omega, by go_num, by rw [HE.out.1, Bs_def]; congr 1; omega, by rw [HE.out.2]; exact ho, (HK.out.1.trans (by repeat (first | exact Keeps.refl _ _ | refine Keeps.drew ?_ | refine Keeps.drewN ?_ _ | refine Keeps.alloc ?_ _))).trans' HO.out.2 (fun b hb => .inr (HK.out.2.1.lt b hb).1)⟩
        case measure => simp [intOf]; omega
    · obtain rfl : k = max n n2 := by omega
      have g1 : ¬ ((max n n2 : Nat) : Int) < (n : Int) := by omega
      have g2 : decide (((max n n2 : Nat) : Int) < (n : Int)) = false := decide_eq_false g1
      have g3 : ¬ ((max n n2 : Nat) : Int) < (n2 : Int) := by omega
      have g4 : decide (((max n n2 : Nat) : Int) < (n2 : Int)) = false := decide_eq_false g3
      have hval : nval ((addK l l2 (max n n2)).1 ++ [(addK l l2 (max n n2)).2]) = nval l + nval l2 := by
        rw [nval_snoc, HK.out.2.2.1]
        have := HK.out.2.2.2.2
        rw [List.take_of_length_le (by rw [HL.out.1.len]; omega), List.take_of_length_le (by rw [HL.out.2.len]; omega)] at this
        exact this
      have hsm : Small ((addK l l2 (max n n2)).1 ++ [(addK l l2 (max n n2)).2]) := small_snoc HK.out.2.2.2.1 (by omega)
      have hln : ((addK l l2 (max n n2)).1 ++ [(addK l l2 (max n n2)).2]).length = max n n2 + 1 := by simp [HK.out.2.2.1]
      have HV := Lib.hid (And.intro hval (And.intro hsm hln))
      clear hval hsm hln
      generalize hmx : max n n2 = m at *
      have hm1 : m * 4 + 4 ≤ 140737488355328 := by omega
      obtain ⟨o, hoo⟩ : ∃ o, o = (addK l l2 m).2 := ⟨_, rfl⟩
      rw [← hoo]
      rw [← hoo] at q3
      have HOO := Lib.hid hoo
      clear hoo hmx
      go_wp2_with (first | (at_builtin; refine wpList_append_els _ rfl (.tmp 38) (.tmp 41) 34 rfl w.heap.size 71 i0 (.int .u32 0) 1 4 Try.underlying34 HI.out.1 HI.out.2.1 HI.out.2.2.1 HI.out.2.2.2 rfl (by decide) u5 (els32 (addK l l2 m).1) rfl (HK.out.2.1.keepNil (by repeat (first | exact Keeps.refl _ _ | refine Keeps.drew ?_ | refine Keeps.drewN ?_ _ | refine Keeps.alloc ?_ _))) ⟨wr.heap.size, 0, none⟩ 1 1 [[.int .u32 (o : Int)]] rfl rfl (by simp) (alloc_news _ _ _) (by simp [Value.oneCell']) (by rw [HEL.out]; omega) (by rw [HEL.out]; omega) (by simp; omega) ?_; intro v' w2 ho hk2 hf2 _; rw [show ([[Value.int .u32 (o : Int)]] : List (List Value)) = [[Go.Rid.u32 (addK l l2 m).2]] by rw [← HOO.out]; rfl, ← els32_snoc] at ho; obtain ⟨a5, c5, rfl, hL⟩ := OwnEls.limbs (M := Nil) ho HV.out.2.1 (fun _ h => h.elim); rw [HV.out.2.2] at hL ⊢; have HO := Lib.hid (And.intro hL ((HK.out.1.trans (show Keeps Nil wr (wr.alloc (.cells #[.int .u32 (o : Int)] 71)) from (by repeat (first | exact Keeps.refl _ _ | refine Keeps.drew ?_ | refine Keeps.drewN ?_ _ | refine Keeps.alloc ?_ _)))).trans' hk2 (fun b hb => .inr (HK.out.2.1.lt b hb).1))); clear ho hk2 hf2 hL) | (go_at_call 62; refine (ref01trim_any (HM.out.keep HO.out.2) HO.out.1 (by omega)).mono ?_; rintro e w3 ⟨a', c', rfl, h', hk'⟩))
      go_ret
      rw [trim_eq HV.out.2.1, top_eq HV.out.2.1, HV.out.1] at h'
      rw [top_eq HV.out.2.1, HV.out.1]
      exact ⟨_, _, rfl, h', HO.out.2.trans hk'⟩
/-- A difference, whatever noughts the lesser one has above. -/
theorem subK_all' {a b : List Nat} (ha : Small a) (hb : Small b) (hle : nval b ≤ nval a) : nval (subK a b a.length).1 = nval a - nval b := by
  obtain ⟨h1, h2, h3, h4⟩ := subK_spec ha hb a.length
  have h5 := nval_lt h2
  rw [h1] at h5
  rw [List.take_length] at h4
  have h6 := nval_lt ha
  have h7 : nval (b.take a.length) = nval b := by
    rcases Nat.lt_or_ge a.length b.length with h | h
    · have hs := nval_split b a.length (by omega)
      rcases Nat.eq_zero_or_pos (nval (b.drop a.length)) with h0 | h0
      · rw [h0] at hs; omega
      · have : Bs ^ a.length * 1 ≤ Bs ^ a.length * nval (b.drop a.length) := Nat.mul_le_mul_left _ h0
        omega
    · rw [List.take_of_length_le h]
  rw [h7] at h4
  rcases (show (subK a b a.length).2 = 0 ∨ (subK a b a.length).2 = 1 by omega) with h | h
  · rw [h] at h4; omega
  · rw [h] at h4; omega
set_option maxHeartbeats 2000000 in
set_option maxRecDepth 100000 in
theorem refnsub_any {M : Nat → Prop} {a a2 : Option Addr} {n c n2 c2 : Nat} {l l2 : List Nat} {w : World} (hM : MB M w) (h : Limbs Nil w a n c l) (h2 : Limbs Nil w a2 n2 c2 l2) (hr : n * 4 + 4 ≤ 140737488355328) (hle : nval l2 ≤ nval l) :
    Calls Try.prog 41 #[.slice a n c, .slice a2 n2 c2] w fun e w' => ∃ a' c', e = .returned (.slice a' (nlen (nval l - nval l2)) c') ∧ Limbs M w' a' (nlen (nval l - nval l2)) c' (limbsOf (nval l - nval l2)) ∧ Keeps Nil w w' := by
  obtain ⟨i0, hi0⟩ := info_parts info_u32
  have HI := Lib.hid hi0
  have HL := Lib.hid (And.intro h h2)
  have HM := Lib.hid hM
  have HLE := Lib.hid (And.intro hle h.len)
  clear h h2 hM hi0 hle
  go_enter Try.func41, Try.ntmps41
  go_wp2_with fail
  go_loopw [5, 6, 7] (fun v o i wr => ∃ k : Nat, k ≤ n ∧ i = .int .i64 k ∧ o = .int .u64 ((subK l l2 k).2 : Int) ∧ OwnEls wr w.heap.size 71 1 v (els32 (subK l l2 k).1) ∧ Keeps Nil w wr) (fun _ _ i _ => n - (intOf i).toNat)
  case atStart => exact ⟨0, Nat.zero_le _, rfl, rfl, OwnEls.nil _ _ _ _, Keeps.refl _ _⟩
  case round =>
    obtain ⟨k, hk, rfl, rfl, ho, hkk⟩ := hrel
    obtain ⟨q1, q2, q3, q4⟩ := subK_spec HL.out.1.lt HL.out.2.lt k
    have HK := Lib.hid (And.intro hkk (And.intro ho (And.intro q1 q2)))
    have hel : (els32 (subK l l2 k).1).length = k := by rw [length_els32, q1]
    have HEL := Lib.hid hel
    have HA := Lib.hid (And.intro (refat_any (i := k) (HL.out.1.keepNil hkk) (by omega)) (refat_any (i := k) (HL.out.2.keepNil hkk) (by omega)))
    have hsz := hkk.size
    clear hkk q1 q2 q4 hel
    by_cases hlt : k < n
    · have g1 : (k : Int) < (n : Int) := by omega
      have ha := HL.out.1.lim_lt k
      have hb := HL.out.2.lim_lt k
      have e1 : (subK l l2 (k + 1)).2 = 1 - (lim l k + Bs - lim l2 k - (subK l l2 k).2) / Bs := rfl
      have e2 : (subK l l2 (k + 1)).1 = (subK l l2 k).1 ++ [(lim l k + Bs - lim l2 k - (subK l l2 k).2) % Bs] := rfl
      have HE := Lib.hid (And.intro e1 e2)
      clear e1 e2 ho
      generalize lim l k = x at *
      generalize lim l2 k = y at *
      generalize (subK l l2 k).2 = o at *
      go_wp2_with (first | (go_at_call_of 63 (Value.slice a n c); refine HA.out.1.mono ?_; rintro e w' ⟨rfl, rfl⟩) | (go_at_call_of 63 (Value.slice a2 n2 c2); refine HA.out.2.mono ?_; rintro e w' ⟨rfl, rfl⟩) | (at_builtin; refine wpList_append_els _ rfl (.tmp 25) (.tmp 29) 34 rfl w.heap.size 71 i0 (.int .u32 0) 1 4 Try.underlying34 HI.out.1 HI.out.2.1 HI.out.2.2.1 HI.out.2.2.2 rfl (by decide) u5 (els32 (subK l l2 k).1) rfl (HK.out.2.1.keepNil (by repeat (first | exact Keeps.refl _ _ | refine Keeps.drew ?_ | refine Keeps.drewN ?_ _ | refine Keeps.alloc ?_ _))) ⟨wr.heap.size, 0, none⟩ 1 1 [[.int .u32 (((x : Int) + 4294967296 - (y : Int) - (o : Int)) % 4294967296)]] rfl rfl (by simp) (alloc_news _ _ _) (by simp [Value.oneCell']) (by rw [HEL.out]; omega) (by rw [HEL.out]; omega) (by simp; omega) ?_; intro v' w2 ho hk2 hf2 _; have HO := Lib.hid (And.intro ho hk2); clear ho hk2 hf2))
      go_roundw
      case rel =>
        have ev : Value.int .u32 (((x : Int) + 4294967296 - (y : Int) - (o : Int)) % 4294967296) = Go.Rid.u32 ((x + Bs - y - o) % Bs) := by unfold Go.Rid.u32; congr 1; rw [Bs_def]; omega
        have ho := HO.out.1
        rw [ev, ← els32_snoc] at ho
        exact ⟨k + 1, by omega, by go_num, by rw [HE.out.1, Bs_def]; congr 1; omega, by rw [HE.out.2]; exact ho, (HK.out.1.trans (by repeat (first | exact Keeps.refl _ _ | refine Keeps.drew ?_ | refine Keeps.drewN ?_ _ | refine Keeps.alloc ?_ _))).trans' HO.out.2 (fun b hb => .inr (HK.out.2.1.lt b hb).1)⟩
      case measure => simp [intOf]; omega
    · obtain rfl : k = n := by omega
      have g1 : ¬ (k : Int) < (k : Int) := by omega
      obtain ⟨a5, c5, hv, hL⟩ := OwnEls.limbs (M := Nil) ho HK.out.2.2.2 (fun _ h => h.elim)
      have hval : nval (subK l l2 k).1 = nval l - nval l2 := by
        have := subK_all' HL.out.1.lt HL.out.2.lt HLE.out.1
        rw [HLE.out.2] at this; exact this
      subst hv
      rw [HK.out.2.2.1] at hL ⊢
      have HV := Lib.hid (And.intro hval (And.intro HK.out.2.2.2 (And.intro hL HK.out.1)))
      clear hval hL ho
      go_wp2_with (go_at_call 62; refine (ref01trim_any (HM.out.keep HV.out.2.2.2) HV.out.2.2.1 (by omega)).mono ?_; rintro e w3 ⟨a', c', rfl, h', hk'⟩)
      go_ret
      rw [trim_eq HV.out.2.1, top_eq HV.out.2.1, HV.out.1] at h'
      rw [top_eq HV.out.2.1, HV.out.1]
      exact ⟨_, _, rfl, h', HV.out.2.2.2.trans hk'⟩
end Go.Proofs.Ytfkclbhddiidbaa
