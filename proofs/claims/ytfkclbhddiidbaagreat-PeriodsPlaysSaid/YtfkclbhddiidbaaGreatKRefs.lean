/- What the references' Trim and Limbs do: the limbs without the noughts at the end, in new memory; how many there are. Conditions: none but the slices' own reading. -/
/- What the references' Norm and Of do: numbers as they should stand, in new memory. Conditions: the number's own reading. -/
/- What the references' at, Cmp, Add, Sub on limbs do. Conditions: the slices' own reading; room. -/
/- What the references' Neg, Add, Sub on numbers do. Conditions: the numbers' own reading; room. -/
/- What riddleref01's Times does: a number times a limb, and one more. Conditions: the slice's own reading; room. -/
/- What riddleref01's Mul does. Conditions: the slices' own reading; room for both together. -/
/- Division bit by bit, from the highest one: the plain law. No condition. -/
/- What riddleref01's DivMod does: quotient and rest, bit by bit. Conditions: the slices' own reading; a divisor that is not 0; room. -/
/- What the references' Abs and Mul on numbers do. Conditions: the numbers' own reading; room. -/
/- What the references' Sign and Cmp on numbers do. Conditions: the numbers' own reading; room. -/
/- What the references' DivMod and Mod on numbers do: rounded down. Conditions: the numbers' own reading; a divisor that is not 0; room. -/
/- What riddleref02's Int64 does. Conditions: the number's own reading. -/
import Derived.Test.YtfkclbhddiidbaaGreatRows
import Derived.Test.YtfkclbhddiidbaaGreatKWords
import Derived.Test.YtfkclbhddiidbaaGreatKNats
import Derived.Laws.CopyOwn
import Derived.Test.YtfkclbhddiidbaaGreatKZints
import Derived.Deep.DeepCutAuto
import Derived.Deep.CutBlock
import Derived.Test.YtfkclbhddiidbaaGreatKRegions
import Derived.Test.YtfkclbhddiidbaaGreatKZDiv
import Derived.Test.YtfkclbhddiidbaaGreatKZInt64
namespace Go.Proofs.YtfkclbhddiidbaaGreat
open Go.RowKit Go.Rid


set_option maxHeartbeats 400000 in
theorem ref01trim_any {M M' : Nat → Prop} {a : Option Addr} {n c : Nat} {l : List Nat} {w : World} (hM : MB M w) (h : Limbs M' w a n c l) (hr : n * 4 ≤ 140737488355328) :
    Calls Tryz.prog 95 #[.slice a n c] w fun e w' => ∃ a' c', e = .returned (.slice a' (top l) c') ∧ Limbs M w' a' (top l) c' (trim l) ∧ Keeps Nil w w' := by
  have hle := h.sl.le
  have hcap := h.sl.cap
  have HH := Lib.hid h
  have HM := Lib.hid hM
  obtain ⟨i0, hi, hz0, hz1, hz2⟩ := info_parts info_u32
  clear h hM
  go_enter Tryz.func95, Tryz.ntmps95
  go_wp2
  go_loop [3] (fun i => ∃ k : Nat, k ≤ n ∧ topK l n = topK l k ∧ i = .int .i64 k) (fun i => (intOf i).toNat)
  case atStart => exact ⟨n, Nat.le_refl _, rfl, rfl⟩
  case round =>
    obtain ⟨k, hk, ht, rfl⟩ := hrel
    have HT := Lib.hid ht
    clear ht
    by_cases h0 : k ≠ 0 ∧ ((lim l (k - 1) : Int) == 0) = true
    · obtain ⟨h0, h1⟩ := h0
      obtain ⟨j, rfl⟩ : ∃ j, k = j + 1 := ⟨k - 1, by omega⟩
      simp only [Nat.add_sub_cancel] at h1
      obtain ⟨b, off, rfl, hb, hnM, hc⟩ := HH.out.sl.at (by omega)
      have hcell : w.cell? ⟨b, off + j, none⟩ = some (.int .u32 (lim l j : Int)) := by simpa using hc j 0 (by omega) (by omega)
      clear hc
      go_wp2
      go_round
      case rel => exact ⟨j, by omega, by rw [HT.out, topK_zero (by simpa using h1)], rfl⟩
      case measure => simp [intOf]
    · have e : top l = k := by
        unfold top; rw [HH.out.len, HT.out]
        cases k with
        | zero => rfl
        | succ j => exact topK_pos (by intro hj; exact h0 ⟨by omega, by simp [hj]⟩)
      have hguard : k = 0 ∨ (∃ b off j, k = j + 1 ∧ a = some ⟨b, off, none⟩ ∧ w.cell? ⟨b, off + j, none⟩ = some (.int .u32 (lim l j : Int)) ∧ ((lim l j : Int) == 0) = false) := by
        cases k with
        | zero => exact .inl rfl
        | succ j =>
          obtain ⟨b, off, rfl, hb, hnM, hc⟩ := HH.out.sl.at (by omega)
          exact .inr ⟨b, off, j, rfl, rfl, by simpa using hc j 0 (by omega) (by omega), by simp; intro hj; exact h0 ⟨by omega, by simp [hj]⟩⟩
      have HE := Lib.hid e
      clear e h0
      have htl := top_le l
      have hln := HH.out.len
      have hcs : (u32s (trim l)).length = min n (top l) := by rw [length_u32s, length_trim]; omega
      have hfit : 0 + (u32s (trim l)).length ≤ (zeros (top l) (.int .u32 0)).length := by rw [length_zeros, length_u32s, length_trim]; omega
      have HS := Lib.hid hcs
      have HF := Lib.hid hfit
      clear hcs hfit htl hln
      rcases hguard with rfl | ⟨b, off, j, rfl, rfl, hcell, hz⟩
      all_goals
        go_wp2_with (at_make; refine wpList_make_row _ rfl _ _ 36 rfl 66 i0 (.int .u32 0) Tryz.underlying36 hi hz0 hz1 rfl .i64 .i64 _ _ (top l) rfl rfl ?_ ?_ ?_ ?_ ?_)
        case refine_1 => rw [HE.out]; rfl
        case refine_2 => rw [HE.out]; rfl
        case refine_3 => have := top_le l; have := HH.out.len; omega
        case refine_4 => have := top_le l; have := HH.out.len; omega
        case refine_5 =>
          intro w1 hrow hk1 hsz1
          have HK := Lib.hid (And.intro hk1 hsz1)
          clear hk1 hsz1
          go_wp2_with (with_reducible refine wpList_copy_row rfl (.tmp 21) (.tmp 22) 36 36 rfl 66 Tryz.underlying36 size_u32 _ _ _ _ _ _ rfl rfl w.heap.size 0 _ 66 hrow (u32s (trim l)) HS.out (fun _ => rfl) ((HH.out.src (k := top l) (by have := top_le l; have := HH.out.len; omega)).keepNil HK.out.1) HF.out (one_u32s _) ?_; intro w2 hrow2 hk2)
          go_ret
          rw [splice_all _ _ (by rw [length_zeros, length_u32s, length_trim])] at hrow2
          have hx := Limbs.ofRow hrow2 (fun x hx => HH.out.lt x (mem_trim hx)) (M := M) (fun h => by have := HM.out _ h; omega) (by rw [length_trim]; have := top_le l; have := HH.out.len; omega)
          rw [length_trim] at hx
          exact ⟨_, _, rfl, hx, HK.out.1.trans' hk2 (fun k hk => .inr (by cases hk; exact Nat.le_refl _))⟩
end Go.Proofs.YtfkclbhddiidbaaGreat

namespace Go.Proofs.YtfkclbhddiidbaaGreat
open Go.RowKit Go.Rid
set_option maxHeartbeats 1000000 in
theorem refnorm_any {M : Nat → Prop} {g : Bool} {a : Option Addr} {n c : Nat} {z : Int} {w : World} (hM : MB M w) (h : ZAt Nil w g a n c z) :
    Calls Tryz.prog 60 #[.agg #[.bool g, .slice a n c]] w fun e w' => ZRet M w z e w' := by
  obtain ⟨l, hl, hn, rfl⟩ := h
  obtain ⟨r0, r1, hk0⟩ := rows2 w 38 (.bool g) (.slice a n c) (.bool false) (.slice none 0 0)
  have HL := Lib.hid (And.intro (hl.keepNil hk0) (And.intro hn hl.lt))
  have HM := Lib.hid hM
  have hM1 : MB (With M (w.heap.size + 1)) ((w.alloc (.cells #[.bool g, .slice a n c] 38)).alloc (.cells #[.bool false, .slice none 0 0] 38)) := hM.withNew2 _ _
  have HM1 := Lib.hid hM1
  clear hl hn hM hM1
  go_enter Tryz.func60, Tryz.ntmps60
  go_upto_region 1 with (fail)
  generalize (w.alloc (.cells #[.bool g, .slice a n c] 38)).alloc (.cells #[.bool false, .slice none 0 0] 38) = w0 at *
  obtain ⟨c00, c01, _, _⟩ := r0.two
  have HR := Lib.hid (And.intro r0 (And.intro r1 hk0))
  clear r0 r1 hk0
  go_upto_region 2 with (go_at_call 95; refine (ref01trim_any HM1.out HL.out.1 HL.out.2.1).mono ?_; rintro e w1 ⟨a', c', rfl, h1, hk1⟩)
  have q0 := HR.out.1.keep hk1 id
  have q1 := HR.out.2.1.keep hk1 id
  obtain ⟨d00, d01, _, _⟩ := q0.two
  obtain ⟨d10, d11, f0, f1⟩ := q1.two
  have hz := made_zn (g := g) h1 HL.out.2.2
  have HT := Lib.hid (And.intro hz (HR.out.2.2.trans hk1))
  clear h1 hk1 q0 q1 hz c00 c01
  cases g
  · go_wp2_with fail
    have hz := HT.out.1
    rw [Bool.false_and] at hz
    exact bodyPost_ret (v := .agg #[.bool false, .slice a' (top l) c']) (by simp [results, Tryz.results60, go_sem, *]) rfl ⟨_, _, _, _, rfl, hz.less (Keeps.pair _ _), HT.out.2.own (by omega) (Keeps.pair _ _)⟩
  · by_cases ht : 0 < top l
    · have htI : (0 : Int) < (top l : Int) := by omega
      have htd : decide ((0 : Int) < (top l : Int)) = true := decide_eq_true htI
      go_wp2_with fail
      have hz := HT.out.1
      rw [Bool.true_and, decide_eq_true ht] at hz
      exact bodyPost_ret (v := .agg #[.bool true, .slice a' (top l) c']) (by simp [results, Tryz.results60, go_sem, *]) rfl ⟨_, _, _, _, rfl, hz.less (Keeps.pair _ _), HT.out.2.own (by omega) (Keeps.pair _ _)⟩
    · have htI : ¬ (0 : Int) < (top l : Int) := by omega
      have htd : decide ((0 : Int) < (top l : Int)) = false := decide_eq_false htI
      go_wp2_with fail
      have hz := HT.out.1
      rw [Bool.true_and, decide_eq_false ht] at hz
      exact bodyPost_ret (v := .agg #[.bool false, .slice a' (top l) c']) (by simp [results, Tryz.results60, go_sem, *]) rfl ⟨_, _, _, _, rfl, hz.less (Keeps.pair _ _), HT.out.2.own (by omega) (Keeps.pair _ _)⟩
theorem mask32 (m : Nat) (h : m < 18446744073709551616) : bits BinOp.and IntKind.u64 (m : Int) 4294967295 = ((m % 4294967296 : Nat) : Int) := by
  have h1 := bits_and_u64_nat m 4294967295 (by omega) (by omega)
  rw [show (4294967295 : Nat) = 2 ^ 32 - 1 from rfl, Nat.and_two_pow_sub_one_eq_mod] at h1
  exact h1
theorem two_cells (w : World) (m : Nat) (g : Bool) (hm : m < 18446744073709551616) :
    ZAt Nil (w.alloc (.cells #[.int .u32 ((m : Int) % 4294967296), .int .u32 ((m : Int) / 4294967296)] 66)) g (some ⟨w.heap.size, 0, none⟩) 2 2 (if g = true then -(m : Int) else (m : Int)) := by
  have e1 : ((m : Int) % 4294967296) = ((m % Bs : Nat) : Int) := by rw [Bs_def]; omega
  have e2 : ((m : Int) / 4294967296) = ((m / Bs : Nat) : Int) := by rw [Bs_def]; omega
  rw [e1, e2]
  refine ⟨[m % Bs, m / Bs], Limbs.ofRow (E := 66) (l := [m % Bs, m / Bs]) RowIs.alloc (by
    intro x hx
    simp only [List.mem_cons, List.not_mem_nil, or_false] at hx
    rcases hx with rfl | rfl
    · exact Nat.mod_lt _ Bs_pos
    · rw [Bs_def]; omega) id (by simp), by decide, ?_⟩
  have hv : nval [m % Bs, m / Bs] = m := by simp only [nval, Nat.mul_zero, Nat.add_zero]; exact Nat.mod_add_div m Bs
  simp only [ival, hv]
set_option maxHeartbeats 1000000 in
theorem refof_any {M : Nat → Prop} {z : Int} {w : World} (hM : MB M w) (h0 : -9223372036854775808 ≤ z) (h1 : z ≤ 9223372036854775807) :
    Calls Tryz.prog 20 #[.int .i64 z] w fun e w' => ZRet M w z e w' := by
  have HM := Lib.hid hM
  clear hM
  have HX : ∀ (m : Nat) (g : Bool), m < 18446744073709551616 → Hid (Calls Tryz.prog 60 #[.agg #[.bool g, .slice (some ⟨w.heap.size + 1, 0, none⟩) 2 2]] ((w.alloc (.cells #[.bool false, .slice none 0 0] 38)).alloc (.cells #[.int .u32 ((m : Int) % 4294967296), .int .u32 ((m : Int) / 4294967296)] 66)) fun e w' => ZRet (With M w.heap.size) ((w.alloc (.cells #[.bool false, .slice none 0 0] 38)).alloc (.cells #[.int .u32 ((m : Int) % 4294967296), .int .u32 ((m : Int) / 4294967296)] 66)) (if g = true then -(m : Int) else (m : Int)) e w') := fun m g hm => Lib.hid (by
    have h := two_cells (w.alloc (.cells #[.bool false, .slice none 0 0] 38)) m g hm
    rw [show (w.alloc (.cells #[.bool false, .slice none 0 0] 38)).heap.size = w.heap.size + 1 by simp] at h
    exact refnorm_any ((HM.out.withNew _).keep (M' := Nil) (by repeat (first | exact Keeps.refl _ _ | refine Keeps.drew ?_ | refine Keeps.drewN ?_ _ | refine Keeps.alloc ?_ _))) h)
  by_cases hz : z < 0
  · obtain ⟨m, rfl⟩ : ∃ m : Nat, z = -(m : Int) := ⟨z.natAbs, by omega⟩
    have hm : m < 18446744073709551616 := by omega
    have hm2 : 0 < m := by omega
    have e1 := mask32 m hm
    have e2 : -(-(m : Int) + 1) + 1 = (m : Int) := by omega
    have HY := HX m true hm
    clear hm HX
    go_enter Tryz.func20, Tryz.ntmps20
    go_wp2_with (go_at_call 60; refine (HY.out).mono ?_; rintro e w' ⟨g', a', n', c', rfl, h', hk'⟩; have r := ((RowIs.alloc (w := w) (E := 38) (xs := [.bool false, .slice none 0 0])).keep (M := Nil) (by repeat (first | exact Keeps.refl _ _ | refine Keeps.drew ?_ | refine Keeps.drewN ?_ _ | refine Keeps.alloc ?_ _)) id).keep hk' id; obtain ⟨c0, c1, f0, f1⟩ := r.two; have HT := Lib.hid (And.intro h' hk'); clear h' hk' r)
    have hz' := HT.out.1
    simp only [reduceIte] at hz'
    exact bodyPost_ret (v := .agg #[.bool g', .slice a' n' c']) (by simp [results, Tryz.results20, go_sem, c0, c1]) rfl ⟨_, _, _, _, rfl, hz'.less (Keeps.pair _ _), ((((Keeps.refl Nil w).alloc _).alloc _).trans HT.out.2).own (Nat.le_refl _) (Keeps.pair _ _)⟩
  · obtain ⟨m, rfl⟩ : ∃ m : Nat, z = (m : Int) := ⟨z.natAbs, by omega⟩
    have hm : m < 18446744073709551616 := by omega
    have e1 := mask32 m hm
    have HY := HX m false hm
    clear hm HX
    go_enter Tryz.func20, Tryz.ntmps20
    go_wp2_with (go_at_call 60; refine (HY.out).mono ?_; rintro e w' ⟨g', a', n', c', rfl, h', hk'⟩; have r := ((RowIs.alloc (w := w) (E := 38) (xs := [.bool false, .slice none 0 0])).keep (M := Nil) (by repeat (first | exact Keeps.refl _ _ | refine Keeps.drew ?_ | refine Keeps.drewN ?_ _ | refine Keeps.alloc ?_ _)) id).keep hk' id; obtain ⟨c0, c1, f0, f1⟩ := r.two; have HT := Lib.hid (And.intro h' hk'); clear h' hk' r)
    have hz' := HT.out.1
    simp only [reduceIte, Bool.false_eq_true] at hz'
    exact bodyPost_ret (v := .agg #[.bool g', .slice a' n' c']) (by simp [results, Tryz.results20, go_sem, c0, c1]) rfl ⟨_, _, _, _, rfl, hz'.less (Keeps.pair _ _), ((((Keeps.refl Nil w).alloc _).alloc _).trans HT.out.2).own (Nat.le_refl _) (Keeps.pair _ _)⟩
end Go.Proofs.YtfkclbhddiidbaaGreat

namespace Go.Rid
open Go.RowKit
/-- Limbs as elements of one cell. -/
def els32 (l : List Nat) : List (List Value) := l.map fun x => [u32 x]
theorem els32_snoc (l : List Nat) (x : Nat) : els32 (l ++ [x]) = els32 l ++ [[u32 x]] := by simp [els32]
theorem els32_flat (l : List Nat) : (els32 l).flatten = l.map u32 := by
  induction l with
  | nil => rfl
  | cons x l ih => simp only [els32, List.map_cons, List.flatten_cons] at *; rw [ih]; rfl
theorem length_els32 (l : List Nat) : (els32 l).length = l.length := by simp [els32]
theorem OwnEls.limbs {M : Nat → Prop} {w : World} {base : Nat} {E : TypeId} {v : Value} {l : List Nat} (h : OwnEls w base E 1 v (els32 l)) (hl : Small l) (hM : ∀ b, M b → b < base) : ∃ a c, v = .slice a l.length c ∧ Limbs M w a l.length c l := by
  have hr := h.row
  rw [els32_flat, length_els32] at hr
  exact Limbs.owned hr hl hM
theorem lim_or (l : List Nat) (i : Nat) : i < l.length ∨ lim l i = 0 := by
  rcases Nat.lt_or_ge i l.length with h | h
  · exact .inl h
  · exact .inr (lim_ge h)
end Go.Rid
namespace Go.Proofs.YtfkclbhddiidbaaGreat
open Go.RowKit Go.Rid
theorem refat_any {a : Option Addr} {n c i : Nat} {l : List Nat} {M : Nat → Prop} {w : World} (h : Limbs M w a n c l) (hi : i ≤ 9223372036854775807) :
    Calls Tryz.prog 100 #[.slice a n c, .int .i64 (i : Int)] w fun e w' => e = .returned (.int .u64 (lim l i : Int)) ∧ w = w' := by
  have hcap := h.sl.cap
  have hle := h.sl.le
  have hs := h.lim_lt i
  by_cases hlt : i < n
  · obtain ⟨b, off, hae, _, _, p0⟩ := h.cell hlt
    subst hae
    have i1 : (i : Int) < (n : Int) := by omega
    have i2 : (0 : Int) ≤ (i : Int) := by omega
    clear h
    go_enter Tryz.func100, Tryz.ntmps100
    go_wp2_with fail
    go_ret
    exact ⟨rfl, rfl⟩
  · have e : lim l i = 0 := lim_ge (by rw [h.len]; omega)
    have i1 : ¬ (i : Int) < (n : Int) := by omega
    rw [e]
    clear h e hs
    go_enter Tryz.func100, Tryz.ntmps100
    go_wp2_with fail
    go_ret
    exact ⟨rfl, rfl⟩
set_option maxHeartbeats 1000000 in
theorem refncmp_any {a a2 : Option Addr} {n c n2 c2 : Nat} {l l2 : List Nat} {w : World} (h : Limbs Nil w a n c l) (h2 : Limbs Nil w a2 n2 c2 l2) :
    Calls Tryz.prog 67 #[.slice a n c, .slice a2 n2 c2] w fun e w' => e = .returned (.int .i64 (cmpN (nval l) (nval l2))) ∧ Keeps Nil w w' := by
  have hcap := h.sl.cap
  have hle := h.sl.le
  have hcap2 := h2.sl.cap
  have hle2 := h2.sl.le
  have HL := Lib.hid (And.intro h h2)
  clear h h2
  go_enter Tryz.func67, Tryz.ntmps67
  go_wp2_with fail
  go_loopw [5, 6] (fun o i wr => ∃ k : Nat, k ≤ max n n2 ∧ i = .int .i64 k ∧ o = .int .i64 (cmpN (nval (l.take k)) (nval (l2.take k))) ∧ Keeps Nil w wr) (fun _ i _ => max n n2 - (intOf i).toNat)
  case atStart => exact ⟨0, Nat.zero_le _, rfl, rfl, Keeps.refl _ _⟩
  case round =>
    obtain ⟨k, hk, rfl, rfl, hkk⟩ := hrel
    have HK := Lib.hid hkk
    have HC := Lib.hid (cmpN_step l l2 HL.out.1.lt HL.out.2.lt k)
    have HA := Lib.hid (And.intro (refat_any (i := k) (HL.out.1.keepNil hkk) (by omega)) (refat_any (i := k) (HL.out.2.keepNil hkk) (by omega)))
    clear hkk
    generalize hg : cmpN (nval (l.take k)) (nval (l2.take k)) = o at *
    by_cases hlt : k < max n n2
    · have hgu : ((k : Int) < (n : Int) ∧ decide ((k : Int) < (n : Int)) = true) ∨ (¬ (k : Int) < (n : Int) ∧ decide ((k : Int) < (n : Int)) = false ∧ (k : Int) < (n2 : Int) ∧ decide ((k : Int) < (n2 : Int)) = true) := by
        by_cases h1 : k < n
        · exact .inl ⟨by omega, decide_eq_true (by omega)⟩
        · exact .inr ⟨by omega, decide_eq_false (by omega), by omega, decide_eq_true (by omega)⟩
      have ha := HL.out.1.lim_lt k
      have hb := HL.out.2.lim_lt k
      generalize lim l k = x at *
      generalize lim l2 k = y at *
      rcases hgu with ⟨g1, g2⟩ | ⟨g1, g2, g3, g4⟩
      all_goals
        rcases Nat.lt_trichotomy x y with hxy | hxy | hxy
        · have i1 : (x : Int) < (y : Int) := by omega
          have i2 : ¬ (y : Int) < (x : Int) := by omega
          have HO := Lib.hid (show (if x < y then (-1 : Int) else if y < x then 1 else o) = -1 by rw [if_pos hxy])
          go_wp2_with (first | (go_at_call_of 100 (Value.slice a n c); refine HA.out.1.mono ?_; rintro e w' ⟨rfl, rfl⟩) | (go_at_call_of 100 (Value.slice a2 n2 c2); refine HA.out.2.mono ?_; rintro e w' ⟨rfl, rfl⟩))
          go_roundw
          case rel => exact ⟨k + 1, by omega, by go_num, by rw [HC.out, HO.out], HK.out⟩
          case measure => simp [intOf]; omega
        · subst hxy
          have i1 : ¬ (x : Int) < (x : Int) := by omega
          have HO := Lib.hid (show (if x < x then (-1 : Int) else if x < x then 1 else o) = o by simp)
          go_wp2_with (first | (go_at_call_of 100 (Value.slice a n c); refine HA.out.1.mono ?_; rintro e w' ⟨rfl, rfl⟩) | (go_at_call_of 100 (Value.slice a2 n2 c2); refine HA.out.2.mono ?_; rintro e w' ⟨rfl, rfl⟩))
          go_roundw
          case rel => exact ⟨k + 1, by omega, by go_num, by rw [HC.out, HO.out], HK.out⟩
          case measure => simp [intOf]; omega
        · have i1 : ¬ (x : Int) < (y : Int) := by omega
          have i2 : (y : Int) < (x : Int) := by omega
          have HO := Lib.hid (show (if x < y then (-1 : Int) else if y < x then 1 else o) = 1 by rw [if_neg (by omega), if_pos hxy])
          go_wp2_with (first | (go_at_call_of 100 (Value.slice a n c); refine HA.out.1.mono ?_; rintro e w' ⟨rfl, rfl⟩) | (go_at_call_of 100 (Value.slice a2 n2 c2); refine HA.out.2.mono ?_; rintro e w' ⟨rfl, rfl⟩))
          go_roundw
          case rel => exact ⟨k + 1, by omega, by go_num, by rw [HC.out, HO.out], HK.out⟩
          case measure => simp [intOf]; omega
    · have g1 : ¬ (k : Int) < (n : Int) := by omega
      have g2 : decide ((k : Int) < (n : Int)) = false := decide_eq_false g1
      have g3 : ¬ (k : Int) < (n2 : Int) := by omega
      have g4 : decide ((k : Int) < (n2 : Int)) = false := decide_eq_false g3
      rw [List.take_of_length_le (by rw [HL.out.1.len]; omega), List.take_of_length_le (by rw [HL.out.2.len]; omega)] at hg
      have HGG := Lib.hid hg
      clear hg
      go_wp2_with fail
      go_ret
      rw [HGG.out]
      exact ⟨rfl, HK.out⟩
set_option maxHeartbeats 2000000 in
set_option maxRecDepth 100000 in
theorem refnadd_any {M : Nat → Prop} {a a2 : Option Addr} {n c n2 c2 : Nat} {l l2 : List Nat} {w : World} (hM : MB M w) (h : Limbs Nil w a n c l) (h2 : Limbs Nil w a2 n2 c2 l2) (hr : n * 4 + 4 ≤ 140737488355328) (hr2 : n2 * 4 + 4 ≤ 140737488355328) :
    Calls Tryz.prog 66 #[.slice a n c, .slice a2 n2 c2] w fun e w' => ∃ a' c', e = .returned (.slice a' (nlen (nval l + nval l2)) c') ∧ Limbs M w' a' (nlen (nval l + nval l2)) c' (limbsOf (nval l + nval l2)) ∧ Keeps Nil w w' := by
  obtain ⟨i0, hi0⟩ := info_parts info_u32
  have HI := Lib.hid hi0
  have HL := Lib.hid (And.intro h h2)
  have HM := Lib.hid hM
  clear h h2 hM hi0
  go_enter Tryz.func66, Tryz.ntmps66
  go_wp2_with fail
  go_loopw [5, 6, 7] (fun v o i wr => ∃ k : Nat, k ≤ max n n2 ∧ i = .int .i64 k ∧ o = .int .u64 ((addK l l2 k).2 : Int) ∧ OwnEls wr w.heap.size 66 1 v (els32 (addK l l2 k).1) ∧ Keeps Nil w wr) (fun _ _ i _ => max n n2 - (intOf i).toNat)
  case atStart => exact ⟨0, Nat.zero_le _, rfl, rfl, OwnEls.nil _ _ _ _, Keeps.refl _ _⟩
  case round =>
    obtain ⟨k, hk, rfl, rfl, ho, hkk⟩ := hrel
    obtain ⟨q1, q2, q3, q4⟩ := addK_spec HL.out.1.lt HL.out.2.lt k
    have HK := Lib.hid (And.intro hkk (And.intro ho (And.intro q1 (And.intro q2 q4))))
    have hel : (els32 (addK l l2 k).1).length = k := by rw [length_els32, q1]
    have HEL := Lib.hid hel
    have HA := Lib.hid (And.intro (refat_any (i := k) (HL.out.1.keepNil hkk) (by omega)) (refat_any (i := k) (HL.out.2.keepNil hkk) (by omega)))
    have hsz := hkk.size
    clear hkk ho q1 q2 q4 hel
    by_cases hlt : k < max n n2
    · have hgu : ((k : Int) < (n : Int) ∧ decide ((k : Int) < (n : Int)) = true) ∨ (¬ (k : Int) < (n : Int) ∧ decide ((k : Int) < (n : Int)) = false ∧ (k : Int) < (n2 : Int) ∧ decide ((k : Int) < (n2 : Int)) = true) := by
        by_cases h1 : k < n
        · exact .inl ⟨by omega, decide_eq_true (by omega)⟩
        · exact .inr ⟨by omega, decide_eq_false (by omega), by omega, decide_eq_true (by omega)⟩
      have ha := HL.out.1.lim_lt k
      have hb := HL.out.2.lim_lt k
      have e1 : (addK l l2 (k + 1)).2 = ((addK l l2 k).2 + lim l k + lim l2 k) / Bs := rfl
      have e2 : (addK l l2 (k + 1)).1 = (addK l l2 k).1 ++ [((addK l l2 k).2 + lim l k + lim l2 k) % Bs] := rfl
      have HE := Lib.hid (And.intro e1 e2)
      clear e1 e2
      generalize lim l k = x at *
      generalize lim l2 k = y at *
      generalize (addK l l2 k).2 = o at *
      rcases hgu with ⟨g1, g2⟩ | ⟨g1, g2, g3, g4⟩
      all_goals
        go_wp2_with (first | (go_at_call_of 100 (Value.slice a n c); refine HA.out.1.mono ?_; rintro e w' ⟨rfl, rfl⟩) | (go_at_call_of 100 (Value.slice a2 n2 c2); refine HA.out.2.mono ?_; rintro e w' ⟨rfl, rfl⟩) | (at_builtin; refine wpList_append_els _ rfl (.tmp 30) (.tmp 34) 36 rfl w.heap.size 66 i0 (.int .u32 0) 1 4 Tryz.underlying36 HI.out.1 HI.out.2.1 HI.out.2.2.1 HI.out.2.2.2 rfl (by decide) u5 (els32 (addK l l2 k).1) rfl (HK.out.2.1.keepNil (by repeat (first | exact Keeps.refl _ _ | refine Keeps.drew ?_ | refine Keeps.drewN ?_ _ | refine Keeps.alloc ?_ _))) ⟨wr.heap.size, 0, none⟩ 1 1 [[.int .u32 (((x : Int) + (y : Int) + (o : Int)) % 4294967296)]] rfl rfl (by simp) (alloc_news _ _ _) (by simp [Value.oneCell']) (by rw [HEL.out]; omega) (by rw [HEL.out]; omega) (by simp; omega) ?_; intro v' w2 ho hk2 hf2 _; have HO := Lib.hid (And.intro ho hk2); clear ho hk2 hf2))
        go_roundw
        case rel =>
          have ev : Value.int .u32 (((x : Int) + (y : Int) + (o : Int)) % 4294967296) = Go.Rid.u32 ((o + x + y) % Bs) := by unfold Go.Rid.u32; congr 1; rw [Bs_def]; omega
          have ho := HO.out.1
          rw [ev, ← els32_snoc] at ho
          exact ⟨k + 1, by omega, by go_num, by rw [HE.out.1, Bs_def]; congr 1; omega, by rw [HE.out.2]; exact ho, (HK.out.1.trans (by repeat (first | exact Keeps.refl _ _ | refine Keeps.drew ?_ | refine Keeps.drewN ?_ _ | refine Keeps.alloc ?_ _))).trans' HO.out.2 (fun b hb => .inr (HK.out.2.1.lt b hb).1)⟩
        case measure => simp [intOf]; omega
    · obtain rfl : k = max n n2 := by omega
      have g1 : ¬ ((max n n2 : Nat) : Int) < (n : Int) := by omega
      have g2 : decide (((max n n2 : Nat) : Int) < (n : Int)) = false := decide_eq_false g1
      have g3 : ¬ ((max n n2 : Nat) : Int) < (n2 : Int) := by omega
      have g4 : decide (((max n n2 : Nat) : Int) < (n2 : Int)) = false := decide_eq_false g3
      have hval : nval ((addK l l2 (max n n2)).1 ++ [(addK l l2 (max n n2)).2]) = nval l + nval l2 := by
        rw [nval_snoc, HK.out.2.2.1]
        have := HK.out.2.2.2.2
        rw [List.take_of_length_le (by rw [HL.out.1.len]; omega), List.take_of_length_le (by rw [HL.out.2.len]; omega)] at this
        exact this
      have hsm : Small ((addK l l2 (max n n2)).1 ++ [(addK l l2 (max n n2)).2]) := small_snoc HK.out.2.2.2.1 (by omega)
      have hln : ((addK l l2 (max n n2)).1 ++ [(addK l l2 (max n n2)).2]).length = max n n2 + 1 := by simp [HK.out.2.2.1]
      have HV := Lib.hid (And.intro hval (And.intro hsm hln))
      clear hval hsm hln
      generalize hmx : max n n2 = m at *
      have hm1 : m * 4 + 4 ≤ 140737488355328 := by omega
      obtain ⟨o, hoo⟩ : ∃ o, o = (addK l l2 m).2 := ⟨_, rfl⟩
      rw [← hoo]
      rw [← hoo] at q3
      have HOO := Lib.hid hoo
      clear hoo hmx
      go_wp2_with (first | (at_builtin; refine wpList_append_els _ rfl (.tmp 38) (.tmp 41) 36 rfl w.heap.size 66 i0 (.int .u32 0) 1 4 Tryz.underlying36 HI.out.1 HI.out.2.1 HI.out.2.2.1 HI.out.2.2.2 rfl (by decide) u5 (els32 (addK l l2 m).1) rfl (HK.out.2.1.keepNil (by repeat (first | exact Keeps.refl _ _ | refine Keeps.drew ?_ | refine Keeps.drewN ?_ _ | refine Keeps.alloc ?_ _))) ⟨wr.heap.size, 0, none⟩ 1 1 [[.int .u32 (o : Int)]] rfl rfl (by simp) (alloc_news _ _ _) (by simp [Value.oneCell']) (by rw [HEL.out]; omega) (by rw [HEL.out]; omega) (by simp; omega) ?_; intro v' w2 ho hk2 hf2 _; rw [show ([[Value.int .u32 (o : Int)]] : List (List Value)) = [[Go.Rid.u32 (addK l l2 m).2]] by rw [← HOO.out]; rfl, ← els32_snoc] at ho; obtain ⟨a5, c5, rfl, hL⟩ := OwnEls.limbs (M := Nil) ho HV.out.2.1 (fun _ h => h.elim); rw [HV.out.2.2] at hL ⊢; have HO := Lib.hid (And.intro hL ((HK.out.1.trans (show Keeps Nil wr (wr.alloc (.cells #[.int .u32 (o : Int)] 66)) from (by repeat (first | exact Keeps.refl _ _ | refine Keeps.drew ?_ | refine Keeps.drewN ?_ _ | refine Keeps.alloc ?_ _)))).trans' hk2 (fun b hb => .inr (HK.out.2.1.lt b hb).1))); clear ho hk2 hf2 hL) | (go_at_call 95; refine (ref01trim_any (HM.out.keep HO.out.2) HO.out.1 (by omega)).mono ?_; rintro e w3 ⟨a', c', rfl, h', hk'⟩))
      go_ret
      rw [trim_eq HV.out.2.1, top_eq HV.out.2.1, HV.out.1] at h'
      rw [top_eq HV.out.2.1, HV.out.1]
      exact ⟨_, _, rfl, h', HO.out.2.trans hk'⟩
/-- A difference, whatever noughts the lesser one has above. -/
theorem subK_all' {a b : List Nat} (ha : Small a) (hb : Small b) (hle : nval b ≤ nval a) : nval (subK a b a.length).1 = nval a - nval b := by
  obtain ⟨h1, h2, h3, h4⟩ := subK_spec ha hb a.length
  have h5 := nval_lt h2
  rw [h1] at h5
  rw [List.take_length] at h4
  have h6 := nval_lt ha
  have h7 : nval (b.take a.length) = nval b := by
    rcases Nat.lt_or_ge a.length b.length with h | h
    · have hs := nval_split b a.length (by omega)
      rcases Nat.eq_zero_or_pos (nval (b.drop a.length)) with h0 | h0
      · rw [h0] at hs; omega
      · have : Bs ^ a.length * 1 ≤ Bs ^ a.length * nval (b.drop a.length) := Nat.mul_le_mul_left _ h0
        omega
    · rw [List.take_of_length_le h]
  rw [h7] at h4
  rcases (show (subK a b a.length).2 = 0 ∨ (subK a b a.length).2 = 1 by omega) with h | h
  · rw [h] at h4; omega
  · rw [h] at h4; omega
set_option maxHeartbeats 2000000 in
set_option maxRecDepth 100000 in
theorem refnsub_any {M : Nat → Prop} {a a2 : Option Addr} {n c n2 c2 : Nat} {l l2 : List Nat} {w : World} (hM : MB M w) (h : Limbs Nil w a n c l) (h2 : Limbs Nil w a2 n2 c2 l2) (hr : n * 4 + 4 ≤ 140737488355328) (hle : nval l2 ≤ nval l) :
    Calls Tryz.prog 68 #[.slice a n c, .slice a2 n2 c2] w fun e w' => ∃ a' c', e = .returned (.slice a' (nlen (nval l - nval l2)) c') ∧ Limbs M w' a' (nlen (nval l - nval l2)) c' (limbsOf (nval l - nval l2)) ∧ Keeps Nil w w' := by
  obtain ⟨i0, hi0⟩ := info_parts info_u32
  have HI := Lib.hid hi0
  have HL := Lib.hid (And.intro h h2)
  have HM := Lib.hid hM
  have HLE := Lib.hid (And.intro hle h.len)
  clear h h2 hM hi0 hle
  go_enter Tryz.func68, Tryz.ntmps68
  go_wp2_with fail
  go_loopw [5, 6, 7] (fun v o i wr => ∃ k : Nat, k ≤ n ∧ i = .int .i64 k ∧ o = .int .u64 ((subK l l2 k).2 : Int) ∧ OwnEls wr w.heap.size 66 1 v (els32 (subK l l2 k).1) ∧ Keeps Nil w wr) (fun _ _ i _ => n - (intOf i).toNat)
  case atStart => exact ⟨0, Nat.zero_le _, rfl, rfl, OwnEls.nil _ _ _ _, Keeps.refl _ _⟩
  case round =>
    obtain ⟨k, hk, rfl, rfl, ho, hkk⟩ := hrel
    obtain ⟨q1, q2, q3, q4⟩ := subK_spec HL.out.1.lt HL.out.2.lt k
    have HK := Lib.hid (And.intro hkk (And.intro ho (And.intro q1 q2)))
    have hel : (els32 (subK l l2 k).1).length = k := by rw [length_els32, q1]
    have HEL := Lib.hid hel
    have HA := Lib.hid (And.intro (refat_any (i := k) (HL.out.1.keepNil hkk) (by omega)) (refat_any (i := k) (HL.out.2.keepNil hkk) (by omega)))
    have hsz := hkk.size
    clear hkk q1 q2 q4 hel
    by_cases hlt : k < n
    · have g1 : (k : Int) < (n : Int) := by omega
      have ha := HL.out.1.lim_lt k
      have hb := HL.out.2.lim_lt k
      have e1 : (subK l l2 (k + 1)).2 = 1 - (lim l k + Bs - lim l2 k - (subK l l2 k).2) / Bs := rfl
      have e2 : (subK l l2 (k + 1)).1 = (subK l l2 k).1 ++ [(lim l k + Bs - lim l2 k - (subK l l2 k).2) % Bs] := rfl
      have HE := Lib.hid (And.intro e1 e2)
      clear e1 e2 ho
      generalize lim l k = x at *
      generalize lim l2 k = y at *
      generalize (subK l l2 k).2 = o at *
      go_wp2_with (first | (go_at_call_of 100 (Value.slice a n c); refine HA.out.1.mono ?_; rintro e w' ⟨rfl, rfl⟩) | (go_at_call_of 100 (Value.slice a2 n2 c2); refine HA.out.2.mono ?_; rintro e w' ⟨rfl, rfl⟩) | (at_builtin; refine wpList_append_els _ rfl (.tmp 25) (.tmp 29) 36 rfl w.heap.size 66 i0 (.int .u32 0) 1 4 Tryz.underlying36 HI.out.1 HI.out.2.1 HI.out.2.2.1 HI.out.2.2.2 rfl (by decide) u5 (els32 (subK l l2 k).1) rfl (HK.out.2.1.keepNil (by repeat (first | exact Keeps.refl _ _ | refine Keeps.drew ?_ | refine Keeps.drewN ?_ _ | refine Keeps.alloc ?_ _))) ⟨wr.heap.size, 0, none⟩ 1 1 [[.int .u32 (((x : Int) + 4294967296 - (y : Int) - (o : Int)) % 4294967296)]] rfl rfl (by simp) (alloc_news _ _ _) (by simp [Value.oneCell']) (by rw [HEL.out]; omega) (by rw [HEL.out]; omega) (by simp; omega) ?_; intro v' w2 ho hk2 hf2 _; have HO := Lib.hid (And.intro ho hk2); clear ho hk2 hf2))
      go_roundw
      case rel =>
        have ev : Value.int .u32 (((x : Int) + 4294967296 - (y : Int) - (o : Int)) % 4294967296) = Go.Rid.u32 ((x + Bs - y - o) % Bs) := by unfold Go.Rid.u32; congr 1; rw [Bs_def]; omega
        have ho := HO.out.1
        rw [ev, ← els32_snoc] at ho
        exact ⟨k + 1, by omega, by go_num, by rw [HE.out.1, Bs_def]; congr 1; omega, by rw [HE.out.2]; exact ho, (HK.out.1.trans (by repeat (first | exact Keeps.refl _ _ | refine Keeps.drew ?_ | refine Keeps.drewN ?_ _ | refine Keeps.alloc ?_ _))).trans' HO.out.2 (fun b hb => .inr (HK.out.2.1.lt b hb).1)⟩
      case measure => simp [intOf]; omega
    · obtain rfl : k = n := by omega
      have g1 : ¬ (k : Int) < (k : Int) := by omega
      obtain ⟨a5, c5, hv, hL⟩ := OwnEls.limbs (M := Nil) ho HK.out.2.2.2 (fun _ h => h.elim)
      have hval : nval (subK l l2 k).1 = nval l - nval l2 := by
        have := subK_all' HL.out.1.lt HL.out.2.lt HLE.out.1
        rw [HLE.out.2] at this; exact this
      subst hv
      rw [HK.out.2.2.1] at hL ⊢
      have HV := Lib.hid (And.intro hval (And.intro HK.out.2.2.2 (And.intro hL HK.out.1)))
      clear hval hL ho
      go_wp2_with (go_at_call 95; refine (ref01trim_any (HM.out.keep HV.out.2.2.2) HV.out.2.2.1 (by omega)).mono ?_; rintro e w3 ⟨a', c', rfl, h', hk'⟩)
      go_ret
      rw [trim_eq HV.out.2.1, top_eq HV.out.2.1, HV.out.1] at h'
      rw [top_eq HV.out.2.1, HV.out.1]
      exact ⟨_, _, rfl, h', HV.out.2.2.2.trans hk'⟩
end Go.Proofs.YtfkclbhddiidbaaGreat

namespace Go.Proofs.YtfkclbhddiidbaaGreat
open Go.RowKit Go.Rid
set_option maxHeartbeats 1000000 in
theorem refneg_any {M : Nat → Prop} {g : Bool} {a : Option Addr} {n c : Nat} {z : Int} {w : World} (hM : MB M w) (h : ZAt Nil w g a n c z) :
    Calls Tryz.prog 80 #[.agg #[.bool g, .slice a n c]] w fun e w' => ZRet M w (-z) e w' := by
  have HH := Lib.hid h
  have HM := Lib.hid hM
  clear h hM
  go_enter Tryz.func80, Tryz.ntmps80
  go_wp2_with (go_at_call 60; refine (refnorm_any (M := With M (w.heap.size + 1)) (HM.out.withNew2 _ _) (HH.out.ofN.keepNil (by repeat (first | exact Keeps.refl _ _ | refine Keeps.drew ?_ | refine Keeps.drewN ?_ _ | refine Keeps.alloc ?_ _)))).mono ?_; rintro e w' ⟨g', a', n', c', rfl, h', hk'⟩; have r := (RowIs.alloc (w := w.alloc (.cells #[.bool g, .slice a n c] 38)) (E := 38) (xs := [.bool false, .slice none 0 0])).keep hk' id; rw [show (w.alloc (.cells #[.bool g, .slice a n c] 38)).heap.size = w.heap.size + 1 by simp] at r; obtain ⟨c0, c1, f0, f1⟩ := r.two; have HT := Lib.hid (And.intro h' hk'); clear h' hk' r)
  exact bodyPost_ret (v := .agg #[.bool g', .slice a' n' c']) (by simp [results, Tryz.results80, go_sem, c0, c1]) rfl ⟨_, _, _, _, rfl, HT.out.1.less (Keeps.pair _ _), ((((Keeps.refl Nil w).alloc _).alloc _).trans HT.out.2).own (by omega) (Keeps.pair _ _)⟩
set_option maxHeartbeats 1000000 in
theorem refadd_any {M : Nat → Prop} {g g2 : Bool} {a a2 : Option Addr} {n c n2 c2 : Nat} {z z2 : Int} {w : World} (hM : MB M w) (h : ZAt Nil w g a n c z) (h2 : ZAt Nil w g2 a2 n2 c2 z2) (hn : n * 4 + 4 ≤ 140737488355328) (hn2 : n2 * 4 + 4 ≤ 140737488355328) :
    Calls Tryz.prog 32 #[.agg #[.bool g, .slice a n c], .agg #[.bool g2, .slice a2 n2 c2]] w fun e w' => ZRet M w (z + z2) e w' := by
  obtain ⟨l, hl, _, hlz⟩ := h
  obtain ⟨l2, hl2, _, hlz2⟩ := h2
  have hfit : nlen (nval l + nval l2) * 4 ≤ 140737488355328 := by
    have e1 := nlen_add (nval l) (nval l2)
    have e2 := nlen_le hl.lt
    have e3 := nlen_le hl2.lt
    rw [hl.len] at e2
    rw [hl2.len] at e3
    omega
  have hfit1 : nlen (nval l - nval l2) * 4 ≤ 140737488355328 := by
    have e1 := nlen_mono (Nat.sub_le (nval l) (nval l2))
    have e2 := nlen_le hl.lt
    rw [hl.len] at e2
    omega
  have hfit2 : nlen (nval l2 - nval l) * 4 ≤ 140737488355328 := by
    have e1 := nlen_mono (Nat.sub_le (nval l2) (nval l))
    have e2 := nlen_le hl2.lt
    rw [hl2.len] at e2
    omega
  have HF := Lib.hid (And.intro hfit (And.intro hfit1 hfit2))
  have HA := Lib.hid hl
  have HB := Lib.hid hl2
  have HM := Lib.hid hM
  subst hlz hlz2
  clear hl hl2 hM hfit hfit1 hfit2
  have hrs := rows3 w 38 (.bool g) (.slice a n c) (.bool g2) (.slice a2 n2 c2) (.bool false) (.slice none 0 0)
  have HRS := Lib.hid hrs
  clear hrs
  by_cases hg : g = g2
  · subst hg
    go_enter Tryz.func32, Tryz.ntmps32
    go_wp2_with fail
    obtain ⟨r0, r1, r2, hk0⟩ := HRS.out
    clear HRS
    generalize (((w.alloc (.cells #[.bool g, .slice a n c] 38)).alloc (.cells #[.bool g, .slice a2 n2 c2] 38)).alloc (.cells #[.bool false, .slice none 0 0] 38)) = w0 at *
    obtain ⟨c00, c01, _, _⟩ := r0.two
    obtain ⟨c10, c11, _, _⟩ := r1.two
    obtain ⟨c20, c21, f20, f21⟩ := r2.two
    have b0 := r0.lt
    have b1 := r1.lt
    have b2 := r2.lt
    have H0 := Lib.hid (And.intro hk0 r2)
    clear hk0 r0 r1 r2
    have ne1 : ¬ w.heap.size = w.heap.size + 1 + 1 := by omega
    have ne2 : ¬ w.heap.size + 1 + 1 = w.heap.size := by omega
    go_region_held3 (fun w' => w'.cell? ⟨w.heap.size, 0, none⟩ = some (.bool g) ∧ w'.cell? ⟨w.heap.size, 1, none⟩ = some (.slice a n c) ∧ w'.cell? ⟨w.heap.size + 1, 1, none⟩ = some (.slice a2 n2 c2)) (go_keep) (first | (go_at_call 66; refine (refnadd_any (M := Nil) (MB.nil _) ((HA.out.keepNil H0.out.1).keepNil (by repeat (first | exact Keeps.refl _ _ | refine Keeps.drew ?_ | refine Keeps.drewN ?_ _ | refine Keeps.alloc ?_ _))) ((HB.out.keepNil H0.out.1).keepNil (by repeat (first | exact Keeps.refl _ _ | refine Keeps.drew ?_ | refine Keeps.drewN ?_ _ | refine Keeps.alloc ?_ _))) hn hn2).mono ?_; rintro e w1 ⟨a1, c1, rfl, h1, hk1⟩; have d00 := hk1.cellE b0 id c00; have d01 := hk1.cellE b0 id c01; have d11 := hk1.cellE b1 id c11; have H1 := Lib.hid h1; clear h1) | (go_at_call 60; refine (refnorm_any (M := With M (w.heap.size + 1 + 1)) ((((HM.out.keep H0.out.1).with b2).keep (M' := Nil) (by repeat (first | exact Keeps.refl _ _ | refine Keeps.drew ?_ | refine Keeps.drewN ?_ _ | refine Keeps.alloc ?_ _))).keep hk1) (zat_of g H1.out HF.out.1)).mono ?_; rintro e w2 ⟨g', a', n', c', rfl, h', hk2⟩; have e00 := hk2.cellE (Nat.lt_of_lt_of_le b0 hk1.size) id d00; have e01 := hk2.cellE (Nat.lt_of_lt_of_le b0 hk1.size) id d01; have e11 := hk2.cellE (Nat.lt_of_lt_of_le b1 hk1.size) id d11; have r2' := RowIs.keep (RowIs.keep (RowIs.keep H0.out.2 (M := Nil) (by repeat (first | exact Keeps.refl _ _ | refine Keeps.drew ?_ | refine Keeps.drewN ?_ _ | refine Keeps.alloc ?_ _)) id) hk1 id) hk2 id; obtain ⟨c0, c1', f0, f1⟩ := r2'.two; have HT := Lib.hid h'; clear h' r2'))
    go_wp2
    have hzz := HT.out
    rw [show (if g = true then -((nval l + nval l2 : Nat) : Int) else ((nval l + nval l2 : Nat) : Int)) = ival (g, l) + ival (g, l2) by cases g <;> simp [ival] <;> omega] at hzz
    exact bodyPost_ret (v := .agg #[.bool g', .slice a' n' c']) (by simp [results, Tryz.results32, go_sem, c0, c1']) rfl ⟨_, _, _, _, rfl, hzz.less (Keeps.pair _ _), (((H0.out.1.trans (by repeat (first | exact Keeps.refl _ _ | refine Keeps.drew ?_ | refine Keeps.drewN ?_ _ | refine Keeps.alloc ?_ _))).trans hk1).trans hk2).own (by omega) (Keeps.pair _ _)⟩
  · have hgg : (g == g2) = false := by simpa using hg
    have ne1 : ¬ w.heap.size = w.heap.size + 1 + 1 := by omega
    have ne2 : ¬ w.heap.size + 1 + 1 = w.heap.size := by omega
    by_cases hlt : nval l < nval l2
    · have HLE := Lib.hid (show nval l ≤ nval l2 by omega)
      have HC := Lib.hid (cmpN_lt hlt)
      clear hlt
      go_enter Tryz.func32, Tryz.ntmps32
      go_upto_region 3 with (fail)
      obtain ⟨r0, r1, r2, hk0⟩ := HRS.out
      clear HRS
      generalize (((w.alloc (.cells #[.bool g, .slice a n c] 38)).alloc (.cells #[.bool g2, .slice a2 n2 c2] 38)).alloc (.cells #[.bool false, .slice none 0 0] 38)) = w00 at *
      obtain ⟨c00, c01, _, _⟩ := r0.two
      obtain ⟨c10, c11, _, _⟩ := r1.two
      have H00 := Lib.hid (And.intro hk0 (And.intro r0 (And.intro r1 r2)))
      clear hk0 r0 r1 r2
      go_upto_region 6 with (go_at_call 67; refine (refncmp_any (HA.out.keepNil H00.out.1) (HB.out.keepNil H00.out.1)).mono ?_; rintro e w0 ⟨rfl, hk1⟩; rw [HC.out])
      have hk0 := H00.out.1.trans hk1
      have r0 := H00.out.2.1.keep hk1 id
      have r1 := H00.out.2.2.1.keep hk1 id
      have r2 := H00.out.2.2.2.keep hk1 id
      clear H00 hk1 c00 c01 c10 c11
      obtain ⟨c00, c01, _, _⟩ := r0.two
      obtain ⟨c10, c11, _, _⟩ := r1.two
      obtain ⟨c20, c21, f20, f21⟩ := r2.two
      have b0 := r0.lt
      have b1 := r1.lt
      have b2 := r2.lt
      have H0 := Lib.hid (And.intro hk0 r2)
      clear hk0 r0 r1 r2
      go_region_held3 (fun w' => w'.cell? ⟨w.heap.size, 0, none⟩ = some (.bool g) ∧ w'.cell? ⟨w.heap.size, 1, none⟩ = some (.slice a n c) ∧ w'.cell? ⟨w.heap.size + 1, 0, none⟩ = some (.bool g2) ∧ w'.cell? ⟨w.heap.size + 1, 1, none⟩ = some (.slice a2 n2 c2)) (go_keep) (first | (go_at_call 68; refine (refnsub_any (M := Nil) (MB.nil _) ((HB.out.keepNil H0.out.1).keepNil (by repeat (first | exact Keeps.refl _ _ | refine Keeps.drew ?_ | refine Keeps.drewN ?_ _ | refine Keeps.alloc ?_ _))) ((HA.out.keepNil H0.out.1).keepNil (by repeat (first | exact Keeps.refl _ _ | refine Keeps.drew ?_ | refine Keeps.drewN ?_ _ | refine Keeps.alloc ?_ _))) hn2 HLE.out).mono ?_; rintro e w1 ⟨a1, c1, rfl, h1, hk1⟩; have d00 := hk1.cellE b0 id c00; have d01 := hk1.cellE b0 id c01; have d10 := hk1.cellE b1 id c10; have d11 := hk1.cellE b1 id c11; have H1 := Lib.hid h1; clear h1) | (go_at_call 60; refine (refnorm_any (M := With M (w.heap.size + 1 + 1)) ((((HM.out.keep H0.out.1).with b2).keep (M' := Nil) (by repeat (first | exact Keeps.refl _ _ | refine Keeps.drew ?_ | refine Keeps.drewN ?_ _ | refine Keeps.alloc ?_ _))).keep hk1) (zat_of g2 H1.out HF.out.2.2)).mono ?_; rintro e w2 ⟨g', a', n', c', rfl, h', hk2⟩; have e00 := hk2.cellE (Nat.lt_of_lt_of_le b0 hk1.size) id d00; have e01 := hk2.cellE (Nat.lt_of_lt_of_le b0 hk1.size) id d01; have e10 := hk2.cellE (Nat.lt_of_lt_of_le b1 hk1.size) id d10; have e11 := hk2.cellE (Nat.lt_of_lt_of_le b1 hk1.size) id d11; have r2' := RowIs.keep (RowIs.keep (RowIs.keep H0.out.2 (M := Nil) (by repeat (first | exact Keeps.refl _ _ | refine Keeps.drew ?_ | refine Keeps.drewN ?_ _ | refine Keeps.alloc ?_ _)) id) hk1 id) hk2 id; obtain ⟨c0, c1', f0, f1⟩ := r2'.two; have HT := Lib.hid h'; clear h' r2'))
      go_wp2
      have hzz := HT.out
      rw [show (if g2 = true then -((nval l2 - nval l : Nat) : Int) else ((nval l2 - nval l : Nat) : Int)) = ival (g, l) + ival (g2, l2) by have hle := HLE.out; cases g <;> cases g2 <;> simp [ival] at hg ⊢ <;> omega] at hzz
      exact bodyPost_ret (v := .agg #[.bool g', .slice a' n' c']) (by simp [results, Tryz.results32, go_sem, c0, c1']) rfl ⟨_, _, _, _, rfl, hzz.less (Keeps.pair _ _), (((H0.out.1.trans (by repeat (first | exact Keeps.refl _ _ | refine Keeps.drew ?_ | refine Keeps.drewN ?_ _ | refine Keeps.alloc ?_ _))).trans hk1).trans hk2).own (by omega) (Keeps.pair _ _)⟩
    · have HLE := Lib.hid (show nval l2 ≤ nval l by omega)
      obtain ⟨cm, hcm⟩ : ∃ cm : Int, cm = cmpN (nval l) (nval l2) := ⟨_, rfl⟩
      have hc0 : (0 : Int) ≤ cm := by
        rw [hcm]; unfold cmpN
        rw [if_neg (by omega)]
        split <;> omega
      have HC := Lib.hid hcm.symm
      clear hlt hcm
      go_enter Tryz.func32, Tryz.ntmps32
      go_upto_region 3 with (fail)
      obtain ⟨r0, r1, r2, hk0⟩ := HRS.out
      clear HRS
      generalize (((w.alloc (.cells #[.bool g, .slice a n c] 38)).alloc (.cells #[.bool g2, .slice a2 n2 c2] 38)).alloc (.cells #[.bool false, .slice none 0 0] 38)) = w00 at *
      obtain ⟨c00, c01, _, _⟩ := r0.two
      obtain ⟨c10, c11, _, _⟩ := r1.two
      have H00 := Lib.hid (And.intro hk0 (And.intro r0 (And.intro r1 r2)))
      clear hk0 r0 r1 r2
      go_upto_region 5 with (go_at_call 67; refine (refncmp_any (HA.out.keepNil H00.out.1) (HB.out.keepNil H00.out.1)).mono ?_; rintro e w0 ⟨rfl, hk1⟩; rw [HC.out])
      have hk0 := H00.out.1.trans hk1
      have r0 := H00.out.2.1.keep hk1 id
      have r1 := H00.out.2.2.1.keep hk1 id
      have r2 := H00.out.2.2.2.keep hk1 id
      clear H00 hk1 c00 c01 c10 c11
      obtain ⟨c00, c01, _, _⟩ := r0.two
      obtain ⟨c10, c11, _, _⟩ := r1.two
      obtain ⟨c20, c21, f20, f21⟩ := r2.two
      have b0 := r0.lt
      have b1 := r1.lt
      have b2 := r2.lt
      have H0 := Lib.hid (And.intro hk0 r2)
      clear hk0 r0 r1 r2
      go_region_held3 (fun w' => w'.cell? ⟨w.heap.size, 0, none⟩ = some (.bool g) ∧ w'.cell? ⟨w.heap.size, 1, none⟩ = some (.slice a n c) ∧ w'.cell? ⟨w.heap.size + 1, 0, none⟩ = some (.bool g2) ∧ w'.cell? ⟨w.heap.size + 1, 1, none⟩ = some (.slice a2 n2 c2)) (go_keep) (first | (go_at_call 68; refine (refnsub_any (M := Nil) (MB.nil _) ((HA.out.keepNil H0.out.1).keepNil (by repeat (first | exact Keeps.refl _ _ | refine Keeps.drew ?_ | refine Keeps.drewN ?_ _ | refine Keeps.alloc ?_ _))) ((HB.out.keepNil H0.out.1).keepNil (by repeat (first | exact Keeps.refl _ _ | refine Keeps.drew ?_ | refine Keeps.drewN ?_ _ | refine Keeps.alloc ?_ _))) hn HLE.out).mono ?_; rintro e w1 ⟨a1, c1, rfl, h1, hk1⟩; have d00 := hk1.cellE b0 id c00; have d01 := hk1.cellE b0 id c01; have d10 := hk1.cellE b1 id c10; have d11 := hk1.cellE b1 id c11; have H1 := Lib.hid h1; clear h1) | (go_at_call 60; refine (refnorm_any (M := With M (w.heap.size + 1 + 1)) ((((HM.out.keep H0.out.1).with b2).keep (M' := Nil) (by repeat (first | exact Keeps.refl _ _ | refine Keeps.drew ?_ | refine Keeps.drewN ?_ _ | refine Keeps.alloc ?_ _))).keep hk1) (zat_of g H1.out HF.out.2.1)).mono ?_; rintro e w2 ⟨g', a', n', c', rfl, h', hk2⟩; have e00 := hk2.cellE (Nat.lt_of_lt_of_le b0 hk1.size) id d00; have e01 := hk2.cellE (Nat.lt_of_lt_of_le b0 hk1.size) id d01; have e10 := hk2.cellE (Nat.lt_of_lt_of_le b1 hk1.size) id d10; have e11 := hk2.cellE (Nat.lt_of_lt_of_le b1 hk1.size) id d11; have r2' := RowIs.keep (RowIs.keep (RowIs.keep H0.out.2 (M := Nil) (by repeat (first | exact Keeps.refl _ _ | refine Keeps.drew ?_ | refine Keeps.drewN ?_ _ | refine Keeps.alloc ?_ _)) id) hk1 id) hk2 id; obtain ⟨c0, c1', f0, f1⟩ := r2'.two; have HT := Lib.hid h'; clear h' r2'))
      go_wp2
      have hzz := HT.out
      rw [show (if g = true then -((nval l - nval l2 : Nat) : Int) else ((nval l - nval l2 : Nat) : Int)) = ival (g, l) + ival (g2, l2) by have hle := HLE.out; cases g <;> cases g2 <;> simp [ival] at hg ⊢ <;> omega] at hzz
      exact bodyPost_ret (v := .agg #[.bool g', .slice a' n' c']) (by simp [results, Tryz.results32, go_sem, c0, c1']) rfl ⟨_, _, _, _, rfl, hzz.less (Keeps.pair _ _), (((H0.out.1.trans (by repeat (first | exact Keeps.refl _ _ | refine Keeps.drew ?_ | refine Keeps.drewN ?_ _ | refine Keeps.alloc ?_ _))).trans hk1).trans hk2).own (by omega) (Keeps.pair _ _)⟩
set_option maxHeartbeats 1000000 in
theorem refsub_any {M : Nat → Prop} {g g2 : Bool} {a a2 : Option Addr} {n c n2 c2 : Nat} {z z2 : Int} {w : World} (hM : MB M w) (h : ZAt Nil w g a n c z) (h2 : ZAt Nil w g2 a2 n2 c2 z2) (hn : n * 4 + 4 ≤ 140737488355328) (hn2 : n2 * 4 + 4 ≤ 140737488355328) :
    Calls Tryz.prog 44 #[.agg #[.bool g, .slice a n c], .agg #[.bool g2, .slice a2 n2 c2]] w fun e w' => ZRet M w (z - z2) e w' := by
  have hl2 := h2.nlen_le
  have HA := Lib.hid h
  have HB := Lib.hid h2
  have HM := Lib.hid hM
  have HN := Lib.hid (And.intro hn (show nlen (-z2).natAbs * 4 + 4 ≤ 140737488355328 by rw [Int.natAbs_neg]; omega))
  have HRS := Lib.hid (rows3 w 38 (.bool g) (.slice a n c) (.bool g2) (.slice a2 n2 c2) (.bool false) (.slice none 0 0))
  clear h h2 hM hn hn2 hl2
  go_enter Tryz.func44, Tryz.ntmps44
  go_wp2_with fail
  obtain ⟨r0, r1, r2, hk0⟩ := HRS.out
  clear HRS
  generalize (((w.alloc (.cells #[.bool g, .slice a n c] 38)).alloc (.cells #[.bool g2, .slice a2 n2 c2] 38)).alloc (.cells #[.bool false, .slice none 0 0] 38)) = w0 at *
  obtain ⟨c00, c01, _, _⟩ := r0.two
  obtain ⟨c10, c11, _, _⟩ := r1.two
  obtain ⟨c20, c21, f20, f21⟩ := r2.two
  have b0 := r0.lt
  have b1 := r1.lt
  have b2 := r2.lt
  have H0 := Lib.hid (And.intro hk0 r2)
  clear hk0 r0 r1 r2
  have ne1 : ¬ w.heap.size = w.heap.size + 1 + 1 := by omega
  have ne2 : ¬ w.heap.size + 1 + 1 = w.heap.size := by omega
  go_region_held3 (fun w' => w'.cell? ⟨w.heap.size, 0, none⟩ = some (.bool g) ∧ w'.cell? ⟨w.heap.size, 1, none⟩ = some (.slice a n c) ∧ w'.cell? ⟨w.heap.size + 1, 0, none⟩ = some (.bool g2) ∧ w'.cell? ⟨w.heap.size + 1, 1, none⟩ = some (.slice a2 n2 c2)) (go_keep) (first | (go_at_call 80; refine (refneg_any (M := Nil) (MB.nil _) ((HB.out.keepNil H0.out.1).keepNil (by repeat (first | exact Keeps.refl _ _ | refine Keeps.drew ?_ | refine Keeps.drewN ?_ _ | refine Keeps.alloc ?_ _)))).mono ?_; rintro e w1 ⟨g1, a1, n1, c1, rfl, h1, hk1⟩; have d00 := hk1.cellE b0 id c00; have d01 := hk1.cellE b0 id c01; have d10 := hk1.cellE b1 id c10; have d11 := hk1.cellE b1 id c11; have H1 := Lib.hid (And.intro h1 h1.len); clear h1) | (go_at_call 32; refine (refadd_any (M := With M (w.heap.size + 1 + 1)) ((((HM.out.keep H0.out.1).with b2).keep (M' := Nil) (by repeat (first | exact Keeps.refl _ _ | refine Keeps.drew ?_ | refine Keeps.drewN ?_ _ | refine Keeps.alloc ?_ _))).keep hk1) ((((HA.out.keepNil H0.out.1).keepNil (by repeat (first | exact Keeps.refl _ _ | refine Keeps.drew ?_ | refine Keeps.drewN ?_ _ | refine Keeps.alloc ?_ _))).keepNil hk1).keepNil (by repeat (first | exact Keeps.refl _ _ | refine Keeps.drew ?_ | refine Keeps.drewN ?_ _ | refine Keeps.alloc ?_ _))) ((H1.out.1.at' (by rw [H1.out.2]; have := HN.out.2; omega)).keepNil (by repeat (first | exact Keeps.refl _ _ | refine Keeps.drew ?_ | refine Keeps.drewN ?_ _ | refine Keeps.alloc ?_ _))) HN.out.1 (by rw [H1.out.2]; exact HN.out.2)).mono ?_; rintro e w2 ⟨g', a', n', c', rfl, h', hk2⟩; have e00 := hk2.cellE (Nat.lt_of_lt_of_le b0 hk1.size) id d00; have e01 := hk2.cellE (Nat.lt_of_lt_of_le b0 hk1.size) id d01; have e10 := hk2.cellE (Nat.lt_of_lt_of_le b1 hk1.size) id d10; have e11 := hk2.cellE (Nat.lt_of_lt_of_le b1 hk1.size) id d11; have r2' := RowIs.keep (RowIs.keep (RowIs.keep (RowIs.keep H0.out.2 (M := Nil) (by repeat (first | exact Keeps.refl _ _ | refine Keeps.drew ?_ | refine Keeps.drewN ?_ _ | refine Keeps.alloc ?_ _)) id) hk1 id) (M := Nil) (by repeat (first | exact Keeps.refl _ _ | refine Keeps.drew ?_ | refine Keeps.drewN ?_ _ | refine Keeps.alloc ?_ _)) id) hk2 id; obtain ⟨c0, c1', f0, f1⟩ := r2'.two; have HT := Lib.hid h'; clear h' r2'))
  go_wp2
  have hzz := HT.out
  rw [show z + -z2 = z - z2 by omega] at hzz
  exact bodyPost_ret (v := .agg #[.bool g', .slice a' n' c']) (by simp [results, Tryz.results44, go_sem, c0, c1']) rfl ⟨_, _, _, _, rfl, hzz.less (Keeps.pair _ _), ((((H0.out.1.trans (by repeat (first | exact Keeps.refl _ _ | refine Keeps.drew ?_ | refine Keeps.drewN ?_ _ | refine Keeps.alloc ?_ _))).trans hk1).trans (by repeat (first | exact Keeps.refl _ _ | refine Keeps.drew ?_ | refine Keeps.drewN ?_ _ | refine Keeps.alloc ?_ _))).trans hk2).own (by omega) (Keeps.pair _ _)⟩
end Go.Proofs.YtfkclbhddiidbaaGreat

namespace Go.Rid
theorem timesK_all {a : List Nat} {n more : Nat} (ha : Small a) (hn : n < 4294967296) (hm : more < 4294967296) : nval ((timesK a n more a.length).1 ++ [(timesK a n more a.length).2]) = nval a * n + more ∧ Small ((timesK a n more a.length).1 ++ [(timesK a n more a.length).2]) ∧ ((timesK a n more a.length).1 ++ [(timesK a n more a.length).2]).length = a.length + 1 := by
  obtain ⟨h1, h2, h3, h4⟩ := timesK_spec ha hn hm a.length
  refine ⟨?_, small_snoc h2 h3, by simp [h1]⟩
  rw [nval_snoc, h1]
  rw [List.take_length] at h4
  exact h4
theorem mul_small {x n o : Nat} (hx : x < 4294967296) (hn : n < 4294967296) (ho : o < 4294967296) : x * n ≤ 18446744065119617025 := by
  have : x * n ≤ 4294967295 * 4294967295 := Nat.mul_le_mul (by omega) (by omega)
  omega
end Go.Rid
namespace Go.Proofs.YtfkclbhddiidbaaGreat
open Go.RowKit Go.Rid
set_option maxHeartbeats 2000000 in
set_option maxRecDepth 100000 in
theorem reftimes_any {M : Nat → Prop} {a : Option Addr} {n c d more : Nat} {l : List Nat} {w : World} (hM : MB M w) (h : Limbs Nil w a n c l) (hr : n * 4 + 4 ≤ 140737488355328) (hd : d < 4294967296) (hmo : more < 4294967296) :
    Calls Tryz.prog 144 #[.slice a n c, .int .u32 (d : Int), .int .u32 (more : Int)] w fun e w' => ∃ a' c', e = .returned (.slice a' (nlen (nval l * d + more)) c') ∧ Limbs M w' a' (nlen (nval l * d + more)) c' (limbsOf (nval l * d + more)) ∧ Keeps Nil w w' := by
  obtain ⟨i0, hi0⟩ := info_parts info_u32
  have HI := Lib.hid hi0
  have HL := Lib.hid h
  have HM := Lib.hid hM
  have hcap := h.sl.cap
  have hle := h.sl.le
  clear h hM hi0
  go_enter Tryz.func144, Tryz.ntmps144
  go_wp2_with fail
  go_loopw [7, 8, 9] (fun v o i wr => ∃ k : Nat, k ≤ n ∧ i = .int .i64 k ∧ o = .int .u64 ((timesK l d more k).2 : Int) ∧ OwnEls wr w.heap.size 66 1 v (els32 (timesK l d more k).1) ∧ Keeps Nil w wr) (fun _ _ i _ => n - (intOf i).toNat)
  case atStart => exact ⟨0, Nat.zero_le _, rfl, rfl, OwnEls.nil _ _ _ _, Keeps.refl _ _⟩
  case round =>
    obtain ⟨k, hk, rfl, rfl, ho, hkk⟩ := hrel
    obtain ⟨q1, q2, q3, q4⟩ := timesK_spec HL.out.lt hd hmo k
    have HK := Lib.hid (And.intro hkk (And.intro ho (And.intro q1 q2)))
    have hel : (els32 (timesK l d more k).1).length = k := by rw [length_els32, q1]
    have HEL := Lib.hid hel
    have hsz := hkk.size
    clear ho q1 q2 q4 hel
    by_cases hlt : k < n
    · obtain ⟨b, off, hae, _, _, p0⟩ := (HL.out.keepNil hkk).cell hlt
      subst hae
      clear hkk
      have g1 : (k : Int) < (n : Int) := by omega
      have g2 : (0 : Int) ≤ (k : Int) := by omega
      have ha := HL.out.lim_lt k
      have e1 : (timesK l d more (k + 1)).2 = (lim l k * d + (timesK l d more k).2) / Bs := rfl
      have e2 : (timesK l d more (k + 1)).1 = (timesK l d more k).1 ++ [(lim l k * d + (timesK l d more k).2) % Bs] := rfl
      have HE := Lib.hid (And.intro e1 e2)
      clear e1 e2
      generalize lim l k = x at *
      generalize (timesK l d more k).2 = o at *
      have hp := mul_small ha hd q3
      have em : (x : Int) * (d : Int) = ((x * d : Nat) : Int) := by push_cast; rfl
      generalize x * d = y at *
      go_wp2_with (at_builtin; refine wpList_append_els _ rfl (.tmp 29) (.tmp 33) 36 rfl w.heap.size 66 i0 (.int .u32 0) 1 4 Tryz.underlying36 HI.out.1 HI.out.2.1 HI.out.2.2.1 HI.out.2.2.2 rfl (by decide) u7 (els32 (timesK l d more k).1) rfl (HK.out.2.1.keepNil (by repeat (first | exact Keeps.refl _ _ | refine Keeps.drew ?_ | refine Keeps.drewN ?_ _ | refine Keeps.alloc ?_ _))) ⟨wr.heap.size, 0, none⟩ 1 1 [[.int .u32 (((y : Int) + (o : Int)) % 4294967296)]] rfl rfl (by simp) (alloc_news _ _ _) (by simp [Value.oneCell']) (by rw [HEL.out]; omega) (by rw [HEL.out]; omega) (by simp; omega) ?_; intro v' w2 ho hk2 hf2 _; have HO := Lib.hid (And.intro ho hk2); clear ho hk2 hf2)
      go_roundw
      case rel =>
        have ev : Value.int .u32 (((y : Int) + (o : Int)) % 4294967296) = Go.Rid.u32 ((y + o) % Bs) := by unfold Go.Rid.u32; congr 1
        have ho := HO.out.1
        rw [ev, ← els32_snoc] at ho
        exact ⟨k + 1, by omega, by go_num, by rw [HE.out.1, Bs_def]; congr 1, by rw [HE.out.2]; exact ho, (HK.out.1.trans (by repeat (first | exact Keeps.refl _ _ | refine Keeps.drew ?_ | refine Keeps.drewN ?_ _ | refine Keeps.alloc ?_ _))).trans' HO.out.2 (fun b hb => .inr (HK.out.2.1.lt b hb).1)⟩
      case measure => simp [intOf]; omega
    · obtain rfl : k = n := by omega
      clear hkk
      have g1 : ¬ (k : Int) < (k : Int) := by omega
      have HV := Lib.hid (timesK_all HL.out.lt hd hmo)
      have HN := Lib.hid HL.out.len
      obtain ⟨o, hoo⟩ : ∃ o, o = (timesK l d more k).2 := ⟨_, rfl⟩
      rw [← hoo]
      rw [← hoo] at q3
      have HOO := Lib.hid hoo
      clear hoo
      go_wp2_with (first | (at_builtin; refine wpList_append_els _ rfl (.tmp 37) (.tmp 40) 36 rfl w.heap.size 66 i0 (.int .u32 0) 1 4 Tryz.underlying36 HI.out.1 HI.out.2.1 HI.out.2.2.1 HI.out.2.2.2 rfl (by decide) u7 (els32 (timesK l d more k).1) rfl (HK.out.2.1.keepNil (by repeat (first | exact Keeps.refl _ _ | refine Keeps.drew ?_ | refine Keeps.drewN ?_ _ | refine Keeps.alloc ?_ _))) ⟨wr.heap.size, 0, none⟩ 1 1 [[.int .u32 (o : Int)]] rfl rfl (by simp) (alloc_news _ _ _) (by simp [Value.oneCell']) (by rw [HEL.out]; omega) (by rw [HEL.out]; omega) (by simp; omega) ?_; intro v' w2 ho hk2 hf2 _; rw [show ([[Value.int .u32 (o : Int)]] : List (List Value)) = [[Go.Rid.u32 (timesK l d more k).2]] by rw [← HOO.out]; rfl, ← els32_snoc] at ho; rw [← HN.out] at ho; obtain ⟨a5, c5, rfl, hL⟩ := OwnEls.limbs (M := Nil) ho HV.out.2.1 (fun _ h => h.elim); rw [HV.out.2.2] at hL ⊢; have HO := Lib.hid (And.intro hL ((HK.out.1.trans (show Keeps Nil wr (wr.alloc (.cells #[.int .u32 (o : Int)] 66)) from (by repeat (first | exact Keeps.refl _ _ | refine Keeps.drew ?_ | refine Keeps.drewN ?_ _ | refine Keeps.alloc ?_ _)))).trans' hk2 (fun b hb => .inr (HK.out.2.1.lt b hb).1))); clear ho hk2 hf2 hL) | (go_at_call 95; refine (ref01trim_any (HM.out.keep HO.out.2) HO.out.1 (by have := HN.out; omega)).mono ?_; rintro e w3 ⟨a', c', rfl, h', hk'⟩))
      go_ret
      rw [trim_eq HV.out.2.1, top_eq HV.out.2.1, HV.out.1] at h'
      rw [top_eq HV.out.2.1, HV.out.1]
      exact ⟨_, _, rfl, h', HO.out.2.trans hk'⟩
end Go.Proofs.YtfkclbhddiidbaaGreat

namespace Go.Rid
open Go.RowKit
theorem up_row (l : List Nat) : splice (zeros (l.length + 1) (.int .u32 0)) 1 (u32s l) = u32s (0 :: l) := by
  simp [splice, zeros, u32s, List.replicate_succ, u32]; omega
def mulV (x : List Nat) (b k : Nat) : Nat := nval (x.drop k) * b
theorem mulV_le (x : List Nat) (b k : Nat) (hk : k ≤ x.length) : mulV x b k ≤ nval x * b := by
  unfold mulV
  apply Nat.mul_le_mul_right
  rw [nval_split x k hk]
  have : 1 ≤ Bs ^ k := Nat.one_le_pow _ _ Bs_pos
  calc nval (x.drop k) = 1 * nval (x.drop k) := by omega
    _ ≤ Bs ^ k * nval (x.drop k) := Nat.mul_le_mul_right _ this
    _ ≤ _ := Nat.le_add_left _ _
theorem mulV_step (x : List Nat) (b k : Nat) (hk : k < x.length) : mulV x b k = mulV x b (k + 1) * Bs + (b * lim x k + 0) := by
  unfold mulV
  rw [show x.drop k = lim x k :: x.drop (k + 1) by rw [List.drop_eq_getElem_cons hk]; simp [lim, List.getD, List.getElem?_eq_getElem hk]]
  simp only [nval, ← Bs_def]
  rw [Nat.add_mul, Nat.mul_comm (lim x k) b, Nat.add_zero, Nat.mul_assoc, Nat.mul_comm Bs, Nat.add_comm]; rfl
theorem mulV_all (x : List Nat) (b : Nat) : mulV x b 0 = nval x * b := by simp [mulV]
theorem mulV_none (x : List Nat) (b : Nat) : mulV x b x.length = 0 := by simp [mulV, nval]
theorem nval_up (l : List Nat) : nval (0 :: l) = nval l * Bs := by simp [nval, Bs_def, Nat.mul_comm]
end Go.Rid
namespace Go.Proofs.YtfkclbhddiidbaaGreat
open Go.RowKit Go.Rid
theorem reftrim_any {M M' : Nat → Prop} {a : Option Addr} {n c : Nat} {l : List Nat} {w : World} (hM : MB M w) (h : Limbs M' w a n c l) (hr : n * 4 ≤ 140737488355328) :
    Calls Tryz.prog 95 #[.slice a n c] w fun e w' => ∃ a' c', e = .returned (.slice a' (nlen (nval l)) c') ∧ Limbs M w' a' (nlen (nval l)) c' (limbsOf (nval l)) ∧ Keeps Nil w w' := by
  refine (ref01trim_any hM h hr).mono ?_
  rintro e w' ⟨a', c', rfl, h', hk'⟩
  rw [trim_eq h.lt, top_eq h.lt] at h'
  rw [top_eq h.lt]
  exact ⟨_, _, rfl, h', hk'⟩
theorem Limbs.none {M : Nat → Prop} {w : World} : Limbs M w none 0 0 [] := ⟨rfl, Sl.nil _ _ _ _, fun _ h => by cases h⟩
set_option maxHeartbeats 2000000 in
set_option maxRecDepth 100000 in
theorem refnmul_any {M : Nat → Prop} {a a2 : Option Addr} {n c n2 c2 : Nat} {l l2 : List Nat} {w : World} (hM : MB M w) (h : Limbs Nil w a n c l) (h2 : Limbs Nil w a2 n2 c2 l2) (hr : (n + n2) * 4 + 16 ≤ 140737488355328) :
    Calls Tryz.prog 145 #[.slice a n c, .slice a2 n2 c2] w fun e w' => ∃ a' c', e = .returned (.slice a' (nlen (nval l * nval l2)) c') ∧ Limbs M w' a' (nlen (nval l * nval l2)) c' (limbsOf (nval l * nval l2)) ∧ Keeps Nil w w' := by
  obtain ⟨i0, hi, hz0, hz1, hz2⟩ := info_parts info_u32
  have HL := Lib.hid (And.intro h h2)
  have HM := Lib.hid hM
  have hnl : nlen (nval l) ≤ n := by rw [← h.len]; exact nlen_le h.lt
  have hnl2 : nlen (nval l2) ≤ n2 := by rw [← h2.len]; exact nlen_le h2.lt
  clear h h2 hM
  go_enter Tryz.func145, Tryz.ntmps145
  go_wp2_with (go_at_call 95; refine (reftrim_any (M := Nil) (MB.nil _) HL.out.1 (by omega)).mono ?_; rintro e w1 ⟨a1, c1, rfl, h1, hk1⟩)
  have HX := Lib.hid (And.intro h1 hk1)
  have hs1 := hk1.size
  clear h1 hk1
  have hX := small_limbsOf (nval l)
  have hXv := nval_limbsOf (nval l)
  have hXn : (limbsOf (nval l)).length = nlen (nval l) := rfl
  generalize limbsOf (nval l) = X at *
  generalize nlen (nval l) = N at *
  go_loopw [6, 7] (fun v i wr => ∃ k : Nat, k ≤ N ∧ i = .int .i64 ((k : Int) - 1) ∧ (∃ a c, v = .slice a (nlen (mulV X (nval l2) k)) c ∧ Limbs Nil wr a (nlen (mulV X (nval l2) k)) c (limbsOf (mulV X (nval l2) k))) ∧ Keeps Nil w1 wr) (fun _ i _ => (intOf i + 1).toNat)
  case atStart => exact ⟨N, Nat.le_refl _, rfl, ⟨none, 0, by rw [← hXn, mulV_none]; simp [nlen, limbsOf_zero], by rw [← hXn, mulV_none]; simp only [nlen, limbsOf_zero]; exact Limbs.none⟩, Keeps.refl _ _⟩
  case round =>
    obtain ⟨k, hk, rfl, ⟨a5, c5, rfl, hv⟩, hkk⟩ := hrel
    have hbd : nlen (mulV X (nval l2) k) ≤ N + n2 := by
      have e1 := nlen_mono (mulV_le X (nval l2) k (by omega))
      have e2 := nlen_mul (nval X) (nval l2)
      rw [hXv] at e1 e2
      have e3 := nlen_le_of_lt (k := N) (n := nval l) (by rw [← hXv, ← hXn]; exact nval_lt hX)
      omega
    have HF := Lib.hid (And.intro hX (And.intro hXv hXn))
    have HV := Lib.hid (And.intro hv hbd)
    have HK := Lib.hid hkk
    clear hX hXv hXn hv hkk hbd
    cases k with
    | zero =>
      obtain ⟨hv, hbd⟩ := HV.out
      rw [mulV_all, HF.out.2.1] at hv hbd
      have HQ := Lib.hid (And.intro hv hbd)
      obtain ⟨q, hq⟩ : ∃ q, q = nlen (mulV X (nval l2) 0) := ⟨_, rfl⟩
      have hq' : q = nlen (nval l * nval l2) := by rw [hq, mulV_all, HF.out.2.1]
      rw [← hq] at HV ⊢
      rw [← hq'] at HQ
      have HE := Lib.hid hq'
      clear hv hbd hq hq' HV
      have i1 : ((0 : Nat) : Int) - 1 = -1 := rfl
      rw [i1]
      go_wp2_with (go_at_call 95; refine (reftrim_any (HM.out.keep (HX.out.2.trans HK.out)) HQ.out.1 (by have := HQ.out.2; omega)).mono ?_; rintro e w3 ⟨a', c', rfl, h', hk'⟩)
      go_ret
      rw [nval_limbsOf, ← HE.out] at h'
      rw [nval_limbsOf, ← HE.out]
      exact ⟨_, _, rfl, h', (HX.out.2.trans HK.out).trans hk'⟩
    | succ m =>
      have hm : m < N := by omega
      have i1 : ((m + 1 : Nat) : Int) - 1 = (m : Int) := by omega
      rw [i1]
      have i2 : (0 : Int) ≤ (m : Int) := by omega
      have i3 : (m : Int) < (N : Int) := by omega
      clear i1
      obtain ⟨b, off, hae, hb, _, p0⟩ := HX.out.1.cell hm
      subst hae
      have p1 := HK.out.cellE hb id p0
      have hx := lim_small HF.out.1 m
      have hstep := mulV_step X (nval l2) m (by rw [HF.out.2.2]; exact hm)
      have HS := Lib.hid hstep
      have hsz := HK.out.size
      obtain ⟨x, hxe⟩ : ∃ x, x = lim X m := ⟨_, rfl⟩
      rw [← hxe] at p0 p1 hx
      obtain ⟨V, hVe⟩ : ∃ V, V = mulV X (nval l2) (m + 1) := ⟨_, rfl⟩
      rw [← hVe] at HV ⊢
      have HE := Lib.hid (And.intro hxe hVe)
      obtain ⟨q, hqe⟩ : ∃ q, q = nlen V := ⟨_, rfl⟩
      rw [← hqe] at HV ⊢
      have HQ := Lib.hid hqe
      have hq := HV.out.2
      have hx2 : nlen (nval l2 * x + 0) ≤ n2 + 1 := by
        have e1 := nlen_mul (nval l2) x
        have e2 : nlen x ≤ 1 := nlen_le_of_lt (by rw [Bs_def]; omega)
        have e3 := nlen_le HL.out.2.lt
        rw [HL.out.2.len] at e3
        simp only [Nat.add_zero]
        omega
      have HX2 := Lib.hid hx2
      clear hstep hxe hVe hqe hx2
      go_wp2_with (at_make; refine wpList_make_row _ rfl _ _ 36 rfl 66 i0 (.int .u32 0) Tryz.underlying36 hi hz0 hz1 rfl .i64 .i64 _ _ (q + 1) rfl rfl ?_ ?_ ?_ ?_ ?_)
      case refine_1 => first | rfl | (push_cast; rfl)
      case refine_2 => first | rfl | (push_cast; rfl)
      case refine_3 => rw [hz2]; omega
      case refine_4 => omega
      case refine_5 =>
        intro w2 hrow hk2 hsz2
        have HR := Lib.hid (And.intro hk2 hsz2)
        have p2 := hk2.cellE (Nat.lt_of_lt_of_le hb hsz) id p1
        have hcs : (u32s (limbsOf V)).length = min q q := by rw [length_u32s, HQ.out, Nat.min_self]; rfl
        have hfit : 1 + (u32s (limbsOf V)).length ≤ (zeros (q + 1) (.int .u32 0)).length := by rw [length_zeros, hcs]; omega
        have HC := Lib.hid (And.intro hcs hfit)
        have hw1 := Nat.lt_of_lt_of_le hb hsz
        have hsz2' : wr.heap.size < w2.heap.size := by omega
        clear hk2 hsz2 hcs hfit hb hsz p1
        have hsrc : SrcIs Nil w2 a5 (u32s (limbsOf V)) := by
          have := (HV.out.1.src (k := q) (Nat.le_refl _)).keepNil HR.out.1
          rwa [List.take_of_length_le (by rw [HQ.out]; exact Nat.le_refl _)] at this
        have HSR := Lib.hid hsrc
        clear hsrc
        have hup : splice (zeros (q + 1) (.int .u32 0)) 1 (u32s (limbsOf V)) = u32s (0 :: limbsOf V) := by
          have := up_row (limbsOf V)
          rwa [show (limbsOf V).length = q from HQ.out.symm] at this
        have HUP := Lib.hid hup
        have hq0 : q = 0 ∨ (0 < q ∧ ¬ q = 0 ∧ ¬ (q : Int) = 0) := by omega
        clear hup
        rcases hq0 with hq0 | ⟨hq0, hq1, hq2⟩
        · subst hq0
          go_wp2_with (with_reducible refine wpList_copy_row (M := Nil) rfl (.tmp 23) (.tmp 24) 36 36 rfl 66 Tryz.underlying36 size_u32 _ _ _ _ _ _ rfl rfl wr.heap.size 1 _ 66 hrow (u32s (limbsOf V)) ?qn ?qd ?qs ?qf ?q1 ?_)
          case qn => exact HC.out.1
          case qd => intro h; rw [HC.out.1] at h; exact absurd h (by simp)
          case qs => exact HSR.out
          case qf => exact HC.out.2
          case q1 => exact one_u32s _
          intro w3 hrow3 hk3
          have HR3 := Lib.hid (And.intro (HUP.out ▸ hrow3) hk3)
          have p3 := hk3.cellE (Nat.lt_trans hw1 hsz2') (fun h => by cases (show b = wr.heap.size from h); omega) p2
          have hsz3 := hk3.size
          clear hrow3 hk3
          have hup := Limbs.ofRow (M := Nil) HR3.out.1 (fun x hx => by rcases List.mem_cons.1 hx with rfl | hx; (decide); exact small_limbsOf V x hx) (fun h => h.elim) (by rw [List.length_cons, show (limbsOf V).length = 0 from HQ.out.symm]; omega)
          rw [List.length_cons, show (limbsOf V).length = 0 from HQ.out.symm] at hup
          have hkw : Keeps Nil wr w3 := HR.out.1.trans' HR3.out.2 (fun k hk => .inr (by cases (show k = wr.heap.size from hk); exact Nat.le_refl _))
          have HUL := Lib.hid (And.intro hup hkw)
          clear hup hkw HR3
          go_wp2_with (first | (go_at_call 144; refine (reftimes_any (M := Nil) (MB.nil _) (HL.out.2.keepNil ((HX.out.2.trans HK.out).trans HUL.out.2)) (by omega) hx (by decide)).mono ?_; rintro e w4 ⟨a6, c6, rfl, h6, hk6⟩; have H6 := Lib.hid (And.intro h6 hk6); clear h6 hk6) | (go_at_call 66; refine (refnadd_any (M := Nil) (MB.nil _) (HUL.out.1.keepNil H6.out.2) H6.out.1 (by omega) (by have := HX2.out; omega)).mono ?_; rintro e w5 ⟨a7, c7, rfl, h7, hk7⟩; have H7 := Lib.hid (And.intro h7 hk7); clear h7 hk7))
          go_roundw
          case rel =>
            have hv : nval (0 :: limbsOf V) + nval (limbsOf (nval l2 * x + 0)) = mulV X (nval l2) m := by rw [nval_up, nval_limbsOf, nval_limbsOf, HS.out, ← HE.out.1, ← HE.out.2]
            have h7 := H7.out.1
            rw [hv] at h7
            simp only [Nat.add_zero] at hv
            rw [hv]
            exact ⟨m, by omega, by go_num, ⟨_, _, rfl, h7⟩, HK.out.trans (HUL.out.2.trans (H6.out.2.trans H7.out.2))⟩
          case measure => simp [intOf]
        · go_wp2_with (with_reducible refine wpList_copy_row (M := Nil) rfl (.tmp 23) (.tmp 24) 36 36 rfl 66 Tryz.underlying36 size_u32 _ _ _ _ _ _ rfl rfl wr.heap.size 1 _ 66 hrow (u32s (limbsOf V)) ?qn ?qd ?qs ?qf ?q1 ?_)
          case qn => exact HC.out.1
          try (case qd => intro _; rfl)
          case qs => exact HSR.out
          case qf => exact HC.out.2
          case q1 => exact one_u32s _
          intro w3 hrow3 hk3
          have HR3 := Lib.hid (And.intro (HUP.out ▸ hrow3) hk3)
          have p3 := hk3.cellE (Nat.lt_trans hw1 hsz2') (fun h => by cases (show b = wr.heap.size from h); omega) p2
          have hsz3 := hk3.size
          clear hrow3 hk3
          have hup := Limbs.ofRow (M := Nil) HR3.out.1 (fun x hx => by rcases List.mem_cons.1 hx with rfl | hx; (decide); exact small_limbsOf V x hx) (fun h => h.elim) (by rw [List.length_cons, show (limbsOf V).length = q from HQ.out.symm]; omega)
          rw [List.length_cons, show (limbsOf V).length = q from HQ.out.symm] at hup
          have hkw : Keeps Nil wr w3 := HR.out.1.trans' HR3.out.2 (fun k hk => .inr (by cases (show k = wr.heap.size from hk); exact Nat.le_refl _))
          have HUL := Lib.hid (And.intro hup hkw)
          clear hup hkw HR3
          go_wp2_with (first | (go_at_call 144; refine (reftimes_any (M := Nil) (MB.nil _) (HL.out.2.keepNil ((HX.out.2.trans HK.out).trans HUL.out.2)) (by omega) hx (by decide)).mono ?_; rintro e w4 ⟨a6, c6, rfl, h6, hk6⟩; have H6 := Lib.hid (And.intro h6 hk6); clear h6 hk6) | (go_at_call 66; refine (refnadd_any (M := Nil) (MB.nil _) (HUL.out.1.keepNil H6.out.2) H6.out.1 (by omega) (by have := HX2.out; omega)).mono ?_; rintro e w5 ⟨a7, c7, rfl, h7, hk7⟩; have H7 := Lib.hid (And.intro h7 hk7); clear h7 hk7))
          go_roundw
          case rel =>
            have hv : nval (0 :: limbsOf V) + nval (limbsOf (nval l2 * x + 0)) = mulV X (nval l2) m := by rw [nval_up, nval_limbsOf, nval_limbsOf, HS.out, ← HE.out.1, ← HE.out.2]
            have h7 := H7.out.1
            rw [hv] at h7
            simp only [Nat.add_zero] at hv
            rw [hv]
            exact ⟨m, by omega, by go_num, ⟨_, _, rfl, h7⟩, HK.out.trans (HUL.out.2.trans (H6.out.2.trans H7.out.2))⟩
          case measure => simp [intOf]
end Go.Proofs.YtfkclbhddiidbaaGreat

namespace Go.Rid
theorem quoK_spec' {a : List Nat} {d : Nat} (ha : Small a) (hd : 0 < d) : ∀ j, j ≤ a.length → (quoK a d j).1.length = j ∧ Small (quoK a d j).1 ∧ (quoK a d j).2 < d ∧ nval (quoK a d j).1 * d + (quoK a d j).2 = nval (a.drop (a.length - j))
  | 0, _ => ⟨rfl, Small.nil, by simpa [quoK] using hd, by simp [quoK, nval]⟩
  | j + 1, hj => by
    obtain ⟨h1, h2, h3, h4⟩ := quoK_spec' ha hd j (by omega)
    have hB := Bs_def
    have hx := lim_small ha (a.length - (j + 1))
    refine ⟨by simp [quoK, h1], Small.cons ?_ h2, Nat.mod_lt _ hd, ?_⟩
    · rw [Nat.div_lt_iff_lt_mul hd]
      have : ((quoK a d j).2 + 1) * Bs ≤ d * Bs := Nat.mul_le_mul_right _ h3
      rw [Nat.add_mul] at this
      rw [Nat.mul_comm 4294967296 d, ← hB]
      omega
    · simp only [quoK, nval]
      rw [drop_pred (by omega), nval, ← h4]
      have h5 := Nat.mod_add_div ((quoK a d j).2 * Bs + lim a (a.length - (j + 1))) d
      rw [Nat.add_mul, Nat.mul_add, Nat.mul_assoc, Nat.mul_comm (((quoK a d j).2 * Bs + lim a (a.length - (j + 1))) / d) d, Nat.mul_comm Bs (quoK a d j).2]
      omega
theorem quoK_all' {a : List Nat} {d : Nat} (ha : Small a) (hd : 0 < d) : nval (quoK a d a.length).1 = nval a / d ∧ (quoK a d a.length).2 = nval a % d := by
  obtain ⟨h1, h2, h3, h4⟩ := quoK_spec' ha hd a.length (Nat.le_refl _)
  rw [Nat.sub_self, List.drop_zero] at h4
  constructor
  · rw [← h4, Nat.mul_comm, Nat.mul_add_div hd, Nat.div_eq_of_lt h3, Nat.add_zero]
  · rw [← h4, Nat.mul_comm, Nat.mul_add_mod, Nat.mod_eq_of_lt h3]
/-- What has been brought down while t bits of x are left. -/
def bitV (r x t : Nat) : Nat := r * 2 ^ (32 - t) + x / 2 ^ t
theorem bitV_start (r x : Nat) (hx : x < 4294967296) : bitV r x 32 = r := by
  unfold bitV
  rw [Nat.div_eq_of_lt (by simpa using hx)]
  simp
theorem bitV_end (r x : Nat) : bitV r x 0 = r * Bs + x := by
  unfold bitV
  rw [Bs_def]; simp
theorem bitV_step (r x t : Nat) (ht : t < 32) : bitV r x t = 2 * bitV r x (t + 1) + x / 2 ^ t % 2 := by
  unfold bitV
  have e1 : 2 ^ (32 - t) = 2 ^ (32 - (t + 1)) * 2 := by rw [← Nat.pow_succ]; congr 1; omega
  have e2 : x / 2 ^ (t + 1) = x / 2 ^ t / 2 := by rw [Nat.pow_succ, Nat.div_div_eq_div_mul]
  rw [e1, e2, ← Nat.mul_assoc]
  omega
theorem bit_quo (v b d : Nat) (hd : 0 < d) (hb : b < 2) : ((2 * v + b) / d = 2 * (v / d) + (if d ≤ 2 * (v % d) + b then 1 else 0)) ∧ ((2 * v + b) % d = if d ≤ 2 * (v % d) + b then 2 * (v % d) + b - d else 2 * (v % d) + b) := by
  have h1 := Nat.mod_add_div v d
  have h2 := Nat.mod_lt v hd
  have e : 2 * v + b = d * (2 * (v / d)) + (2 * (v % d) + b) := by
    have : d * (2 * (v / d)) = 2 * (d * (v / d)) := by rw [Nat.mul_left_comm]
    omega
  rw [e]
  clear e
  generalize v / d = q at *
  generalize v % d = r at *
  clear h1
  split
  · rename_i h
    have e2 : d * (2 * (q)) + (2 * (r) + b) = d * (2 * (q) + 1) + (2 * (r) + b - d) := by rw [Nat.mul_add]; omega
    rw [e2]
    exact ⟨by rw [Nat.mul_add_div hd, Nat.div_eq_of_lt (by omega)], by rw [Nat.mul_add_mod, Nat.mod_eq_of_lt (by omega)]⟩
  · rename_i h
    exact ⟨by rw [Nat.mul_add_div hd, Nat.div_eq_of_lt (by omega)], by rw [Nat.mul_add_mod, Nat.mod_eq_of_lt (by omega)]⟩
theorem bitV_fit (r x t d : Nat) (hd : 0 < d) (hr : r < d) (hx : x < 4294967296) (ht : t ≤ 32) : bitV r x t / d * 2 ^ t < 4294967296 := by
  have h1 : bitV r x t < d * 2 ^ (32 - t) := by
    unfold bitV
    have : x / 2 ^ t < 2 ^ (32 - t) := by
      rw [Nat.div_lt_iff_lt_mul (Nat.two_pow_pos t), ← Nat.pow_add, show 32 - t + t = 32 by omega]
      simpa using hx
    have h2 : (r + 1) * 2 ^ (32 - t) ≤ d * 2 ^ (32 - t) := Nat.mul_le_mul_right _ hr
    rw [Nat.add_mul] at h2
    omega
  have h2 : bitV r x t / d < 2 ^ (32 - t) := by rw [Nat.div_lt_iff_lt_mul hd, Nat.mul_comm]; exact h1
  have h3 : bitV r x t / d * 2 ^ t < 2 ^ (32 - t) * 2 ^ t := Nat.mul_lt_mul_of_pos_right h2 (Nat.two_pow_pos t)
  rwa [← Nat.pow_add, show 32 - t + t = 32 by omega] at h3
theorem bit_tmod (x t : Nat) : ((x : Int) / 2 ^ t).tmod 2 = ((x / 2 ^ t % 2 : Nat) : Int) := by
  have e : ((x : Int) / 2 ^ t) = ((x / 2 ^ t : Nat) : Int) := by norm_cast
  rw [e, Int.tmod_eq_emod_of_nonneg (Int.natCast_nonneg _)]
  omega
/-- The digit so far. -/
def bitQ (r x d t : Nat) : Nat := bitV r x t / d * 2 ^ t
theorem bitQ_step (r x d t : Nat) (hd : 0 < d) (ht : t < 32) : bitQ r x d t = bitQ r x d (t + 1) + (if d ≤ 2 * (bitV r x (t + 1) % d) + x / 2 ^ t % 2 then 2 ^ t else 0) := by
  unfold bitQ
  rw [bitV_step r x t ht, (bit_quo _ _ d hd (Nat.mod_lt _ (by decide))).1, Nat.add_mul, Nat.pow_succ, Nat.mul_comm 2, Nat.mul_assoc, Nat.mul_comm 2 (2 ^ t)]
  split <;> simp
theorem bit_yes {R x D V B T t : Nat} (hd : 0 < D) (ht : t < 32) (hV : V = bitV R x (t + 1) % D) (hB : B = x / 2 ^ t % 2) (hT : T = V * 2 + B) (h : D ≤ T) : bitV R x t % D = T - D ∧ bitQ R x D t = bitQ R x D (t + 1) + 2 ^ t := by
  have e : 2 * V + B = T := by omega
  have h1 := bitQ_step R x D t hd ht
  have h2 := (bit_quo (bitV R x (t + 1)) B D hd (by rw [hB]; exact Nat.mod_lt _ (by decide))).2
  rw [← hV, ← hB, e, if_pos h] at h1
  rw [hB, ← bitV_step R x t ht, ← hV, ← hB, e, if_pos h] at h2
  exact ⟨h2, h1⟩
theorem bit_no {R x D V B T t : Nat} (hd : 0 < D) (ht : t < 32) (hV : V = bitV R x (t + 1) % D) (hB : B = x / 2 ^ t % 2) (hT : T = V * 2 + B) (h : ¬ D ≤ T) : bitV R x t % D = T ∧ bitQ R x D t = bitQ R x D (t + 1) := by
  have e : 2 * V + B = T := by omega
  have h1 := bitQ_step R x D t hd ht
  have h2 := (bit_quo (bitV R x (t + 1)) B D hd (by rw [hB]; exact Nat.mod_lt _ (by decide))).2
  rw [← hV, ← hB, e, if_neg h] at h1
  rw [hB, ← bitV_step R x t ht, ← hV, ← hB, e, if_neg h] at h2
  exact ⟨h2, h1⟩
theorem shl_fit {Q t : Nat} (h : Q + 2 ^ t < 4294967296) : (((Q : Int) + 2 ^ t % 4294967296) % 4294967296) = ((Q + 2 ^ t : Nat) : Int) := by
  have e : (2 : Int) ^ t = ((2 ^ t : Nat) : Int) := by norm_cast
  rw [e]
  clear e
  generalize 2 ^ t = p at *
  omega
theorem bitQ_start {R x D : Nat} (hR : R < D) (hx : x < 4294967296) : bitQ R x D 32 = 0 := by unfold bitQ; rw [bitV_start R x hx, Nat.div_eq_of_lt hR, Nat.zero_mul]
theorem quoK_last {l : List Nat} {D n k : Nat} (hl : l.length = n) (hk : k + 1 ≤ n) : quoK l D (n - k) = (bitQ (quoK l D (n - (k + 1))).2 (lim l k) D 0 :: (quoK l D (n - (k + 1))).1, bitV (quoK l D (n - (k + 1))).2 (lim l k) 0 % D) := by
  rw [show n - k = (n - (k + 1)) + 1 by omega]
  simp only [quoK, bitQ, bitV_end, Nat.pow_zero, Nat.mul_one]
  rw [hl, show n - (n - (k + 1) + 1) = k by omega]
end Go.Rid

namespace Go.Rid
open Go.RowKit
theorem set_mid (k : Nat) (z u v : Value) (L : List Value) : (zeros k z ++ u :: L).set k v = zeros k z ++ v :: L := by
  rw [List.set_append_right _ _ (by simp [zeros]), length_zeros, Nat.sub_self]; rfl
theorem zeros_mid (k : Nat) (L : List Value) : zeros (k + 1) (.int .u32 0) ++ L = zeros k (.int .u32 0) ++ (Go.Rid.u32 0 :: L) := by
  rw [show zeros (k + 1) (Value.int .u32 0) = zeros k (.int .u32 0) ++ [.int .u32 0] from List.replicate_succ', List.append_assoc]; rfl
end Go.Rid
namespace Go.Proofs.YtfkclbhddiidbaaGreat
open Go.RowKit Go.Rid
theorem reftrim2_any {M M' : Nat → Prop} {a : Option Addr} {n c v : Nat} {l : List Nat} {w : World} (hM : MB M w) (h : Limbs M' w a n c l) (hr : n * 4 ≤ 140737488355328) (hv : nval l = v) :
    Calls Tryz.prog 95 #[.slice a n c] w fun e w' => ∃ a' c', e = .returned (.slice a' (nlen v) c') ∧ Limbs M w' a' (nlen v) c' (limbsOf v) ∧ Keeps Nil w w' := by
  subst hv
  exact reftrim_any hM h hr
theorem reftimes2_any {M : Nat → Prop} {a : Option Addr} {c V B T : Nat} {w : World} (hM : MB M w) (h : Limbs Nil w a (nlen V) c (limbsOf V)) (hr : nlen V * 4 + 4 ≤ 140737488355328) (hB : B < 4294967296) (hT : T = V * 2 + B) :
    Calls Tryz.prog 144 #[.slice a (nlen V) c, .int .u32 2, .int .u32 (B : Int)] w fun e w' => ∃ a' c', e = .returned (.slice a' (nlen T) c') ∧ Limbs M w' a' (nlen T) c' (limbsOf T) ∧ Keeps Nil w w' := by
  have := reftimes_any (d := 2) hM h hr (by decide) hB
  rw [nval_limbsOf, ← hT] at this
  exact this
theorem refncmp2_any {a a2 : Option Addr} {c c2 T D : Nat} {cm : Int} {w : World} (h : Limbs Nil w a (nlen T) c (limbsOf T)) (h2 : Limbs Nil w a2 (nlen D) c2 (limbsOf D)) (hc : cm = cmpN T D) :
    Calls Tryz.prog 67 #[.slice a (nlen T) c, .slice a2 (nlen D) c2] w fun e w' => e = .returned (.int .i64 cm) ∧ Keeps Nil w w' := by
  have := refncmp_any h h2
  rw [nval_limbsOf, nval_limbsOf, ← hc] at this
  exact this
theorem refnsub2_any {M : Nat → Prop} {a a2 : Option Addr} {c c2 T D U : Nat} {w : World} (hM : MB M w) (h : Limbs Nil w a (nlen T) c (limbsOf T)) (h2 : Limbs Nil w a2 (nlen D) c2 (limbsOf D)) (hr : nlen T * 4 + 4 ≤ 140737488355328) (hDT : D ≤ T) (hU : U = T - D) :
    Calls Tryz.prog 68 #[.slice a (nlen T) c, .slice a2 (nlen D) c2] w fun e w' => ∃ a' c', e = .returned (.slice a' (nlen U) c') ∧ Limbs M w' a' (nlen U) c' (limbsOf U) ∧ Keeps Nil w w' := by
  have := refnsub_any hM h h2 hr (by rw [nval_limbsOf, nval_limbsOf]; exact hDT)
  rw [nval_limbsOf, nval_limbsOf, ← hU] at this
  exact this
/-- r as the division holds it. -/
def RestIs (g : Nat) (w : World) (v : Value) (r : Nat) : Prop := ∃ a c, v = .slice a (nlen r) c ∧ Limbs (One g) w a (nlen r) c (limbsOf r)
set_option maxHeartbeats 2000000 in
set_option maxRecDepth 100000 in
theorem refndiv_any {M : Nat → Prop} {a a2 : Option Addr} {n c n2 c2 : Nat} {l l2 : List Nat} {w : World} (hM : MB M w) (h : Limbs Nil w a n c l) (h2 : Limbs Nil w a2 n2 c2 l2) (hr : n * 4 ≤ 140737488355328) (hr2 : n2 * 4 + 16 ≤ 140737488355328) (hd : 0 < nval l2) :
    Calls Tryz.prog 126 #[.slice a n c, .slice a2 n2 c2] w fun e w' => ∃ a' c' a'' c'', e = .returned (.tuple #[.slice a' (nlen (nval l / nval l2)) c', .slice a'' (nlen (nval l % nval l2)) c'']) ∧ Limbs M w' a' (nlen (nval l / nval l2)) c' (limbsOf (nval l / nval l2)) ∧ Limbs M w' a'' (nlen (nval l % nval l2)) c'' (limbsOf (nval l % nval l2)) ∧ Keeps Nil w w' := by
  obtain ⟨i0, hi, hz0, hz1, hz2⟩ := info_parts info_u32
  have HL := Lib.hid (And.intro h h2)
  have HM := Lib.hid hM
  have hs := h.lt
  have HN := Lib.hid h.len
  have hnl2 : nlen (nval l2) ≤ n2 := by rw [← h2.len]; exact nlen_le h2.lt
  clear h h2 hM
  go_enter Tryz.func126, Tryz.ntmps126
  go_wp2_with (first | (go_at_call 95; refine (reftrim_any (M := Nil) (MB.nil _) HL.out.2 (by omega)).mono ?_; rintro e w1 ⟨a1, c1, rfl, h1, hk1⟩; have hs1 := hk1.size; have HX := Lib.hid (And.intro h1 hk1); clear h1 hk1) | (at_make; refine wpList_make_row _ rfl _ _ 36 rfl 66 i0 (.int .u32 0) Tryz.underlying36 hi hz0 hz1 rfl .i64 .i64 _ _ n rfl rfl rfl rfl (by rw [hz2]; omega) (by omega) ?_; intro w2 hrow hk2 hsz2; have HR := Lib.hid (And.intro hrow (And.intro hk2 hsz2)); clear hrow hk2 hsz2))
  obtain ⟨D, hD⟩ : ∃ D, D = nval l2 := ⟨_, rfl⟩
  rw [← hD] at hd hnl2 HX ⊢
  have HD := Lib.hid hD
  clear hD
  go_loopw [8, 9] (fun r i wr => ∃ k : Nat, k ≤ n ∧ i = .int .i64 ((k : Int) - 1) ∧ RowIs wr w1.heap.size 66 (zeros k (.int .u32 0) ++ u32s (quoK l D (n - k)).1) ∧ RestIs w1.heap.size wr r (quoK l D (n - k)).2 ∧ Keeps Nil w1 wr) (fun _ i _ => (intOf i + 1).toNat)
  case atStart => exact ⟨n, Nat.le_refl _, by go_num, by rw [Nat.sub_self]; simpa [quoK, u32s] using HR.out.1, by rw [Nat.sub_self]; exact ⟨none, 0, by simp [quoK, nlen, limbsOf_zero], by simp only [quoK, nlen, limbsOf_zero]; exact Limbs.none⟩, HR.out.2.1⟩
  case round =>
    obtain ⟨k, hk, rfl, hrow, hrest, hkk⟩ := hrel
    rename World => wo
    obtain ⟨q1, q2, q3, q4⟩ := quoK_spec' hs hd (n - k) (by rw [HN.out]; omega)
    have hg := hrow.lt
    cases k with
    | zero =>
      rw [show (((0 : Nat) : Int) - 1) = -1 from rfl]
      rw [Nat.sub_zero] at hrow hrest q1 q2
      rw [show zeros 0 (Value.int .u32 0) = [] from rfl, List.nil_append] at hrow
      obtain ⟨a9, c9, rfl, h9⟩ := hrest
      have hL := Limbs.ofRow hrow q2 (M := Nil) (fun h => h.elim) (by rw [q1]; omega)
      rw [q1] at hL
      obtain ⟨v1, v2⟩ := quoK_all' hs hd
      rw [HN.out] at v1 v2
      rw [v2] at h9 ⊢
      have hRl : nlen (nval l % D) ≤ n2 := by have := nlen_mono (Nat.le_of_lt (Nat.mod_lt (nval l) hd)); omega
      have HQL := Lib.hid (And.intro hL v1)
      have HR9 := Lib.hid (And.intro h9 (HX.out.2.trans hkk))
      clear hrow hL v1 v2 q1 q2 q3 q4 h9 hkk hg hs
      obtain ⟨r, hr9⟩ : ∃ r, r = nval l % D := ⟨_, rfl⟩
      obtain ⟨s, hs9⟩ : ∃ s, s = nval l / D := ⟨_, rfl⟩
      rw [← hr9] at HR9 hRl ⊢
      rw [← hs9] at HQL
      have HRS := Lib.hid (And.intro hr9 hs9)
      clear hr9 hs9
      go_wp2_with (first | (go_at_call 95; have hprev := H4; clear hprev; refine (reftrim2_any (M := M) (v := r) ((HM.out.keep HR9.out.2).keep H4.out.2) (HR9.out.1.keepNil H4.out.2) (by omega) (nval_limbsOf r)).mono ?_; rintro e w5 ⟨a5, c5, rfl, h5, hk5⟩; have H5 := Lib.hid (And.intro h5 hk5); clear h5 hk5) | (go_at_call 95; refine (reftrim2_any (M := M) (HM.out.keep HR9.out.2) HQL.out.1 (by omega) HQL.out.2).mono ?_; rintro e w4 ⟨a4, c4, rfl, h4, hk4⟩; have H4 := Lib.hid (And.intro h4 hk4); clear h4 hk4))
      go_ret2
      rw [← HD.out, ← HRS.out.1, ← HRS.out.2]
      exact ⟨_, _, _, _, rfl, H4.out.1.keepNil H5.out.2, H5.out.1, (HR9.out.2.trans H4.out.2).trans H5.out.2⟩
    | succ k =>
      rw [show (((k + 1 : Nat) : Int) - 1) = (k : Int) by omega]
      have i2 : (0 : Int) ≤ (k : Int) := by omega
      have HRow := Lib.hid hrow
      have HRest := Lib.hid hrest
      have HK := Lib.hid hkk
      obtain ⟨R, hR⟩ : ∃ R, R = (quoK l D (n - (k + 1))).2 := ⟨_, rfl⟩
      obtain ⟨L, hLe⟩ : ∃ L, L = u32s (quoK l D (n - (k + 1))).1 := ⟨_, rfl⟩
      obtain ⟨b, off, hbe, hb0, _, p0⟩ := (HL.out.1.keepNil HX.out.2).cell (k := k) (by omega)
      subst hbe
      have p1 := hkk.cellE hb0 id p0
      have hb1 := Nat.lt_of_lt_of_le hb0 hkk.size
      have hne : ¬ b = w1.heap.size := by omega
      have i3 : (k : Int) < (n : Int) := by omega
      have la := HL.out.1.lim_lt k
      obtain ⟨x, hx⟩ : ∃ x, x = lim l k := ⟨_, rfl⟩
      rw [← hx] at la p0 p1
      rw [← hR] at q3 HRest
      rw [← hLe] at HRow
      have HE := Lib.hid (And.intro hx (And.intro hR hLe))
      clear hrow hrest hkk hx hR hLe q1 q2 q4
      go_wp2_with fail
      go_loopw [8, 10] (fun r i wt => ∃ t : Nat, t ≤ 32 ∧ i = .int .i64 ((t : Int) - 1) ∧ RowIs wt w1.heap.size 66 (zeros k (.int .u32 0) ++ (Go.Rid.u32 (bitQ R x D t) :: L)) ∧ RestIs w1.heap.size wt r (bitV R x t % D) ∧ Keeps (One w1.heap.size) wo wt) (fun _ i _ => (intOf i + 1).toNat)
      case atStart =>
        obtain ⟨a9, c9, e9, h9⟩ := HRest.out
        refine ⟨32, Nat.le_refl _, by go_num, ?_, ⟨a9, c9, ?_, ?_⟩, Keeps.refl _ _⟩
        · rw [bitQ_start q3 la, ← zeros_mid]; exact HRow.out
        · rw [bitV_start R x la, Nat.mod_eq_of_lt q3]; exact e9
        · rw [bitV_start R x la, Nat.mod_eq_of_lt q3]; exact h9
      case round =>
        obtain ⟨t, ht, rfl, hrow, ⟨a5, c5, rfl, h5⟩, hkt⟩ := hrel
        cases t with
        | zero =>
          rw [show (((0 : Nat) : Int) - 1) = -1 from rfl]
          have HT := Lib.hid (And.intro hrow (And.intro h5 hkt))
          clear hrow h5 hkt
          go_wp2_with fail
          go_roundw
          case rel =>
            have e := quoK_last (D := D) HN.out hk
            rw [← HE.out.2.1, ← HE.out.1] at e
            refine ⟨k, by omega, by go_num, ?_, ⟨a5, c5, ?_, ?_⟩, HK.out.trans' HT.out.2.2 fun b hb => .inr (by cases (show b = w1.heap.size from hb); exact Nat.le_refl _)⟩
            · rw [e]; have := HT.out.1; rw [HE.out.2.2] at this; exact this
            · rw [e]
            · rw [e]; exact HT.out.2.1
          case measure => simp [intOf]
        | succ t =>
          rw [show (((t + 1 : Nat) : Int) - 1) = (t : Int) by omega]
          have j2 : (0 : Int) ≤ (t : Int) := by omega
          have HT := Lib.hid (And.intro hrow (And.intro h5 hkt))
          have p2 := hkt.cellE hb1 hne p1
          have hgt := hrow.lt
          have p3 := hrow.cell k
          rw [List.getElem?_append_right (by rw [length_zeros]; exact Nat.le_refl _), length_zeros, Nat.sub_self] at p3
          change _ = some (Value.int .u32 (bitQ R x D (t + 1) : Int)) at p3
          have hfit := bitV_fit R x t D hd q3 la (by omega)
          have hq := bitQ_step R x D t hd (by omega)
          have hv := (bit_quo (bitV R x (t + 1)) (x / 2 ^ t % 2) D hd (Nat.mod_lt _ (by decide)))
          obtain ⟨Q, hQ⟩ : ∃ Q, Q = bitQ R x D (t + 1) := ⟨_, rfl⟩
          obtain ⟨V, hV⟩ : ∃ V, V = bitV R x (t + 1) % D := ⟨_, rfl⟩
          rw [← hQ] at p3
          rw [← hV] at HT ⊢
          have HQ := Lib.hid (And.intro hQ (And.intro hV (And.intro hfit (And.intro hq hv))))
          clear hQ hV hfit hq hv
          have j3 : (t : Int) < 32 := by omega
          obtain ⟨B, hB⟩ : ∃ B, B = x / 2 ^ t % 2 := ⟨_, rfl⟩
          have eb : ((x : Int) / 2 ^ t).tmod 2 = (B : Int) := by rw [hB]; exact bit_tmod x t
          have hB2 : B < 2 := by rw [hB]; exact Nat.mod_lt _ (by decide)
          have HB := Lib.hid hB
          have hVD : V < D := by rw [HQ.out.2.1]; exact Nat.mod_lt _ hd
          have hVl : nlen V ≤ n2 := by have := nlen_mono (show V ≤ D by omega); omega
          have hTl : nlen (V * 2 + B) ≤ n2 + 1 := by
            have e1 := nlen_mono (show V * 2 + B ≤ D * 2 by omega)
            have e2 := nlen_mul D 2
            have e3 : nlen 2 ≤ 1 := nlen_le_of_lt (by rw [Bs_def]; decide)
            omega
          have hw1 := HT.out.2.2.size
          clear hB
          obtain ⟨T, hT⟩ : ∃ T, T = V * 2 + B := ⟨_, rfl⟩
          rw [← hT] at hTl
          have HTE := Lib.hid hT
          have HMg : MB (One w1.heap.size) wr := fun b hb => by cases (show b = w1.heap.size from hb); exact hgt
          have HMG := Lib.hid HMg
          obtain ⟨cm, hcv⟩ : ∃ cm : Int, cm = cmpN T D := ⟨_, rfl⟩
          obtain ⟨U, hU⟩ : ∃ U, U = T - D := ⟨_, rfl⟩
          have HC := Lib.hid (And.intro hcv hU)
          have hyk : Keeps Nil w1 wr := HK.out.trans' HT.out.2.2 fun b hb => .inr (by cases (show b = w1.heap.size from hb); exact Nat.le_refl _)
          have HY := Lib.hid (HX.out.1.keepNil hyk)
          clear HMg hyk hU
          by_cases hDT : D ≤ T
          · have hc0 : (0 : Int) ≤ cm := by
              rw [hcv]; unfold cmpN
              rw [if_neg (by omega)]
              split <;> omega
            have HDT := Lib.hid hDT
            clear hcv hT hDT
            go_upto_region 14 with (first | (go_at_call 144; refine (reftimes2_any (M := One w1.heap.size) (T := T) HMG.out (HT.out.2.1.turn fun _ _ h => h.elim) (by omega) (by omega) HTE.out).mono ?_; rintro e w4 ⟨a6, c6, rfl, h6, hk6⟩; have H6 := Lib.hid (And.intro h6 hk6); clear h6 hk6) | (go_at_call 67; refine (refncmp2_any (H6.out.1.turn fun _ _ h => h.elim) (HY.out.keepNil H6.out.2) HC.out.1).mono ?_; rintro e w5 ⟨rfl, hk5⟩; have H5 := Lib.hid hk5; clear hk5) | (go_at_call 68; refine (refnsub2_any (M := One w1.heap.size) (HMG.out.keep (H6.out.2.trans H5.out)) ((H6.out.1.turn fun _ _ h => h.elim).keepNil H5.out) (HY.out.keepNil (H6.out.2.trans H5.out)) (by omega) HDT.out HC.out.2).mono ?_; rintro e w6 ⟨a8, c8, rfl, h8, hk8⟩; have H8 := Lib.hid (And.intro h8 hk8); clear h8 hk8))
            have hk6 : Keeps Nil wr w6 := H6.out.2.trans (H5.out.trans H8.out.2)
            have r6 := HT.out.1.keep hk6 id
            have p6 := hk6.cellE hgt id p3
            have f6 := r6.frozen k
            have hg6 := r6.lt
            have HK6 := Lib.hid (And.intro hk6 r6)
            clear hk6 r6
            go_wp2_with fail
            refine wp_region_till (Keeps Nil w6) [10] (by kernel_rfl) ?_
            have hS : Keeps Nil w6 (World.drew w6) := (by repeat (first | exact Keeps.refl _ _ | refine Keeps.drew ?_ | refine Keeps.drewN ?_ _ | refine Keeps.alloc ?_ _))
            refine wpTill_take (i := 0) (v := ?v1) rfl (by kernel_rfl) (fun _ _ _ h => h) (Or.inl ⟨by rfl, ?y1⟩) hS ?r1
            case y1 => (intro w' hSw; obtain ⟨hrc, hrf⟩ := hSw.rules; clear hSw;  go_simp; (try with_reducible rfl))
            try simp only [Act.put, List.setIfInBounds_toArray, List.set_cons_zero, List.set_cons_succ]
            refine wpTill_take (i := 1) (v := ?v2) rfl (by kernel_rfl) (fun _ _ _ h => h) (Or.inl ⟨by rfl, ?y2⟩) hS ?r2
            case y2 => (intro w' hSw; obtain ⟨hrc, hrf⟩ := hSw.rules; clear hSw;  go_simp; (try with_reducible rfl))
            try simp only [Act.put, List.setIfInBounds_toArray, List.set_cons_zero, List.set_cons_succ]
            refine wpTill_take (i := 2) (v := ?v3) rfl (by kernel_rfl) (fun _ _ _ h => h) (Or.inl ⟨by rfl, ?y3⟩) hS ?r3
            case y3 => (intro w' hSw; obtain ⟨hrc, hrf⟩ := hSw.rules; clear hSw;  go_simp; (try with_reducible rfl))
            try simp only [Act.put, List.setIfInBounds_toArray, List.set_cons_zero, List.set_cons_succ]
            refine wpTill_take (i := 3) (v := ?v4) rfl (by kernel_rfl) (fun _ _ _ h => h) (Or.inl ⟨by rfl, ?y4⟩) hS ?r4
            case y4 => (intro w' hSw; obtain ⟨hrc, hrf⟩ := hSw.rules; clear hSw;  go_simp; (try with_reducible rfl))
            try simp only [Act.put, List.setIfInBounds_toArray, List.set_cons_zero, List.set_cons_succ]
            refine wpTill_take (i := 4) (v := ?v5) rfl (by kernel_rfl) (fun _ _ _ h => h) (Or.inl ⟨by rfl, ?y5⟩) hS ?r5
            case y5 => (intro w' hSw; obtain ⟨hrc, hrf⟩ := hSw.rules; clear hSw;  go_simp; (try with_reducible rfl))
            try simp only [Act.put, List.setIfInBounds_toArray, List.set_cons_zero, List.set_cons_succ]
            refine wpTill_take (i := 5) (v := ?v6) rfl (by kernel_rfl) (fun _ _ _ h => h) (Or.inl ⟨by rfl, ?y6⟩) hS ?r6
            case y6 => (intro w' hSw; obtain ⟨hrc, hrf⟩ := hSw.rules; clear hSw;  go_simp; (try with_reducible rfl))
            try simp only [Act.put, List.setIfInBounds_toArray, List.set_cons_zero, List.set_cons_succ]
            refine wpTill_take (i := 6) (v := ?v7) rfl (by kernel_rfl) (fun _ _ _ h => h) (Or.inl ⟨by rfl, ?y7⟩) hS ?r7
            case y7 => (intro w' hSw; obtain ⟨hrc, hrf⟩ := hSw.rules; clear hSw;  go_simp; (try with_reducible rfl))
            try simp only [Act.put, List.setIfInBounds_toArray, List.set_cons_zero, List.set_cons_succ]
            refine wpTill_take (i := 7) (v := ?v8) rfl (by kernel_rfl) (fun _ _ _ h => h) (Or.inl ⟨by rfl, ?y8⟩) hS ?r8
            case y8 => (intro w' hSw; obtain ⟨hrc, hrf⟩ := hSw.rules; clear hSw;  go_simp; (try with_reducible rfl))
            try simp only [Act.put, List.setIfInBounds_toArray, List.set_cons_zero, List.set_cons_succ]
            refine wpTill_take (i := 8) (v := ?v9) rfl (by kernel_rfl) (fun _ _ _ h => h) (Or.inl ⟨by rfl, ?y9⟩) hS ?r9
            case y9 => (intro w' hSw; obtain ⟨hrc, hrf⟩ := hSw.rules; clear hSw;  go_simp; (try with_reducible rfl))
            try simp only [Act.put, List.setIfInBounds_toArray, List.set_cons_zero, List.set_cons_succ]
            refine wpTill_take (i := 9) (v := ?v10) rfl (by kernel_rfl) (fun _ _ _ h => h) (Or.inl ⟨by rfl, ?y10⟩) hS ?r10
            case y10 => (intro w' hSw; obtain ⟨hrc, hrf⟩ := hSw.rules; clear hSw;  go_simp; (try with_reducible rfl))
            try simp only [Act.put, List.setIfInBounds_toArray, List.set_cons_zero, List.set_cons_succ]
            refine wpTill_ready (rs := [10]) (by kernel_rfl) (by simp) ?_
            refine AllTill.consT rfl (by decide) (fun K hK => ?_) AllTill.nil
            go_simp
            refine hK.out _ _ ?_
            clear hK K
            try simp only [Act.put, List.setIfInBounds_toArray, List.set_cons_zero, List.set_cons_succ]
            refine wpTill_done (by kernel_rfl) ?_ _
            skip
            go_wp2_with fail
            have he := bit_yes hd (by omega) HQ.out.2.1 HB.out HTE.out HDT.out
            have hfit := HQ.out.2.2.1
            change bitQ R x D t < 4294967296 at hfit
            rw [he.2, ← HQ.out.1] at hfit
            rw [shl_fit hfit]
            have r7 := HK6.out.2.set k (.int .u32 ((Q + 2 ^ t : Nat) : Int))
            rw [set_mid] at r7
            refine ⟨⟨t, by omega, by go_num, ?_, ⟨_, _, by rw [he.1, ← HC.out.2], ?_⟩, ?_⟩, by simp [intOf]⟩
            · rw [he.2, ← HQ.out.1]; exact r7
            · rw [he.1, ← HC.out.2]
              exact H8.out.1.keep (Keeps.drew ((Keeps.refl (One w1.heap.size) w6).set1 k _)) fun _ _ h => h
            · exact (HT.out.2.2.transNil HK6.out.1).trans (Keeps.drew ((Keeps.refl (One w1.heap.size) w6).set1 k _))
          · have hc0 : ¬ (0 : Int) ≤ cm := by
              rw [hcv]; unfold cmpN
              rw [if_pos (by omega)]
              decide
            have HDT := Lib.hid hDT
            clear hcv hT hDT
            go_wp2_with (first | (go_at_call 144; refine (reftimes2_any (M := One w1.heap.size) (T := T) HMG.out (HT.out.2.1.turn fun _ _ h => h.elim) (by omega) (by omega) HTE.out).mono ?_; rintro e w4 ⟨a6, c6, rfl, h6, hk6⟩; have H6 := Lib.hid (And.intro h6 hk6); clear h6 hk6) | (go_at_call 67; refine (refncmp2_any (H6.out.1.turn fun _ _ h => h.elim) (HY.out.keepNil H6.out.2) HC.out.1).mono ?_; rintro e w5 ⟨rfl, hk5⟩; have H5 := Lib.hid hk5; clear hk5))
            go_roundw
            case rel =>
              have he := bit_no hd (by omega) HQ.out.2.1 HB.out HTE.out HDT.out
              have hk5 : Keeps Nil wr w5 := H6.out.2.trans H5.out
              refine ⟨t, by omega, by go_num, ?_, ⟨_, _, by rw [he.1], ?_⟩, ?_⟩
              · rw [he.2]; exact HT.out.1.keep hk5 id
              · rw [he.1]; exact H6.out.1.keepNil H5.out
              · exact HT.out.2.2.transNil hk5
            case measure => simp [intOf]
end Go.Proofs.YtfkclbhddiidbaaGreat

namespace Go.Rid
theorem ZAt.abs {M : Nat → Prop} {w : World} {g : Bool} {a : Option Addr} {n c : Nat} {z : Int} (h : ZAt M w g a n c z) : ZAt M w false a n c (z.natAbs : Int) := by
  obtain ⟨l, h1, h2, rfl⟩ := h
  refine ⟨l, h1, h2, ?_⟩
  rw [natAbs_ival]; rfl
theorem ival_mul (g g2 : Bool) (l l2 : List Nat) : (if (!(g == g2)) = true then -((nval l * nval l2 : Nat) : Int) else ((nval l * nval l2 : Nat) : Int)) = ival (g, l) * ival (g2, l2) := by
  cases g <;> cases g2 <;> simp [ival, Int.neg_mul_neg, Int.mul_neg, Int.neg_mul]
end Go.Rid
namespace Go.Proofs.YtfkclbhddiidbaaGreat
open Go.RowKit Go.Rid
set_option maxHeartbeats 1000000 in
theorem refabs_any {M : Nat → Prop} {g : Bool} {a : Option Addr} {n c : Nat} {z : Int} {w : World} (hM : MB M w) (h : ZAt Nil w g a n c z) :
    Calls Tryz.prog 97 #[.agg #[.bool g, .slice a n c]] w fun e w' => ZRet M w (z.natAbs : Int) e w' := by
  have HH := Lib.hid h
  have HM := Lib.hid hM
  clear h hM
  go_enter Tryz.func97, Tryz.ntmps97
  go_wp2_with (go_at_call 60; refine (refnorm_any (M := With M (w.heap.size + 1)) (HM.out.withNew2 _ _) (HH.out.abs.keepNil (by repeat (first | exact Keeps.refl _ _ | refine Keeps.drew ?_ | refine Keeps.drewN ?_ _ | refine Keeps.alloc ?_ _)))).mono ?_; rintro e w' ⟨g', a', n', c', rfl, h', hk'⟩; have r := (RowIs.alloc (w := w.alloc (.cells #[.bool g, .slice a n c] 38)) (E := 38) (xs := [.bool false, .slice none 0 0])).keep hk' id; rw [show (w.alloc (.cells #[.bool g, .slice a n c] 38)).heap.size = w.heap.size + 1 by simp] at r; obtain ⟨c0, c1, f0, f1⟩ := r.two; have HT := Lib.hid (And.intro h' hk'); clear h' hk' r)
  exact bodyPost_ret (v := .agg #[.bool g', .slice a' n' c']) (by simp [results, Tryz.results97, go_sem, c0, c1]) rfl ⟨_, _, _, _, rfl, HT.out.1.less (Keeps.pair _ _), ((((Keeps.refl Nil w).alloc _).alloc _).trans HT.out.2).own (by omega) (Keeps.pair _ _)⟩
set_option maxHeartbeats 1000000 in
theorem refzmul_any {M : Nat → Prop} {g g2 : Bool} {a a2 : Option Addr} {n c n2 c2 : Nat} {z z2 : Int} {w : World} (hM : MB M w) (h : ZAt Nil w g a n c z) (h2 : ZAt Nil w g2 a2 n2 c2 z2) (hr : (n + n2) * 4 + 16 ≤ 140737488355328) :
    Calls Tryz.prog 127 #[.agg #[.bool g, .slice a n c], .agg #[.bool g2, .slice a2 n2 c2]] w fun e w' => ZRet M w (z * z2) e w' := by
  obtain ⟨l, hl, _, hlz⟩ := h
  obtain ⟨l2, hl2, _, hlz2⟩ := h2
  have hfit : nlen (nval l * nval l2) * 4 ≤ 140737488355328 := by
    have e1 := nlen_mul (nval l) (nval l2)
    have e2 := nlen_le hl.lt
    have e3 := nlen_le hl2.lt
    rw [hl.len] at e2
    rw [hl2.len] at e3
    omega
  have HF := Lib.hid (And.intro hfit hr)
  have HA := Lib.hid hl
  have HB := Lib.hid hl2
  have HM := Lib.hid hM
  subst hlz hlz2
  clear hl hl2 hM hfit hr
  have hrs := rows3 w 38 (.bool g) (.slice a n c) (.bool g2) (.slice a2 n2 c2) (.bool false) (.slice none 0 0)
  have HRS := Lib.hid hrs
  clear hrs
  go_enter Tryz.func127, Tryz.ntmps127
  go_wp2_with fail
  obtain ⟨r0, r1, r2, hk0⟩ := HRS.out
  clear HRS
  generalize (((w.alloc (.cells #[.bool g, .slice a n c] 38)).alloc (.cells #[.bool g2, .slice a2 n2 c2] 38)).alloc (.cells #[.bool false, .slice none 0 0] 38)) = w0 at *
  obtain ⟨c00, c01, _, _⟩ := r0.two
  obtain ⟨c10, c11, _, _⟩ := r1.two
  obtain ⟨c20, c21, f20, f21⟩ := r2.two
  have b0 := r0.lt
  have b1 := r1.lt
  have b2 := r2.lt
  have H0 := Lib.hid (And.intro hk0 r2)
  clear hk0 r0 r1 r2
  have ne1 : ¬ w.heap.size = w.heap.size + 1 + 1 := by omega
  have ne2 : ¬ w.heap.size + 1 + 1 = w.heap.size := by omega
  go_region_held3 (fun w' => w'.cell? ⟨w.heap.size, 0, none⟩ = some (.bool g) ∧ w'.cell? ⟨w.heap.size, 1, none⟩ = some (.slice a n c) ∧ w'.cell? ⟨w.heap.size + 1, 0, none⟩ = some (.bool g2) ∧ w'.cell? ⟨w.heap.size + 1, 1, none⟩ = some (.slice a2 n2 c2)) (go_keep) (first | (go_at_call 145; refine (refnmul_any (M := Nil) (MB.nil _) ((HA.out.keepNil H0.out.1).keepNil (by repeat (first | exact Keeps.refl _ _ | refine Keeps.drew ?_ | refine Keeps.drewN ?_ _ | refine Keeps.alloc ?_ _))) ((HB.out.keepNil H0.out.1).keepNil (by repeat (first | exact Keeps.refl _ _ | refine Keeps.drew ?_ | refine Keeps.drewN ?_ _ | refine Keeps.alloc ?_ _))) HF.out.2).mono ?_; rintro e w1 ⟨a1, c1, rfl, h1, hk1⟩; have d00 := hk1.cellE b0 id c00; have d01 := hk1.cellE b0 id c01; have d10 := hk1.cellE b1 id c10; have d11 := hk1.cellE b1 id c11; have H1 := Lib.hid h1; clear h1) | (go_at_call 60; refine (refnorm_any (M := With M (w.heap.size + 1 + 1)) ((((HM.out.keep H0.out.1).with b2).keep (M' := Nil) (by repeat (first | exact Keeps.refl _ _ | refine Keeps.drew ?_ | refine Keeps.drewN ?_ _ | refine Keeps.alloc ?_ _))).keep hk1) (zat_of _ H1.out HF.out.1)).mono ?_; rintro e w2 ⟨g', a', n', c', rfl, h', hk2⟩; have e00 := hk2.cellE (Nat.lt_of_lt_of_le b0 hk1.size) id d00; have e01 := hk2.cellE (Nat.lt_of_lt_of_le b0 hk1.size) id d01; have e10 := hk2.cellE (Nat.lt_of_lt_of_le b1 hk1.size) id d10; have e11 := hk2.cellE (Nat.lt_of_lt_of_le b1 hk1.size) id d11; have r2' := RowIs.keep (RowIs.keep (RowIs.keep H0.out.2 (M := Nil) (by repeat (first | exact Keeps.refl _ _ | refine Keeps.drew ?_ | refine Keeps.drewN ?_ _ | refine Keeps.alloc ?_ _)) id) hk1 id) hk2 id; obtain ⟨c0, c1', f0, f1⟩ := r2'.two; have HT := Lib.hid h'; clear h' r2'))
  go_wp2
  have hzz := HT.out
  rw [ival_mul] at hzz
  exact bodyPost_ret (v := .agg #[.bool g', .slice a' n' c']) (by simp [results, Tryz.results127, go_sem, c0, c1']) rfl ⟨_, _, _, _, rfl, hzz.less (Keeps.pair _ _), (((H0.out.1.trans (by repeat (first | exact Keeps.refl _ _ | refine Keeps.drew ?_ | refine Keeps.drewN ?_ _ | refine Keeps.alloc ?_ _))).trans hk1).trans hk2).own (by omega) (Keeps.pair _ _)⟩
end Go.Proofs.YtfkclbhddiidbaaGreat

namespace Go.Rid
theorem sign_three (z : Int) : (z < 0 ∧ z.sign = -1) ∨ (z = 0 ∧ z.sign = 0) ∨ (0 < z ∧ z.sign = 1) := by
  rcases Int.lt_trichotomy z 0 with h | h | h
  · exact .inl ⟨h, Int.sign_eq_neg_one_of_neg h⟩
  · exact .inr (.inl ⟨h, by rw [h]; rfl⟩)
  · exact .inr (.inr ⟨h, Int.sign_eq_one_of_pos h⟩)
theorem cmpN_bound (a b : Nat) : -1 ≤ cmpN a b ∧ cmpN a b ≤ 1 := by unfold cmpN; split <;> (try split) <;> omega
end Go.Rid
namespace Go.Proofs.YtfkclbhddiidbaaGreat
open Go.RowKit Go.Rid
set_option maxHeartbeats 1000000 in
theorem refsign_any {g : Bool} {a : Option Addr} {n c : Nat} {z : Int} {w : World} (h : ZAt Nil w g a n c z) :
    Calls Tryz.prog 63 #[.agg #[.bool g, .slice a n c]] w fun e w' => e = .returned (.int .i64 z.sign) ∧ Keeps Nil w w' := by
  have hk0 : Keeps Nil w (w.alloc (.cells #[.bool g, .slice a n c] 38)) := (by repeat (first | exact Keeps.refl _ _ | refine Keeps.drew ?_ | refine Keeps.drewN ?_ _ | refine Keeps.alloc ?_ _))
  have r0 := RowIs.alloc (w := w) (E := 38) (xs := [.bool g, .slice a n c])
  change RowIs (w.alloc (.cells #[.bool g, .slice a n c] 38)) _ _ _ at r0
  have HA := Lib.hid (h.keepNil hk0)
  clear h
  go_enter Tryz.func63, Tryz.ntmps63
  go_upto_region 1 with (fail)
  generalize w.alloc (.cells #[.bool g, .slice a n c] 38) = w0 at *
  obtain ⟨c0, c1, _, _⟩ := r0.two
  have HK := Lib.hid hk0
  clear r0 hk0
  go_upto_region 2 with (go_at_call 60; refine (refnorm_any (M := Nil) (MB.nil _) HA.out).mono ?_; rintro e w1 ⟨g1, a1, n1, m1, rfl, h1, hk1⟩)
  have hl := h1.len
  have hgz := h1.1
  have HK1 := Lib.hid (HK.out.trans hk1)
  clear h1 hk1 c0 c1
  rcases sign_three z with ⟨hz, hs⟩ | ⟨hz, hs⟩ | ⟨hz, hs⟩
  · have hn : ¬ n1 = 0 := fun e => by
      have h1 := lt_pow_nlen z.natAbs
      rw [← hl, e] at h1; simp at h1; omega
    have e1 : ((n1 : Int) == 0) = false := by simpa using hn
    have e2 : ¬ (n1 : Int) = 0 := by omega
    have e3 : g1 = true := by rw [hgz]; exact decide_eq_true hz
    subst e3
    have HSS := Lib.hid hs
    clear hl hgz hs hz
    go_wp2_with fail
    go_ret
    rw [HSS.out]
    exact ⟨rfl, HK1.out.trans (by repeat (first | exact Keeps.refl _ _ | refine Keeps.drew ?_ | refine Keeps.drewN ?_ _ | refine Keeps.alloc ?_ _))⟩
  · have hn : n1 = 0 := by rw [hl, hz]; simp [nlen, limbsOf_zero]
    subst hn
    have HSS := Lib.hid hs
    clear hl hgz hs hz
    go_wp2_with fail
    go_ret
    rw [HSS.out]
    exact ⟨rfl, HK1.out.trans (by repeat (first | exact Keeps.refl _ _ | refine Keeps.drew ?_ | refine Keeps.drewN ?_ _ | refine Keeps.alloc ?_ _))⟩
  · have hn : ¬ n1 = 0 := fun e => by
      have h1 := lt_pow_nlen z.natAbs
      rw [← hl, e] at h1; simp at h1; omega
    have e1 : ((n1 : Int) == 0) = false := by simpa using hn
    have e2 : ¬ (n1 : Int) = 0 := by omega
    have e3 : g1 = false := by rw [hgz]; exact decide_eq_false (by omega)
    subst e3
    have HSS := Lib.hid hs
    clear hl hgz hs hz
    go_wp2_with fail
    go_ret
    rw [HSS.out]
    exact ⟨rfl, HK1.out.trans (by repeat (first | exact Keeps.refl _ _ | refine Keeps.drew ?_ | refine Keeps.drewN ?_ _ | refine Keeps.alloc ?_ _))⟩
set_option maxHeartbeats 2000000 in
theorem refcmp_any {g g2 : Bool} {a a2 : Option Addr} {n c n2 c2 : Nat} {z z2 : Int} {w : World} (h : ZAt Nil w g a n c z) (h2 : ZAt Nil w g2 a2 n2 c2 z2) :
    Calls Tryz.prog 79 #[.agg #[.bool g, .slice a n c], .agg #[.bool g2, .slice a2 n2 c2]] w fun e w' => e = .returned (.int .i64 (cmpZ z z2)) ∧ Keeps Nil w w' := by
  obtain ⟨r0, r1, hk0⟩ := rows2 w 38 (.bool g) (.slice a n c) (.bool g2) (.slice a2 n2 c2)
  have HA := Lib.hid (And.intro (h.keepNil hk0) (h2.keepNil hk0))
  obtain ⟨l, hl, _, hlz⟩ := h
  obtain ⟨l2, hl2, _, hlz2⟩ := h2
  have hv : nval l = z.natAbs := by rw [← hlz, natAbs_ival]
  have hv2 : nval l2 = z2.natAbs := by rw [← hlz2, natAbs_ival]
  have HL := Lib.hid (And.intro (hl.keepNil hk0) (And.intro (hl2.keepNil hk0) (And.intro hv hv2)))
  obtain ⟨cm, hcm⟩ : ∃ cm : Int, cm = cmpN (nval l) (nval l2) := ⟨_, rfl⟩
  have hb := cmpN_bound (nval l) (nval l2)
  rw [← hcm] at hb
  obtain ⟨hb1, hb2⟩ := hb
  have HC := Lib.hid hcm
  clear hl hl2 hlz hlz2 hv hv2 hcm
  go_enter Tryz.func79, Tryz.ntmps79
  go_upto_region 1 with (fail)
  generalize (w.alloc (.cells #[.bool g, .slice a n c] 38)).alloc (.cells #[.bool g2, .slice a2 n2 c2] 38) = w0 at *
  obtain ⟨c00, c01, _, _⟩ := r0.two
  obtain ⟨c10, c11, _, _⟩ := r1.two
  have HR := Lib.hid (And.intro r0 (And.intro r1 hk0))
  clear r0 r1 hk0
  go_upto_region 3 with (first | (go_at_call 63; have hprev := hk1; clear hprev; refine (refsign_any (HA.out.2.keepNil hk1)).mono ?_; rintro e w2 ⟨rfl, hk2⟩; obtain ⟨c00, c01, _, _⟩ := ((HR.out.1.keep hk1 id).keep hk2 id).two; obtain ⟨c10, c11, _, _⟩ := ((HR.out.2.1.keep hk1 id).keep hk2 id).two) | (go_at_call 63; refine (refsign_any HA.out.1).mono ?_; rintro e w1 ⟨rfl, hk1⟩; obtain ⟨c00, c01, _, _⟩ := (HR.out.1.keep hk1 id).two; obtain ⟨c10, c11, _, _⟩ := (HR.out.2.1.keep hk1 id).two))
  have HK := Lib.hid (And.intro (hk1.trans hk2) (HR.out.2.2.trans (hk1.trans hk2)))
  clear hk1 hk2
  rcases sign_three z with ⟨hz, hs⟩ | ⟨hz, hs⟩ | ⟨hz, hs⟩ <;> rcases sign_three z2 with ⟨hz2, hs2⟩ | ⟨hz2, hs2⟩ | ⟨hz2, hs2⟩
  all_goals
    rw [hs, hs2]
    have HZ := Lib.hid (And.intro hz hz2)
    clear hz hz2 hs hs2
    go_wp2_with (go_at_call 67; refine (refncmp_any (HL.out.1.keepNil HK.out.1) (HL.out.2.1.keepNil HK.out.1)).mono ?_; rintro e w3 ⟨rfl, hk3⟩; rw [← HC.out])
    go_ret
    refine ⟨congrArg (fun x => Ending.returned (Value.int .i64 x)) ?_, HK.out.2.trans (by first | exact Keeps.refl _ _ | exact hk3)⟩
    have h1 := HC.out
    obtain ⟨hz, hz2⟩ := HZ.out
    rw [HL.out.2.2.1, HL.out.2.2.2] at h1
    unfold cmpN at h1
    unfold cmpZ
    repeat' split
    all_goals (repeat' split at h1)
    all_goals omega
end Go.Proofs.YtfkclbhddiidbaaGreat

namespace Go.Rid
theorem nlen_pos {r : Nat} : 0 < nlen r ↔ r ≠ 0 := by
  constructor
  · intro h e; rw [e] at h; simp [nlen, limbsOf_zero] at h
  · intro h
    rcases Nat.eq_zero_or_pos (nlen r) with h0 | h0
    · have := lt_pow_nlen r; rw [h0] at this; simp at this; omega
    · exact h0
theorem rem0_zero {z z2 : Int} {r : Nat} (hr : r = z.natAbs % z2.natAbs) : (rem0 z z2 = 0 ↔ r = 0) ∧ (r ≠ 0 → neg (rem0 z z2) = neg z) := by
  have h1 := rem0_abs z z2
  rw [← hr] at h1
  refine ⟨by omega, fun h => ?_⟩
  unfold rem0 at *
  rw [← hr]
  by_cases hz : neg z = true
  · rw [if_pos hz, hz]; unfold neg; exact decide_eq_true (by omega)
  · rw [if_neg hz]; simp only [Bool.not_eq_true] at hz; rw [hz]; unfold neg; exact decide_eq_false (by omega)
theorem fdiv_less {z z2 : Int} {r : Nat} (h0 : z2 ≠ 0) (hr : r = z.natAbs % z2.natAbs) (h : neg z ≠ neg z2 ∧ r ≠ 0) : quo0 z z2 - 1 = z.fdiv z2 := by
  obtain ⟨h1, h2⟩ := rem0_zero hr
  exact (floor_turn h0 (fun e => h.2 (h1.1 e)) (by rw [h2 h.2]; exact h.1)).1
theorem fdiv_keep {z z2 : Int} {r : Nat} (h0 : z2 ≠ 0) (hr : r = z.natAbs % z2.natAbs) (h : ¬ (neg z ≠ neg z2 ∧ r ≠ 0)) : quo0 z z2 = z.fdiv z2 := by
  obtain ⟨h1, h2⟩ := rem0_zero hr
  refine (floor_keep h0 ?_).1
  by_cases hr0 : r = 0
  · exact .inl (h1.2 hr0)
  · refine .inr ?_
    rw [h2 hr0]
    by_cases hn : neg z = neg z2
    · exact hn
    · exact absurd ⟨hn, hr0⟩ h
theorem nlen_fdiv {z z2 : Int} (h0 : z2 ≠ 0) : nlen (z.fdiv z2).natAbs ≤ nlen z.natAbs + 2 := by
  have e1 := nlen_quo0 z z2
  have e2 := nlen_natAbs_add (quo0 z z2) (-1)
  have e3 : nlen (-1 : Int).natAbs ≤ 1 := nlen_le_of_lt (by decide)
  by_cases h : neg z ≠ neg z2 ∧ z.natAbs % z2.natAbs ≠ 0
  · rw [← fdiv_less h0 rfl h, Int.sub_eq_add_neg]; omega
  · rw [← fdiv_keep h0 rfl h]; omega
end Go.Rid
namespace Go.Proofs.YtfkclbhddiidbaaGreat
open Go.RowKit Go.Rid
theorem refndiv2_any {M : Nat → Prop} {a a2 : Option Addr} {n c n2 c2 x y : Nat} {w : World} (hM : MB M w) (h : Limbs Nil w a n c (limbsOf x)) (h2 : Limbs Nil w a2 n2 c2 (limbsOf y)) (hr : n * 4 ≤ 140737488355328) (hr2 : n2 * 4 + 16 ≤ 140737488355328) (hd : 0 < nval (limbsOf y)) :
    Calls Tryz.prog 126 #[.slice a n c, .slice a2 n2 c2] w fun e w' => ∃ a' c' a'' c'', e = .returned (.tuple #[.slice a' (nlen (x / y)) c', .slice a'' (nlen (x % y)) c'']) ∧ Limbs M w' a' (nlen (x / y)) c' (limbsOf (x / y)) ∧ Limbs M w' a'' (nlen (x % y)) c'' (limbsOf (x % y)) ∧ Keeps Nil w w' := by
  have := refndiv_any hM h h2 hr hr2 hd
  rw [nval_limbsOf, nval_limbsOf] at this
  exact this
/-- The quotient's box. -/
def QuoAt (wE wG : World) (b : Nat) (z : Int) (wx : World) : Prop := ∃ g a n c, RowIs wx b 38 [.bool g, .slice a n c] ∧ ZN (Old wE) wx g a n c z ∧ Keeps (One b) wG wx
set_option maxHeartbeats 2000000 in
set_option maxRecDepth 100000 in
theorem refzdiv_any {M : Nat → Prop} {g g2 : Bool} {a a2 : Option Addr} {n c n2 c2 : Nat} {z z2 : Int} {w : World} (hM : MB M w) (h : ZAt Nil w g a n c z) (h2 : ZAt Nil w g2 a2 n2 c2 z2) (h0 : z2 ≠ 0) (hr : (n + n2) * 4 + 32 ≤ 140737488355328) :
    Calls Tryz.prog 107 #[.agg #[.bool g, .slice a n c], .agg #[.bool g2, .slice a2 n2 c2]] w fun e w' => Divs M w z z2 e w' := by
  have hl := h.nlen_le
  have hl2 := h2.nlen_le
  have HN := Lib.hid (show (nlen z.natAbs + nlen z2.natAbs) * 4 + 32 ≤ 140737488355328 by omega)
  have HA := Lib.hid h
  have HB := Lib.hid h2
  have HM := Lib.hid hM
  have H00 := Lib.hid h0
  have HRS := Lib.hid (rows4 w 38 (.bool g) (.slice a n c) (.bool g2) (.slice a2 n2 c2) (.bool false) (.slice none 0 0) (.bool false) (.slice none 0 0))
  have hsg : ¬ z2.sign = 0 := fun e => h0 (Int.sign_eq_zero_iff_zero.1 e)
  have hsg2 : (z2.sign == 0) = false := by simpa using hsg
  clear h h2 hM hr hl hl2 h0
  go_enter Tryz.func107, Tryz.ntmps107
  go_upto_region 1 with (fail)
  obtain ⟨r0, r1, r2, r3, hk0⟩ := HRS.out
  clear HRS
  generalize ((((w.alloc (.cells #[.bool g, .slice a n c] 38)).alloc (.cells #[.bool g2, .slice a2 n2 c2] 38)).alloc (.cells #[.bool false, .slice none 0 0] 38)).alloc (.cells #[.bool false, .slice none 0 0] 38)) = w0 at *
  obtain ⟨c00, c01, f00, f01⟩ := r0.two
  obtain ⟨c10, c11, f10, f11⟩ := r1.two
  have b0 := r0.lt
  have b1 := r1.lt
  have H0 := Lib.hid (And.intro hk0 (And.intro r2 r3))
  clear hk0 r2 r3
  go_upto_region 6 with (first | (go_at_call 63; refine (refsign_any (HB.out.keepNil H0.out.1)).mono ?_; rintro e w1 ⟨rfl, hk1⟩; have c00 := hk1.cellE b0 id c00; have c01 := hk1.cellE b0 id c01; have c10 := hk1.cellE b1 id c10; have c11 := hk1.cellE b1 id c11; have HK1 := Lib.hid hk1; have hb1 := Nat.lt_of_lt_of_le b1 hk1.size; clear hk1) | (go_at_call_of 60 (Value.agg #[.bool g, .slice a n c]); refine (refnorm_any (M := Old w1) (MB.old _) (HA.out.keepNil (H0.out.1.trans HK1.out))).mono ?_; rintro e w2 ⟨g3, a3, n3, c3, rfl, h3, hk2⟩; have c10 := hk2.cellE hb1 id c10; have c11 := hk2.cellE hb1 id c11; have hb2 := Nat.lt_of_lt_of_le hb1 hk2.size; have H2 := Lib.hid (And.intro h3 hk2); clear h3 hk2) | (go_at_call_of 60 (Value.agg #[.bool g2, .slice a2 n2 c2]); refine (refnorm_any (M := Nil) (MB.nil _) (HB.out.keepNil ((H0.out.1.trans HK1.out).trans (H2.out.2.trans (by repeat (first | exact Keeps.refl _ _ | refine Keeps.drew ?_ | refine Keeps.drewN ?_ _ | refine Keeps.alloc ?_ _)))))).mono ?_; rintro e w4 ⟨g4, a4, n4, c4, rfl, h4, hk4⟩; obtain ⟨x0, x1, y0, y1⟩ := ((RowIs.alloc (w := w2) (E := 38) (xs := [.bool g3, .slice a3 n3 c3])).keep hk4 id).two; have hb4 := ((RowIs.alloc (w := w2) (E := 38) (xs := [.bool g3, .slice a3 n3 c3])).keep hk4 id).lt; have H4 := Lib.hid (And.intro h4 hk4); clear h4 hk4))
  have hg3 := H2.out.1.1
  have hg4 := H4.out.1.1
  subst hg3 hg4
  have kA : Keeps Nil w2 w4 := (show Keeps Nil w2 (w2.alloc (.cells #[.bool (neg z), .slice a3 n3 c3] 38)) from (by repeat (first | exact Keeps.refl _ _ | refine Keeps.drew ?_ | refine Keeps.drewN ?_ _ | refine Keeps.alloc ?_ _))).trans H4.out.2
  have kB : Keeps Nil w4 (w4.alloc (.cells #[.bool (neg z2), .slice a4 n4 c4] 38)) := (by repeat (first | exact Keeps.refl _ _ | refine Keeps.drew ?_ | refine Keeps.drewN ?_ _ | refine Keeps.alloc ?_ _))
  have kC : Keeps Nil w0 (w4.alloc (.cells #[.bool (neg z2), .slice a4 n4 c4] 38)) := HK1.out.trans (H2.out.2.trans (kA.trans kB))
  have rX := ((RowIs.alloc (w := w2) (E := 38) (xs := [.bool (neg z), .slice a3 n3 c3])).keep H4.out.2 id).keep kB id
  have rY := RowIs.alloc (w := w4) (E := 38) (xs := [.bool (neg z2), .slice a4 n4 c4])
  have r2 := H0.out.2.1.keep kC id
  have r3 := H0.out.2.2.keep kC id
  have zX : ZAt Nil (w4.alloc (.cells #[.bool (neg z2), .slice a4 n4 c4] 38)) (neg z) a3 n3 c3 z := (H2.out.1.zat (by have := HN.out; omega)).keepNil (kA.trans kB)
  have zY : ZAt Nil (w4.alloc (.cells #[.bool (neg z2), .slice a4 n4 c4] 38)) (neg z2) a4 n4 c4 z2 := (H4.out.1.zat (by have := HN.out; omega)).keepNil kB
  have lX : Limbs Nil (w4.alloc (.cells #[.bool (neg z2), .slice a4 n4 c4] 38)) a3 n3 c3 (limbsOf z.natAbs) := (H2.out.1.2.toNil.keepNil kA).keepNil kB
  have lY : Limbs Nil (w4.alloc (.cells #[.bool (neg z2), .slice a4 n4 c4] 38)) a4 n4 c4 (limbsOf z2.natAbs) := H4.out.1.2.keepNil kB
  have e3 : n3 = nlen z.natAbs := H2.out.1.len
  have e4 : n4 = nlen z2.natAbs := H4.out.1.len
  have bX := rX.lt
  have bY := rY.lt
  have hlt1 : w.heap.size + 1 + 1 + 1 < w2.heap.size := Nat.lt_of_lt_of_le H0.out.2.2.lt (Nat.le_trans HK1.out.size H2.out.2.size)
  change RowIs (w4.alloc (.cells #[.bool (neg z2), .slice a4 n4 c4] 38)) _ _ _ at rY
  have HE := Lib.hid (And.intro (H0.out.1.trans kC) (And.intro (And.intro rX rY) (And.intro (And.intro r2 r3) (And.intro (And.intro zX zY) (And.intro (And.intro lX lY) (And.intro e3 e4))))))
  obtain ⟨x0, x1, _, _⟩ := rX.two
  obtain ⟨y0, y1, _, _⟩ := rY.two
  clear kA kB kC rX rY r2 r3 zX zY lX lY e3 e4 hb1 hb2 H2 HK1 HA HB r0 r1 b0 b1
  clear H4 c00 c01 c10 c11 f00 f01 f10 f11 H0
  generalize w4.alloc (.cells #[.bool (neg z2), .slice a4 n4 c4] 38) = wE at *
  generalize w2.heap.size = pX at *
  generalize w4.heap.size = pY at *
  have ht : 0 < nval (limbsOf z2.natAbs) := by rw [nval_limbsOf]; have := H00.out; omega
  have hT := Lib.hid ht
  clear ht
  go_upto_region 8 with (first | (go_at_call 126; refine (refndiv2_any (M := Old wE) (MB.old _) HE.out.2.2.2.2.1.1 HE.out.2.2.2.2.1.2 (by have := HE.out.2.2.2.2.2.1; have := HN.out; omega) (by have := HE.out.2.2.2.2.2.2; have := HN.out; omega) hT.out).mono ?_; rintro e w6 ⟨a5, c5, a6, c6, rfl, h5, h6, hk6⟩; have xx0 := hk6.cellE bX id x0; have yy0 := hk6.cellE bY id y0; have H6 := Lib.hid (And.intro h5 (And.intro h6 hk6)); clear h5 h6 hk6) | (go_at_call 60; refine (refnorm_any (M := Old wE) ((MB.old _).keep H6.out.2.2) (zat_of _ H6.out.1.toNil (by have := nlen_mono (Nat.div_le_self z.natAbs z2.natAbs); have := HN.out; omega))).mono ?_; rintro e w7 ⟨g7, a7, n7, c7, rfl, h7, hk7⟩; have H7 := Lib.hid (And.intro h7 hk7); clear h7 hk7))
  have kF : Keeps Nil w7 (w7.alloc (.cells #[.bool g7, .slice a7 n7 c7] 38)) := (by repeat (first | exact Keeps.refl _ _ | refine Keeps.drew ?_ | refine Keeps.drewN ?_ _ | refine Keeps.alloc ?_ _))
  have kE7 : Keeps Nil wE (w7.alloc (.cells #[.bool g7, .slice a7 n7 c7] 38)) := H6.out.2.2.trans (H7.out.2.trans kF)
  have rQ := RowIs.alloc (w := w7) (E := 38) (xs := [.bool g7, .slice a7 n7 c7])
  change RowIs (w7.alloc (.cells #[.bool g7, .slice a7 n7 c7] 38)) _ _ _ at rQ
  have zQ : ZN (Old wE) (w7.alloc (.cells #[.bool g7, .slice a7 n7 c7] 38)) g7 a7 n7 c7 (quo0 z z2) := H7.out.1.keepNil kF
  have lR := H6.out.2.1.keepNil (H7.out.2.trans kF)
  have bQ := rQ.lt
  have bEQ : wE.heap.size ≤ w7.heap.size := (H6.out.2.2.trans H7.out.2).size
  have x0' := kE7.cellE bX id x0
  have y0' := kE7.cellE bY id y0
  have HF := Lib.hid (And.intro kE7 (And.intro rQ (And.intro zQ lR)))
  clear kF kE7 rQ zQ lR H6 H7 xx0 yy0
  generalize w7.alloc (.cells #[.bool g7, .slice a7 n7 c7] 38) = wF at *
  generalize w7.heap.size = pQ at *
  obtain ⟨r, hr⟩ : ∃ r, r = z.natAbs % z2.natAbs := ⟨_, rfl⟩
  have HRR := Lib.hid hr
  have hrl : nlen r * 4 ≤ 140737488355328 := by have := nlen_mono (Nat.mod_le z.natAbs z2.natAbs); have := HN.out; rw [hr]; omega
  rw [← hr] at HF ⊢
  clear hr
  go_cut [49] (fun s wx => s = .bool (decide (neg z ≠ neg z2 ∧ r ≠ 0)) ∧ Keeps Nil wF wx)
  case' first =>
    by_cases hs : neg z = neg z2
    · have i1 : (neg z == neg z2) = true := by simpa using hs
      have HD := Lib.hid (show decide (neg z ≠ neg z2 ∧ r ≠ 0) = false by simp [hs])
      clear hs
      go_wp2_with fail
      go_meet
      exact ⟨by rw [HD.out], (by repeat (first | exact Keeps.refl _ _ | refine Keeps.drew ?_ | refine Keeps.drewN ?_ _ | refine Keeps.alloc ?_ _))⟩
    · have i1 : (neg z == neg z2) = false := by simpa using hs
      have HD := Lib.hid (show decide (neg z ≠ neg z2 ∧ r ≠ 0) = decide (0 < nlen r) by rw [decide_eq_decide, nlen_pos]; simp [hs])
      clear hs
      go_wp2_with (go_at_call 95; refine (reftrim2_any (M := Nil) (v := r) (MB.nil _) HF.out.2.2.2.toNil hrl (nval_limbsOf _)).mono ?_; rintro e w9 ⟨a9, c9, rfl, h9, hk9⟩; have H9 := Lib.hid hk9; clear h9 hk9)
      go_meet
      exact ⟨by rw [HD.out], H9.out⟩
  obtain ⟨rfl, hkc⟩ := hcut
  have HCT := Lib.hid (And.intro (HF.out.1.trans hkc) (And.intro (HF.out.2.1.keep hkc id) (HF.out.2.2.1.keepNil hkc)))
  have bX2 := Nat.lt_of_lt_of_le bX (HF.out.1.trans hkc).size
  have bY2 := Nat.lt_of_lt_of_le bY (HF.out.1.trans hkc).size
  clear hkc HF x0' y0' bQ
  rename World => wG
  go_upto_if 49 with (fail)
  go_cut [] (fun wx => QuoAt wE wG pQ (z.fdiv z2) wx)
  case' first =>
    by_cases hc : neg z ≠ neg z2 ∧ r ≠ 0
    · have hf := fdiv_less H00.out HRR.out hc
      rw [decide_eq_true hc]
      have HC := Lib.hid hf
      clear hc hf
      obtain ⟨q0, q1, fq0, fq1⟩ := HCT.out.2.1.two
      have bQ := HCT.out.2.1.lt
      have HQL := Lib.hid (show nlen (quo0 z z2).natAbs * 4 + 4 ≤ 140737488355328 by have := nlen_quo0 z z2; have := HN.out; omega)
      go_wp2_with fail
      refine wp_region_till (Keeps Nil wG) [3] (by kernel_rfl) ?_
      have hS : Keeps Nil wG (World.drew wG) := (by repeat (first | exact Keeps.refl _ _ | refine Keeps.drew ?_ | refine Keeps.drewN ?_ _ | refine Keeps.alloc ?_ _))
      refine wpTill_take (i := 0) (v := ?v1) rfl (by kernel_rfl) (fun _ _ _ h => h) (Or.inl ⟨by rfl, ?y1⟩) hS ?r1
      case y1 => (intro w' hSw; obtain ⟨hrc, hrf⟩ := hSw.rules; clear hSw;  go_simp; (try with_reducible rfl))
      try simp only [Act.put, List.setIfInBounds_toArray, List.set_cons_zero, List.set_cons_succ]
      refine wpTill_ready (rs := [1]) (by kernel_rfl) (by simp) ?_
      refine AllTill.cons rfl (fun K hK => ?_) AllTill.nil
      go_simp
      refine (refof_any (M := Nil) (z := 1) (MB.nil _) (by omega) (by omega)).mono ?_
      rintro e w1 ⟨g8, a8', n8, c8', rfl, h8, hk⟩
      refine hK.out _ _ (fun h => h.trans hk) ?_
      clear hK K
      try simp only [Act.put, List.setIfInBounds_toArray, List.set_cons_zero, List.set_cons_succ]
      replace hS := hS.trans hk
      have H8 := Lib.hid h8
      clear hk h8
      refine wpTill_ready (rs := [2]) (by kernel_rfl) (by simp) ?_
      refine AllTill.cons rfl (fun K hK => ?_) AllTill.nil
      go_simp
      refine (refsub_any (M := Old wG) ((MB.old wG).keep hS) ((HCT.out.2.2.zat HQL.out).keepNil hS) (H8.out.zat fit_one) (fit_ofN HCT.out.2.2 HQL.out) (fit_ofN H8.out fit_one)).mono ?_
      rintro e w1 ⟨g9, a9, n9, c9, rfl, h9, hk⟩
      refine hK.out _ _ (fun h => h.trans hk) ?_
      clear hK K
      try simp only [Act.put, List.setIfInBounds_toArray, List.set_cons_zero, List.set_cons_succ]
      replace hS := hS.trans hk
      have H9 := Lib.hid h9
      obtain ⟨_, _, o20, o21⟩ := (HCT.out.2.1.keep hS id).two
      have HS := Lib.hid hS
      clear hk h9 hS
      refine wpTill_ready (rs := [3]) (by kernel_rfl) (by simp) ?_
      refine AllTill.consT rfl (by decide) (fun K hK => ?_) AllTill.nil
      go_simp
      refine hK.out _ _ ?_
      clear hK K
      try simp only [Act.put, List.setIfInBounds_toArray, List.set_cons_zero, List.set_cons_succ]
      refine wpTill_done (by kernel_rfl) ?_ _
      skip
      go_wp2_with fail
      go_meet
      exact ⟨_, _, _, _, (HCT.out.2.1.keep HS.out id).pair, HC.out ▸ H9.out.move (M' := One pQ) (Keeps.pair _ _) (fun b _ hb => by cases (show b = pQ from hb); exact bQ) (fun b _ hb => Nat.lt_of_lt_of_le hb HCT.out.1.size), HS.out.of_nil.trans (Keeps.pair _ _)⟩
    · have hf := fdiv_keep H00.out HRR.out hc
      rw [decide_eq_false hc]
      have HC := Lib.hid (And.intro hf HCT.out)
      clear hc hf
      go_wp2_with fail
      go_meet
      exact ⟨_, _, _, _, HC.out.2.2.1, HC.out.1 ▸ HC.out.2.2.2, Keeps.refl _ _⟩
  rename World => wH
  obtain ⟨g8, a8, n8, c8, rQ, z8, hkq⟩ := hcut
  have kEH : Keeps Nil wE wH := HCT.out.1.trans' hkq fun b hb => .inr (by cases (show b = pQ from hb); exact bEQ)
  have hqn : nlen (z.fdiv z2).natAbs ≤ nlen z.natAbs + 2 := nlen_fdiv H00.out
  have HG := Lib.hid (And.intro kEH (And.intro z8 rQ))
  obtain ⟨u0, u1, _, _⟩ := (HE.out.2.1.1.keep kEH id).two
  obtain ⟨v0, v1, _, _⟩ := (HE.out.2.1.2.keep kEH id).two
  obtain ⟨q0, q1, _, _⟩ := rQ.two
  have bQ := rQ.lt
  have bX3 := Nat.lt_of_lt_of_le bX kEH.size
  have bY3 := Nat.lt_of_lt_of_le bY kEH.size
  have HQL := Lib.hid (show nlen (z.fdiv z2).natAbs * 4 + 4 ≤ 140737488355328 by have := HN.out; omega)
  have HZ := Lib.hid (And.intro (HE.out.2.2.2.1.1.keepNil kEH) (And.intro (HE.out.2.2.2.1.2.keepNil kEH) (z8.zat HQL.out)))
  have HL := Lib.hid (show n3 * 4 + 4 ≤ 140737488355328 ∧ (n8 + n4) * 4 + 16 ≤ 140737488355328 ∧ nlen (z.fdiv z2 * z2).natAbs * 4 + 4 ≤ 140737488355328 by
    have e1 := HE.out.2.2.2.2.2.1
    have e2 := HE.out.2.2.2.2.2.2
    have e3 := z8.len
    have e4 := HN.out
    have e5 := nlen_mul (z.fdiv z2).natAbs z2.natAbs
    rw [← Int.natAbs_mul] at e5
    omega)
  have hMO : ∀ b, M b → Old wH b := fun b hb => Nat.lt_of_lt_of_le (HM.out b hb) (HE.out.1.trans kEH).size
  have HMO := Lib.hid hMO
  clear kEH hkq rQ z8 hqn hMO x0 x1 y0 y1
  go_wp2_with fail
  refine wp_region_till (Keeps Nil wH) [6, 7, 8] (by kernel_rfl) ?_
  have hS : Keeps Nil wH (World.drew wH) := (by repeat (first | exact Keeps.refl _ _ | refine Keeps.drew ?_ | refine Keeps.drewN ?_ _ | refine Keeps.alloc ?_ _))
  refine wpTill_take (i := 0) (v := ?v2) rfl (by kernel_rfl) (fun _ _ _ h => h) (Or.inl ⟨by rfl, ?y2⟩) hS ?r2
  case y2 => (intro w' hSw; obtain ⟨hrc, hrf⟩ := hSw.rules; clear hSw;  go_simp; (try with_reducible rfl))
  try simp only [Act.put, List.setIfInBounds_toArray, List.set_cons_zero, List.set_cons_succ]
  refine wpTill_take (i := 1) (v := ?v3) rfl (by kernel_rfl) (fun _ _ _ h => h) (Or.inl ⟨by rfl, ?y3⟩) hS ?r3
  case y3 => (intro w' hSw; obtain ⟨hrc, hrf⟩ := hSw.rules; clear hSw;  go_simp; (try with_reducible rfl))
  try simp only [Act.put, List.setIfInBounds_toArray, List.set_cons_zero, List.set_cons_succ]
  refine wpTill_take (i := 2) (v := ?v4) rfl (by kernel_rfl) (fun _ _ _ h => h) (Or.inl ⟨by rfl, ?y4⟩) hS ?r4
  case y4 => (intro w' hSw; obtain ⟨hrc, hrf⟩ := hSw.rules; clear hSw;  go_simp; (try with_reducible rfl))
  try simp only [Act.put, List.setIfInBounds_toArray, List.set_cons_zero, List.set_cons_succ]
  refine wpTill_take (i := 3) (v := ?v5) rfl (by kernel_rfl) (fun _ _ _ h => h) (Or.inl ⟨by rfl, ?y5⟩) hS ?r5
  case y5 => (intro w' hSw; obtain ⟨hrc, hrf⟩ := hSw.rules; clear hSw;  go_simp; (try with_reducible rfl))
  try simp only [Act.put, List.setIfInBounds_toArray, List.set_cons_zero, List.set_cons_succ]
  refine wpTill_ready (rs := [4]) (by kernel_rfl) (by simp) ?_
  refine AllTill.cons rfl (fun K hK => ?_) AllTill.nil
  go_simp
  refine (refzmul_any (M := Nil) (MB.nil _) (HZ.out.2.2.keepNil hS) (HZ.out.2.1.keepNil hS) HL.out.2.1).mono ?_
  rintro e w1 ⟨g9, a9, n9, c9, rfl, h9, hk⟩
  refine hK.out _ _ (fun h => h.trans hk) ?_
  clear hK K
  try simp only [Act.put, List.setIfInBounds_toArray, List.set_cons_zero, List.set_cons_succ]
  replace hS := hS.trans hk
  have H9 := Lib.hid h9
  clear hk h9
  refine wpTill_ready (rs := [5]) (by kernel_rfl) (by simp) ?_
  refine AllTill.cons rfl (fun K hK => ?_) AllTill.nil
  go_simp
  refine (refsub_any (M := Old wH) ((MB.old wH).keep hS) (HZ.out.1.keepNil hS) (H9.out.zat HL.out.2.2) HL.out.1 (fit_ofN H9.out HL.out.2.2)).mono ?_
  rintro e w1 ⟨g10, a10, n10, c10, rfl, h10, hk⟩
  refine hK.out _ _ (fun h => h.trans hk) ?_
  clear hK K
  try simp only [Act.put, List.setIfInBounds_toArray, List.set_cons_zero, List.set_cons_succ]
  replace hS := hS.trans hk
  have H10 := Lib.hid h10
  obtain ⟨_, _, o20, o21⟩ := (HE.out.2.2.1.1.keep (HG.out.1.trans hS) id).two
  obtain ⟨_, _, o30, o31⟩ := (HE.out.2.2.1.2.keep (HG.out.1.trans hS) id).two
  have HS := Lib.hid hS
  clear hk h10 hS
  have ne23 : ¬ w.heap.size + 1 + 1 = w.heap.size + 1 + 1 + 1 := by omega
  have ne32 : ¬ w.heap.size + 1 + 1 + 1 = w.heap.size + 1 + 1 := by omega
  refine wpTill_ready (rs := [6]) (by kernel_rfl) (by simp) ?_
  refine AllTill.consT rfl (by decide) (fun K hK => ?_) AllTill.nil
  go_simp
  refine hK.out _ _ ?_
  clear hK K
  try simp only [Act.put, List.setIfInBounds_toArray, List.set_cons_zero, List.set_cons_succ]
  refine wpTill_ready (rs := [7]) (by kernel_rfl) (by simp) ?_
  refine AllTill.consT rfl (by decide) (fun K hK => ?_) AllTill.nil
  go_simp
  refine hK.out _ _ ?_
  clear hK K
  try simp only [Act.put, List.setIfInBounds_toArray, List.set_cons_zero, List.set_cons_succ]
  refine wpTill_ready (rs := [8]) (by kernel_rfl) (by simp) ?_
  refine AllTill.consT rfl (by decide) (fun K hK => ?_) AllTill.nil
  go_simp
  refine hK.out _ _ ?_
  clear hK K
  try simp only [Act.put, List.setIfInBounds_toArray, List.set_cons_zero, List.set_cons_succ]
  refine wpTill_done (by kernel_rfl) ?_ _
  skip
  go_wp2_with fail
  obtain ⟨k0, k1, _, _⟩ := (((HE.out.2.2.1.1.keep (HG.out.1.trans HS.out) id).pair (u' := .bool g8) (v' := .slice a8 n8 c8)).pairOther (u := .bool g10) (v := .slice a10 n10 c10) ne23).two
  obtain ⟨k2, k3, _, _⟩ := (((HE.out.2.2.1.2.keep (HG.out.1.trans HS.out) id).pairOther (u := .bool g8) (v := .slice a8 n8 c8) ne32).pair (u' := .bool g10) (v' := .slice a10 n10 c10)).two
  have hst : Keeps (fun b => b = w.heap.size + 1 + 1 ∨ b = w.heap.size + 1 + 1 + 1) w1 ((((w1.setCell ⟨w.heap.size + 1 + 1, 0, none⟩ (.bool g8)).setCell ⟨w.heap.size + 1 + 1, 1, none⟩ (.slice a8 n8 c8)).setCell ⟨w.heap.size + 1 + 1 + 1, 0, none⟩ (.bool g10)).setCell ⟨w.heap.size + 1 + 1 + 1, 1, none⟩ (.slice a10 n10 c10)) :=
    ((((Keeps.refl _ _).setCell (.inl (.inl rfl)) _).setCell (.inl (.inl rfl)) _).setCell (.inl (.inr rfl)) _).setCell (.inl (.inr rfl)) _
  have hold : ∀ b, (b = w.heap.size + 1 + 1 ∨ b = w.heap.size + 1 + 1 + 1) → Old wE b := fun b hb => by unfold Old; omega
  have hOM : ∀ b, M b → Old wE b := fun b hb => Nat.lt_of_lt_of_le (HM.out b hb) HE.out.1.size
  have hEH : ∀ b, Old wE b → Old wH b := fun b hb => Nat.lt_of_lt_of_le hb HG.out.1.size
  refine bodyPost_ret (v := .tuple #[.agg #[.bool g8, .slice a8 n8 c8], .agg #[.bool g10, .slice a10 n10 c10], .int .i64 0]) (by simp [results, Tryz.results107, go_sem, k0, k1, k2, k3]) rfl ⟨_, _, _, _, _, _, _, _, rfl, (HG.out.2.1.keepNil HS.out).move hst (fun b _ hb => hold b hb) (fun b _ hb => hOM b hb), ?_, ((HE.out.1.trans HG.out.1).trans HS.out).trans' hst fun b hb => .inr (by omega)⟩
  have hz := H10.out.move hst (M2 := M) (fun b _ hb => hEH b (hold b hb)) (fun b _ hb => HMO.out b hb)
  rwa [Int.mul_comm, ← Int.fmod_def] at hz
set_option maxHeartbeats 1000000 in
theorem refmod_any {M : Nat → Prop} {g g2 : Bool} {a a2 : Option Addr} {n c n2 c2 : Nat} {z z2 : Int} {w : World} (hM : MB M w) (h : ZAt Nil w g a n c z) (h2 : ZAt Nil w g2 a2 n2 c2 z2) (h0 : z2 ≠ 0) (hr : (n + n2) * 4 + 32 ≤ 140737488355328) :
    Calls Tryz.prog 81 #[.agg #[.bool g, .slice a n c], .agg #[.bool g2, .slice a2 n2 c2]] w fun e w' => ZRet M w (z.fmod z2) e w' := by
  have HA := Lib.hid h
  have HB := Lib.hid h2
  have HM := Lib.hid hM
  have HN := Lib.hid (And.intro h0 hr)
  have HRS := Lib.hid (rows3 w 38 (.bool g) (.slice a n c) (.bool g2) (.slice a2 n2 c2) (.bool false) (.slice none 0 0))
  clear h h2 hM h0 hr
  go_enter Tryz.func81, Tryz.ntmps81
  go_upto_region 1 with (fail)
  obtain ⟨r0, r1, r2, hk0⟩ := HRS.out
  clear HRS
  generalize (((w.alloc (.cells #[.bool g, .slice a n c] 38)).alloc (.cells #[.bool g2, .slice a2 n2 c2] 38)).alloc (.cells #[.bool false, .slice none 0 0] 38)) = w0 at *
  obtain ⟨c00, c01, _, _⟩ := r0.two
  obtain ⟨c10, c11, _, _⟩ := r1.two
  have b0 := r0.lt
  have b1 := r1.lt
  have H0 := Lib.hid (And.intro hk0 r2)
  clear hk0 r0 r1 r2
  go_upto_region 2 with (go_at_call 107; refine (refzdiv_any (M := Old w0) (MB.old _) (HA.out.keepNil H0.out.1) (HB.out.keepNil H0.out.1) HN.out.1 HN.out.2).mono ?_; rintro e w1 ⟨g3, a3, n3, c3, g4, a4, n4, c4, rfl, h3, h4, hk1⟩; have H1 := Lib.hid (And.intro h4 hk1); clear h3 h4 hk1)
  obtain ⟨_, rB, kW⟩ := rows2 w1 38 (.bool g3) (.slice a3 n3 c3) (.bool g4) (.slice a4 n4 c4)
  have r2 := (H0.out.2.keep H1.out.2 id).keep kW id
  have zB := H1.out.1.keepNil kW
  have bO : w.heap.size + 1 + 1 < w0.heap.size := H0.out.2.lt
  have kA := H0.out.1.trans (H1.out.2.trans kW)
  generalize (w1.alloc (.cells #[.bool g3, .slice a3 n3 c3] 38)).alloc (.cells #[.bool g4, .slice a4 n4 c4] 38) = wB at *
  generalize w1.heap.size = pB at *
  obtain ⟨e0, e1, _, _⟩ := rB.two
  obtain ⟨c20, c21, f20, f21⟩ := r2.two
  have HZ := Lib.hid (And.intro zB (And.intro kA r2))
  have bM : ∀ b, M b → Old w0 b := fun b hb => Nat.lt_of_lt_of_le (HM.out b hb) H0.out.1.size
  have HBM := Lib.hid bM
  clear rB r2 kW zB kA H1 bM
  go_wp2_with fail
  obtain ⟨k0, k1, _, _⟩ := (HZ.out.2.2.pair (u' := .bool g4) (v' := .slice a4 n4 c4)).two
  exact bodyPost_ret (v := .agg #[.bool g4, .slice a4 n4 c4]) (by simp [results, Tryz.results81, go_sem, k0, k1]) rfl ⟨_, _, _, _, rfl, HZ.out.1.move (M' := One (w.heap.size + 1 + 1)) (Keeps.pair _ _) (fun b _ hb => by cases (show b = w.heap.size + 1 + 1 from hb); exact bO) (fun b _ hb => HBM.out b hb), HZ.out.2.1.own (by omega) (Keeps.pair _ _)⟩
end Go.Proofs.YtfkclbhddiidbaaGreat

namespace Go.Rid
/-- What lies from limb k on. -/
def topV (m k : Nat) : Nat := nval ((limbsOf m).drop k)
theorem topV_zero (m : Nat) : topV m 0 = m := by simp [topV, nval_limbsOf]
theorem topV_end (m : Nat) : topV m (nlen m) = 0 := by simp [topV, nlen, nval]
theorem topV_step {m k : Nat} (h : k < nlen m) : topV m k = topV m (k + 1) * 4294967296 + lim (limbsOf m) k := by
  unfold topV
  rw [List.drop_eq_getElem_cons h, nval, lim_lt h, ← Bs_def, Nat.mul_comm, Nat.add_comm]
theorem topV_small {m k : Nat} (h : nlen m ≤ 2) (hk : 0 < k) : topV m k < 4294967296 := by
  unfold topV
  have hs : Small ((limbsOf m).drop k) := fun x hx => small_limbsOf m x (List.mem_of_mem_drop hx)
  have h1 := nval_lt hs
  rw [List.length_drop] at h1
  have h2 : Bs ^ ((limbsOf m).length - k) ≤ Bs ^ 1 := Nat.pow_le_pow_right Bs_pos (by unfold nlen at h; omega)
  rw [Nat.pow_one, Bs_def] at h2
  rw [Bs_def] at h1
  omega
end Go.Rid
namespace Go.Proofs.YtfkclbhddiidbaaGreat
open Go.RowKit Go.Rid
set_option maxHeartbeats 1000000 in
theorem refint64_any {g : Bool} {a : Option Addr} {n c : Nat} {z : Int} {w : World} (h : ZAt Nil w g a n c z) :
    Calls Tryz.prog 45 #[.agg #[.bool g, .slice a n c]] w fun e w' => e = .returned (.tuple #[.int .i64 (int64 z), .bool (fits64 z)]) ∧ Keeps Nil w w' := by
  have hk0 : Keeps Nil w (w.alloc (.cells #[.bool g, .slice a n c] 38)) := (by repeat (first | exact Keeps.refl _ _ | refine Keeps.drew ?_ | refine Keeps.drewN ?_ _ | refine Keeps.alloc ?_ _))
  have HA := Lib.hid (And.intro h hk0)
  have r0 := RowIs.alloc (w := w) (E := 38) (xs := [.bool g, .slice a n c])
  change RowIs (w.alloc (.cells #[.bool g, .slice a n c] 38)) _ _ _ at r0
  obtain ⟨c0, c1, _, _⟩ := r0.two
  clear h hk0 r0
  go_enter Tryz.func45, Tryz.ntmps45
  go_upto_region 2 with (go_at_call 60; refine (refnorm_any (M := Nil) (MB.nil _) (HA.out.1.keepNil HA.out.2)).mono ?_; rintro e w1 ⟨g', a', n', c', rfl, h', hk'⟩; have H1 := Lib.hid (And.intro h' (HA.out.2.trans hk')); clear h' hk')
  have r1 := RowIs.alloc (w := w1) (E := 38) (xs := [.bool g', .slice a' n' c'])
  change RowIs (w1.alloc (.cells #[.bool g', .slice a' n' c'] 38)) _ _ _ at r1
  have kB : Keeps Nil w1 (w1.alloc (.cells #[.bool g', .slice a' n' c'] 38)) := (by repeat (first | exact Keeps.refl _ _ | refine Keeps.drew ?_ | refine Keeps.drewN ?_ _ | refine Keeps.alloc ?_ _))
  have hz := H1.out.1.keepNil kB
  have hk1 := H1.out.2.trans kB
  clear H1 kB c0 c1
  generalize w1.alloc (.cells #[.bool g', .slice a' n' c'] 38) = ws at *
  generalize w1.heap.size = pB at *
  obtain ⟨c0, c1, _, _⟩ := r1.two
  obtain rfl := hz.1
  have hlen := hz.len
  have hcap := hz.2.sl.cap
  have hle := hz.2.sl.le
  have HZ := Lib.hid (And.intro hz hk1)
  clear hz hk1 r1
  by_cases hbig : 2 < n'
  · have e := fits64_no (z := z) (by have := big_of_nlen (hlen ▸ hbig); omega)
    have HE := Lib.hid e
    have hb' : (2 : Int) < (n' : Int) := by omega
    clear e hlen
    go_wp2_with fail
    go_ret2
    rw [int64_no HE.out, HE.out]
    exact ⟨rfl, HZ.out.2⟩
  · have hm := (two_limbs (m := z.natAbs) (hlen ▸ Nat.le_of_not_lt hbig)).1
    have HL := Lib.hid hlen
    have hb' : ¬ (2 : Int) < (n' : Int) := by omega
    clear hlen
    go_wp2_with fail
    go_loop [5, 6] (fun u i => ∃ k : Nat, k ≤ n' ∧ i = .int .i64 ((k : Int) - 1) ∧ u = .int .u64 (topV z.natAbs k : Int)) (fun _ i => (intOf i + 1).toNat)
    case atStart => exact ⟨n', Nat.le_refl _, by go_num, by rw [HL.out, topV_end]; rfl⟩
    case round =>
      obtain ⟨k, hk, rfl, rfl⟩ := hrel
      cases k with
      | succ k =>
        rw [show (((k + 1 : Nat) : Int) - 1) = (k : Int) by omega]
        obtain ⟨b, off, rfl, _, _, p0⟩ := HZ.out.1.2.cell (k := k) (by omega)
        have hs := topV_small (m := z.natAbs) (k := k + 1) (by rw [← HL.out]; omega) (by omega)
        have hx := HZ.out.1.2.lim_lt k
        have HST := Lib.hid (topV_step (m := z.natAbs) (k := k) (by rw [← HL.out]; omega))
        have hbe := beside (topV z.natAbs (k + 1)) (lim (limbsOf z.natAbs) k) hs hx
        have hi2 : (0 : Int) ≤ (k : Int) := by omega
        have hi3 : (k : Int) < (n' : Int) := by omega
        generalize topV z.natAbs (k + 1) = V at *
        generalize lim (limbsOf z.natAbs) k = x at *
        have HBE := Lib.hid hbe
        clear hbe
        go_wp2_with fail
        go_round
        case rel => exact ⟨k, by omega, by go_num, by rw [HBE.out, HST.out]⟩
        case measure => simp [intOf]
      | zero =>
        rw [show (((0 : Nat) : Int) - 1) = -1 from rfl, topV_zero]
        generalize hA : z.natAbs = A at *
        have HAA := Lib.hid hA
        clear hA
        have HW := Lib.hid (And.intro (neg64 (A := A)) (pos64 (A := A)))
        by_cases hneg : z < 0
        · have hn : neg z = true := decide_eq_true hneg
          generalize neg z = s at *
          subst hn
          by_cases hf : A ≤ 9223372036854775808
          · have HF := Lib.hid (fits64_of (z := z) (by have := HAA.out; omega))
            have HI := Lib.hid (int64_eq HF.out)
            have hf' : ¬ (9223372036854775808 : Int) < (A : Int) := by omega
            have hz : -(A : Int) = z := by have := HAA.out; omega
            have hA1 : 1 ≤ (A : Int) := by have := HAA.out; omega
            have HZZ := Lib.hid hz
            clear hz
            go_wp2_with fail
            go_ret2
            rw [HI.out, HF.out]
            refine ⟨?_, HZ.out.2⟩
            rw [show -((A : Int) - 1) - 1 = -(A : Int) by omega, HZZ.out]
            rfl
          · have HF := Lib.hid (fits64_no (z := z) (by have := HAA.out; omega))
            have HI := Lib.hid (int64_no HF.out)
            have hf' : (9223372036854775808 : Int) < (A : Int) := by omega
            go_wp2_with fail
            go_ret2
            rw [HI.out, HF.out]
            exact ⟨rfl, HZ.out.2⟩
        · have hn : neg z = false := decide_eq_false hneg
          generalize neg z = s at *
          subst hn
          by_cases hf : A ≤ 9223372036854775807
          · have HF := Lib.hid (fits64_of (z := z) (by have := HAA.out; omega))
            have HI := Lib.hid (int64_eq HF.out)
            have hz : (A : Int) = z := by have := HAA.out; omega
            have hf' : ¬ ((9223372036854775808 : Int) ≤ (A : Int)) := by omega
            have HZZ := Lib.hid hz
            clear hz
            go_wp2_with fail
            go_ret2
            rw [HI.out, HF.out]
            refine ⟨?_, HZ.out.2⟩
            rw [← HZZ.out]
            rfl
          · have HF := Lib.hid (fits64_no (z := z) (by have := HAA.out; omega))
            have HI := Lib.hid (int64_no HF.out)
            have hf' : (9223372036854775808 : Int) ≤ (A : Int) := by omega
            go_wp2_with fail
            go_ret2
            rw [HI.out, HF.out]
            exact ⟨rfl, HZ.out.2⟩
end Go.Proofs.YtfkclbhddiidbaaGreat
