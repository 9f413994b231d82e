/- What the references' Norm and Of do: numbers as they should stand, in new memory. Conditions: the number's own reading. -/
import Derived.Test.YtfkclbhddiidbaaKRefLimbs
import Derived.Test.YtfkclbhddiidbaaKZints
import Derived.Deep.DeepCutAuto
import Derived.Deep.CutBlock
namespace Go.Proofs.Ytfkclbhddiidbaa
open Go.RowKit Go.Rid
set_option maxHeartbeats 1000000 in
theorem refnorm_any {M : Nat → Prop} {g : Bool} {a : Option Addr} {n c : Nat} {z : Int} {w : World} (hM : MB M w) (h : ZAt Nil w g a n c z) :
    Calls Try.prog 38 #[.agg #[.bool g, .slice a n c]] w fun e w' => ZRet M w z e w' := by
  obtain ⟨l, hl, hn, rfl⟩ := h
  obtain ⟨r0, r1, hk0⟩ := rows2 w 36 (.bool g) (.slice a n c) (.bool false) (.slice none 0 0)
  have HL := Lib.hid (And.intro (hl.keepNil hk0) (And.intro hn hl.lt))
  have HM := Lib.hid hM
  have hM1 : MB (With M (w.heap.size + 1)) ((w.alloc (.cells #[.bool g, .slice a n c] 36)).alloc (.cells #[.bool false, .slice none 0 0] 36)) := hM.withNew2 _ _
  have HM1 := Lib.hid hM1
  clear hl hn hM hM1
  go_enter Try.func38, Try.ntmps38
  go_upto_region 1 with (fail)
  generalize (w.alloc (.cells #[.bool g, .slice a n c] 36)).alloc (.cells #[.bool false, .slice none 0 0] 36) = w0 at *
  obtain ⟨c00, c01, _, _⟩ := r0.two
  have HR := Lib.hid (And.intro r0 (And.intro r1 hk0))
  clear r0 r1 hk0
  go_upto_region 2 with (go_at_call 62; refine (ref01trim_any HM1.out HL.out.1 HL.out.2.1).mono ?_; rintro e w1 ⟨a', c', rfl, h1, hk1⟩)
  have q0 := HR.out.1.keep hk1 id
  have q1 := HR.out.2.1.keep hk1 id
  obtain ⟨d00, d01, _, _⟩ := q0.two
  obtain ⟨d10, d11, f0, f1⟩ := q1.two
  have hz := made_zn (g := g) h1 HL.out.2.2
  have HT := Lib.hid (And.intro hz (HR.out.2.2.trans hk1))
  clear h1 hk1 q0 q1 hz c00 c01
  cases g
  · go_wp2_with fail
    have hz := HT.out.1
    rw [Bool.false_and] at hz
    exact bodyPost_ret (v := .agg #[.bool false, .slice a' (top l) c']) (by simp [results, Try.results38, go_sem, *]) rfl ⟨_, _, _, _, rfl, hz.less (Keeps.pair _ _), HT.out.2.own (by omega) (Keeps.pair _ _)⟩
  · by_cases ht : 0 < top l
    · have htI : (0 : Int) < (top l : Int) := by omega
      have htd : decide ((0 : Int) < (top l : Int)) = true := decide_eq_true htI
      go_wp2_with fail
      have hz := HT.out.1
      rw [Bool.true_and, decide_eq_true ht] at hz
      exact bodyPost_ret (v := .agg #[.bool true, .slice a' (top l) c']) (by simp [results, Try.results38, go_sem, *]) rfl ⟨_, _, _, _, rfl, hz.less (Keeps.pair _ _), HT.out.2.own (by omega) (Keeps.pair _ _)⟩
    · have htI : ¬ (0 : Int) < (top l : Int) := by omega
      have htd : decide ((0 : Int) < (top l : Int)) = false := decide_eq_false htI
      go_wp2_with fail
      have hz := HT.out.1
      rw [Bool.true_and, decide_eq_false ht] at hz
      exact bodyPost_ret (v := .agg #[.bool false, .slice a' (top l) c']) (by simp [results, Try.results38, go_sem, *]) rfl ⟨_, _, _, _, rfl, hz.less (Keeps.pair _ _), HT.out.2.own (by omega) (Keeps.pair _ _)⟩
theorem mask32 (m : Nat) (h : m < 18446744073709551616) : bits BinOp.and IntKind.u64 (m : Int) 4294967295 = ((m % 4294967296 : Nat) : Int) := by
  have h1 := bits_and_u64_nat m 4294967295 (by omega) (by omega)
  rw [show (4294967295 : Nat) = 2 ^ 32 - 1 from rfl, Nat.and_two_pow_sub_one_eq_mod] at h1
  exact h1
theorem two_cells (w : World) (m : Nat) (g : Bool) (hm : m < 18446744073709551616) :
    ZAt Nil (w.alloc (.cells #[.int .u32 ((m : Int) % 4294967296), .int .u32 ((m : Int) / 4294967296)] 71)) g (some ⟨w.heap.size, 0, none⟩) 2 2 (if g = true then -(m : Int) else (m : Int)) := by
  have e1 : ((m : Int) % 4294967296) = ((m % Bs : Nat) : Int) := by rw [Bs_def]; omega
  have e2 : ((m : Int) / 4294967296) = ((m / Bs : Nat) : Int) := by rw [Bs_def]; omega
  rw [e1, e2]
  refine ⟨[m % Bs, m / Bs], Limbs.ofRow (E := 71) (l := [m % Bs, m / Bs]) RowIs.alloc (by
    intro x hx
    simp only [List.mem_cons, List.not_mem_nil, or_false] at hx
    rcases hx with rfl | rfl
    · exact Nat.mod_lt _ Bs_pos
    · rw [Bs_def]; omega) id (by simp), by decide, ?_⟩
  have hv : nval [m % Bs, m / Bs] = m := by simp only [nval, Nat.mul_zero, Nat.add_zero]; exact Nat.mod_add_div m Bs
  simp only [ival, hv]
set_option maxHeartbeats 1000000 in
theorem refof_any {M : Nat → Prop} {z : Int} {w : World} (hM : MB M w) (h0 : -9223372036854775808 ≤ z) (h1 : z ≤ 9223372036854775807) :
    Calls Try.prog 18 #[.int .i64 z] w fun e w' => ZRet M w z e w' := by
  have HM := Lib.hid hM
  clear hM
  have HX : ∀ (m : Nat) (g : Bool), m < 18446744073709551616 → Hid (Calls Try.prog 38 #[.agg #[.bool g, .slice (some ⟨w.heap.size + 1, 0, none⟩) 2 2]] ((w.alloc (.cells #[.bool false, .slice none 0 0] 36)).alloc (.cells #[.int .u32 ((m : Int) % 4294967296), .int .u32 ((m : Int) / 4294967296)] 71)) fun e w' => ZRet (With M w.heap.size) ((w.alloc (.cells #[.bool false, .slice none 0 0] 36)).alloc (.cells #[.int .u32 ((m : Int) % 4294967296), .int .u32 ((m : Int) / 4294967296)] 71)) (if g = true then -(m : Int) else (m : Int)) e w') := fun m g hm => Lib.hid (by
    have h := two_cells (w.alloc (.cells #[.bool false, .slice none 0 0] 36)) m g hm
    rw [show (w.alloc (.cells #[.bool false, .slice none 0 0] 36)).heap.size = w.heap.size + 1 by simp] at h
    exact refnorm_any ((HM.out.withNew _).keep (M' := Nil) (by repeat (first | exact Keeps.refl _ _ | refine Keeps.drew ?_ | refine Keeps.drewN ?_ _ | refine Keeps.alloc ?_ _))) h)
  by_cases hz : z < 0
  · obtain ⟨m, rfl⟩ : ∃ m : Nat, z = -(m : Int) := ⟨z.natAbs, by omega⟩
    have hm : m < 18446744073709551616 := by omega
    have hm2 : 0 < m := by omega
    have e1 := mask32 m hm
    have e2 : -(-(m : Int) + 1) + 1 = (m : Int) := by omega
    have HY := HX m true hm
    clear hm HX
    go_enter Try.func18, Try.ntmps18
    go_wp2_with (go_at_call 38; refine (HY.out).mono ?_; rintro e w' ⟨g', a', n', c', rfl, h', hk'⟩; have r := ((RowIs.alloc (w := w) (E := 36) (xs := [.bool false, .slice none 0 0])).keep (M := Nil) (by repeat (first | exact Keeps.refl _ _ | refine Keeps.drew ?_ | refine Keeps.drewN ?_ _ | refine Keeps.alloc ?_ _)) id).keep hk' id; obtain ⟨c0, c1, f0, f1⟩ := r.two; have HT := Lib.hid (And.intro h' hk'); clear h' hk' r)
    have hz' := HT.out.1
    simp only [reduceIte] at hz'
    exact bodyPost_ret (v := .agg #[.bool g', .slice a' n' c']) (by simp [results, Try.results18, go_sem, c0, c1]) rfl ⟨_, _, _, _, rfl, hz'.less (Keeps.pair _ _), ((((Keeps.refl Nil w).alloc _).alloc _).trans HT.out.2).own (Nat.le_refl _) (Keeps.pair _ _)⟩
  · obtain ⟨m, rfl⟩ : ∃ m : Nat, z = (m : Int) := ⟨z.natAbs, by omega⟩
    have hm : m < 18446744073709551616 := by omega
    have e1 := mask32 m hm
    have HY := HX m false hm
    clear hm HX
    go_enter Try.func18, Try.ntmps18
    go_wp2_with (go_at_call 38; refine (HY.out).mono ?_; rintro e w' ⟨g', a', n', c', rfl, h', hk'⟩; have r := ((RowIs.alloc (w := w) (E := 36) (xs := [.bool false, .slice none 0 0])).keep (M := Nil) (by repeat (first | exact Keeps.refl _ _ | refine Keeps.drew ?_ | refine Keeps.drewN ?_ _ | refine Keeps.alloc ?_ _)) id).keep hk' id; obtain ⟨c0, c1, f0, f1⟩ := r.two; have HT := Lib.hid (And.intro h' hk'); clear h' hk' r)
    have hz' := HT.out.1
    simp only [reduceIte, Bool.false_eq_true] at hz'
    exact bodyPost_ret (v := .agg #[.bool g', .slice a' n' c']) (by simp [results, Try.results18, go_sem, c0, c1]) rfl ⟨_, _, _, _, rfl, hz'.less (Keeps.pair _ _), ((((Keeps.refl Nil w).alloc _).alloc _).trans HT.out.2).own (Nat.le_refl _) (Keeps.pair _ _)⟩
end Go.Proofs.Ytfkclbhddiidbaa
