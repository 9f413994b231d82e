/- What riddleref18's rest and period do. Conditions: the numbers' own reading; room. -/
/- What riddleref18's period, lcm, same, both do. Conditions: the rows' own reading; room. -/
/- What riddleref18's both, whole, None do. Conditions: the rows' own reading. -/
/- What riddleref18's whole, None, Above do: sets by value. Conditions: the rows' own reading; room. -/
import Derived.Test.YtfkclbhddiidbaaGreatKRefs
import Derived.Test.YtfkclbhddiidbaaGreatKPSet
import Derived.Test.YtfkclbhddiidbaaGreatKPMake
import Derived.Deep.QuietTactic
import Derived.Test.YtfkclbhddiidbaaGreatKPLong
import Derived.Test.YtfkclbhddiidbaaGreatKPAbove
namespace Go.Rid
theorem fits_small {z : Int} (h0 : 0 ≤ z) (h : z < 4097) : fits64 z = true := fits64_of (by omega)
theorem mod_small {z : Int} {p : Nat} (h0 : 1 ≤ p) (h1 : p ≤ 4096) : z.fmod (p : Int) = z % (p : Int) ∧ 0 ≤ z % (p : Int) ∧ z % (p : Int) < 4097 := by
  refine ⟨Int.fmod_eq_emod_of_nonneg z (by omega), Int.emod_nonneg _ (by omega), ?_⟩
  have := Int.emod_lt_of_pos z (show (0 : Int) < (p : Int) by omega)
  omega
end Go.Rid
namespace Go.Proofs.YtfkclbhddiidbaaGreat
open Go.RowKit Go.Rid
set_option maxHeartbeats 1000000 in
theorem refrest_any {g : Bool} {a : Option Addr} {n c p : Nat} {z : Int} {w : World} (h : ZAt Nil w g a n c z) (hn : n * 4 + 40 ≤ 140737488355328) (hp : 1 ≤ p) (hp2 : p ≤ 4096) :
    Calls Tryz.prog 47 #[.agg #[.bool g, .slice a n c], .int .i64 (p : Int)] w fun e w' => e = .returned (.int .i64 (z % (p : Int))) ∧ Keeps Nil w w' := by
  have hk0 : Keeps Nil w (w.alloc (.cells #[.bool g, .slice a n c] 38)) := (by repeat (first | exact Keeps.refl _ _ | refine Keeps.drew ?_ | refine Keeps.drewN ?_ _ | refine Keeps.alloc ?_ _))
  have r0 := RowIs.alloc (w := w) (E := 38) (xs := [.bool g, .slice a n c])
  change RowIs (w.alloc (.cells #[.bool g, .slice a n c] 38)) _ _ _ at r0
  have HA := Lib.hid (And.intro (h.keepNil hk0) hk0)
  obtain ⟨m1, m2, m3⟩ := mod_small (z := z) hp hp2
  have HF := Lib.hid (fits_small m2 m3)
  have HPL := Lib.hid (nlen_int_small (m := (p : Int)) (by omega) (by omega))
  have HMD := Lib.hid m1
  have hfm : nlen (z.fmod (p : Int)).natAbs ≤ 1 := nlen_int_small (by rw [m1]; exact m2) (by rw [m1]; omega)
  have HML := Lib.hid hfm
  clear h hk0 m1 hfm
  go_enter Tryz.func47, Tryz.ntmps47
  go_upto_region 1 with (fail)
  generalize w.alloc (.cells #[.bool g, .slice a n c] 38) = w0 at *
  obtain ⟨c0, c1, _, _⟩ := r0.two
  have b0 := r0.lt
  clear r0
  go_wp2_with fail
  go_region_held3 (fun w' => w'.cell? ⟨w.heap.size, 0, none⟩ = some (.bool g) ∧ w'.cell? ⟨w.heap.size, 1, none⟩ = some (.slice a n c)) (go_keep) (first | (go_at_call 20; refine (refof_any (M := Nil) (z := (p : Int)) (MB.nil _) (by omega) (by omega)).mono ?_; rintro e w1 ⟨g1, a1, n1, c1', rfl, h1, hk1⟩; have d0 := hk1.cellE b0 id c0; have d1 := hk1.cellE b0 id c1; have H1 := Lib.hid (And.intro h1 (HA.out.2.trans ((show Keeps Nil w0 _ from (by repeat (first | exact Keeps.refl _ _ | refine Keeps.drew ?_ | refine Keeps.drewN ?_ _ | refine Keeps.alloc ?_ _))).trans hk1))); have HZ := Lib.hid (HA.out.1.keepNil ((show Keeps Nil w0 _ from (by repeat (first | exact Keeps.refl _ _ | refine Keeps.drew ?_ | refine Keeps.drewN ?_ _ | refine Keeps.alloc ?_ _))).trans hk1)); have b1 := Nat.lt_of_lt_of_le b0 hk1.size; clear h1 hk1) | (go_at_call 81; refine (refmod_any (M := Nil) (MB.nil _) (HZ.out.keepNil (by repeat (first | exact Keeps.refl _ _ | refine Keeps.drew ?_ | refine Keeps.drewN ?_ _ | refine Keeps.alloc ?_ _))) ((H1.out.1.zat (by have := HPL.out; omega)).keepNil (by repeat (first | exact Keeps.refl _ _ | refine Keeps.drew ?_ | refine Keeps.drewN ?_ _ | refine Keeps.alloc ?_ _))) (by omega) (by have := HPL.out; have := H1.out.1.len; omega)).mono ?_; rintro e w2 ⟨g2, a2, n2, c2, rfl, h2, hk2⟩; have e0 := hk2.cellE b1 id d0; have e1 := hk2.cellE b1 id d1; have H2 := Lib.hid (And.intro h2 (H1.out.2.trans ((show Keeps Nil w1 _ from (by repeat (first | exact Keeps.refl _ _ | refine Keeps.drew ?_ | refine Keeps.drewN ?_ _ | refine Keeps.alloc ?_ _))).trans hk2))); have b2 := Nat.lt_of_lt_of_le b1 hk2.size; clear h2 hk2) | (go_at_call 45; refine (refint64_any ((H2.out.1.zat (by have := HML.out; omega)).keepNil (by repeat (first | exact Keeps.refl _ _ | refine Keeps.drew ?_ | refine Keeps.drewN ?_ _ | refine Keeps.alloc ?_ _)))).mono ?_; rintro e w3 ⟨rfl, hk3⟩; have f0 := hk3.cellE b2 id e0; have f1 := hk3.cellE b2 id e1; have H3 := Lib.hid (H2.out.2.trans ((show Keeps Nil w2 _ from (by repeat (first | exact Keeps.refl _ _ | refine Keeps.drew ?_ | refine Keeps.drewN ?_ _ | refine Keeps.alloc ?_ _))).trans hk3)); clear hk3))
  all_goals
    go_wp2_with fail
    go_ret
    rw [HMD.out, int64_eq HF.out]
    exact ⟨rfl, H3.out.trans (by repeat (first | exact Keeps.refl _ _ | refine Keeps.drew ?_ | refine Keeps.drewN ?_ _ | refine Keeps.alloc ?_ _))⟩
end Go.Proofs.YtfkclbhddiidbaaGreat

namespace Go.Rid
theorem tmod_nat (a b : Nat) : (a : Int).tmod (b : Int) = ((a % b : Nat) : Int) := by
  rw [Int.tmod_eq_emod_of_nonneg (Int.natCast_nonneg _)]; norm_cast
theorem lcm_small {p q : Nat} (h1 : p ≤ 4096) (h2 : q ≤ 4096) : Nat.lcm p q ≤ 16777216 := by
  have e1 : Nat.lcm p q ≤ p * q := by
    rcases Nat.eq_zero_or_pos p with h | h
    · subst h; simp
    rcases Nat.eq_zero_or_pos q with h' | h'
    · subst h'; simp
    exact Nat.le_of_dvd (Nat.mul_pos h h') (Nat.lcm_dvd (Nat.dvd_mul_right _ _) (Nat.dvd_mul_left _ _))
  have : p * q ≤ 4096 * 4096 := Nat.mul_le_mul h1 h2
  omega
theorem lcm_more {p q n : Nat} (hp : 1 ≤ p) (hn : p ∣ n) (h0 : 0 < n) (hle : n ≤ Nat.lcm p q) (h : ¬ n % q = 0) : n + p ≤ Nat.lcm p q := by
  have h1 : n ≠ Nat.lcm p q := fun e => h (by rw [e]; exact Nat.mod_eq_zero_of_dvd (Nat.dvd_lcm_right p q))
  obtain ⟨k, rfl⟩ := hn
  obtain ⟨m, hm⟩ := Nat.dvd_lcm_left p q
  rw [hm] at hle h1 ⊢
  have h2 : k < m := by
    rcases Nat.lt_or_ge k m with h | h
    · exact h
    · have := Nat.mul_le_mul_left p h; omega
  have := Nat.mul_le_mul_left p (show k + 1 ≤ m by omega)
  rwa [Nat.mul_add, Nat.mul_one] at this
theorem lcm_done {p q n : Nat} (hn : p ∣ n) (h0 : 0 < n) (hle : n ≤ Nat.lcm p q) (h : n % q = 0) : n = Nat.lcm p q :=
  Nat.le_antisymm hle (Nat.le_of_dvd h0 (Nat.lcm_dvd hn (Nat.dvd_of_mod_eq_zero h)))
/-- What the document joins two rows by. -/
def refF (m : Bool) (x y : Bool) : Bool := x && y || !m && (x || y)
def bothRow (f : Bool → Bool → Bool) (q : Nat) (a b : List Bool) (n : Nat) : List Value := ((both f q a b).take n).map Value.bool ++ zeros (q - n) (.bool false)
theorem bothRow_zero (f : Bool → Bool → Bool) (q : Nat) (a b : List Bool) : bothRow f q a b 0 = zeros q (.bool false) := by simp [bothRow]
theorem bothRow_all (f : Bool → Bool → Bool) (q : Nat) (a b : List Bool) : bothRow f q a b q = (both f q a b).map Value.bool := by
  simp [bothRow, zeros, List.take_of_length_le (Nat.le_of_eq (length_both f q a b))]
theorem bothRow_succ {f : Bool → Bool → Bool} {q : Nat} {a b : List Bool} {n : Nat} (h : n < q) : (bothRow f q a b n).set n (.bool (f (a.getD (n % a.length) false) (b.getD (n % b.length) false))) = bothRow f q a b (n + 1) := by
  unfold bothRow
  have hl : (both f q a b).length = q := length_both f q a b
  rw [List.set_append_right _ _ (by rw [List.length_map, List.length_take]; exact Nat.min_le_left _ _), List.length_map, List.length_take, Nat.min_eq_left (by omega), Nat.sub_self, show q - n = (q - (n + 1)) + 1 by omega]
  rw [List.take_succ_eq_append_getElem (by omega), List.map_append]
  simp [zeros, List.replicate_succ, both]
end Go.Rid
namespace Go.Proofs.YtfkclbhddiidbaaGreat
open Go.RowKit Go.Rid
set_option maxHeartbeats 1000000 in
theorem refperiod_any {g : Bool} {a : Option Addr} {n c : Nat} {z : Int} {w : World} (h : ZAt Nil w g a n c z) (hn : n * 4 + 128 ≤ 140737488355328) :
    Calls Tryz.prog 64 #[.agg #[.bool g, .slice a n c]] w fun e w' => e = .returned (.tuple #[.int .i64 (int64 (z.natAbs : Int)), .bool (decide (z.natAbs ≤ 4096))]) ∧ Keeps Nil w w' := by
  have hk0 : Keeps Nil w (w.alloc (.cells #[.bool g, .slice a n c] 38)) := (by repeat (first | exact Keeps.refl _ _ | refine Keeps.drew ?_ | refine Keeps.drewN ?_ _ | refine Keeps.alloc ?_ _))
  have r0 := RowIs.alloc (w := w) (E := 38) (xs := [.bool g, .slice a n c])
  change RowIs (w.alloc (.cells #[.bool g, .slice a n c] 38)) _ _ _ at r0
  have hl := h.nlen_le
  have HA := Lib.hid (And.intro (h.keepNil hk0) hk0)
  clear h hk0
  go_enter Tryz.func64, Tryz.ntmps64
  go_upto_region 1 with (fail)
  generalize w.alloc (.cells #[.bool g, .slice a n c] 38) = w0 at *
  obtain ⟨c0, c1, _, _⟩ := r0.two
  clear r0
  go_upto_region 2 with (first | (go_at_call 97; refine (refabs_any (M := Nil) (MB.nil _) HA.out.1).mono ?_; rintro e w1 ⟨g1, a1, n1, c1', rfl, h1, hk1⟩; have H1 := Lib.hid (And.intro h1 (HA.out.2.trans hk1)); clear h1 hk1) | (go_at_call 45; refine (refint64_any (H1.out.1.zat (by rw [Int.natAbs_natCast]; omega))).mono ?_; rintro e w3 ⟨rfl, hk3⟩; have H3 := Lib.hid (H1.out.2.trans hk3); clear hk3))
  clear c0 c1 hl
  obtain ⟨A, hA⟩ : ∃ A, A = z.natAbs := ⟨_, rfl⟩
  have HAE := Lib.hid hA
  rw [← hA]
  clear hA
  by_cases hf : fits64 (A : Int) = true
  · by_cases hle : A ≤ 4096
    · have HI := Lib.hid (int64_eq hf)
      have HD := Lib.hid (decide_eq_true hle)
      have i1 : (A : Int) ≤ 4096 := by omega
      rw [hf, int64_eq hf]
      clear hf hle
      go_wp2_with fail
      go_ret2
      rw [← HAE.out, HI.out, HD.out]
      exact ⟨rfl, H3.out⟩
    · have HI := Lib.hid (int64_eq hf)
      have HD := Lib.hid (decide_eq_false hle)
      have i1 : ¬ (A : Int) ≤ 4096 := by omega
      rw [hf, int64_eq hf]
      clear hf hle
      go_wp2_with fail
      go_ret2
      rw [← HAE.out, HI.out, HD.out]
      exact ⟨rfl, H3.out⟩
  · have hf' : fits64 (A : Int) = false := by simpa using hf
    have HI := Lib.hid (int64_no hf')
    have HD := Lib.hid (show decide (A ≤ 4096) = false from decide_eq_false fun h => hf (fits_small (by omega) (by omega)))
    rw [hf', int64_no hf']
    clear hf hf'
    go_wp2_with fail
    go_ret2
    rw [← HAE.out, HI.out, HD.out]
    exact ⟨rfl, H3.out⟩
set_option maxHeartbeats 1000000 in
theorem reflcm_any {p q : Nat} {w : World} (hp : 1 ≤ p) (hp2 : p ≤ 4096) (hq : 1 ≤ q) (hq2 : q ≤ 4096) :
    Calls Tryz.prog 43 #[.int .i64 (p : Int), .int .i64 (q : Int)] w fun e w' => e = .returned (.int .i64 (Nat.lcm p q : Int)) ∧ w = w' := by
  have hl := lcm_small hp2 hq2
  have hq0 : ¬ (q : Int) = 0 := by omega
  go_enter Tryz.func43, Tryz.ntmps43
  go_wp2_with fail
  go_loop [5] (fun i => ∃ n : Nat, i = .int .i64 (n : Int) ∧ p ∣ n ∧ 0 < n ∧ n ≤ Nat.lcm p q) (fun i => Nat.lcm p q - (intOf i).toNat)
  case atStart => exact ⟨p, rfl, Nat.dvd_refl _, hp, Nat.le_of_dvd (Nat.lcm_pos hp hq) (Nat.dvd_lcm_left p q)⟩
  case round =>
    obtain ⟨n, rfl, hd, h0, hle⟩ := hrel
    have em := tmod_nat n q
    have HH := Lib.hid (And.intro hd (And.intro h0 hle))
    by_cases hm : n % q = 0
    · rw [hm] at em
      have HM := Lib.hid hm
      clear hd h0 hm
      go_wp2_with fail
      go_ret
      rw [lcm_done HH.out.1 HH.out.2.1 HH.out.2.2 HM.out]
      exact ⟨rfl, rfl⟩
    · have h3 := lcm_more hp hd h0 hle hm
      have HM := Lib.hid h3
      have i1 : ¬ ((n % q : Nat) : Int) = 0 := by omega
      have i2 : (((n % q : Nat) : Int) == 0) = false := beq_eq_false_iff_ne.2 i1
      clear hd h0 hm
      generalize Nat.lcm p q = L at *
      go_wp2_with fail
      go_round
      case rel => exact ⟨n + p, by go_num, (Nat.dvd_add_right HH.out.1).2 (Nat.dvd_refl _), by omega, HM.out⟩
      case measure => simp [intOf]; omega
set_option maxHeartbeats 1000000 in
theorem refsame_any {M M' : Nat → Prop} {a a2 : Option Addr} {n c n2 c2 : Nat} {l l2 : List Bool} {w : World} (h : Bools M w a n c l) (h2 : Bools M' w a2 n2 c2 l2) (hn : n = n2) :
    Calls Tryz.prog 99 #[.slice a n c, .slice a2 n2 c2] w fun e w' => e = .returned (.bool (decide (l = l2))) ∧ Keeps Nil w w' := by
  subst hn
  have hcap := h.2.cap
  have hle := h.2.le
  have hcap2 := h2.2.cap
  have hle2 := h2.2.le
  have HH := Lib.hid (And.intro h h2)
  clear h h2
  go_enter Tryz.func99, Tryz.ntmps99
  go_wp2_with fail
  go_loopw [5] (fun i wr => ∃ k : Nat, k ≤ n ∧ i = .int .i64 k ∧ (∀ j, j < k → l.getD j false = l2.getD j false) ∧ Keeps Nil w wr) (fun i _ => n - (intOf i).toNat)
  case atStart => exact ⟨0, Nat.zero_le _, rfl, fun j hj => by omega, Keeps.refl _ _⟩
  case round =>
    obtain ⟨k, hk, rfl, hall, hkk⟩ := hrel
    have HA := Lib.hid hall
    have HK := Lib.hid hkk
    clear hall
    by_cases hlt : k < n
    · obtain ⟨b, off, hae, hb1, _, p0⟩ := (HH.out.1.move (M2 := Nil) hkk (fun _ _ h => h.elim) fun _ _ h => h.elim).at hlt
      obtain ⟨b2, off2, hae2, hb2, _, p1⟩ := (HH.out.2.move (M2 := Nil) hkk (fun _ _ h => h.elim) fun _ _ h => h.elim).at hlt
      subst hae
      subst hae2
      have i1 : (k : Int) < (n : Int) := by omega
      by_cases he : l.getD k false = l2.getD k false
      · have HE := Lib.hid he
        rw [← he] at p1
        generalize hx : l.getD k false = x at *
        have HX := Lib.hid hx
        clear he hkk hx
        go_wp2_with fail
        go_quiet (fail)
        go_wp2_with fail
        go_roundw
        case rel => exact ⟨k + 1, by omega, by go_num, fun j hj => by rcases Nat.lt_succ_iff_lt_or_eq.1 hj with h | rfl; exact HA.out j h; exact HX.out.trans HE.out, HK.out.trans (by repeat (first | exact Keeps.refl _ _ | refine Keeps.drew ?_ | refine Keeps.drewN ?_ _ | refine Keeps.alloc ?_ _))⟩
        case measure => simp [intOf]; omega
      · have e : decide (l = l2) = false := decide_eq_false fun e => he (by rw [e])
        have HE := Lib.hid e
        have hx : (l.getD k false == l2.getD k false) = false := by simpa using he
        have hy : ¬ l.getD k false = l2.getD k false := he
        clear e he hkk
        generalize l.getD k false = x at *
        generalize l2.getD k false = y at *
        go_wp2_with fail
        go_quiet (fail)
        go_wp2_with fail
        go_ret
        exact ⟨by rw [HE.out]; rfl, HK.out.trans (by repeat (first | exact Keeps.refl _ _ | refine Keeps.drew ?_ | refine Keeps.drewN ?_ _ | refine Keeps.alloc ?_ _))⟩
    · have e : decide (l = l2) = true := decide_eq_true (by
        apply List.ext_getElem
        · rw [HH.out.1.1, HH.out.2.1]
        · intro i h1 h2
          have := HA.out i (by have := HH.out.1.1; omega)
          simpa [List.getD, List.getElem?_eq_getElem h1, List.getElem?_eq_getElem h2] using this)
      have HE := Lib.hid e
      clear e
      go_wp2_with fail
      go_ret
      exact ⟨by rw [HE.out]; rfl, hkk⟩
end Go.Proofs.YtfkclbhddiidbaaGreat

namespace Go.Proofs.YtfkclbhddiidbaaGreat
open Go.RowKit Go.Rid
set_option maxHeartbeats 2000000 in
theorem refboth_any {M : Nat → Prop} {a a2 : Option Addr} {n c n2 c2 q : Nat} {l l2 : List Bool} {m : Bool} {w : World} (hM : MB M w) (h : Bools Nil w a n c l) (h2 : Bools Nil w a2 n2 c2 l2) (hn : 1 ≤ n) (hn2 : 1 ≤ n2) (hq : q ≤ 16777216) :
    Calls Tryz.prog 98 #[.slice a n c, .slice a2 n2 c2, .int .i64 (q : Int), .bool m] w fun e w' => ∃ a' c', e = .returned (.slice a' q c') ∧ Bools M w' a' q c' (both (refF m) q l l2) ∧ Keeps Nil w w' := by
  obtain ⟨i0, hi, hz0, hz1, hz2⟩ := info_parts info_bool'
  have hcap := h.2.cap
  have hle := h.2.le
  have hcap2 := h2.2.cap
  have hle2 := h2.2.le
  have HH := Lib.hid (And.intro h h2)
  have HM := Lib.hid hM
  have j1 : ¬ (n : Int) = 0 := by omega
  have j2 : ¬ (n2 : Int) = 0 := by omega
  clear h h2 hM
  go_enter Tryz.func98, Tryz.ntmps98
  go_wp2_with (at_make; refine wpList_make_row _ rfl _ _ 58 rfl 4 i0 (.bool false) Tryz.underlying58 hi hz0 hz1 rfl .i64 .i64 _ _ q rfl rfl rfl rfl (by rw [hz2]; omega) (by omega) ?_; intro w1 hrow hk1 hsz1; have HR := Lib.hid (And.intro hrow (And.intro hk1 hsz1)); clear hrow hk1 hsz1)
  go_loopw [10] (fun i wr => ∃ k : Nat, k ≤ q ∧ i = .int .i64 k ∧ RowIs wr w.heap.size 4 (bothRow (refF m) q l l2 k) ∧ Keeps Nil w wr) (fun i _ => q - (intOf i).toNat)
  case atStart => exact ⟨0, Nat.zero_le _, rfl, by rw [bothRow_zero]; exact HR.out.1, HR.out.2.1⟩
  case round =>
    obtain ⟨k, hk, rfl, hrow, hkk⟩ := hrel
    have hg := hrow.lt
    have HK := Lib.hid (And.intro hrow hkk)
    by_cases hlt : k < q
    · have em := tmod_nat k n
      have em2 := tmod_nat k n2
      have hx1 := Nat.mod_lt k hn
      have hx2 := Nat.mod_lt k hn2
      obtain ⟨b, off, hae, hb1, _, p0⟩ := (HH.out.1.move (M2 := Nil) hkk (fun _ _ h => h.elim) fun _ _ h => h.elim).at hx1
      obtain ⟨b2, off2, hae2, hb2, _, p1⟩ := (HH.out.2.move (M2 := Nil) hkk (fun _ _ h => h.elim) fun _ _ h => h.elim).at hx2
      subst hae
      subst hae2
      have HSU := Lib.hid (bothRow_succ (f := refF m) (a := l) (b := l2) hlt)
      have f0 := hrow.frozen k
      have p2 := hrow.cell k
      have hlr : (bothRow (refF m) q l l2 k).length = q := by simp [bothRow, length_both, zeros]; omega
      rw [List.getElem?_eq_getElem (by rw [hlr]; exact hlt)] at p2
      have hl1 := HH.out.1.1
      have hl2 := HH.out.2.1
      rw [hl1, hl2] at HSU
      generalize (bothRow (refF m) q l l2 k)[k]'(by rw [hlr]; exact hlt) = old at *
      generalize hX : l.getD (k % n) false = x at *
      generalize hY : l2.getD (k % n2) false = y at *
      generalize hu : k % n = u at *
      generalize hv : k % n2 = v at *
      have i1 : (k : Int) < (q : Int) := by omega
      have i3 : (u : Int) < (n : Int) := by omega
      have i4 : (v : Int) < (n2 : Int) := by omega
      have i5 : (0 : Int) ≤ (u : Int) := by omega
      have i6 : (0 : Int) ≤ (v : Int) := by omega
      clear hX hY hu hv hrow hkk hl1 hl2 hlr
      cases x <;> cases y <;> cases m
      all_goals
        go_wp2_with fail
        go_roundw
        case rel => exact ⟨k + 1, by omega, by go_num, by rw [← HSU.out]; exact HK.out.1.set k _, HK.out.2.own (Nat.le_refl _) ((Keeps.refl (One w.heap.size) wr).set1 k _)⟩
        case measure => simp [intOf]; omega
    · obtain rfl : k = q := by omega
      have i1 : ¬ (k : Int) < (k : Int) := by omega
      have HF := Lib.hid (show RowIs wr w.heap.size 4 ((both (refF m) k l l2).map Value.bool) by rw [← bothRow_all]; exact hrow)
      clear hrow hkk
      go_wp2_with fail
      go_ret
      have hb := Bools.ofRow HF.out (M := M) (fun h => by have := HM.out _ h; omega) (by rw [length_both]; omega)
      rw [length_both] at hb
      exact ⟨_, _, rfl, hb, HK.out.2⟩
end Go.Proofs.YtfkclbhddiidbaaGreat

namespace Go.Rid
open Go.RowKit
/-- A store of three cells. -/
theorem Keeps.triple {w : World} {g : Nat} (u v x : Value) : Keeps (One g) w (((w.setCell ⟨g, 0, none⟩ u).setCell ⟨g, 1, none⟩ v).setCell ⟨g, 2, none⟩ x) := (((Keeps.refl (One g) w).set1 0 u).set1 1 v).set1 2 x
theorem RowIs.triple {w : World} {g : Nat} {E : TypeId} {u v x u' v' x' : Value} (h : RowIs w g E [u, v, x]) : RowIs (((w.setCell ⟨g, 0, none⟩ u').setCell ⟨g, 1, none⟩ v').setCell ⟨g, 2, none⟩ x') g E [u', v', x'] := ((h.set 0 u').set 1 v').set 2 x'
end Go.Rid
namespace Go.Proofs.YtfkclbhddiidbaaGreat
open Go.RowKit Go.Rid
/-- A set's two slices. -/
def SV (M : Nat → Prop) (w : World) (ac : Option Addr) (nc cc : Nat) (ar : Option Addr) (nr cr : Nat) (S : PSet) : Prop := ZInts M w ac nc cc S.cuts ∧ BRows M w ar nr cr S.rows
theorem SV.move {M M' M2 : Nat → Prop} {w w' : World} {ac : Option Addr} {nc cc : Nat} {ar : Option Addr} {nr cr : Nat} {S : PSet} (h : SV M w ac nc cc ar nr cr S) (k : Keeps M' w w') (h1 : ∀ b, b < w.heap.size → M' b → M b) (h2 : ∀ b, b < w.heap.size → M2 b → M b) : SV M2 w' ac nc cc ar nr cr S := ⟨h.1.move k h1 h2, h.2.move k h1 h2⟩
theorem SV.keepNil {M : Nat → Prop} {w w' : World} {ac : Option Addr} {nc cc : Nat} {ar : Option Addr} {nr cr : Nat} {S : PSet} (h : SV M w ac nc cc ar nr cr S) (k : Keeps Nil w w') : SV M w' ac nc cc ar nr cr S := h.move k (fun _ _ h => h.elim) fun _ _ => id
theorem SV.toNil {M : Nat → Prop} {w : World} {ac : Option Addr} {nc cc : Nat} {ar : Option Addr} {nr cr : Nat} {S : PSet} (h : SV M w ac nc cc ar nr cr S) : SV Nil w ac nc cc ar nr cr S := h.move (Keeps.refl Nil w) (fun _ _ h => h.elim) fun _ _ h => h.elim
def RSetRet (M : Nat → Prop) (w : World) (S : PSet) (e : Ending) (w' : World) : Prop := ∃ ac nc cc ar nr cr, e = .returned (.agg #[.int .i64 (S.P : Int), .slice ac nc cc, .slice ar nr cr]) ∧ SV M w' ac nc cc ar nr cr S ∧ Keeps Nil w w'
set_option maxHeartbeats 1000000 in
theorem refwhole_any {M : Nat → Prop} {a : Option Addr} {n c : Nat} {l : List Bool} {w : World} (hM : MB M w) (h : Bools M w a n c l) :
    Calls Tryz.prog 24 #[.slice a n c] w fun e w' => RSetRet M w ⟨l.length, [], [l]⟩ e w' := by
  have HM := Lib.hid hM
  have HB := Lib.hid h
  clear hM h
  go_enter Tryz.func24, Tryz.ntmps24
  go_wp2_with fail
  have r0 := RowIs.alloc (w := w) (E := 30) (xs := [.int .i64 n, .slice none 0 0, .slice (some ⟨w.heap.size + 1, 0, none⟩) 1 1])
  have k0 : Keeps Nil w (w.alloc (.cells #[.int .i64 n, .slice none 0 0, .slice (some ⟨w.heap.size + 1, 0, none⟩) 1 1] 30)) := (by repeat (first | exact Keeps.refl _ _ | refine Keeps.drew ?_ | refine Keeps.drewN ?_ _ | refine Keeps.alloc ?_ _))
  change RowIs (w.alloc (.cells #[.int .i64 n, .slice none 0 0, .slice (some ⟨w.heap.size + 1, 0, none⟩) 1 1] 30)) _ _ _ at r0
  have hs : (w.alloc (.cells #[.int .i64 n, .slice none 0 0, .slice (some ⟨w.heap.size + 1, 0, none⟩) 1 1] 30)).heap.size = w.heap.size + 1 := by simp
  generalize w.alloc (.cells #[.int .i64 n, .slice none 0 0, .slice (some ⟨w.heap.size + 1, 0, none⟩) 1 1] 30) = w0 at *
  have r1 := RowIs.alloc (w := w0) (E := 58) (xs := [.slice a n c])
  have k1 : Keeps Nil w0 (w0.alloc (.cells #[.slice a n c] 58)) := (by repeat (first | exact Keeps.refl _ _ | refine Keeps.drew ?_ | refine Keeps.drewN ?_ _ | refine Keeps.alloc ?_ _))
  rw [hs] at r1
  have nm1 : ¬ M (w.heap.size + 1) := fun hm => by have := HM.out _ hm; omega
  obtain ⟨c0, c1, c2⟩ := (r0.keep k1 id).three
  refine bodyPost_ret (v := .agg #[.int .i64 n, .slice none 0 0, .slice (some ⟨w.heap.size + 1, 0, none⟩) 1 1]) (by simp only [results, Tryz.results24, go_sem, c0, c1, c2]; try simp [go_sem, c0, c1, c2]) rfl ⟨_, _, _, _, _, _, by rw [HB.out.1], ⟨ZInts.none, ?_⟩, k0.trans k1⟩
  refine BRows.ofRow (els := [[.slice a n c]]) (ls := [l]) r1 (by simp) nm1 (by simp) rfl fun i hi => ?_
  obtain rfl : i = 0 := by simpa using hi
  exact ⟨a, n, c, rfl, HB.out.move (k0.trans k1) (fun _ _ h => h.elim) fun _ _ => id⟩
set_option maxHeartbeats 1000000 in
theorem refnone_any {M : Nat → Prop} {w : World} (hM : MB M w) : Calls Tryz.prog 7 #[] w fun e w' => RSetRet M w noneSet e w' := by
  have HM := Lib.hid hM
  clear hM
  have k0 : Keeps Nil w (w.alloc (.cells #[.int .i64 0, .slice none 0 0, .slice none 0 0] 30)) := (by repeat (first | exact Keeps.refl _ _ | refine Keeps.drew ?_ | refine Keeps.drewN ?_ _ | refine Keeps.alloc ?_ _))
  have r0 := RowIs.alloc (w := w) (E := 30) (xs := [.int .i64 0, .slice none 0 0, .slice none 0 0])
  change RowIs (w.alloc (.cells #[.int .i64 0, .slice none 0 0, .slice none 0 0] 30)) _ _ _ at r0
  go_enter Tryz.func7, Tryz.ntmps7
  go_upto_region 1 with (fail)
  generalize w.alloc (.cells #[.int .i64 0, .slice none 0 0, .slice none 0 0] 30) = w0 at *
  have r1 := RowIs.alloc (w := w0) (E := 4) (xs := [false].map Value.bool)
  have k1 : Keeps Nil w0 (w0.alloc (.cells #[.bool false] 4)) := (by repeat (first | exact Keeps.refl _ _ | refine Keeps.drew ?_ | refine Keeps.drewN ?_ _ | refine Keeps.alloc ?_ _))
  have hb := Bools.ofRow (M := With M w.heap.size) (l := [false]) r1 (fun hm => by rcases hm with hm | hm; (have := HM.out _ hm; have := k0.size; omega); (have : w0.heap.size = w.heap.size := hm; have := r0.lt; omega)) (by decide)
  have HB := Lib.hid (And.intro hb (And.intro ((HM.out.keep k0).with r0.lt) k1))
  have HR := Lib.hid (And.intro r0 k0)
  clear r0 k0 r1 k1 hb
  go_wp2_with (go_at_call 24; refine (refwhole_any (HB.out.2.1.keep HB.out.2.2) HB.out.1).mono ?_; rintro e w' ⟨ac, nc, cc, ar, nr, cr, rfl, hs, hk⟩; obtain ⟨c0, c1, c2⟩ := ((HR.out.1.keep HB.out.2.2 id).keep hk id).three; have f0 := ((HR.out.1.keep HB.out.2.2 id).keep hk id).frozen 0; have f1 := ((HR.out.1.keep HB.out.2.2 id).keep hk id).frozen 1; have f2 := ((HR.out.1.keep HB.out.2.2 id).keep hk id).frozen 2; have HS := Lib.hid (And.intro hs hk); clear hs hk)
  have r3 := ((HR.out.1.keep HB.out.2.2 id).keep HS.out.2 id).triple (u' := .int .i64 1) (v' := .slice ac nc cc) (x' := .slice ar nr cr)
  obtain ⟨k0, k1, k2⟩ := r3.three
  exact bodyPost_ret (v := .agg #[.int .i64 1, .slice ac nc cc, .slice ar nr cr]) (by simp [results, Tryz.results7, go_sem, k0, k1, k2]) rfl ⟨_, _, _, _, _, _, rfl, HS.out.1.move (M' := One w.heap.size) (Keeps.triple _ _ _) (fun _ _ h => .inr h) (fun _ _ h => .inl h), ((HR.out.2.trans HB.out.2.2).trans HS.out.2).own (Nat.le_refl _) (Keeps.triple _ _ _)⟩
end Go.Proofs.YtfkclbhddiidbaaGreat
