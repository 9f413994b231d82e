/- What slices.BinarySearchFunc does at numbers by zint.Cmp, and (*periods.Set).at. Conditions: the lists' own reading; they rise. -/
import Derived.Test.YtfkclbhddiidbaaGreatKZints
import Derived.Test.YtfkclbhddiidbaaGreatKRegions
import Derived.Test.YtfkclbhddiidbaaGreatKWords
import Derived.Deep.DeepCutAuto
namespace Go.Rid
open Go.RowKit
/-- Two cells that hold a number, as it should stand. -/
def RZ (M : Nat → Prop) (w : World) (cs : List Value) (z : Int) : Prop := ∃ g a n c, cs = [.bool g, .slice a n c] ∧ ZN M w g a n c z
theorem RZ.move {M M' M2 : Nat → Prop} {w w' : World} {cs : List Value} {z : Int} (h : RZ M w cs z) (k : Keeps M' w w') (h1 : ∀ b, b < w.heap.size → M' b → M b) (h2 : ∀ b, b < w.heap.size → M2 b → M b) : RZ M2 w' cs z := by
  obtain ⟨g, a, n, c, e, q⟩ := h; exact ⟨g, a, n, c, e, q.move k h1 h2⟩
/-- A list of numbers. -/
def ZInts (M : Nat → Prop) (w : World) (a : Option Addr) (n c : Nat) (zs : List Int) : Prop := SlOf M w 2 (RZ M w) 0 a n c zs
theorem ZInts.move {M M' M2 : Nat → Prop} {w w' : World} {a : Option Addr} {n c : Nat} {zs : List Int} (h : ZInts M w a n c zs) (k : Keeps M' w w') (h1 : ∀ b, b < w.heap.size → M' b → M b) (h2 : ∀ b, b < w.heap.size → M2 b → M b) : ZInts M2 w' a n c zs :=
  SlOf.move h k h1 h2 fun _ _ hx => hx.move k h1 h2
theorem ZInts.keepNil {M : Nat → Prop} {w w' : World} {a : Option Addr} {n c : Nat} {zs : List Int} (h : ZInts M w a n c zs) (k : Keeps Nil w w') : ZInts M w' a n c zs := h.move k (fun _ _ h => h.elim) fun _ _ => id
theorem ZInts.toNil {M : Nat → Prop} {w : World} {a : Option Addr} {n c : Nat} {zs : List Int} (h : ZInts M w a n c zs) : ZInts Nil w a n c zs := h.move (Keeps.refl Nil w) (fun _ _ h => h.elim) fun _ _ h => h.elim
/-- The i-th. -/
def zth (zs : List Int) (i : Nat) : Int := zs.getD i 0
theorem zth_lt {zs : List Int} {i : Nat} (h : i < zs.length) : zth zs i = zs[i] := by simp [zth, List.getD, List.getElem?_eq_getElem h]
theorem ZInts.at {M : Nat → Prop} {w : World} {a : Option Addr} {n c : Nat} {zs : List Int} (h : ZInts M w a n c zs) {i : Nat} (hi : i < n) :
    ∃ b off g a' n' c', a = some ⟨b, off, none⟩ ∧ b < w.heap.size ∧ ¬ M b ∧ w.cell? ⟨b, off + i * 2, none⟩ = some (.bool g) ∧ w.cell? ⟨b, off + i * 2 + 1, none⟩ = some (.slice a' n' c') ∧ ZN M w g a' n' c' (zth zs i) := by
  obtain ⟨b, off, cs, rfl, hb, hn, hl, hc, g, a', n', c', rfl, hz⟩ := SlOf.at h hi
  exact ⟨b, off, g, a', n', c', rfl, hb, hn, by simpa using hc 0 (by omega), by simpa using hc 1 (by omega), hz⟩
theorem cmpZ_cases (a b : Int) : (cmpZ a b = -1 ∧ a < b) ∨ (cmpZ a b = 0 ∧ a = b) ∨ (cmpZ a b = 1 ∧ b < a) := by
  unfold cmpZ
  (repeat' split) <;> omega
theorem zth_mono {zs : List Int} (hs : zs.Pairwise (· < ·)) {k j : Nat} (hkj : k < j) (hj : j < zs.length) : zth zs k < zth zs j := by
  rw [zth_lt (by omega), zth_lt hj]; exact List.pairwise_iff_getElem.1 hs k j (by omega) hj hkj
theorem zth_below {zs : List Int} (hs : zs.Pairwise (· < ·)) {x : Int} {k m : Nat} (hm : m < zs.length) (hk : k ≤ m) (h : zth zs m < x) : zth zs k < x := by
  rcases Nat.lt_or_eq_of_le hk with h' | rfl
  · have := zth_mono hs h' hm; omega
  · exact h
theorem zth_above {zs : List Int} (hs : zs.Pairwise (· < ·)) {x : Int} {k m : Nat} (hk : m ≤ k) (hm : k < zs.length) (h : x ≤ zth zs m) : x ≤ zth zs k := by
  rcases Nat.lt_or_eq_of_le hk with h' | rfl
  · have := zth_mono hs h' hm; omega
  · exact h
/-- i splits the list by x. -/
structure Splits (zs : List Int) (x : Int) (i : Nat) : Prop where
  le : i ≤ zs.length
  lo : ∀ k, k < i → zth zs k < x
  hi : ∀ k, i ≤ k → k < zs.length → x ≤ zth zs k
/-- The i-th is there, and it is x. -/
def hit (zs : List Int) (x : Int) (i : Nat) : Bool := decide (i < zs.length ∧ zth zs i = x)
theorem place_of_splits {zs : List Int} {x : Int} {i : Nat} (hs : zs.Pairwise (· < ·)) (h : Splits zs x i) : place zs x = if i < zs.length ∧ zth zs i = x then i + 1 else i := by
  have e : place zs x = place (zs.take i) x + place (zs.drop i) x := by rw [← place_append, List.take_append_drop]
  have e1 : place (zs.take i) x = i := by
    have : place (zs.take i) x = (zs.take i).length := place_all fun c hc => by
      obtain ⟨k, hk, rfl⟩ := List.mem_iff_getElem.1 hc
      rw [List.length_take] at hk
      have := h.lo k (by omega)
      rw [zth_lt (by omega)] at this
      rw [List.getElem_take]; omega
    rw [this, List.length_take, Nat.min_eq_left h.le]
  rw [e, e1]
  have hps : ∀ k j, k < j → (hj : j < zs.length) → zth zs k < zth zs j := fun k j hkj hj => by
    rw [zth_lt (by omega), zth_lt hj]; exact List.pairwise_iff_getElem.1 hs k j (by omega) hj hkj
  split
  · rename_i hc
    rw [List.drop_eq_getElem_cons hc.1]
    have : place (zs.drop (i + 1)) x = 0 := place_zero fun c hc' => by
      obtain ⟨k, hk, rfl⟩ := List.mem_iff_getElem.1 hc'
      rw [List.length_drop] at hk
      rw [List.getElem_drop, ← zth_lt (by omega)]
      have := hps i (i + 1 + k) (by omega) (by omega)
      omega
    have e2 : zs[i] = x := by rw [← zth_lt hc.1]; exact hc.2
    unfold place at *
    rw [List.countP_cons, this, e2]
    simp
  · rename_i hc
    have : place (zs.drop i) x = 0 := place_zero fun c hc' => by
      obtain ⟨k, hk, rfl⟩ := List.mem_iff_getElem.1 hc'
      rw [List.length_drop] at hk
      rw [List.getElem_drop, ← zth_lt (by omega)]
      rcases Nat.eq_zero_or_pos k with rfl | hk0
      · have h1 := h.hi i (Nat.le_refl _) (by omega)
        have h2 : ¬ zth zs i = x := fun e => hc ⟨by omega, e⟩
        rw [Nat.add_zero]; omega
      · have h1 := h.hi i (Nat.le_refl _) (by omega)
        have := hps i (i + k) (by omega) (by omega)
        omega
    omega
end Go.Rid
namespace Go.Proofs.YtfkclbhddiidbaaGreat
open Go.RowKit Go.Rid

def Found (zs : List Int) (z : Int) (w : World) (e : Ending) (w' : World) : Prop := ∃ i : Nat, Splits zs z i ∧ e = .returned (.tuple #[.int .i64 i, .bool (hit zs z i)]) ∧ Keeps Nil w w'
/-- zint.Cmp as a value. -/
def cmpV : Value := .func (.func 71) #[] #[]
set_option maxHeartbeats 1000000 in
theorem search_any {M : Nat → Prop} {g : Bool} {a a2 : Option Addr} {n c n2 c2 : Nat} {z : Int} {zs : List Int} {w : World} (h : ZAt Nil w g a2 n2 c2 z) (hs : ZInts M w a n c zs) (hfit : ∀ x ∈ zs, nlen x.natAbs * 4 + 4 ≤ 140737488355328) (hp : zs.Pairwise (· < ·)) (hn : n ≤ 4611686018427387903) :
    Calls Tryz.prog 77 #[.slice a n c, .agg #[.bool g, .slice a2 n2 c2], .func (.func 71) #[] #[]] w fun e w' => Found zs z w e w' := by
  have hk0 : Keeps Nil w (w.alloc (.cells #[.bool g, .slice a2 n2 c2] 38)) := (by repeat (first | exact Keeps.refl _ _ | refine Keeps.drew ?_ | refine Keeps.drewN ?_ _ | refine Keeps.alloc ?_ _))
  have r0 := RowIs.alloc (w := w) (E := 38) (xs := [.bool g, .slice a2 n2 c2])
  change RowIs (w.alloc (.cells #[.bool g, .slice a2 n2 c2] 38)) _ _ _ at r0
  have hlen := hs.len
  have ld := liveRules.2.2.1
  have HA := Lib.hid (h.keepNil hk0)
  have HS := Lib.hid (hs.keepNil hk0)
  have HP := Lib.hid (And.intro hp hfit)
  clear h hs hp hfit
  go_enter Tryz.func77, Tryz.ntmps77
  go_wp2_with fail
  generalize w.alloc (.cells #[.bool g, .slice a2 n2 c2] 38) = w0 at *
  obtain ⟨c0, c1, _, _⟩ := r0.two
  have b0 := r0.lt
  have HK := Lib.hid (And.intro hk0 r0)
  clear hk0 r0
  go_loopw [9, 10] (fun i j wr => ∃ k1 k2 : Nat, k1 ≤ k2 ∧ k2 ≤ n ∧ i = .int .i64 k1 ∧ j = .int .i64 k2 ∧ (∀ k, k < k1 → zth zs k < z) ∧ (∀ k, k2 ≤ k → k < n → z ≤ zth zs k) ∧ Keeps Nil w0 wr) (fun i j _ => (intOf j - intOf i).toNat)
  case atStart => exact ⟨0, n, Nat.zero_le _, Nat.le_refl _, rfl, rfl, fun k hk => by omega, fun k h1 h2 => by omega, Keeps.refl _ _⟩
  case round =>
    obtain ⟨k1, k2, h12, h2n, rfl, rfl, hlo, hhi, hkk⟩ := hrel
    have HR := Lib.hid (And.intro hlo hhi)
    have HKK := Lib.hid hkk
    have d0 := hkk.cellE b0 id c0
    have d1 := hkk.cellE b0 id c1
    have l0 := Live.of (Nat.lt_of_lt_of_le b0 hkk.size)
    clear hlo hhi
    by_cases hlt : k1 < k2
    · obtain ⟨m, hm⟩ : ∃ m : Nat, m = (k1 + k2) / 2 := ⟨_, rfl⟩
      have hm1 : k1 ≤ m := by omega
      have hm2 : m < k2 := by omega
      have hm3 : m < n := by omega
      have hm4 : (m : Int) < (n : Int) := by omega
      have hmI : ((k1 : Int) + (k2 : Int)) / 2 = (m : Int) := by omega
      have HMI := Lib.hid hmI
      clear hm hmI
      obtain ⟨b, off, g', a', n', c', hae, hb, _, e0, e1, hz⟩ := (HS.out.keepNil hkk).at (show m < n by omega)
      subst hae
      have lb := Live.of hb
      have HZ := Lib.hid (And.intro (hz.toNil.zat (HP.out.2 _ (by rw [zth_lt (by omega)]; exact List.getElem_mem _))) (HA.out.keepNil hkk))
      clear hkk hz
      go_wp2_with fail
      rw [HMI.out]
      go_region_held3 (fun w' => w'.cell? ⟨w.heap.size, 0, none⟩ = some (.bool g) ∧ w'.cell? ⟨w.heap.size, 1, none⟩ = some (.slice a2 n2 c2) ∧ w'.cell? ⟨b, off + m * 2, none⟩ = some (.bool g') ∧ w'.cell? ⟨b, off + m * 2 + 1, none⟩ = some (.slice a' n' c')) (go_keep) (first | (go_at_call 71; refine (zcmp_any (HZ.out.1.keepNil (by repeat (first | exact Keeps.refl _ _ | assumption | refine Keeps.drew ?_ | refine Keeps.drewN ?_ _ | refine Keeps.alloc ?_ _ | exact Keeps.of_nil (by assumption) | refine Keeps.trans ?_ (Keeps.of_nil (by assumption)) | refine Keeps.setCell ?_ (.inr (by first | exact Nat.le_refl _ | (dsimp only; omega))) _ | refine Keeps.setCell ?_ (.inl (by first | (unfold Old; dsimp only; omega) | (unfold Old; simp; omega) | (unfold Old; simp))) _))) (HZ.out.2.keepNil (by repeat (first | exact Keeps.refl _ _ | assumption | refine Keeps.drew ?_ | refine Keeps.drewN ?_ _ | refine Keeps.alloc ?_ _ | exact Keeps.of_nil (by assumption) | refine Keeps.trans ?_ (Keeps.of_nil (by assumption)) | refine Keeps.setCell ?_ (.inr (by first | exact Nat.le_refl _ | (dsimp only; omega))) _ | refine Keeps.setCell ?_ (.inl (by first | (unfold Old; dsimp only; omega) | (unfold Old; simp; omega) | (unfold Old; simp))) _)))).mono ?_; rintro e w1 ⟨rfl, hk1⟩; obtain ⟨rc1, rf1, ra1⟩ := hk1.live))
      have HK1 := Lib.hid (HKK.out.trans (show Keeps Nil wr w1 from (by repeat (first | exact Keeps.refl _ _ | assumption | refine Keeps.drew ?_ | refine Keeps.drewN ?_ _ | refine Keeps.alloc ?_ _ | exact Keeps.of_nil (by assumption) | refine Keeps.trans ?_ (Keeps.of_nil (by assumption)) | refine Keeps.setCell ?_ (.inr (by first | exact Nat.le_refl _ | (dsimp only; omega))) _ | refine Keeps.setCell ?_ (.inl (by first | (unfold Old; dsimp only; omega) | (unfold Old; simp; omega) | (unfold Old; simp))) _))))
      clear rc1 rf1 ra1 hk1
      rcases cmpZ_cases (zth zs m) z with ⟨e, hc⟩ | ⟨e, hc⟩ | ⟨e, hc⟩ <;> rw [e]
      · have HC := Lib.hid hc
        clear hc e
        go_wp2_with fail
        go_roundw
        case rel => exact ⟨m + 1, k2, by omega, h2n, by go_num, rfl, fun k hk => zth_below HP.out.1 (by have := HS.out.len; omega) (by omega) HC.out, HR.out.2, HK1.out⟩
        case measure => simp [intOf]; omega
      · have HC := Lib.hid (show z ≤ zth zs m by omega)
        clear hc e
        go_wp2_with fail
        go_roundw
        case rel => exact ⟨k1, m, hm1, by omega, rfl, rfl, HR.out.1, fun k h1 h2 => zth_above HP.out.1 h1 (by have := HS.out.len; omega) HC.out, HK1.out⟩
        case measure => simp [intOf]; omega
      · have HC := Lib.hid (show z ≤ zth zs m by omega)
        clear hc e
        go_wp2_with fail
        go_roundw
        case rel => exact ⟨k1, m, hm1, by omega, rfl, rfl, HR.out.1, fun k h1 h2 => zth_above HP.out.1 h1 (by have := HS.out.len; omega) HC.out, HK1.out⟩
        case measure => simp [intOf]; omega
    · obtain rfl : k1 = k2 := by omega
      have hsp : Splits zs z k1 := ⟨by omega, HR.out.1, fun k h1 h2 => HR.out.2 k h1 (by omega)⟩
      have HSP := Lib.hid hsp
      clear hsp
      by_cases hin : k1 < n
      · obtain ⟨b, off, g', a', n', c', hae, hb, _, e0, e1, hz⟩ := (HS.out.keepNil hkk).at hin
        subst hae
        have lb := Live.of hb
        have HZ := Lib.hid (And.intro (hz.toNil.zat (HP.out.2 _ (by rw [zth_lt (by omega)]; exact List.getElem_mem _))) (HA.out.keepNil hkk))
        clear hkk hz
        go_wp2_with fail
        go_region_held3 (fun w' => w'.cell? ⟨w.heap.size, 0, none⟩ = some (.bool g) ∧ w'.cell? ⟨w.heap.size, 1, none⟩ = some (.slice a2 n2 c2) ∧ w'.cell? ⟨b, off + k1 * 2, none⟩ = some (.bool g') ∧ w'.cell? ⟨b, off + k1 * 2 + 1, none⟩ = some (.slice a' n' c')) (go_keep) (first | (go_at_call 71; refine (zcmp_any (HZ.out.1.keepNil (by repeat (first | exact Keeps.refl _ _ | assumption | refine Keeps.drew ?_ | refine Keeps.drewN ?_ _ | refine Keeps.alloc ?_ _ | exact Keeps.of_nil (by assumption) | refine Keeps.trans ?_ (Keeps.of_nil (by assumption)) | refine Keeps.setCell ?_ (.inr (by first | exact Nat.le_refl _ | (dsimp only; omega))) _ | refine Keeps.setCell ?_ (.inl (by first | (unfold Old; dsimp only; omega) | (unfold Old; simp; omega) | (unfold Old; simp))) _))) (HZ.out.2.keepNil (by repeat (first | exact Keeps.refl _ _ | assumption | refine Keeps.drew ?_ | refine Keeps.drewN ?_ _ | refine Keeps.alloc ?_ _ | exact Keeps.of_nil (by assumption) | refine Keeps.trans ?_ (Keeps.of_nil (by assumption)) | refine Keeps.setCell ?_ (.inr (by first | exact Nat.le_refl _ | (dsimp only; omega))) _ | refine Keeps.setCell ?_ (.inl (by first | (unfold Old; dsimp only; omega) | (unfold Old; simp; omega) | (unfold Old; simp))) _)))).mono ?_; rintro e w1 ⟨rfl, hk1⟩; obtain ⟨rc1, rf1, ra1⟩ := hk1.live))
        have HK1 := Lib.hid (HKK.out.trans (show Keeps Nil wr w1 from (by repeat (first | exact Keeps.refl _ _ | assumption | refine Keeps.drew ?_ | refine Keeps.drewN ?_ _ | refine Keeps.alloc ?_ _ | exact Keeps.of_nil (by assumption) | refine Keeps.trans ?_ (Keeps.of_nil (by assumption)) | refine Keeps.setCell ?_ (.inr (by first | exact Nat.le_refl _ | (dsimp only; omega))) _ | refine Keeps.setCell ?_ (.inl (by first | (unfold Old; dsimp only; omega) | (unfold Old; simp; omega) | (unfold Old; simp))) _))))
        clear rc1 rf1 ra1 hk1
        go_wp2_with fail
        go_ret2
        refine ⟨k1, HSP.out, ?_, HK.out.1.trans HK1.out⟩
        rcases cmpZ_cases (zth zs k1) z with ⟨e, hc⟩ | ⟨e, hc⟩ | ⟨e, hc⟩ <;> rw [e]
        · rw [show hit zs z k1 = false from decide_eq_false (by omega)]; rfl
        · rw [show hit zs z k1 = true from decide_eq_true ⟨by omega, hc⟩]; rfl
        · rw [show hit zs z k1 = false from decide_eq_false (by omega)]; rfl
      · have hin' : decide (k1 < n) = false := decide_eq_false hin
        clear hkk
        go_wp2_with fail
        go_quiet (fail)
        go_wp2_with fail
        go_ret2
        exact ⟨k1, HSP.out, by rw [show hit zs z k1 = false from decide_eq_false (by omega)]; rfl, HK.out.1.trans (HKK.out.trans (by repeat (first | exact Keeps.refl _ _ | refine Keeps.drew ?_ | refine Keeps.drewN ?_ _ | refine Keeps.alloc ?_ _)))⟩
end Go.Proofs.YtfkclbhddiidbaaGreat
