/- What riddleref18's Class does: a set by value. Conditions: the numbers' own reading; room. -/
import Derived.Test.YtfkclbhddiidbaaGreatKRSet5
import Derived.Test.YtfkclbhddiidbaaGreatKPClass
import Derived.Test.YtfkclbhddiidbaaGreatKRefs
namespace Go.Proofs.YtfkclbhddiidbaaGreat
open Go.RowKit Go.Rid
/-- No set, an error. -/
def RSetNo (w : World) (k : Int) (e : Ending) (w' : World) : Prop := e = .returned (.tuple #[.agg #[.int .i64 0, .slice none 0 0, .slice none 0 0], .int .i64 k]) ∧ Keeps Nil w w'
def RSetYes (M : Nat → Prop) (w : World) (S : PSet) (e : Ending) (w' : World) : Prop := ∃ ac nc cc ar nr cr, e = .returned (.tuple #[.agg #[.int .i64 (S.P : Int), .slice ac nc cc, .slice ar nr cr], .int .i64 0]) ∧ SV M w' ac nc cc ar nr cr S ∧ Keeps Nil w w'
def RClassRet (M : Nat → Prop) (w : World) (d r : Int) (e : Ending) (w' : World) : Prop := (d = 0 ∧ RSetNo w 11 e w') ∨ (d ≠ 0 ∧ ¬ d.natAbs ≤ 4096 ∧ RSetNo w 180 e w') ∨ (d ≠ 0 ∧ d.natAbs ≤ 4096 ∧ RSetYes M w (classSet d r) e w')
theorem refwhole_as {M : Nat → Prop} {a : Option Addr} {n c : Nat} {l : List Bool} {S : PSet} {w : World} (hM : MB M w) (h : Bools M w a n c l) (hS : (⟨l.length, [], [l]⟩ : PSet) = S) :
    Calls Tryz.prog 24 #[.slice a n c] w fun e w' => RSetRet M w S e w' := by
  subst hS
  exact refwhole_any hM h
set_option maxHeartbeats 2000000 in
theorem refclass_any {M : Nat → Prop} {g g2 : Bool} {a a2 : Option Addr} {n c n2 c2 : Nat} {z z2 : Int} {w : World} (hM : MB M w) (h : ZAt Nil w g a n c z) (h2 : ZAt Nil w g2 a2 n2 c2 z2) (hn : n * 4 + 128 ≤ 140737488355328) (hn2 : n2 * 4 + 128 ≤ 140737488355328) :
    Calls Tryz.prog 28 #[.agg #[.bool g, .slice a n c], .agg #[.bool g2, .slice a2 n2 c2]] w fun e w' => RClassRet M w z z2 e w' := by
  obtain ⟨i0, hi, hz0, hz1, hz2⟩ := info_parts info_bool
  obtain ⟨r0, r1, hk0⟩ := rows2 w 38 (.bool g) (.slice a n c) (.bool g2) (.slice a2 n2 c2)
  have hs0 : ((w.alloc (.cells #[.bool g, .slice a n c] 38)).alloc (.cells #[.bool g2, .slice a2 n2 c2] 38)).heap.size = w.heap.size + 1 + 1 := by simp
  generalize hWA : (w.alloc (.cells #[.bool g, .slice a n c] 38)).alloc (.cells #[.bool g2, .slice a2 n2 c2] 38) = wA at *
  have k1 : Keeps Nil wA (wA.alloc (.cells #[.int .i64 0, .slice none 0 0, .slice none 0 0] 30)) := (by repeat (first | exact Keeps.refl _ _ | refine Keeps.drew ?_ | refine Keeps.drewN ?_ _ | refine Keeps.alloc ?_ _))
  have r2 := RowIs.alloc (w := wA) (E := 30) (xs := [.int .i64 0, .slice none 0 0, .slice none 0 0])
  rw [hs0] at r2
  have HM := Lib.hid hM
  have hkA := hk0.trans k1
  have HA := Lib.hid (And.intro (h.keepNil hkA) hn)
  have HB := Lib.hid (And.intro (h2.keepNil hkA) hn2)
  have rA := r0.keep k1 id
  have rB := r1.keep k1 id
  clear h h2 hM hn hn2 r0 r1 k1 hk0 hs0
  subst hWA
  change RowIs (((w.alloc (.cells #[.bool g, .slice a n c] 38)).alloc (.cells #[.bool g2, .slice a2 n2 c2] 38)).alloc (.cells #[.int .i64 0, .slice none 0 0, .slice none 0 0] 30)) _ _ _ at r2
  go_enter Tryz.func28, Tryz.ntmps28
  go_upto_region 1 with (fail)
  generalize ((w.alloc (.cells #[.bool g, .slice a n c] 38)).alloc (.cells #[.bool g2, .slice a2 n2 c2] 38)).alloc (.cells #[.int .i64 0, .slice none 0 0, .slice none 0 0] 30) = w0 at *
  obtain ⟨c00, c01, _, _⟩ := rA.two
  obtain ⟨c10, c11, _, _⟩ := rB.two
  have HR := Lib.hid (And.intro rA (And.intro rB (And.intro r2 hkA)))
  clear rA rB r2 hkA
  by_cases hz : z = 0
  · have hs : z.sign = 0 := by rw [hz]; rfl
    have HS := Lib.hid hs
    have HZ := Lib.hid hz
    clear hz hs
    go_wp2_with (go_at_call 63; refine (refsign_any HA.out.1).mono ?_; rintro e w1 ⟨rfl, hk1⟩; rw [HS.out]; obtain ⟨d0, d1, d2⟩ := (HR.out.2.2.1.keep hk1 id).three; have f0 := (HR.out.2.2.1.keep hk1 id).frozen 0; have f1 := (HR.out.2.2.1.keep hk1 id).frozen 1; have f2 := (HR.out.2.2.1.keep hk1 id).frozen 2; have H1 := Lib.hid (And.intro (HR.out.2.2.1.keep hk1 id) (HR.out.2.2.2.trans hk1)); clear hk1)
    obtain ⟨k0, k1, k2⟩ := (H1.out.1.triple (u' := .int .i64 0) (v' := .slice none 0 0) (x' := .slice none 0 0)).three
    exact bodyPost_ret (v := .tuple #[.agg #[.int .i64 0, .slice none 0 0, .slice none 0 0], .int .i64 11]) (by simp [results, Tryz.results28, go_sem, k0, k1, k2]) rfl (.inl ⟨HZ.out, rfl, H1.out.2.own (by omega) (Keeps.triple _ _ _)⟩)
  · have hs : ¬ z.sign = 0 := by rw [Int.sign_eq_zero_iff_zero]; exact hz
    have hs' : (z.sign == 0) = false := by simpa using hz
    have HZ := Lib.hid hz
    clear hz
    by_cases hp : z.natAbs ≤ 4096
    · have HD := Lib.hid (decide_eq_true hp)
      have HI := Lib.hid (int64_eq (fits_small (z := (z.natAbs : Int)) (by omega) (by omega)))
      obtain ⟨p, hpe⟩ : ∃ p, p = z.natAbs := ⟨_, rfl⟩
      rw [← hpe] at HD HI hp
      have hp0 : 1 ≤ p := by have := HZ.out; omega
      have HP := Lib.hid hpe
      obtain ⟨r, hr⟩ : ∃ r : Nat, r = (z2 % (p : Int)).toNat := ⟨_, rfl⟩
      have hrz : z2 % (p : Int) = (r : Int) := by
        have := Int.emod_nonneg z2 (show (p : Int) ≠ 0 by omega); omega
      have hrp : r < p := by
        have := Int.emod_lt_of_pos z2 (show (0 : Int) < (p : Int) by omega); omega
      have HRZ := Lib.hid (And.intro hrz hr)
      have hrI : (r : Int) < (p : Int) := by omega
      have hrI0 : (0 : Int) ≤ (r : Int) := by omega
      clear hr hrz hpe
      go_upto_region 7 with (first | (go_at_call 63; refine (refsign_any HA.out.1).mono ?_; rintro e w1 ⟨rfl, hk1⟩; obtain ⟨c00, c01, _, _⟩ := (HR.out.1.keep hk1 id).two; have H1 := Lib.hid hk1; clear hk1) | (go_at_call 64; refine (refperiod_any (HA.out.1.keepNil H1.out) HA.out.2).mono ?_; rintro e w2 ⟨rfl, hk2⟩; rw [← HP.out, HD.out, HI.out]; have H2 := Lib.hid (H1.out.trans hk2); clear hk2) | (at_make; refine wpList_make_row _ rfl _ _ 58 rfl 4 i0 (.bool false) Tryz.underlying58 hi hz0 hz1 rfl .i64 .i64 _ _ p rfl rfl rfl rfl (by rw [hz2]; omega) (by omega) ?_; intro w3 hrow hk3 hsz3; have H3 := Lib.hid (And.intro hrow (H2.out.trans hk3)); have zs3 := hk3.size; clear hrow hk3))
      obtain ⟨c10, c11, _, _⟩ := (HR.out.2.1.keep H3.out.2 id).two
      have hb3 : w2.heap.size < w3.heap.size := by omega
      have h02 := H2.out.size
      go_upto_region 8 with (go_at_call 47; refine (refrest_any (HB.out.1.keepNil H3.out.2) (by have := HB.out.2; omega) hp0 hp).mono ?_; rintro e w4 ⟨rfl, hk4⟩; rw [HRZ.out.1]; have rc := (H3.out.1.keep hk4 id).cell r; rw [show (zeros p (Value.bool false))[r]? = some (.bool false) by simp [zeros, hrp]] at rc; have rf := (H3.out.1.keep hk4 id).frozen r; have H4 := Lib.hid (And.intro (H3.out.1.keep hk4 id) (H3.out.2.trans hk4)); clear hk4)
      have hset := H4.out.1.set r (.bool true)
      rw [bools_set] at hset
      have k4 : Keeps Nil w0 (w4.setCell ⟨w2.heap.size, r, none⟩ (.bool true)) := H4.out.2.setCell (.inr h02) _
      have r2 := HR.out.2.2.1.keep k4 id
      have nmr : ¬ With M (w.heap.size + 1 + 1) w2.heap.size := fun hm => by
        rcases hm with hm | hm
        · have := HM.out _ hm; have := HR.out.2.2.2.size; omega
        · have : w2.heap.size = w.heap.size + 1 + 1 := hm; have := HR.out.2.2.1.lt; omega
      have hbs := Bools.ofRow hset nmr (by simp [classRow]; omega)
      rw [show (classRow p r).length = p by simp [classRow]] at hbs
      clear rc rf c10 c11 hset
      generalize w4.setCell ⟨w2.heap.size, r, none⟩ (.bool true) = w5 at *
      have H5 := Lib.hid (And.intro hbs (And.intro r2 (HR.out.2.2.2.trans k4)))
      clear hbs r2 k4 nmr
      have HCS := Lib.hid (show (⟨(classRow p r).length, [], [classRow p r]⟩ : PSet) = classSet z z2 by unfold classSet; rw [← HP.out, ← HRZ.out.2]; simp [classRow])
      go_wp2_with (go_at_call 24; refine (refwhole_as (M := With M (w.heap.size + 1 + 1)) ((HM.out.keep H5.out.2.2).with H5.out.2.1.lt) H5.out.1 HCS.out).mono ?_; rintro e w6 ⟨ac, nc, cc, ar, nr, cr, rfl, hs6, hk6⟩; obtain ⟨d0, d1, d2⟩ := (H5.out.2.1.keep hk6 id).three; have f0 := (H5.out.2.1.keep hk6 id).frozen 0; have f1 := (H5.out.2.1.keep hk6 id).frozen 1; have f2 := (H5.out.2.1.keep hk6 id).frozen 2; have H6 := Lib.hid (And.intro hs6 hk6); clear hs6 hk6)
      obtain ⟨k0, k1, k2⟩ := ((H5.out.2.1.keep H6.out.2 id).triple (u' := .int .i64 ((classSet z z2).P : Int)) (v' := .slice ac nc cc) (x' := .slice ar nr cr)).three
      exact bodyPost_ret (v := .tuple #[.agg #[.int .i64 ((classSet z z2).P : Int), .slice ac nc cc, .slice ar nr cr], .int .i64 0]) (by simp [results, Tryz.results28, go_sem, k0, k1, k2]) rfl (.inr (.inr ⟨HZ.out, by rw [← HP.out]; exact hp, _, _, _, _, _, _, rfl, H6.out.1.move (M2 := M) (M' := One (w.heap.size + 1 + 1)) (Keeps.triple _ _ _) (fun _ _ h => .inr h) (fun _ _ h => .inl h), (H5.out.2.2.trans H6.out.2).own (by omega) (Keeps.triple _ _ _)⟩))
    · have HD := Lib.hid (decide_eq_false hp)
      clear hp
      go_wp2_with (first | (go_at_call 63; refine (refsign_any HA.out.1).mono ?_; rintro e w1 ⟨rfl, hk1⟩; obtain ⟨c00, c01, _, _⟩ := (HR.out.1.keep hk1 id).two; have H1 := Lib.hid hk1; clear hk1) | (go_at_call 64; refine (refperiod_any (HA.out.1.keepNil H1.out) HA.out.2).mono ?_; rintro e w2 ⟨rfl, hk2⟩; rw [HD.out]; obtain ⟨d0, d1, d2⟩ := ((HR.out.2.2.1.keep H1.out id).keep hk2 id).three; have f0 := ((HR.out.2.2.1.keep H1.out id).keep hk2 id).frozen 0; have f1 := ((HR.out.2.2.1.keep H1.out id).keep hk2 id).frozen 1; have f2 := ((HR.out.2.2.1.keep H1.out id).keep hk2 id).frozen 2; have H2 := Lib.hid (And.intro ((HR.out.2.2.1.keep H1.out id).keep hk2 id) ((HR.out.2.2.2.trans H1.out).trans hk2)); clear hk2))
      obtain ⟨k0, k1, k2⟩ := (H2.out.1.triple (u' := .int .i64 0) (v' := .slice none 0 0) (x' := .slice none 0 0)).three
      exact bodyPost_ret (v := .tuple #[.agg #[.int .i64 0, .slice none 0 0, .slice none 0 0], .int .i64 180]) (by simp [results, Tryz.results28, go_sem, k0, k1, k2]) rfl (.inr (.inl ⟨HZ.out, of_decide_eq_false HD.out, rfl, H2.out.2.own (by omega) (Keeps.triple _ _ _)⟩))
end Go.Proofs.YtfkclbhddiidbaaGreat
