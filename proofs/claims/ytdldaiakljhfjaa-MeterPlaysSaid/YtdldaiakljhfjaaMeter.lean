/- What the functions of package meter do, said of a meter in memory. Conditions: the meter is one that New made; lists' own reading. -/
import Derived.Test.YtdldaiakljhfjaaRows
import Derived.Test.YtdldaiakljhfjaaBase
import Derived.Test.YtdldaiakljhfjaaLimbs
import Derived.Test.YtdldaiakljhfjaaAtomic
import Derived.LoopN
import Derived.Deep.QuietTactic
import Derived.BigQuiet
import Derived.Deep.RegionHeld3
namespace Go.Proofs.Ytdldaiakljhfjaa
open Go.RowKit Go.Rid

/-- A meter in memory: its bounds, what was counted, what was crossed. -/
def MeterAt (w : World) (g : Nat) (nodes limbs spent over : Int) : Prop :=
  ∃ s, RowIs w g 60 [.int .i64 nodes, .int .i64 limbs, .pointer (some ⟨s, 0, none⟩)] ∧ RowIs w s 63 [.int .i64 spent, .int .i64 over] ∧ s ≠ g
theorem MeterAt.lt {w : World} {g : Nat} {n l s o : Int} (h : MeterAt w g n l s o) : g < w.heap.size := h.elim fun _ h => h.1.lt

theorem field_state0 (w : World) (a b : Value) : (Instr.field 63 (.agg #[a, b]) 0).run Try.prog w = .ok a w := by kernel_rfl
theorem field_state1 (w : World) (a b : Value) : (Instr.field 63 (.agg #[a, b]) 1).run Try.prog w = .ok b w := by kernel_rfl

set_option maxHeartbeats 400000 in
theorem crossed_any (s o e : Int) (w : World) :
    Calls Try.prog 25 #[.agg #[.int .i64 s, .int .i64 o], .int .i64 e] w fun r w' => r = .returned (.tuple #[.agg #[.int .i64 s, .int .i64 e], .int .i64 e]) ∧ (w.alloc (.cells #[.int .i64 s, .int .i64 e] 63)).alloc (.cells #[.int .i64 s, .int .i64 e] 63) = w' := by
  go_enter Try.func25, Try.ntmps25
  go_wp2
  refine bodyPost_ret (v := .tuple #[.agg #[.int .i64 s, .int .i64 e], .int .i64 e]) (by simp [results, Try.results25, go_sem]) rfl ⟨rfl, rfl⟩

set_option maxHeartbeats 400000 in
theorem load_any {g s : Nat} {a b x y : Value} {w : World} (h : RowIs w g 60 [a, b, .pointer (some ⟨s, 0, none⟩)]) (hs : RowIs w s 63 [x, y]) :
    Calls Try.prog 31 #[.pointer (some ⟨g, 2, none⟩)] w fun r w' => r = .returned (.pointer (some ⟨s, 0, none⟩)) ∧ w = w' := by
  have hl := run_loadPtr (a := ⟨g, 2, none⟩) (h.cell 2)
  have hf := run_state_from hs
  have hc := h.cell 2
  clear h hs
  go_enter Try.func31, Try.ntmps31
  go_wp2
  go_ret
  exact ⟨rfl, rfl⟩

set_option maxHeartbeats 400000 in
theorem at_any {g : Nat} {nodes limbs spent over : Int} {w : World} (h : MeterAt w g nodes limbs spent over) :
    Calls Try.prog 22 #[.pointer (some ⟨g, 0, none⟩)] w fun r w' => r = .returned (.agg #[.int .i64 spent, .int .i64 over]) ∧ Keeps Nil w w' := by
  obtain ⟨s, h1, h2, hne⟩ := h
  have hs := h2.lt
  have c0 := h2.cell 0
  have c1 := h2.cell 1
  simp at c0 c1
  have H1 := Lib.hid (h1.keep ((Keeps.refl Nil w).alloc (.cells #[.int .i64 0, .int .i64 0] 63)) id)
  have H2 := Lib.hid (h2.keep ((Keeps.refl Nil w).alloc (.cells #[.int .i64 0, .int .i64 0] 63)) id)
  clear h1 h2
  go_enter Try.func22, Try.ntmps22
  go_wp2_with (go_at_call 31; refine (load_any H1.out H2.out).mono ?_; rintro e w' ⟨rfl, rfl⟩)
  exact bodyPost_ret (v := .agg #[.int .i64 spent, .int .i64 over]) (by simp [results, Try.results22, go_sem]) rfl ⟨rfl, (Keeps.refl Nil w).alloc _⟩

set_option maxHeartbeats 400000 in
theorem spent_any {g : Nat} {nodes limbs spent over : Int} {w : World} (h : MeterAt w g nodes limbs spent over) :
    Calls Try.prog 9 #[.pointer (some ⟨g, 0, none⟩)] w fun r w' => r = .returned (.int .i64 spent) ∧ Keeps Nil w w' := by
  have H := Lib.hid h
  clear h
  have hf := field_state0
  go_enter Try.func9, Try.ntmps9
  go_wp2_with (go_at_call 22; refine (at_any H.out).mono ?_; rintro e w' ⟨rfl, hk⟩)
  go_ret
  exact ⟨rfl, hk⟩

set_option maxHeartbeats 400000 in
theorem over_any {g : Nat} {nodes limbs spent over : Int} {w : World} (h : MeterAt w g nodes limbs spent over) :
    Calls Try.prog 10 #[.pointer (some ⟨g, 0, none⟩)] w fun r w' => r = .returned (.int .i64 over) ∧ Keeps Nil w w' := by
  have H := Lib.hid h
  clear h
  have hf := field_state1
  go_enter Try.func10, Try.ntmps10
  go_wp2_with (go_at_call 22; refine (at_any H.out).mono ?_; rintro e w' ⟨rfl, hk⟩)
  go_ret
  exact ⟨rfl, hk⟩

/-- Package meter on a nil meter. -/
theorem at_nil (w : World) : Calls Try.prog 22 #[.pointer none] w fun r w' => r = .returned (.agg #[.int .i64 0, .int .i64 0]) ∧ Keeps Nil w w' := by
  go_enter Try.func22, Try.ntmps22
  go_wp2
  exact bodyPost_ret (v := .agg #[.int .i64 0, .int .i64 0]) (by simp [results, Try.results22, go_sem]) rfl ⟨rfl, (Keeps.refl Nil w).alloc _⟩
/-- (*atomic.Pointer[state]).Store. -/
theorem store_any {g s : Nat} {u v x y : Value} {w : World} {p : Option Addr} (h : RowIs w g 60 [u, v, .pointer p]) (hs : RowIs w s 63 [x, y]) :
    Calls Try.prog 21 #[.pointer (some ⟨g, 2, none⟩), .pointer (some ⟨s, 0, none⟩)] w fun r w' => r = .returned (.tuple #[]) ∧ w' = w.setCell ⟨g, 2, none⟩ (.pointer (some ⟨s, 0, none⟩)) := by
  have hl := fun q => run_storePtr (a := ⟨g, 2, none⟩) (q := q) (h.cell 2) (h.frozen 2)
  have hf := run_state_to (hs.cell 0)
  clear h hs
  go_enter Try.func21, Try.ntmps21
  go_wp2
  go_end0
  exact ⟨rfl, rfl⟩
theorem spent_nil (w : World) : Calls Try.prog 9 #[.pointer none] w fun r w' => r = .returned (.int .i64 0) ∧ Keeps Nil w w' := by
  have hf := field_state0
  go_enter Try.func9, Try.ntmps9
  go_wp2_with (go_at_call 22; refine (at_nil _).mono ?_; rintro e w' ⟨rfl, hk⟩)
  go_ret
  exact ⟨rfl, hk⟩
theorem over_nil (w : World) : Calls Try.prog 10 #[.pointer none] w fun r w' => r = .returned (.int .i64 1) ∧ Keeps Nil w w' := by
  have hf := field_state1
  go_enter Try.func10, Try.ntmps10
  go_wp2
  go_ret
  exact ⟨rfl, Keeps.refl Nil w⟩

/-- Which bounds may be. -/
def okBounds (nodes limbs : Int) : Bool := decide (1 ≤ nodes ∧ nodes ≤ 2000 ∧ 1 ≤ limbs ∧ limbs ≤ 8)
set_option maxHeartbeats 400000 in
theorem new_ok (nodes limbs : Int) (w : World) (h1 : 1 ≤ nodes) (h2 : nodes ≤ 2000) (h3 : 1 ≤ limbs) (h4 : limbs ≤ 8) :
    Calls Try.prog 7 #[.int .i64 nodes, .int .i64 limbs] w fun r w' => ∃ g, r = .returned (.tuple #[.pointer (some ⟨g, 0, none⟩), .int .i64 0]) ∧ MeterAt w' g nodes limbs 0 0 ∧ Keeps Nil w w' ∧ w.heap.size ≤ g := by
  have R1 := Lib.hid ((RowIs.alloc (w := w) (E := 60) (xs := [.int .i64 nodes, .int .i64 limbs, .pointer none])).keep ((Keeps.refl Nil _).alloc (.cells #[.int .i64 0, .int .i64 0] 63)) id)
  have R2 := Lib.hid (RowIs.alloc (w := w.alloc (.cells #[.int .i64 nodes, .int .i64 limbs, .pointer none] 60)) (E := 63) (xs := [.int .i64 0, .int .i64 0]))
  go_enter Try.func7, Try.ntmps7
  go_wp2_with (go_at_call 21; refine (store_any R1.out (s := w.heap.size + 1) (by simpa using R2.out)).mono ?_; rintro e w' ⟨rfl, rfl⟩)
  go_ret2
  refine ⟨_, rfl, ⟨w.heap.size + 1, ?_, ?_, by omega⟩, ((Keeps.refl Nil w).alloc _).alloc _, Nat.le_refl _⟩
  · exact RowIs.keep (RowIs.alloc (xs := [_, _, _])) ((Keeps.refl Nil _).alloc _) id
  · have h := RowIs.alloc (w := w.alloc (.cells #[.int .i64 nodes, .int .i64 limbs, .pointer (some ⟨w.heap.size + 1, 0, none⟩)] 60)) (E := 63) (xs := [.int .i64 0, .int .i64 0])
    simpa using h

set_option maxHeartbeats 400000 in
theorem new_bad (nodes limbs : Int) (w : World) (h : nodes < 1 ∨ 2000 < nodes ∨ limbs < 1 ∨ 8 < limbs) :
    Calls Try.prog 7 #[.int .i64 nodes, .int .i64 limbs] w fun r w' => r = .returned (.tuple #[.pointer none, .int .i64 1]) ∧ Keeps Nil w w' := by
  go_enter Try.func7, Try.ntmps7
  go_wp2
  all_goals
    go_ret2
    exact ⟨rfl, Keeps.refl Nil w⟩

/-- What a step of Spend answers: the next state, and the error. -/
def spendS (nodes n s : Int) : Int × Int × Int := if n < 0 then (s, 0, 1) else if nodes - s < n then (s, 70, 70) else (s + n, 0, 0)
/-- A step's answer as a value. -/
def stepV (x : Int × Int × Int) : Value := .tuple #[.agg #[.int .i64 x.1, .int .i64 x.2.1], .int .i64 x.2.2]
theorem stepV_def (a b c : Int) : stepV (a, b, c) = .tuple #[.agg #[.int .i64 a, .int .i64 b], .int .i64 c] := rfl

set_option maxHeartbeats 400000 in
theorem spend1_any {g pn pm : Nat} {nodes n s : Int} {w : World} (hpn : pn < w.heap.size) (hpm : pm < w.heap.size) (hg : g < w.heap.size) (cn : w.cell? ⟨pn, 0, none⟩ = some (.int .i64 n)) (cm : w.cell? ⟨pm, 0, none⟩ = some (.pointer (some ⟨g, 0, none⟩)))
    (cg : w.cell? ⟨g, 0, none⟩ = some (.int .i64 nodes)) (hs0 : 0 ≤ s) (hs : s ≤ nodes) (hn : nodes ≤ 2000) (hlo : n ≤ 9223372036854775807) :
    Calls Try.prog 24 #[.agg #[.int .i64 s, .int .i64 0], .pointer (some ⟨pn, 0, none⟩), .pointer (some ⟨pm, 0, none⟩)] w fun r w' => r = .returned (stepV (spendS nodes n s)) ∧ Keeps Nil w w' := by
  by_cases h1 : n < 0
  · have e : spendS nodes n s = (s, 0, 1) := by simp [spendS, h1]
    have E := Lib.hid e
    clear e
    go_enter Try.func24, Try.ntmps24
    go_wp2
    rw [E.out, stepV_def]
    exact bodyPost_ret (v := .tuple #[.agg #[.int .i64 s, .int .i64 0], .int .i64 1]) (by simp [results, Try.results24, go_sem]) rfl ⟨rfl, ((Keeps.refl Nil w).alloc _).alloc _⟩
  · by_cases h2 : nodes - s < n
    · have e : spendS nodes n s = (s, 70, 70) := by simp [spendS, h1, h2]
      have E := Lib.hid e
      clear e
      go_enter Try.func24, Try.ntmps24
      go_wp2_with fail
      go_quiet (fail)
      go_wp2_with (go_at_call 25; refine (crossed_any _ _ _ _).mono ?_; rintro e w' ⟨rfl, rfl⟩)
      rw [E.out, stepV_def]
      refine bodyPost_ret (v := .tuple #[.agg #[.int .i64 s, .int .i64 70], .int .i64 70]) (by simp [results, Try.results24, go_sem]) rfl ⟨rfl, ?_⟩
      repeat (first | exact Keeps.refl _ _ | refine Keeps.alloc ?_ _ | refine Keeps.drewN ?_ _ | refine Keeps.setCell ?_ (.inr (by simp)) _)
    · have e : spendS nodes n s = (s + n, 0, 0) := by simp [spendS, h1, h2]
      have E := Lib.hid e
      clear e
      go_enter Try.func24, Try.ntmps24
      go_wp2_with fail
      go_quiet (fail)
      go_wp2
      rw [E.out, stepV_def]
      refine bodyPost_ret (v := .tuple #[.agg #[.int .i64 (s + n), .int .i64 0], .int .i64 0]) (by simp [results, Try.results24, go_sem]) rfl ⟨rfl, ?_⟩
      repeat (first | exact Keeps.refl _ _ | refine Keeps.alloc ?_ _ | refine Keeps.drewN ?_ _ | refine Keeps.setCell ?_ (.inr (by simp)) _)

/-- Is one of the numbers too great? -/
def great (limbs : Int) (xs : List (Bool × List Nat)) : Bool := xs.any fun x => decide (limbs < (top x.2 : Int))
theorem great_true {limbs : Int} {xs : List (Bool × List Nat)} {i : Nat} (hi : i < xs.length) (h : limbs < (top (ith xs i).2 : Int)) : great limbs xs = true := by
  unfold great
  rw [List.any_eq_true]
  exact ⟨xs[i], List.getElem_mem hi, by simpa [ith, hi] using h⟩
theorem great_false {limbs : Int} {xs : List (Bool × List Nat)} (h : ∀ i, i < xs.length → ¬ limbs < (top (ith xs i).2 : Int)) : great limbs xs = false := by
  unfold great
  rw [List.any_eq_false]
  intro x hx
  obtain ⟨i, hi, rfl⟩ := List.getElem_of_mem hx
  have := h i hi
  simpa [ith, hi] using this
/-- What a step of Node answers. -/
def nodeS (nodes limbs s : Int) (xs : List (Bool × List Nat)) : Int × Int × Int := if great limbs xs then (s, 71, 71) else if s = nodes then (s, 70, 70) else (s + 1, 0, 0)

set_option maxHeartbeats 1000000 in
theorem node1_any {M : Nat → Prop} {g pl pm n c : Nat} {a : Option Addr} {xs : List (Bool × List Nat)} {nodes limbs s : Int} {w : World} (hM : MB M w) (hpl : pl < w.heap.size) (hpm : pm < w.heap.size) (hg : g < w.heap.size)
    (cl : w.cell? ⟨pl, 0, none⟩ = some (.slice a n c)) (cm : w.cell? ⟨pm, 0, none⟩ = some (.pointer (some ⟨g, 0, none⟩)))
    (cg : w.cell? ⟨g, 0, none⟩ = some (.int .i64 nodes)) (cg1 : w.cell? ⟨g, 1, none⟩ = some (.int .i64 limbs)) (hx : Ints M w a n c xs) (hs0 : 0 ≤ s) (hs : s ≤ nodes) (hn : nodes ≤ 2000) :
    Calls Try.prog 26 #[.agg #[.int .i64 s, .int .i64 0], .pointer (some ⟨pl, 0, none⟩), .pointer (some ⟨pm, 0, none⟩)] w fun r w' => r = .returned (stepV (nodeS nodes limbs s xs)) ∧ Keeps Nil w w' := by
  have K2 : Keeps Nil w ((w.alloc (.cells #[.int .i64 s, .int .i64 0] 63)).alloc (.cells #[.int .i64 0, .int .i64 0] 63)) := ((Keeps.refl Nil w).alloc _).alloc _
  have R1 := Lib.hid ((RowIs.alloc (w := w) (E := 63) (xs := [.int .i64 s, .int .i64 0])).keep ((Keeps.refl Nil _).alloc (.cells #[.int .i64 0, .int .i64 0] 63)) id)
  have R2 := Lib.hid (RowIs.alloc (w := w.alloc (.cells #[.int .i64 s, .int .i64 0] 63)) (E := 63) (xs := [.int .i64 0, .int .i64 0]))
  have HX := Lib.hid (hx.keepNil K2)
  have HM := Lib.hid (hM.keep K2)
  have HK := Lib.hid K2
  have hcap := hx.cap
  have hle := hx.le
  have HL := Lib.hid hx.len
  clear hM hx K2
  go_enter Try.func26, Try.ntmps26
  go_wp2
  go_loopw [10] (fun i wr => ∃ k : Nat, k ≤ n ∧ i = .int .i64 k ∧ (∀ j, j < k → ¬ limbs < (top (ith xs j).2 : Int)) ∧ Keeps Nil ((w.alloc (.cells #[.int .i64 s, .int .i64 0] 63)).alloc (.cells #[.int .i64 0, .int .i64 0] 63)) wr) (fun i _ => n - (intOf i).toNat)
  case atStart => exact ⟨0, Nat.zero_le _, rfl, fun j hj => by omega, Keeps.refl _ _⟩
  case round =>
    obtain ⟨k, hk, rfl, hj, hkk⟩ := hrel
    have r1 := R1.out.keep hkk id
    have r2 := R2.out.keep hkk id
    simp only [World.size_alloc] at r2
    obtain ⟨c10, c11, f10, f11⟩ := r1.two
    obtain ⟨c20, c21, f20, f21⟩ := r2.two
    have hz := r2.lt
    have HR := Lib.hid (And.intro r1 r2)
    have HJ := Lib.hid hj
    have cl' := hkk.cellE (by simp; omega) id (HK.out.cellE hpl id cl)
    have cm' := hkk.cellE (by simp; omega) id (HK.out.cellE hpm id cm)
    have cg' := hkk.cellE (by simp; omega) id (HK.out.cellE hg id cg)
    have cg1' := hkk.cellE (by simp; omega) id (HK.out.cellE hg id cg1)
    have HX' := Lib.hid (HX.out.keepNil hkk)
    have HM' := Lib.hid (HM.out.keep hkk)
    have HKK := Lib.hid hkk
    have hsz := hkk.size
    simp at hsz
    have hpl' : pl < wr.heap.size := by omega
    have hpm' : pm < wr.heap.size := by omega
    have hg' : g < wr.heap.size := by omega
    clear r1 r2 hj cl cm cg cg1 hkk
    by_cases hlt : k < n
    · obtain ⟨b, off, a', n', c', rfl, hb, hnM, d0, d1, hL, hr⟩ := HX'.out.at hlt
      have HL' := Lib.hid hL
      have hpm'' : pm < wr.heap.size + 1 := by omega
      have hg'' : g < wr.heap.size + 1 := by omega
      clear hL
      go_wp2_with fail
      go_region_held3 (fun w' => w'.cell? ⟨wr.heap.size, 0, none⟩ = some (.bool (ith xs k).1) ∧ w'.cell? ⟨wr.heap.size, 1, none⟩ = some (.slice a' n' c') ∧ w'.cell? ⟨pm, 0, none⟩ = some (.pointer (some ⟨g, 0, none⟩)) ∧ w'.cell? ⟨g, 1, none⟩ = some (.int .i64 limbs)) (go_keep) ((go_at_call 27; refine (limbs_any (M := M) (l := (ith xs k).2) (HM'.out.keep (M' := Nil) (by repeat (first | exact Keeps.refl _ _ | refine Keeps.drew ?_ | refine Keeps.drewN ?_ _ | refine Keeps.alloc ?_ _))) (HL'.out.keep (M' := Nil) (by repeat (first | exact Keeps.refl _ _ | refine Keeps.drew ?_ | refine Keeps.drewN ?_ _ | refine Keeps.alloc ?_ _)) (fun _ _ h => h.elim)) hr).mono ?_; rintro e w2 ⟨rfl, hk2⟩; obtain ⟨rc, rf⟩ := hk2.rules))
      have hb2 : Keeps Nil w w2 := ((HK.out.trans HKK.out).trans (by repeat (first | exact Keeps.refl _ _ | refine Keeps.drew ?_ | refine Keeps.drewN ?_ _ | refine Keeps.alloc ?_ _))).trans hk2
      have hz2 := hk2.size
      simp at hz2
      have r1 := (HR.out.1.keep (M := Nil) (by repeat (first | exact Keeps.refl _ _ | refine Keeps.drew ?_ | refine Keeps.drewN ?_ _ | refine Keeps.alloc ?_ _)) id).keep hk2 id
      have r2 := (HR.out.2.keep (M := Nil) (by repeat (first | exact Keeps.refl _ _ | refine Keeps.drew ?_ | refine Keeps.drewN ?_ _ | refine Keeps.alloc ?_ _)) id).keep hk2 id
      obtain ⟨e10, e11, g10, g11⟩ := r1.two
      obtain ⟨e20, e21, g20, g21⟩ := r2.two
      have z1 := r1.lt
      have z2 := r2.lt
      have HB := Lib.hid hb2
      have HK2 := Lib.hid hk2
      clear hb2 hk2 c10 c11 f10 f11 c20 c21 f20 f21 r1 r2
      by_cases hgr : limbs < (top (ith xs k).2 : Int)
      · have e : nodeS nodes limbs s xs = (s, 71, 71) := by simp [nodeS, great_true (by have := HL.out; omega) hgr]
        have E := Lib.hid e
        clear e
        go_wp2_with (go_at_call 25; refine (crossed_any _ _ _ _).mono ?_; rintro e w' ⟨rfl, rfl⟩)
        rw [E.out, stepV_def]
        refine bodyPost_ret (v := .tuple #[.agg #[.int .i64 s, .int .i64 71], .int .i64 71]) (by simp [results, Try.results26, go_sem, e20, e21, z1, z2]) rfl ⟨rfl, ?_⟩
        repeat (first | exact HB.out | refine Keeps.alloc ?_ _ | refine Keeps.drewN ?_ _ | refine Keeps.setCell ?_ (.inr (by simp)) _)
      · go_wp2
        go_roundw
        case rel => exact ⟨k + 1, by omega, by go_num, fun j hj => by rcases Nat.lt_succ_iff_lt_or_eq.1 hj with h | rfl; exact Int.not_lt.2 (HJ.out j h); exact hgr, (HKK.out.trans (by repeat (first | exact Keeps.refl _ _ | refine Keeps.drew ?_ | refine Keeps.drewN ?_ _ | refine Keeps.alloc ?_ _))).trans HK2.out⟩
        case measure => simp [intOf]; omega
    · obtain rfl : k = n := by omega
      have hgf : great limbs xs = false := great_false (fun i hi => HJ.out i (by have := HL.out; omega))
      by_cases hsn : s = nodes
      · subst hsn
        have e : nodeS s limbs s xs = (s, 70, 70) := by simp [nodeS, hgf]
        have E := Lib.hid e
        clear e hgf
        go_wp2_with fail
        go_quiet (fail)
        have q1 : RowIs (wr.drewN nq) w.heap.size _ _ := HR.out.1
        have q2 : RowIs (wr.drewN nq) (w.heap.size + 1) _ _ := HR.out.2
        have kq : Keeps Nil w (wr.drewN nq) := (HK.out.trans HKK.out).drewN nq
        have hzq : w.heap.size + 1 < (wr.drewN nq).heap.size := hz
        have hzq0 : w.heap.size < (wr.drewN nq).heap.size := Nat.lt_of_succ_lt hz
        generalize wr.drewN nq = wq at *
        obtain ⟨e10, e11, g10, g11⟩ := q1.two
        obtain ⟨e20, e21, g20, g21⟩ := q2.two
        have KQ := Lib.hid kq
        clear c10 c11 f10 f11 c20 c21 f20 f21 q1 q2 kq cl' cm' cg' cg1'
        go_wp2_with (go_at_call 25; refine (crossed_any _ _ _ _).mono ?_; rintro e w' ⟨rfl, rfl⟩)
        rw [E.out, stepV_def]
        refine bodyPost_ret (v := .tuple #[.agg #[.int .i64 s, .int .i64 70], .int .i64 70]) (by simp [results, Try.results26, go_sem, e20, e21, hzq, hzq0]) rfl ⟨rfl, ?_⟩
        repeat (first | exact KQ.out | refine Keeps.alloc ?_ _ | refine Keeps.drewN ?_ _ | refine Keeps.setCell ?_ (.inr (by simp)) _)
      · have e : nodeS nodes limbs s xs = (s + 1, 0, 0) := by simp [nodeS, hgf, hsn]
        have E := Lib.hid e
        have hsb : (s == nodes) = false := by simpa using hsn
        clear e hgf hsn
        go_wp2_with fail
        go_quiet (fail)
        have q1 : RowIs (wr.drewN nq) w.heap.size _ _ := HR.out.1
        have q2 : RowIs (wr.drewN nq) (w.heap.size + 1) _ _ := HR.out.2
        have kq : Keeps Nil w (wr.drewN nq) := (HK.out.trans HKK.out).drewN nq
        have hzq : w.heap.size + 1 < (wr.drewN nq).heap.size := hz
        have hzq0 : w.heap.size < (wr.drewN nq).heap.size := Nat.lt_of_succ_lt hz
        generalize wr.drewN nq = wq at *
        obtain ⟨e10, e11, g10, g11⟩ := q1.two
        obtain ⟨e20, e21, g20, g21⟩ := q2.two
        have KQ := Lib.hid kq
        clear c10 c11 f10 f11 c20 c21 f20 f21 q1 q2 kq cl' cm' cg' cg1'
        go_wp2
        rw [E.out, stepV_def]
        refine bodyPost_ret (v := .tuple #[.agg #[.int .i64 (s + 1), .int .i64 0], .int .i64 0]) (by simp [results, Try.results26, go_sem, e20, e21]) rfl ⟨rfl, ?_⟩
        repeat (first | exact KQ.out | refine Keeps.alloc ?_ _ | refine Keeps.drewN ?_ _ | refine Keeps.setCell ?_ (.inr (by simp)) _)
end Go.Proofs.Ytdldaiakljhfjaa
