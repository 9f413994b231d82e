/- What Node and Spend do to a meter, and what they answer. Conditions: the meter is one that New made; lists' own reading. -/
import Derived.Test.YtdldaiakljhfjaaRows
import Derived.Test.YtdldaiakljhfjaaBase
import Derived.Test.YtdldaiakljhfjaaLimbs
import Derived.Test.YtdldaiakljhfjaaAtomic
import Derived.Test.YtdldaiakljhfjaaMeter
namespace Go.Proofs.Ytdldaiakljhfjaa
open Go.RowKit Go.Rid

set_option maxHeartbeats 400000 in
/-- (*atomic.Pointer[state]).CompareAndSwap, where the old state is there. -/
theorem cas_any {g s q : Nat} {u v x y a b : Value} {w : World} (h : RowIs w g 60 [u, v, .pointer (some ⟨s, 0, none⟩)]) (hs : RowIs w s 63 [x, y]) (hq : RowIs w q 63 [a, b]) :
    Calls Try.prog 32 #[.pointer (some ⟨g, 2, none⟩), .pointer (some ⟨s, 0, none⟩), .pointer (some ⟨q, 0, none⟩)] w fun r w' => r = .returned (.bool true) ∧ RowIs w' g 60 [u, v, .pointer (some ⟨q, 0, none⟩)] ∧ Keeps (Rid.One g) w w' := by
  have hl := fun q => run_casPtr (a := ⟨g, 2, none⟩) (q := q) (h.cell 2) (h.frozen 2)
  have hf := run_state_to (hs.cell 0)
  have hf2 := run_state_to (hq.cell 0)
  have HR := Lib.hid (h.set 2 (.pointer (some ⟨q, 0, none⟩)))
  clear h hs hq
  go_enter Try.func32, Try.ntmps32
  go_wp2
  go_ret
  exact ⟨rfl, HR.out, (Keeps.refl (Rid.One g) w).setCell (p := ⟨g, 2, none⟩) (.inl rfl) _⟩

set_option maxHeartbeats 1000000 in
theorem turn_over {g : Nat} {nodes limbs spent over : Int} {f : Value} {w : World} (h : MeterAt w g nodes limbs spent over) (ho : over ≠ 0) :
    Calls Try.prog 23 #[.pointer (some ⟨g, 0, none⟩), f] w fun r w' => r = .returned (.int .i64 over) ∧ w = w' := by
  obtain ⟨s, h1, h2, hne⟩ := h
  obtain ⟨c0, c1, _, _⟩ := h2.two
  have H1 := Lib.hid h1
  have H2 := Lib.hid h2
  have hob : (over != 0) = true := by simpa using ho
  clear h1 h2 ho
  go_enter Try.func23, Try.ntmps23
  go_wp2_with fail
  refine wp_loop_rounds 1 ?_
  rw [rounds_succ]
  go_wp2_with (go_at_call 31; refine (load_any H1.out H2.out).mono ?_; rintro e w' ⟨rfl, rfl⟩)
  go_ret
  exact ⟨rfl, rfl⟩

set_option maxHeartbeats 1000000 in
theorem turn_go {g : Nat} {nodes limbs spent x1 x2 x3 : Int} {gf : FuncId} (hgf : gf = 24 ∨ gf = 26) {p1 p2 : Option Addr} {w : World} (h : MeterAt w g nodes limbs spent 0)
    (hstep : Calls Try.prog gf #[.agg #[.int .i64 spent, .int .i64 0], .pointer p1, .pointer p2] w fun r w' => r = .returned (stepV (x1, x2, x3)) ∧ Keeps Nil w w') :
    Calls Try.prog 23 #[.pointer (some ⟨g, 0, none⟩), .func (.func gf) #[] #[.pointer p1, .pointer p2]] w fun r w' => r = .returned (.int .i64 x3) ∧ MeterAt w' g nodes limbs x1 x2 ∧ Keeps (Rid.One g) w w' := by
  obtain ⟨s, h1, h2, hne⟩ := h
  have hq := fun w a b c d => run_eql_state w a b c d
  obtain ⟨c0, c1, _, _⟩ := h2.two
  have H1 := Lib.hid h1
  have H2 := Lib.hid h2
  have HS := Lib.hid hstep
  have hs := h2.lt
  have hg := h1.lt
  clear h1 h2 hstep
  rcases hgf with rfl | rfl
  all_goals
    go_enter Try.func23, Try.ntmps23
    go_wp2_with fail
    refine wp_loop_rounds 1 ?_
    rw [rounds_succ]
    go_wp2_with (first | (go_at_call 31; refine (load_any H1.out H2.out).mono ?_; rintro e w' ⟨rfl, rfl⟩) | (go_at_call 24; refine HS.out.mono ?_; rintro e w1 ⟨rfl, hk1⟩; rw [stepV_def]) | (go_at_call 26; refine HS.out.mono ?_; rintro e w1 ⟨rfl, hk1⟩; rw [stepV_def]))
    have r1 := H1.out.keep hk1 id
    have r2 := H2.out.keep hk1 id
    have hs1 : s < w1.heap.size := r2.lt
    have hg1 : g < w1.heap.size := r1.lt
    obtain ⟨d0, d1, _, _⟩ := r2.two
    have K1 := Lib.hid hk1
    have r3 := RowIs.alloc (w := w1) (E := 63) (xs := [.int .i64 x1, .int .i64 x2])
    have HR := Lib.hid (And.intro r1 (And.intro r2 r3))
    clear hk1 r1 r2 r3
    by_cases he : (x1 == spent && x2 == 0) = true
    · go_quiet (fail)
      go_wp2
      go_ret
      simp only [Bool.and_eq_true, beq_iff_eq] at he
      obtain ⟨rfl, rfl⟩ := he
      exact ⟨rfl, ⟨s, HR.out.1.keep (M := Nil) (by repeat (first | exact Keeps.refl _ _ | refine Keeps.drew ?_ | refine Keeps.drewN ?_ _ | refine Keeps.alloc ?_ _)) id, HR.out.2.1.keep (M := Nil) (by repeat (first | exact Keeps.refl _ _ | refine Keeps.drew ?_ | refine Keeps.drewN ?_ _ | refine Keeps.alloc ?_ _)) id, hne⟩, (K1.out.trans (by repeat (first | exact Keeps.refl _ _ | refine Keeps.drew ?_ | refine Keeps.drewN ?_ _ | refine Keeps.alloc ?_ _))).of_nil⟩
    · have he' : (x1 == spent && x2 == 0) = false := by simpa using he
      clear he
      go_region_held3 (fun w' => w'.cell? ⟨w1.heap.size, 0, none⟩ = some (.int .i64 x1) ∧ w'.cell? ⟨w1.heap.size, 1, none⟩ = some (.int .i64 x2) ∧ w'.cell? ⟨s, 0, none⟩ = some (.int .i64 spent) ∧ w'.cell? ⟨s, 1, none⟩ = some (.int .i64 0)) (go_keep) ((go_at_call 32; refine (cas_any (HR.out.1.keep (M := Nil) (by repeat (first | exact Keeps.refl _ _ | refine Keeps.drew ?_ | refine Keeps.drewN ?_ _ | refine Keeps.alloc ?_ _)) id) (HR.out.2.1.keep (M := Nil) (by repeat (first | exact Keeps.refl _ _ | refine Keeps.drew ?_ | refine Keeps.drewN ?_ _ | refine Keeps.alloc ?_ _)) id) (HR.out.2.2.keep (M := Nil) (by repeat (first | exact Keeps.refl _ _ | refine Keeps.drew ?_ | refine Keeps.drewN ?_ _ | refine Keeps.alloc ?_ _)) id)).mono ?_; rintro e w2 ⟨rfl, hr2, hk2⟩; have b2 := (HR.out.2.1.keep (M := Nil) (by repeat (first | exact Keeps.refl _ _ | refine Keeps.drew ?_ | refine Keeps.drewN ?_ _ | refine Keeps.alloc ?_ _)) id).keep hk2 hne; have b3 := (HR.out.2.2.keep (M := Nil) (by repeat (first | exact Keeps.refl _ _ | refine Keeps.drew ?_ | refine Keeps.drewN ?_ _ | refine Keeps.alloc ?_ _)) id).keep hk2 (show ¬ w1.heap.size = g by omega); obtain ⟨e20, e21, _, _⟩ := b2.two; obtain ⟨e30, e31, _, _⟩ := b3.two))
      go_wp2
      go_ret
      exact ⟨rfl, ⟨_, hr2, b3, (show ¬ w1.heap.size = g by omega)⟩, ((K1.out.trans (by repeat (first | exact Keeps.refl _ _ | refine Keeps.drew ?_ | refine Keeps.drewN ?_ _ | refine Keeps.alloc ?_ _))).of_nil.trans hk2)⟩

theorem MeterAt.keep {M : Nat → Prop} {w w' : World} {g : Nat} {n l s o : Int} (h : MeterAt w g n l s o) (k : Keeps M w w') (hg : ¬ M g) (hM : ∀ b, b ≠ g → b < w.heap.size → ¬ M b) : MeterAt w' g n l s o := by
  obtain ⟨t, h1, h2, h3⟩ := h
  exact ⟨t, h1.keep k hg, h2.keep k (hM t h3 h2.lt), h3⟩
theorem MeterAt.keepNil {w w' : World} {g : Nat} {n l s o : Int} (h : MeterAt w g n l s o) (k : Keeps Nil w w') : MeterAt w' g n l s o := h.keep k id fun _ _ _ => id
/-- What Spend answers: the next state, and the error. -/
def spendM (nodes s o n : Int) : Int × Int × Int := if o = 0 then spendS nodes n s else (s, o, o)
def nodeM (nodes limbs s o : Int) (xs : List (Bool × List Nat)) : Int × Int × Int := if o = 0 then nodeS nodes limbs s xs else (s, o, o)

set_option maxHeartbeats 400000 in
/-- Spend. -/
theorem spend_any {g : Nat} {nodes limbs s o n : Int} {w : World} (h : MeterAt w g nodes limbs s o) (hs0 : 0 ≤ s) (hs : s ≤ nodes) (hn : nodes ≤ 2000) (hlo : n ≤ 9223372036854775807) :
    Calls Try.prog 13 #[.pointer (some ⟨g, 0, none⟩), .int .i64 n] w fun r w' => r = .returned (.int .i64 (spendM nodes s o n).2.2) ∧ MeterAt w' g nodes limbs (spendM nodes s o n).1 (spendM nodes s o n).2.1 ∧ Keeps (Rid.One g) w w' := by
  have K : Keeps Nil w ((w.alloc (.cells #[.pointer (some ⟨g, 0, none⟩)] 22)).alloc (.cells #[.int .i64 n] 3)) := (by repeat (first | exact Keeps.refl _ _ | refine Keeps.drew ?_ | refine Keeps.drewN ?_ _ | refine Keeps.alloc ?_ _))
  have H := Lib.hid (h.keepNil K)
  have hg := h.lt
  by_cases ho : o = 0
  · subst ho
    have e : spendM nodes s 0 n = spendS nodes n s := by simp [spendM]
    rw [e]
    have cg : w.cell? ⟨g, 0, none⟩ = some (.int .i64 nodes) := by obtain ⟨t, h1, _⟩ := h; exact h1.cell 0
    have hst := spend1_any (g := g) (pn := w.heap.size + 1) (pm := w.heap.size) (nodes := nodes) (n := n) (s := s) (w := ((w.alloc (.cells #[.pointer (some ⟨g, 0, none⟩)] 22)).alloc (.cells #[.int .i64 n] 3))) (by simp) (by simp; omega) (by simp; omega)
      (by simp) (((RowIs.alloc (w := w) (E := 22) (xs := [.pointer (some ⟨g, 0, none⟩)])).keep (M := Nil) (by repeat (first | exact Keeps.refl _ _ | refine Keeps.drew ?_ | refine Keeps.drewN ?_ _ | refine Keeps.alloc ?_ _)) id).cell 0) (K.cellE hg id cg) hs0 hs hn hlo
    have HS := Lib.hid hst
    have HK := Lib.hid K
    clear hst K cg h e
    go_enter Try.func13, Try.ntmps13
    go_wp2_with (go_at_call 23; refine (turn_go (x1 := (spendS nodes n s).1) (x2 := (spendS nodes n s).2.1) (x3 := (spendS nodes n s).2.2) (.inl rfl) H.out HS.out).mono ?_; rintro e w' ⟨rfl, hm, hk⟩)
    go_ret
    exact ⟨rfl, hm, HK.out.of_nil.trans hk⟩
  · have e : spendM nodes s o n = (s, o, o) := by simp [spendM, ho]
    rw [e]
    have HK := Lib.hid K
    clear K h e
    go_enter Try.func13, Try.ntmps13
    go_wp2_with (go_at_call 23; refine (turn_over H.out ho).mono ?_; rintro e w' ⟨rfl, rfl⟩)
    go_ret
    exact ⟨rfl, H.out, HK.out.of_nil⟩

set_option maxHeartbeats 400000 in
/-- Node. -/
theorem node_any {M : Nat → Prop} {g n c : Nat} {a : Option Addr} {xs : List (Bool × List Nat)} {nodes limbs s o : Int} {w : World} (hM : MB M w) (h : MeterAt w g nodes limbs s o) (hx : Ints M w a n c xs) (hs0 : 0 ≤ s) (hs : s ≤ nodes) (hn : nodes ≤ 2000) :
    Calls Try.prog 16 #[.pointer (some ⟨g, 0, none⟩), .slice a n c] w fun r w' => r = .returned (.int .i64 (nodeM nodes limbs s o xs).2.2) ∧ MeterAt w' g nodes limbs (nodeM nodes limbs s o xs).1 (nodeM nodes limbs s o xs).2.1 ∧ Keeps (Rid.One g) w w' := by
  have K : Keeps Nil w ((w.alloc (.cells #[.pointer (some ⟨g, 0, none⟩)] 22)).alloc (.cells #[.slice a n c] 34)) := (by repeat (first | exact Keeps.refl _ _ | refine Keeps.drew ?_ | refine Keeps.drewN ?_ _ | refine Keeps.alloc ?_ _))
  have H := Lib.hid (h.keepNil K)
  have hg := h.lt
  by_cases ho : o = 0
  · subst ho
    have e : nodeM nodes limbs s 0 xs = nodeS nodes limbs s xs := by simp [nodeM]
    rw [e]
    have cg : w.cell? ⟨g, 0, none⟩ = some (.int .i64 nodes) := by obtain ⟨t, h1, _⟩ := h; exact h1.cell 0
    have cg1 : w.cell? ⟨g, 1, none⟩ = some (.int .i64 limbs) := by obtain ⟨t, h1, _⟩ := h; exact h1.cell 1
    have hst := node1_any (M := M) (g := g) (pl := w.heap.size + 1) (pm := w.heap.size) (nodes := nodes) (xs := xs) (s := s) (w := ((w.alloc (.cells #[.pointer (some ⟨g, 0, none⟩)] 22)).alloc (.cells #[.slice a n c] 34))) (hM.keep K) (by simp) (by simp; omega) (by simp; omega)
      (by simp) (((RowIs.alloc (w := w) (E := 22) (xs := [.pointer (some ⟨g, 0, none⟩)])).keep (M := Nil) (by repeat (first | exact Keeps.refl _ _ | refine Keeps.drew ?_ | refine Keeps.drewN ?_ _ | refine Keeps.alloc ?_ _)) id).cell 0) (K.cellE hg id cg) (K.cellE hg id cg1) (hx.keepNil K) hs0 hs hn
    have HS := Lib.hid hst
    have HK := Lib.hid K
    clear hst K cg cg1 h e hx hM
    go_enter Try.func16, Try.ntmps16
    go_wp2_with (go_at_call 23; refine (turn_go (x1 := (nodeS nodes limbs s xs).1) (x2 := (nodeS nodes limbs s xs).2.1) (x3 := (nodeS nodes limbs s xs).2.2) (.inr rfl) H.out HS.out).mono ?_; rintro e w' ⟨rfl, hm, hk⟩)
    go_ret
    exact ⟨rfl, hm, HK.out.of_nil.trans hk⟩
  · have e : nodeM nodes limbs s o xs = (s, o, o) := by simp [nodeM, ho]
    rw [e]
    have HK := Lib.hid K
    clear K h e hx hM
    go_enter Try.func16, Try.ntmps16
    go_wp2_with (go_at_call 23; refine (turn_over H.out ho).mono ?_; rintro e w' ⟨rfl, rfl⟩)
    go_ret
    exact ⟨rfl, H.out, HK.out.of_nil⟩

theorem turn_nil (f : Value) (w : World) : Calls Try.prog 23 #[.pointer none, f] w fun r w' => r = .returned (.int .i64 1) ∧ w = w' := by
  go_enter Try.func23, Try.ntmps23
  go_wp2
  go_ret
  exact ⟨rfl, rfl⟩
theorem spend_nil (n : Int) (w : World) : Calls Try.prog 13 #[.pointer none, .int .i64 n] w fun r w' => r = .returned (.int .i64 1) ∧ Keeps Nil w w' := by
  go_enter Try.func13, Try.ntmps13
  go_wp2_with (go_at_call 23; refine (turn_nil _ _).mono ?_; rintro e w' ⟨rfl, rfl⟩)
  go_ret
  exact ⟨rfl, (by repeat (first | exact Keeps.refl _ _ | refine Keeps.drew ?_ | refine Keeps.drewN ?_ _ | refine Keeps.alloc ?_ _))⟩
theorem node_nil (a : Option Addr) (n c : Nat) (w : World) : Calls Try.prog 16 #[.pointer none, .slice a n c] w fun r w' => r = .returned (.int .i64 1) ∧ Keeps Nil w w' := by
  go_enter Try.func16, Try.ntmps16
  go_wp2_with (go_at_call 23; refine (turn_nil _ _).mono ?_; rintro e w' ⟨rfl, rfl⟩)
  go_ret
  exact ⟨rfl, (by repeat (first | exact Keeps.refl _ _ | refine Keeps.drew ?_ | refine Keeps.drewN ?_ _ | refine Keeps.alloc ?_ _))⟩
end Go.Proofs.Ytdldaiakljhfjaa
