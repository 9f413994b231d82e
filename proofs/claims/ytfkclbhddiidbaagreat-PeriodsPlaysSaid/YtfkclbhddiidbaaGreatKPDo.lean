/- What the laws' own 'do' does: one wanted set, of those that there are. Conditions: what is given reads. -/
import Derived.Test.YtfkclbhddiidbaaGreatKPBuild
namespace Go.Proofs.YtfkclbhddiidbaaGreat
open Go.RowKit Go.Rid
/-- A pointer to a set. -/
def RSet (M : Nat → Prop) (w : World) (cs : List Value) (S : PSet) : Prop := ∃ p, cs = [.pointer (some ⟨p, 0, none⟩)] ∧ SetAt M w p S
theorem RSet.moves : Moves RSet := fun _ _ _ _ _ _ _ h k h1 h2 => by
  obtain ⟨p, e, q⟩ := h; exact ⟨p, e, q.move k h1 h2⟩
/-- A list of pointers to sets: the list lies in no block of M', the sets in none of M. -/
def Sets (M' M : Nat → Prop) (w : World) (a : Option Addr) (n c : Nat) (Ss : List PSet) : Prop := SlOf M' w 1 (RSet M w) noneSet a n c Ss
theorem Sets.keepNil {M' M : Nat → Prop} {w w' : World} {a : Option Addr} {n c : Nat} {Ss : List PSet} (h : Sets M' M w a n c Ss) (k : Keeps Nil w w') : Sets M' M w' a n c Ss := SlOf.move h k (fun _ _ h => h.elim) (fun _ _ => id) fun _ _ hx => RSet.moves hx k (fun _ _ h => h.elim) fun _ _ => id
theorem Sets.at {M' M : Nat → Prop} {w : World} {a : Option Addr} {n c : Nat} {Ss : List PSet} (h : Sets M' M w a n c Ss) {i : Nat} (hi : i < n) :
    ∃ b off p, a = some ⟨b, off, none⟩ ∧ b < w.heap.size ∧ ¬ M' b ∧ w.cell? ⟨b, off + i, none⟩ = some (.pointer (some ⟨p, 0, none⟩)) ∧ SetAt M w p (Ss.getD i noneSet) := by
  obtain ⟨b, off, cs, rfl, hb, hn, hl, hc, p, rfl, hs⟩ := SlOf.at h hi
  exact ⟨b, off, p, rfl, hb, hn, by simpa using hc 0 (by omega), hs⟩
/-- What 'do' answers. -/
def DoRet (M : Nat → Prop) (w : World) (r : Int ⊕ PSet) (e : Ending) (w' : World) : Prop :=
  (∃ k, r = .inl k ∧ k ≠ 0 ∧ e = .returned (.tuple #[.pointer none, .int .i64 k]) ∧ Keeps Nil w w') ∨ ∃ S p, r = .inr S ∧ e = .returned (.tuple #[.pointer (some ⟨p, 0, none⟩), .int .i64 0]) ∧ SetAt M w' p S ∧ Keeps Nil w w'
theorem class_zero {M : Nat → Prop} {w w' : World} {d r : Int} {e : Ending} (hz : d = 0) (h : ClassRet M w d r e w') : e = .returned (.tuple #[.pointer none, .int .i64 11]) ∧ Keeps Nil w w' := by
  rcases h with h | h | h
  · exact h.2
  · exact absurd hz h.1
  · exact absurd hz h.1
theorem class_long {M : Nat → Prop} {w w' : World} {d r : Int} {e : Ending} (hz : ¬ d = 0) (hb : 4096 < d.natAbs) (h : ClassRet M w d r e w') : e = .returned (.tuple #[.pointer none, .int .i64 180]) ∧ Keeps Nil w w' := by
  rcases h with h | h | h
  · exact absurd h.1 hz
  · exact h.2.2
  · have := h.2.1; omega
theorem class_fine {M : Nat → Prop} {w w' : World} {d r : Int} {e : Ending} (hz : ¬ d = 0) (hb : ¬ 4096 < d.natAbs) (h : ClassRet M w d r e w') : TwoRet M w (classSet d r) e w' := by
  rcases h with h | h | h
  · exact absurd h.1 hz
  · exact absurd h.2.1 hb
  · exact h.2.2
set_option maxHeartbeats 4000000 in
set_option maxRecDepth 100000 in
theorem do_any {M M' : Nat → Prop} {m : Mk} {g g2 : Bool} {a1 a2 a : Option Addr} {n1 c1 n2 c2 n c : Nat} {Ss : List PSet} {w : World} (hM : MB M w) (hk : ZAt Nil w g a1 n1 c1 m.k) (hd : ZAt Nil w g2 a2 n2 c2 m.d) (r1 : n1 * 4 + 4096 ≤ 140737488355328) (r2 : n2 * 4 + 4096 ≤ 140737488355328)
    (i1 : I64 m.kind) (i2 : I64 m.a) (i3 : I64 m.b) (h : Sets M' M w a n c Ss) (hn : 1 ≤ n) (hn2 : n ≤ 1000) (hf : ∀ S ∈ Ss, Fine S) :
    Calls Tryz.prog 8 #[.agg #[.int .i64 m.kind, .int .i64 m.a, .int .i64 m.b, .bool g, .slice a1 n1 c1, .bool g2, .slice a2 n2 c2], .slice a n c] w fun e w' => DoRet M w (doR m Ss) e w' := by
  have hk0 : Keeps Nil w (w.alloc (.cells #[.int .i64 m.kind, .int .i64 m.a, .int .i64 m.b, .bool g, .slice a1 n1 c1, .bool g2, .slice a2 n2 c2] 40)) := (by repeat (first | exact Keeps.refl _ _ | refine Keeps.drew ?_ | refine Keeps.drewN ?_ _ | refine Keeps.alloc ?_ _))
  have r0 := RowIs.alloc (w := w) (E := 40) (xs := [.int .i64 m.kind, .int .i64 m.a, .int .i64 m.b, .bool g, .slice a1 n1 c1, .bool g2, .slice a2 n2 c2])
  change RowIs (w.alloc (.cells #[.int .i64 m.kind, .int .i64 m.a, .int .i64 m.b, .bool g, .slice a1 n1 c1, .bool g2, .slice a2 n2 c2] 40)) _ _ _ at r0
  have hlen : Ss.length = n := h.len
  have hcap := SlOf.cap h
  have hle := SlOf.le h
  obtain ⟨i, hi⟩ : ∃ i, i = pk m.a n := ⟨_, rfl⟩
  obtain ⟨j, hj⟩ : ∃ j, j = pk m.b n := ⟨_, rfl⟩
  have hil : i < n := by rw [hi]; exact pk_lt hn
  have hjl : j < n := by rw [hj]; exact pk_lt hn
  obtain ⟨b, off, p, hae, hb, _, x0, hA⟩ := (h.keepNil hk0).at hil
  obtain ⟨b', off', p2, hae', _, _, x1, hB⟩ := (h.keepNil hk0).at hjl
  subst hae
  cases hae'
  have hfA : Fine (Ss.getD i noneSet) := hf _ (by simp [List.getD, List.getElem?_eq_getElem (show i < Ss.length by omega)])
  have hfB : Fine (Ss.getD j noneSet) := hf _ (by simp [List.getD, List.getElem?_eq_getElem (show j < Ss.length by omega)])
  have hR : doR m Ss = doR m Ss := rfl
  conv at hR => rhs; unfold doR
  simp only [hlen, ← hi, ← hj] at hR
  obtain ⟨A, hAA⟩ : ∃ A, A = Ss.getD i noneSet := ⟨_, rfl⟩
  obtain ⟨B, hBB⟩ : ∃ B, B = Ss.getD j noneSet := ⟨_, rfl⟩
  rw [← hAA] at hA hfA hR
  rw [← hBB] at hB hfB hR
  have HM := Lib.hid (hM.keep hk0)
  have HZ := Lib.hid (And.intro (hk.keepNil hk0) (And.intro (hd.keepNil hk0) (And.intro r1 r2)))
  have HI := Lib.hid (And.intro hi (And.intro hj (And.intro i1 (And.intro i2 i3))))
  have HS := Lib.hid (And.intro hA (And.intro hB (And.intro hfA hfB)))
  have hk8 : pk m.kind 8 < 8 := pk_lt (by decide)
  have i4 : (0 : Int) ≤ (i : Int) := by omega
  have i5 : (i : Int) < (n : Int) := by omega
  have i6 : (0 : Int) ≤ (j : Int) := by omega
  have i7 : (j : Int) < (n : Int) := by omega
  have ld := liveRules.2.2.1
  clear hM hk hd h hf hA hB hfA hfB hAA hBB hi hj i1 i2 i3 hlen
  go_enter Tryz.func8, Tryz.ntmps8
  go_upto_region 1 with (fail)
  generalize w.alloc (.cells #[.int .i64 m.kind, .int .i64 m.a, .int .i64 m.b, .bool g, .slice a1 n1 c1, .bool g2, .slice a2 n2 c2] 40) = w0 at *
  have c0 := r0.cell 0
  have c1' := r0.cell 1
  have c2' := r0.cell 2
  have c3 := r0.cell 3
  have c4 := r0.cell 4
  have c5 := r0.cell 5
  have c6 := r0.cell 6
  simp only [List.getElem?_cons_zero, List.getElem?_cons_succ] at c0 c1' c2' c3 c4 c5 c6
  have HK := Lib.hid hk0
  have HB := Lib.hid (And.intro r0 hb)
  clear r0 hb hk0
  have HD := Lib.hid hR
  clear hR

  rcases (show pk m.kind 8 = 0 ∨ pk m.kind 8 = 1 ∨ pk m.kind 8 = 2 ∨ pk m.kind 8 = 3 ∨ pk m.kind 8 = 4 ∨ pk m.kind 8 = 5 ∨ pk m.kind 8 = 6 ∨ pk m.kind 8 = 7 by omega) with hk8 | hk8 | hk8 | hk8 | hk8 | hk8 | hk8 | hk8
  · have HK8 := Lib.hid hk8
    clear hk8
    go_wp2_with (first | (go_at_call_of 25 (Value.int .i64 m.a); refine (refpick_any HI.out.2.2.2.1.1 HI.out.2.2.2.1.2 hn (by omega)).mono ?_; rintro e w' ⟨rfl, rfl⟩; rw [← HI.out.1]) | (go_at_call_of 25 (Value.int .i64 m.b); refine (refpick_any HI.out.2.2.2.2.1 HI.out.2.2.2.2.2 hn (by omega)).mono ?_; rintro e w' ⟨rfl, rfl⟩; rw [← HI.out.2.1]) | (go_at_call_of 25 (Value.int .i64 m.kind); refine (refpick_any (n := 8) HI.out.2.2.1.1 HI.out.2.2.1.2 (by decide) (by decide)).mono ?_; rintro e w' ⟨rfl, rfl⟩; rw [HK8.out]) | (go_at_call 15; refine (above_any HM.out HZ.out.1 (by have := HZ.out.2.2.1; omega)).mono ?_; rintro e w3 ⟨p3, rfl, hs3, hk3⟩))
    go_ret2
    have hd := HD.out
    rw [HK8.out] at hd
    exact .inr ⟨_, p3, hd.trans (by simp), rfl, hs3, HK.out.trans hk3⟩
  · have HK8 := Lib.hid hk8
    clear hk8
    go_wp2_with (first | (go_at_call_of 25 (Value.int .i64 m.a); refine (refpick_any HI.out.2.2.2.1.1 HI.out.2.2.2.1.2 hn (by omega)).mono ?_; rintro e w' ⟨rfl, rfl⟩; rw [← HI.out.1]) | (go_at_call_of 25 (Value.int .i64 m.b); refine (refpick_any HI.out.2.2.2.2.1 HI.out.2.2.2.2.2 hn (by omega)).mono ?_; rintro e w' ⟨rfl, rfl⟩; rw [← HI.out.2.1]) | (go_at_call_of 25 (Value.int .i64 m.kind); refine (refpick_any (n := 8) HI.out.2.2.1.1 HI.out.2.2.1.2 (by decide) (by decide)).mono ?_; rintro e w' ⟨rfl, rfl⟩; rw [HK8.out]) | (go_at_call 15; refine (above_any HM.out HZ.out.1 (by have := HZ.out.2.2.1; omega)).mono ?_; rintro e w3 ⟨p3, rfl, hs3, hk3⟩))
    go_ret2
    have hd := HD.out
    rw [HK8.out] at hd
    exact .inr ⟨_, p3, hd.trans (by simp), rfl, hs3, HK.out.trans hk3⟩
  · have HK8 := Lib.hid hk8
    clear hk8
    by_cases hz : m.d = 0
    · have HZZ := Lib.hid hz
      clear hz
      go_wp2_with (first | (go_at_call_of 25 (Value.int .i64 m.a); refine (refpick_any HI.out.2.2.2.1.1 HI.out.2.2.2.1.2 hn (by omega)).mono ?_; rintro e w' ⟨rfl, rfl⟩; rw [← HI.out.1]) | (go_at_call_of 25 (Value.int .i64 m.b); refine (refpick_any HI.out.2.2.2.2.1 HI.out.2.2.2.2.2 hn (by omega)).mono ?_; rintro e w' ⟨rfl, rfl⟩; rw [← HI.out.2.1]) | (go_at_call_of 25 (Value.int .i64 m.kind); refine (refpick_any (n := 8) HI.out.2.2.1.1 HI.out.2.2.1.2 (by decide) (by decide)).mono ?_; rintro e w' ⟨rfl, rfl⟩; rw [HK8.out]) | (go_at_call 21; refine (class_any HM.out HZ.out.2.1 HZ.out.1 (by have := HZ.out.2.2.2; omega) (by have := HZ.out.2.2.1; omega)).mono ?_; rintro e w3 hc; obtain ⟨rfl, hk3⟩ := class_zero HZZ.out hc))
      go_ret2
      have hd := HD.out
      rw [HK8.out] at hd
      exact .inl ⟨11, hd.trans (by simp [HZZ.out]), by decide, rfl, HK.out.trans hk3⟩
    · by_cases hb : 4096 < m.d.natAbs
      · have HZZ := Lib.hid (And.intro hz hb)
        clear hz hb
        go_wp2_with (first | (go_at_call_of 25 (Value.int .i64 m.a); refine (refpick_any HI.out.2.2.2.1.1 HI.out.2.2.2.1.2 hn (by omega)).mono ?_; rintro e w' ⟨rfl, rfl⟩; rw [← HI.out.1]) | (go_at_call_of 25 (Value.int .i64 m.b); refine (refpick_any HI.out.2.2.2.2.1 HI.out.2.2.2.2.2 hn (by omega)).mono ?_; rintro e w' ⟨rfl, rfl⟩; rw [← HI.out.2.1]) | (go_at_call_of 25 (Value.int .i64 m.kind); refine (refpick_any (n := 8) HI.out.2.2.1.1 HI.out.2.2.1.2 (by decide) (by decide)).mono ?_; rintro e w' ⟨rfl, rfl⟩; rw [HK8.out]) | (go_at_call 21; refine (class_any HM.out HZ.out.2.1 HZ.out.1 (by have := HZ.out.2.2.2; omega) (by have := HZ.out.2.2.1; omega)).mono ?_; rintro e w3 hc; obtain ⟨rfl, hk3⟩ := class_long HZZ.out.1 HZZ.out.2 hc))
        go_ret2
        have hd := HD.out
        rw [HK8.out] at hd
        exact .inl ⟨180, hd.trans (by simp [HZZ.out]), by decide, rfl, HK.out.trans hk3⟩
      · have HZZ := Lib.hid (And.intro hz hb)
        clear hz hb
        go_wp2_with (first | (go_at_call_of 25 (Value.int .i64 m.a); refine (refpick_any HI.out.2.2.2.1.1 HI.out.2.2.2.1.2 hn (by omega)).mono ?_; rintro e w' ⟨rfl, rfl⟩; rw [← HI.out.1]) | (go_at_call_of 25 (Value.int .i64 m.b); refine (refpick_any HI.out.2.2.2.2.1 HI.out.2.2.2.2.2 hn (by omega)).mono ?_; rintro e w' ⟨rfl, rfl⟩; rw [← HI.out.2.1]) | (go_at_call_of 25 (Value.int .i64 m.kind); refine (refpick_any (n := 8) HI.out.2.2.1.1 HI.out.2.2.1.2 (by decide) (by decide)).mono ?_; rintro e w' ⟨rfl, rfl⟩; rw [HK8.out]) | (go_at_call 21; refine (class_any HM.out HZ.out.2.1 HZ.out.1 (by have := HZ.out.2.2.2; omega) (by have := HZ.out.2.2.1; omega)).mono ?_; rintro e w3 hc; obtain ⟨p3, rfl, hs3, hk3⟩ := class_fine HZZ.out.1 HZZ.out.2 hc))
        go_ret2
        have hd := HD.out
        rw [HK8.out] at hd
        exact .inr ⟨_, p3, hd.trans (by simp [HZZ.out.1, HZZ.out.2]), rfl, hs3, HK.out.trans hk3⟩
  · have HK8 := Lib.hid hk8
    clear hk8
    by_cases hz : m.d = 0
    · have HZZ := Lib.hid hz
      clear hz
      go_wp2_with (first | (go_at_call_of 25 (Value.int .i64 m.a); refine (refpick_any HI.out.2.2.2.1.1 HI.out.2.2.2.1.2 hn (by omega)).mono ?_; rintro e w' ⟨rfl, rfl⟩; rw [← HI.out.1]) | (go_at_call_of 25 (Value.int .i64 m.b); refine (refpick_any HI.out.2.2.2.2.1 HI.out.2.2.2.2.2 hn (by omega)).mono ?_; rintro e w' ⟨rfl, rfl⟩; rw [← HI.out.2.1]) | (go_at_call_of 25 (Value.int .i64 m.kind); refine (refpick_any (n := 8) HI.out.2.2.1.1 HI.out.2.2.1.2 (by decide) (by decide)).mono ?_; rintro e w' ⟨rfl, rfl⟩; rw [HK8.out]) | (go_at_call 21; refine (class_any HM.out HZ.out.2.1 HZ.out.1 (by have := HZ.out.2.2.2; omega) (by have := HZ.out.2.2.1; omega)).mono ?_; rintro e w3 hc; obtain ⟨rfl, hk3⟩ := class_zero HZZ.out hc))
      go_ret2
      have hd := HD.out
      rw [HK8.out] at hd
      exact .inl ⟨11, hd.trans (by simp [HZZ.out]), by decide, rfl, HK.out.trans hk3⟩
    · by_cases hb : 4096 < m.d.natAbs
      · have HZZ := Lib.hid (And.intro hz hb)
        clear hz hb
        go_wp2_with (first | (go_at_call_of 25 (Value.int .i64 m.a); refine (refpick_any HI.out.2.2.2.1.1 HI.out.2.2.2.1.2 hn (by omega)).mono ?_; rintro e w' ⟨rfl, rfl⟩; rw [← HI.out.1]) | (go_at_call_of 25 (Value.int .i64 m.b); refine (refpick_any HI.out.2.2.2.2.1 HI.out.2.2.2.2.2 hn (by omega)).mono ?_; rintro e w' ⟨rfl, rfl⟩; rw [← HI.out.2.1]) | (go_at_call_of 25 (Value.int .i64 m.kind); refine (refpick_any (n := 8) HI.out.2.2.1.1 HI.out.2.2.1.2 (by decide) (by decide)).mono ?_; rintro e w' ⟨rfl, rfl⟩; rw [HK8.out]) | (go_at_call 21; refine (class_any HM.out HZ.out.2.1 HZ.out.1 (by have := HZ.out.2.2.2; omega) (by have := HZ.out.2.2.1; omega)).mono ?_; rintro e w3 hc; obtain ⟨rfl, hk3⟩ := class_long HZZ.out.1 HZZ.out.2 hc))
        go_ret2
        have hd := HD.out
        rw [HK8.out] at hd
        exact .inl ⟨180, hd.trans (by simp [HZZ.out]), by decide, rfl, HK.out.trans hk3⟩
      · have HZZ := Lib.hid (And.intro hz hb)
        clear hz hb
        go_wp2_with (first | (go_at_call_of 25 (Value.int .i64 m.a); refine (refpick_any HI.out.2.2.2.1.1 HI.out.2.2.2.1.2 hn (by omega)).mono ?_; rintro e w' ⟨rfl, rfl⟩; rw [← HI.out.1]) | (go_at_call_of 25 (Value.int .i64 m.b); refine (refpick_any HI.out.2.2.2.2.1 HI.out.2.2.2.2.2 hn (by omega)).mono ?_; rintro e w' ⟨rfl, rfl⟩; rw [← HI.out.2.1]) | (go_at_call_of 25 (Value.int .i64 m.kind); refine (refpick_any (n := 8) HI.out.2.2.1.1 HI.out.2.2.1.2 (by decide) (by decide)).mono ?_; rintro e w' ⟨rfl, rfl⟩; rw [HK8.out]) | (go_at_call 21; refine (class_any HM.out HZ.out.2.1 HZ.out.1 (by have := HZ.out.2.2.2; omega) (by have := HZ.out.2.2.1; omega)).mono ?_; rintro e w3 hc; obtain ⟨p3, rfl, hs3, hk3⟩ := class_fine HZZ.out.1 HZZ.out.2 hc))
        go_ret2
        have hd := HD.out
        rw [HK8.out] at hd
        exact .inr ⟨_, p3, hd.trans (by simp [HZZ.out.1, HZZ.out.2]), rfl, hs3, HK.out.trans hk3⟩
  · have HK8 := Lib.hid hk8
    clear hk8
    go_wp2_with (first | (go_at_call_of 25 (Value.int .i64 m.a); refine (refpick_any HI.out.2.2.2.1.1 HI.out.2.2.2.1.2 hn (by omega)).mono ?_; rintro e w' ⟨rfl, rfl⟩; rw [← HI.out.1]) | (go_at_call_of 25 (Value.int .i64 m.b); refine (refpick_any HI.out.2.2.2.2.1 HI.out.2.2.2.2.2 hn (by omega)).mono ?_; rintro e w' ⟨rfl, rfl⟩; rw [← HI.out.2.1]) | (go_at_call_of 25 (Value.int .i64 m.kind); refine (refpick_any (n := 8) HI.out.2.2.1.1 HI.out.2.2.1.2 (by decide) (by decide)).mono ?_; rintro e w' ⟨rfl, rfl⟩; rw [HK8.out]) | (go_at_call 26; refine (rest_any HM.out HS.out.1 HS.out.2.2.1).mono ?_; rintro e w3 ⟨p3, rfl, hs3, hk3⟩))
    go_ret2
    have hd := HD.out
    rw [HK8.out] at hd
    exact .inr ⟨_, p3, hd.trans (by simp), rfl, hs3, HK.out.trans hk3⟩
  · have HK8 := Lib.hid hk8
    clear hk8
    by_cases hq : 4096 < Nat.lcm A.P B.P
    · have HQ := Lib.hid hq
      clear hq
      go_wp2_with (first | (go_at_call_of 25 (Value.int .i64 m.a); refine (refpick_any HI.out.2.2.2.1.1 HI.out.2.2.2.1.2 hn (by omega)).mono ?_; rintro e w' ⟨rfl, rfl⟩; rw [← HI.out.1]) | (go_at_call_of 25 (Value.int .i64 m.b); refine (refpick_any HI.out.2.2.2.2.1 HI.out.2.2.2.2.2 hn (by omega)).mono ?_; rintro e w' ⟨rfl, rfl⟩; rw [← HI.out.2.1]) | (go_at_call_of 25 (Value.int .i64 m.kind); refine (refpick_any (n := 8) HI.out.2.2.1.1 HI.out.2.2.1.2 (by decide) (by decide)).mono ?_; rintro e w' ⟨rfl, rfl⟩; rw [HK8.out]) | (go_at_call 13; refine (meet_err HM.out HS.out.1 HS.out.2.1 HS.out.2.2.1 HS.out.2.2.2 HQ.out).mono ?_; rintro e w3 ⟨he, hk3⟩; rw [show e = Ending.returned (.tuple #[.pointer none, .int .i64 180]) from he]; clear he))
      go_ret2
      have hd := HD.out
      rw [HK8.out] at hd
      exact .inl ⟨180, hd.trans (by simp [HQ.out]), by decide, rfl, HK.out.trans hk3⟩
    · have HQ := Lib.hid hq
      clear hq
      go_wp2_with (first | (go_at_call_of 25 (Value.int .i64 m.a); refine (refpick_any HI.out.2.2.2.1.1 HI.out.2.2.2.1.2 hn (by omega)).mono ?_; rintro e w' ⟨rfl, rfl⟩; rw [← HI.out.1]) | (go_at_call_of 25 (Value.int .i64 m.b); refine (refpick_any HI.out.2.2.2.2.1 HI.out.2.2.2.2.2 hn (by omega)).mono ?_; rintro e w' ⟨rfl, rfl⟩; rw [← HI.out.2.1]) | (go_at_call_of 25 (Value.int .i64 m.kind); refine (refpick_any (n := 8) HI.out.2.2.1.1 HI.out.2.2.1.2 (by decide) (by decide)).mono ?_; rintro e w' ⟨rfl, rfl⟩; rw [HK8.out]) | (go_at_call 13; refine (meet_ok HM.out HS.out.1 HS.out.2.1 HS.out.2.2.1 HS.out.2.2.2 (by have := HQ.out; omega)).mono ?_; rintro e w3 ⟨p3, rfl, hs3, hk3⟩))
      go_ret2
      have hd := HD.out
      rw [HK8.out] at hd
      exact .inr ⟨_, p3, hd.trans (by simp [HQ.out]), rfl, hs3, HK.out.trans hk3⟩
  · have HK8 := Lib.hid hk8
    clear hk8
    by_cases hq : 4096 < Nat.lcm A.P B.P
    · have HQ := Lib.hid hq
      clear hq
      go_wp2_with (first | (go_at_call_of 25 (Value.int .i64 m.a); refine (refpick_any HI.out.2.2.2.1.1 HI.out.2.2.2.1.2 hn (by omega)).mono ?_; rintro e w' ⟨rfl, rfl⟩; rw [← HI.out.1]) | (go_at_call_of 25 (Value.int .i64 m.b); refine (refpick_any HI.out.2.2.2.2.1 HI.out.2.2.2.2.2 hn (by omega)).mono ?_; rintro e w' ⟨rfl, rfl⟩; rw [← HI.out.2.1]) | (go_at_call_of 25 (Value.int .i64 m.kind); refine (refpick_any (n := 8) HI.out.2.2.1.1 HI.out.2.2.1.2 (by decide) (by decide)).mono ?_; rintro e w' ⟨rfl, rfl⟩; rw [HK8.out]) | (go_at_call 13; refine (meet_err HM.out HS.out.1 HS.out.2.1 HS.out.2.2.1 HS.out.2.2.2 HQ.out).mono ?_; rintro e w3 ⟨he, hk3⟩; rw [show e = Ending.returned (.tuple #[.pointer none, .int .i64 180]) from he]; clear he))
      go_ret2
      have hd := HD.out
      rw [HK8.out] at hd
      exact .inl ⟨180, hd.trans (by simp [HQ.out]), by decide, rfl, HK.out.trans hk3⟩
    · have HQ := Lib.hid hq
      clear hq
      go_wp2_with (first | (go_at_call_of 25 (Value.int .i64 m.a); refine (refpick_any HI.out.2.2.2.1.1 HI.out.2.2.2.1.2 hn (by omega)).mono ?_; rintro e w' ⟨rfl, rfl⟩; rw [← HI.out.1]) | (go_at_call_of 25 (Value.int .i64 m.b); refine (refpick_any HI.out.2.2.2.2.1 HI.out.2.2.2.2.2 hn (by omega)).mono ?_; rintro e w' ⟨rfl, rfl⟩; rw [← HI.out.2.1]) | (go_at_call_of 25 (Value.int .i64 m.kind); refine (refpick_any (n := 8) HI.out.2.2.1.1 HI.out.2.2.1.2 (by decide) (by decide)).mono ?_; rintro e w' ⟨rfl, rfl⟩; rw [HK8.out]) | (go_at_call 13; refine (meet_ok HM.out HS.out.1 HS.out.2.1 HS.out.2.2.1 HS.out.2.2.2 (by have := HQ.out; omega)).mono ?_; rintro e w3 ⟨p3, rfl, hs3, hk3⟩))
      go_ret2
      have hd := HD.out
      rw [HK8.out] at hd
      exact .inr ⟨_, p3, hd.trans (by simp [HQ.out]), rfl, hs3, HK.out.trans hk3⟩
  · have HK8 := Lib.hid hk8
    clear hk8
    by_cases hq : 4096 < Nat.lcm A.P B.P
    · have HQ := Lib.hid hq
      clear hq
      go_wp2_with (first | (go_at_call_of 25 (Value.int .i64 m.a); refine (refpick_any HI.out.2.2.2.1.1 HI.out.2.2.2.1.2 hn (by omega)).mono ?_; rintro e w' ⟨rfl, rfl⟩; rw [← HI.out.1]) | (go_at_call_of 25 (Value.int .i64 m.b); refine (refpick_any HI.out.2.2.2.2.1 HI.out.2.2.2.2.2 hn (by omega)).mono ?_; rintro e w' ⟨rfl, rfl⟩; rw [← HI.out.2.1]) | (go_at_call_of 25 (Value.int .i64 m.kind); refine (refpick_any (n := 8) HI.out.2.2.1.1 HI.out.2.2.1.2 (by decide) (by decide)).mono ?_; rintro e w' ⟨rfl, rfl⟩; rw [HK8.out]) | (go_at_call 14; refine (join_err HM.out HS.out.1 HS.out.2.1 HS.out.2.2.1 HS.out.2.2.2 HQ.out).mono ?_; rintro e w3 ⟨he, hk3⟩; rw [show e = Ending.returned (.tuple #[.pointer none, .int .i64 180]) from he]; clear he))
      go_ret2
      have hd := HD.out
      rw [HK8.out] at hd
      exact .inl ⟨180, hd.trans (by simp [HQ.out]), by decide, rfl, HK.out.trans hk3⟩
    · have HQ := Lib.hid hq
      clear hq
      go_wp2_with (first | (go_at_call_of 25 (Value.int .i64 m.a); refine (refpick_any HI.out.2.2.2.1.1 HI.out.2.2.2.1.2 hn (by omega)).mono ?_; rintro e w' ⟨rfl, rfl⟩; rw [← HI.out.1]) | (go_at_call_of 25 (Value.int .i64 m.b); refine (refpick_any HI.out.2.2.2.2.1 HI.out.2.2.2.2.2 hn (by omega)).mono ?_; rintro e w' ⟨rfl, rfl⟩; rw [← HI.out.2.1]) | (go_at_call_of 25 (Value.int .i64 m.kind); refine (refpick_any (n := 8) HI.out.2.2.1.1 HI.out.2.2.1.2 (by decide) (by decide)).mono ?_; rintro e w' ⟨rfl, rfl⟩; rw [HK8.out]) | (go_at_call 14; refine (join_ok HM.out HS.out.1 HS.out.2.1 HS.out.2.2.1 HS.out.2.2.2 (by have := HQ.out; omega)).mono ?_; rintro e w3 ⟨p3, rfl, hs3, hk3⟩))
      go_ret2
      have hd := HD.out
      rw [HK8.out] at hd
      exact .inr ⟨_, p3, hd.trans (by simp [HQ.out]), rfl, hs3, HK.out.trans hk3⟩
end Go.Proofs.YtfkclbhddiidbaaGreat
