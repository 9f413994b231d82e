/- What riddleref18's Make.Do does: one wanted set, of those that there are, by value. Conditions: what is given reads; room. -/
import Derived.Test.YtfkclbhddiidbaaGreatKPBuild
import Derived.Test.YtfkclbhddiidbaaGreatKRMeet
import Derived.Test.YtfkclbhddiidbaaGreatKRRest
namespace Go.Proofs.YtfkclbhddiidbaaGreat
open Go.RowKit Go.Rid
/-- A set as three cells. -/
def RSV (M : Nat → Prop) (w : World) (cs : List Value) (S : PSet) : Prop := ∃ ac nc cc ar nr cr, cs = [.int .i64 (S.P : Int), .slice ac nc cc, .slice ar nr cr] ∧ SV M w ac nc cc ar nr cr S
theorem RSV.moves : Moves RSV := fun _ _ _ _ _ _ _ h k h1 h2 => by
  obtain ⟨ac, nc, cc, ar, nr, cr, e, q⟩ := h; exact ⟨ac, nc, cc, ar, nr, cr, e, q.move k h1 h2⟩
def RSets (M' M : Nat → Prop) (w : World) (a : Option Addr) (n c : Nat) (Ss : List PSet) : Prop := SlOf M' w 3 (RSV M w) noneSet a n c Ss
theorem RSets.keepNil {M' M : Nat → Prop} {w w' : World} {a : Option Addr} {n c : Nat} {Ss : List PSet} (h : RSets M' M w a n c Ss) (k : Keeps Nil w w') : RSets M' M w' a n c Ss := SlOf.move h k (fun _ _ h => h.elim) (fun _ _ => id) fun _ _ hx => RSV.moves hx k (fun _ _ h => h.elim) fun _ _ => id
theorem RSets.at {M' M : Nat → Prop} {w : World} {a : Option Addr} {n c : Nat} {Ss : List PSet} (h : RSets M' M w a n c Ss) {i : Nat} (hi : i < n) :
    ∃ b off ac nc cc ar nr cr, a = some ⟨b, off, none⟩ ∧ b < w.heap.size ∧ ¬ M' b ∧ w.cell? ⟨b, off + i * 3, none⟩ = some (.int .i64 ((Ss.getD i noneSet).P : Int)) ∧ w.cell? ⟨b, off + i * 3 + 1, none⟩ = some (.slice ac nc cc) ∧ w.cell? ⟨b, off + i * 3 + 2, none⟩ = some (.slice ar nr cr) ∧ SV M w ac nc cc ar nr cr (Ss.getD i noneSet) := by
  obtain ⟨b, off, cs, rfl, hb, hn, hl, hc, ac, nc, cc, ar, nr, cr, rfl, hs⟩ := SlOf.at h hi
  exact ⟨b, off, ac, nc, cc, ar, nr, cr, rfl, hb, hn, hc 0 (by omega), hc 1 (by omega), hc 2 (by omega), hs⟩
/-- What Do answers. -/
def RDoRet (M : Nat → Prop) (w : World) (r : Int ⊕ PSet) (e : Ending) (w' : World) : Prop :=
  (∃ k, r = .inl k ∧ k ≠ 0 ∧ RSetNo w k e w') ∨ ∃ S, r = .inr S ∧ RSetYes M w S e w'
theorem RClassRet.zero {M : Nat → Prop} {w w' : World} {d r : Int} {e : Ending} (hz : d = 0) (h : RClassRet M w d r e w') : RSetNo w 11 e w' := by
  rcases h with h | h | h
  · exact h.2
  · exact absurd hz h.1
  · exact absurd hz h.1
theorem RClassRet.long {M : Nat → Prop} {w w' : World} {d r : Int} {e : Ending} (hz : ¬ d = 0) (hb : 4096 < d.natAbs) (h : RClassRet M w d r e w') : RSetNo w 180 e w' := by
  rcases h with h | h | h
  · exact absurd h.1 hz
  · exact h.2.2
  · have := h.2.1; omega
theorem RClassRet.fine {M : Nat → Prop} {w w' : World} {d r : Int} {e : Ending} (hz : ¬ d = 0) (hb : ¬ 4096 < d.natAbs) (h : RClassRet M w d r e w') : RSetYes M w (classSet d r) e w' := by
  rcases h with h | h | h
  · exact absurd h.1 hz
  · exact absurd (by omega) h.2.1
  · exact h.2.2
/-- From the call's own box to what is handed out. -/
theorem rdo_no {M : Nat → Prop} {w wx : World} {p : Nat} {k : Int} {Q : Int ⊕ PSet} (hq : Q = .inl k) (hk : k ≠ 0) (hp : w.heap.size ≤ p) (h : Keeps Nil w wx) : RDoRet M w Q (.returned (.tuple #[.agg #[.int .i64 0, .slice none 0 0, .slice none 0 0], .int .i64 k])) (((wx.setCell ⟨p, 0, none⟩ (.int .i64 0)).setCell ⟨p, 1, none⟩ (.slice none 0 0)).setCell ⟨p, 2, none⟩ (.slice none 0 0)) :=
  .inl ⟨k, hq, hk, rfl, h.own hp (Keeps.triple _ _ _)⟩
theorem rdo_yes {M : Nat → Prop} {w wx : World} {p : Nat} {S : PSet} {Q : Int ⊕ PSet} {ac ar : Option Addr} {nc cc nr cr : Nat} (hq : Q = .inr S) (hp : w.heap.size ≤ p) (h : Keeps Nil w wx) (hs : SV (With M p) wx ac nc cc ar nr cr S) : RDoRet M w Q (.returned (.tuple #[.agg #[.int .i64 (S.P : Int), .slice ac nc cc, .slice ar nr cr], .int .i64 0])) (((wx.setCell ⟨p, 0, none⟩ (.int .i64 (S.P : Int))).setCell ⟨p, 1, none⟩ (.slice ac nc cc)).setCell ⟨p, 2, none⟩ (.slice ar nr cr)) :=
  .inr ⟨S, hq, _, _, _, _, _, _, rfl, hs.move (M' := One p) (Keeps.triple _ _ _) (fun _ _ h => .inr h) (fun _ _ h => .inl h), h.own hp (Keeps.triple _ _ _)⟩
set_option maxHeartbeats 8000000 in
set_option maxRecDepth 100000 in
theorem refdo_any {M M' : Nat → Prop} {m : Mk} {g g2 : Bool} {a1 a2 a : Option Addr} {n1 c1 n2 c2 n c : Nat} {Ss : List PSet} {w : World} (hM : MB M w) (hk : ZAt Nil w g a1 n1 c1 m.k) (hd : ZAt Nil w g2 a2 n2 c2 m.d) (r1 : n1 * 4 + 4096 ≤ 140737488355328) (r2 : n2 * 4 + 4096 ≤ 140737488355328)
    (i1 : I64 m.kind) (i2 : I64 m.a) (i3 : I64 m.b) (h : RSets M' M w a n c Ss) (hn : 1 ≤ n) (hn2 : n ≤ 1000) (hf : ∀ S ∈ Ss, Fine S) :
    Calls Tryz.prog 9 #[.agg #[.int .i64 m.kind, .int .i64 m.a, .int .i64 m.b, .bool g, .slice a1 n1 c1, .bool g2, .slice a2 n2 c2], .slice a n c] w fun e w' => RDoRet M w (doR m Ss) e w' := by
  have k0 : Keeps Nil w (w.alloc (.cells #[.int .i64 m.kind, .int .i64 m.a, .int .i64 m.b, .bool g, .slice a1 n1 c1, .bool g2, .slice a2 n2 c2] 40)) := (by repeat (first | exact Keeps.refl _ _ | refine Keeps.drew ?_ | refine Keeps.drewN ?_ _ | refine Keeps.alloc ?_ _))
  have k1 : Keeps Nil (w.alloc (.cells #[.int .i64 m.kind, .int .i64 m.a, .int .i64 m.b, .bool g, .slice a1 n1 c1, .bool g2, .slice a2 n2 c2] 40)) ((w.alloc (.cells #[.int .i64 m.kind, .int .i64 m.a, .int .i64 m.b, .bool g, .slice a1 n1 c1, .bool g2, .slice a2 n2 c2] 40)).alloc (.cells #[.int .i64 0, .slice none 0 0, .slice none 0 0] 30)) := (by repeat (first | exact Keeps.refl _ _ | refine Keeps.drew ?_ | refine Keeps.drewN ?_ _ | refine Keeps.alloc ?_ _))
  have r0 := (RowIs.alloc (w := w) (E := 40) (xs := [.int .i64 m.kind, .int .i64 m.a, .int .i64 m.b, .bool g, .slice a1 n1 c1, .bool g2, .slice a2 n2 c2])).keep k1 id
  have rr := RowIs.alloc (w := w.alloc (.cells #[.int .i64 m.kind, .int .i64 m.a, .int .i64 m.b, .bool g, .slice a1 n1 c1, .bool g2, .slice a2 n2 c2] 40)) (E := 30) (xs := [.int .i64 0, .slice none 0 0, .slice none 0 0])
  rw [show (w.alloc (.cells #[.int .i64 m.kind, .int .i64 m.a, .int .i64 m.b, .bool g, .slice a1 n1 c1, .bool g2, .slice a2 n2 c2] 40)).heap.size = w.heap.size + 1 by simp] at rr
  change RowIs ((w.alloc (.cells #[.int .i64 m.kind, .int .i64 m.a, .int .i64 m.b, .bool g, .slice a1 n1 c1, .bool g2, .slice a2 n2 c2] 40)).alloc (.cells #[.int .i64 0, .slice none 0 0, .slice none 0 0] 30)) _ _ _ at rr
  have hk0 := k0.trans k1
  have hlen : Ss.length = n := h.len
  have hcap := SlOf.cap h
  have hle := SlOf.le h
  obtain ⟨i, hi⟩ : ∃ i, i = pk m.a n := ⟨_, rfl⟩
  obtain ⟨j, hj⟩ : ∃ j, j = pk m.b n := ⟨_, rfl⟩
  have hil : i < n := by rw [hi]; exact pk_lt hn
  have hjl : j < n := by rw [hj]; exact pk_lt hn
  obtain ⟨b, off, ac, nc, cc, ar, nr, cr, hae, hb, _, x0, x1, x2, hA⟩ := h.at hil
  obtain ⟨b', off', ac2, nc2, cc2, ar2, nr2, cr2, hae', _, _, y0, y1, y2, hB⟩ := h.at hjl
  subst hae
  cases hae'
  have hfA : Fine (Ss.getD i noneSet) := hf _ (by simp [List.getD, List.getElem?_eq_getElem (show i < Ss.length by omega)])
  have hfB : Fine (Ss.getD j noneSet) := hf _ (by simp [List.getD, List.getElem?_eq_getElem (show j < Ss.length by omega)])
  have hW : ∀ b, b < w.heap.size → With M (w.heap.size + 1) b → M b := fun b hb hm => by
    rcases hm with hm | hm
    · exact hm
    · have : b = w.heap.size + 1 := hm; omega
  have hR : doR m Ss = doR m Ss := rfl
  conv at hR => rhs; unfold doR
  simp only [hlen, ← hi, ← hj] at hR
  obtain ⟨A, hAA⟩ : ∃ A, A = Ss.getD i noneSet := ⟨_, rfl⟩
  obtain ⟨B, hBB⟩ : ∃ B, B = Ss.getD j noneSet := ⟨_, rfl⟩
  rw [← hAA] at hA hfA hR x0
  rw [← hBB] at hB hfB hR y0
  have u0 := hk0.cellE hb id x0
  have u1 := hk0.cellE hb id x1
  have u2 := hk0.cellE hb id x2
  have v0 := hk0.cellE hb id y0
  have v1 := hk0.cellE hb id y1
  have v2 := hk0.cellE hb id y2
  have hb0 := Nat.lt_of_lt_of_le hb hk0.size
  have HZ := Lib.hid (And.intro (hk.keepNil hk0) (And.intro (hd.keepNil hk0) (And.intro r1 r2)))
  have HI := Lib.hid (And.intro hi (And.intro hj (And.intro i1 (And.intro i2 i3))))
  have HS := Lib.hid (And.intro (hA.move (M2 := With M (w.heap.size + 1)) hk0 (fun _ _ h => h.elim) hW) (And.intro (hB.move (M2 := With M (w.heap.size + 1)) hk0 (fun _ _ h => h.elim) hW) (And.intro hfA hfB)))
  have HB := Lib.hid (And.intro rr (And.intro hk0 ((hM.keep hk0).with rr.lt)))
  have hk8 : pk m.kind 8 < 8 := pk_lt (by decide)
  have i4 : (0 : Int) ≤ (i : Int) := by omega
  have i5 : (i : Int) < (n : Int) := by omega
  have i6 : (0 : Int) ≤ (j : Int) := by omega
  have i7 : (j : Int) < (n : Int) := by omega
  have HD := Lib.hid hR
  have HM := Lib.hid hM
  clear hM hk hd h hf hA hB hfA hfB hAA hBB hi hj i1 i2 i3 hlen x0 x1 x2 y0 y1 y2 hb k0 k1 hW hR
  go_enter Tryz.func9, Tryz.ntmps9
  go_upto_region 1 with (fail)
  generalize (w.alloc (.cells #[.int .i64 m.kind, .int .i64 m.a, .int .i64 m.b, .bool g, .slice a1 n1 c1, .bool g2, .slice a2 n2 c2] 40)).alloc (.cells #[.int .i64 0, .slice none 0 0, .slice none 0 0] 30) = w0 at *
  have c0 := r0.cell 0
  have c1' := r0.cell 1
  have c2' := r0.cell 2
  simp only [List.getElem?_cons_zero, List.getElem?_cons_succ] at c0 c1' c2'
  have HB0 := Lib.hid r0
  have lb0 := r0.lt
  clear r0 rr hk0
  go_upto_region 2 with (go_at_call 25; refine (refpick_any HI.out.2.2.2.1.1 HI.out.2.2.2.1.2 hn (by omega)).mono ?_; rintro e w' ⟨rfl, rfl⟩; rw [← HI.out.1])
  have rA := RowIs.alloc (w := w0) (E := 30) (xs := [.int .i64 (A.P : Int), .slice ac nc cc, .slice ar nr cr])
  have kA : Keeps Nil w0 (w0.alloc (.cells #[.int .i64 (A.P : Int), .slice ac nc cc, .slice ar nr cr] 30)) := (by repeat (first | exact Keeps.refl _ _ | refine Keeps.drew ?_ | refine Keeps.drewN ?_ _ | refine Keeps.alloc ?_ _))
  change RowIs (w0.alloc (.cells #[.int .i64 (A.P : Int), .slice ac nc cc, .slice ar nr cr] 30)) _ _ _ at rA
  generalize w0.alloc (.cells #[.int .i64 (A.P : Int), .slice ac nc cc, .slice ar nr cr] 30) = wA at *
  have v0 := kA.cellE hb0 id v0
  have v1 := kA.cellE hb0 id v1
  have v2 := kA.cellE hb0 id v2
  have c0 := kA.cellE lb0 id c0
  have c2' := kA.cellE lb0 id c2'
  go_upto_region 3 with (go_at_call 25; refine (refpick_any HI.out.2.2.2.2.1 HI.out.2.2.2.2.2 hn (by omega)).mono ?_; rintro e w' ⟨rfl, rfl⟩; rw [← HI.out.2.1])
  have rB := RowIs.alloc (w := wA) (E := 30) (xs := [.int .i64 (B.P : Int), .slice ac2 nc2 cc2, .slice ar2 nr2 cr2])
  have kB : Keeps Nil wA (wA.alloc (.cells #[.int .i64 (B.P : Int), .slice ac2 nc2 cc2, .slice ar2 nr2 cr2] 30)) := (by repeat (first | exact Keeps.refl _ _ | refine Keeps.drew ?_ | refine Keeps.drewN ?_ _ | refine Keeps.alloc ?_ _))
  change RowIs (wA.alloc (.cells #[.int .i64 (B.P : Int), .slice ac2 nc2 cc2, .slice ar2 nr2 cr2] 30)) _ _ _ at rB
  generalize wA.alloc (.cells #[.int .i64 (B.P : Int), .slice ac2 nc2 cc2, .slice ar2 nr2 cr2] 30) = wB at *
  have kAB := kA.trans kB
  have rr := HB.out.1.keep kAB id
  have hkB := HB.out.2.1.trans kAB
  obtain ⟨a0', a1', a2'⟩ := (rA.keep kB id).three
  obtain ⟨b0', b1', b2'⟩ := rB.three
  have r0 := HB0.out.keep kAB id
  have c0 := r0.cell 0
  have c3 := r0.cell 3
  have c4 := r0.cell 4
  have c5 := r0.cell 5
  have c6 := r0.cell 6
  simp only [List.getElem?_cons_zero, List.getElem?_cons_succ] at c0 c3 c4 c5 c6
  have HK := Lib.hid (And.intro rr (And.intro hkB (HB.out.2.2.keep kAB)))
  have HSB := Lib.hid (And.intro (HS.out.1.keepNil kAB) (And.intro (HS.out.2.1.keepNil kAB) HS.out.2.2))
  have HZB := Lib.hid (And.intro (HZ.out.1.keepNil kAB) (And.intro (HZ.out.2.1.keepNil kAB) HZ.out.2.2))
  clear rA kA rB kB kAB rr hkB r0 u0 u1 u2 v0 v1 v2 HB HS HZ
  generalize w0.heap.size = pA at *
  generalize wA.heap.size = pB at *
  go_upto_region 4 with (go_at_call 25; refine (refpick_any HI.out.2.2.1.1 HI.out.2.2.1.2 (by decide) (by decide)).mono ?_; rintro e w' ⟨rfl, rfl⟩)
  rcases (show pk m.kind 8 = 0 ∨ pk m.kind 8 = 1 ∨ pk m.kind 8 = 2 ∨ pk m.kind 8 = 3 ∨ pk m.kind 8 = 4 ∨ pk m.kind 8 = 5 ∨ pk m.kind 8 = 6 ∨ pk m.kind 8 = 7 by omega) with hk8 | hk8 | hk8 | hk8 | hk8 | hk8 | hk8 | hk8
  · rw [hk8, show ((0 : Nat) : Int) = 0 from rfl]
    have HK8 := Lib.hid hk8
    clear hk8
    go_wp2_with (go_at_call 27; refine (refabove_any HK.out.2.2 HZB.out.1 (by have := HZB.out.2.2.1; omega)).mono ?_; rintro e w1 ⟨ac9, nc9, cc9, ar9, nr9, cr9, rfl, hsv, hk1⟩; obtain ⟨z0, z1, z2⟩ := (HK.out.1.keep hk1 id).three; have f0 := (HK.out.1.keep hk1 id).frozen 0; have f1 := (HK.out.1.keep hk1 id).frozen 1; have f2 := (HK.out.1.keep hk1 id).frozen 2; have H1 := Lib.hid (And.intro (HK.out.1.keep hk1 id) (And.intro (HK.out.2.1.trans hk1) hsv)); clear hk1; clear hsv)
    obtain ⟨k0, k1, k2⟩ := (H1.out.1.triple (u' := .int .i64 ((aboveSet m.k).P : Int)) (v' := .slice ac9 nc9 cc9) (x' := .slice ar9 nr9 cr9)).three
    exact bodyPost_ret (v := .tuple #[.agg #[.int .i64 ((aboveSet m.k).P : Int), .slice ac9 nc9 cc9, .slice ar9 nr9 cr9], .int .i64 0]) (by simp [results, Tryz.results9, go_sem, k0, k1, k2]) rfl (rdo_yes (HD.out.trans (by simp [HK8.out])) (by omega) H1.out.2.1 H1.out.2.2)
  · rw [hk8, show ((1 : Nat) : Int) = 1 from rfl]
    have HK8 := Lib.hid hk8
    clear hk8
    go_wp2_with (go_at_call 27; refine (refabove_any HK.out.2.2 HZB.out.1 (by have := HZB.out.2.2.1; omega)).mono ?_; rintro e w1 ⟨ac9, nc9, cc9, ar9, nr9, cr9, rfl, hsv, hk1⟩; obtain ⟨z0, z1, z2⟩ := (HK.out.1.keep hk1 id).three; have f0 := (HK.out.1.keep hk1 id).frozen 0; have f1 := (HK.out.1.keep hk1 id).frozen 1; have f2 := (HK.out.1.keep hk1 id).frozen 2; have H1 := Lib.hid (And.intro (HK.out.1.keep hk1 id) (And.intro (HK.out.2.1.trans hk1) hsv)); clear hk1; clear hsv)
    obtain ⟨k0, k1, k2⟩ := (H1.out.1.triple (u' := .int .i64 ((aboveSet m.k).P : Int)) (v' := .slice ac9 nc9 cc9) (x' := .slice ar9 nr9 cr9)).three
    exact bodyPost_ret (v := .tuple #[.agg #[.int .i64 ((aboveSet m.k).P : Int), .slice ac9 nc9 cc9, .slice ar9 nr9 cr9], .int .i64 0]) (by simp [results, Tryz.results9, go_sem, k0, k1, k2]) rfl (rdo_yes (HD.out.trans (by simp [HK8.out])) (by omega) H1.out.2.1 H1.out.2.2)
  · rw [hk8, show ((2 : Nat) : Int) = 2 from rfl]
    have HK8 := Lib.hid hk8
    clear hk8
    by_cases hz : m.d = 0
    · have HZZ := Lib.hid hz
      clear hz
      go_wp2_with (go_at_call 28; refine (refclass_any HK.out.2.2 HZB.out.2.1 HZB.out.1 (by have := HZB.out.2.2.2; omega) (by have := HZB.out.2.2.1; omega)).mono ?_; rintro e w1 hr; obtain ⟨rfl, hk1⟩ := hr.zero HZZ.out; clear hr; obtain ⟨z0, z1, z2⟩ := (HK.out.1.keep hk1 id).three; have f0 := (HK.out.1.keep hk1 id).frozen 0; have f1 := (HK.out.1.keep hk1 id).frozen 1; have f2 := (HK.out.1.keep hk1 id).frozen 2; have H1 := Lib.hid (And.intro (HK.out.1.keep hk1 id) (And.intro (HK.out.2.1.trans hk1) trivial)); clear hk1)
      obtain ⟨k0, k1, k2⟩ := (H1.out.1.triple (u' := .int .i64 0) (v' := .slice none 0 0) (x' := .slice none 0 0)).three
      exact bodyPost_ret (v := .tuple #[.agg #[.int .i64 0, .slice none 0 0, .slice none 0 0], .int .i64 11]) (by simp [results, Tryz.results9, go_sem, k0, k1, k2]) rfl (rdo_no (HD.out.trans (by simp [HK8.out, HZZ.out])) (by decide) (by omega) H1.out.2.1)
    · by_cases hb : 4096 < m.d.natAbs
      · have HZZ := Lib.hid (And.intro hz hb)
        clear hz hb
        go_wp2_with (go_at_call 28; refine (refclass_any HK.out.2.2 HZB.out.2.1 HZB.out.1 (by have := HZB.out.2.2.2; omega) (by have := HZB.out.2.2.1; omega)).mono ?_; rintro e w1 hr; obtain ⟨rfl, hk1⟩ := hr.long HZZ.out.1 HZZ.out.2; clear hr; obtain ⟨z0, z1, z2⟩ := (HK.out.1.keep hk1 id).three; have f0 := (HK.out.1.keep hk1 id).frozen 0; have f1 := (HK.out.1.keep hk1 id).frozen 1; have f2 := (HK.out.1.keep hk1 id).frozen 2; have H1 := Lib.hid (And.intro (HK.out.1.keep hk1 id) (And.intro (HK.out.2.1.trans hk1) trivial)); clear hk1)
        obtain ⟨k0, k1, k2⟩ := (H1.out.1.triple (u' := .int .i64 0) (v' := .slice none 0 0) (x' := .slice none 0 0)).three
        exact bodyPost_ret (v := .tuple #[.agg #[.int .i64 0, .slice none 0 0, .slice none 0 0], .int .i64 180]) (by simp [results, Tryz.results9, go_sem, k0, k1, k2]) rfl (rdo_no (HD.out.trans (by simp [HK8.out, HZZ.out.1, HZZ.out.2])) (by decide) (by omega) H1.out.2.1)
      · have HZZ := Lib.hid (And.intro hz hb)
        clear hz hb
        go_wp2_with (go_at_call 28; refine (refclass_any HK.out.2.2 HZB.out.2.1 HZB.out.1 (by have := HZB.out.2.2.2; omega) (by have := HZB.out.2.2.1; omega)).mono ?_; rintro e w1 hr; obtain ⟨ac9, nc9, cc9, ar9, nr9, cr9, rfl, hsv, hk1⟩ := hr.fine HZZ.out.1 HZZ.out.2; clear hr; obtain ⟨z0, z1, z2⟩ := (HK.out.1.keep hk1 id).three; have f0 := (HK.out.1.keep hk1 id).frozen 0; have f1 := (HK.out.1.keep hk1 id).frozen 1; have f2 := (HK.out.1.keep hk1 id).frozen 2; have H1 := Lib.hid (And.intro (HK.out.1.keep hk1 id) (And.intro (HK.out.2.1.trans hk1) hsv)); clear hk1; clear hsv)
        obtain ⟨k0, k1, k2⟩ := (H1.out.1.triple (u' := .int .i64 ((classSet m.d m.k).P : Int)) (v' := .slice ac9 nc9 cc9) (x' := .slice ar9 nr9 cr9)).three
        exact bodyPost_ret (v := .tuple #[.agg #[.int .i64 ((classSet m.d m.k).P : Int), .slice ac9 nc9 cc9, .slice ar9 nr9 cr9], .int .i64 0]) (by simp [results, Tryz.results9, go_sem, k0, k1, k2]) rfl (rdo_yes (HD.out.trans (by simp [HK8.out, HZZ.out.1, HZZ.out.2])) (by omega) H1.out.2.1 H1.out.2.2)
  · rw [hk8, show ((3 : Nat) : Int) = 3 from rfl]
    have HK8 := Lib.hid hk8
    clear hk8
    by_cases hz : m.d = 0
    · have HZZ := Lib.hid hz
      clear hz
      go_wp2_with (go_at_call 28; refine (refclass_any HK.out.2.2 HZB.out.2.1 HZB.out.1 (by have := HZB.out.2.2.2; omega) (by have := HZB.out.2.2.1; omega)).mono ?_; rintro e w1 hr; obtain ⟨rfl, hk1⟩ := hr.zero HZZ.out; clear hr; obtain ⟨z0, z1, z2⟩ := (HK.out.1.keep hk1 id).three; have f0 := (HK.out.1.keep hk1 id).frozen 0; have f1 := (HK.out.1.keep hk1 id).frozen 1; have f2 := (HK.out.1.keep hk1 id).frozen 2; have H1 := Lib.hid (And.intro (HK.out.1.keep hk1 id) (And.intro (HK.out.2.1.trans hk1) trivial)); clear hk1)
      obtain ⟨k0, k1, k2⟩ := (H1.out.1.triple (u' := .int .i64 0) (v' := .slice none 0 0) (x' := .slice none 0 0)).three
      exact bodyPost_ret (v := .tuple #[.agg #[.int .i64 0, .slice none 0 0, .slice none 0 0], .int .i64 11]) (by simp [results, Tryz.results9, go_sem, k0, k1, k2]) rfl (rdo_no (HD.out.trans (by simp [HK8.out, HZZ.out])) (by decide) (by omega) H1.out.2.1)
    · by_cases hb : 4096 < m.d.natAbs
      · have HZZ := Lib.hid (And.intro hz hb)
        clear hz hb
        go_wp2_with (go_at_call 28; refine (refclass_any HK.out.2.2 HZB.out.2.1 HZB.out.1 (by have := HZB.out.2.2.2; omega) (by have := HZB.out.2.2.1; omega)).mono ?_; rintro e w1 hr; obtain ⟨rfl, hk1⟩ := hr.long HZZ.out.1 HZZ.out.2; clear hr; obtain ⟨z0, z1, z2⟩ := (HK.out.1.keep hk1 id).three; have f0 := (HK.out.1.keep hk1 id).frozen 0; have f1 := (HK.out.1.keep hk1 id).frozen 1; have f2 := (HK.out.1.keep hk1 id).frozen 2; have H1 := Lib.hid (And.intro (HK.out.1.keep hk1 id) (And.intro (HK.out.2.1.trans hk1) trivial)); clear hk1)
        obtain ⟨k0, k1, k2⟩ := (H1.out.1.triple (u' := .int .i64 0) (v' := .slice none 0 0) (x' := .slice none 0 0)).three
        exact bodyPost_ret (v := .tuple #[.agg #[.int .i64 0, .slice none 0 0, .slice none 0 0], .int .i64 180]) (by simp [results, Tryz.results9, go_sem, k0, k1, k2]) rfl (rdo_no (HD.out.trans (by simp [HK8.out, HZZ.out.1, HZZ.out.2])) (by decide) (by omega) H1.out.2.1)
      · have HZZ := Lib.hid (And.intro hz hb)
        clear hz hb
        go_wp2_with (go_at_call 28; refine (refclass_any HK.out.2.2 HZB.out.2.1 HZB.out.1 (by have := HZB.out.2.2.2; omega) (by have := HZB.out.2.2.1; omega)).mono ?_; rintro e w1 hr; obtain ⟨ac9, nc9, cc9, ar9, nr9, cr9, rfl, hsv, hk1⟩ := hr.fine HZZ.out.1 HZZ.out.2; clear hr; obtain ⟨z0, z1, z2⟩ := (HK.out.1.keep hk1 id).three; have f0 := (HK.out.1.keep hk1 id).frozen 0; have f1 := (HK.out.1.keep hk1 id).frozen 1; have f2 := (HK.out.1.keep hk1 id).frozen 2; have H1 := Lib.hid (And.intro (HK.out.1.keep hk1 id) (And.intro (HK.out.2.1.trans hk1) hsv)); clear hk1; clear hsv)
        obtain ⟨k0, k1, k2⟩ := (H1.out.1.triple (u' := .int .i64 ((classSet m.d m.k).P : Int)) (v' := .slice ac9 nc9 cc9) (x' := .slice ar9 nr9 cr9)).three
        exact bodyPost_ret (v := .tuple #[.agg #[.int .i64 ((classSet m.d m.k).P : Int), .slice ac9 nc9 cc9, .slice ar9 nr9 cr9], .int .i64 0]) (by simp [results, Tryz.results9, go_sem, k0, k1, k2]) rfl (rdo_yes (HD.out.trans (by simp [HK8.out, HZZ.out.1, HZZ.out.2])) (by omega) H1.out.2.1 H1.out.2.2)
  · rw [hk8, show ((4 : Nat) : Int) = 4 from rfl]
    have HK8 := Lib.hid hk8
    clear hk8
    go_wp2_with (go_at_call 29; refine (refrest18_any HK.out.2.2 HSB.out.1 HSB.out.2.2.1).mono ?_; rintro e w1 ⟨ac9, nc9, cc9, ar9, nr9, cr9, rfl, hsv, hk1⟩; obtain ⟨z0, z1, z2⟩ := (HK.out.1.keep hk1 id).three; have f0 := (HK.out.1.keep hk1 id).frozen 0; have f1 := (HK.out.1.keep hk1 id).frozen 1; have f2 := (HK.out.1.keep hk1 id).frozen 2; have H1 := Lib.hid (And.intro (HK.out.1.keep hk1 id) (And.intro (HK.out.2.1.trans hk1) hsv)); clear hk1; clear hsv)
    obtain ⟨k0, k1, k2⟩ := (H1.out.1.triple (u' := .int .i64 ((restOf A).P : Int)) (v' := .slice ac9 nc9 cc9) (x' := .slice ar9 nr9 cr9)).three
    exact bodyPost_ret (v := .tuple #[.agg #[.int .i64 ((restOf A).P : Int), .slice ac9 nc9 cc9, .slice ar9 nr9 cr9], .int .i64 0]) (by simp [results, Tryz.results9, go_sem, k0, k1, k2]) rfl (rdo_yes (HD.out.trans (by simp [HK8.out])) (by omega) H1.out.2.1 H1.out.2.2)
  · rw [hk8, show ((5 : Nat) : Int) = 5 from rfl]
    have HK8 := Lib.hid hk8
    clear hk8
    by_cases hq : 4096 < Nat.lcm A.P B.P
    · have HZZ := Lib.hid hq
      clear hq
      go_wp2_with (go_at_call 30; refine (refmeet_any HK.out.2.2 HSB.out.1 HSB.out.2.1 HSB.out.2.2.1 HSB.out.2.2.2).mono ?_; rintro e w1 hr; obtain ⟨rfl, hk1⟩ := hr.no HZZ.out; clear hr; obtain ⟨z0, z1, z2⟩ := (HK.out.1.keep hk1 id).three; have f0 := (HK.out.1.keep hk1 id).frozen 0; have f1 := (HK.out.1.keep hk1 id).frozen 1; have f2 := (HK.out.1.keep hk1 id).frozen 2; have H1 := Lib.hid (And.intro (HK.out.1.keep hk1 id) (And.intro (HK.out.2.1.trans hk1) trivial)); clear hk1)
      obtain ⟨k0, k1, k2⟩ := (H1.out.1.triple (u' := .int .i64 0) (v' := .slice none 0 0) (x' := .slice none 0 0)).three
      exact bodyPost_ret (v := .tuple #[.agg #[.int .i64 0, .slice none 0 0, .slice none 0 0], .int .i64 180]) (by simp [results, Tryz.results9, go_sem, k0, k1, k2]) rfl (rdo_no (HD.out.trans (by simp [HK8.out, HZZ.out])) (by decide) (by omega) H1.out.2.1)
    · have HZZ := Lib.hid hq
      clear hq
      go_wp2_with (go_at_call 30; refine (refmeet_any HK.out.2.2 HSB.out.1 HSB.out.2.1 HSB.out.2.2.1 HSB.out.2.2.2).mono ?_; rintro e w1 hr; obtain ⟨ac9, nc9, cc9, ar9, nr9, cr9, rfl, hsv, hk1⟩ := hr.yes HZZ.out; clear hr; obtain ⟨z0, z1, z2⟩ := (HK.out.1.keep hk1 id).three; have f0 := (HK.out.1.keep hk1 id).frozen 0; have f1 := (HK.out.1.keep hk1 id).frozen 1; have f2 := (HK.out.1.keep hk1 id).frozen 2; have H1 := Lib.hid (And.intro (HK.out.1.keep hk1 id) (And.intro (HK.out.2.1.trans hk1) hsv)); clear hk1; clear hsv)
      obtain ⟨k0, k1, k2⟩ := (H1.out.1.triple (u' := .int .i64 ((Rid.joined (fun x y => x && y) A B).P : Int)) (v' := .slice ac9 nc9 cc9) (x' := .slice ar9 nr9 cr9)).three
      exact bodyPost_ret (v := .tuple #[.agg #[.int .i64 ((Rid.joined (fun x y => x && y) A B).P : Int), .slice ac9 nc9 cc9, .slice ar9 nr9 cr9], .int .i64 0]) (by simp [results, Tryz.results9, go_sem, k0, k1, k2]) rfl (rdo_yes (HD.out.trans (by simp [HK8.out, HZZ.out])) (by omega) H1.out.2.1 H1.out.2.2)
  · rw [hk8, show ((6 : Nat) : Int) = 6 from rfl]
    have HK8 := Lib.hid hk8
    clear hk8
    by_cases hq : 4096 < Nat.lcm A.P B.P
    · have HZZ := Lib.hid hq
      clear hq
      go_wp2_with (go_at_call 30; refine (refmeet_any HK.out.2.2 HSB.out.1 HSB.out.2.1 HSB.out.2.2.1 HSB.out.2.2.2).mono ?_; rintro e w1 hr; obtain ⟨rfl, hk1⟩ := hr.no HZZ.out; clear hr; obtain ⟨z0, z1, z2⟩ := (HK.out.1.keep hk1 id).three; have f0 := (HK.out.1.keep hk1 id).frozen 0; have f1 := (HK.out.1.keep hk1 id).frozen 1; have f2 := (HK.out.1.keep hk1 id).frozen 2; have H1 := Lib.hid (And.intro (HK.out.1.keep hk1 id) (And.intro (HK.out.2.1.trans hk1) trivial)); clear hk1)
      obtain ⟨k0, k1, k2⟩ := (H1.out.1.triple (u' := .int .i64 0) (v' := .slice none 0 0) (x' := .slice none 0 0)).three
      exact bodyPost_ret (v := .tuple #[.agg #[.int .i64 0, .slice none 0 0, .slice none 0 0], .int .i64 180]) (by simp [results, Tryz.results9, go_sem, k0, k1, k2]) rfl (rdo_no (HD.out.trans (by simp [HK8.out, HZZ.out])) (by decide) (by omega) H1.out.2.1)
    · have HZZ := Lib.hid hq
      clear hq
      go_wp2_with (go_at_call 30; refine (refmeet_any HK.out.2.2 HSB.out.1 HSB.out.2.1 HSB.out.2.2.1 HSB.out.2.2.2).mono ?_; rintro e w1 hr; obtain ⟨ac9, nc9, cc9, ar9, nr9, cr9, rfl, hsv, hk1⟩ := hr.yes HZZ.out; clear hr; obtain ⟨z0, z1, z2⟩ := (HK.out.1.keep hk1 id).three; have f0 := (HK.out.1.keep hk1 id).frozen 0; have f1 := (HK.out.1.keep hk1 id).frozen 1; have f2 := (HK.out.1.keep hk1 id).frozen 2; have H1 := Lib.hid (And.intro (HK.out.1.keep hk1 id) (And.intro (HK.out.2.1.trans hk1) hsv)); clear hk1; clear hsv)
      obtain ⟨k0, k1, k2⟩ := (H1.out.1.triple (u' := .int .i64 ((Rid.joined (fun x y => x && y) A B).P : Int)) (v' := .slice ac9 nc9 cc9) (x' := .slice ar9 nr9 cr9)).three
      exact bodyPost_ret (v := .tuple #[.agg #[.int .i64 ((Rid.joined (fun x y => x && y) A B).P : Int), .slice ac9 nc9 cc9, .slice ar9 nr9 cr9], .int .i64 0]) (by simp [results, Tryz.results9, go_sem, k0, k1, k2]) rfl (rdo_yes (HD.out.trans (by simp [HK8.out, HZZ.out])) (by omega) H1.out.2.1 H1.out.2.2)
  · rw [hk8, show ((7 : Nat) : Int) = 7 from rfl]
    have HK8 := Lib.hid hk8
    clear hk8
    by_cases hq : 4096 < Nat.lcm A.P B.P
    · have HZZ := Lib.hid hq
      clear hq
      go_wp2_with (go_at_call 31; refine (refjoin_any HK.out.2.2 HSB.out.1 HSB.out.2.1 HSB.out.2.2.1 HSB.out.2.2.2).mono ?_; rintro e w1 hr; obtain ⟨rfl, hk1⟩ := hr.no HZZ.out; clear hr; obtain ⟨z0, z1, z2⟩ := (HK.out.1.keep hk1 id).three; have f0 := (HK.out.1.keep hk1 id).frozen 0; have f1 := (HK.out.1.keep hk1 id).frozen 1; have f2 := (HK.out.1.keep hk1 id).frozen 2; have H1 := Lib.hid (And.intro (HK.out.1.keep hk1 id) (And.intro (HK.out.2.1.trans hk1) trivial)); clear hk1)
      obtain ⟨k0, k1, k2⟩ := (H1.out.1.triple (u' := .int .i64 0) (v' := .slice none 0 0) (x' := .slice none 0 0)).three
      exact bodyPost_ret (v := .tuple #[.agg #[.int .i64 0, .slice none 0 0, .slice none 0 0], .int .i64 180]) (by simp [results, Tryz.results9, go_sem, k0, k1, k2]) rfl (rdo_no (HD.out.trans (by simp [HK8.out, HZZ.out])) (by decide) (by omega) H1.out.2.1)
    · have HZZ := Lib.hid hq
      clear hq
      go_wp2_with (go_at_call 31; refine (refjoin_any HK.out.2.2 HSB.out.1 HSB.out.2.1 HSB.out.2.2.1 HSB.out.2.2.2).mono ?_; rintro e w1 hr; obtain ⟨ac9, nc9, cc9, ar9, nr9, cr9, rfl, hsv, hk1⟩ := hr.yes HZZ.out; clear hr; obtain ⟨z0, z1, z2⟩ := (HK.out.1.keep hk1 id).three; have f0 := (HK.out.1.keep hk1 id).frozen 0; have f1 := (HK.out.1.keep hk1 id).frozen 1; have f2 := (HK.out.1.keep hk1 id).frozen 2; have H1 := Lib.hid (And.intro (HK.out.1.keep hk1 id) (And.intro (HK.out.2.1.trans hk1) hsv)); clear hk1; clear hsv)
      obtain ⟨k0, k1, k2⟩ := (H1.out.1.triple (u' := .int .i64 ((Rid.joined (fun x y => x || y) A B).P : Int)) (v' := .slice ac9 nc9 cc9) (x' := .slice ar9 nr9 cr9)).three
      exact bodyPost_ret (v := .tuple #[.agg #[.int .i64 ((Rid.joined (fun x y => x || y) A B).P : Int), .slice ac9 nc9 cc9, .slice ar9 nr9 cr9], .int .i64 0]) (by simp [results, Tryz.results9, go_sem, k0, k1, k2]) rfl (rdo_yes (HD.out.trans (by simp [HK8.out, HZZ.out])) (by omega) H1.out.2.1 H1.out.2.2)
end Go.Proofs.YtfkclbhddiidbaaGreat
