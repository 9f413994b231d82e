/- What the recipes' Ints does: are two lists of numbers the same? Conditions: the lists read. -/
/- Two arenas of one meter: the plain law; what a recipe that was read is like. No condition but room. -/
/- New arenas, as the laws make them. No condition. -/
import Derived.Test.YtnheefnlcnkefaaGreatDoorKLBuilt
namespace Go.Proofs.YtnheefnlcnkefaaGreatDoor
open Go.RowKit Go.Rid
theorem list_eq_getD {l m : List Int} (h : l.length = m.length) (h2 : ∀ i, i < l.length → l.getD i 0 = m.getD i 0) : l = m := by
 refine List.ext_getElem h fun i h3 h4 => ?_
 have := h2 i h3
 simpa [List.getD, h3, h4] using this
set_option maxHeartbeats 2000000 in
set_option maxRecDepth 100000 in
theorem ints8_any {M1 M2 : Nat → Prop} {w : World} {a b : Option Addr} {n c n2 c2 : Nat} {l m : List Int} (h : NumsAt M1 w a n c l) (h2 : NumsAt M2 w b n2 c2 m) :
  Calls Tryz.prog 15 #[.slice a n c, .slice b n2 c2] w fun e w' => e = .returned (.bool (decide (l = m))) ∧ Keeps Nil w w' := by
 have hl : l.length = n := SlOf.len h
 have hm : m.length = n2 := SlOf.len h2
 have hcap := SlOf.cap h
 have hle := SlOf.le h
 have hcap2 := SlOf.cap h2
 have hle2 := SlOf.le h2
 have HA := Lib.hid (aI h (aI h2 (aI hl hm)))
 clear h h2 hl hm
 by_cases hn : n = n2
 ·have e0 : ((n : Int) != (n2 : Int)) = false := by simp; omega
  have HN := Lib.hid hn
  clear hn
  go_enter Tryz.func15, Tryz.ntmps15
  go_wp2_with fail
  go_loopw [5] (fun i wr => ∃ j : Nat, j ≤ n ∧ i = .int .i64 (j : Int) ∧ (∀ k, k < j → l.getD k 0 = m.getD k 0) ∧ Keeps Nil w wr) (fun i _ => n - (intOf i).toNat)
  case atStart => exact ⟨0, Nat.zero_le _, rfl, fun k hk => by omega, Keeps.refl _ _⟩
  case round =>
   obtain ⟨j, hj, rfl, hall, hkr⟩ := hrel
   by_cases hlt : j < n
   ·obtain ⟨b1, o1, rfl, x1⟩ := numsAt_cell (HA.out.1.keepNil hkr) hlt
    obtain ⟨b2, o2, rfl, x2⟩ := numsAt_cell (HA.out.2.1.keepNil hkr) (show j < n2 by rw [← HN.out]; exact hlt)
    have j0 : (0 : Int) ≤ (j : Int) := by omega
    have j1 : (j : Int) < (n : Int) := by omega
    have j2 : (j : Int) < (n2 : Int) := by have := HN.out; omega
    obtain ⟨x, hx⟩ : ∃ x, x = l.getD j 0 := ⟨_, rfl⟩
    obtain ⟨y, hy⟩ : ∃ y, y = m.getD j 0 := ⟨_, rfl⟩
    rw [← hx] at x1
    rw [← hy] at x2
    have HC := Lib.hid (aI hall (aI hkr (aI hx hy)))
    clear hall hkr hx hy
    by_cases hxy : x = y
    ·have e1 : (x != y) = false := by simpa using hxy
     have HXY := Lib.hid hxy
     clear hxy
     go_upto_region 6 with (fail)
     go_quiet (fail)
     go_wp2_with fail
     go_roundw
     case rel =>
      refine ⟨j + 1, by omega, by go_num, fun k hk => ?_, HC.out.2.1.trans kOf⟩
      rcases Nat.lt_succ_iff_lt_or_eq.1 hk with h | rfl
      ·exact HC.out.1 k h
      ·rw [← HC.out.2.2.1, ← HC.out.2.2.2]; exact HXY.out
     case measure => simp [intOf]; omega
    ·have e1 : (x != y) = true := by simpa using hxy
     have HXY := Lib.hid hxy
     clear hxy
     go_upto_region 6 with (fail)
     go_quiet (fail)
     go_wp2_with fail
     go_ret
     refine ⟨?_, HC.out.2.1.trans kOf⟩
     rw [decide_eq_false fun e => HXY.out (by rw [HC.out.2.2.1, HC.out.2.2.2, e])]; exact rfl
   ·have e : l = m := list_eq_getD (by have := HA.out.2.2; have := HN.out; omega) fun i hi => hall i (by have := HA.out.2.2.1; omega)
    have HE := Lib.hid (aI e hkr)
    clear e hall hkr
    have j1 : j = n := by omega
    subst j1
    go_wp2_with fail
    go_ret
    refine ⟨?_, HE.out.2⟩
    rw [decide_eq_true HE.out.1]; exact rfl
 ·have e0 : ((n : Int) != (n2 : Int)) = true := by simp; omega
  have HN := Lib.hid hn
  clear hn
  go_enter Tryz.func15, Tryz.ntmps15
  go_wp2_with fail
  go_ret
  refine ⟨?_, kOf⟩
  rw [decide_eq_false fun e => HN.out (by rw [← HA.out.2.2.1, ← HA.out.2.2.2, e])]; exact rfl
end Go.Proofs.YtnheefnlcnkefaaGreatDoor

namespace Go.Rid
open Go.RowKit
theorem mem_varsM {l : List MakeV} {m : MakeV} (hm : m ∈ l) {p : Int × Int} (hp : p ∈ m.x.t.parts) : p.1 ∈ varsM l := by
 unfold varsM
 exact List.mem_append.2 (.inl (List.mem_flatMap.2 ⟨m, hm, List.mem_map.2 ⟨p, hp, rfl⟩⟩))
theorem length_varsM {l : List MakeV} {m : MakeV} (hm : m ∈ l) : m.x.t.parts.length ≤ (varsM l).length := by
 unfold varsM
 induction l with
 | nil => cases hm
 | cons x l ih =>
  simp only [List.flatMap_cons, List.length_append, List.length_map] at ih ⊢
  rcases List.mem_cons.1 hm with rfl | h
  ·omega
  ·have := ih h; omega
theorem MakesAt.small {M : Nat → Prop} {w : World} {a : Option Addr} {n c : Nat} {l : List MakeV} {V : List Int} (h : MakesAt M w a n c l) (hV : ∀ v ∈ varsM l, v ∈ V) (hl : (varsM l).length ≤ 262144) : (∀ m ∈ l, Go.Proofs.YtnheefnlcnkefaaGreatDoor.SmallX V m.x) ∧ ∀ v ∈ varsM l, I64 v := by
 have key : ∀ m ∈ l, (∀ p ∈ m.x.t.parts, Go.Proofs.YtnheefnlcnkefaaGreatDoor.BPart p) ∧ nlen m.x.t.k.natAbs ≤ 1048576 ∧ nlen m.x.d.natAbs ≤ 1048576 := fun m hm => by
  obtain ⟨i, hi, rfl⟩ := List.getElem_of_mem hm
  obtain ⟨b, off, gd, gk, ad, ap, ak, aq, nd, cd, np, cp, nk, ck, nq, cq, -, -, -, -, hmk⟩ := h.at (i := i) (by have := SlOf.len h; omega)
  have e : l.getD i zeroM = l[i] := by simp [List.getD, hi]
  rw [e] at hmk
  exact ⟨hmk.2.2.2.2.2.1, Nat.le_trans (Go.Proofs.YtnheefnlcnkefaaGreatDoor.zat_nlen hmk.2.2.1) hmk.2.2.2.2.1, Nat.le_trans (Go.Proofs.YtnheefnlcnkefaaGreatDoor.zat_nlen hmk.1) hmk.2.2.2.1⟩
 refine ⟨fun m hm => ?_, fun v hv => ?_⟩
 ·obtain ⟨k1, k2, k3⟩ := key m hm
  exact ⟨⟨Nat.le_trans (length_varsM hm) hl, fun p hp => (k1 p hp).1, k2, fun p hp => hV _ (mem_varsM hm hp)⟩, k3⟩
 ·unfold varsM at hv
  rcases List.mem_append.1 hv with hv | hv
  ·obtain ⟨m, hm, hv⟩ := List.mem_flatMap.1 hv
   obtain ⟨p, hp, rfl⟩ := List.mem_map.1 hv
   exact ((key m hm).1 p hp).2
  ·simp at hv
   unfold I64
   omega
end Go.Rid
namespace Go.Proofs.YtnheefnlcnkefaaGreatDoor
open Go.Rid
end Go.Proofs.YtnheefnlcnkefaaGreatDoor

namespace Go.Proofs.YtnheefnlcnkefaaGreatDoor
open Go.RowKit Go.Rid
theorem new_own {w : World} : Calls Tryz.prog 11 #[.pointer none] w fun e w' => ∃ (g gm : Nat) (O : Nat → Prop), e = .returned (.pointer (some ⟨g, 0, none⟩)) ∧ ArenaIn O w' g gm startA ∧ (∀ b, O b → w.heap.size ≤ b) ∧ w.heap.size ≤ gm ∧ MeterAt (fun b => b < w.heap.size ∨ O b) w' gm 2000 8 0 0 ∧ Keeps Nil w w' := by
 refine (anew_nil (M := Old w) (MB.old w)).mono ?_
 rintro e w1 ⟨g, b2, b3, b4, b5, gm, hm, hgm, rfl, r0, r2, r3, r4, r5, hk, h1, h2, h3, h4, h5⟩
 have hng : ¬ (Old w gm ∨ gm = g ∨ gm = b2 ∨ gm = b3 ∨ gm = b4 ∨ gm = b5) := by obtain ⟨s, -, -, -, hng, -⟩ := hm; exact hng
 refine ⟨g, gm, fun b => b = g ∨ b = b2 ∨ b = b3 ∨ b = b4 ∨ b = b5, rfl, ⟨w.heap.size, _, _, _, _, _, _, ArenaW.start r0 r2 r3 r4 r5 h1 h2 h3 h4 h5 ⟨fun e => hng (.inr (.inl e)), fun e => hng (.inr (.inr (.inl e))), fun e => hng (.inr (.inr (.inr (.inl e)))), fun e => hng (.inr (.inr (.inr (.inr (.inl e))))), fun e => hng (.inr (.inr (.inr (.inr (.inr e)))))⟩⟩, fun b hb => ?_, hgm, hm, hk⟩
 rcases hb with rfl | rfl | rfl | rfl | rfl <;> assumption
theorem nums_of_own {w : World} {B n c : Nat} {a : Option Addr} {l : List Int} (h : OwnEls w B 3 1 (.slice a n c) (cells1 l)) : NumsAt Nil w a n c l := by
 have hn : n = l.length := by
  have := h.isSlice
  obtain ⟨a', c', e⟩ := this
  rw [length_cells1] at e
  have e2 : a = a' ∧ n = l.length ∧ c = c' := by simpa using e
  exact e2.2.1
 obtain ⟨a', c', e, h'⟩ := OwnEls.sl (M := Nil) (R := RI) (d := 0) (xs := l) h (fun _ _ h => h) (by rw [length_cells1]) (fun i hi => by rw [length_cells1] at hi; simp [RI, cells1, List.getD, hi])
 rw [length_cells1] at e h'
 have e2 : a = a' ∧ n = l.length ∧ c = c' := by simpa using e
 obtain ⟨rfl, rfl, rfl⟩ := e2
 exact h'
end Go.Proofs.YtnheefnlcnkefaaGreatDoor
