/- What is made does not hang on how many writes the map has seen: plain laws. No condition. -/
/- What is built, let go and built again: plain laws. No condition but the recipes' size. -/
import Derived.Test.YtnheefnlcnkefaaGreatDoorKLOnces
namespace Go.Rid
structure SameA (A B : ArenaV) : Prop where
 nodes : A.nodes = B.nodes
 free : A.free = B.free
 plain : A.plain = B.plain
theorem SameA.add {A B : ArenaV} (h : SameA A B) (N : NodeV) : SameA (addA A N) (addA B N) := by
 have h1 : freeRaw A N = freeRaw B N := by unfold freeRaw; rw [h.free]
 have h2 : freeOf A N = freeOf B N := by unfold freeOf; rw [h1]
 have h3 : ∀ j, plainUp A N j = plainUp B N j := fun j => by unfold plainUp; rw [h.plain]
 have h4 : plainOf A N = plainOf B N := by unfold plainOf; rw [h3]
 exact ⟨by simp only [addA, h.nodes], by simp only [addA, h.free, h2], by simp only [addA, h.plain, h4]⟩
end Go.Rid
namespace Go.Proofs.YtnheefnlcnkefaaGreatDoor
open Go.Rid
def SameR (r q : (Int × Int) × ArenaV × (Int × Int)) : Prop := r.1 = q.1 ∧ SameA r.2.1 q.2.1 ∧ r.2.2 = q.2.2
theorem madeM_same {A B : ArenaV} (h : SameA A B) (nodes limbs sp ov : Int) (N : NodeV) (xs : List (Bool × List Nat)) : SameR (madeM A nodes limbs sp ov N xs) (madeM B nodes limbs sp ov N xs) := by
 unfold madeM
 rw [h.nodes]
 cases keyF B.nodes (keyTxt N) with
 | some i => exact ⟨rfl, h, rfl⟩
 | none =>
  simp only []
  split
  ·exact ⟨rfl, h.add N, rfl⟩
  ·exact ⟨rfl, h, rfl⟩
theorem hasK_same {A B : ArenaV} (h : SameA A B) : hasK A = hasK B := by funext k; unfold hasK; rw [h.nodes]
theorem joinM_same {A B : ArenaV} (h : SameA A B) (nodes limbs sp ov kind : Int) (ks : List Int) : SameR (joinM A nodes limbs sp ov kind ks) (joinM B nodes limbs sp ov kind ks) := by
 unfold joinM
 rw [hasK_same h]
 split
 ·exact ⟨rfl, h, rfl⟩
 split
 ·exact ⟨rfl, h, rfl⟩
 split
 ·exact ⟨rfl, h, rfl⟩
 split
 ·exact madeM_same h ..
 ·exact ⟨rfl, h, rfl⟩
theorem bindM_same {A B : ArenaV} (h : SameA A B) (nodes limbs sp ov kind v k : Int) : SameR (bindM A nodes limbs sp ov kind v k) (bindM B nodes limbs sp ov kind v k) := by
 unfold bindM
 rw [hasK_same h]
 split
 ·exact ⟨rfl, h, rfl⟩
 split
 ·exact ⟨rfl, h, rfl⟩
 ·exact madeM_same h ..
theorem atomM_same {A B : ArenaV} (h : SameA A B) (nodes limbs sp ov : Int) (X : AtomV) : SameR (atomM A nodes limbs sp ov X) (atomM B nodes limbs sp ov X) := by
 unfold atomM atomR
 split
 ·exact ⟨rfl, h, rfl⟩
 split
 ·exact ⟨rfl, h, rfl⟩
 ·exact madeM_same h ..
theorem stepR_same {A B : ArenaV} (h : SameA A B) (nodes limbs sp ov : Int) (ids : List Int) (m : MakeV) : SameR (stepR A nodes limbs sp ov ids m) (stepR B nodes limbs sp ov ids m) := by
 unfold stepR
 split
 ·exact atomM_same h ..
 split
 ·exact joinM_same h ..
 split
 ·exact joinM_same h ..
 split
 ·exact bindM_same h ..
 ·exact bindM_same h ..
theorem buildM_same {nodes limbs : Int} : ∀ {l : List MakeV} {A B : ArenaV} {sp ov : Int} {ids : List Int}, SameA A B → (buildM nodes limbs ⟨A, sp, ov, ids⟩ l).ids = (buildM nodes limbs ⟨B, sp, ov, ids⟩ l).ids ∧ SameA (buildM nodes limbs ⟨A, sp, ov, ids⟩ l).A (buildM nodes limbs ⟨B, sp, ov, ids⟩ l).A ∧ (buildM nodes limbs ⟨A, sp, ov, ids⟩ l).sp = (buildM nodes limbs ⟨B, sp, ov, ids⟩ l).sp ∧ (buildM nodes limbs ⟨A, sp, ov, ids⟩ l).ov = (buildM nodes limbs ⟨B, sp, ov, ids⟩ l).ov
 | [], _, _, _, _, _, h => ⟨rfl, h, rfl, rfl⟩
 | m :: l, A, B, sp, ov, ids, h => by
  obtain ⟨q1, q2, q3⟩ := stepR_same h nodes limbs sp ov ids m
  show (buildM nodes limbs (putR (stepR A nodes limbs sp ov ids m) ids) l).ids = (buildM nodes limbs (putR (stepR B nodes limbs sp ov ids m) ids) l).ids ∧ SameA (buildM nodes limbs (putR (stepR A nodes limbs sp ov ids m) ids) l).A (buildM nodes limbs (putR (stepR B nodes limbs sp ov ids m) ids) l).A ∧ (buildM nodes limbs (putR (stepR A nodes limbs sp ov ids m) ids) l).sp = (buildM nodes limbs (putR (stepR B nodes limbs sp ov ids m) ids) l).sp ∧ (buildM nodes limbs (putR (stepR A nodes limbs sp ov ids m) ids) l).ov = (buildM nodes limbs (putR (stepR B nodes limbs sp ov ids m) ids) l).ov
  unfold putR
  rw [q1, q3]
  exact buildM_same q2
end Go.Proofs.YtnheefnlcnkefaaGreatDoor

namespace Go.Rid
theorem take_getD_form {A : ArenaV} {n : Nat} (hn : n ≤ A.nodes.length) {i : Nat} (hi : i < (relA A n).nodes.length) : i < n ∧ i < A.nodes.length ∧ (relA A n).nodes.getD i zeroN = A.nodes.getD i zeroN := by
 have h1 : (relA A n).nodes.length = n := by simp [relA]; omega
 rw [h1] at hi
 exact ⟨hi, by omega, getD_take _ _ _ _ hi⟩
theorem OnceA.rel {A : ArenaV} (h : OnceA A) {n : Nat} (h2 : 2 ≤ n) (hn : n ≤ A.nodes.length) : OnceA (relA A n) := by
 refine ⟨by simp [relA]; omega, fun i hi2 hi => ?_, fun i j hi2 hij hj => ?_⟩
 ·obtain ⟨_, q2, q3⟩ := take_getD_form hn hi
  rw [q3]; exact h.form i hi2 q2
 ·obtain ⟨q1, q2, q3⟩ := take_getD_form hn hj
  obtain ⟨_, _, p3⟩ := take_getD_form hn (show i < (relA A n).nodes.length by omega)
  rw [q3, p3]; exact h.one i j hi2 hij q2
theorem InvA.rel {V : List Int} {nodes sp : Int} {A : ArenaV} (h : InvA V nodes A sp) {n : Nat} (h2 : 2 ≤ n) (hn : n ≤ A.nodes.length) : InvA V nodes (relA A n) sp := by
 have hlf := h.lf
 have hlp := h.lp
 refine ⟨h.once.rel h2 hn, by simp [relA]; omega, by simp [relA]; omega, by have := h.used; simp [relA]; omega, h.cnt, h.spn, fun i hi => ?_, fun i hi => ?_⟩
 ·obtain ⟨q1, q2, _⟩ := take_getD_form hn hi
  rw [show (relA A n).free = A.free.take n from rfl, getD_take _ _ _ _ q1]
  exact h.free i q2
 ·obtain ⟨q1, q2, q3⟩ := take_getD_form hn hi
  rw [q3]; exact h.kids i q2
def ExtA (A F : ArenaV) : Prop := ∃ t u v, F.nodes = A.nodes ++ t ∧ F.free = A.free ++ u ∧ F.plain = A.plain ++ v
theorem ExtA.refl (A : ArenaV) : ExtA A A := ⟨[], [], [], by simp, by simp, by simp⟩
theorem ExtA.trans {A B C : ArenaV} (h : ExtA A B) (k : ExtA B C) : ExtA A C := by
 obtain ⟨t, u, v, h1, h2, h3⟩ := h
 obtain ⟨t', u', v', k1, k2, k3⟩ := k
 exact ⟨t ++ t', u ++ u', v ++ v', by rw [k1, h1, List.append_assoc], by rw [k2, h2, List.append_assoc], by rw [k3, h3, List.append_assoc]⟩
theorem ExtA.rel {A F : ArenaV} (h : ExtA A F) (hf : A.free.length = A.nodes.length) (hp : A.plain.length = A.nodes.length) : SameA A (relA F A.nodes.length) := by
 obtain ⟨t, u, v, h1, h2, h3⟩ := h
 refine ⟨?_, ?_, ?_⟩
 ·simp only [relA]; rw [h1, List.take_left]
 ·simp only [relA]; rw [h2, ← hf, List.take_left]
 ·simp only [relA]; rw [h3, ← hp, List.take_left]
end Go.Rid
namespace Go.Proofs.YtnheefnlcnkefaaGreatDoor
open Go.Rid
theorem madeM_extA {A : ArenaV} {nodes limbs sp ov : Int} {N : NodeV} {xs : List (Bool × List Nat)} : ExtA A (madeM A nodes limbs sp ov N xs).2.1 := by
 unfold madeM
 cases keyF A.nodes (keyTxt N) with
 | some i => exact ExtA.refl A
 | none =>
  simp only []
  split
  ·exact ⟨[N], [freeOf A N], [plainOf A N], rfl, rfl, rfl⟩
  ·exact ExtA.refl A
theorem joinM_extA {A : ArenaV} {nodes limbs sp ov kind : Int} {ks : List Int} : ExtA A (joinM A nodes limbs sp ov kind ks).2.1 := by
 unfold joinM
 split
 ·exact ExtA.refl A
 split
 ·exact ExtA.refl A
 split
 ·exact ExtA.refl A
 split
 ·exact madeM_extA
 ·exact ExtA.refl A
theorem bindM_extA {A : ArenaV} {nodes limbs sp ov kind v k : Int} : ExtA A (bindM A nodes limbs sp ov kind v k).2.1 := by
 unfold bindM
 split
 ·exact ExtA.refl A
 split
 ·exact ExtA.refl A
 ·exact madeM_extA
theorem atomM_extA {A : ArenaV} {nodes limbs sp ov : Int} {X : AtomV} : ExtA A (atomM A nodes limbs sp ov X).2.1 := by
 unfold atomM atomR
 split
 ·exact ExtA.refl A
 split
 ·exact ExtA.refl A
 ·exact madeM_extA
theorem stepR_extA {A : ArenaV} {nodes limbs sp ov : Int} {ids : List Int} {m : MakeV} : ExtA A (stepR A nodes limbs sp ov ids m).2.1 := by
 unfold stepR
 split
 ·exact atomM_extA
 split
 ·exact joinM_extA
 split
 ·exact joinM_extA
 split
 ·exact bindM_extA
 ·exact bindM_extA
theorem buildM_extA {nodes limbs : Int} : ∀ {l : List MakeV} {s : St}, ExtA s.A (buildM nodes limbs s l).A
 | [], s => ExtA.refl _
 | m :: l, s => (stepR_extA (A := s.A) (nodes := nodes) (limbs := limbs) (sp := s.sp) (ov := s.ov) (ids := s.ids) (m := m)).trans (buildM_extA (nodes := nodes) (limbs := limbs) (l := l) (s := stepB nodes limbs s m))
theorem lets_law {V : List Int} {l l2 : List MakeV} {s1 s2 s4 : St} (hX : ∀ m ∈ l, SmallX V m.x) (hX2 : ∀ m ∈ l2, SmallX V m.x) (e1 : s1 = buildM 2000 8 ⟨startA, 0, 0, [0, 1]⟩ l) (e2 : s2 = buildM 2000 8 ⟨s1.A, s1.sp, s1.ov, [0, 1]⟩ l2) (e4 : s4 = buildM 2000 8 ⟨relA s2.A s1.A.nodes.length, s2.sp, s2.ov, [0, 1]⟩ l2) (ho : s4.ov = 0) : s4.ids = s2.ids ∧ s4.A.nodes.length = s2.A.nodes.length := by
 have i0 : InvA V 2000 startA 0 := InvA.start (by decide) (by decide)
 have j1 := (InvS.start (ov := 0) i0).build (limbs := 8) hX
 rw [← e1] at j1
 have j1s := InvS.start (ov := s1.ov) j1.inv
 have j2 := j1s.build (limbs := 8) hX2
 have c2 := buildM_counts (limbs := 8) j1s hX2
 rw [← e2] at j2 c2
 have hn2 : s1.A.nodes.length ≤ s2.A.nodes.length := by have := c2.1; have := c2.2.1; simp only at *; omega
 have hsp : s1.sp ≤ s2.sp := c2.1
 have i3 := j2.inv.rel j1.inv.once.two hn2
 have j3s := InvS.start (ov := s2.ov) i3
 have c4 := buildM_counts (limbs := 8) j3s hX2
 rw [← e4] at c4
 have ho2 : s2.ov = 0 := Decidable.byContradiction fun h => h ((c4.2.2 h).1.symm.trans ho)
 have ho1 : s1.ov = 0 := Decidable.byContradiction fun h => h ((c2.2.2 h).1.symm.trans ho2)
 have hx : ExtA s1.A s2.A := by rw [e2]; exact buildM_extA (s := ⟨s1.A, s1.sp, s1.ov, [0, 1]⟩)
 have hs := hx.rel j1.inv.lf j1.inv.lp
 obtain ⟨b1, b2, b3, b4⟩ := buildM_same (nodes := 2000) (limbs := 8) (l := l2) (sp := s2.sp) (ov := s2.ov) (ids := [0, 1]) hs
 rw [← e4] at b1 b2 b3 b4
 have jm := InvS.start (ov := s2.ov) (j1.inv.mono hsp j2.inv.spn)
 have hle := buildM_less (limbs := 8) (sp2 := s1.sp) jm hX2 (by rw [b4]; exact ho) hsp
 simp only at hle
 rw [ho1, hle] at e2
 rw [e2]
 simp only
 exact ⟨b1.symm, by rw [b2.nodes]⟩
end Go.Proofs.YtnheefnlcnkefaaGreatDoor
