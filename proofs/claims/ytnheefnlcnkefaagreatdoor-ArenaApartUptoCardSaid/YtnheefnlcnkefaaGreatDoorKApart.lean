/- What the law ArenaApart does: it answers true. Conditions: the library's table; the recipes' own reading and bulk. -/
import Derived.Test.YtnheefnlcnkefaaGreatDoorKAparts
import Derived.Test.YtnheefnlcnkefaaGreatDoorKAwakes
namespace Go.Proofs.YtnheefnlcnkefaaGreatDoor
open Go.RowKit Go.Rid
set_option maxHeartbeats 4000000 in
set_option maxRecDepth 100000 in
theorem arenaApart_walk {w : World} {a1 a2 : Option Addr} {n1 n2 c1 c2 k1 k2 : Nat} {l l2 : List MakeV} (hT : Tab w.heap.size w) (h1 : MakesAt Nil w a1 n1 c1 l ∧ 5 * (varsM l).length + l.length ≤ k1 + 20) (h2 : MakesAt Nil w a2 n2 c2 l2 ∧ 5 * (varsM l2).length + l2.length ≤ k2 + 20) (hb : k1 + k2 ≤ 1048576) :
  Calls Tryz.prog 3 #[.slice a1 n1 c1, .slice a2 n2 c2] w fun e w' => e = .returned (.bool true) ∧ Keeps Nil w w' := by
 obtain ⟨V, hV⟩ : ∃ V, V = varsM l ++ varsM l2 := ⟨_, rfl⟩
 have hVl : V.length ≤ 262144 := by rw [hV, List.length_append]; omega
 have sm1 := h1.1.small (V := V) (fun v hv => by rw [hV]; exact List.mem_append.2 (.inl hv)) (by omega)
 have sm2 := h2.1.small (V := V) (fun v hv => by rw [hV]; exact List.mem_append.2 (.inr hv)) (by omega)
 have hVi : ∀ v ∈ V, I64 v := fun v hv => by rw [hV] at hv; exact (List.mem_append.1 hv).elim (sm1.2 v) (sm2.2 v)
 have hX1 : ∀ m ∈ l.take 40, SmallX V m.x := fun m hm => sm1.1 m (List.mem_of_mem_take hm)
 have hX2 : ∀ m ∈ l2.take 40, SmallX V m.x := fun m hm => sm2.1 m (List.mem_of_mem_take hm)
 have m1 : MakesAt (fun b => w.heap.size ≤ b) w a1 n1 c1 l := h1.1.move (Keeps.refl Nil w) (fun _ _ h => h.elim) fun b hb hx => by omega
 have m2 : MakesAt (fun b => w.heap.size ≤ b) w a2 n2 c2 l2 := h2.1.move (Keeps.refl Nil w) (fun _ _ h => h.elim) fun b hb hx => by omega
 obtain ⟨s1, e1⟩ : ∃ s1, s1 = buildM 2000 8 ⟨startA, 0, 0, [0, 1]⟩ (l.take 40) := ⟨_, rfl⟩
 obtain ⟨s2, e2⟩ : ∃ s2, s2 = buildM 2000 8 ⟨startA, s1.sp, s1.ov, [0, 1]⟩ (l2.take 40) := ⟨_, rfl⟩
 obtain ⟨t2, e3⟩ : ∃ t2, t2 = buildM 2000 8 ⟨startA, 0, 0, [0, 1]⟩ (l2.take 40) := ⟨_, rfl⟩
 have hlaw := apart_law hX1 hX2 e1 e2 e3
 have i0 : InvA V 2000 startA 0 := InvA.start (by decide) (by decide)
 have j1 := (InvS.start (ov := 0) i0).build (limbs := 8) hX1
 rw [← e1] at j1
 have i1 : InvA V 2000 startA s1.sp := InvA.start j1.inv.sp0 j1.inv.spn
 have j2 := (InvS.start (ov := s1.ov) i1).build (limbs := 8) hX2
 rw [← e2] at j2
 have L1 : s1.A.nodes.length ≤ 2002 := by have h3 := j1.inv.used; have h4 := j1.inv.spn; omega
 have L2 : s2.A.nodes.length ≤ 2002 := by have h3 := j2.inv.used; have h4 := j2.inv.spn; omega
 have HV := Lib.hid (And.intro hVl (And.intro hVi (And.intro sm1.1 (And.intro sm2.1 (And.intro i0 i1)))))
 have HL := Lib.hid hlaw
 have HE := Lib.hid (And.intro e1 (And.intro e2 e3))
 have HM := Lib.hid (And.intro m1 m2)
 have HT := Lib.hid hT
 clear hV hVl hVi sm1 sm2 hX1 hX2 m1 m2 hlaw e1 e2 e3 i0 i1 j1 j2 h1 h2 hb hT
 go_enter Tryz.func3, Tryz.ntmps3
 go_upto_region 2 with (go_at_call 9; go_loud (refine (awake_any HT.out).mono ?_); rintro e w1 ⟨rfl, hk1⟩; have H1 := Lib.hid hk1; clear hk1)
 go_upto_region 3 with (go_at_call 10; refine (mnew_ok (M := Old w1) 2000 8 w1 (MB.old w1) (by decide) (by decide) (by decide) (by decide)).mono ?_; rintro e w2 ⟨gm, rfl, hm, hk2, hgm⟩; have hgm2 := hm.lt; have H2 := Lib.hid (And.intro hm (And.intro hk2 hgm)); clear hm hk2 hgm)
 go_upto_region 4 with (go_at_call 11; refine (new_in hgm2).mono ?_; rintro e w3 ⟨ga, Oa, rfl, hA, hO, hk⟩; have hgm3 := Nat.lt_of_lt_of_le hgm2 hk.size; have H3 := Lib.hid (And.intro hA (And.intro hO hk)); clear hA hO hk)
 go_upto_region 5 with (go_at_call 11; refine (new_in hgm3).mono ?_; rintro e w4 ⟨gb, Ob, rfl, hA, hO, hk⟩; have H4 := Lib.hid (And.intro hA (And.intro hO hk)); clear hA hO hk)
 go_upto_region 6 with (go_at_call 11; refine new_own.mono ?_; rintro e w5 ⟨g1, gm1, O1, rfl, hA, hO, hg, hm, hk⟩; have H5 := Lib.hid (And.intro hA (And.intro hO (And.intro hg (And.intro hm hk)))); clear hA hO hg hm hk)
 go_upto_region 7 with (go_at_call 11; refine new_own.mono ?_; rintro e w6 ⟨g2, gm2, O2, rfl, hA, hO, hg, hm, hk⟩; have H6 := Lib.hid (And.intro hA (And.intro hO (And.intro hg (And.intro hm hk)))); clear hA hO hg hm hk)
 have z1 := H1.out.size
 have z2 := H2.out.2.1.size
 have z3 := H3.out.2.2.size
 have z4 := H4.out.2.2.size
 have z5 := H5.out.2.2.2.2.size
 have z6 := H6.out.2.2.2.2.size
 have hgml : w1.heap.size ≤ gm := H2.out.2.2
 -- ages
 have oa1 : ∀ b, Oa b → w2.heap.size ≤ b ∧ b < w3.heap.size := fun b hb => ⟨H3.out.2.1 b hb, H3.out.1.lt b hb⟩
 have ob1 : ∀ b, Ob b → w3.heap.size ≤ b ∧ b < w4.heap.size := fun b hb => ⟨H4.out.2.1 b hb, H4.out.1.lt b hb⟩
 have o11 : ∀ b, O1 b → w4.heap.size ≤ b ∧ b < w5.heap.size := fun b hb => ⟨H5.out.2.1 b hb, H5.out.1.lt b hb⟩
 have o21 : ∀ b, O2 b → w5.heap.size ≤ b ∧ b < w6.heap.size := fun b hb => ⟨H6.out.2.1 b hb, H6.out.1.lt b hb⟩
 have gm11 : w4.heap.size ≤ gm1 ∧ gm1 < w5.heap.size := ⟨H5.out.2.2.1, H5.out.2.2.2.1.lt⟩
 have gm21 : w5.heap.size ≤ gm2 ∧ gm2 < w6.heap.size := ⟨H6.out.2.2.1, H6.out.2.2.2.1.lt⟩
 have k36 : Keeps Nil w3 w6 := H4.out.2.2.trans (H5.out.2.2.2.2.trans H6.out.2.2.2.2)
 have k46 : Keeps Nil w4 w6 := H5.out.2.2.2.2.trans H6.out.2.2.2.2
 have k06 : Keeps Nil w w6 := H1.out.trans (H2.out.2.1.trans (H3.out.2.2.trans k36))
 -- at the sixth world: the four arenas, the three meters
 have A6 : ArenaIn Oa w6 ga gm startA := H3.out.1.keep k36 fun _ h => h.elim
 have B6 : ArenaIn Ob w6 gb gm startA := H4.out.1.keep k46 fun _ h => h.elim
 have C6 : ArenaIn O1 w6 g1 gm1 startA := H5.out.1.keep H6.out.2.2.2.2 fun _ h => h.elim
 have D6 : ArenaIn O2 w6 g2 gm2 startA := H6.out.1
 have M6 : MeterAt (fun b => w2.heap.size ≤ b ∧ b < w6.heap.size) w6 gm 2000 8 0 0 := H2.out.1.move (H3.out.2.2.trans k36) (fun _ _ h => h.elim) fun b hb hx => by omega
 have P6 : MeterAt (fun b => b < w4.heap.size ∨ O1 b ∨ w5.heap.size ≤ b) w6 gm1 2000 8 0 0 := H5.out.2.2.2.1.move H6.out.2.2.2.2 (fun _ _ h => h.elim) fun b hb hx => by
  rcases hx with hx | hx | hx
  ·exact .inl hx
  ·exact .inr hx
  ·omega
 have Q6 : MeterAt (fun b => b < w5.heap.size ∨ O2 b ∨ w6.heap.size ≤ b) w6 gm2 2000 8 0 0 := H6.out.2.2.2.1.move (Keeps.refl Nil w6) (fun _ _ h => h.elim) fun b hb hx => by
  rcases hx with hx | hx | hx
  ·exact .inl hx
  ·exact .inr hx
  ·omega
 have HB6 := Lib.hid (And.intro A6 (And.intro B6 (And.intro C6 (And.intro D6 (And.intro M6 (And.intro P6 (And.intro Q6 k06)))))))
 clear A6 B6 C6 D6 M6 P6 Q6 k06 k36 k46
 have mk6 := HM.out.1.move HB6.out.2.2.2.2.2.2.2 (M2 := fun b => w.heap.size ≤ b) (fun _ _ h => h.elim) fun _ _ h => h
 have HK6 := Lib.hid mk6
 clear mk6
 go_upto_region 8 with (go_at_call 12; go_loud (refine (built_any (B0 := w.heap.size) (M0 := fun b => w2.heap.size ≤ b ∧ b < w6.heap.size) HB6.out.1 (HT.out.keepNil HB6.out.2.2.2.2.2.2.2) (fun b hb => by rcases hb with hb | hb; have := oa1 b hb; omega; omega) (fun b hb => by have := oa1 b hb; omega) (fun b hb => hb.2) HB6.out.2.2.2.2.1 HK6.out (fun b hb => by rcases hb with hb | hb; have := oa1 b hb; omega; omega) HV.out.2.2.2.2.1 (by decide) HV.out.1 HV.out.2.1 HV.out.2.2.1).mono ?_); rintro e w7 ⟨v7, Oa2, rfl, h7⟩; rw [← HE.out.1] at h7; obtain ⟨a7, d7, rfl⟩ := h7.own.isSlice; rw [length_cells1] at h7 ⊢; have H7 := Lib.hid h7; clear h7)
 have z7 := H7.out.keep.size
 have v7 : ∀ b, (Value.slice a7 s1.ids.length d7).ownBlock = some b → w6.heap.size ≤ b ∧ b < w7.heap.size := fun b hb => H7.out.own.lt b hb
 have t7 : ∀ b, Oa b ∨ b = gm → w.heap.size ≤ b ∧ b < w3.heap.size := fun b hb => by
  rcases hb with hb | hb
  ·have := oa1 b hb; omega
  ·omega
 have B7 := HB6.out.2.1.keep H7.out.keep fun b hb ho => by have h1 := ob1 b ho; have h2 := t7 b hb; omega
 have C7 := HB6.out.2.2.1.keep H7.out.keep fun b hb ho => by have h1 := o11 b ho; have h2 := t7 b hb; omega
 have D7 := HB6.out.2.2.2.1.keep H7.out.keep fun b hb ho => by have h1 := o21 b ho; have h2 := t7 b hb; omega
 have P7 := HB6.out.2.2.2.2.2.1.move H7.out.keep (M2 := fun b => b < w4.heap.size ∨ O1 b ∨ w5.heap.size ≤ b) (fun b _ hb => .inl (by have h2 := t7 b hb; omega)) fun _ _ h => h
 have Q7 := HB6.out.2.2.2.2.2.2.1.move H7.out.keep (M2 := fun b => b < w5.heap.size ∨ O2 b ∨ w6.heap.size ≤ b) (fun b _ hb => .inl (by have h2 := t7 b hb; omega)) fun _ _ h => h
 have k07 : Keeps Nil w w7 := HB6.out.2.2.2.2.2.2.2.trans' H7.out.keep fun b hb => .inr (t7 b hb).1
 have mk7 := (HM.out.2.move HB6.out.2.2.2.2.2.2.2 (M2 := fun b => w.heap.size ≤ b) (fun _ _ h => h.elim) fun _ _ h => h).move H7.out.keep (M2 := fun b => w.heap.size ≤ b) (fun b _ hb => (t7 b hb).1) fun _ _ h => h
 have HB7 := Lib.hid (And.intro B7 (And.intro C7 (And.intro D7 (And.intro P7 (And.intro Q7 (And.intro k07 mk7))))))
 clear B7 C7 D7 P7 Q7 k07 mk7
 go_upto_region 9 with (go_at_call 12; go_loud (refine (built_any (B0 := w.heap.size) (M0 := fun b => (w2.heap.size ≤ b ∧ b < w6.heap.size) ∨ Oa2 b ∨ (Value.slice a7 s1.ids.length d7).ownBlock = some b) HB7.out.1 (HT.out.keepNil HB7.out.2.2.2.2.2.1) (fun b hb => by rcases hb with hb | hb; have := ob1 b hb; omega; omega) (fun b hb => by have := ob1 b hb; exact .inl (by omega)) (fun b hb => by rcases hb with hb | hb | hb; omega; exact H7.out.arena.lt b hb; exact (v7 b hb).2) H7.out.meter HB7.out.2.2.2.2.2.2 (fun b hb => by rcases hb with hb | hb; have := ob1 b hb; omega; omega) HV.out.2.2.2.2.2 (by decide) HV.out.1 HV.out.2.1 HV.out.2.2.2.1).mono ?_); rintro e w8 ⟨v8, Ob2, rfl, h8⟩; rw [← HE.out.2.1] at h8; obtain ⟨a8, d8, rfl⟩ := h8.own.isSlice; rw [length_cells1] at h8 ⊢; have H8 := Lib.hid h8; clear h8)
 have z8 := H8.out.keep.size
 have v8 : ∀ b, (Value.slice a8 s2.ids.length d8).ownBlock = some b → w7.heap.size ≤ b ∧ b < w8.heap.size := fun b hb => H8.out.own.lt b hb
 have t8 : ∀ b, Ob b ∨ b = gm → w.heap.size ≤ b ∧ b < w4.heap.size ∧ (w3.heap.size ≤ b ∨ b = gm) := fun b hb => by
  rcases hb with hb | hb
  ·have := ob1 b hb; omega
  ·omega
 have oa2 : ∀ b, Oa2 b → (w2.heap.size ≤ b ∧ b < w3.heap.size) ∨ w6.heap.size ≤ b := fun b hb => (H7.out.down b hb).imp (oa1 b) id
 have A8 := H7.out.arena.keep H8.out.keep fun b hb ho => by
  have h1 := oa2 b ho
  have h2 := t8 b hb
  rcases hb with hb | hb
  ·have := ob1 b hb; omega
  ·exact H7.out.arena.notM (hb ▸ ho)
 have V8 := H7.out.own.keep H8.out.keep fun b hb hm => by have h1 := v7 b hb; have h2 := t8 b hm; omega
 have C8 := HB7.out.2.1.keep H8.out.keep fun b hb ho => by have h1 := o11 b ho; have h2 := t8 b hb; omega
 have D8 := HB7.out.2.2.1.keep H8.out.keep fun b hb ho => by have h1 := o21 b ho; have h2 := t8 b hb; omega
 have P8 := HB7.out.2.2.2.1.move H8.out.keep (M2 := fun b => (b < w4.heap.size ∨ O1 b ∨ w5.heap.size ≤ b) ∧ b < w8.heap.size) (fun b _ hb => .inl (by have h2 := t8 b hb; omega)) fun _ _ h => h.1
 have Q8 := HB7.out.2.2.2.2.1.move H8.out.keep (M2 := fun b => b < w5.heap.size ∨ O2 b ∨ w6.heap.size ≤ b) (fun b _ hb => .inl (by have h2 := t8 b hb; omega)) fun _ _ h => h
 have k08 : Keeps Nil w w8 := HB7.out.2.2.2.2.2.1.trans' H8.out.keep fun b hb => .inr (t8 b hb).1
 have mk8 := (HK6.out.move H7.out.keep (M2 := fun b => w.heap.size ≤ b) (fun b _ hb => (t7 b hb).1) fun _ _ h => h).move H8.out.keep (M2 := fun b => w.heap.size ≤ b) (fun b _ hb => (t8 b hb).1) fun _ _ h => h
 have mk8b := HB7.out.2.2.2.2.2.2.move H8.out.keep (M2 := fun b => w.heap.size ≤ b) (fun b _ hb => (t8 b hb).1) fun _ _ h => h
 have HB8 := Lib.hid (And.intro A8 (And.intro V8 (And.intro C8 (And.intro D8 (And.intro P8 (And.intro Q8 (And.intro k08 (And.intro mk8 mk8b))))))))
 clear A8 V8 C8 D8 P8 Q8 k08 mk8 mk8b
 go_upto_region 10 with (go_at_call 12; go_loud (refine (built_any (B0 := w.heap.size) (M0 := fun b => (b < w4.heap.size ∨ O1 b ∨ w5.heap.size ≤ b) ∧ b < w8.heap.size) HB8.out.2.2.1 (HT.out.keepNil HB8.out.2.2.2.2.2.2.1) (fun b hb => by rcases hb with hb | hb; have := o11 b hb; omega; omega) (fun b hb => ⟨.inr (.inl hb), by have := o11 b hb; omega⟩) (fun b hb => hb.2) HB8.out.2.2.2.2.1 HB8.out.2.2.2.2.2.2.2.1 (fun b hb => by rcases hb with hb | hb; have := o11 b hb; omega; omega) HV.out.2.2.2.2.1 (by decide) HV.out.1 HV.out.2.1 HV.out.2.2.1).mono ?_); rintro e w9 ⟨v9, O12, rfl, h9⟩; rw [← HE.out.1] at h9; obtain ⟨a9, d9, rfl⟩ := h9.own.isSlice; rw [length_cells1] at h9 ⊢; have H9 := Lib.hid h9; clear h9)
 have z9 := H9.out.keep.size
 have v9 : ∀ b, (Value.slice a9 s1.ids.length d9).ownBlock = some b → w8.heap.size ≤ b ∧ b < w9.heap.size := fun b hb => H9.out.own.lt b hb
 have t9 : ∀ b, O1 b ∨ b = gm1 → w4.heap.size ≤ b ∧ b < w5.heap.size := fun b hb => by
  rcases hb with hb | hb
  ·exact o11 b hb
  ·omega
 have ob2 : ∀ b, Ob2 b → (w3.heap.size ≤ b ∧ b < w4.heap.size) ∨ w7.heap.size ≤ b := fun b hb => (H8.out.down b hb).imp (ob1 b) id
 have A9 := HB8.out.1.keep H9.out.keep fun b hb ho => by have h1 := oa2 b ho; have h2 := t9 b hb; omega
 have B9 := H8.out.arena.keep H9.out.keep fun b hb ho => by have h1 := ob2 b ho; have h2 := t9 b hb; omega
 have V9 := HB8.out.2.1.keep H9.out.keep fun b hb hm => by have h1 := v7 b hb; have h2 := t9 b hm; omega
 have U9 := H8.out.own.keep H9.out.keep fun b hb hm => by have h1 := v8 b hb; have h2 := t9 b hm; omega
 have M9 := H8.out.meter.move H9.out.keep (M2 := fun b => w2.heap.size ≤ b ∧ b < w6.heap.size) (fun b _ hb => .inl (.inl (by have h2 := t9 b hb; omega))) fun _ _ h => .inl (.inl h)
 have D9 := HB8.out.2.2.2.1.keep H9.out.keep fun b hb ho => by have h1 := o21 b ho; have h2 := t9 b hb; omega
 have Q9 := HB8.out.2.2.2.2.2.1.move H9.out.keep (M2 := fun b => (b < w5.heap.size ∨ O2 b ∨ w6.heap.size ≤ b) ∧ b < w9.heap.size) (fun b _ hb => .inl (by have h2 := t9 b hb; omega)) fun _ _ h => h.1
 have k09 : Keeps Nil w w9 := HB8.out.2.2.2.2.2.2.1.trans' H9.out.keep fun b hb => .inr (by have h2 := t9 b hb; omega)
 have mk9 := HB8.out.2.2.2.2.2.2.2.2.move H9.out.keep (M2 := fun b => w.heap.size ≤ b) (fun b _ hb => by have h2 := t9 b hb; omega) fun _ _ h => h
 have HB9 := Lib.hid (And.intro A9 (And.intro B9 (And.intro V9 (And.intro U9 (And.intro M9 (And.intro D9 (And.intro Q9 (And.intro k09 mk9))))))))
 clear A9 B9 V9 U9 M9 D9 Q9 k09 mk9
 go_upto_region 11 with (go_at_call 12; go_loud (refine (built_any (B0 := w.heap.size) (M0 := fun b => (b < w5.heap.size ∨ O2 b ∨ w6.heap.size ≤ b) ∧ b < w9.heap.size) HB9.out.2.2.2.2.2.1 (HT.out.keepNil HB9.out.2.2.2.2.2.2.2.1) (fun b hb => by rcases hb with hb | hb; have := o21 b hb; omega; omega) (fun b hb => ⟨.inr (.inl hb), by have := o21 b hb; omega⟩) (fun b hb => hb.2) HB9.out.2.2.2.2.2.2.1 HB9.out.2.2.2.2.2.2.2.2 (fun b hb => by rcases hb with hb | hb; have := o21 b hb; omega; omega) HV.out.2.2.2.2.1 (by decide) HV.out.1 HV.out.2.1 HV.out.2.2.2.1).mono ?_); rintro e w10 ⟨v10, O22, rfl, h10⟩; rw [← HE.out.2.2] at h10; obtain ⟨a10, d10, rfl⟩ := h10.own.isSlice; rw [length_cells1] at h10 ⊢; have H10 := Lib.hid h10; clear h10)
 have t10 : ∀ b, O2 b ∨ b = gm2 → w5.heap.size ≤ b ∧ b < w6.heap.size := fun b hb => by
  rcases hb with hb | hb
  ·exact o21 b hb
  ·omega
 have o12 : ∀ b, O12 b → (w4.heap.size ≤ b ∧ b < w5.heap.size) ∨ w8.heap.size ≤ b := fun b hb => (H9.out.down b hb).imp (o11 b) id
 have A10 := HB9.out.1.keep H10.out.keep fun b hb ho => by have h1 := oa2 b ho; have h2 := t10 b hb; omega
 have B10 := HB9.out.2.1.keep H10.out.keep fun b hb ho => by have h1 := ob2 b ho; have h2 := t10 b hb; omega
 have C10 := H9.out.arena.keep H10.out.keep fun b hb ho => by have h1 := o12 b ho; have h2 := t10 b hb; omega
 have V10 := HB9.out.2.2.1.keep H10.out.keep fun b hb hm => by have h1 := v7 b hb; have h2 := t10 b hm; omega
 have U10 := HB9.out.2.2.2.1.keep H10.out.keep fun b hb hm => by have h1 := v8 b hb; have h2 := t10 b hm; omega
 have W10 := H9.out.own.keep H10.out.keep fun b hb hm => by have h1 := v9 b hb; have h2 := t10 b hm; omega
 have M10 := HB9.out.2.2.2.2.1.move H10.out.keep (M2 := Nil) (fun b _ hb => by have h2 := t10 b hb; omega) fun _ _ h => h.elim
 have k010 : Keeps Nil w w10 := HB9.out.2.2.2.2.2.2.2.1.trans' H10.out.keep fun b hb => .inr (by have h2 := t10 b hb; omega)
 obtain ⟨_, _, _, _, _, ra⟩ := A10.box
 obtain ⟨_, _, _, _, _, rb⟩ := B10.box
 obtain ⟨_, _, _, _, _, rc⟩ := C10.box
 obtain ⟨_, _, _, _, _, rd⟩ := H10.out.arena.box
 have x1 := nums_of_own V10
 have x2 := nums_of_own U10
 have x3 := nums_of_own W10
 have x4 := nums_of_own H10.out.own
 have HF := Lib.hid (And.intro ra (And.intro rb (And.intro rc (And.intro rd (And.intro x1 (And.intro x2 (And.intro x3 (And.intro x4 (And.intro M10 k010)))))))))
 clear A10 B10 C10 V10 U10 W10 M10 k010 ra rb rc rd x1 x2 x3 x4 oa1 ob1 o11 o21 oa2 ob2 o12 t7 t8 t9 t10 v7 v8 v9
 obtain ⟨sp, hsp⟩ : ∃ sp, sp = s2.sp := ⟨_, rfl⟩
 obtain ⟨ov, hov⟩ : ∃ ov, ov = s2.ov := ⟨_, rfl⟩
 obtain ⟨p1, hp1⟩ : ∃ p1, p1 = s1.A.nodes.length := ⟨_, rfl⟩
 obtain ⟨p2, hp2⟩ : ∃ p2, p2 = s2.A.nodes.length := ⟨_, rfl⟩
 have HS := Lib.hid (And.intro hsp (And.intro hov (And.intro hp1 hp2)))
 rw [← hp1] at L1
 rw [← hp2] at L2
 have cS : ∀ wc, Keeps Nil w10 wc → Calls Tryz.prog 13 #[.pointer (some ⟨gm, 0, none⟩)] wc fun e w' => e = .returned (.int .i64 sp) ∧ Keeps Nil wc w' := fun wc k => by rw [hsp]; exact mspent_any (HF.out.2.2.2.2.2.2.2.2.1.keepNil k)
 have cO : ∀ wc, Keeps Nil w10 wc → Calls Tryz.prog 14 #[.pointer (some ⟨gm, 0, none⟩)] wc fun e w' => e = .returned (.int .i64 ov) ∧ Keeps Nil wc w' := fun wc k => by rw [hov]; exact mover_any (HF.out.2.2.2.2.2.2.2.2.1.keepNil k)
 have HC := Lib.hid (And.intro cS cO)
 clear cS cO hsp hov hp1 hp2
 have hcur : Keeps Nil w10 w10 := Keeps.refl _ _
 have hcur0 := Lib.hid hcur
 clear hcur
 go_upto_region 12 with (go_at_call 13; refine (HC.out.1 _ hcur0.out).mono ?_; rintro e wa ⟨rfl, hk⟩; have K1 := Lib.hid hk; clear hk)
 go_upto_region 13 with (go_at_call 14; refine (HC.out.2 _ K1.out).mono ?_; rintro e wb ⟨rfl, hk⟩; have K2 := Lib.hid (K1.out.trans hk); clear hk)
 by_cases ho : ov = 0
 ·have hlaw := HL.out (HS.out.2.1.symm.trans ho)
  have esum : (sp == (p1 : Int) + (p2 : Int) - 4) = true := by
   have h3 := hlaw.2.2
   rw [← HS.out.1, ← HS.out.2.2.1, ← HS.out.2.2.2] at h3
   simp [h3]
  have cX : ∀ wc, Keeps Nil w10 wc → Calls Tryz.prog 15 #[.slice a7 s1.ids.length d7, .slice a9 s1.ids.length d9] wc fun e w' => e = .returned (.bool true) ∧ Keeps Nil wc w' := fun wc k => by
   have := ints8_any (HF.out.2.2.2.2.1.keepNil k) (HF.out.2.2.2.2.2.2.1.keepNil k)
   rwa [decide_eq_true rfl] at this
  have cY : ∀ wc, Keeps Nil w10 wc → Calls Tryz.prog 15 #[.slice a8 s2.ids.length d8, .slice a10 t2.ids.length d10] wc fun e w' => e = .returned (.bool true) ∧ Keeps Nil wc w' := fun wc k => by
   have := ints8_any (HF.out.2.2.2.2.2.1.keepNil k) (HF.out.2.2.2.2.2.2.2.1.keepNil k)
   rwa [decide_eq_true hlaw.1.symm] at this
  have cA : ∀ wc, Keeps Nil w10 wc → Calls Tryz.prog 16 #[.pointer (some ⟨ga, 0, none⟩)] wc fun e w' => e = .returned (.int .i64 p1) ∧ Keeps Nil wc w' := fun wc k => by rw [HS.out.2.2.1]; exact alen_any (HF.out.1.keep k id)
  have cB : ∀ wc, Keeps Nil w10 wc → Calls Tryz.prog 16 #[.pointer (some ⟨gb, 0, none⟩)] wc fun e w' => e = .returned (.int .i64 p2) ∧ Keeps Nil wc w' := fun wc k => by rw [HS.out.2.2.2]; exact alen_any (HF.out.2.1.keep k id)
  have cC : ∀ wc, Keeps Nil w10 wc → Calls Tryz.prog 16 #[.pointer (some ⟨g1, 0, none⟩)] wc fun e w' => e = .returned (.int .i64 p1) ∧ Keeps Nil wc w' := fun wc k => by rw [HS.out.2.2.1]; exact alen_any (HF.out.2.2.1.keep k id)
  have cD : ∀ wc, Keeps Nil w10 wc → Calls Tryz.prog 16 #[.pointer (some ⟨g2, 0, none⟩)] wc fun e w' => e = .returned (.int .i64 p2) ∧ Keeps Nil wc w' := fun wc k => by rw [HS.out.2.2.2, ← hlaw.2.1]; exact alen_any (HF.out.2.2.2.1.keep k id)
  have HD := Lib.hid (And.intro cX (And.intro cY (And.intro cA (And.intro cB (And.intro cC cD)))))
  clear hlaw cX cY cA cB cC cD
  have q0 := Lib.hid K2.out
  subst ho
  go_wp2_with (first | (go_at_call 15; have hp := q0.out; refine (HD.out.1 _ hp).mono ?_; clear hp; rintro e wk1 ⟨rfl, hk⟩; have q1 := Lib.hid (q0.out.trans hk); clear hk q0) | (go_at_call 15; have hp := q1.out; refine (HD.out.2.1 _ hp).mono ?_; clear hp; rintro e wk2 ⟨rfl, hk⟩; have q2 := Lib.hid (q1.out.trans hk); clear hk q1) | (go_at_call 16; have hp := q2.out; refine (HD.out.2.2.1 _ hp).mono ?_; clear hp; rintro e wk3 ⟨rfl, hk⟩; have q3 := Lib.hid (q2.out.trans hk); clear hk q2) | (go_at_call 16; have hp := q3.out; refine (HD.out.2.2.2.2.1 _ hp).mono ?_; clear hp; rintro e wk4 ⟨rfl, hk⟩; have q4 := Lib.hid (q3.out.trans hk); clear hk q3) | (go_at_call 16; have hp := q4.out; refine (HD.out.2.2.2.1 _ hp).mono ?_; clear hp; rintro e wk5 ⟨rfl, hk⟩; have q5 := Lib.hid (q4.out.trans hk); clear hk q4) | (go_at_call 16; have hp := q5.out; refine (HD.out.2.2.2.2.2 _ hp).mono ?_; clear hp; rintro e wk6 ⟨rfl, hk⟩; have q6 := Lib.hid (q5.out.trans hk); clear hk q5) | (go_at_call 16; have hp := q6.out; refine (HD.out.2.2.1 _ hp).mono ?_; clear hp; rintro e wk7 ⟨rfl, hk⟩; have q7 := Lib.hid (q6.out.trans hk); clear hk q6) | (go_at_call 16; have hp := q7.out; refine (HD.out.2.2.2.1 _ hp).mono ?_; clear hp; rintro e wk8 ⟨rfl, hk⟩; have q8 := Lib.hid (q7.out.trans hk); clear hk q7))
  go_ret
  exact ⟨rfl, HF.out.2.2.2.2.2.2.2.2.2.trans q8.out⟩
 ·have e1 : (ov != 0) = true := by simpa using ho
  have HO := Lib.hid ho
  clear ho
  go_wp2_with fail
  go_ret
  exact ⟨rfl, HF.out.2.2.2.2.2.2.2.2.2.trans K2.out⟩
end Go.Proofs.YtnheefnlcnkefaaGreatDoor
