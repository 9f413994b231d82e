/- What the law ArenaLets does: it answers true. Conditions: the library's table; the recipes' own reading and bulk. -/
import Derived.Test.YtnheefnlcnkefaaGreatDoorKLRels
import Derived.Test.YtnheefnlcnkefaaGreatDoorKLLetsB
import Derived.Test.YtnheefnlcnkefaaGreatDoorKLAparts
import Derived.Test.YtnheefnlcnkefaaGreatDoorKLAwakes
import Derived.Test.YtnheefnlcnkefaaGreatDoorKLAppSl
namespace Go.Rid
open Go.RowKit
theorem rmake_one {M : Nat → Prop} {w : World} : ∀ cs x, RMake M w cs x → ∀ v ∈ cs, v.oneCell' = true := fun cs x h v hv => by
 obtain ⟨gd, ad, nd, cd, ap, np, cp, gk, ak, nk, ck, aq, nq, cq, e, _⟩ := h
 rw [e] at hv
 simp at hv
 rcases hv with rfl | rfl | rfl | rfl | rfl | rfl | rfl | rfl | rfl <;> rfl
theorem getD_append_ge {α : Type} (l t : List α) (d : α) {i : Nat} (h : l.length ≤ i) : (l ++ t).getD i d = t.getD (i - l.length) d := by simp [List.getD, List.getElem?_append_right h]
end Go.Rid
namespace Go.Proofs.YtnheefnlcnkefaaGreatDoor
open Go.RowKit Go.Rid
theorem info_Make : (Tryz.prog.info? 96).map (fun i => (i.zero, i.size, i.bytes)) = some (some (.agg #[.int .i64 0, .int .i64 0, .bool false, .slice none 0 0, .slice none 0 0, .bool false, .slice none 0 0, .int .i64 0, .slice none 0 0]), 9, 136) := by kernel_rfl
set_option maxHeartbeats 4000000 in
set_option maxRecDepth 100000 in
theorem arenaLets_walk {w : World} {a1 a2 : Option Addr} {n1 n2 c1 c2 k1 k2 : Nat} {l l2 : List MakeV} (hT : Tab w.heap.size w) (h1 : MakesAt Nil w a1 n1 c1 l ∧ 5 * (varsM l).length + l.length ≤ k1 + 20) (h2 : MakesAt Nil w a2 n2 c2 l2 ∧ 5 * (varsM l2).length + l2.length ≤ k2 + 20) (hb : k1 + k2 ≤ 1048576) :
  Calls Tryz.prog 5 #[.slice a1 n1 c1, .slice a2 n2 c2] w fun e w' => e = .returned (.bool true) ∧ Keeps Nil w w' := by
 obtain ⟨im, hinfo⟩ := info_parts info_Make
 have HIM := Lib.hid hinfo
 clear hinfo
 obtain ⟨V, hV⟩ : ∃ V, V = varsM l ++ varsM l2 := ⟨_, rfl⟩
 have hVl : V.length ≤ 262144 := by rw [hV, List.length_append]; omega
 have sm1 := h1.1.small (V := V) (fun v hv => by rw [hV]; exact List.mem_append.2 (.inl hv)) (by omega)
 have sm2 := h2.1.small (V := V) (fun v hv => by rw [hV]; exact List.mem_append.2 (.inr hv)) (by omega)
 have hVi : ∀ v ∈ V, I64 v := fun v hv => by rw [hV] at hv; exact (List.mem_append.1 hv).elim (sm1.2 v) (sm2.2 v)
 have hXa : ∀ m ∈ l ++ l2, SmallX V m.x := fun m hm => (List.mem_append.1 hm).elim (sm1.1 m) (sm2.1 m)
 have hX1 : ∀ m ∈ l.take 40, SmallX V m.x := fun m hm => sm1.1 m (List.mem_of_mem_take hm)
 have hX2 : ∀ m ∈ (l ++ l2).take 40, SmallX V m.x := fun m hm => hXa m (List.mem_of_mem_take hm)
 have m1 : MakesAt (fun b => w.heap.size ≤ b) w a1 n1 c1 l := h1.1.move (Keeps.refl Nil w) (fun _ _ h => h.elim) fun b hb hx => by omega
 have m2 : MakesAt (fun b => w.heap.size ≤ b) w a2 n2 c2 l2 := h2.1.move (Keeps.refl Nil w) (fun _ _ h => h.elim) fun b hb hx => by omega
 have q1 : n1 ≤ 1048596 := by have := SlOf.len m1; omega
 have q2 : n2 ≤ 1048596 := by have := SlOf.len m2; omega
 obtain ⟨s1, e1⟩ : ∃ s, s = buildM 2000 8 ⟨startA, 0, 0, [0, 1]⟩ (l.take 40) := ⟨_, rfl⟩
 obtain ⟨s2, e2⟩ : ∃ s, s = buildM 2000 8 ⟨s1.A, s1.sp, s1.ov, [0, 1]⟩ ((l ++ l2).take 40) := ⟨_, rfl⟩
 obtain ⟨A3, e3⟩ : ∃ A3, A3 = relA s2.A s1.A.nodes.length := ⟨_, rfl⟩
 obtain ⟨s4, e4⟩ : ∃ s, s = buildM 2000 8 ⟨A3, s2.sp, s2.ov, [0, 1]⟩ ((l ++ l2).take 40) := ⟨_, rfl⟩
 have hlaw := lets_law (s4 := s4) hX1 hX2 e1 e2 (by rw [← e3]; exact e4)
 have i0 : InvA V 2000 startA 0 := InvA.start (by decide) (by decide)
 have j1 := (InvS.start (ov := 0) i0).build (limbs := 8) hX1
 rw [← e1] at j1
 have js2 := InvS.start (ov := s1.ov) j1.inv
 have j2 := js2.build (limbs := 8) hX2
 have c2' := buildM_counts (limbs := 8) js2 hX2
 have hall1 := buildM_all (V := V) (nodes := 2000) (limbs := 8) (by decide) (s := ⟨startA, 0, 0, [0, 1]⟩) AllN.start hX1
 rw [← e1] at hall1
 have hall2 := buildM_all (V := V) (nodes := 2000) (limbs := 8) (by decide) (s := ⟨s1.A, s1.sp, s1.ov, [0, 1]⟩) hall1 hX2
 rw [← e2] at j2 c2' hall2
 have hn12 : s1.A.nodes.length ≤ s2.A.nodes.length := by have h3 := c2'.1; have h4 := c2'.2.1; simp only at h3 h4; omega
 have i3 : InvA V 2000 A3 s2.sp := by rw [e3]; exact j2.inv.rel j1.inv.once.two hn12
 have j4 := (InvS.start (ov := s2.ov) i3).build (limbs := 8) hX2
 rw [← e4] at j4
 have L1 : s1.A.nodes.length ≤ 2002 := by have h3 := j1.inv.used; have h4 := j1.inv.spn; omega
 have L2 : s2.A.nodes.length ≤ 2002 := by have h3 := j2.inv.used; have h4 := j2.inv.spn; omega
 have L4 : s4.A.nodes.length ≤ 2002 := by have h3 := j4.inv.used; have h4 := j4.inv.spn; omega
 have hok : ∀ i, 2 ≤ i → i < s2.A.nodes.length → OkNode (s2.A.nodes.getD i zeroN) ∧ (keyTxt (s2.A.nodes.getD i zeroN)).length ≤ maxLen := fun i hi2 hi => by
  have hkk := j2.inv.kids i hi
  have hkl := length_kids_le hkk.1 fun k hk => show 0 ≤ k ∧ k < ((i : Nat) : Int) from hkk.2 k hk
  exact (hall2 i hi2 hi).ok (by decide) hVl hVi (j2.inv.once.form i hi2 hi) (fun x hx => by have := hkk.2 x hx; omega) (by omega)
 have h3l : A3.nodes.length = s1.A.nodes.length := by rw [e3]; simp [relA]; omega
 have HV := Lib.hid (aI hVl (aI hVi (aI sm1.1 (aI hXa (aI i0 (aI j1.inv i3))))))
 have HL := Lib.hid hlaw
 have HE := Lib.hid (aI e1 (aI e2 (aI e3 e4)))
 have HM := Lib.hid (aI m1 m2)
 have HT := Lib.hid hT
 have HK := Lib.hid (aI j2.inv.once (aI hok (aI hn12 (aI j1.inv.once.two h3l))))
 clear hV hVl hVi sm1 sm2 hXa hX1 hX2 m1 m2 e1 e2 e3 e4 hlaw i0 j1 js2 j2 c2' hall1 hall2 i3 j4 h1 h2 hb hT hok h3l
 go_enter Tryz.func5, Tryz.ntmps5
 go_upto_region 2 with (go_at_call 9; go_loud (refine (awake_any HT.out).mono ?_); rintro e w1 ⟨rfl, hk1⟩; have H1 := Lib.hid hk1; clear hk1)
 go_upto_region 3 with (go_at_call 11; refine new_own.mono ?_; rintro e w2 ⟨ga, gm, O, rfl, hA, hO, hg, hm, hk⟩; have H2 := Lib.hid (aI hA (aI hO (aI hg (aI hm hk)))); clear hA hO hg hm hk)
 have z1 := H1.out.size
 have z2 := H2.out.2.2.2.2.size
 have gm1 : w1.heap.size ≤ gm ∧ gm < w2.heap.size := ⟨H2.out.2.2.1, H2.out.2.2.2.1.lt⟩
 have o1 : ∀ b, O b → w1.heap.size ≤ b ∧ b < w2.heap.size := fun b hb => ⟨H2.out.2.1 b hb, H2.out.1.lt b hb⟩
 have k02 : Keeps Nil w w2 := H1.out.trans H2.out.2.2.2.2
 have mk2 := HM.out.1.move k02 (M2 := fun b => w.heap.size ≤ b) (fun _ _ h => h.elim) fun _ _ h => h
 have HB2 := Lib.hid (aI k02 mk2)
 clear k02 mk2
 go_upto_region 4 with (go_at_call 12; go_loud (refine (built_any (B0 := w.heap.size) (M0 := fun b => b < w1.heap.size ∨ O b) H2.out.1 (HT.out.keepNil HB2.out.1) (fun b hb => by rcases hb with hb | hb; have := o1 b hb; omega; omega) (fun b hb => .inr hb) (fun b hb => by rcases hb with hb | hb; show b < w2.heap.size; omega; exact (o1 b hb).2) H2.out.2.2.2.1 HB2.out.2 (fun b hb => by rcases hb with hb | hb; have := o1 b hb; omega; omega) HV.out.2.2.2.2.1 (by decide) HV.out.1 HV.out.2.1 HV.out.2.2.1).mono ?_); rintro e w3 ⟨v3, O3, rfl, h3⟩; rw [← HE.out.1] at h3; obtain ⟨a3, d3, rfl⟩ := h3.own.isSlice; rw [length_cells1] at h3 ⊢; have H3 := Lib.hid h3; clear h3)
 have z3 := H3.out.keep.size
 have o3 : ∀ b, O3 b → w1.heap.size ≤ b ∧ b < w3.heap.size := fun b hb => ⟨by rcases H3.out.down b hb with h | h; exact (o1 b h).1; omega, H3.out.arena.lt b hb⟩
 have t3 : ∀ b, O b ∨ b = gm → w1.heap.size ≤ b := fun b hb => by rcases hb with hb | hb; exact (o1 b hb).1; omega
 have k03 : Keeps Nil w w3 := HB2.out.1.trans' H3.out.keep fun b hb => .inr (Nat.le_trans z1 (t3 b hb))
 have HB3 := Lib.hid k03
 clear k03
 obtain ⟨aa, ca, x1, x2, x3, rb⟩ := H3.out.arena.box
 obtain ⟨p1, hp1⟩ : ∃ p1, p1 = s1.A.nodes.length := ⟨_, rfl⟩
 rw [← hp1] at rb L1 hn12
 have HP := Lib.hid (aI rb hp1)
 clear rb hp1
 go_upto_region 5 with (go_at_call 16; refine (alen_any HP.out.1).mono ?_; rintro e w4 ⟨rfl, hk4⟩; have H4 := Lib.hid hk4; clear hk4)
 have z4 := H4.out.size
 have mk4 := HM.out.1.move (HB3.out.trans H4.out) (M2 := fun b => w.heap.size ≤ b) (fun _ _ h => h.elim) fun _ _ h => h
 have HQ4 := Lib.hid mk4
 clear mk4
 go_upto_region 7 with (at_builtin; refine wpList_append_sl rfl _ _ 22 rfl w4.heap.size 96 im (.agg #[.int .i64 0, .int .i64 0, .bool false, .slice none 0 0, .slice none 0 0, .bool false, .slice none 0 0, .int .i64 0, .slice none 0 0]) 9 136 Tryz.underlying22 HIM.out.1 HIM.out.2.1 HIM.out.2.2.1 HIM.out.2.2.2 rfl (by decide) (.slice none 0 0) [] rfl (OwnEls.nil _ _ _ _) rfl HQ4.out rmake_one (by simp; omega) (by simp; omega) (Nat.le_refl _) ?_; intro v5 w5 ne1 ho hl hr hk hf; have H5 := Lib.hid (aI ho (aI hl (aI hr (aI hk hf)))); clear ho hl hr hk hf)
 have k45 : Keeps Nil w4 w5 := H5.out.2.2.2.1.mono fun b hb => by simp [Own, Value.ownBlock] at hb
 have mk5 := HM.out.2.move ((HB3.out.trans H4.out).trans k45) (M2 := fun b => w.heap.size ≤ b) (fun _ _ h => h.elim) fun _ _ h => h
 have HQ5 := Lib.hid (aI k45 mk5)
 clear k45 mk5
 have z5 := HQ5.out.1.size
 go_upto_region 8 with (at_builtin; refine wpList_append_sl rfl _ _ 22 rfl w4.heap.size 96 im (.agg #[.int .i64 0, .int .i64 0, .bool false, .slice none 0 0, .slice none 0 0, .bool false, .slice none 0 0, .int .i64 0, .slice none 0 0]) 9 136 Tryz.underlying22 HIM.out.1 HIM.out.2.1 HIM.out.2.2.1 HIM.out.2.2.2 rfl (by decide) v5 ([] ++ ne1) rfl H5.out.1 rfl HQ5.out.2 rmake_one (by have := H5.out.2.1; simp; omega) (by have := H5.out.2.1; simp; omega) HQ5.out.1.size ?_; intro v6 w6 ne2 ho hl hr hk hf; have H6 := Lib.hid (aI ho (aI hl (aI hr (aI hk hf)))); clear ho hl hr hk hf)
 have k46 : Keeps Nil w4 w6 := HQ5.out.1.trans' H6.out.2.2.2.1 fun b hb => .inr (H5.out.1.lt b hb).1
 have k56 : Keeps (Own v5) w5 w6 := H6.out.2.2.2.1
 have z6 := k46.size
 have l1n := SlOf.len HM.out.1
 have l2n := SlOf.len HM.out.2
 have e5 : v5.ownBlock = v5.ownBlock := rfl
 have own5 : ∀ b, v5.ownBlock = some b → w4.heap.size ≤ b := fun b hb => (H5.out.1.lt b hb).1
 have own6 : ∀ b, v6.ownBlock = some b → w4.heap.size ≤ b ∧ b < w6.heap.size := fun b hb => H6.out.1.lt b hb
 have hmk : ∃ av cv, v6 = .slice av (n1 + n2) cv ∧ MakesAt (fun b => w.heap.size ≤ b ∧ v6.ownBlock ≠ some b) w6 av (n1 + n2) cv (l ++ l2) := by
  have hlen : ([] ++ ne1 ++ ne2).length = n1 + n2 := by rw [List.length_append, List.nil_append, H5.out.2.1, H6.out.2.1]
  obtain ⟨a', c', e', hsl⟩ := H6.out.1.sl (M := fun b => w.heap.size ≤ b ∧ v6.ownBlock ≠ some b) (R := RMake (fun b => w.heap.size ≤ b ∧ v6.ownBlock ≠ some b) w6) (d := zeroM) (xs := l ++ l2) (fun b hb hm => hm.2 hb) (by rw [hlen, List.length_append, l1n, l2n]) (fun i hi => by
   rw [hlen] at hi
   rw [List.nil_append]
   rcases Nat.lt_or_ge i n1 with hi1 | hi1
   ·rw [getD_append_lt _ _ _ (by rw [H5.out.2.1]; exact hi1), getD_append_lt _ _ _ (by omega)]
    exact RMake.moves (H5.out.2.2.1 i hi1) k46 (fun _ _ h => h.elim) fun b _ h => h.1
   ·rw [getD_append_ge _ _ _ (by rw [H5.out.2.1]; exact hi1), getD_append_ge _ _ _ (by omega), H5.out.2.1, l1n]
    exact RMake.moves (H6.out.2.2.1 (i - n1) (by omega)) k56 (fun b _ hb => by have := own5 b hb; omega) fun b _ h => h.1)
  rw [hlen] at e' hsl
  exact ⟨a', c', e', hsl⟩
 obtain ⟨av, cv, rfl, hmk⟩ := hmk
 have k06 := (HB3.out.trans H4.out).trans k46
 have A6 := H3.out.arena.keep (H4.out.trans k46) fun _ h => h.elim
 have M6 := H3.out.meter.keepNil (H4.out.trans k46)
 have v3 : ∀ b, (Value.slice a3 s1.ids.length d3).ownBlock = some b → w2.heap.size ≤ b ∧ b < w3.heap.size := fun b hb => H3.out.own.lt b hb
 have HB6 := Lib.hid (aI A6 (aI M6 (aI k06 hmk)))
 have HO6 := Lib.hid own6
 clear A6 M6 k06 hmk k46 k56 e5 own5 l1n l2n own6
 go_upto_region 9 with (go_at_call 12; go_loud (refine (built_any (B0 := w.heap.size) (M0 := fun b => (b < w1.heap.size ∨ O b) ∨ O3 b ∨ (Value.slice a3 s1.ids.length d3).ownBlock = some b) HB6.out.1 (HT.out.keepNil HB6.out.2.2.1) (fun b hb => by rcases hb with hb | hb; have := o3 b hb; omega; omega) (fun b hb => .inr (.inl hb)) (fun b hb => by rcases hb with (hb | hb) | hb | hb; show b < w6.heap.size; omega; (have := o1 b hb; show b < w6.heap.size; omega); (have := o3 b hb; show b < w6.heap.size; omega); (have := v3 b hb; show b < w6.heap.size; omega)) HB6.out.2.1 HB6.out.2.2.2 (fun b hb => ⟨by rcases hb with hb | hb; have := o3 b hb; omega; omega, fun e => by have h1 := (HO6.out b e).1; rcases hb with hb | hb; have := o3 b hb; omega; omega⟩) HV.out.2.2.2.2.2.1 (by decide) HV.out.1 HV.out.2.1 HV.out.2.2.2.1).mono ?_); rintro e w7 ⟨v7, O5, rfl, h7⟩; rw [← HE.out.2.1] at h7; obtain ⟨a7, d7, rfl⟩ := h7.own.isSlice; rw [length_cells1] at h7 ⊢; have H7 := Lib.hid h7; clear h7)
 have z7 := H7.out.keep.size
 have o5 : ∀ b, O5 b → w1.heap.size ≤ b ∧ b < w7.heap.size ∧ (b < w3.heap.size ∨ w6.heap.size ≤ b) := fun b hb => by
  have h1 := H7.out.arena.lt b hb
  rcases H7.out.down b hb with h | h
  ·have := o3 b h; omega
  ·omega
 have t7 : ∀ b, O3 b ∨ b = gm → w1.heap.size ≤ b ∧ b < w3.heap.size := fun b hb => by rcases hb with hb | hb; exact o3 b hb; omega
 have k07 : Keeps Nil w w7 := HB6.out.2.2.1.trans' H7.out.keep fun b hb => .inr (by have := t7 b hb; omega)
 have mk7 := HB6.out.2.2.2.move H7.out.keep (M2 := fun b => w.heap.size ≤ b ∧ (Value.slice av (n1 + n2) cv).ownBlock ≠ some b) (fun b _ hb => ⟨by have := t7 b hb; omega, fun e => by have h1 := (HO6.out b e).1; have := t7 b hb; omega⟩) fun _ _ h => h
 obtain ⟨ab, cb, y1, y2, y3, rb⟩ := H7.out.arena.box
 obtain ⟨p2, hp2⟩ : ∃ p2, p2 = s2.A.nodes.length := ⟨_, rfl⟩
 rw [← hp2] at rb L2 hn12
 have HB7 := Lib.hid (aI k07 (aI mk7 (aI rb hp2)))
 clear k07 mk7 rb hp2
 go_upto_region 10 with (go_at_call 16; refine (alen_any HB7.out.2.2.1).mono ?_; rintro e w8 ⟨rfl, hk8⟩; have H8 := Lib.hid hk8; clear hk8)
 go_upto_region 11 with (go_at_call 20; go_loud (refine (arelease_any (B0 := w.heap.size) (A := s2.A) (n := p1) (H7.out.arena.keep H8.out fun _ h => h.elim) (HT.out.keepNil (HB7.out.1.trans H8.out)) (fun b hb => by have := o5 b hb; omega) HK.out.1 HK.out.2.1 (by have := HK.out.2.2.2.1; have := HP.out.2; omega) (by have := HB7.out.2.2.2; omega) (by have := HB7.out.2.2.2; omega)).mono ?_); rintro e w9 ⟨rfl, hA9, hk9⟩; rw [HP.out.2, ← HE.out.2.2.1] at hA9; have H9 := Lib.hid (aI hA9 hk9); clear hA9 hk9)
 have z8 := H8.out.size
 have z9 := H9.out.2.size
 obtain ⟨ac, cc, u1, u2, u3, r9⟩ := H9.out.1.box
 rw [HK.out.2.2.2.2, ← HP.out.2] at r9
 have own5 : ∀ b, O5 b → w.heap.size ≤ b ∧ (Value.slice av (n1 + n2) cv).ownBlock ≠ some b := fun b hb => ⟨by have := o5 b hb; omega, fun e => by have h1 := HO6.out b e; have := o5 b hb; omega⟩
 have v7 : ∀ b, (Value.slice a7 s2.ids.length d7).ownBlock = some b → w6.heap.size ≤ b ∧ b < w7.heap.size := fun b hb => H7.out.own.lt b hb
 have k09 : Keeps Nil w w9 := (HB7.out.1.trans H8.out).trans' H9.out.2 fun b hb => .inr (own5 b hb).1
 have V9 := (H7.out.own.keepNil H8.out).keep H9.out.2 fun b hb hm => H7.out.far b hb hm
 have M9 := (H7.out.meter.keepNil H8.out).move H9.out.2 (M2 := fun b => ((b < w1.heap.size ∨ O b) ∨ O3 b ∨ (Value.slice a3 s1.ids.length d3).ownBlock = some b) ∨ O5 b ∨ (Value.slice a7 s2.ids.length d7).ownBlock = some b) (fun b _ hb => .inr (.inl hb)) fun _ _ h => h
 have mk9 := (HB7.out.2.1.move H8.out (M2 := fun b => w.heap.size ≤ b ∧ (Value.slice av (n1 + n2) cv).ownBlock ≠ some b) (fun _ _ h => h.elim) fun _ _ h => h).move H9.out.2 (M2 := fun b => w.heap.size ≤ b ∧ (Value.slice av (n1 + n2) cv).ownBlock ≠ some b) (fun b _ hb => own5 b hb) fun _ _ h => h
 have HB9 := Lib.hid (aI H9.out.1 (aI k09 (aI V9 (aI M9 (aI mk9 r9)))))
 clear k09 V9 M9 mk9 r9
 go_upto_region 12 with (go_at_call 16; refine (alen_any HB9.out.2.2.2.2.2).mono ?_; rintro e w10 ⟨rfl, hk10⟩; have H10 := Lib.hid hk10; clear hk10)
 go_upto_region 13 with (go_at_call 18; refine (anode_no (HB9.out.2.2.2.2.2.keep H10.out id) (by omega)).mono ?_; rintro e w11 ⟨rfl, hk11⟩; have H11 := Lib.hid hk11; clear hk11)
 have kb : Keeps Nil w11 (w11.alloc (.cells #[.int .i64 0, .bool false, .slice none 0 0, .slice none 0 0, .bool false, .slice none 0 0, .int .i64 0, .slice none 0 0] 44)) := kOf
 generalize w11.alloc (.cells #[.int .i64 0, .bool false, .slice none 0 0, .slice none 0 0, .bool false, .slice none 0 0, .int .i64 0, .slice none 0 0] 44) = w12 at *
 have k9z : Keeps Nil w9 w12 := H10.out.trans (H11.out.trans kb)
 have z12 := k9z.size
 have A12 := HB9.out.1.keep k9z fun _ h => h.elim
 have M12 := HB9.out.2.2.2.1.keepNil k9z
 have mk12 := HB9.out.2.2.2.2.1.move k9z (M2 := fun b => w.heap.size ≤ b ∧ (Value.slice av (n1 + n2) cv).ownBlock ≠ some b) (fun _ _ h => h.elim) fun _ _ h => h
 have V12 := HB9.out.2.2.1.keepNil k9z
 have HB12 := Lib.hid (aI A12 (aI M12 (aI mk12 (aI V12 (HB9.out.2.1.trans k9z)))))
 clear A12 M12 mk12 V12 kb k9z
 go_upto_region 14 with (go_at_call 12; go_loud (refine (built_any (B0 := w.heap.size) (M0 := fun b => ((b < w1.heap.size ∨ O b) ∨ O3 b ∨ (Value.slice a3 s1.ids.length d3).ownBlock = some b) ∨ O5 b ∨ (Value.slice a7 s2.ids.length d7).ownBlock = some b) HB12.out.1 (HT.out.keepNil HB12.out.2.2.2.2) (fun b hb => by rcases hb with hb | hb; have := o5 b hb; omega; omega) (fun b hb => .inr (.inl hb)) (fun b hb => by rcases hb with ((hb | hb) | hb | hb) | hb | hb; (show b < w12.heap.size; omega); (have := o1 b hb; show b < w12.heap.size; omega); (have := o3 b hb; show b < w12.heap.size; omega); (have := v3 b hb; show b < w12.heap.size; omega); (have := o5 b hb; show b < w12.heap.size; omega); (have := v7 b hb; show b < w12.heap.size; omega)) HB12.out.2.1 HB12.out.2.2.1 (fun b hb => by rcases hb with hb | hb; exact own5 b hb; exact ⟨by omega, fun e => by have h1 := HO6.out b e; omega⟩) HV.out.2.2.2.2.2.2 (by decide) HV.out.1 HV.out.2.1 HV.out.2.2.2.1).mono ?_); rintro e w13 ⟨v13, O7, rfl, h13⟩; rw [← HE.out.2.2.2] at h13; obtain ⟨a13, d13, rfl⟩ := h13.own.isSlice; rw [length_cells1] at h13 ⊢; have H13 := Lib.hid h13; clear h13)
 have k013 : Keeps Nil w w13 := HB12.out.2.2.2.2.trans' H13.out.keep fun b hb => .inr (by rcases hb with hb | hb; exact (own5 b hb).1; omega)
 have V13 := HB12.out.2.2.2.1.keep H13.out.keep fun b hb hm => by
  have h1 := v7 b hb
  rcases hm with hm | hm
  ·exact H7.out.far b hb hm
  ·omega
 have x1 := nums_of_own V13
 have x2 := nums_of_own H13.out.own
 obtain ⟨ad, cd, y1', y2', y3', rc⟩ := H13.out.arena.box
 obtain ⟨p4, hp4⟩ : ∃ p4, p4 = s4.A.nodes.length := ⟨_, rfl⟩
 rw [← hp4] at rc L4
 obtain ⟨ov, hov⟩ : ∃ ov, ov = s4.ov := ⟨_, rfl⟩
 have M13 : MeterAt Nil w13 gm 2000 8 s4.sp s4.ov := H13.out.meter.move (Keeps.refl Nil w13) (fun _ _ h => h.elim) fun _ _ h => h.elim
 have cL : ∀ wc, Keeps Nil w13 wc → Calls Tryz.prog 16 #[.pointer (some ⟨ga, 0, none⟩)] wc fun e w' => e = .returned (.int .i64 p4) ∧ Keeps Nil wc w' := fun wc k => alen_any (rc.keep k id)
 have cM : ∀ wc, Keeps Nil w13 wc → Calls Tryz.prog 17 #[.pointer (some ⟨ga, 0, none⟩)] wc fun e w' => e = .returned (.pointer (some ⟨gm, 0, none⟩)) ∧ Keeps Nil wc w' := fun wc k => ameter_any (rc.keep k id)
 have cO : ∀ wc, Keeps Nil w13 wc → Calls Tryz.prog 14 #[.pointer (some ⟨gm, 0, none⟩)] wc fun e w' => e = .returned (.int .i64 ov) ∧ Keeps Nil wc w' := fun wc k => by rw [hov]; exact mover_any (M13.keepNil k)
 have cI : ∀ wc, Keeps Nil w13 wc → Calls Tryz.prog 15 #[.slice a7 s2.ids.length d7, .slice a13 s4.ids.length d13] wc fun e w' => e = .returned (.bool (decide (s2.ids = s4.ids))) ∧ Keeps Nil wc w' := fun wc k => ints8_any (x1.keepNil k) (x2.keepNil k)
 have HC := Lib.hid (aI cL (aI cM (aI cO cI)))
 have HS := Lib.hid (aI hov hp4)
 have HF := Lib.hid k013
 clear k013 V13 x1 x2 rc M13 cL cM cO cI hov hp4 own5 o1 o3 o5 t3 t7 v3 v7
 have q0 := Lib.hid (Keeps.refl Nil w13)
 go_upto_region 15 with (go_at_call 16; refine (HC.out.1 _ q0.out).mono ?_; rintro e w14 ⟨rfl, hk⟩; have q1 := Lib.hid (q0.out.trans hk); clear hk)
 go_upto_region 16 with (first | (go_at_call 17; have hp := q1.out; refine (HC.out.2.1 _ hp).mono ?_; clear hp; rintro e w15 ⟨rfl, hk⟩; have q2 := Lib.hid (q1.out.trans hk); clear hk q1) | (go_at_call 14; have hp := q2.out; refine (HC.out.2.2.1 _ hp).mono ?_; clear hp; rintro e w16 ⟨rfl, hk⟩; have q3 := Lib.hid (q2.out.trans hk); clear hk q2))
 by_cases ho : ov = 0
 ·have hlaw := HL.out (HS.out.1.symm.trans ho)
  have ep : p4 = p2 := by rw [HS.out.2, hlaw.2, HB7.out.2.2.2]
  have ei : decide (s2.ids = s4.ids) = true := decide_eq_true hlaw.1.symm
  have HI := Lib.hid ei
  clear hlaw ei
  subst ep
  subst ho
  go_wp2_with (go_at_call 15; have hp := q3.out; refine (HC.out.2.2.2 _ hp).mono ?_; clear hp; rintro e w17 ⟨rfl, hk⟩; rw [HI.out]; have q4 := Lib.hid (q3.out.trans hk); clear hk q3)
  go_ret
  exact ⟨rfl, HF.out.trans q4.out⟩
 ·have e1 : (ov != 0) = true := by simpa using ho
  have HO := Lib.hid ho
  clear ho
  go_wp2_with fail
  go_ret
  exact ⟨rfl, HF.out.trans q3.out⟩
end Go.Proofs.YtnheefnlcnkefaaGreatDoor
