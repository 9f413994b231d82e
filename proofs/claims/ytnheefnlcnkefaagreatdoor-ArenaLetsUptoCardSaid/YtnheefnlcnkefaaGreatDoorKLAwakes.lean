/- What an arena answers to the law's three calls at the start: plain laws. -/
/- What the laws' awake does: it answers true. Conditions: the library's table. -/
import Derived.Test.YtnheefnlcnkefaaGreatDoorKLMadesC
import Derived.Test.YtnheefnlcnkefaaGreatDoorKLKeysB
namespace Go.Rid
theorem nlen0 : nlen 0 = 0 := by simp [nlen, limbsOf_zero]
theorem nlen1 : nlen 1 = 1 := by
 unfold nlen
 rw [limbsOf_pos (by decide), show (1 : Nat) / Bs = 0 by decide, limbsOf_zero]
 rfl
def wakeX : AtomV := ⟨2, 0, ⟨[(3, 1)], 0⟩⟩
def wakeN : NodeV := ⟨2, 0, ⟨[(3, 1)], 0⟩, 0, []⟩
def wakeQ : NodeV := ⟨7, 0, zeroT, 3, [2]⟩
theorem length_freeOf_le (A : ArenaV) (N : NodeV) : (freeOf A N).length ≤ (freeRaw A N).length := by
 unfold freeOf
 split
 ·exact Nat.le_trans (List.length_filter_le _ _) (length_neatF_le _)
 ·exact length_neatF_le _
theorem norm_wake : normR wakeX = (0, wakeX) := by rfl
theorem normT_wake : normT ⟨[(3, 1)], 0⟩ = ⟨[(3, 1)], 0⟩ := by rfl
theorem wee_wake : Wee ⟨[(3, 1)], 0⟩ := ⟨fun p hp => by rw [List.mem_singleton.1 hp]; simp [nlen1], by simp [nlen0], by simp⟩
theorem form_wake : FormN wakeN := ⟨by decide, by decide, fun _ => ⟨rfl, rfl⟩, fun h => absurd h (by decide), fun h => absurd h (by decide)⟩
theorem form_wakeQ : FormN wakeQ := ⟨by decide, by decide, fun h => absurd h (by decide), fun _ => ⟨rfl, rfl⟩, fun h => absurd h (by decide)⟩
end Go.Rid
namespace Go.Proofs.YtnheefnlcnkefaaGreatDoor
open Go.RowKit Go.Rid
theorem okB_wake : OkB startA wakeX := by
 have hb : bulkP [((3 : Int), (1 : Int))] ≤ 1000 := by simp [bulkP, nlen1]
 have hw : OkNode (nodeB wakeX) := ⟨⟨by decide, by decide⟩, ⟨by decide, by decide⟩, (fun x hx => absurd hx (List.not_mem_nil)), by decide, by simp only [nodeB, wakeX, Int.natAbs_zero, nlen0]; omega⟩
 refine ⟨hw, ?_, wee_wake, by simp [wakeX, nlen0], ?_⟩
 ·have h1 := length_itoaN (i := 2) (by decide) (by decide)
  have h2 := length_numTxt 0
  have h3 := length_partsTxt [((3 : Int), (1 : Int))] (fun p hp => by rw [List.mem_singleton.1 hp]; exact ⟨by decide, by decide⟩)
  simp only [Int.natAbs_zero, nlen0] at h2
  unfold keyTxt
  simp only [nodeB, wakeX, true_or, if_true, List.length_append, List.length_cons, List.length_nil]
  unfold maxLen
  omega
 ·exact (by decide : (freeRaw startA (nodeB wakeX)).length ≤ 1000000000)
theorem great_wake : great 8 ((numsB wakeX).map intX) = false := by
 rw [great_intX]
 simp [numsB, wakeX, nlen0, nlen1]
theorem atom_wake : atomM startA 2000 8 0 0 wakeX = ((2, 0), addA startA wakeN, (1, 0)) := by
 unfold atomM
 rw [norm_wake, atomR_go (by decide)]
 unfold madeM
 rw [show keyF startA.nodes = fun _ => none from keyF_start]
 have hn : nodeM 2000 8 0 0 ((numsB wakeX).map intX) = (1, 0, 0) := by
  unfold nodeM nodeS
  rw [if_pos rfl, great_wake]
  rfl
 simp only []
 rw [hn]
 rfl
theorem once_wake : OnceA (addA startA wakeN) := OnceA.start.add form_wake (by rw [show keyF startA.nodes = fun _ => none from keyF_start])
theorem room_wake (k v : Int) : (freeRaw (addA startA wakeN) ⟨k, 0, zeroT, v, [2]⟩).length ≤ 1000000000 := by
 have h1 : freeRaw (addA startA wakeN) ⟨k, 0, zeroT, v, [2]⟩ = freeOf startA wakeN := by
  simp [freeRaw, zeroT, neatL, addA, startA]
 rw [h1]
 have h2 := length_freeOf_le startA wakeN
 have h3 : (freeRaw startA wakeN).length ≤ 1 := by decide
 omega
theorem neat_wake : neatF [2, 2] = [2] := by
 have hs : sortI [2, 2] = [2, 2] := by unfold sortI; exact List.mergeSort_of_pairwise (by simp)
 unfold neatF; rw [hs]; rfl
theorem join_wake : joinM (addA startA wakeN) 2000 8 1 0 5 [2, 2] = ((2, 0), addA startA wakeN, (1, 0)) := by
 have hs : sortI [2, 2] = [2, 2] := by unfold sortI; exact List.mergeSort_of_pairwise (by simp)
 have hc : neatF [2, 2] = [2] := by unfold neatF; rw [hs]; rfl
 unfold joinM
 rw [if_neg (by decide), if_neg (by decide), hc, if_pos rfl]
 rfl
theorem bind_wake : bindM (addA startA wakeN) 2000 8 1 0 7 3 2 = ((3, 0), addA (addA startA wakeN) wakeQ, (2, 0)) := by
 have hk : keyF (addA startA wakeN).nodes (keyTxt wakeQ) = none := (once_wake.find_none form_wakeQ).2 fun i h2 hi e => by
  have hi' : i = 2 := by simp [addA, startA] at hi; omega
  subst hi'
  have : wakeN.kind = wakeQ.kind := by rw [← e]; rfl
  exact absurd this (by decide)
 unfold bindM
 rw [if_neg (by decide), if_neg (by decide)]
 unfold madeM
 rw [show (⟨7, 0, zeroT, 3, [2]⟩ : NodeV) = wakeQ from rfl, hk]
 rfl
end Go.Proofs.YtnheefnlcnkefaaGreatDoor

namespace Go.Proofs.YtnheefnlcnkefaaGreatDoor
open Go.RowKit Go.Rid
set_option maxHeartbeats 4000000 in
set_option maxRecDepth 100000 in
theorem awake_any {B0 : Nat} {w : World} (hT : Tab B0 w) : Calls Tryz.prog 9 #[] w fun e w' => e = .returned (.bool true) ∧ Keeps Nil w w' := by
 have HT := Lib.hid hT
 clear hT
 go_enter Tryz.func9, Tryz.ntmps9
 go_upto_region 2 with (go_at_call 11; refine (anew_nil (M := Nil) (MB.nil _)).mono ?_; rintro e w1 ⟨g, b2, b3, b4, b5, gm, hm, hgm, rfl, r0, r2, r3, r4, r5, hk, h1, h2, h3, h4, h5⟩; have H1 := Lib.hid (aI hm (aI hgm (aI r0 (aI r2 (aI r3 (aI r4 (aI r5 (aI hk (aI h1 (aI h2 (aI h3 (aI h4 h5)))))))))))); clear hm hgm r0 r2 r3 r4 r5 hk h1 h2 h3 h4 h5)
 obtain ⟨hm, hgm, r0, r2, r3, r4, r5, hk, h1, h2, h3, h4, h5⟩ := H1.out
 obtain ⟨O, hO⟩ : ∃ O : Nat → Prop, O = fun b => b = g ∨ b = b2 ∨ b = b3 ∨ b = b4 ∨ b = b5 := ⟨_, rfl⟩
 have hm1 : MeterAt O w1 gm 2000 8 0 0 := hm.move (Keeps.refl Nil w1) (fun _ _ h => h.elim) fun b _ hb => by rw [hO] at hb; exact .inr hb
 have hng : ¬ O gm := by obtain ⟨s, -, -, -, hng, -⟩ := hm1; exact hng
 have hA : ArenaIn O w1 g gm startA := by
  rw [hO] at hng ⊢
  exact ⟨w.heap.size, _, _, _, _, _, _, ArenaW.start r0 r2 r3 r4 r5 h1 h2 h3 h4 h5 ⟨fun e => hng (.inl e), fun e => hng (.inr (.inl e)), fun e => hng (.inr (.inr (.inl e))), fun e => hng (.inr (.inr (.inr (.inl e)))), fun e => hng (.inr (.inr (.inr (.inr e))))⟩⟩
 have hMB : MB O w1 := hA.lt
 have hOw : ∀ b, O b → w.heap.size ≤ b := fun b hb => by
  rw [hO] at hb
  rcases hb with rfl | rfl | rfl | rfl | rfl <;> assumption
 have HA := Lib.hid (aI hA (aI hm1 (aI hMB (aI hOw (aI hk hgm)))))
 clear hm hgm r0 r2 r3 r4 r5 hk h1 h2 h3 h4 h5 H1 hO hm1 hng hA hMB hOw
 go_upto_region 3 with (first | (go_at_call 41; refine (tvar_any (M := Nil) (v := 3) (MB.nil _) ⟨by decide, by decide⟩).mono ?_; rintro e w2 ⟨v, rfl, ⟨ap, np, cp, gk, ak, nk, ck, rfl, ht⟩, hk2⟩; have H2 := Lib.hid (aI ht hk2); clear ht hk2) | (go_at_call 24; go_loud (refine (aatom_any (B0 := B0) (M0 := O) (A := startA) (k := 2) (d := 0) (z := 0) (l := [(3, 1)]) (HA.out.1.keep H2.out.2 (fun _ h => h.elim)) (HT.out.keepNil (HA.out.2.2.2.2.1.trans H2.out.2)) (fun _ h => h) (HA.out.2.2.1.keep H2.out.2) (HA.out.2.1.keepNil H2.out.2) ((zn_zero Nil w2).zat (by simp [nlen0])) (NParts.raw H2.out.1.1 (fun p hp => by rw [List.mem_singleton.1 hp]; simp [nlen1])) (H2.out.1.2.zat (by simp [nlen0])) (by have := SlOf.len H2.out.1.1; simp at this; omega) (by have h1 := H2.out.1.2.2.len; simp [limbsOf_zero] at h1; omega) (by rw [normT_wake]; exact wee_wake) (by simp [nlen0]) (by decide) (by decide) (by decide) (by decide) (by decide) (by decide) (fun _ => okB_wake)).mono ?_); intro e w3 hst; obtain ⟨rfl, O1, hA1, i1, i2, hm1, k3⟩ := AStep.opens (show AStep O O w2 g gm 2000 8 ((2, 0), addA startA wakeN, (1, 0)) e w3 by rw [← atom_wake]; exact hst); have H3 := Lib.hid (aI hA1 (aI i1 (aI i2 (aI hm1 k3)))); clear hA1 i1 i2 hm1 k3 hst))
 obtain ⟨hA1, i1, i2, hm1, k3⟩ := H3.out
 have hsz := (HA.out.2.2.2.2.1.trans H2.out.2).size
 have hOw1 : ∀ b, O1 b → w.heap.size ≤ b := fun b hb => by
  rcases i2 b hb with h | h
  ·exact HA.out.2.2.2.1 b h
  ·omega
 have kk3 : Keeps Nil w w3 := (HA.out.2.2.2.2.1.trans H2.out.2).trans' k3 fun b hb => .inr (by
  rcases hb with h | h
  ·exact HA.out.2.2.2.1 b h
  ·rw [h]; exact HA.out.2.2.2.2.2)
 have HB := Lib.hid (aI hA1 (aI (hm1.move (M2 := O1) (Keeps.refl Nil w3) (fun _ _ h => h.elim) fun b _ hb => .inr hb) (aI hA1.lt (aI hOw1 kk3))))
 clear hA1 i1 i2 hm1 k3 hOw1 kk3 H3 hsz
 go_upto_region 4 with (go_at_call 26; have ka : Keeps Nil w3 (w3.alloc (.cells #[.int .i64 2, .int .i64 2] 3)) := kOf; go_loud (refine (ajoin_any (B0 := B0) (M0 := O1) (M1 := Nil) (A := addA startA wakeN) (ks := [2, 2]) (HB.out.1.keep ka (fun _ h => h.elim)) (HT.out.keepNil (HB.out.2.2.2.2.trans ka)) (fun _ h => h) (MB.keep HB.out.2.2.1 ka) (HB.out.2.1.keepNil ka) (NumsAt.ofRow RowIs.alloc id rfl (by decide)) (by decide) (by decide) (by decide) (by decide) (by decide) (by decide) (by decide) (by rw [neat_wake]; exact room_wake _ _)).mono ?_); intro e w4 hst; obtain ⟨rfl, O2, hA2, i1, i2, hm2, k4⟩ := AStep.opens (show AStep O1 O1 _ g gm 2000 8 ((2, 0), addA startA wakeN, (1, 0)) e w4 by rw [← join_wake]; exact hst); have H4 := Lib.hid (aI hA2 (aI i1 (aI i2 (aI hm2 (aI k4 ka))))); clear hA2 i1 i2 hm2 k4 hst ka)
 obtain ⟨hA2, i1, i2, hm2, k4, ka⟩ := H4.out
 have hsz := HB.out.2.2.2.2.size
 have hsz2 := ka.size
 have hOw2 : ∀ b, O2 b → w.heap.size ≤ b := fun b hb => by
  rcases i2 b hb with h | h
  ·exact HB.out.2.2.2.1 b h
  ·omega
 have kk4 : Keeps Nil w w4 := (HB.out.2.2.2.2.trans ka).trans' k4 fun b hb => .inr (by
  rcases hb with h | h
  ·exact HB.out.2.2.2.1 b h
  ·rw [h]; exact HA.out.2.2.2.2.2)
 have HC := Lib.hid (aI hA2 (aI (hm2.move (M2 := O2) (Keeps.refl Nil w4) (fun _ _ h => h.elim) fun b _ hb => .inr hb) (aI hA2.lt (aI hOw2 kk4))))
 clear hA2 i1 i2 hm2 k4 hOw2 kk4 H4 hsz hsz2 ka
 go_upto_region 5 with (go_at_call 28; go_loud (refine (abind_any (B0 := B0) (M0 := O2) (A := addA startA wakeN) HC.out.1 (HT.out.keepNil HC.out.2.2.2.2) (fun _ h => h) HC.out.2.2.1 HC.out.2.1 ⟨by decide, by decide⟩ (by decide) (by decide) (by decide) (by decide) (by decide) (by decide) (room_wake _ _)).mono ?_); intro e w5 hst; obtain ⟨rfl, O3, hA3, i1, i2, hm3, k5⟩ := AStep.opens (show AStep O2 O2 _ g gm 2000 8 ((3, 0), addA (addA startA wakeN) wakeQ, (2, 0)) e w5 by rw [← bind_wake]; exact hst); have kk5 : Keeps Nil w w5 := HC.out.2.2.2.2.trans' k5 (fun b hb => .inr (by rcases hb with h | h; exact HC.out.2.2.2.1 b h; rw [h]; exact HA.out.2.2.2.2.2)); have H5 := Lib.hid (aI hA3 kk5); clear hA3 i1 i2 hm3 k5 hst kk5)
 obtain ⟨av, cv, v1, v2, v3, hbox⟩ := H5.out.1.box
 have HX := Lib.hid (show RowIs w5 g 94 [.slice av 4 cv, v1, v2, v3, .pointer (some ⟨gm, 0, none⟩)] from hbox)
 clear hbox
 go_wp2_with (go_at_call 16; refine (alen_any HX.out).mono ?_; rintro e w6 ⟨rfl, hk6⟩; have H6 := Lib.hid hk6; clear hk6)
 go_ret
 exact ⟨rfl, H5.out.2.trans H6.out⟩
end Go.Proofs.YtnheefnlcnkefaaGreatDoor
