/- What nat.Gcd does. Conditions: the slices' own reading; room. -/
/- What zint.Gcd does: the greatest common divisor of all. Conditions: the list's own reading; room. -/
import Derived.Test.YtnheefnlcnkefaaGreatDoorKLNatDiv
import Derived.Deep.LoopGhost
import Derived.Test.YtnheefnlcnkefaaGreatDoorKLLists
import Derived.Test.YtnheefnlcnkefaaGreatDoorKLZints
namespace Go.Rid
theorem nlen_pos {n : Nat} (h : n ≠ 0) : 0 < nlen n := nlen_gt (k := 0) (by rw [Nat.pow_zero]; omega)
theorem gcd_step {x k G : Nat} (h : Nat.gcd x k = G) : Nat.gcd k (x % k) = G := by
 rw [← h, Nat.gcd_comm x k, Nat.gcd_rec k x, Nat.gcd_comm]
end Go.Rid
namespace Go.Proofs.YtnheefnlcnkefaaGreatDoor
open Go.RowKit Go.Rid
theorem divmod_of {M : Nat → Prop} {a a2 : Option Addr} {c c2 x y : Nat} {w : World} (hy : y ≠ 0) (hM : MB M w) (h : Limbs Nil w a (nlen x) c (limbsOf x)) (h2 : Limbs Nil w a2 (nlen y) c2 (limbsOf y)) (hr : nlen x * 4 + 4 ≤ 140737488355328) (hr2 : nlen y * 4 + 4 ≤ 140737488355328) :
  Calls Tryz.prog 181 #[.slice a (nlen x) c, .slice a2 (nlen y) c2] w fun e w' => DivRet M w x y e w' := by
 have := natDiv_any hy hM h h2 hr hr2 (nval_limbsOf y)
 rw [nval_limbsOf, nval_limbsOf] at this
 exact this
set_option maxHeartbeats 1000000 in
set_option maxRecDepth 100000 in
theorem natGcd_any {M : Nat → Prop} {a a2 : Option Addr} {n c n2 c2 : Nat} {l l2 : List Nat} {w : World} (hM : MB M w) (h : Limbs Nil w a n c l) (h2 : Limbs Nil w a2 n2 c2 l2) (hr : n * 4 + 4 ≤ 140737488355328) (hr2 : n2 * 4 + 4 ≤ 140737488355328) :
  Calls Tryz.prog 149 #[.slice a n c, .slice a2 n2 c2] w fun e w' => ∃ a' c', e = .returned (.slice a' (nlen (Nat.gcd (nval l) (nval l2))) c') ∧ Limbs M w' a' (nlen (Nat.gcd (nval l) (nval l2))) c' (limbsOf (Nat.gcd (nval l) (nval l2))) ∧ Keeps Nil w w' := by
 have o1 : ∀ {w' : World}, Keeps Nil w w' → Calls Tryz.prog 139 #[.slice a n c] w' fun e w'' => ∃ a' c', e = .returned (.slice a' (nlen (nval l)) c') ∧ Limbs M w'' a' (nlen (nval l)) c' (limbsOf (nval l)) ∧ Keeps Nil w' w'' := fun {w'} k => by
  refine (own_any (M := M) (hM.keep k) (h.keepNil k) (by omega)).mono ?_
  rintro e w'' ⟨a', c', rfl, h', hk⟩
  rw [trim_eq h.lt, top_eq h.lt] at h'
  rw [top_eq h.lt]
  exact ⟨_, _, rfl, h', hk⟩
 have o2 : ∀ {w' : World}, Keeps Nil w w' → Calls Tryz.prog 139 #[.slice a2 n2 c2] w' fun e w'' => ∃ a' c', e = .returned (.slice a' (nlen (nval l2)) c') ∧ Limbs M w'' a' (nlen (nval l2)) c' (limbsOf (nval l2)) ∧ Keeps Nil w' w'' := fun {w'} k => by
  refine (own_any (M := M) (hM.keep k) (h2.keepNil k) (by omega)).mono ?_
  rintro e w'' ⟨a', c', rfl, h', hk⟩
  rw [trim_eq h2.lt, top_eq h2.lt] at h'
  rw [top_eq h2.lt]
  exact ⟨_, _, rfl, h', hk⟩
 have HO := Lib.hid (aI @o1 @o2)
 have hl1 : nlen (nval l) ≤ n := by rw [← h.len]; exact nlen_le h.lt
 have hl2 : nlen (nval l2) ≤ n2 := by rw [← h2.len]; exact nlen_le h2.lt
 have HM := Lib.hid hM
 generalize hA : nval l = A at *
 generalize hB : nval l2 = B at *
 have HR := Lib.hid (show nlen A * 4 + 4 ≤ 140737488355328 ∧ nlen B * 4 + 4 ≤ 140737488355328 by omega)
 clear h h2 hM hA hB hl1 hl2 o1 o2 hr hr2
 go_enter Tryz.func149, Tryz.ntmps149
 go_upto_region 2 with (first | (go_at_call 139; refine (HO.out.1 (Keeps.refl Nil w)).mono ?_; rintro e w1 ⟨a3, c3, rfl, h3, hk3⟩; have H3 := Lib.hid (aI h3 hk3); clear h3 hk3) | (go_at_call 139; refine (HO.out.2 H3.out.2).mono ?_; rintro e w2 ⟨a4, c4, rfl, h4, hk4⟩; have H4 := Lib.hid (aI h4 hk4); clear h4 hk4))
 go_loopg [0, 1] B (fun k p q wr => ∃ (x : Nat) (a1 : Option Addr) (c1 : Nat) (a5 : Option Addr) (c5 : Nat), p = .slice a1 (nlen x) c1 ∧ q = .slice a5 (nlen k) c5 ∧ Limbs M wr a1 (nlen x) c1 (limbsOf x) ∧ Limbs M wr a5 (nlen k) c5 (limbsOf k) ∧ Nat.gcd x k = Nat.gcd A B ∧ nlen x * 4 + 4 ≤ 140737488355328 ∧ nlen k * 4 + 4 ≤ 140737488355328 ∧ Keeps Nil w wr)
 case atStart => exact ⟨A, _, _, _, _, rfl, rfl, H3.out.1.keepNil H4.out.2, H4.out.1, rfl, HR.out.1, HR.out.2, H3.out.2.trans H4.out.2⟩
 case round =>
  obtain ⟨x, a1, c1, a5, c5, rfl, rfl, l1, l2', hg, r1, r2, hkr⟩ := hrel
  have HL := Lib.hid (aI l1 (aI l2' (aI hg (aI r1 (aI r2 hkr)))))
  clear l1 l2' hg r1 r2 hkr
  by_cases hk0 : gk = 0
  ·have n0 : nlen gk = 0 := by rw [hk0]; unfold nlen; rw [limbsOf_zero]; rfl
   have HK := Lib.hid hk0
   clear hk0
   generalize hnk : nlen gk = nk at *
   have hz : ¬ (0 : Int) < (nk : Int) := by omega
   have hz2 : ¬ 0 < nk := by omega
   clear hnk n0
   go_wp2_with fail
   go_ret
   have hg := HL.out.2.2.1
   rw [HK.out, Nat.gcd_zero_right] at hg
   rw [← hg]
   exact ⟨_, _, rfl, HL.out.1, HL.out.2.2.2.2.2⟩
  ·have hp := nlen_pos hk0
   have hz : (0 : Int) < (nlen gk : Int) := by omega
   have HK := Lib.hid hk0
   clear hk0
   go_wp2_with (go_at_call 181; refine (divmod_of (M := M) HK.out (HM.out.keep HL.out.2.2.2.2.2) HL.out.1.toNil HL.out.2.1.toNil HL.out.2.2.2.1 HL.out.2.2.2.2.1).mono ?_; rintro e w3 ⟨a7, c7, a8, c8, rfl, h7, h8, hk3⟩; have H8 := Lib.hid (aI h8 hk3); clear h7 h8 hk3)
   go_roundg (x % gk)
   case measure => exact Nat.mod_lt _ (Nat.pos_of_ne_zero HK.out)
   case rel => exact ⟨gk, _, _, _, _, rfl, rfl, HL.out.2.1.keepNil H8.out.2, H8.out.1, gcd_step HL.out.2.2.1, HL.out.2.2.2.2.1, by have := nlen_mono (Nat.mod_le x gk); have := HL.out.2.2.2.1; omega, HL.out.2.2.2.2.2.trans H8.out.2⟩
end Go.Proofs.YtnheefnlcnkefaaGreatDoor

namespace Go.Rid
open Go.RowKit
theorem ival_abs (g : Bool) (l : List Nat) : (ival (g, l)).natAbs = nval l := by
 unfold ival; split <;> simp
def gcdL (zs : List Int) : Nat := zs.foldl (fun a z => Nat.gcd a z.natAbs) 0
theorem gcdL_snoc (zs : List Int) (z : Int) : gcdL (zs ++ [z]) = Nat.gcd (gcdL zs) z.natAbs := by simp [gcdL]
theorem rows222' (w : World) (E : TypeId) (u v u2 v2 u3 v3 : Value) : RowIs (((w.alloc (.cells #[u, v] E)).alloc (.cells #[u2, v2] E)).alloc (.cells #[u3, v3] E)) (w.heap.size + 1 + 1) E [u3, v3] := by
 have := RowIs.alloc (w := (w.alloc (.cells #[u, v] E)).alloc (.cells #[u2, v2] E)) (E := E) (xs := [u3, v3])
 simpa using this
theorem MB.withNew3 {M : Nat → Prop} {w : World} {o o2 o3 : Obj} (h : MB M w) : MB (With M (w.heap.size + 1 + 1)) (((w.alloc o).alloc o2).alloc o3) := fun b hb => by
 rcases hb with hb | hb
 ·have := h b hb; simp; omega
 ·subst hb; simp
theorem nlen_gcd {a b : Nat} (hb : b ≠ 0) : nlen (Nat.gcd a b) ≤ nlen b := nlen_mono (Nat.le_of_dvd (Nat.pos_of_ne_zero hb) (Nat.gcd_dvd_right a b))
theorem nlen_gcd_le (a b : Nat) : nlen (Nat.gcd a b) ≤ max (nlen a) (nlen b) := by
 by_cases h : b = 0
 ·subst h; rw [Nat.gcd_zero_right]; omega
 ·have := nlen_gcd (a := a) h; omega
end Go.Rid
namespace Go.Proofs.YtnheefnlcnkefaaGreatDoor
open Go.RowKit Go.Rid
set_option maxHeartbeats 1000000 in
set_option maxRecDepth 100000 in
theorem gcd1_any {M : Nat → Prop} {g g2 : Bool} {a a2 : Option Addr} {n c n2 c2 : Nat} {z z2 : Int} {w : World} (hM : MB M w) (h : ZAt Nil w g a n c z) (h2 : ZAt Nil w g2 a2 n2 c2 z2) (hn : n * 4 + 4 ≤ 140737488355328) (hn2 : n2 * 4 + 4 ≤ 140737488355328) :
  Calls Tryz.prog 148 #[.agg #[.bool g, .slice a n c], .agg #[.bool g2, .slice a2 n2 c2]] w fun e w' => ZRet M w ((Nat.gcd z.natAbs z2.natAbs : Nat) : Int) e w' := by
 have hl := h.nlen_le
 have hl2 := h2.nlen_le
 obtain ⟨l, q1, q2, q3⟩ := h
 obtain ⟨l2, p1, p2, p3⟩ := h2
 have e1 : nval l = z.natAbs := by rw [← q3, ival_abs]
 have e2 : nval l2 = z2.natAbs := by rw [← p3, ival_abs]
 have hfit : nlen (Nat.gcd z.natAbs z2.natAbs) * 4 ≤ 140737488355328 := by have := nlen_gcd_le z.natAbs z2.natAbs; omega
 have HH := Lib.hid (aI q1 (aI p1 (aI e1 (aI e2 (aI hn (aI hn2 hfit))))))
 have HM := Lib.hid hM
 generalize hG : Nat.gcd z.natAbs z2.natAbs = G at *
 have hGe : Nat.gcd (nval l) (nval l2) = G := by rw [e1, e2]; exact hG
 have HGE := Lib.hid hGe
 clear hM q1 q2 q3 p1 p2 p3 e1 e2 hn hn2 hfit hl hl2 hG hGe
 have HG : ∀ (w' : World), Keeps Nil w w' → Calls Tryz.prog 149 #[.slice a n c, .slice a2 n2 c2] w' fun e w'' => ∃ a' c', e = .returned (.slice a' (nlen G) c') ∧ Limbs Nil w'' a' (nlen G) c' (limbsOf G) ∧ Keeps Nil w' w'' := fun w' k => by
  have := natGcd_any (M := Nil) (MB.nil _) (HH.out.1.keepNil k) (HH.out.2.1.keepNil k) HH.out.2.2.2.2.1 HH.out.2.2.2.2.2.1
  rw [HGE.out] at this
  exact this
 have HGC := Lib.hid HG
 clear HG
 go_enter Tryz.func148, Tryz.ntmps148
 go_wp2_with (first | (go_at_call 149; refine (HGC.out _ kOf).mono ?_; rintro e w1 ⟨a1, c1, rfl, h1, hk1⟩; have H1 := Lib.hid h1; clear h1) | (go_at_call 84; refine (made_any (M := With M (w.heap.size + 1 + 1)) ((MB.withNew3 HM.out).keep hk1) (zat_of false H1.out HH.out.2.2.2.2.2.2)).mono ?_; rintro e w2 ⟨g', a', n', c', rfl, h', hk2⟩; have r := ((rows222' w 39 (.bool g) (.slice a n c) (.bool g2) (.slice a2 n2 c2) (.bool false) (.slice none 0 0)).keep hk1 id).keep hk2 id; obtain ⟨c0, c1', f0, f1⟩ := r.two; have HT := Lib.hid h'; clear h' r))
 exact bodyPost_ret (v := .agg #[.bool g', .slice a' n' c']) (by simp [results, Tryz.results148, go_sem, c0, c1']) rfl ⟨_, _, _, _, rfl, HT.out.less (Keeps.pair _ _), ((((((Keeps.refl Nil w).alloc _).alloc _).alloc _).trans hk1).trans hk2).own (by omega) (Keeps.pair _ _)⟩
set_option maxHeartbeats 1000000 in
set_option maxRecDepth 100000 in
theorem foldedGcd_any {M M' : Nat → Prop} {a : Option Addr} {n c : Nat} {zs : List Int} {w : World} (hM : MB M w) (h : ZInts M' w a n c zs) (hf : ∀ z ∈ zs, nlen z.natAbs * 4 + 4 ≤ 140737488355328) :
  Calls Tryz.prog 147 #[.slice a n c, .agg #[.bool false, .slice none 0 0], .func (.func 148) #[] #[]] w fun e w' => ZRet M w (gcdL zs : Int) e w' := by
 have hln : zs.length = n := SlOf.len h
 have hcap := SlOf.cap h
 have hle := SlOf.le h
 have HS := Lib.hid h.toNil
 have HM := Lib.hid hM
 have HF := Lib.hid hf
 have HL := Lib.hid hln
 have heg : ∀ args w, (callFunc 148 args).run Tryz.prog w = .ok (.enter 148 args) w := enters_of Tryz.func148 (by kernel_rfl) rfl
 have HRS := Lib.hid (rows2 w 39 (.bool false) (.slice none 0 0) (.bool false) (.slice none 0 0))
 clear h hM hf hln
 go_enter Tryz.func147, Tryz.ntmps147
 go_wp2_with fail
 obtain ⟨r0, r1, hk0⟩ := HRS.out
 clear HRS
 generalize ((w.alloc (.cells #[.bool false, .slice none 0 0] 39)).alloc (.cells #[.bool false, .slice none 0 0] 39)) = w0 at *
 have H0 := Lib.hid (aI r0 (aI r1 hk0))
 have b0 := r0.lt
 have b1 := r1.lt
 clear r0 r1 hk0
 have hz0 : ZN (With M (w.heap.size + 1)) w0 false none 0 0 0 := ⟨rfl, by rw [show (0 : Int).natAbs = 0 from rfl, limbsOf_zero]; exact ⟨rfl, Sl.nil _ _ _ _, Small.nil⟩⟩
 have HZ0 := Lib.hid hz0
 clear hz0
 go_loopw [11] (fun iv wr => ∃ (k : Nat) (s : Bool) (ak : Option Addr) (nk ck : Nat), k ≤ n ∧ iv = .int .i64 (k : Int) ∧ RowIs wr w.heap.size 39 [.bool s, .slice ak nk ck] ∧ RowIs wr (w.heap.size + 1) 39 [.bool false, .slice none 0 0] ∧ ZN (With (With M (w.heap.size + 1)) w.heap.size) wr s ak nk ck (gcdL (zs.take k) : Int) ∧ nlen (gcdL (zs.take k)) * 4 + 4 ≤ 140737488355328 ∧ Keeps Nil w wr) (fun iv _ => n - (intOf iv).toNat)
 case atStart => exact ⟨0, false, none, 0, 0, Nat.zero_le _, rfl, H0.out.1, H0.out.2.1, ⟨rfl, by simpa [gcdL, limbsOf_zero] using (⟨rfl, Sl.nil _ _ _ _, Small.nil⟩ : Limbs (With (With M (w.heap.size + 1)) w.heap.size) w0 none 0 0 [])⟩, by simp [gcdL, nlen, limbsOf_zero], H0.out.2.2⟩
 case round =>
  clear HZ0 H0
  obtain ⟨k, s, ak, nk, ck, hk, rfl, r0, r1, hz, hfk, hkr⟩ := hrel
  by_cases hlt : k < n
  ·have j0 : (0 : Int) ≤ (k : Int) := by omega
   have j1 : (k : Int) < (n : Int) := by omega
   obtain ⟨b, off, g, a', n', c', hae, hb, -, x0, x1, hzk⟩ := (HS.out.keepNil hkr).at hlt
   subst hae
   have hfe := HF.out (zth zs k) (by rw [zth_lt (by have := HL.out; omega)]; exact List.getElem_mem _)
   have hMB : MB (With (With M (w.heap.size + 1)) w.heap.size) wr := fun b hb => by
    have l0 := r0.lt
    have l1 := r1.lt
    rcases hb with (hb | hb) | hb
    ·exact (HM.out.keep hkr) b hb
    ·omega
    ·omega
   have hcall := fun (W : World) (q : Keeps Nil wr W) => gcd1_any (hMB.keep q) ((hz.zat hfk).keepNil q) ((hzk.zat hfe).keepNil q) (by rw [hz.len]; exact hfk) (by rw [hzk.len]; exact hfe)
   obtain ⟨c0, c1', _, _⟩ := r0.two
   have l0 := r0.lt
   have hsnoc : gcdL (zs.take (k + 1)) = Nat.gcd (gcdL (zs.take k)) (zth zs k).natAbs := by
    rw [List.take_succ_eq_append_getElem (by have := HL.out; omega), gcdL_snoc, zth_lt (by have := HL.out; omega)]
   have hfit2 : nlen (gcdL (zs.take (k + 1))) * 4 + 4 ≤ 140737488355328 := by
    rw [hsnoc]; have := nlen_gcd_le (gcdL (zs.take k)) (zth zs k).natAbs; omega
   rw [show ((gcdL (zs.take k) : Nat) : Int).natAbs = gcdL (zs.take k) from Int.natAbs_natCast _] at hcall
   rw [← hsnoc] at hcall
   have HC := Lib.hid (aI hcall (aI hkr (aI r0 (aI r1 hfit2))))
   clear hcall hkr r0 r1 hfit2 hsnoc hMB hz hzk hfe hfk
   go_wp2_with (go_at_call 148; refine (HC.out.1 _ kOf).mono ?_; rintro e w3 ⟨g3, a3, n3, c3, rfl, h3, hk3⟩; have r0' := (HC.out.2.2.1.keep (M := Nil) (show Keeps Nil wr _ from kOf) id).keep hk3 id; obtain ⟨d0, d1, f0, f1⟩ := r0'.two; have H3 := Lib.hid (aI h3 (aI hk3 r0')); clear h3 hk3 r0')
   go_roundw
   case rel => exact ⟨k + 1, g3, a3, n3, c3, by omega, by go_num, H3.out.2.2.pair, ((HC.out.2.2.2.1.keep (M := Nil) (show Keeps Nil wr _ from kOf) id).keep H3.out.2.1 id).pairOther (by omega), H3.out.1.move (Keeps.pair _ _) (fun _ _ hb => .inr hb) (fun _ _ => id), HC.out.2.2.2.2, ((HC.out.2.1.trans (show Keeps Nil wr _ from kOf)).trans H3.out.2.1).own (Nat.le_refl _) (Keeps.pair _ _)⟩
   case measure => simp [intOf]; omega
  ·obtain rfl : k = n := by omega
   rw [List.take_of_length_le (by have := HL.out; omega)] at hz
   obtain ⟨c0, c1', _, _⟩ := r0.two
   obtain ⟨d0, d1, f0, f1⟩ := r1.two
   have HX := Lib.hid (aI hz hkr)
   clear hz hkr hfk
   go_wp2_with fail
   exact bodyPost_ret (v := .agg #[.bool s, .slice ak nk ck]) (by simp [results, Tryz.results147, go_sem, d0, d1]) rfl ⟨_, _, _, _, rfl, HX.out.1.move (Keeps.pair _ _) (fun _ _ hb => .inl (.inr hb)) (fun _ _ hb => .inl (.inl hb)), HX.out.2.own (by omega) (Keeps.pair _ _)⟩
set_option maxHeartbeats 1000000 in
theorem zgcd_any {M M' : Nat → Prop} {a : Option Addr} {n c : Nat} {zs : List Int} {w : World} (hM : MB M w) (h : ZInts M' w a n c zs) (hf : ∀ z ∈ zs, nlen z.natAbs * 4 + 4 ≤ 140737488355328) :
  Calls Tryz.prog 94 #[.slice a n c] w fun e w' => ZRet M w (gcdL zs : Int) e w' := by
 have HS := Lib.hid h
 have HM := Lib.hid hM
 have HF := Lib.hid hf
 clear h hM hf
 go_enter Tryz.func94, Tryz.ntmps94
 go_wp2_with (go_at_call 147; refine (foldedGcd_any (M := With M w.heap.size) (HM.out.withNew _) (HS.out.keepNil kOf) HF.out).mono ?_; rintro e w' ⟨g', a', n', c', rfl, h', hk'⟩; have r := (RowIs.alloc (w := w) (E := 39) (xs := [.bool false, .slice none 0 0])).keep hk' id; obtain ⟨c0, c1, f0, f1⟩ := r.two; have HT := Lib.hid (aI h' hk'); clear h' hk' r)
 exact bodyPost_ret (v := .agg #[.bool g', .slice a' n' c']) (by simp [results, Tryz.results94, go_sem, c0, c1]) rfl ⟨_, _, _, _, rfl, HT.out.1.less (Keeps.pair _ _), (((Keeps.refl Nil w).alloc _).trans HT.out.2).own (Nat.le_refl _) (Keeps.pair _ _)⟩
end Go.Proofs.YtnheefnlcnkefaaGreatDoor
