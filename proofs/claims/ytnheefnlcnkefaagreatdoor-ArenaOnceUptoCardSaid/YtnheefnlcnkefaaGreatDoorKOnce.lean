/- What the law ArenaOnce does: it answers true. Conditions: the library's table; the recipe's own reading and bulk. -/
import Derived.Test.YtnheefnlcnkefaaGreatDoorKRemade
import Derived.Test.YtnheefnlcnkefaaGreatDoorKAparts
import Derived.Test.YtnheefnlcnkefaaGreatDoorKAwakes
namespace Go.Rid
open Go.RowKit
theorem NodeK.size {V : List Int} {limbs : Int} {N : NodeV} (h : NodeK V limbs N) (hl : limbs ≤ 8) (hV : V.length ≤ 262144) (hk : N.kids.length ≤ 1000000) : SizeN N :=
 ⟨by have := length_parts_le h.neat h.vars; omega, fun p hp => by have := h.nums p hp; omega, by have := h.k; omega, by have := h.d; omega, by omega⟩
end Go.Rid
namespace Go.Proofs.YtnheefnlcnkefaaGreatDoor
open Go.RowKit Go.Rid
set_option maxHeartbeats 4000000 in
set_option maxRecDepth 100000 in
theorem arenaOnce_walk {w : World} {a1 : Option Addr} {n1 c1 k1 : Nat} {l : List MakeV} (hT : Tab w.heap.size w) (h1 : MakesAt Nil w a1 n1 c1 l ∧ 5 * (varsM l).length + l.length ≤ k1 + 20) (hb : k1 ≤ 1048576) :
  Calls Tryz.prog 4 #[.slice a1 n1 c1] w fun e w' => e = .returned (.bool true) ∧ Keeps Nil w w' := by
 obtain ⟨V, hV⟩ : ∃ V, V = varsM l := ⟨_, rfl⟩
 have hVl : V.length ≤ 262144 := by rw [hV]; omega
 have sm1 := h1.1.small (V := V) (fun v hv => by rw [hV]; exact hv) (by omega)
 have hVi : ∀ v ∈ V, I64 v := fun v hv => by rw [hV] at hv; exact sm1.2 v hv
 have hX1 : ∀ m ∈ l.take 40, SmallX V m.x := fun m hm => sm1.1 m (List.mem_of_mem_take hm)
 have m1 : MakesAt (fun b => w.heap.size ≤ b) w a1 n1 c1 l := h1.1.move (Keeps.refl Nil w) (fun _ _ h => h.elim) fun b hb hx => by omega
 obtain ⟨s, e1⟩ : ∃ s, s = buildM 2000 8 ⟨startA, 0, 0, [0, 1]⟩ (l.take 40) := ⟨_, rfl⟩
 have i0 : InvA V 2000 startA 0 := InvA.start (by decide) (by decide)
 have js := InvS.start (ov := 0) i0
 have j1 := js.build (limbs := 8) hX1
 have hc := (buildM_counts (limbs := 8) js hX1).2.1
 have hag := buildM_again (limbs := 8) (F := s.A) (spF := s.sp) (ovF := s.ov) js hX1 ⟨[], by rw [← e1]; simp⟩ (fun _ => by rw [← e1]; exact ⟨rfl, rfl⟩)
 have hall := buildM_all (V := V) (nodes := 2000) (limbs := 8) (by decide) (s := ⟨startA, 0, 0, [0, 1]⟩) AllN.start hX1
 rw [← e1] at j1 hc hag hall
 simp only at hc hag
 have hI := j1.inv
 have L1 : s.A.nodes.length ≤ 2002 := by have h3 := j1.inv.used; have h4 := j1.inv.spn; omega
 have L0 := hI.once.two
 have hsp : s.sp = (s.A.nodes.length : Int) - 2 := by have e : (startA.nodes.length : Int) = 2 := rfl; omega
 have HV := Lib.hid (And.intro hVl (And.intro hVi (And.intro sm1.1 (And.intro i0 (And.intro hI hall)))))
 have HE := Lib.hid (And.intro e1 (And.intro hag hsp))
 have HM := Lib.hid m1
 have HT := Lib.hid hT
 clear hV hVl hVi sm1 hX1 m1 e1 i0 js j1 h1 hb hT hc hag hall hI hsp
 go_enter Tryz.func4, Tryz.ntmps4
 go_upto_region 2 with (go_at_call 9; go_loud (refine (awake_any HT.out).mono ?_); rintro e w1 ⟨rfl, hk1⟩; have H1 := Lib.hid hk1; clear hk1)
 go_upto_region 3 with (go_at_call 11; refine new_own.mono ?_; rintro e w2 ⟨ga, gm, O, rfl, hA, hO, hg, hm, hk⟩; have H2 := Lib.hid (And.intro hA (And.intro hO (And.intro hg (And.intro hm hk)))); clear hA hO hg hm hk)
 have z1 := H1.out.size
 have z2 := H2.out.2.2.2.2.size
 have gm1 : w1.heap.size ≤ gm ∧ gm < w2.heap.size := ⟨H2.out.2.2.1, H2.out.2.2.2.1.lt⟩
 have o1 : ∀ b, O b → w1.heap.size ≤ b ∧ b < w2.heap.size := fun b hb => ⟨H2.out.2.1 b hb, H2.out.1.lt b hb⟩
 have k02 : Keeps Nil w w2 := H1.out.trans H2.out.2.2.2.2
 have mk2 := HM.out.move k02 (M2 := fun b => w.heap.size ≤ b) (fun _ _ h => h.elim) fun _ _ h => h
 have HB2 := Lib.hid (And.intro k02 mk2)
 clear k02 mk2
 go_upto_region 4 with (go_at_call 12; go_loud (refine (built_any (B0 := w.heap.size) (M0 := fun b => b < w1.heap.size ∨ O b) H2.out.1 (HT.out.keepNil HB2.out.1) (fun b hb => by rcases hb with hb | hb; have := o1 b hb; omega; omega) (fun b hb => .inr hb) (fun b hb => by rcases hb with hb | hb; show b < w2.heap.size; omega; exact (o1 b hb).2) H2.out.2.2.2.1 HB2.out.2 (fun b hb => by rcases hb with hb | hb; have := o1 b hb; omega; omega) HV.out.2.2.2.1 (by decide) HV.out.1 HV.out.2.1 HV.out.2.2.1).mono ?_); rintro e w3 ⟨v3, O3, rfl, h3⟩; rw [← HE.out.1] at h3; obtain ⟨a3, d3, rfl⟩ := h3.own.isSlice; rw [length_cells1] at h3 ⊢; have H3 := Lib.hid h3; clear h3)
 have z3 := H3.out.keep.size
 have o3 : ∀ b, O3 b → w1.heap.size ≤ b ∧ b < w3.heap.size := fun b hb => ⟨by rcases H3.out.down b hb with h | h; exact (o1 b h).1; omega, H3.out.arena.lt b hb⟩
 have t3 : ∀ b, O b ∨ b = gm → w1.heap.size ≤ b := fun b hb => by rcases hb with hb | hb; exact (o1 b hb).1; omega
 have k03 : Keeps Nil w w3 := HB2.out.1.trans' H3.out.keep fun b hb => .inr (Nat.le_trans z1 (t3 b hb))
 have mk3 := HB2.out.2.move H3.out.keep (M2 := fun b => w.heap.size ≤ b) (fun b _ hb => Nat.le_trans z1 (t3 b hb)) fun _ _ h => h
 have HB3 := Lib.hid (And.intro k03 mk3)
 clear k03 mk3
 obtain ⟨aa, ca, x1, x2, x3, rb⟩ := H3.out.arena.box
 obtain ⟨p1, hp1⟩ : ∃ p1, p1 = s.A.nodes.length := ⟨_, rfl⟩
 rw [← hp1] at rb L0 L1
 have HP := Lib.hid (And.intro rb hp1)
 clear rb hp1
 go_upto_region 5 with (go_at_call 16; refine (alen_any HP.out.1).mono ?_; rintro e w4 ⟨rfl, hk4⟩; have H4 := Lib.hid hk4; clear hk4)
 have z4 := H4.out.size
 have A4 := H3.out.arena.keep H4.out fun _ h => h.elim
 have M4 := H3.out.meter.keepNil H4.out
 have k04 := HB3.out.1.trans H4.out
 have mk4 := HB3.out.2.move H4.out (M2 := fun b => w.heap.size ≤ b) (fun _ _ h => h.elim) fun _ _ h => h
 have v3 : ∀ b, (Value.slice a3 s.ids.length d3).ownBlock = some b → w2.heap.size ≤ b ∧ b < w3.heap.size := fun b hb => H3.out.own.lt b hb
 have V4 := H3.out.own.keepNil H4.out
 have HB4 := Lib.hid (And.intro A4 (And.intro M4 (And.intro k04 (And.intro mk4 V4))))
 clear A4 M4 k04 mk4 V4
 go_upto_region 6 with (go_at_call 12; go_loud (refine (built_any (B0 := w.heap.size) (M0 := fun b => (b < w1.heap.size ∨ O b) ∨ O3 b ∨ (Value.slice a3 s.ids.length d3).ownBlock = some b) HB4.out.1 (HT.out.keepNil HB4.out.2.2.1) (fun b hb => by rcases hb with hb | hb; have := o3 b hb; omega; omega) (fun b hb => .inr (.inl hb)) (fun b hb => by rcases hb with (hb | hb) | hb | hb; show b < w4.heap.size; omega; (have := o1 b hb; show b < w4.heap.size; omega); (have := o3 b hb; show b < w4.heap.size; omega); (have := v3 b hb; show b < w4.heap.size; omega)) HB4.out.2.1 HB4.out.2.2.2.1 (fun b hb => by rcases hb with hb | hb; have := o3 b hb; omega; omega) HV.out.2.2.2.2.1 (by decide) HV.out.1 HV.out.2.1 HV.out.2.2.1).mono ?_); rintro e w5 ⟨v5, O5, rfl, h5⟩; rw [HE.out.2.1] at h5; obtain ⟨a5, d5, rfl⟩ := h5.own.isSlice; rw [length_cells1] at h5 ⊢; have H5 := Lib.hid h5; clear h5)
 have z5 := H5.out.keep.size
 have o5 : ∀ b, O5 b → w1.heap.size ≤ b ∧ b < w5.heap.size := fun b hb => ⟨by rcases H5.out.down b hb with h | h; exact (o3 b h).1; omega, H5.out.arena.lt b hb⟩
 have t5 : ∀ b, O3 b ∨ b = gm → w1.heap.size ≤ b := fun b hb => by rcases hb with hb | hb; exact (o3 b hb).1; omega
 have k05 : Keeps Nil w w5 := HB4.out.2.2.1.trans' H5.out.keep fun b hb => .inr (Nat.le_trans z1 (t5 b hb))
 have V5 := HB4.out.2.2.2.2.keep H5.out.keep fun b hb hm => by
  have h1 := v3 b hb
  rcases hm with hm | hm
  ·exact H3.out.far b hb hm
  ·omega
 have x1 := nums_of_own V5
 have x2 := nums_of_own H5.out.own
 obtain ⟨ab, cb, y1, y2, y3, rc⟩ := H5.out.arena.box
 rw [show (St.A ⟨s.A, s.sp, s.ov, s.ids⟩).nodes.length = p1 from HP.out.2.symm] at rc
 have M5 : MeterAt O5 w5 gm 2000 8 s.sp s.ov := H5.out.meter.move (Keeps.refl Nil w5) (fun _ _ h => h.elim) fun b _ hb => .inr (.inl hb)
 have cL : ∀ wc, Keeps Nil w5 wc → Calls Tryz.prog 16 #[.pointer (some ⟨ga, 0, none⟩)] wc fun e w' => e = .returned (.int .i64 p1) ∧ Keeps Nil wc w' := fun wc k => alen_any (rc.keep k id)
 have cM : ∀ wc, Keeps Nil w5 wc → Calls Tryz.prog 17 #[.pointer (some ⟨ga, 0, none⟩)] wc fun e w' => e = .returned (.pointer (some ⟨gm, 0, none⟩)) ∧ Keeps Nil wc w' := fun wc k => ameter_any (rc.keep k id)
 have hsp : s.sp = (p1 : Int) - 2 := by rw [HE.out.2.2, HP.out.2]
 have cS : ∀ wc, Keeps Nil w5 wc → Calls Tryz.prog 13 #[.pointer (some ⟨gm, 0, none⟩)] wc fun e w' => e = .returned (.int .i64 ((p1 : Int) - 2)) ∧ Keeps Nil wc w' := fun wc k => by rw [← hsp]; exact mspent_any (M5.keepNil k)
 have cI : ∀ wc, Keeps Nil w5 wc → Calls Tryz.prog 15 #[.slice a3 s.ids.length d3, .slice a5 s.ids.length d5] wc fun e w' => e = .returned (.bool true) ∧ Keeps Nil wc w' := fun wc k => by
  have := ints8_any (x1.keepNil k) (x2.keepNil k)
  rwa [decide_eq_true rfl] at this
 have HC := Lib.hid (And.intro cL (And.intro cM (And.intro cS cI)))
 have HF := Lib.hid (And.intro H5.out.arena (And.intro M5 k05))
 have hg5 : ∀ b, O5 b ∨ b = gm → w.heap.size ≤ b := fun b hb => by rcases hb with hb | hb; have := o5 b hb; omega; omega
 have HG := Lib.hid hg5
 clear k05 V5 x1 x2 rc M5 cL cM cS cI hsp hg5 o1 o3 o5 t3 t5 v3
 have q0 := Lib.hid (Keeps.refl Nil w5)
 go_upto_region 7 with (go_at_call 16; refine (HC.out.1 _ q0.out).mono ?_; rintro e w6 ⟨rfl, hk⟩; have q1 := Lib.hid (q0.out.trans hk); clear hk)
 go_upto_region 8 with (first | (go_at_call 17; have hp := q1.out; refine (HC.out.2.1 _ hp).mono ?_; clear hp; rintro e w7 ⟨rfl, hk⟩; have q2 := Lib.hid (q1.out.trans hk); clear hk q1) | (go_at_call 13; have hp := q2.out; refine (HC.out.2.2.1 _ hp).mono ?_; clear hp; rintro e w8 ⟨rfl, hk⟩; have q3 := Lib.hid (q2.out.trans hk); clear hk q2))
 go_upto_region 10 with (go_at_call 15; refine (HC.out.2.2.2 _ q3.out).mono ?_; rintro e w9 ⟨rfl, hk⟩; have q4 := Lib.hid (q3.out.trans hk); clear hk q3)
 go_wp2_with fail
 go_loopw [10] (fun iv wr => ∃ (i : Nat) (Or : Nat → Prop), 2 ≤ i ∧ i ≤ p1 ∧ iv = .int .i64 (i : Int) ∧ ArenaIn Or wr ga gm s.A ∧ MeterAt Or wr gm 2000 8 s.sp s.ov ∧ (∀ b, Or b ∨ b = gm → w.heap.size ≤ b) ∧ Keeps Nil w wr) (fun iv _ => p1 - (intOf iv).toNat)
 case atStart => exact ⟨2, O5, by omega, by omega, by go_num, HF.out.1.keep q4.out (fun _ h => h.elim), HF.out.2.1.keepNil q4.out, HG.out, HF.out.2.2.trans q4.out⟩
 case round =>
  rename World => wo
  obtain ⟨i, Or, hi2, hip, rfl, hA, hM, hO, hkw⟩ := hrel
  by_cases hlt : i < p1
  ·have hiA : i < s.A.nodes.length := by have := HP.out.2; omega
   have hNK := HV.out.2.2.2.2.2 i hi2 hiA
   have hkk := HV.out.2.2.2.2.1.kids i hiA
   have hkl := length_kids_le hkk.1 fun k hk => show 0 ≤ k ∧ k < ((i : Nat) : Int) from hkk.2 k hk
   have hsz := hNK.size (by decide) HV.out.1 (by omega)
   have hcall := anode_any hA hiA (by have := HP.out.2; omega) hsz
   obtain ⟨N, hN⟩ : ∃ N, s.A.nodes.getD i zeroN = N := ⟨_, rfl⟩
   rw [hN] at hkk hcall
   have HR := Lib.hid (And.intro hA (And.intro hM (And.intro hO (And.intro hkw (And.intro hkk (And.intro hN (And.intro hiA hcall)))))))
   clear hA hM hO hkw hkk hN hcall hNK hsz hiA hkl
   go_upto_region 14 with (go_at_call 18; refine HR.out.2.2.2.2.2.2.2.mono ?_; rintro e wn ⟨gd, ad, nd, cd, ap, np, cp, gk, ak, nk, ck, aq, nq, cq, els, rfl, hn, -, -, hkn⟩; have HN := Lib.hid (And.intro hn hkn); clear hn hkn)
   have rp := RowIs.alloc (w := wn) (E := 44) (xs := [.int .i64 N.kind, .bool gd, .slice ad nd cd, .slice ap np cp, .bool gk, .slice ak nk ck, .int .i64 N.var, .slice aq nq cq])
   change RowIs (wn.alloc (.cells #[.int .i64 N.kind, .bool gd, .slice ad nd cd, .slice ap np cp, .bool gk, .slice ak nk ck, .int .i64 N.var, .slice aq nq cq] 44)) _ _ _ at rp
   have kb : Keeps Nil wn (wn.alloc (.cells #[.int .i64 N.kind, .bool gd, .slice ad nd cd, .slice ap np cp, .bool gk, .slice ak nk ck, .int .i64 N.var, .slice aq nq cq] 44)) := (by repeat (first | exact Keeps.refl _ _ | refine Keeps.drew ?_ | refine Keeps.drewN ?_ _ | refine Keeps.alloc ?_ _))
   generalize wn.alloc (.cells #[.int .i64 N.kind, .bool gd, .slice ad nd cd, .slice ap np cp, .bool gk, .slice ak nk ck, .int .i64 N.var, .slice aq nq cq] 44) = wb at *
   have krb := HN.out.2.trans kb
   have hkn := HN.out.1.kids.move kb (M2 := Nil) (fun _ _ h => h.elim) fun _ _ h => h.elim
   have hnl : N.kids.length = nq := SlOf.len hkn
   have hcap := SlOf.cap hkn
   have hle := SlOf.le hkn
   have lrp := rp.lt
   have e7 : wb.cell? ⟨wn.heap.size, 7, none⟩ = some (.slice aq nq cq) := rp.cell 7
   have HB := Lib.hid (And.intro rp (And.intro krb (And.intro hkn (And.intro hnl kb))))
   clear rp kb krb hkn hnl
   go_wp2_with fail
   clear e7
   go_loopw [13] (fun kv wq => ∃ q : Nat, q ≤ nq ∧ kv = .int .i64 (q : Int) ∧ Keeps Nil wb wq) (fun kv _ => nq - (intOf kv).toNat)
   case atStart => exact ⟨0, Nat.zero_le _, rfl, Keeps.refl _ _⟩
   case round =>
    obtain ⟨q, hq, rfl, hkq⟩ := hrel
    have e7 : wr.cell? ⟨wn.heap.size, 7, none⟩ = some (.slice aq nq cq) := (HB.out.1.keep hkq id).cell 7
    have lq := Nat.lt_of_lt_of_le lrp hkq.size
    by_cases hltq : q < nq
    ·obtain ⟨b, off, rfl, hc0⟩ := numsAt_cell (HB.out.2.2.1.move hkq (M2 := Nil) (fun _ _ h => h) fun _ _ h => h) hltq
     have hlb : b < wr.heap.size := by
      obtain ⟨b', off', cs', e, hb', _⟩ := SlOf.at (HB.out.2.2.1.move hkq (M2 := Nil) (fun _ _ h => h) fun _ _ h => h) hltq
      cases e; exact hb'
     have hmem : N.kids.getD q 0 ∈ N.kids := getD_mem 0 (by rw [HB.out.2.2.2.1]; exact hltq)
     have hup := (HR.out.2.2.2.2.1.2 _ hmem).2
     obtain ⟨y, hy⟩ : ∃ y, y = N.kids.getD q 0 := ⟨_, rfl⟩
     rw [← hy] at hc0 hup
     have e1 : decide (y ≥ (i : Int)) = false := by simp; omega
     have j0 : (0 : Int) ≤ (q : Int) := by omega
     have j1 : (q : Int) < (nq : Int) := by omega
     have HQ := Lib.hid (And.intro hkq (And.intro hy hup))
     clear hmem hy hup hkq
     by_cases hq0 : q = 0
     ·subst hq0
      simp only [Nat.add_zero] at hc0
      go_upto_region 19 with (fail)
      go_quiet (fail)
      go_wp2_with fail
      go_roundw
      case rel => exact ⟨0 + 1, by omega, by go_num, HQ.out.1.trans (by repeat (first | exact Keeps.refl _ _ | refine Keeps.drew ?_ | refine Keeps.drewN ?_ _ | refine Keeps.alloc ?_ _))⟩
      case measure => simp [intOf]; omega
     ·obtain ⟨r, hr⟩ : ∃ r, r = q - 1 := ⟨_, rfl⟩
      obtain ⟨b', off', e', hc1⟩ := numsAt_cell (HB.out.2.2.1.move HQ.out.1 (M2 := Nil) (fun _ _ h => h) fun _ _ h => h) (i := r) (by omega)
      cases e'
      have hpair := HR.out.2.2.2.2.1.1
      have hlt2 : N.kids.getD r 0 < y := by
       rw [HQ.out.2.1]
       have hn2 : q < N.kids.length := by rw [HB.out.2.2.2.1]; exact hltq
       have hn1 : r < N.kids.length := by omega
       have := List.pairwise_iff_getElem.1 hpair r q hn1 hn2 (by omega)
       simpa [List.getD, hn1, hn2] using this
      obtain ⟨x, hx⟩ : ∃ x, x = N.kids.getD r 0 := ⟨_, rfl⟩
      rw [← hx] at hc1 hlt2
      have e2 : decide ((q : Int) > 0) = true := by simp; omega
      have e3 : decide (x ≥ y) = false := by simp; omega
      have i1 : IntKind.i64.wrap ((q : Int) - 1) = (r : Int) := by rw [show (q : Int) - 1 = (r : Int) by omega]; exact IntWalk.i64_in _ (by omega)
      have j2 : (0 : Int) ≤ (r : Int) := by omega
      have j3 : (r : Int) < (nq : Int) := by omega
      have HX := Lib.hid (And.intro hr (And.intro hlt2 hx))
      have hpos : 0 < q := by omega
      clear hr hlt2 hx hpair hq0
      go_upto_region 19 with (fail)
      go_quiet (fail)
      go_wp2_with fail
      go_roundw
      case rel => exact ⟨q + 1, by omega, by go_num, HQ.out.1.trans (by repeat (first | exact Keeps.refl _ _ | refine Keeps.drew ?_ | refine Keeps.drewN ?_ _ | refine Keeps.alloc ?_ _))⟩
      case measure => simp [intOf]; omega
    ·obtain rfl : q = nq := by omega
     have hkq0 := HB.out.2.1.trans hkq
     have A9 := HR.out.1.keep hkq0 fun _ h => h.elim
     have M9 := HR.out.2.1.keepNil hkq0
     have k09 := HR.out.2.2.2.1.trans hkq0
     have N9 := HN.out.1.move (M2 := Nil) (HB.out.2.2.2.2.trans hkq) (fun _ _ h => h.elim) fun _ _ h => h.elim
     have T9 := HT.out.keepNil k09
     have r9 := HB.out.1.keep hkq id
     obtain ⟨d0, d1, d2, d3', d4, d5', d6, d7⟩ := r9.cells8
     have hO9 := HR.out.2.2.1
     have HZ := Lib.hid (And.intro A9 (And.intro M9 (And.intro k09 (And.intro N9 (And.intro T9 hO9)))))
     clear A9 M9 k09 N9 T9 r9 hkq0 hkq hO9
     go_upto_region 22 with (go_at_call 19; go_loud (refine (remade_any (V := V) (limbs := 8) (i := i) HR.out.2.2.2.2.2.1 HZ.out.1 HZ.out.2.2.2.2.1 (fun b hb => hb) (fun b hb => HZ.out.1.lt b hb) HZ.out.2.1 HZ.out.2.2.2.1 HV.out.2.2.2.2.1 (by decide) HV.out.1 HV.out.2.1 HV.out.2.2.2.2.2 (by decide) hi2 HR.out.2.2.2.2.2.2.1).mono ?_); intro e w10 hst; obtain ⟨rfl, O9, q1, q2, q3, q4', q5⟩ := hst.opens; have HS := Lib.hid (And.intro q1 (And.intro q2 (And.intro q3 (And.intro q4' q5)))); clear hst q1 q2 q3 q4' q5)
     go_wp2_with fail
     go_roundw
     case rel =>
      refine ⟨i + 1, O9, by omega, by omega, by go_num, HS.out.1, HS.out.2.2.2.1.move (Keeps.refl Nil w10) (fun _ _ h => h.elim) fun b _ hb => .inr hb, fun b hb => ?_, HZ.out.2.2.1.trans' HS.out.2.2.2.2 fun b hb => .inr (HZ.out.2.2.2.2.2 b hb)⟩
      have hzs := HZ.out.2.2.1.size
      rcases hb with hb | hb
      ·rcases HS.out.2.2.1 b hb with h | h
       ·exact HZ.out.2.2.2.2.2 b (.inl h)
       ·omega
      ·exact HZ.out.2.2.2.2.2 b (.inr hb)
     case measure => simp [intOf]; omega
  ·obtain rfl : i = p1 := by omega
   have HR := Lib.hid hkw
   clear hA hM hO hkw
   go_wp2_with fail
   go_ret
   exact ⟨rfl, HR.out⟩
end Go.Proofs.YtnheefnlcnkefaaGreatDoor
