/- What the law's remade does: a node of the arena, made again, is itself. Conditions: the arena stands; the library's table; room. -/
import Derived.Test.YtnheefnlcnkefaaGreatDoorKANode
import Derived.Test.YtnheefnlcnkefaaGreatDoorKOnces
import Derived.Test.YtnheefnlcnkefaaGreatDoorKBuilt
namespace Go.Proofs.YtnheefnlcnkefaaGreatDoor
open Go.RowKit Go.Rid
theorem AStep.early {O M0 : Nat → Prop} {w w0 w' : World} {g gm : Nat} {nodes limbs : Int} {r : (Int × Int) × ArenaV × (Int × Int)} {e : Ending} (h : AStep O M0 w0 g gm nodes limbs r e w') (k : Keeps Nil w w0) : AStep O M0 w g gm nodes limbs r e w' := by
 obtain ⟨h1, ⟨O', q1, q2, q3, q4⟩, hk⟩ := h
 exact ⟨h1, ⟨O', q1, q2, fun b hb => (q3 b hb).imp id fun hx => Nat.le_trans k.size hx, q4⟩, k.of_nil.trans hk⟩
set_option maxHeartbeats 4000000 in
set_option maxRecDepth 100000 in
theorem remade_any {B0 : Nat} {O M0 : Nat → Prop} {w : World} {g gm : Nat} {A : ArenaV} {V : List Int} {nodes limbs sp ov : Int} {i : Nat} {N : NodeV} {gd gk : Bool} {ad ap ak aq : Option Addr} {nd cd np cp nk ck nq cq : Nat} (hN : A.nodes.getD i zeroN = N) (hA : ArenaIn O w g gm A) (hT : Tab B0 w) (hO : ∀ b, O b → M0 b) (hM0 : MB M0 w) (hm : MeterAt M0 w gm nodes limbs sp ov)
  (h : NodeAt Nil w gd ad nd cd ap np cp gk ak nk ck aq nq cq N) (hI : InvA V nodes A sp) (hn : nodes ≤ 2000) (hV : V.length ≤ 262144) (hV2 : ∀ v ∈ V, I64 v) (hK : AllN (NodeK V limbs) A) (hl8 : limbs ≤ 8) (h2 : 2 ≤ i) (hi : i < A.nodes.length) :
  Calls Tryz.prog 19 #[.pointer (some ⟨g, 0, none⟩), .agg #[.int .i64 N.kind, .bool gd, .slice ad nd cd, .slice ap np cp, .bool gk, .slice ak nk ck, .int .i64 N.var, .slice aq nq cq]] w fun e w' => AStep O M0 w g gm nodes limbs (((i : Int), 0), A, (sp, ov)) e w' := by
 have hr := remade_law (limbs := limbs) (sp := sp) (ov := ov) hI (fun _ h => NodeK.again h) hK h2 hi
 have hNK := hK i h2 hi
 have hF := hI.once.form i h2 hi
 have hkk := hI.kids i hi
 rw [hN] at hr hNK hF hkk
 have g1 := hI.sp0
 have g2 := hI.spn
 have g3 : A.cnt < 1000000 := by have := hI.cnt; omega
 have g4 : A.nodes.length ≤ 1000000 := by have := hI.used; omega
 have g5 := hI.once.two
 have hkl := length_kids_le hkk.1 fun k hk => show 0 ≤ k ∧ k < ((i : Nat) : Int) from hkk.2 k hk
 have hkr : ∀ k ∈ N.kids, 0 ≤ k ∧ k < (A.nodes.length : Int) := fun k hk => by have := hkk.2 k hk; omega
 have hok := hNK.ok hl8 hV hV2 hF (fun x hx => by have := hkr x hx; omega) (by omega)
 have hkids : N.kids.length = nq := SlOf.len h.kids
 have HA := Lib.hid (And.intro hA (And.intro hT (And.intro hO (And.intro hM0 (And.intro hm (And.intro h (And.intro hI (And.intro hV (And.intro hV2 hNK)))))))))
 have HK := Lib.hid (And.intro hF (And.intro hkk (And.intro hkr (And.intro hok (And.intro hkl hkids)))))
 have HN := Lib.hid hN
 clear hA hT hO hM0 hm h hI hV hV2 hNK hK hF hkk hkr hok hkl hkids hN
 unfold remadeM at hr
 go_enter Tryz.func19, Tryz.ntmps19
 go_upto_region 1 with (fail)
 have r0 := RowIs.alloc (w := w) (E := 44) (xs := [.int .i64 N.kind, .bool gd, .slice ad nd cd, .slice ap np cp, .bool gk, .slice ak nk ck, .int .i64 N.var, .slice aq nq cq])
 change RowIs (w.alloc (.cells #[.int .i64 N.kind, .bool gd, .slice ad nd cd, .slice ap np cp, .bool gk, .slice ak nk ck, .int .i64 N.var, .slice aq nq cq] 44)) _ _ _ at r0
 have k0 : Keeps Nil w (w.alloc (.cells #[.int .i64 N.kind, .bool gd, .slice ad nd cd, .slice ap np cp, .bool gk, .slice ak nk ck, .int .i64 N.var, .slice aq nq cq] 44)) := (by repeat (first | exact Keeps.refl _ _ | refine Keeps.drew ?_ | refine Keeps.drewN ?_ _ | refine Keeps.alloc ?_ _))
 generalize (w.alloc (.cells #[.int .i64 N.kind, .bool gd, .slice ad nd cd, .slice ap np cp, .bool gk, .slice ak nk ck, .int .i64 N.var, .slice aq nq cq] 44)) = w0 at *
 have c0 : w0.cell? ⟨w.heap.size, 0, none⟩ = some (.int .i64 N.kind) := r0.cell 0
 have c1 : w0.cell? ⟨w.heap.size, 1, none⟩ = some (.bool gd) := r0.cell 1
 have c2 : w0.cell? ⟨w.heap.size, 2, none⟩ = some (.slice ad nd cd) := r0.cell 2
 have c3 : w0.cell? ⟨w.heap.size, 3, none⟩ = some (.slice ap np cp) := r0.cell 3
 have c4 : w0.cell? ⟨w.heap.size, 4, none⟩ = some (.bool gk) := r0.cell 4
 have c5 : w0.cell? ⟨w.heap.size, 5, none⟩ = some (.slice ak nk ck) := r0.cell 5
 have c6 : w0.cell? ⟨w.heap.size, 6, none⟩ = some (.int .i64 N.var) := r0.cell 6
 have c7 : w0.cell? ⟨w.heap.size, 7, none⟩ = some (.slice aq nq cq) := r0.cell 7
 have A0 := HA.out.1.keep k0 fun _ h => h.elim
 have T0 := HA.out.2.1.keepNil k0
 have M0' := HA.out.2.2.2.2.1.keepNil k0
 have N0 := HA.out.2.2.2.2.2.1.move (M2 := Nil) k0 (fun _ _ h => h) fun _ _ h => h
 have H0 := Lib.hid (And.intro k0 (And.intro r0 (And.intro A0 (And.intro T0 (And.intro M0' N0)))))
 clear k0 r0 A0 T0 M0' N0
 by_cases k5 : N.kind = 5 ∨ N.kind = 6
 ·rw [if_pos k5] at hr
  have hid : neatF N.kids = N.kids := neatF_id HK.out.2.1.1
  have hroom := room_kids (V := V) (kind := N.kind) (v := 0) HA.out.2.2.2.2.2.2.1 hn HA.out.2.2.2.2.2.2.2.1 (by omega) (by omega) (fun _ => rfl) HK.out.2.1.1 HK.out.2.2.1
  rw [← hid] at hroom
  have HR := Lib.hid (And.intro hr hroom)
  clear hr hroom hid
  rcases k5 with hk | hk
  all_goals
   rw [hk] at c0 HR
   go_wp2_with (go_at_call 26; go_loud (refine (ajoin_any H0.out.2.2.1 H0.out.2.2.2.1 HA.out.2.2.1 (HA.out.2.2.2.1.keep H0.out.1) H0.out.2.2.2.2.1 H0.out.2.2.2.2.2.kids g1 g2 hn g3 g4 g5 (by have := HK.out.2.2.2.2.1; omega) HR.out.2).mono ?_); rintro e w1 hst; rw [HR.out.1] at hst; obtain rfl := hst.1; have H1 := Lib.hid hst; clear hst)
   go_ret2
   exact H1.out.early H0.out.1
 rw [if_neg k5] at hr
 by_cases k7 : N.kind = 7 ∨ N.kind = 8
 ·rw [if_pos k7] at hr
  have hbn := HA.out.2.2.2.2.2.2.2.2.2.again.bind k7
  obtain ⟨k, hkd⟩ : ∃ k, k = N.kids.getD 0 0 := ⟨_, rfl⟩
  rw [← hkd] at hr hbn
  have hkids : N.kids = [k] := by rw [hbn]
  have hnq : nq = 1 := by have := HK.out.2.2.2.2.2; rw [hkids] at this; exact this.symm
  subst hnq
  obtain ⟨b, off, rfl, cq0⟩ := numsAt_cell H0.out.2.2.2.2.2.kids (i := 0) (by omega)
  have hgq : N.kids.getD 0 0 = k := hkd.symm
  rw [hgq] at cq0
  have hbq : b < w0.heap.size := by
   obtain ⟨b', off', cs', e, hb', _⟩ := SlOf.at H0.out.2.2.2.2.2.kids (i := 0) (by omega)
   cases e; exact hb'
  have hroom := room_kids (V := V) (kind := N.kind) (v := N.var) (ks := [k]) HA.out.2.2.2.2.2.2.1 hn HA.out.2.2.2.2.2.2.2.1 (by omega) (by omega) (fun h => by omega) (List.pairwise_singleton _ _) (fun x hx => HK.out.2.2.1 x (by rw [hkids]; exact hx))
  have HR := Lib.hid (And.intro hr (And.intro hroom HA.out.2.2.2.2.2.2.2.2.2.var))
  clear hr hroom hbn hkd hkids hgq
  simp only [Nat.mul_zero, Nat.zero_mul, Nat.add_zero] at cq0
  have HQ := Lib.hid cq0
  have K7 := Lib.hid k7
  rcases k7 with hk | hk
  ·have HR1 := HR.out.1
   have HR2 := HR.out.2.1
   have HC0 := Lib.hid hk
   rw [hk] at c0 HR1 HR2
   have HS := Lib.hid (And.intro HR1 HR2)
   clear HR1 HR2 c1 c2 c3 c4 c5 c6 c7 cq0 hk
   go_upto_region 4 with (fail)
   clear c0
   refine wp_region_factsT [9, 10, 11, 12, 13] [30, 31, 32, 33, 34, 35, 36, 37, 38, 39, 40, 41, 4, 5] [30, 31, 32, 33, 34, 35, 36, 37, 38] [Un (LitV ?v1_0), Un (LitV ?v1_1), Un (LitV ?v1_2), Un (LitV ?v1_3), Un (LitV ?v1_4), Un (LitV ?v1_5), Un (LitV ?v1_6), Un (LitV ?v1_7), Un (LitV ?v1_8), nothing, nothing, nothing, nothing, nothing] (by kernel_rfl) (by kernel_rfl) ?rst1 ?rsb1 ?rfn1
   case' rst1 =>
    show FactStepsT _ _ _ _ _ _ _ _ _ 14
    refine (FactStepsT.skip (n := 13) (by decide) (FactStepsT.skip (n := 12) (by decide) (FactStepsT.skip (n := 11) (by decide) (FactStepsT.skip (n := 10) (by decide) (FactStepsT.skip (n := 9) (by decide) (FactStepsT.succ (n := 8) rfl ?r1_8 (FactStepsT.succ (n := 7) rfl ?r1_7 (FactStepsT.succ (n := 6) rfl ?r1_6 (FactStepsT.succ (n := 5) rfl ?r1_5 (FactStepsT.succ (n := 4) rfl ?r1_4 (FactStepsT.succ (n := 3) rfl ?r1_3 (FactStepsT.succ (n := 2) rfl ?r1_2 (FactStepsT.succ (n := 1) rfl ?r1_1 (FactStepsT.succ (n := 0) rfl ?r1_0 FactStepsT.zero))))))))))))))
   case' r1_0 | r1_1 | r1_3 | r1_5 =>
    intro us wj hk hp K hK
    try simp only [putAll, Act.put, sL] at hK ⊢
    obtain ⟨d0, d1, d2, d3, d4, d5, d6, d7⟩ := (H0.out.2.1.keep hk id).cells8
    have hq0 := hk.cellE hbq id HQ.out
    have lq := Nat.lt_of_lt_of_le hbq hk.size
    rw [HC0.out] at d0
    go_simp
    refine hK.out _ _ ?_ ?_
    ·exact Keeps.refl _ _
    ·exact rfl
   case' r1_2 =>
    intro us wj hk hp K hK
    try simp only [putAll, Act.put, sL] at hK ⊢
    obtain ⟨d0, d1, d2, d3, d4, d5, d6, d7⟩ := (H0.out.2.1.keep hk id).cells8
    have hq0 := hk.cellE hbq id HQ.out
    have lq := Nat.lt_of_lt_of_le hbq hk.size
    rw [HC0.out] at d0
    have e1 : us 31 = _ := hp 1 (by kernel_rfl)
    rw [e1] at hK ⊢
    go_simp
    refine hK.out _ _ ?_ ?_
    ·exact Keeps.refl _ _
    ·exact rfl
   case' r1_4 =>
    intro us wj hk hp K hK
    try simp only [putAll, Act.put, sL] at hK ⊢
    obtain ⟨d0, d1, d2, d3, d4, d5, d6, d7⟩ := (H0.out.2.1.keep hk id).cells8
    have hq0 := hk.cellE hbq id HQ.out
    have lq := Nat.lt_of_lt_of_le hbq hk.size
    rw [HC0.out] at d0
    have e3 : us 33 = _ := hp 3 (by kernel_rfl)
    rw [e3] at hK ⊢
    go_simp
    refine hK.out _ _ ?_ ?_
    ·exact Keeps.refl _ _
    ·exact rfl
   case' r1_6 =>
    intro us wj hk hp K hK
    try simp only [putAll, Act.put, sL] at hK ⊢
    obtain ⟨d0, d1, d2, d3, d4, d5, d6, d7⟩ := (H0.out.2.1.keep hk id).cells8
    have hq0 := hk.cellE hbq id HQ.out
    have lq := Nat.lt_of_lt_of_le hbq hk.size
    rw [HC0.out] at d0
    have e5 : us 35 = _ := hp 5 (by kernel_rfl)
    rw [e5] at hK ⊢
    go_simp
    refine hK.out _ _ ?_ ?_
    ·exact Keeps.refl _ _
    ·exact rfl
   case' r1_7 =>
    intro us wj hk hp K hK
    try simp only [putAll, Act.put, sL] at hK ⊢
    obtain ⟨d0, d1, d2, d3, d4, d5, d6, d7⟩ := (H0.out.2.1.keep hk id).cells8
    have hq0 := hk.cellE hbq id HQ.out
    have lq := Nat.lt_of_lt_of_le hbq hk.size
    rw [HC0.out] at d0
    have e6 : us 36 = _ := hp 6 (by kernel_rfl)
    rw [e6] at hK ⊢
    go_simp
    refine hK.out _ _ ?_ ?_
    ·exact Keeps.refl _ _
    ·exact rfl
   case' r1_8 =>
    intro us wj hk hp K hK
    try simp only [putAll, Act.put, sL] at hK ⊢
    obtain ⟨d0, d1, d2, d3, d4, d5, d6, d7⟩ := (H0.out.2.1.keep hk id).cells8
    have hq0 := hk.cellE hbq id HQ.out
    have lq := Nat.lt_of_lt_of_le hbq hk.size
    rw [HC0.out] at d0
    have e7 : us 37 = _ := hp 7 (by kernel_rfl)
    rw [e7] at hK ⊢
    go_simp
    refine hK.out _ _ ?_ ?_
    ·exact Keeps.refl _ _
    ·exact rfl
   case' rsb1 => exact Stables.cons (Stables.cons (Stables.cons (Stables.cons (Stables.cons (Stables.cons (Stables.cons (Stables.cons (Stables.cons (Stables.cons (Stables.cons (Stables.cons (Stables.cons (Stables.cons (Stables.nil))))))))))))))
   case' rfn1 =>
   intro us wz hkz hf
   simp only [putAll, Act.put, sL]
   have e0 : us 30 = _ := hf 0 (by decide) (by decide)
   have e1 : us 31 = _ := hf 1 (by decide) (by decide)
   have e2 : us 32 = _ := hf 2 (by decide) (by decide)
   have e3 : us 33 = _ := hf 3 (by decide) (by decide)
   have e4 : us 34 = _ := hf 4 (by decide) (by decide)
   have e5 : us 35 = _ := hf 5 (by decide) (by decide)
   have e6 : us 36 = _ := hf 6 (by decide) (by decide)
   have e7 : us 37 = _ := hf 7 (by decide) (by decide)
   have e8 : us 38 = _ := hf 8 (by decide) (by decide)
   clear hf
   simp only [e0, e1, e2, e3, e4, e5, e6, e7, e8]
   clear e0 e1 e2 e3 e4 e5 e6 e7 e8 us
   refine wpTill_ready (rs := [9]) (by kernel_rfl) (by simp) ?_
   refine AllTill.cons rfl (fun K hK => ?_) AllTill.nil
   go_simp
   refine (abind_any (H0.out.2.2.1.keep hkz fun _ h => h.elim) (H0.out.2.2.2.1.keepNil hkz) HA.out.2.2.1 (HA.out.2.2.2.1.keep (H0.out.1.trans hkz)) (H0.out.2.2.2.2.1.keepNil hkz) HR.out.2.2 g1 g2 hn g3 g4 g5 HS.out.2).mono ?_
   intro e wb hst
   rw [HS.out.1] at hst
   obtain rfl := hst.1
   have H1 := Lib.hid hst
   clear hst
   skip
   refine hK.out _ _ (fun _ => trivial) ?_
   clear hK K
   try simp only [Act.put, sL]
   refine wpTill_ready (rs := [10, 11]) (by kernel_rfl) (by simp) ?_
   refine (AllTill.cons rfl (fun K hK => ?t2_10) (AllTill.cons rfl (fun K hK => ?t2_11) AllTill.nil))
   case t2_10 =>
    go_simp
    refine hK.out _ _ (fun _ => trivial) ?_
    clear hK K
    try simp only [Act.put, sL]
    refine wpTill_ready (rs := [11]) (by kernel_rfl) (by simp) ?_
    refine AllTill.cons rfl (fun K hK => ?_) AllTill.nil
    go_simp
    refine hK.out _ _ (fun _ => trivial) ?_
    clear hK K
    try simp only [Act.put, sL]
    refine wpTill_ready (rs := [12]) (by kernel_rfl) (by simp) ?_
    refine AllTill.cons rfl (fun K hK => ?_) AllTill.nil
    go_simp
    refine hK.out _ _ (fun _ => trivial) ?_
    clear hK K
    try simp only [Act.put, sL]
    refine wpTill_ready (rs := [13]) (by kernel_rfl) (by simp) ?_
    refine AllTill.cons rfl (fun K hK => ?_) AllTill.nil
    go_simp
    refine hK.out _ _ (fun _ => trivial) ?_
    clear hK K
    try simp only [Act.put, sL]
    refine wpTill_done (by kernel_rfl) ?_ _
    go_wp2_with fail
    go_ret2
    exact H1.out.early (H0.out.1.trans hkz)
   case t2_11 =>
    go_simp
    refine hK.out _ _ (fun _ => trivial) ?_
    clear hK K
    try simp only [Act.put, sL]
    refine wpTill_ready (rs := [10]) (by kernel_rfl) (by simp) ?_
    refine AllTill.cons rfl (fun K hK => ?_) AllTill.nil
    go_simp
    refine hK.out _ _ (fun _ => trivial) ?_
    clear hK K
    try simp only [Act.put, sL]
    refine wpTill_ready (rs := [12]) (by kernel_rfl) (by simp) ?_
    refine AllTill.cons rfl (fun K hK => ?_) AllTill.nil
    go_simp
    refine hK.out _ _ (fun _ => trivial) ?_
    clear hK K
    try simp only [Act.put, sL]
    refine wpTill_ready (rs := [13]) (by kernel_rfl) (by simp) ?_
    refine AllTill.cons rfl (fun K hK => ?_) AllTill.nil
    go_simp
    refine hK.out _ _ (fun _ => trivial) ?_
    clear hK K
    try simp only [Act.put, sL]
    refine wpTill_done (by kernel_rfl) ?_ _
    go_wp2_with fail
    go_ret2
    exact H1.out.early (H0.out.1.trans hkz)
  ·have HR1 := HR.out.1
   have HR2 := HR.out.2.1
   have HC0 := Lib.hid hk
   rw [hk] at c0 HR1 HR2
   have HS := Lib.hid (And.intro HR1 HR2)
   clear HR1 HR2 c1 c2 c3 c4 c5 c6 c7 cq0 hk
   go_upto_region 4 with (fail)
   clear c0
   refine wp_region_factsT [9, 10, 11, 12, 13] [30, 31, 32, 33, 34, 35, 36, 37, 38, 39, 40, 41, 4, 5] [30, 31, 32, 33, 34, 35, 36, 37, 38] [Un (LitV ?v3_0), Un (LitV ?v3_1), Un (LitV ?v3_2), Un (LitV ?v3_3), Un (LitV ?v3_4), Un (LitV ?v3_5), Un (LitV ?v3_6), Un (LitV ?v3_7), Un (LitV ?v3_8), nothing, nothing, nothing, nothing, nothing] (by kernel_rfl) (by kernel_rfl) ?rst3 ?rsb3 ?rfn3
   case' rst3 =>
    show FactStepsT _ _ _ _ _ _ _ _ _ 14
    refine (FactStepsT.skip (n := 13) (by decide) (FactStepsT.skip (n := 12) (by decide) (FactStepsT.skip (n := 11) (by decide) (FactStepsT.skip (n := 10) (by decide) (FactStepsT.skip (n := 9) (by decide) (FactStepsT.succ (n := 8) rfl ?r3_8 (FactStepsT.succ (n := 7) rfl ?r3_7 (FactStepsT.succ (n := 6) rfl ?r3_6 (FactStepsT.succ (n := 5) rfl ?r3_5 (FactStepsT.succ (n := 4) rfl ?r3_4 (FactStepsT.succ (n := 3) rfl ?r3_3 (FactStepsT.succ (n := 2) rfl ?r3_2 (FactStepsT.succ (n := 1) rfl ?r3_1 (FactStepsT.succ (n := 0) rfl ?r3_0 FactStepsT.zero))))))))))))))
   case' r3_0 | r3_1 | r3_3 | r3_5 =>
    intro us wj hk hp K hK
    try simp only [putAll, Act.put, sL] at hK ⊢
    obtain ⟨d0, d1, d2, d3, d4, d5, d6, d7⟩ := (H0.out.2.1.keep hk id).cells8
    have hq0 := hk.cellE hbq id HQ.out
    have lq := Nat.lt_of_lt_of_le hbq hk.size
    rw [HC0.out] at d0
    go_simp
    refine hK.out _ _ ?_ ?_
    ·exact Keeps.refl _ _
    ·exact rfl
   case' r3_2 =>
    intro us wj hk hp K hK
    try simp only [putAll, Act.put, sL] at hK ⊢
    obtain ⟨d0, d1, d2, d3, d4, d5, d6, d7⟩ := (H0.out.2.1.keep hk id).cells8
    have hq0 := hk.cellE hbq id HQ.out
    have lq := Nat.lt_of_lt_of_le hbq hk.size
    rw [HC0.out] at d0
    have e1 : us 31 = _ := hp 1 (by kernel_rfl)
    rw [e1] at hK ⊢
    go_simp
    refine hK.out _ _ ?_ ?_
    ·exact Keeps.refl _ _
    ·exact rfl
   case' r3_4 =>
    intro us wj hk hp K hK
    try simp only [putAll, Act.put, sL] at hK ⊢
    obtain ⟨d0, d1, d2, d3, d4, d5, d6, d7⟩ := (H0.out.2.1.keep hk id).cells8
    have hq0 := hk.cellE hbq id HQ.out
    have lq := Nat.lt_of_lt_of_le hbq hk.size
    rw [HC0.out] at d0
    have e3 : us 33 = _ := hp 3 (by kernel_rfl)
    rw [e3] at hK ⊢
    go_simp
    refine hK.out _ _ ?_ ?_
    ·exact Keeps.refl _ _
    ·exact rfl
   case' r3_6 =>
    intro us wj hk hp K hK
    try simp only [putAll, Act.put, sL] at hK ⊢
    obtain ⟨d0, d1, d2, d3, d4, d5, d6, d7⟩ := (H0.out.2.1.keep hk id).cells8
    have hq0 := hk.cellE hbq id HQ.out
    have lq := Nat.lt_of_lt_of_le hbq hk.size
    rw [HC0.out] at d0
    have e5 : us 35 = _ := hp 5 (by kernel_rfl)
    rw [e5] at hK ⊢
    go_simp
    refine hK.out _ _ ?_ ?_
    ·exact Keeps.refl _ _
    ·exact rfl
   case' r3_7 =>
    intro us wj hk hp K hK
    try simp only [putAll, Act.put, sL] at hK ⊢
    obtain ⟨d0, d1, d2, d3, d4, d5, d6, d7⟩ := (H0.out.2.1.keep hk id).cells8
    have hq0 := hk.cellE hbq id HQ.out
    have lq := Nat.lt_of_lt_of_le hbq hk.size
    rw [HC0.out] at d0
    have e6 : us 36 = _ := hp 6 (by kernel_rfl)
    rw [e6] at hK ⊢
    go_simp
    refine hK.out _ _ ?_ ?_
    ·exact Keeps.refl _ _
    ·exact rfl
   case' r3_8 =>
    intro us wj hk hp K hK
    try simp only [putAll, Act.put, sL] at hK ⊢
    obtain ⟨d0, d1, d2, d3, d4, d5, d6, d7⟩ := (H0.out.2.1.keep hk id).cells8
    have hq0 := hk.cellE hbq id HQ.out
    have lq := Nat.lt_of_lt_of_le hbq hk.size
    rw [HC0.out] at d0
    have e7 : us 37 = _ := hp 7 (by kernel_rfl)
    rw [e7] at hK ⊢
    go_simp
    refine hK.out _ _ ?_ ?_
    ·exact Keeps.refl _ _
    ·exact rfl
   case' rsb3 => exact Stables.cons (Stables.cons (Stables.cons (Stables.cons (Stables.cons (Stables.cons (Stables.cons (Stables.cons (Stables.cons (Stables.cons (Stables.cons (Stables.cons (Stables.cons (Stables.cons (Stables.nil))))))))))))))
   case' rfn3 =>
   intro us wz hkz hf
   simp only [putAll, Act.put, sL]
   have e0 : us 30 = _ := hf 0 (by decide) (by decide)
   have e1 : us 31 = _ := hf 1 (by decide) (by decide)
   have e2 : us 32 = _ := hf 2 (by decide) (by decide)
   have e3 : us 33 = _ := hf 3 (by decide) (by decide)
   have e4 : us 34 = _ := hf 4 (by decide) (by decide)
   have e5 : us 35 = _ := hf 5 (by decide) (by decide)
   have e6 : us 36 = _ := hf 6 (by decide) (by decide)
   have e7 : us 37 = _ := hf 7 (by decide) (by decide)
   have e8 : us 38 = _ := hf 8 (by decide) (by decide)
   clear hf
   simp only [e0, e1, e2, e3, e4, e5, e6, e7, e8]
   clear e0 e1 e2 e3 e4 e5 e6 e7 e8 us
   refine wpTill_ready (rs := [9]) (by kernel_rfl) (by simp) ?_
   refine AllTill.cons rfl (fun K hK => ?_) AllTill.nil
   go_simp
   refine (abind_any (H0.out.2.2.1.keep hkz fun _ h => h.elim) (H0.out.2.2.2.1.keepNil hkz) HA.out.2.2.1 (HA.out.2.2.2.1.keep (H0.out.1.trans hkz)) (H0.out.2.2.2.2.1.keepNil hkz) HR.out.2.2 g1 g2 hn g3 g4 g5 HS.out.2).mono ?_
   intro e wb hst
   rw [HS.out.1] at hst
   obtain rfl := hst.1
   have H1 := Lib.hid hst
   clear hst
   skip
   refine hK.out _ _ (fun _ => trivial) ?_
   clear hK K
   try simp only [Act.put, sL]
   refine wpTill_ready (rs := [10, 11]) (by kernel_rfl) (by simp) ?_
   refine (AllTill.cons rfl (fun K hK => ?t4_10) (AllTill.cons rfl (fun K hK => ?t4_11) AllTill.nil))
   case t4_10 =>
    go_simp
    refine hK.out _ _ (fun _ => trivial) ?_
    clear hK K
    try simp only [Act.put, sL]
    refine wpTill_ready (rs := [11]) (by kernel_rfl) (by simp) ?_
    refine AllTill.cons rfl (fun K hK => ?_) AllTill.nil
    go_simp
    refine hK.out _ _ (fun _ => trivial) ?_
    clear hK K
    try simp only [Act.put, sL]
    refine wpTill_ready (rs := [12]) (by kernel_rfl) (by simp) ?_
    refine AllTill.cons rfl (fun K hK => ?_) AllTill.nil
    go_simp
    refine hK.out _ _ (fun _ => trivial) ?_
    clear hK K
    try simp only [Act.put, sL]
    refine wpTill_ready (rs := [13]) (by kernel_rfl) (by simp) ?_
    refine AllTill.cons rfl (fun K hK => ?_) AllTill.nil
    go_simp
    refine hK.out _ _ (fun _ => trivial) ?_
    clear hK K
    try simp only [Act.put, sL]
    refine wpTill_done (by kernel_rfl) ?_ _
    go_wp2_with fail
    go_ret2
    exact H1.out.early (H0.out.1.trans hkz)
   case t4_11 =>
    go_simp
    refine hK.out _ _ (fun _ => trivial) ?_
    clear hK K
    try simp only [Act.put, sL]
    refine wpTill_ready (rs := [10]) (by kernel_rfl) (by simp) ?_
    refine AllTill.cons rfl (fun K hK => ?_) AllTill.nil
    go_simp
    refine hK.out _ _ (fun _ => trivial) ?_
    clear hK K
    try simp only [Act.put, sL]
    refine wpTill_ready (rs := [12]) (by kernel_rfl) (by simp) ?_
    refine AllTill.cons rfl (fun K hK => ?_) AllTill.nil
    go_simp
    refine hK.out _ _ (fun _ => trivial) ?_
    clear hK K
    try simp only [Act.put, sL]
    refine wpTill_ready (rs := [13]) (by kernel_rfl) (by simp) ?_
    refine AllTill.cons rfl (fun K hK => ?_) AllTill.nil
    go_simp
    refine hK.out _ _ (fun _ => trivial) ?_
    clear hK K
    try simp only [Act.put, sL]
    refine wpTill_done (by kernel_rfl) ?_ _
    go_wp2_with fail
    go_ret2
    exact H1.out.early (H0.out.1.trans hkz)
 ·rw [if_neg k7] at hr
  have hF := HK.out.1
  have hNK := HA.out.2.2.2.2.2.2.2.2.2
  obtain ⟨q1, q2, q3⟩ := hNK.again.atom (by have := hF.1; have := hF.2.1; omega)
  have hnT : normT ⟨N.t.parts, N.t.k⟩ = ⟨N.t.parts, N.t.k⟩ := normT_neat (T := ⟨N.t.parts, N.t.k⟩) hNK.neat
  have hpl := length_parts_le hNK.neat hNK.vars
  have hVl := HA.out.2.2.2.2.2.2.2.1
  have hwee : Wee (normT ⟨N.t.parts, N.t.k⟩) := by rw [hnT]; exact ⟨fun p hp => by have := hNK.nums p hp; omega, by have := hNK.k; simp only; omega, by simp only; omega⟩
  have hok : 2 ≤ (normR ⟨N.kind, N.d, ⟨N.t.parts, N.t.k⟩⟩).2.kind → OkB A (normR ⟨N.kind, N.d, ⟨N.t.parts, N.t.k⟩⟩).2 := fun _ => by
   rw [show normR ⟨N.kind, N.d, ⟨N.t.parts, N.t.k⟩⟩ = (0, ⟨N.kind, N.d, N.t⟩) from q2]
   refine ⟨by rw [← q3]; exact HK.out.2.2.2.1.1, by rw [← q3]; exact HK.out.2.2.2.1.2, ⟨fun p hp => by have := hNK.nums p hp; omega, by have := hNK.k; simp only; omega, by simp only; omega⟩, by have := hNK.d; simp only; omega, ?_⟩
   rw [← q3]
   refine freeRaw_room HA.out.2.2.2.2.2.2.1 hn hVl ?_ ⟨hF, fun v hv => ?_, HK.out.2.1.1, HK.out.2.2.1⟩
   ·rw [neatL_of_neat hNK.neat]; omega
   ·rw [neatL_of_neat hNK.neat] at hv
    obtain ⟨p, hp, rfl⟩ := List.mem_map.1 hv
    exact hNK.vars p hp
  have k5a : (N.kind == 5) = false := by simp; omega
  have k6a : (N.kind == 6) = false := by simp; omega
  have k7a : (N.kind == 7) = false := by simp; omega
  have k8a : (N.kind == 8) = false := by simp; omega
  have z1 := H0.out.2.2.2.2.2.d
  have z2 := H0.out.2.2.2.2.2.t.2
  have z3 := H0.out.2.2.2.2.2.t.1
  have b1 : nlen N.d.natAbs ≤ 8 := by have := hNK.d; omega
  have b2 : nlen N.t.k.natAbs ≤ 8 := by have := hNK.k; omega
  have b3 : ∀ p ∈ N.t.parts, nlen p.2.natAbs ≤ 1073741824 := fun p hp => by have := hNK.nums p hp; omega
  have HR := Lib.hid (And.intro hr (And.intro hwee (And.intro hok (And.intro (z1.zat (by omega)) (And.intro (NParts.raw z3 b3) (And.intro (z2.zat (by omega)) (And.intro b1 (And.intro (show np ≤ 16777216 by have := SlOf.len z3; omega) (show nk ≤ 1073741824 by have := z2.len; omega)))))))))
  clear hr hwee hok hF hNK q1 q2 q3 hnT hpl hVl z1 z2 z3 b1 b2 b3
  go_wp2_with (go_at_call 24; go_loud (refine (aatom_any H0.out.2.2.1 H0.out.2.2.2.1 HA.out.2.2.1 (HA.out.2.2.2.1.keep H0.out.1) H0.out.2.2.2.2.1 HR.out.2.2.2.1 HR.out.2.2.2.2.1 HR.out.2.2.2.2.2.1 HR.out.2.2.2.2.2.2.2.1 HR.out.2.2.2.2.2.2.2.2 HR.out.2.1 (by have := HR.out.2.2.2.2.2.2.1; omega) g1 g2 hn g3 g4 g5 HR.out.2.2.1).mono ?_); intro e w3 hst; rw [show atomM A nodes limbs sp ov ⟨N.kind, N.d, ⟨N.t.parts, N.t.k⟩⟩ = _ from HR.out.1] at hst; obtain rfl := hst.1; have H1 := Lib.hid hst; clear hst)
  go_ret2
  exact H1.out.early H0.out.1
end Go.Proofs.YtnheefnlcnkefaaGreatDoor
