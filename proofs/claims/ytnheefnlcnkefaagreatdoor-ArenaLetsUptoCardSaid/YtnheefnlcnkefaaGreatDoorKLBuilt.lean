/- What the laws' built does: a recipe's nodes in an arena. Conditions: the arena stands; the recipe reads; the library's table; room. -/
import Derived.Test.YtnheefnlcnkefaaGreatDoorKLReadsB
namespace Go.Rid
open Go.RowKit
def Cells9 (w : World) (b o : Nat) (gd gk : Bool) (ad ap ak aq : Option Addr) (nd cd np cp nk ck nq cq : Nat) (m : MakeV) : Prop :=
 w.cell? ⟨b, o, none⟩ = some (.int .i64 m.kind) ∧ w.cell? ⟨b, o + 1, none⟩ = some (.int .i64 m.x.kind) ∧ w.cell? ⟨b, o + 2, none⟩ = some (.bool gd) ∧ w.cell? ⟨b, o + 3, none⟩ = some (.slice ad nd cd) ∧ w.cell? ⟨b, o + 4, none⟩ = some (.slice ap np cp) ∧ w.cell? ⟨b, o + 5, none⟩ = some (.bool gk) ∧ w.cell? ⟨b, o + 6, none⟩ = some (.slice ak nk ck) ∧ w.cell? ⟨b, o + 7, none⟩ = some (.int .i64 m.v) ∧ w.cell? ⟨b, o + 8, none⟩ = some (.slice aq nq cq)
theorem MakesAt.at {M : Nat → Prop} {w : World} {a : Option Addr} {n c : Nat} {l : List MakeV} (h : MakesAt M w a n c l) {i : Nat} (hi : i < n) :
  ∃ b off gd gk ad ap ak aq nd cd np cp nk ck nq cq, a = some ⟨b, off, none⟩ ∧ b < w.heap.size ∧ ¬ M b ∧ Cells9 w b (off + i * 9) gd gk ad ap ak aq nd cd np cp nk ck nq cq (l.getD i zeroM) ∧ MakeAt M w gd ad nd cd ap np cp gk ak nk ck aq nq cq (l.getD i zeroM) := by
 obtain ⟨b, off, cs, rfl, hb, hn, hl, hc, gd, ad, nd, cd, ap, np, cp, gk, ak, nk, ck, aq, nq, cq, rfl, r⟩ := SlOf.at h hi
 exact ⟨b, off, gd, gk, ad, ap, ak, aq, nd, cd, np, cp, nk, ck, nq, cq, rfl, hb, hn, ⟨hc 0 (by omega), hc 1 (by omega), hc 2 (by omega), hc 3 (by omega), hc 4 (by omega), hc 5 (by omega), hc 6 (by omega), hc 7 (by omega), hc 8 (by omega)⟩, r⟩
theorem Cells9.keep {M : Nat → Prop} {w w' : World} {b o : Nat} {gd gk : Bool} {ad ap ak aq : Option Addr} {nd cd np cp nk ck nq cq : Nat} {m : MakeV} (h : Cells9 w b o gd gk ad ap ak aq nd cd np cp nk ck nq cq m) (hb : b < w.heap.size) (k : Keeps M w w') (hM : ¬ M b) : Cells9 w' b o gd gk ad ap ak aq nd cd np cp nk ck nq cq m := by
 have e : ∀ j v, w.cell? ⟨b, j, none⟩ = some v → w'.cell? ⟨b, j, none⟩ = some v := fun j v hv => (k.cell (p := ⟨b, j, none⟩) hb hM).trans hv
 obtain ⟨h0, h1, h2, h3, h4, h5, h6, h7, h8⟩ := h
 exact ⟨e _ _ h0, e _ _ h1, e _ _ h2, e _ _ h3, e _ _ h4, e _ _ h5, e _ _ h6, e _ _ h7, e _ _ h8⟩
theorem ofM_ok {A : ArenaV} {m : MakeV} {ids : List Int} (h1 : 1 ≤ ids.length) (hi : ∀ i ∈ ids, 0 ≤ i ∧ i < (A.nodes.length : Int)) : (∀ x ∈ ofM m ids, 0 ≤ x ∧ x < (A.nodes.length : Int)) ∧ 1 ≤ (ofM m ids).length ∧ (ofM m ids).length ≤ 5 := by
 unfold ofM
 split
 ·refine ⟨fun x hx => ?_, by simp, by simp⟩
  rw [List.mem_singleton.1 hx]
  exact hi _ (getD_mem 0 (by omega))
 ·rename_i h0
  refine ⟨fun x hx => ?_, by omega, ?_⟩
  ·unfold ofUp at hx
   obtain ⟨c, _, rfl⟩ := List.mem_map.1 hx
   exact hi _ (getD_mem 0 (pickN_lt (by omega)))
  ·unfold ofUp
   rw [List.length_map, List.length_take]
   omega
theorem room_kids {V : List Int} {nodes sp : Int} {A : ArenaV} {kind v : Int} {ks : List Int} (h : InvA V nodes A sp) (hn : nodes ≤ 2000) (hV : V.length ≤ 262144) (h5 : 5 ≤ kind) (h8 : kind ≤ 8) (hv : kind = 5 ∨ kind = 6 → v = 0) (hp : ks.Pairwise (· < ·)) (hk : ∀ k ∈ ks, 0 ≤ k ∧ k < (A.nodes.length : Int)) : (freeRaw A ⟨kind, 0, zeroT, v, ks⟩).length ≤ 1000000000 :=
 freeRaw_room h hn hV (by simp [zeroT, neatL]) ⟨⟨by simp only; omega, h8, fun h4 => by simp only at h4; omega, fun _ => ⟨rfl, rfl⟩, hv⟩, fun x hx => by simp [zeroT, neatL] at hx, hp, hk⟩
end Go.Rid
namespace Go.Proofs.YtnheefnlcnkefaaGreatDoor
open Go.RowKit Go.Rid
structure Half8 (O M0 : Nat → Prop) (w : World) (g gm : Nat) (nodes limbs : Int) (wr : World) (v : Value) (s : St) (O' : Nat → Prop) : Prop where
 own : OwnEls wr w.heap.size 3 1 v (cells1 s.ids)
 far : ∀ b, v.ownBlock = some b → ¬ O' b
 arena : ArenaIn O' wr g gm s.A
 up : ∀ b, O b → O' b
 down : ∀ b, O' b → O b ∨ w.heap.size ≤ b
 meter : MeterAt (fun b => M0 b ∨ O' b ∨ v.ownBlock = some b) wr gm nodes limbs s.sp s.ov
 keep : Keeps (fun b => O b ∨ b = gm) w wr
theorem Half8.step {O M0 O' : Nat → Prop} {w wr w' : World} {g gm : Nat} {nodes limbs : Int} {v : Value} {s : St} {r : (Int × Int) × ArenaV × (Int × Int)} {e : Ending} (h : Half8 O M0 w g gm nodes limbs wr v s O') {w1 : World} (k1 : Keeps Nil wr w1) (hgm : gm < w.heap.size) (hst : AStep O' (fun b => M0 b ∨ O' b ∨ v.ownBlock = some b) w1 g gm nodes limbs r e w') :
  e = .returned (.tuple #[.int .i64 r.1.1, .int .i64 r.1.2]) ∧ ∃ O2 : Nat → Prop, Half8 O M0 w g gm nodes limbs w' v ⟨r.2.1, r.2.2.1, r.2.2.2, s.ids⟩ O2 := by
 obtain ⟨h1, ⟨O2, q1, q2, q3, q4⟩, k⟩ := hst
 have hs1 := h.keep.size
 have hs2 := k1.size
 refine ⟨h1, O2, (h.own.keepNil k1).keep k fun b hb hm => ?_, fun b hb ho => ?_, q1, fun b hb => q2 b (h.up b hb), fun b hb => ?_, q4.move (Keeps.refl Nil w') (fun _ _ h => h.elim) fun b _ hb => ?_, ?_⟩
 ·rcases hm with hm | hm
  ·exact h.far b hb hm
  ·have := (h.own.lt b hb).1; omega
 ·rcases q3 b ho with h2 | h2
  ·exact h.far b hb h2
  ·have := (h.own.lt b hb).2; omega
 ·rcases q3 b hb with h2 | h2
  ·exact h.down b h2
  ·right; omega
 ·rcases hb with hb | hb | hb
  ·exact .inl (.inl hb)
  ·exact .inr hb
  ·exact .inl (.inr (.inr hb))
 ·refine (h.keep.trans k1.of_nil).trans' k fun b hb => ?_
  rcases hb with hb | hb
  ·rcases h.down b hb with h2 | h2
   ·exact .inl (.inl h2)
   ·exact .inr h2
  ·exact .inl (.inr hb)
theorem varM_i64 (m : MakeV) : I64 (varM m) := by
 have := pickN_lt (c := m.v) (n := 4) (by decide)
 unfold varM I64
 omega
theorem whatM_cases (m : MakeV) : whatM m = 0 ∨ whatM m = 1 ∨ whatM m = 2 ∨ whatM m = 3 ∨ whatM m = 4 := by
 have := pickN_lt (c := m.kind) (n := 16) (by decide)
 unfold whatM
 split
 ·exact .inl rfl
 split
 ·exact .inr (.inl rfl)
 split
 ·exact .inr (.inr (.inl rfl))
 ·omega
theorem start8 {O M0 : Nat → Prop} {w : World} {g gm : Nat} {A : ArenaV} {nodes limbs sp ov : Int} {w1 : World} {b : Nat} (hA : ArenaIn O w g gm A) (hO : ∀ b, O b → M0 b) (hm : MeterAt M0 w gm nodes limbs sp ov) (k : Keeps Nil w w1) (hr : RowIs w1 b 3 [.int .i64 0, .int .i64 1]) (hb : w.heap.size ≤ b) : Half8 O M0 w g gm nodes limbs w1 (.slice (some ⟨b, 0, none⟩) 2 2) ⟨A, sp, ov, [0, 1]⟩ O :=
 ⟨OwnEls.ofRow (els := cells1 [0, 1]) hr (by simp [cells1]) rfl hb (by decide), fun c hc ho => by have e : some b = some c := hc; cases e; have := hA.lt b ho; omega, hA.keep k fun _ h => h.elim, fun _ h => h, fun _ h => .inl h, hm.move k (fun _ _ h => h.elim) (fun b' hb' hx => by rcases hx with hx | hx | hx; exact hx; exact hO b' hx; have e : some b = some b' := hx; cases e; omega), k.of_nil⟩
theorem Half8.push {O M0 O' : Nat → Prop} {w w1 w2 w3 : World} {g gm : Nat} {nodes limbs : Int} {v v' : Value} {s : St} {i : Int} (h : Half8 O M0 w g gm nodes limbs w1 v s O') (k1 : Keeps Nil w1 w2) (ho : OwnEls w3 w.heap.size 3 1 v' (cells1 (s.ids ++ [i]))) (k : Keeps (Own v) w2 w3) (hf : ∀ b, v'.ownBlock = some b → v.ownBlock = some b ∨ w2.heap.size ≤ b) : Half8 O M0 w g gm nodes limbs w3 v' ⟨s.A, s.sp, s.ov, s.ids ++ [i]⟩ O' := by
 have hs := k1.size
 have hs0 := h.keep.size
 have k2 : Keeps (Own v) w1 w3 := k1.of_nil.trans k
 refine ⟨ho, fun b hb hO => ?_, h.arena.keep k2 fun b hb hO => h.far b hb hO, h.up, h.down, h.meter.move k2 (fun b _ hb => .inr (.inr hb)) (fun b hb1 hx => ?_), h.keep.trans' k2 fun b hb => .inr (h.own.lt b hb).1⟩
 ·rcases hf b hb with h1 | h1
  ·exact h.far b h1 hO
  ·have := h.arena.lt b hO; omega
 ·rcases hx with hx | hx | hx
  ·exact .inl hx
  ·exact .inr (.inl hx)
  ·rcases hf b hx with h1 | h1
   ·exact .inr (.inr h1)
   ·omega
set_option maxHeartbeats 4000000 in
set_option maxRecDepth 100000 in
theorem built_any {B0 : Nat} {O M0 M : Nat → Prop} {w : World} {g gm : Nat} {A : ArenaV} {V : List Int} {al : Option Addr} {nl cl : Nat} {l : List MakeV} {nodes limbs sp ov : Int} (hA : ArenaIn O w g gm A) (hT : Tab B0 w) (hB : ∀ b, O b ∨ b = gm → B0 ≤ b) (hO : ∀ b, O b → M0 b) (hM0 : MB M0 w) (hm : MeterAt M0 w gm nodes limbs sp ov)
  (hl : MakesAt M w al nl cl l) (hMO : ∀ b, O b ∨ b = gm → M b) (hI : InvA V nodes A sp) (hn : nodes ≤ 2000) (hV : V.length ≤ 262144) (hV2 : ∀ v ∈ V, I64 v) (hX : ∀ m ∈ l, SmallX V m.x) :
  Calls Tryz.prog 12 #[.pointer (some ⟨g, 0, none⟩), .slice al nl cl] w fun e w' => ∃ v O', e = .returned v ∧ Half8 O M0 w g gm nodes limbs w' v (buildM nodes limbs ⟨A, sp, ov, [0, 1]⟩ (l.take 40)) O' := by
 obtain ⟨i1, hi1⟩ := info_parts info_int
 have HI := Lib.hid hi1
 have hnl : l.length = nl := SlOf.len hl
 have hcap := SlOf.cap hl
 have hle := SlOf.le hl
 have hgm := hm.lt
 have HA := Lib.hid (aI hA (aI hT (aI hB (aI hO (aI hM0 (aI hm (aI hl (aI hMO (aI hI (aI hV (aI hV2 (aI hX hnl))))))))))))
 clear hi1 hA hT hB hO hM0 hm hl hMO hI hV hV2 hX hnl
 go_enter Tryz.func12, Tryz.ntmps12
 go_upto_region 2 with (fail)
 have r0 := RowIs.alloc (w := w) (E := 3) (xs := [.int .i64 0, .int .i64 1])
 change RowIs (w.alloc (.cells #[.int .i64 0, .int .i64 1] 3)) _ _ _ at r0
 have k0 : Keeps Nil w (w.alloc (.cells #[.int .i64 0, .int .i64 1] 3)) := kOf
 generalize w.alloc (.cells #[.int .i64 0, .int .i64 1] 3) = w0 at *
 have H0 := Lib.hid (start8 (ov := ov) HA.out.1 HA.out.2.2.2.1 HA.out.2.2.2.2.2.1 k0 r0 (Nat.le_refl _))
 clear k0 r0
 go_wp2_with fail
 go_loopw [5, 6] (fun v i wr => ∃ (j : Nat) (va : Option Addr) (vc : Nat) (s : St) (O' : Nat → Prop), j ≤ nl ∧ j ≤ 40 ∧ i = .int .i64 (j : Int) ∧ s = buildM nodes limbs ⟨A, sp, ov, [0, 1]⟩ (l.take j) ∧ v = .slice va s.ids.length vc ∧ Half8 O M0 w g gm nodes limbs wr (.slice va s.ids.length vc) s O') (fun _ i _ => 40 - (intOf i).toNat)
 case atStart => exact ⟨0, _, _, ⟨A, sp, ov, [0, 1]⟩, O, Nat.zero_le _, Nat.zero_le _, rfl, rfl, rfl, H0.out⟩
 case round =>
  obtain ⟨j, va, vc, s, O', hj, hj40, rfl, hs, rfl, hH⟩ := hrel
  have hinv : InvS V nodes s j := by
   have h1 := (InvS.start (ov := ov) HA.out.2.2.2.2.2.2.2.2.1).build (limbs := limbs) (l := l.take j) fun m hm => HA.out.2.2.2.2.2.2.2.2.2.2.2.1 m (List.mem_of_mem_take hm)
   rw [← hs, List.length_take, Nat.min_eq_left (by rw [HA.out.2.2.2.2.2.2.2.2.2.2.2.2]; exact hj), Nat.zero_add] at h1
   exact h1
  by_cases hlt : j < nl ∧ j < 40
  ·have hjl : j < l.length := by rw [HA.out.2.2.2.2.2.2.2.2.2.2.2.2]; exact hlt.1
   have hlr : MakesAt M wr al nl cl l := HA.out.2.2.2.2.2.2.1.move hH.keep (fun b _ hb => HA.out.2.2.2.2.2.2.2.1 b hb) fun _ _ h => h
   obtain ⟨b, off, gd, gk, ad, ap, ak, aq, nd, cd, np, cp, nk, ck, nq, cq, rfl, hb, hnM, hcs, hmk⟩ := hlr.at hlt.1
   have hXm := HA.out.2.2.2.2.2.2.2.2.2.2.2.1 (l.getD j zeroM) (getD_mem zeroM hjl)
   have htk : l.take (j + 1) = l.take j ++ [l.getD j zeroM] := by rw [List.take_succ_eq_append_getElem hjl]; simp [List.getD, hjl]
   obtain ⟨m, hmm⟩ : ∃ m, m = l.getD j zeroM := ⟨_, rfl⟩
   rw [← hmm] at hcs hmk hXm htk
   have hnext : buildM nodes limbs ⟨A, sp, ov, [0, 1]⟩ (l.take (j + 1)) = stepB nodes limbs s m := by rw [htk, buildM_snoc, ← hs]
   obtain ⟨r, hr⟩ : ∃ r, r = stepR s.A nodes limbs s.sp s.ov s.ids m := ⟨_, rfl⟩
   obtain ⟨ai, ci, ei, hids⟩ := OwnEls.sl (M := Nil) (R := RI) (d := 0) (xs := s.ids) hH.own (fun _ _ h => h) (by rw [length_cells1]) (fun i hi => by rw [length_cells1] at hi; simp [RI, cells1, List.getD, hi])
   rw [length_cells1] at ei hids
   have ei2 : va = ai ∧ vc = ci := by simpa using ei
   obtain ⟨rfl, rfl⟩ := ei2
   have hof := ofM_ok (m := m) (by have := hinv.two; omega) hinv.ids
   have hk1 : I64 m.kind := hmk.2.2.2.2.2.2.2.2.2.1
   have hk2 : I64 m.v := hmk.2.2.2.2.2.2.2.2.2.2
   have hi2 := hinv.two
   have hi3 := hinv.len
   obtain ⟨c0, c1, c2, c3, c4, c5, c6, c7, c8⟩ := hcs
   have j0 : (0 : Int) ≤ (j : Int) := by omega
   have j1 : (j : Int) < (nl : Int) := by omega
   have j2 : (j : Int) < 40 := by omega
   have HC := Lib.hid (aI hs (aI hH (aI hinv (aI hmk (aI hXm (aI hnext (aI hr (aI hids (aI hof (aI hk1 (aI hk2 (aI hb hnM))))))))))))
   have HCS := Lib.hid (show Cells9 wr b (off + j * 9) gd gk ad ap ak aq nd cd np cp nk ck nq cq m from ⟨c0, c1, c2, c3, c4, c5, c6, c7, c8⟩)
   clear hs hH hinv hmk hXm hnext hr hids hof hk1 hk2 hlr ei htk hmm hlt hnM
   go_upto_region 6 with (go_at_call 43; go_loud (refine (of8_any HC.out.2.2.2.1 HC.out.2.2.2.2.2.2.2.1 (by omega) (by omega)).mono ?_); rintro e w1 ⟨v7, rfl, ho7, hk1⟩; obtain ⟨a7, c7', rfl⟩ := ho7.isSlice; have hb1 : b < w1.heap.size := Nat.lt_of_lt_of_le hb hk1.size; have H1 := Lib.hid (aI ho7 hk1); clear ho7 hk1)
   obtain ⟨c0, c1, c2, c3, c4, c5, c6, c7, c8⟩ := HCS.out.keep hb H1.out.2 id
   have ho7 : OwnEls w1 wr.heap.size 3 1 (.slice a7 (ofM m s.ids).length c7') (cells1 (ofM m s.ids)) := by have h := H1.out.1; rw [length_cells1] at h; exact h
   have H7 := Lib.hid ho7
   clear ho7
   try rw [length_cells1]
   go_upto_block 2 with (go_at_call 44; go_loud (refine (what8_any HC.out.2.2.2.2.2.2.2.2.2.1).mono ?_); rintro e w2 ⟨rfl, hk2⟩; have hb2 : b < w2.heap.size := Nat.lt_of_lt_of_le hb1 hk2.size; have H2 := Lib.hid hk2; clear hk2)
   clear c0 c1 c2 c3 c4 c5 c6 c7 c8
   have k12 : Keeps Nil wr w2 := H1.out.2.trans H2.out
   obtain ⟨c0, c1, c2, c3, c4, c5, c6, c7, c8⟩ := HCS.out.keep hb k12 id
   obtain ⟨q, hq⟩ : ∃ q, q = whatM m := ⟨_, rfl⟩
   rw [← hq]
   have HQ := Lib.hid hq
   have hH := HC.out.2.1
   have hinv := HC.out.2.2.1
   have HP := Lib.hid (show ArenaIn O' w2 g gm s.A ∧ Tab B0 w2 ∧ (∀ b, O' b → M0 b ∨ O' b ∨ (Value.slice va s.ids.length vc).ownBlock = some b) ∧ MB (fun b => M0 b ∨ O' b ∨ (Value.slice va s.ids.length vc).ownBlock = some b) w2 ∧ MeterAt (fun b => M0 b ∨ O' b ∨ (Value.slice va s.ids.length vc).ownBlock = some b) w2 gm nodes limbs s.sp s.ov ∧ MakeAt M w2 gd ad nd cd ap np cp gk ak nk ck aq nq cq m ∧ OwnEls w2 wr.heap.size 3 1 (.slice a7 (ofM m s.ids).length c7') (cells1 (ofM m s.ids)) ∧ Keeps Nil wr w2 from
    ⟨hH.arena.keep k12 fun _ h => h.elim, (HA.out.2.1.keep hH.keep HA.out.2.2.1).keepNil k12, fun b hb => .inr (.inl hb), fun b hb => by
     have h1 := hH.keep.size
     have h2 := k12.size
     rcases hb with hb | hb | hb
     ·have := HA.out.2.2.2.2.1 b hb; omega
     ·have := hH.arena.lt b hb; omega
     ·have := (hH.own.lt b hb).2; omega, hH.meter.keepNil k12, HC.out.2.2.2.1.move k12 (fun _ _ h => h.elim) fun _ _ h => h, H7.out.keepNil H2.out, k12⟩)
   have g1 : 0 ≤ s.sp := hinv.inv.sp0
   have g2 : s.sp ≤ nodes := hinv.inv.spn
   have g3 : s.A.cnt < 1000000 := by have := hinv.inv.cnt; omega
   have g4 : s.A.nodes.length ≤ 1000000 := by have := hinv.inv.used; omega
   have g5 : 2 ≤ s.A.nodes.length := hinv.inv.once.two
   have HI2 := Lib.hid hinv.inv
   clear k12 hH hinv hq H7
   go_cut [8, 9] (fun x y wx => ∃ O2 : Nat → Prop, x = .int .i64 r.1.1 ∧ y = .int .i64 r.1.2 ∧ Half8 O M0 w g gm nodes limbs wx (.slice va s.ids.length vc) ⟨r.2.1, r.2.2.1, r.2.2.2, s.ids⟩ O2)
   case first =>
    have hr := HC.out.2.2.2.2.2.2.1
    rcases whatM_cases m with h | h | h | h | h
    ·obtain rfl : q = 0 := HQ.out.trans h
     have hr0 : r = atomM s.A nodes limbs s.sp s.ov m.x := by rw [hr]; unfold stepR; rw [if_pos h]
     have HR := Lib.hid hr0
     clear hr hr0 h
     go_wp2_with (go_at_call 24; have hX := HC.out.2.2.2.2.1; have hsm := small_norm hX.1 (by decide); go_loud (refine (aatom_any HP.out.1 HP.out.2.1 HP.out.2.2.1 HP.out.2.2.2.1 HP.out.2.2.2.2.1 HP.out.2.2.2.2.2.1.1.toNil HP.out.2.2.2.2.2.1.2.1 HP.out.2.2.2.2.2.1.2.2.1.toNil (by have h1 := SlOf.len HP.out.2.2.2.2.2.1.2.1; have h2 := hX.1.len; simp only at h2; omega) (by have := HP.out.2.2.2.2.2.1.2.2.2.2.1; omega) ⟨fun p hp => Nat.le_trans (hsm.parts p hp) (by decide), Nat.le_trans hsm.k (by decide), Nat.le_trans hsm.len (by decide)⟩ (Nat.le_trans hX.2 (by decide)) g1 g2 hn g3 g4 g5 (fun h2 => ok_of_small HI2.out hn HA.out.2.2.2.2.2.2.2.2.2.1 HA.out.2.2.2.2.2.2.2.2.2.2.1 (small_normR hX.1 hX.2 (by decide)) h2 (by decide) (by decide))).mono ?_); intro e w3 hst; obtain ⟨rfl, O2, h8⟩ := HC.out.2.1.step (r := r) HP.out.2.2.2.2.2.2.2 hgm (by rw [HR.out]; exact hst); have H8 := Lib.hid h8; clear hst h8 hX hsm)
     go_meet
     exact ⟨O2, rfl, rfl, H8.out⟩
    ·obtain rfl : q = 1 := HQ.out.trans h
     have hr0 : r = joinM s.A nodes limbs s.sp s.ov 5 (ofM m s.ids) := by rw [hr]; unfold stepR; rw [if_neg (by rw [h]; decide), if_pos h]
     have HR := Lib.hid hr0
     clear hr hr0 h
     obtain ⟨ax, cx, ex, hx⟩ := OwnEls.sl (M := Nil) (R := RI) (d := 0) (xs := ofM m s.ids) HP.out.2.2.2.2.2.2.1 (fun _ _ h => h) (by rw [length_cells1]) (fun i hi => by rw [length_cells1] at hi; simp [RI, cells1, List.getD, hi])
     rw [length_cells1] at ex hx
     have ex2 : a7 = ax ∧ c7' = cx := by simpa using ex
     obtain ⟨rfl, rfl⟩ := ex2
     have HX := Lib.hid hx
     clear hx ex
     go_wp2_with (go_at_call 26; go_loud (refine (ajoin_any HP.out.1 HP.out.2.1 HP.out.2.2.1 HP.out.2.2.2.1 HP.out.2.2.2.2.1 HX.out g1 g2 hn g3 g4 g5 (Nat.le_trans HC.out.2.2.2.2.2.2.2.2.1.2.2 (by decide)) (room_kids HI2.out hn HA.out.2.2.2.2.2.2.2.2.2.1 (by decide) (by decide) (fun _ => rfl) (neatF_pair _) (fun k hk => HC.out.2.2.2.2.2.2.2.2.1.1 k (mem_neatF.1 hk)))).mono ?_); intro e w3 hst; obtain ⟨rfl, O2, h8⟩ := HC.out.2.1.step (r := r) HP.out.2.2.2.2.2.2.2 hgm (by rw [HR.out]; exact hst); have H8 := Lib.hid h8; clear hst h8)
     go_meet
     exact ⟨O2, rfl, rfl, H8.out⟩
    ·obtain rfl : q = 2 := HQ.out.trans h
     have hr0 : r = joinM s.A nodes limbs s.sp s.ov 6 (ofM m s.ids) := by rw [hr]; unfold stepR; rw [if_neg (by rw [h]; decide), if_neg (by rw [h]; decide), if_pos h]
     have HR := Lib.hid hr0
     clear hr hr0 h
     obtain ⟨ax, cx, ex, hx⟩ := OwnEls.sl (M := Nil) (R := RI) (d := 0) (xs := ofM m s.ids) HP.out.2.2.2.2.2.2.1 (fun _ _ h => h) (by rw [length_cells1]) (fun i hi => by rw [length_cells1] at hi; simp [RI, cells1, List.getD, hi])
     rw [length_cells1] at ex hx
     have ex2 : a7 = ax ∧ c7' = cx := by simpa using ex
     obtain ⟨rfl, rfl⟩ := ex2
     have HX := Lib.hid hx
     clear hx ex
     go_wp2_with (go_at_call 26; go_loud (refine (ajoin_any HP.out.1 HP.out.2.1 HP.out.2.2.1 HP.out.2.2.2.1 HP.out.2.2.2.2.1 HX.out g1 g2 hn g3 g4 g5 (Nat.le_trans HC.out.2.2.2.2.2.2.2.2.1.2.2 (by decide)) (room_kids HI2.out hn HA.out.2.2.2.2.2.2.2.2.2.1 (by decide) (by decide) (fun _ => rfl) (neatF_pair _) (fun k hk => HC.out.2.2.2.2.2.2.2.2.1.1 k (mem_neatF.1 hk)))).mono ?_); intro e w3 hst; obtain ⟨rfl, O2, h8⟩ := HC.out.2.1.step (r := r) HP.out.2.2.2.2.2.2.2 hgm (by rw [HR.out]; exact hst); have H8 := Lib.hid h8; clear hst h8)
     go_meet
     exact ⟨O2, rfl, rfl, H8.out⟩
    ·obtain rfl : q = 3 := HQ.out.trans h
     have hr0 : r = bindM s.A nodes limbs s.sp s.ov 7 (varM m) ((ofM m s.ids).getD 0 0) := by rw [hr]; unfold stepR; rw [if_neg (by rw [h]; decide), if_neg (by rw [h]; decide), if_neg (by rw [h]; decide), if_pos h]
     have hof := HC.out.2.2.2.2.2.2.2.2.1
     obtain ⟨y, hy⟩ : ∃ y, y = (ofM m s.ids).getD 0 0 := ⟨_, rfl⟩
     have hyr : 0 ≤ y ∧ y < (s.A.nodes.length : Int) := by rw [hy]; exact hof.1 _ (getD_mem 0 (by omega))
     rw [← hy] at hr0
     have HR := Lib.hid hr0
     have hown7 := HP.out.2.2.2.2.2.2.1
     obtain ⟨g7, rest7, rfl, hrow7, -⟩ := hown7.opens (by rw [length_cells1]) (by omega)
     have z7 : w2.cell? ⟨g7, 0, none⟩ = some (.int .i64 y) := by
      have := hrow7.el hown7.sz (i := 0) (j := 0) (by rw [length_cells1]; omega) (by omega)
      rw [this, hy]
      simp [cells1, List.getD, show 0 < (ofM m s.ids).length by omega]
     have l7 := hrow7.lt
     have h7 : (0 : Int) < ((ofM m s.ids).length : Int) := by omega
     have h7n : 0 < (ofM m s.ids).length := by omega
     have h7e : ¬ (ofM m s.ids).length = 0 := by omega
     have h7m : ¬ (ofM m s.ids).length ≤ 0 := by omega
     have HY := Lib.hid hyr
     have Z7 := Lib.hid z7
     clear hr hr0 h hof hy hyr hrow7 hown7 z7 c0 c1 c2 c3 c4 c5 c6 c7 c8
     go_upto_region 16 with (fail)
     refine wp_region_factsT [9, 10, 11, 12, 13, 14] [63, 64, 65, 66, 67, 68, 69, 70, 71, 72, 62, 73, 74, 8, 9] [63, 64, 65, 66, 67, 68, 69, 70, 71] [Un (LitV ?v1_0), Un (LitV ?v1_1), Un (LitV ?v1_2), Un (LitV ?v1_3), Un (LitV ?v1_4), Un (LitV (.int .i64 (varM m))), Un (LitV ?v1_6), Un (LitV ?v1_7), Un (LitV ?v1_8), nothing, nothing, nothing, nothing, nothing, nothing] (by kernel_rfl) (by kernel_rfl) ?rst1 ?rsb1 ?rfn1
     case' rst1 =>
      show FactStepsT _ _ _ _ _ _ _ _ _ 15
      refine (FactStepsT.skip (n := 14) (by decide) (FactStepsT.skip (n := 13) (by decide) (FactStepsT.skip (n := 12) (by decide) (FactStepsT.skip (n := 11) (by decide) (FactStepsT.skip (n := 10) (by decide) (FactStepsT.skip (n := 9) (by decide) (FactStepsT.succ (n := 8) rfl ?r1_8 (FactStepsT.succ (n := 7) rfl ?r1_7 (FactStepsT.succ (n := 6) rfl ?r1_6 (FactStepsT.succ (n := 5) rfl ?r1_5 (FactStepsT.succ (n := 4) rfl ?r1_4 (FactStepsT.succ (n := 3) rfl ?r1_3 (FactStepsT.succ (n := 2) rfl ?r1_2 (FactStepsT.succ (n := 1) rfl ?r1_1 (FactStepsT.succ (n := 0) rfl ?r1_0 FactStepsT.zero)))))))))))))))
     case' r1_0 | r1_1 | r1_2 | r1_6 =>
      intro us wj hk hp K hK
      try simp only [putAll, Act.put, sL] at hK ⊢
      obtain ⟨c0, c1, c2, c3, c4, c5, c6, c7, c8⟩ := HCS.out.keep hb (HP.out.2.2.2.2.2.2.2.trans hk) id
      have hbj := Nat.lt_of_lt_of_le hb2 hk.size
      have z7 := hk.cellE l7 id Z7.out
      have l7j := Nat.lt_of_lt_of_le l7 hk.size
      go_simp
      refine hK.out _ _ ?_ ?_
      ·exact Keeps.refl _ _
      ·exact rfl
     case' r1_3 =>
      intro us wj hk hp K hK
      try simp only [putAll, Act.put, sL] at hK ⊢
      obtain ⟨c0, c1, c2, c3, c4, c5, c6, c7, c8⟩ := HCS.out.keep hb (HP.out.2.2.2.2.2.2.2.trans hk) id
      have hbj := Nat.lt_of_lt_of_le hb2 hk.size
      have z7 := hk.cellE l7 id Z7.out
      have l7j := Nat.lt_of_lt_of_le l7 hk.size
      have e1 : us 64 = _ := hp 1 (by kernel_rfl)
      have e2 : us 65 = _ := hp 2 (by kernel_rfl)
      rw [e1, e2] at hK ⊢
      go_simp
      refine hK.out _ _ ?_ ?_
      ·exact Keeps.refl _ _
      ·exact rfl
     case' r1_4 =>
      intro us wj hk hp K hK
      try simp only [putAll, Act.put, sL] at hK ⊢
      obtain ⟨c0, c1, c2, c3, c4, c5, c6, c7, c8⟩ := HCS.out.keep hb (HP.out.2.2.2.2.2.2.2.trans hk) id
      have hbj := Nat.lt_of_lt_of_le hb2 hk.size
      have z7 := hk.cellE l7 id Z7.out
      have l7j := Nat.lt_of_lt_of_le l7 hk.size
      have e3 : us 66 = _ := hp 3 (by kernel_rfl)
      rw [e3] at hK ⊢
      go_simp
      refine hK.out _ _ ?_ ?_
      ·exact Keeps.refl _ _
      ·exact rfl
     case' r1_5 =>
      intro us wj hk hp K hK
      try simp only [putAll, Act.put, sL] at hK ⊢
      obtain ⟨c0, c1, c2, c3, c4, c5, c6, c7, c8⟩ := HCS.out.keep hb (HP.out.2.2.2.2.2.2.2.trans hk) id
      have hbj := Nat.lt_of_lt_of_le hb2 hk.size
      have z7 := hk.cellE l7 id Z7.out
      have l7j := Nat.lt_of_lt_of_le l7 hk.size
      have e4 : us 67 = _ := hp 4 (by kernel_rfl)
      rw [e4] at hK ⊢
      go_simp
      refine (var8_any (gd := gd) HC.out.2.2.2.2.2.2.2.2.2.2.1).mono ?_
      rintro e wk ⟨rfl, hk2⟩
      refine hK.out _ _ ?_ ?_
      ·exact hk2
      ·exact rfl
     case' r1_7 =>
      intro us wj hk hp K hK
      try simp only [putAll, Act.put, sL] at hK ⊢
      obtain ⟨c0, c1, c2, c3, c4, c5, c6, c7, c8⟩ := HCS.out.keep hb (HP.out.2.2.2.2.2.2.2.trans hk) id
      have hbj := Nat.lt_of_lt_of_le hb2 hk.size
      have z7 := hk.cellE l7 id Z7.out
      have l7j := Nat.lt_of_lt_of_le l7 hk.size
      have e6 : us 69 = _ := hp 6 (by kernel_rfl)
      rw [e6] at hK ⊢
      go_simp
      refine hK.out _ _ ?_ ?_
      ·exact Keeps.refl _ _
      ·exact rfl
     case' r1_8 =>
      intro us wj hk hp K hK
      try simp only [putAll, Act.put, sL] at hK ⊢
      obtain ⟨c0, c1, c2, c3, c4, c5, c6, c7, c8⟩ := HCS.out.keep hb (HP.out.2.2.2.2.2.2.2.trans hk) id
      have hbj := Nat.lt_of_lt_of_le hb2 hk.size
      have z7 := hk.cellE l7 id Z7.out
      have l7j := Nat.lt_of_lt_of_le l7 hk.size
      have e7 : us 70 = _ := hp 7 (by kernel_rfl)
      rw [e7] at hK ⊢
      go_simp
      refine hK.out _ _ ?_ ?_
      ·exact Keeps.refl _ _
      ·exact rfl
     case' rsb1 => exact Stables.cons (Stables.cons (Stables.cons (Stables.cons (Stables.cons (Stables.cons (Stables.cons (Stables.cons (Stables.cons (Stables.cons (Stables.cons (Stables.cons (Stables.cons (Stables.cons (Stables.cons (Stables.nil)))))))))))))))
     case' rfn1 =>
     intro us wz hkz hf
     simp only [putAll, Act.put, sL]
     have e0 : us 63 = _ := hf 0 (by decide) (by decide)
     have e1 : us 64 = _ := hf 1 (by decide) (by decide)
     have e2 : us 65 = _ := hf 2 (by decide) (by decide)
     have e3 : us 66 = _ := hf 3 (by decide) (by decide)
     have e4 : us 67 = _ := hf 4 (by decide) (by decide)
     have e5 : us 68 = _ := hf 5 (by decide) (by decide)
     have e6 : us 69 = _ := hf 6 (by decide) (by decide)
     have e7 : us 70 = _ := hf 7 (by decide) (by decide)
     have e8 : us 71 = _ := hf 8 (by decide) (by decide)
     clear hf
     simp only [e0, e1, e2, e3, e4, e5, e6, e7, e8]
     clear e0 e1 e2 e3 e4 e5 e6 e7 e8 us
     refine wpTill_ready (rs := [9]) (by kernel_rfl) (by simp) ?_
     refine AllTill.cons rfl (fun K hK => ?_) AllTill.nil
     go_simp
     refine (abind_any (HP.out.1.keep hkz fun _ h => h.elim) (HP.out.2.1.keepNil hkz) HP.out.2.2.1 (HP.out.2.2.2.1.keep hkz) (HP.out.2.2.2.2.1.keepNil hkz) (varM_i64 m) g1 g2 hn g3 g4 g5 (room_kids HI2.out hn HA.out.2.2.2.2.2.2.2.2.2.1 (by decide) (by decide) (fun h => absurd h (by decide)) (List.pairwise_singleton _ _) (fun k hk => by rw [List.mem_singleton.1 hk]; exact HY.out))).mono ?_
     intro e wb hst
     obtain ⟨rfl, O2, h8⟩ := HC.out.2.1.step (r := r) (HP.out.2.2.2.2.2.2.2.trans hkz) hgm (by rw [HR.out]; exact hst)
     have H8 := Lib.hid h8
     clear hst h8
     skip
     refine hK.out _ _ (fun _ => trivial) ?_
     clear hK K
     try simp only [Act.put, sL]
     refine wpTill_ready (rs := [10]) (by kernel_rfl) (by simp) ?_
     refine AllTill.cons rfl (fun K hK => ?_) AllTill.nil
     go_simp
     refine hK.out _ _ (fun _ => trivial) ?_
     clear hK K
     try simp only [Act.put, sL]
     refine wpTill_ready (rs := [11, 12]) (by kernel_rfl) (by simp) ?_
     refine (AllTill.cons rfl (fun K hK => ?t2_11) (AllTill.cons rfl (fun K hK => ?t2_12) AllTill.nil))
     case t2_11 =>
      go_simp
      refine hK.out _ _ (fun _ => trivial) ?_
      clear hK K
      try simp only [Act.put, sL]
      refine wpTill_ready (rs := [12, 13]) (by kernel_rfl) (by simp) ?_
      refine (AllTill.cons rfl (fun K hK => ?t3_12) (AllTill.cons rfl (fun K hK => ?t3_13) AllTill.nil))
      case t3_12 =>
       go_simp
       refine hK.out _ _ (fun _ => trivial) ?_
       clear hK K
       try simp only [Act.put, sL]
       refine wpTill_ready (rs := [13]) (by kernel_rfl) (by simp) ?_
       refine AllTill.cons rfl (fun K hK => ?_) AllTill.nil
       go_simp
       refine hK.out _ _ (fun _ => trivial) ?_
       clear hK K
       try simp only [Act.put, sL]
       refine wpTill_ready (rs := [14]) (by kernel_rfl) (by simp) ?_
       refine AllTill.cons rfl (fun K hK => ?_) AllTill.nil
       go_simp
       refine hK.out _ _ (fun _ => trivial) ?_
       clear hK K
       try simp only [Act.put, sL]
       refine wpTill_done (by kernel_rfl) ?_ _
       go_wp2_with fail
       go_meet
       exact ⟨O2, rfl, rfl, H8.out⟩
      case t3_13 =>
       go_simp
       refine hK.out _ _ (fun _ => trivial) ?_
       clear hK K
       try simp only [Act.put, sL]
       refine wpTill_ready (rs := [12]) (by kernel_rfl) (by simp) ?_
       refine AllTill.cons rfl (fun K hK => ?_) AllTill.nil
       go_simp
       refine hK.out _ _ (fun _ => trivial) ?_
       clear hK K
       try simp only [Act.put, sL]
       refine wpTill_ready (rs := [14]) (by kernel_rfl) (by simp) ?_
       refine AllTill.cons rfl (fun K hK => ?_) AllTill.nil
       go_simp
       refine hK.out _ _ (fun _ => trivial) ?_
       clear hK K
       try simp only [Act.put, sL]
       refine wpTill_done (by kernel_rfl) ?_ _
       go_wp2_with fail
       go_meet
       exact ⟨O2, rfl, rfl, H8.out⟩
     case t2_12 =>
      go_simp
      refine hK.out _ _ (fun _ => trivial) ?_
      clear hK K
      try simp only [Act.put, sL]
      refine wpTill_ready (rs := [11]) (by kernel_rfl) (by simp) ?_
      refine AllTill.cons rfl (fun K hK => ?_) AllTill.nil
      go_simp
      refine hK.out _ _ (fun _ => trivial) ?_
      clear hK K
      try simp only [Act.put, sL]
      refine wpTill_ready (rs := [13]) (by kernel_rfl) (by simp) ?_
      refine AllTill.cons rfl (fun K hK => ?_) AllTill.nil
      go_simp
      refine hK.out _ _ (fun _ => trivial) ?_
      clear hK K
      try simp only [Act.put, sL]
      refine wpTill_ready (rs := [14]) (by kernel_rfl) (by simp) ?_
      refine AllTill.cons rfl (fun K hK => ?_) AllTill.nil
      go_simp
      refine hK.out _ _ (fun _ => trivial) ?_
      clear hK K
      try simp only [Act.put, sL]
      refine wpTill_done (by kernel_rfl) ?_ _
      go_wp2_with fail
      go_meet
      exact ⟨O2, rfl, rfl, H8.out⟩
    ·obtain rfl : q = 4 := HQ.out.trans h
     have hr0 : r = bindM s.A nodes limbs s.sp s.ov 8 (varM m) ((ofM m s.ids).getD 0 0) := by rw [hr]; unfold stepR; rw [if_neg (by rw [h]; decide), if_neg (by rw [h]; decide), if_neg (by rw [h]; decide), if_neg (by rw [h]; decide)]
     have hof := HC.out.2.2.2.2.2.2.2.2.1
     obtain ⟨y, hy⟩ : ∃ y, y = (ofM m s.ids).getD 0 0 := ⟨_, rfl⟩
     have hyr : 0 ≤ y ∧ y < (s.A.nodes.length : Int) := by rw [hy]; exact hof.1 _ (getD_mem 0 (by omega))
     rw [← hy] at hr0
     have HR := Lib.hid hr0
     have hown7 := HP.out.2.2.2.2.2.2.1
     obtain ⟨g7, rest7, rfl, hrow7, -⟩ := hown7.opens (by rw [length_cells1]) (by omega)
     have z7 : w2.cell? ⟨g7, 0, none⟩ = some (.int .i64 y) := by
      have := hrow7.el hown7.sz (i := 0) (j := 0) (by rw [length_cells1]; omega) (by omega)
      rw [this, hy]
      simp [cells1, List.getD, show 0 < (ofM m s.ids).length by omega]
     have l7 := hrow7.lt
     have h7 : (0 : Int) < ((ofM m s.ids).length : Int) := by omega
     have h7n : 0 < (ofM m s.ids).length := by omega
     have h7e : ¬ (ofM m s.ids).length = 0 := by omega
     have h7m : ¬ (ofM m s.ids).length ≤ 0 := by omega
     have HY := Lib.hid hyr
     have Z7 := Lib.hid z7
     clear hr hr0 h hof hy hyr hrow7 hown7 z7 c0 c1 c2 c3 c4 c5 c6 c7 c8
     go_upto_region 18 with (fail)
     refine wp_region_factsT [9, 10, 11, 12, 13, 14] [78, 79, 80, 81, 82, 83, 84, 85, 86, 87, 77, 88, 89, 8, 9] [78, 79, 80, 81, 82, 83, 84, 85, 86] [Un (LitV ?v4_0), Un (LitV ?v4_1), Un (LitV ?v4_2), Un (LitV ?v4_3), Un (LitV ?v4_4), Un (LitV (.int .i64 (varM m))), Un (LitV ?v4_6), Un (LitV ?v4_7), Un (LitV ?v4_8), nothing, nothing, nothing, nothing, nothing, nothing] (by kernel_rfl) (by kernel_rfl) ?rst4 ?rsb4 ?rfn4
     case' rst4 =>
      show FactStepsT _ _ _ _ _ _ _ _ _ 15
      refine (FactStepsT.skip (n := 14) (by decide) (FactStepsT.skip (n := 13) (by decide) (FactStepsT.skip (n := 12) (by decide) (FactStepsT.skip (n := 11) (by decide) (FactStepsT.skip (n := 10) (by decide) (FactStepsT.skip (n := 9) (by decide) (FactStepsT.succ (n := 8) rfl ?r4_8 (FactStepsT.succ (n := 7) rfl ?r4_7 (FactStepsT.succ (n := 6) rfl ?r4_6 (FactStepsT.succ (n := 5) rfl ?r4_5 (FactStepsT.succ (n := 4) rfl ?r4_4 (FactStepsT.succ (n := 3) rfl ?r4_3 (FactStepsT.succ (n := 2) rfl ?r4_2 (FactStepsT.succ (n := 1) rfl ?r4_1 (FactStepsT.succ (n := 0) rfl ?r4_0 FactStepsT.zero)))))))))))))))
     case' r4_0 | r4_1 | r4_2 | r4_6 =>
      intro us wj hk hp K hK
      try simp only [putAll, Act.put, sL] at hK ⊢
      obtain ⟨c0, c1, c2, c3, c4, c5, c6, c7, c8⟩ := HCS.out.keep hb (HP.out.2.2.2.2.2.2.2.trans hk) id
      have hbj := Nat.lt_of_lt_of_le hb2 hk.size
      have z7 := hk.cellE l7 id Z7.out
      have l7j := Nat.lt_of_lt_of_le l7 hk.size
      go_simp
      refine hK.out _ _ ?_ ?_
      ·exact Keeps.refl _ _
      ·exact rfl
     case' r4_3 =>
      intro us wj hk hp K hK
      try simp only [putAll, Act.put, sL] at hK ⊢
      obtain ⟨c0, c1, c2, c3, c4, c5, c6, c7, c8⟩ := HCS.out.keep hb (HP.out.2.2.2.2.2.2.2.trans hk) id
      have hbj := Nat.lt_of_lt_of_le hb2 hk.size
      have z7 := hk.cellE l7 id Z7.out
      have l7j := Nat.lt_of_lt_of_le l7 hk.size
      have e1 : us 79 = _ := hp 1 (by kernel_rfl)
      have e2 : us 80 = _ := hp 2 (by kernel_rfl)
      rw [e1, e2] at hK ⊢
      go_simp
      refine hK.out _ _ ?_ ?_
      ·exact Keeps.refl _ _
      ·exact rfl
     case' r4_4 =>
      intro us wj hk hp K hK
      try simp only [putAll, Act.put, sL] at hK ⊢
      obtain ⟨c0, c1, c2, c3, c4, c5, c6, c7, c8⟩ := HCS.out.keep hb (HP.out.2.2.2.2.2.2.2.trans hk) id
      have hbj := Nat.lt_of_lt_of_le hb2 hk.size
      have z7 := hk.cellE l7 id Z7.out
      have l7j := Nat.lt_of_lt_of_le l7 hk.size
      have e3 : us 81 = _ := hp 3 (by kernel_rfl)
      rw [e3] at hK ⊢
      go_simp
      refine hK.out _ _ ?_ ?_
      ·exact Keeps.refl _ _
      ·exact rfl
     case' r4_5 =>
      intro us wj hk hp K hK
      try simp only [putAll, Act.put, sL] at hK ⊢
      obtain ⟨c0, c1, c2, c3, c4, c5, c6, c7, c8⟩ := HCS.out.keep hb (HP.out.2.2.2.2.2.2.2.trans hk) id
      have hbj := Nat.lt_of_lt_of_le hb2 hk.size
      have z7 := hk.cellE l7 id Z7.out
      have l7j := Nat.lt_of_lt_of_le l7 hk.size
      have e4 : us 82 = _ := hp 4 (by kernel_rfl)
      rw [e4] at hK ⊢
      go_simp
      refine (var8_any (gd := gd) HC.out.2.2.2.2.2.2.2.2.2.2.1).mono ?_
      rintro e wk ⟨rfl, hk2⟩
      refine hK.out _ _ ?_ ?_
      ·exact hk2
      ·exact rfl
     case' r4_7 =>
      intro us wj hk hp K hK
      try simp only [putAll, Act.put, sL] at hK ⊢
      obtain ⟨c0, c1, c2, c3, c4, c5, c6, c7, c8⟩ := HCS.out.keep hb (HP.out.2.2.2.2.2.2.2.trans hk) id
      have hbj := Nat.lt_of_lt_of_le hb2 hk.size
      have z7 := hk.cellE l7 id Z7.out
      have l7j := Nat.lt_of_lt_of_le l7 hk.size
      have e6 : us 84 = _ := hp 6 (by kernel_rfl)
      rw [e6] at hK ⊢
      go_simp
      refine hK.out _ _ ?_ ?_
      ·exact Keeps.refl _ _
      ·exact rfl
     case' r4_8 =>
      intro us wj hk hp K hK
      try simp only [putAll, Act.put, sL] at hK ⊢
      obtain ⟨c0, c1, c2, c3, c4, c5, c6, c7, c8⟩ := HCS.out.keep hb (HP.out.2.2.2.2.2.2.2.trans hk) id
      have hbj := Nat.lt_of_lt_of_le hb2 hk.size
      have z7 := hk.cellE l7 id Z7.out
      have l7j := Nat.lt_of_lt_of_le l7 hk.size
      have e7 : us 85 = _ := hp 7 (by kernel_rfl)
      rw [e7] at hK ⊢
      go_simp
      refine hK.out _ _ ?_ ?_
      ·exact Keeps.refl _ _
      ·exact rfl
     case' rsb4 => exact Stables.cons (Stables.cons (Stables.cons (Stables.cons (Stables.cons (Stables.cons (Stables.cons (Stables.cons (Stables.cons (Stables.cons (Stables.cons (Stables.cons (Stables.cons (Stables.cons (Stables.cons (Stables.nil)))))))))))))))
     case' rfn4 =>
     intro us wz hkz hf
     simp only [putAll, Act.put, sL]
     have e0 : us 78 = _ := hf 0 (by decide) (by decide)
     have e1 : us 79 = _ := hf 1 (by decide) (by decide)
     have e2 : us 80 = _ := hf 2 (by decide) (by decide)
     have e3 : us 81 = _ := hf 3 (by decide) (by decide)
     have e4 : us 82 = _ := hf 4 (by decide) (by decide)
     have e5 : us 83 = _ := hf 5 (by decide) (by decide)
     have e6 : us 84 = _ := hf 6 (by decide) (by decide)
     have e7 : us 85 = _ := hf 7 (by decide) (by decide)
     have e8 : us 86 = _ := hf 8 (by decide) (by decide)
     clear hf
     simp only [e0, e1, e2, e3, e4, e5, e6, e7, e8]
     clear e0 e1 e2 e3 e4 e5 e6 e7 e8 us
     refine wpTill_ready (rs := [9]) (by kernel_rfl) (by simp) ?_
     refine AllTill.cons rfl (fun K hK => ?_) AllTill.nil
     go_simp
     refine (abind_any (HP.out.1.keep hkz fun _ h => h.elim) (HP.out.2.1.keepNil hkz) HP.out.2.2.1 (HP.out.2.2.2.1.keep hkz) (HP.out.2.2.2.2.1.keepNil hkz) (varM_i64 m) g1 g2 hn g3 g4 g5 (room_kids HI2.out hn HA.out.2.2.2.2.2.2.2.2.2.1 (by decide) (by decide) (fun h => absurd h (by decide)) (List.pairwise_singleton _ _) (fun k hk => by rw [List.mem_singleton.1 hk]; exact HY.out))).mono ?_
     intro e wb hst
     obtain ⟨rfl, O2, h8⟩ := HC.out.2.1.step (r := r) (HP.out.2.2.2.2.2.2.2.trans hkz) hgm (by rw [HR.out]; exact hst)
     have H8 := Lib.hid h8
     clear hst h8
     skip
     refine hK.out _ _ (fun _ => trivial) ?_
     clear hK K
     try simp only [Act.put, sL]
     refine wpTill_ready (rs := [10]) (by kernel_rfl) (by simp) ?_
     refine AllTill.cons rfl (fun K hK => ?_) AllTill.nil
     go_simp
     refine hK.out _ _ (fun _ => trivial) ?_
     clear hK K
     try simp only [Act.put, sL]
     refine wpTill_ready (rs := [11, 12]) (by kernel_rfl) (by simp) ?_
     refine (AllTill.cons rfl (fun K hK => ?t5_11) (AllTill.cons rfl (fun K hK => ?t5_12) AllTill.nil))
     case t5_11 =>
      go_simp
      refine hK.out _ _ (fun _ => trivial) ?_
      clear hK K
      try simp only [Act.put, sL]
      refine wpTill_ready (rs := [12, 13]) (by kernel_rfl) (by simp) ?_
      refine (AllTill.cons rfl (fun K hK => ?t6_12) (AllTill.cons rfl (fun K hK => ?t6_13) AllTill.nil))
      case t6_12 =>
       go_simp
       refine hK.out _ _ (fun _ => trivial) ?_
       clear hK K
       try simp only [Act.put, sL]
       refine wpTill_ready (rs := [13]) (by kernel_rfl) (by simp) ?_
       refine AllTill.cons rfl (fun K hK => ?_) AllTill.nil
       go_simp
       refine hK.out _ _ (fun _ => trivial) ?_
       clear hK K
       try simp only [Act.put, sL]
       refine wpTill_ready (rs := [14]) (by kernel_rfl) (by simp) ?_
       refine AllTill.cons rfl (fun K hK => ?_) AllTill.nil
       go_simp
       refine hK.out _ _ (fun _ => trivial) ?_
       clear hK K
       try simp only [Act.put, sL]
       refine wpTill_done (by kernel_rfl) ?_ _
       go_wp2_with fail
       go_meet
       exact ⟨O2, rfl, rfl, H8.out⟩
      case t6_13 =>
       go_simp
       refine hK.out _ _ (fun _ => trivial) ?_
       clear hK K
       try simp only [Act.put, sL]
       refine wpTill_ready (rs := [12]) (by kernel_rfl) (by simp) ?_
       refine AllTill.cons rfl (fun K hK => ?_) AllTill.nil
       go_simp
       refine hK.out _ _ (fun _ => trivial) ?_
       clear hK K
       try simp only [Act.put, sL]
       refine wpTill_ready (rs := [14]) (by kernel_rfl) (by simp) ?_
       refine AllTill.cons rfl (fun K hK => ?_) AllTill.nil
       go_simp
       refine hK.out _ _ (fun _ => trivial) ?_
       clear hK K
       try simp only [Act.put, sL]
       refine wpTill_done (by kernel_rfl) ?_ _
       go_wp2_with fail
       go_meet
       exact ⟨O2, rfl, rfl, H8.out⟩
     case t5_12 =>
      go_simp
      refine hK.out _ _ (fun _ => trivial) ?_
      clear hK K
      try simp only [Act.put, sL]
      refine wpTill_ready (rs := [11]) (by kernel_rfl) (by simp) ?_
      refine AllTill.cons rfl (fun K hK => ?_) AllTill.nil
      go_simp
      refine hK.out _ _ (fun _ => trivial) ?_
      clear hK K
      try simp only [Act.put, sL]
      refine wpTill_ready (rs := [13]) (by kernel_rfl) (by simp) ?_
      refine AllTill.cons rfl (fun K hK => ?_) AllTill.nil
      go_simp
      refine hK.out _ _ (fun _ => trivial) ?_
      clear hK K
      try simp only [Act.put, sL]
      refine wpTill_ready (rs := [14]) (by kernel_rfl) (by simp) ?_
      refine AllTill.cons rfl (fun K hK => ?_) AllTill.nil
      go_simp
      refine hK.out _ _ (fun _ => trivial) ?_
      clear hK K
      try simp only [Act.put, sL]
      refine wpTill_done (by kernel_rfl) ?_ _
      go_wp2_with fail
      go_meet
      exact ⟨O2, rfl, rfl, H8.out⟩
   case rest =>
    rename World => wx
    obtain ⟨O2, rfl, rfl, h8⟩ := hcut
    obtain ⟨x, hx⟩ : ∃ x, x = r.1.1 := ⟨_, rfl⟩
    obtain ⟨er, her⟩ : ∃ er, er = r.1.2 := ⟨_, rfl⟩
    rw [← hx, ← her]
    have hr := HC.out.2.2.2.2.2.2.1
    have hnext := HC.out.2.2.2.2.2.1
    have hws := h8.keep.size
    have hlen : s.ids.length ≤ 1000 := by omega
    have HX := Lib.hid (aI hx (aI her (aI hr (aI hnext (aI h8 (length_cells1 s.ids))))))
    clear hx her hr hnext h8
    by_cases he : er = 0
    ·have e1 : (er == 0) = true := by simpa using he
     have HE := Lib.hid he
     clear he
     go_wp2_with (at_builtin; go_loud (refine wpList_append_els _ rfl (.tmp 92) (.tmp 94) 30 rfl w.heap.size 3 i1 (.int .i64 0) 1 8 Tryz.underlying30 HI.out.1 HI.out.2.1 HI.out.2.2.1 HI.out.2.2.2 rfl (by decide) (.slice va s.ids.length vc) _ rfl (HX.out.2.2.2.2.1.own.keepNil (w' := wx.alloc (.cells #[.int .i64 x] 3)) kOf) ⟨wx.heap.size, 0, none⟩ 1 1 [[.int .i64 x]] rfl rfl (by simp) (alloc_news _ _ _) (by simp [Value.oneCell']) (by rw [HX.out.2.2.2.2.2]; omega) (by rw [HX.out.2.2.2.2.2]; omega) (by simp; omega) ?_); intro v' w9 ho hk9 hf9 _; obtain ⟨a9, c9, rfl⟩ := ho.isSlice; have e9 : (cells1 s.ids ++ [[Value.int .i64 x]]).length = (s.ids ++ [x]).length := (by have q := HX.out.2.2.2.2.2; have q2 : (cells1 s.ids ++ [[Value.int .i64 x]]).length = (cells1 s.ids).length + 1 := List.length_append; have q3 : (s.ids ++ [x]).length = s.ids.length + 1 := List.length_append; omega); rw [e9] at ho hf9 ⊢; have HO := Lib.hid (aI ho (aI hk9 hf9)); clear ho hk9 hf9 e9)
     go_roundw
     case rel =>
      have hpush := HX.out.2.2.2.2.1.push (i := x) (v' := .slice a9 (s.ids ++ [x]).length c9) (w2 := wx.alloc (.cells #[.int .i64 x] 3)) kOf (by rw [cells1_snoc]; exact HO.out.1) HO.out.2.1 HO.out.2.2
      refine ⟨j + 1, a9, c9, ⟨r.2.1, r.2.2.1, r.2.2.2, s.ids ++ [x]⟩, O2, by omega, by omega, by go_num, ?_, by simp, hpush⟩
      rw [HX.out.2.2.2.1]
      unfold stepB putR
      rw [← HX.out.2.2.1, if_pos (HX.out.2.1.symm.trans HE.out), ← HX.out.1]
     case measure => simp [intOf]; omega
    ·have e1 : (er == 0) = false := by simpa using he
     have HE := Lib.hid he
     clear he
     go_wp2_with fail
     go_roundw
     case rel =>
      refine ⟨j + 1, va, vc, ⟨r.2.1, r.2.2.1, r.2.2.2, s.ids⟩, O2, by omega, by omega, by go_num, ?_, rfl, HX.out.2.2.2.2.1⟩
      rw [HX.out.2.2.2.1]
      unfold stepB putR
      rw [← HX.out.2.2.1, if_neg (fun h => HE.out (HX.out.2.1.trans h))]
     case measure => simp [intOf]; omega
  ·have hend : s = buildM nodes limbs ⟨A, sp, ov, [0, 1]⟩ (l.take 40) := by
    rw [hs]
    rcases Nat.lt_or_ge j 40 with h | h
    ·rw [List.take_of_length_le (by have := HA.out.2.2.2.2.2.2.2.2.2.2.2.2; omega), List.take_of_length_le (by have := HA.out.2.2.2.2.2.2.2.2.2.2.2.2; omega)]
    ·rw [show j = 40 by omega]
   have HE := Lib.hid (aI hH hend)
   clear hH hend hs hinv
   rcases Nat.lt_or_ge j nl with h | h
   ·have h40 : j = 40 := by omega
    subst h40
    have e0 : decide (((40 : Nat) : Int) < (nl : Int)) = true := by simp; omega
    clear hlt
    go_wp2_with fail
    go_ret
    exact ⟨_, O', rfl, by rw [← HE.out.2]; exact HE.out.1⟩
   ·have e0 : decide ((j : Int) < (nl : Int)) = false := by simp; omega
    clear hlt
    go_wp2_with fail
    go_ret
    exact ⟨_, O', rfl, by rw [← HE.out.2]; exact HE.out.1⟩
end Go.Proofs.YtnheefnlcnkefaaGreatDoor
