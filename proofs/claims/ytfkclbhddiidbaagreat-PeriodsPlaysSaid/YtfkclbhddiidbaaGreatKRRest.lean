/- What riddleref18's Rest does. Conditions: the set's own reading; room. -/
import Derived.Test.YtfkclbhddiidbaaGreatKRJoined
import Derived.Test.YtfkclbhddiidbaaGreatKPRest
import Derived.Test.YtfkclbhddiidbaaGreatKPConcat
import Derived.Laws.AppendOwnNone
namespace Go.Proofs.YtfkclbhddiidbaaGreat.R18
open Go.RowKit Go.Rid
variable {M : Nat → Prop} {base po q : Nat} {w w' : World} {vc vr vc' vr' : Value} {eC eR : List (List Value)} {out : List Int × List (List Bool)} {la : Option Addr} {ln lc : Nat} {zs : List Int}
/-- One row more, no cut. -/
theorem Half.pushR (h : Half M base po q w vc vr eC eR out la ln lc zs) (k : Keeps (Turn Nil po vc vr) w w') (hb : RowIs w' po 30 [.int .i64 q, vc, vr']) {cR : List Value} {r : List Bool} (hR : RBools (Turn M po vc vr) w cR r)
    (oC : OwnEls w' base 38 2 vc eC) (oR : OwnEls w' base 58 1 vr' (eR ++ [cR])) (nR : ∀ b, vr'.ownBlock = some b → vr.ownBlock = some b ∨ w.heap.size ≤ b) :
    Half M base po q w' vc vr' eC (eR ++ [cR]) (out.1, out.2 ++ [r]) la ln lc zs := by
  have h1 : ∀ b, b < w.heap.size → Turn Nil po vc vr b → Turn M po vc vr b := fun b _ hb => by
    rcases hb with hb | hb
    · exact hb.elim
    · exact .inr hb
  have h2 : ∀ b, b < w.heap.size → Turn M po vc vr' b → Turn M po vc vr b := fun b hlt hb => by
    rcases hb with hb | hb | hb | hb
    · exact .inl hb
    · exact .inr (.inl hb)
    · exact .inr (.inr (.inl hb))
    · rcases nR b hb with hb | hb
      · exact .inr (.inr (.inr hb))
      · omega
  refine ⟨hb, oC, oR, h.lC, by simp [h.lR], fun i hi => (h.elC i hi).move k h1 h2, fun i hi => ?_, h.list.move k h1 h2⟩
  rcases Nat.lt_or_ge i eR.length with hi' | hi'
  · rw [getD_snoc_lt _ _ _ hi', show (out.1, out.2 ++ [r]).2 = out.2 ++ [r] from rfl, getD_snoc_lt _ _ _ (by rw [h.lR]; exact hi')]
    exact (h.elR i hi').move k h1 h2
  · have : i = eR.length := by simp at hi; omega
    subst this
    rw [getD_snoc_eq, show (out.1, out.2 ++ [r]).2 = out.2 ++ [r] from rfl, ← h.lR, getD_snoc_eq]
    exact hR.move k h1 h2
end Go.Proofs.YtfkclbhddiidbaaGreat.R18
namespace Go.Proofs.YtfkclbhddiidbaaGreat
open Go.RowKit Go.Rid
/-- The set that Rest has begun: its box, its cuts. -/
def Copied (M : Nat → Prop) (w0 : World) (S : PSet) (W : World) : Prop := ∃ a c eC, R18.Half M w0.heap.size w0.heap.size S.P W (.slice a eC.length c) (.slice none 0 0) eC [] (S.cuts, []) none 0 0 [] ∧ Keeps Nil w0 W
set_option maxHeartbeats 4000000 in
set_option maxRecDepth 100000 in
theorem refrest18_any {M : Nat → Prop} {ac ar : Option Addr} {nc cc nr cr : Nat} {S : PSet} {w : World} (hM : MB M w) (hs : SV M w ac nc cc ar nr cr S) (hf : Fine S) :
    Calls Tryz.prog 29 #[.agg #[.int .i64 (S.P : Int), .slice ac nc cc, .slice ar nr cr]] w fun e w' => RSetRet M w (restOf S) e w' := by
  obtain ⟨i0, hi0⟩ := info_parts info_bool'
  obtain ⟨i1, hi1⟩ := info_parts info_Int
  obtain ⟨i2, hi2⟩ := info_parts info_rowb
  have HI := Lib.hid (And.intro hi1 (And.intro hi2 hi0))
  have k00 : Keeps Nil w (w.alloc (.cells #[.int .i64 (S.P : Int), .slice ac nc cc, .slice ar nr cr] 30)) := (by repeat (first | exact Keeps.refl _ _ | refine Keeps.drew ?_ | refine Keeps.drewN ?_ _ | refine Keeps.alloc ?_ _))
  have k01 : Keeps Nil (w.alloc (.cells #[.int .i64 (S.P : Int), .slice ac nc cc, .slice ar nr cr] 30)) ((w.alloc (.cells #[.int .i64 (S.P : Int), .slice ac nc cc, .slice ar nr cr] 30)).alloc (.cells #[.int .i64 0, .slice none 0 0, .slice none 0 0] 30)) := (by repeat (first | exact Keeps.refl _ _ | refine Keeps.drew ?_ | refine Keeps.drewN ?_ _ | refine Keeps.alloc ?_ _))
  have r0 := (RowIs.alloc (w := w) (E := 30) (xs := [.int .i64 (S.P : Int), .slice ac nc cc, .slice ar nr cr])).keep k01 id
  have r1 := RowIs.alloc (w := w.alloc (.cells #[.int .i64 (S.P : Int), .slice ac nc cc, .slice ar nr cr] 30)) (E := 30) (xs := [.int .i64 0, .slice none 0 0, .slice none 0 0])
  rw [show (w.alloc (.cells #[.int .i64 (S.P : Int), .slice ac nc cc, .slice ar nr cr] 30)).heap.size = w.heap.size + 1 by simp] at r1
  change RowIs ((w.alloc (.cells #[.int .i64 (S.P : Int), .slice ac nc cc, .slice ar nr cr] 30)).alloc (.cells #[.int .i64 0, .slice none 0 0, .slice none 0 0] 30)) _ _ _ at r1
  have hW : ∀ b, b < w.heap.size → With M (w.heap.size + 1) b → M b := fun b hb hm => by
    rcases hm with hm | hm
    · exact hm
    · have : b = w.heap.size + 1 := hm; omega
  have hk0 := k00.trans k01
  have HM6 := Lib.hid ((hM.keep hk0).with r1.lt)
  have HS0 := Lib.hid (hs.move hk0 (fun _ _ h => h.elim) hW)
  have HF := Lib.hid hf
  have HB := Lib.hid (And.intro r0 (And.intro r1 hk0))
  have hP := hf.ok.pos
  have hP2 := hf.ok.le
  have hcap := hs.1.cap
  have hle := hs.1.le
  have hcap2 := hs.2.cap
  have hle2 := hs.2.le
  have hnc : nc ≤ 1000 := by have := hs.1.len; have := hf.few; omega
  have hnr : nr = S.rows.length := hs.2.len.symm
  have hnr2 : nr ≤ 1001 := by have := hf.ok.len; have := hf.few; omega
  have HNR := Lib.hid hnr
  clear hM hs hf k00 k01 hi0 hi1 hi2 hW hnr
  go_enter Tryz.func29, Tryz.ntmps29
  go_upto_region 1 with (fail)
  generalize (w.alloc (.cells #[.int .i64 (S.P : Int), .slice ac nc cc, .slice ar nr cr] 30)).alloc (.cells #[.int .i64 0, .slice none 0 0, .slice none 0 0] 30) = w0 at *
  obtain ⟨d0, d1, d2⟩ := r0.three
  clear r0 r1 hk0
  go_upto_region 2 with (fail)
  have rA := RowIs.alloc (w := w0) (E := 30) (xs := [.int .i64 (S.P : Int), .slice none 0 0, .slice none 0 0])
  have kA : Keeps Nil w0 (w0.alloc (.cells #[.int .i64 (S.P : Int), .slice none 0 0, .slice none 0 0] 30)) := (by repeat (first | exact Keeps.refl _ _ | refine Keeps.drew ?_ | refine Keeps.drewN ?_ _ | refine Keeps.alloc ?_ _))
  change RowIs (w0.alloc (.cells #[.int .i64 (S.P : Int), .slice none 0 0, .slice none 0 0] 30)) _ _ _ at rA
  generalize w0.alloc (.cells #[.int .i64 (S.P : Int), .slice none 0 0, .slice none 0 0] 30) = wA at *
  have p0 := kA.cellE HB.out.1.lt id d0
  have p1 := kA.cellE HB.out.1.lt id d1
  have p2 := kA.cellE HB.out.1.lt id d2
  obtain ⟨x0, x1, x2⟩ := rA.three
  have f1 := rA.frozen 1
  have lA := rA.lt
  have HA := Lib.hid (And.intro rA kA)
  clear rA kA
  go_cut [] (fun wx => Copied (With M (w.heap.size + 1)) w0 S wx)
  case first =>
    cases ac with
    | none =>
      obtain ⟨rfl, rfl⟩ := SlOf.none HS0.out.1
      have hze : S.cuts = [] := List.eq_nil_of_length_eq_zero HS0.out.1.len
      have HZE := Lib.hid hze
      clear hze
      go_wp2_with (at_builtin; refine wpList_append_own_none rfl _ _ 23 rfl w0.heap.size 38 i1 2 Tryz.underlying23 HI.out.1.1 _ _ _ rfl (World.ownsRow_nil _ _ _ _) rfl ?_)
      go_meet
      refine ⟨none, 0, [], ⟨HA.out.1.set 1 (.slice none 0 0), OwnEls.nil _ _ _ _, OwnEls.nil _ _ _ _, by rw [HZE.out]; rfl, rfl, fun i hi => by simp at hi, fun i hi => by simp at hi, ZInts.none⟩, HA.out.2.own (Nat.le_refl _) ((Keeps.refl (One w0.heap.size) wA).set1 1 _)⟩
    | some pc =>
      obtain ⟨new, hnl, hnsz, hnews, hnr⟩ : ∃ new : List (List Value), new.length = nc ∧ (∀ c ∈ new, c.length = 2) ∧ (∀ j u, new.flatten[j]? = some u → wA.cell? (pc.add j) = some u) ∧ (∀ i, i < nc → RZ (With M (w.heap.size + 1)) w0 (new.getD i []) (S.cuts.getD i 0)) := by
        rcases Nat.eq_zero_or_pos nc with h0 | h0
        · exact ⟨[], by simp [h0], by simp, by simp, fun i hi => by omega⟩
        · obtain ⟨new, q1, q2, q3, q4, q5⟩ := SlOf.news HS0.out.1 h0 (by decide)
          exact ⟨new, q1, q2, fun j u hj => (HA.out.2.cell (p := pc.add j) (by cases pc; unfold Addr.add; split <;> exact q5) id).trans (q3 j u hj), q4⟩
      have h1c : ∀ u ∈ new.flatten, u.oneCell' = true := by
        intro u hu
        obtain ⟨c, hc, hu⟩ := List.mem_flatten.1 hu
        obtain ⟨i, hi, rfl⟩ := List.mem_iff_getElem.1 hc
        obtain ⟨s, a, m, cc, e, _⟩ := hnr i (by omega)
        rw [show new.getD i [] = new[i] by simp [List.getD, List.getElem?_eq_getElem hi]] at e
        rw [e] at hu
        simp at hu
        rcases hu with rfl | rfl <;> rfl
      have HNW := Lib.hid (And.intro hnl (And.intro hnsz (And.intro hnews (And.intro hnr h1c))))
      clear hnl hnsz hnews hnr h1c
      go_wp2_with (at_builtin; refine wpList_append_els _ rfl (.tmp 11) (.tmp 13) 23 rfl w0.heap.size 38 i1 (.agg #[.bool false, .slice none 0 0]) 2 32 Tryz.underlying23 HI.out.1.1 HI.out.1.2.1 HI.out.1.2.2.1 HI.out.1.2.2.2 rfl (by decide) (.slice none 0 0) [] rfl (OwnEls.nil _ _ _ _) pc cc nc new rfl HNW.out.1 HNW.out.2.1 HNW.out.2.2.1 HNW.out.2.2.2.2 (by simp; omega) (by simp; omega) (by omega) ?_; intro v' w2 ho hk2 hf2 _; rw [List.nil_append] at ho; obtain ⟨a5, c5, rfl⟩ := ho.isSlice; have k2 : Keeps Nil wA w2 := (hk2.mono fun b hb => by simp [Own, Value.ownBlock] at hb); have q2 := HA.out.1.keep k2 id; obtain ⟨y0, y1, y2⟩ := q2.three; have t1 := q2.frozen 1; have HO := Lib.hid (And.intro ho (And.intro k2 (And.intro hf2 q2))); clear ho hk2 hf2 k2 q2)
      go_meet
      have ks := (Keeps.refl (One w0.heap.size) w2).set1 1 (.slice a5 new.length c5)
      have ho2 := HO.out.1.keep ks fun b hb hm => HO.out.1.ty HO.out.2.2.2 (by decide) (by rw [hb]; exact congrArg some hm)
      refine ⟨a5, c5, new, ⟨HO.out.2.2.2.set 1 _, ho2, OwnEls.nil _ _ _ _, by rw [HNW.out.1]; exact HS0.out.1.len, rfl, fun i hi => ?_, fun i hi => by simp at hi, ZInts.none⟩, (HA.out.2.trans HO.out.2.1).own (Nat.le_refl _) ks⟩
      refine (HNW.out.2.2.2.1 i (by rw [← HNW.out.1]; exact hi)).move ((HA.out.2.trans HO.out.2.1).of_nil.trans ks) (fun b hb hm => ?_) (fun b hb hm => ?_)
      · have : b = w0.heap.size := hm; omega
      · rcases hm with hm | hm | hm | hm
        · exact hm
        · omega
        · rcases HO.out.2.2.1 b hm with h | h
          · simp [Value.ownBlock] at h
          · omega
        · simp [Value.ownBlock] at hm
  case rest =>
    rename World => wc
    obtain ⟨av, cv, eC, hH0, hkc⟩ := hcut
    have HH0 := Lib.hid (And.intro hH0 hkc)
    have b0 := HB.out.1.lt
    clear hH0 hkc p0 p1 p2 x0 x1 x2 f1 lA HA
    go_wp2_with fail
    go_loopw [4] (fun i wr => ∃ (k : Nat) (vr : Value) (eR : List (List Value)), k ≤ nr ∧ i = .int .i64 k ∧ R18.Half (With M (w.heap.size + 1)) w0.heap.size w0.heap.size S.P wr (.slice av eC.length cv) vr eC eR (S.cuts, (S.rows.take k).map (fun r => r.map not)) none 0 0 [] ∧ Keeps Nil w0 wr) (fun i _ => nr - (intOf i).toNat)
    case atStart => exact ⟨0, _, _, Nat.zero_le _, rfl, HH0.out.1, HH0.out.2⟩
    case round =>
      rename World => wo
      obtain ⟨k, vr, eR, hk, rfl, hH, hkk⟩ := hrel
      obtain ⟨d0', d1', d2'⟩ := (HB.out.1.keep hkk id).three
      have b0' := Nat.lt_of_lt_of_le b0 hkk.size
      have HHo := Lib.hid (And.intro hH hkk)
      by_cases hlt : k < nr
      · obtain ⟨_, rb, ro, a3, c3, hae, hb, xr, hB⟩ := HS0.out.row HF.out (k := k) (by have := HF.out.ok.len; have := HNR.out; omega)
        subst hae
        have xr' := hkk.cellE hb id xr
        have hb' := Nat.lt_of_lt_of_le hb hkk.size
        have HBk := Lib.hid (Bools.keepNil hB hkk)
        have capb := hB.2.cap
        have leb := hB.2.le
        have i1' : (k : Int) < (nr : Int) := by omega
        have i2' : (0 : Int) ≤ (k : Int) := by omega
        clear hB xr hb hH hkk
        go_wp2_with (at_make; refine wpList_make_row _ rfl _ _ 58 rfl 4 i0 (.bool false) Tryz.underlying58 HI.out.2.2.1 HI.out.2.2.2.1 HI.out.2.2.2.2.1 rfl .i64 .i64 _ _ S.P rfl rfl rfl rfl (by rw [HI.out.2.2.2.2.2]; omega) (by omega) ?_; intro w2 hrow2 hk2 hsz2; have HR2 := Lib.hid (And.intro hrow2 hk2); clear hrow2 hk2 hsz2)
        go_loopw [6] (fun i wx => ∃ j : Nat, j ≤ S.P ∧ i = .int .i64 j ∧ RowIs wx wo.heap.size 4 ((((S.rows.getD k []).take j).map (fun b => Value.bool (!b))) ++ zeros (S.P - j) (.bool false)) ∧ Keeps Nil wo wx) (fun i _ => S.P - (intOf i).toNat)
        case atStart => exact ⟨0, Nat.zero_le _, rfl, by simpa using HR2.out.1, HR2.out.2⟩
        case round =>
          obtain ⟨j, hj, rfl, hrx, hkx⟩ := hrel
          have HX := Lib.hid (And.intro hrx hkx)
          have y0 := hkx.cellE b0' id d0'
          have y2 := hkx.cellE b0' id d2'
          have y3 := hkx.cellE hb' id xr'
          by_cases hjt : j < S.P
          · obtain ⟨b2, off2, hae2, hb2, _, p0⟩ := (Bools.keepNil HBk.out hkx).at hjt
            subst hae2
            have p1 := hrx.cell j
            have f1 := hrx.frozen j
            have hml : ((S.rows.getD k []).take j).length = j := by rw [List.length_take, HBk.out.1, Nat.min_eq_left hj]
            rw [List.getElem?_append_right (by rw [List.length_map, hml]; exact Nat.le_refl _), List.length_map, hml, Nat.sub_self, show zeros (S.P - j) (Value.bool false) = .bool false :: zeros (S.P - j - 1) (.bool false) by unfold zeros; rw [show S.P - j = (S.P - j - 1) + 1 by omega, List.replicate_succ]; simp] at p1
            have p1' : wr.cell? ⟨wo.heap.size, j, none⟩ = some (.bool false) := p1
            have hjI : (j : Int) < (S.P : Int) := by omega
            have hjI0 : (0 : Int) ≤ (j : Int) := by omega
            have HNS := Lib.hid (not_step (S.rows.getD k []) HBk.out.1 hjt)
            generalize hxx : (S.rows.getD k []).getD j false = x at *
            clear hrx hkx p1 hml hxx
            go_wp2_with fail
            go_roundw
            case rel => exact ⟨j + 1, by omega, by go_num, by have h := HX.out.1.set j (.bool (!x)); rw [HNS.out] at h; exact h, HX.out.2.own (Nat.le_refl _) ((Keeps.refl (One wo.heap.size) _).set1 j _)⟩
            case measure => simp [intOf]; omega
          · obtain rfl : j = S.P := by omega
            have hH2 := HHo.out.1.keepNil hkx
            have hrx' := hrx
            rw [Nat.sub_self, show zeros 0 (Value.bool false) = [] from rfl, List.append_nil, List.take_of_length_le (by rw [HBk.out.1]; exact Nat.le_refl _)] at hrx'
            obtain ⟨z0, z1, z2⟩ := hH2.box.three
            have lbx := hH2.box.lt
            have hlR := hH2.lR
            have heR : eR.length ≤ 2000 := by rw [← hlR, List.length_map, List.length_take]; omega
            have hwo : w0.heap.size ≤ wo.heap.size := HHo.out.2.size
            have hwr : w0.heap.size ≤ wr.heap.size := Nat.le_trans hwo hkx.size
            have HO := Lib.hid (And.intro hH2 (And.intro hrx' hkx))
            have i9 : ¬ (S.P : Int) < (S.P : Int) := by omega
            clear hH2 hrx' hrx hkx hlR
            go_wp2_with (at_builtin; refine wpList_append_els _ rfl (.tmp 45) (.tmp 47) 28 rfl w0.heap.size 58 i2 (.slice none 0 0) 1 24 Tryz.underlying28 HI.out.2.1.1 HI.out.2.1.2.1 HI.out.2.1.2.2.1 HI.out.2.1.2.2.2 rfl (by decide) vr eR rfl (HO.out.1.oR.keepNil (by repeat (first | exact Keeps.refl _ _ | refine Keeps.drew ?_ | refine Keeps.drewN ?_ _ | refine Keeps.alloc ?_ _))) ⟨wr.heap.size, 0, none⟩ 1 1 [[.slice (some ⟨wo.heap.size, 0, none⟩) S.P S.P]] rfl rfl (by simp) (alloc_news _ _ _) (by simp [Value.oneCell']) (by omega) (by omega) (by simp; omega) ?_; intro v' w15 ho15 hk15 hf15 _; obtain ⟨a11, c11, rfl⟩ := ho15.isSlice; rw [show (eR ++ [[Value.slice (some ⟨wo.heap.size, 0, none⟩) S.P S.P]]).length = eR.length + 1 by simp] at ho15 hf15 ⊢; have b14 := HO.out.1.box.keep (M := Nil) (show Keeps Nil wr (wr.alloc (.cells #[.slice (some ⟨wo.heap.size, 0, none⟩) S.P S.P] 58)) from (by repeat (first | exact Keeps.refl _ _ | refine Keeps.drew ?_ | refine Keeps.drewN ?_ _ | refine Keeps.alloc ?_ _))) id; have hnb : ¬ vr.ownBlock = some w0.heap.size := (fun e => HO.out.1.oR.ty HO.out.1.box (by decide) e); have b15 := b14.keep hk15 hnb; obtain ⟨z02, z12, z22⟩ := b15.three; have t22 := b15.frozen 2; have oC15 := (HO.out.1.oC.keepNil (show Keeps Nil wr (wr.alloc (.cells #[.slice (some ⟨wo.heap.size, 0, none⟩) S.P S.P] 58)) from (by repeat (first | exact Keeps.refl _ _ | refine Keeps.drew ?_ | refine Keeps.drewN ?_ _ | refine Keeps.alloc ?_ _)))).keep hk15 (fun b' hb' hm => HO.out.1.oC.ty2 HO.out.1.oR (by decide) b' hb' hm); have H15 := Lib.hid (And.intro ho15 (And.intro hk15 (And.intro hf15 (And.intro b15 oC15)))); clear ho15 hk15 hf15 b14 b15 oC15 hnb)
            go_roundw
            case rel =>
              have b16 := H15.out.2.2.2.1.set 2 (.slice a11 (eR.length + 1) c11)
              have k16 : Keeps (One w0.heap.size) w15 (w15.setCell ⟨w0.heap.size, 2, none⟩ (.slice a11 (eR.length + 1) c11)) := (Keeps.refl (One w0.heap.size) w15).set1 2 _
              have oC16 := H15.out.2.2.2.2.keep k16 fun b' hb' hm => H15.out.2.2.2.2.ty H15.out.2.2.2.1 (by decide) (by rw [hb']; exact congrArg some hm)
              have oR16 := H15.out.1.keep k16 fun b' hb' hm => H15.out.1.ty H15.out.2.2.2.1 (by decide) (by rw [hb']; exact congrArg some hm)
              have kT : Keeps (Turn Nil w0.heap.size (.slice av eC.length cv) vr) wr (w15.setCell ⟨w0.heap.size, 2, none⟩ (.slice a11 (eR.length + 1) c11)) :=
                ((show Keeps Nil wr (wr.alloc (.cells #[.slice (some ⟨wo.heap.size, 0, none⟩) S.P S.P] 58)) from (by repeat (first | exact Keeps.refl _ _ | refine Keeps.drew ?_ | refine Keeps.drewN ?_ _ | refine Keeps.alloc ?_ _))).of_nil.trans (H15.out.2.1.mono fun b' hb' => .inr (.inr (.inr hb')))).trans (k16.mono fun b' hb' => .inr (.inl hb'))
              have hll : ((S.rows.getD k []).map not).length = S.P := by rw [List.length_map]; exact HBk.out.1
              have hx0 : RowIs wr wo.heap.size 4 (((S.rows.getD k []).map not).map Value.bool) := by rw [List.map_map]; exact HO.out.2.1
              have hbx := Bools.ofRow (M := Turn (With M (w.heap.size + 1)) w0.heap.size (.slice av eC.length cv) vr) hx0 (fun hm => by have := HHo.out.1.mb (HM6.out.keep HHo.out.2) _ hm; omega) (by omega)
              rw [hll] at hbx
              have hp := HO.out.1.pushR kT b16 (r := (S.rows.getD k []).map not) ⟨_, _, _, rfl, hbx⟩ oC16 oR16 (fun b' hb' => by
                rcases H15.out.2.2.1 b' hb' with h | h
                · exact .inl h
                · simp at h; exact .inr (by omega))
              refine ⟨k + 1, .slice a11 (eR.length + 1) c11, eR ++ [[.slice (some ⟨wo.heap.size, 0, none⟩) S.P S.P]], by omega, by go_num, ?_, (HHo.out.2.trans HO.out.2.2).trans' kT fun b' hb' => ?_⟩
              · rw [take_get S.rows [] (by have := HNR.out; omega), List.map_append]
                exact hp
              · rcases hb' with h | h | h | h
                · exact .inl h
                · exact .inr (by omega)
                · exact .inr (HO.out.1.oC.lt b' h).1
                · exact .inr (HO.out.1.oR.lt b' h).1
            case measure => simp [intOf]; omega
      · obtain rfl : k = nr := by omega
        have i1'' : ¬ (k : Int) < (k : Int) := by omega
        obtain ⟨ac9, nc9, cc9, ar9, nr9, cr9, e1, e2, hsv⟩ := hH.sv HM6.out
        cases e1
        subst e2
        have hbx := hH.box
        obtain ⟨z0, z1, z2⟩ := hbx.three
        have r6 := HB.out.2.1.keep hkk id
        obtain ⟨q0, q1, q2⟩ := r6.three
        have t0 := r6.frozen 0
        have t1 := r6.frozen 1
        have t2 := r6.frozen 2
        have HFN := Lib.hid (And.intro hsv (And.intro r6 hkk))
        clear hH hsv hbx r6 hkk
        go_wp2_with fail
        obtain ⟨y0, y1, y2⟩ := (HFN.out.2.1.triple (u' := .int .i64 (S.P : Int)) (v' := .slice av eC.length cv) (x' := .slice ar9 nr9 cr9)).three
        have hj : (⟨S.P, S.cuts, (S.rows.take k).map (fun r => r.map not)⟩ : PSet) = restOf S := by
          unfold restOf
          rw [List.take_of_length_le (by rw [HNR.out]; exact Nat.le_refl _)]
        have hsv := HFN.out.1
        rw [hj] at hsv
        refine bodyPost_ret (v := .agg #[.int .i64 (S.P : Int), .slice av eC.length cv, .slice ar9 nr9 cr9]) (by simp [results, Tryz.results29, go_sem, y0, y1, y2]) rfl ⟨_, _, _, _, _, _, rfl, hsv.move (M' := One (w.heap.size + 1)) (Keeps.triple _ _ _) (fun _ _ h => .inr h) (fun _ _ h => .inl h), (HB.out.2.2.trans HFN.out.2.2).own (by omega) (Keeps.triple _ _ _)⟩
end Go.Proofs.YtfkclbhddiidbaaGreat
