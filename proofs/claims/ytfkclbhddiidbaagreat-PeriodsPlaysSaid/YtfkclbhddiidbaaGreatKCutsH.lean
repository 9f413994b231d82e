/- A list of numbers that a call builds by append: what lies in its spare capacity. No condition but room. -/
/- What (*periods.Set).Cuts does, told of the spare capacity of what it hands out. Conditions: the set's own reading; room. -/
/- What clone, trim, made, Norm and Cuts do, told that the limbs that they hand out can be written. Conditions: as without. -/
/- What (*periods.Set).Cuts does, told of the spare capacity, and that all it hands out can be written. Conditions: the set's own reading; room. -/
/- A list that Cuts hands out, as cells that its caller overwrites, one limb and one number at a time. No condition. -/
import Derived.Test.YtfkclbhddiidbaaGreatKGrow
import Derived.Test.YtfkclbhddiidbaaGreatKPRest
import Derived.Test.YtfkclbhddiidbaaGreatKRegions
namespace Go.Rid
open Go.RowKit
def zInt : Value := .agg #[.bool false, .slice none 0 0]
/-- So many noughts. -/
def zI (k : Nat) : List Value := (List.replicate k [Value.bool false, .slice none 0 0]).flatten
theorem zI_succ (k : Nat) : zI (k + 1) = [.bool false, .slice none 0 0] ++ zI k := by simp [zI, List.replicate_succ]
theorem length_zI (k : Nat) : (zI k).length = k * 2 := by
  induction k with
  | zero => rfl
  | succ k ih => rw [zI_succ]; simp [ih]; omega
theorem zI_get : ∀ (k i : Nat), i < k → (zI k)[i * 2]? = some (.bool false) ∧ (zI k)[i * 2 + 1]? = some (.slice none 0 0)
  | 0, _, h => by omega
  | k + 1, 0, _ => by rw [zI_succ]; exact ⟨rfl, rfl⟩
  | k + 1, i + 1, h => by
    have := zI_get k i (by omega)
    rw [zI_succ, show (i + 1) * 2 = i * 2 + 1 + 1 by omega]
    simpa using this
theorem zeroCells_zI (k : Nat) : Builtin.zeroCells zInt.cells k = (zI k).toArray := by
  apply Array.ext
  · simp [Builtin.zeroCells, zInt, Value.cells, length_zI]
  · intro i h1 h2
    simp [Builtin.zeroCells, zInt, Value.cells] at h1
    have h3 := zI_get k (i / 2) (by omega)
    have h4 : i % 2 = 0 ∨ i % 2 = 1 := by omega
    rcases h4 with h4 | h4
    · have e : i / 2 * 2 = i := by omega
      rw [e] at h3
      have h5 : (zI k)[i]'(by simpa [length_zI] using h1) = .bool false := by
        have := h3.1
        rw [List.getElem?_eq_getElem (by simpa [length_zI] using h1)] at this
        exact Option.some.inj this
      simp [Builtin.zeroCells, zInt, Value.cells, h4, h5]
    · have e : i / 2 * 2 + 1 = i := by omega
      rw [e] at h3
      have h5 : (zI k)[i]'(by simpa [length_zI] using h1) = .slice none 0 0 := by
        have := h3.2
        rw [List.getElem?_eq_getElem (by simpa [length_zI] using h1)] at this
        exact Option.some.inj this
      simp [Builtin.zeroCells, zInt, Value.cells, h4, h5]
/-- The spare capacity holds noughts. -/
def SpareZ (w : World) (E : TypeId) (v : Value) (els : List (List Value)) : Prop := ∀ g cap, v = .slice (some ⟨g, 0, none⟩) els.length cap → RowIs w g E (els.flatten ++ zI (cap - els.length))
theorem SpareZ.nil (w : World) (E : TypeId) : SpareZ w E (.slice none 0 0) [] := fun g cap h => by cases h
theorem SpareZ.keep {M : Nat → Prop} {w w' : World} {E : TypeId} {v : Value} {els : List (List Value)} (h : SpareZ w E v els) (k : Keeps M w w') (hn : ∀ b, v.ownBlock = some b → ¬ M b) : SpareZ w' E v els := fun g cap e => (h g cap e).keep k (hn g (by rw [e]; rfl))
section
variable {P : Program} (w : World)
theorem append_spare (base : Nat) (t ty e : TypeId) (i : TypeInfo) (ht : P.underlying t = some (.slice e)) (hi : P.info? e = some i) (hz : i.zero = some zInt) (hsize : i.size = 2)
    (v : Value) (els : List (List Value)) (hown : OwnEls w base e 2 v els) (hsp : SpareZ w e v els) (a : Addr) (c : Nat) (new : List Value) (hl : new.length = 2) (hnews : ∀ j u, new[j]? = some u → w.cell? (a.add j) = some u) (h1 : ∀ u ∈ new, u.oneCell' = true)
    (h63 : els.length + 1 ≤ maxLen) (hbytes : (els.length + 1) * i.bytes ≤ 140737488355328) {v' : Value} {w' : World} (hr : (Builtin.append_ #[t, t] ty #[v, .slice (some a) 1 c]).run P w = .ok v' w') : SpareZ w' e v' (els ++ [new]) := by
  have hsmall : els.length + 1 ≤ 9223372036854775807 := by simp only [maxLen] at h63; omega
  have hfl : (els ++ [new]).flatten = els.flatten ++ new := by simp
  have hll : els.flatten.length = els.length * 2 := length_flatten_sz els hown.sz
  have hle : (els ++ [new]).length = els.length + 1 := by simp
  have hrow := hown.row
  rcases hrow.2 with ⟨rfl, h0⟩ | ⟨g, cap, cur, rfl, hbg, hg, hnc, hcm, hcs, htake⟩
  · have he : els = [] := List.eq_nil_of_length_eq_zero h0
    subst he
    have hr' := run_append_nil (P := P) w t ty e i zInt ht hi hz a 1 c new (by rw [hsize]; omega) hnews (by omega) (by omega) (by have hb := hbytes; simp only [List.length_nil, Nat.zero_add] at hb; omega)
    rw [hr'] at hr
    cases hr
    intro g cap hgc
    cases hgc
    show _ = some _
    rw [zeroCells_zI, hfl]
    have := heap_alloc_new w.drew (.cells (new.toArray ++ (zI (grownCap w 1 0 e - 1)).toArray) e)
    simpa using this
  · by_cases hroom : els.length + 1 ≤ cap
    · have hsr := hsp g cap rfl
      have hcur : cur = (els.flatten ++ zI (cap - els.length)).toArray := by
        have := hsr.out.symm.trans hg
        simpa using this.symm
      have hfit : els.length * i.size + new.length ≤ cur.size := by rw [hl, hcs, hsize]; omega
      have hr' := run_append_room (P := P) w t ty e i ht hi g els.length cap cur hg a 1 c new (by rw [hsize]; omega) hnews h1 hroom hfit
      rw [hr'] at hr
      cases hr
      intro g' cap' hgc
      rw [hle] at hgc
      cases hgc
      show _ = some _
      rw [setRow_heap w g cur _ e _ hg, hfl, hle, hcur]
      congr 2
      have hz : zI (cap - els.length) = [.bool false, .slice none 0 0] ++ zI (cap - (els.length + 1)) := by
        rw [show cap - els.length = (cap - (els.length + 1)) + 1 by omega, zI_succ]
      rw [hsize, hz, hl]
      simp only [List.toList_toArray]
      rw [List.take_append_of_le_length (by omega), List.take_of_length_le (by omega), ← hll, List.drop_length_add_append]
      rfl
    · have holds : ∀ j u, els.flatten[j]? = some u → w.cell? ((⟨g, 0, none⟩ : Addr).add j) = some u := hrow.cells (g := g) rfl
      have hr' := run_append_grow (P := P) w t ty e i zInt ht hi hz ⟨g, 0, none⟩ els.length cap els.flatten (by rw [hsize]; exact hll) holds a 1 c new (by rw [hsize]; omega) hnews (by omega) (by omega) (growslice_fits (by omega) hbytes)
      rw [hr'] at hr
      cases hr
      intro g' cap' hgc
      rw [hle] at hgc
      cases hgc
      show _ = some _
      rw [zeroCells_zI, hfl, hle]
      have := heap_alloc_new w.drew (.cells (els.flatten.toArray ++ new.toArray ++ (zI (grownCap w (els.length + 1) cap e - (els.length + 1))).toArray) e)
      simpa using this
/-- append of one number, told of its spare capacity, too. -/
theorem wpList_append_elsZ {ops : Array Oper} {rest : List Oper} {o : Oper} {a : Act} {Q : Exit → Act → World → Prop} (hgd : o.guard = none) (s x : Operand) (t : TypeId)
    (ho : o.op = .call { callee := .builtin .append, args := #[s, x], argTypes := #[t, t] })
    (base : Nat) (e : TypeId) (i : TypeInfo) (bytes : Nat) (ht : P.underlying t = some (.slice e)) (hi : P.info? e = some i) (hz : i.zero = some zInt)
    (hsize : i.size = 2) (hby : i.bytes = bytes)
    (v : Value) (els : List (List Value)) (hs : a.eval s = v) (hown : OwnEls w base e 2 v els) (hsp : SpareZ w e v els)
    (ad : Addr) (c : Nat) (new : List Value) (hx : a.eval x = .slice (some ad) 1 c) (hl : new.length = 2) (hnews : ∀ j u, new[j]? = some u → w.cell? (ad.add j) = some u) (h1 : ∀ u ∈ new, u.oneCell' = true)
    (h63 : els.length + 1 ≤ 9223372036854775807) (hbytes : (els.length + 1) * bytes ≤ 140737488355328) (hbase : base ≤ w.heap.size)
    (h : ∀ v' w', OwnEls w' base e 2 v' (els ++ [new]) → Keeps (Own v) w w' → Fresh w v v' → SpareZ w' e v' (els ++ [new]) → wpList P ops Q rest (a.put o.dst v') w') : wpList P ops Q (o :: rest) a w := by
  subst hby
  refine wpList_plain hgd fun K hK => ?_
  have hnl : ([new].flatten).length = 1 * i.size := by simp [hl, hsize]
  have hnews' : ∀ j u, ([new].flatten)[j]? = some u → w.cell? (ad.add j) = some u := by simpa using hnews
  have h1' : ∀ u ∈ [new].flatten, u.oneCell' = true := by simpa using h1
  have hown' : w.ownsRow base e i.size v els.length els.flatten := by rw [hsize]; exact hown.row
  obtain ⟨v', w', hr, h2, h3, h4⟩ := run_append_own (P := P) w base t o.type e i zInt _ _ ht hi hz rfl rfl (by rw [hsize]; rfl) (by omega) v els.length els.flatten hown' ad 1 c [new].flatten hnl hnews' h1' (by unfold maxLen; omega) hbytes hbase
  have hf := append_fresh w base t o.type e i zInt ht hi hz v els.length els.flatten hown' ad 1 c [new].flatten hnl hnews' h1' (by unfold maxLen; omega) hbytes hr
  have hsz := append_spare w base t o.type e i ht hi hz hsize v els hown hsp ad c new hl hnews h1 (by unfold maxLen; omega) hbytes hr
  unfold Oper.wp execOp
  simp only [ho, resolve, invoke, builtin, Sem.run_bind, Sem.run_pure, Result.andThen_ok, List.map_toArray, List.map_cons, List.map_nil, hs, hx, hr]
  refine hK _ _ (h v' w' ⟨by rw [hsize] at h2; simpa using h2, fun c hc => ?_⟩ ⟨h3.os, h3.tape, h3.output, h3.size, fun k hk hn => h3.block k hk fun e => hn e.symm⟩ hf hsz)
  rcases List.mem_append.1 hc with hc | hc
  · exact hown.sz c hc
  · rw [List.mem_singleton.1 hc]; exact hl
end
end Go.Rid

namespace Go.Proofs.YtfkclbhddiidbaaGreat
open Go.RowKit Go.Rid
set_option maxHeartbeats 2000000 in
theorem cutsZ_any {M M' : Nat → Prop} {p : Nat} {S : PSet} {w : World} (hM : MB M w) (hs : SetAt M' w p S) (hf : Fine S) :
    Calls Tryz.prog 18 #[.pointer (some ⟨p, 0, none⟩)] w fun e w' => ∃ a c els, e = .returned (.slice a els.length c) ∧ Grown RZ 0 38 2 M w' w.heap.size (.slice a els.length c) els S.cuts ∧ SpareZ w' 38 (.slice a els.length c) els ∧ Keeps Nil w w' := by
  obtain ⟨ac, nc, cc, ar, nr, cr, q1, _, q3, _⟩ := hs
  obtain ⟨i1, hi1⟩ := info_parts info_Int
  have HI := Lib.hid hi1
  have hnc : nc = S.cuts.length := q3.len.symm
  obtain ⟨d0, d1, d2⟩ := q1.three
  have hfew := hf.few
  have hcap := q3.cap
  have hle := q3.le
  have HM := Lib.hid hM
  have HF := Lib.hid hf
  have HS := Lib.hid q3
  have HN := Lib.hid hnc
  have hn1 : nc ≤ 1000 := by omega
  clear hM hf q3 hfew q1 hnc hi1
  go_enter Tryz.func18, Tryz.ntmps18
  go_wp2_with fail
  go_loopw [3, 13] (fun v i wr => ∃ (k : Nat) (els : List (List Value)), k ≤ nc ∧ i = .int .i64 k ∧ els.length = k ∧ Keeps Nil w wr ∧ Grown RZ 0 38 2 M wr w.heap.size v els (S.cuts.take k) ∧ SpareZ wr 38 v els) (fun _ i _ => nc - (intOf i).toNat)
  case atStart => exact ⟨0, [], Nat.zero_le _, rfl, rfl, Keeps.refl _ _, Grown.nil, SpareZ.nil _ _⟩
  case round =>
    obtain ⟨k, els, hk, rfl, hel, hkk, hg, hsp⟩ := hrel
    have HSP := Lib.hid hsp
    clear hsp
    have HKK := Lib.hid hkk
    have HG := Lib.hid hg
    have HEL := Lib.hid hel
    clear hg hel
    by_cases hlt : k < nc
    · obtain ⟨b, off, g', a', n', c', hae, hb, _, e0, e1, hz⟩ := (HS.out.keepNil hkk).at hlt
      subst hae
      have lb := Live.of hb
      have hzfit := HF.out.fit4 (zth S.cuts k) (by rw [zth_lt (by have := HN.out; omega)]; exact List.getElem_mem _)
      have HZ := Lib.hid (hz.toNil.zat hzfit)
      have HMV := Lib.hid (MB.and (HM.out.keep hkk) HG.out.own (Nat.le_refl _))
      clear hz hkk hzfit
      go_wp2_with (first | (go_at_call 59; refine (norm_any (M := And' M u3) (HMV.out.keep (M' := Nil) (by repeat (first | exact Keeps.refl _ _ | refine Keeps.drew ?_ | refine Keeps.drewN ?_ _ | refine Keeps.alloc ?_ _))) (HZ.out.keepNil (by repeat (first | exact Keeps.refl _ _ | refine Keeps.drew ?_ | refine Keeps.drewN ?_ _ | refine Keeps.alloc ?_ _)))).mono ?_; rintro e w1 ⟨g1, a1, n1, m1, rfl, h1, hk1⟩; have HK1 := Lib.hid (show Keeps Nil wr w1 from (by repeat (first | exact Keeps.refl _ _ | assumption | refine Keeps.drew ?_ | refine Keeps.drewN ?_ _ | refine Keeps.alloc ?_ _ | exact Keeps.of_nil (by assumption) | refine Keeps.trans ?_ (Keeps.of_nil (by assumption)) | refine Keeps.setCell ?_ (.inr (by first | exact Nat.le_refl _ | (dsimp only; omega))) _ | refine Keeps.setCell ?_ (.inl (by first | (unfold Old; dsimp only; omega) | (unfold Old; simp; omega) | (unfold Old; simp))) _))); have H1 := Lib.hid h1; clear h1 hk1) | (at_builtin; refine wpList_append_elsZ _ rfl (.tmp 17) (.tmp 20) 23 rfl w.heap.size 38 i1 32 Tryz.underlying23 HI.out.1 HI.out.2.1 HI.out.2.2.1 HI.out.2.2.2 u3 els rfl ((HG.out.own.keepNil HK1.out).keepNil (by repeat (first | exact Keeps.refl _ _ | refine Keeps.drew ?_ | refine Keeps.drewN ?_ _ | refine Keeps.alloc ?_ _))) ((HSP.out.keep HK1.out (fun _ _ h => h.elim)).keep (M := Nil) (by repeat (first | exact Keeps.refl _ _ | refine Keeps.drew ?_ | refine Keeps.drewN ?_ _ | refine Keeps.alloc ?_ _)) (fun _ _ h => h.elim)) ⟨w1.heap.size, 0, none⟩ 1 [.bool g1, .slice a1 n1 m1] rfl rfl (by simpa using alloc_news w1 [.bool g1, .slice a1 n1 m1] 38) (by simp [Value.oneCell']) (by rw [HEL.out]; omega) (by rw [HEL.out]; omega) (by have := HKK.out.size; have := HK1.out.size; simp; omega) ?_; intro v' w2 ho hk2 hf2 hsz2; have HO := Lib.hid (And.intro ho (And.intro hk2 (And.intro hf2 hsz2))); clear ho hk2 hf2 hsz2))
      go_roundw
      case rel => exact ⟨k + 1, els ++ [[.bool g1, .slice a1 n1 m1]], by omega, by go_num, by rw [List.length_append, HEL.out]; rfl, (((HKK.out.trans HK1.out).trans (by repeat (first | exact Keeps.refl _ _ | refine Keeps.drew ?_ | refine Keeps.drewN ?_ _ | refine Keeps.alloc ?_ _))).trans' HO.out.2.1 (fun b hb => .inr (HG.out.own.lt b hb).1)), by rw [take_zth (by have := HN.out; omega)]; exact Grown.snoc RZ.moves ((HG.out.keepNil RZ.moves HK1.out).keepNil RZ.moves (by repeat (first | exact Keeps.refl _ _ | refine Keeps.drew ?_ | refine Keeps.drewN ?_ _ | refine Keeps.alloc ?_ _))) ⟨g1, a1, n1, m1, rfl, H1.out.keepNil (by repeat (first | exact Keeps.refl _ _ | refine Keeps.drew ?_ | refine Keeps.drewN ?_ _ | refine Keeps.alloc ?_ _))⟩ HO.out.1 HO.out.2.1 HO.out.2.2.1, HO.out.2.2.2⟩
      case measure => simp [intOf]; omega
    · obtain rfl : k = nc := by omega
      have hg := HG.out
      rw [List.take_of_length_le (by have := HN.out; omega)] at hg
      obtain ⟨a', c', hv⟩ := hg.own.isSlice
      subst hv
      have HL := Lib.hid (And.intro hg HSP.out)
      clear hg hkk
      go_wp2_with fail
      go_ret
      exact ⟨_, _, els, rfl, HL.out.1, HL.out.2, HKK.out⟩
end Go.Proofs.YtfkclbhddiidbaaGreat

namespace Go.Rid
open Go.RowKit
/-- These limbs can be written. -/
def Thaw (w : World) (a : Option Addr) (n : Nat) : Prop := ∀ b off, a = some ⟨b, off, none⟩ → ∀ k, k < n → w.frozen? ⟨b, off + k, none⟩ = false
theorem Thaw.none {w : World} {n : Nat} : Thaw w none n := fun _ _ h => by cases h
theorem Thaw.zero {w : World} {a : Option Addr} : Thaw w a 0 := fun _ _ _ k hk => absurd hk (by omega)
theorem Thaw.owned {w : World} {base : Nat} {E : TypeId} {a : Option Addr} {n c : Nat} {xs : List Value} (h : w.ownsRow base E 1 (.slice a n c) n xs) : Thaw w a n := by
  intro b off e k hk
  subst e
  rcases h.2 with ⟨h0, _⟩ | ⟨g, cap, cur, hv, _, hg, _⟩
  · cases h0
  · cases hv
    exact RowIs.frozen (xs := cur.toList) (by show _ = _; simpa using hg) _
theorem Thaw.keepNil {M : Nat → Prop} {w w' : World} {a : Option Addr} {n c : Nat} {l : List Nat} (h : Thaw w a n) (hl : Limbs M w a n c l) (k : Keeps Nil w w') : Thaw w' a n := fun b off e j hj => by
  obtain ⟨b', off', e', hb, _⟩ := hl.sl.at (by omega)
  rw [e] at e'
  cases e'
  exact (k.frozen (p := ⟨b, off + j, .none⟩) hb id).trans (h b off e j hj)
theorem Thaw.pair {w : World} {a : Option Addr} {n g : Nat} {u v : Value} (h : Thaw w a n) : Thaw ((w.setCell ⟨g, 0, .none⟩ u).setCell ⟨g, 1, .none⟩ v) a n := fun b off e j hj => by
  rw [World.frozen?_setCell, World.frozen?_setCell]; exact h b off e j hj
end Go.Rid
namespace Go.Proofs.YtfkclbhddiidbaaGreat
open Go.RowKit Go.Rid
set_option maxHeartbeats 400000 in
theorem clone_u32T {M M' : Nat → Prop} {a : Option Addr} {n c : Nat} {l : List Nat} {w : World} (hM : MB M w) (h : Limbs M' w a n c l) (hr : n * 4 ≤ 140737488355328) :
    Calls Tryz.prog 110 #[.slice a n c] w fun e w' => ∃ a' c', e = .returned (.slice a' n c') ∧ Limbs M w' a' n c' l ∧ Thaw w' a' n ∧ Keeps Nil w w' := by
  cases a with
  | none =>
    obtain ⟨rfl, rfl⟩ := h.sl.none rfl
    exact (clone_u32_nil w).mono fun e w' ⟨he, hw⟩ => by subst hw; exact ⟨_, _, he, h.ofNone, Thaw.none, Keeps.refl _ _⟩
  | some p =>
    have q : ∀ (w : World) (a : Option Addr) (n c n' c' : Nat), (binOp .eql 36 (.slice a n c) (.slice none n' c')).run Tryz.prog w = .ok (.bool a.isNone) w := fun w a n c n' c' => Lib.run_eql_slice_nil w _ _ a n c n' c' Tryz.underlying36
    obtain ⟨i0, hi, hz0, hz1, hz2⟩ := info_parts info_u32
    have HH := Lib.hid h
    have HM := Lib.hid hM
    clear h hM
    go_enter Tryz.func110, Tryz.ntmps110
    go_wp2_with (at_builtin; refine wpList_append_own _ rfl _ _ 36 rfl w.heap.size 66 i0 (.int .u32 0) 1 4 Tryz.underlying36 hi hz0 hz1 hz2 rfl (by decide) _ _ _ rfl (World.ownsRow_made w #[] 0 (Nat.le_refl _) (Nat.zero_le _) rfl) p n c (l.map u32) rfl ?qc1 ?qc2 ?qc3 ?qc4 ?qc5 ?qc6 ?_)
    case qc1 => simp [HH.out.len]
    case qc2 =>
      intro j u hj
      have hx := HH.out.src (k := n) (Nat.le_refl _)
      rw [List.take_of_length_le (by have := HH.out.len; omega)] at hx
      have hjl : j < (u32s l).length := (List.getElem?_eq_some_iff.1 hj).1
      obtain ⟨b, off, e, hb, _, hc⟩ := hx (by omega)
      cases e
      rw [← hc j u hj, Addr.add_lit]
      exact World.cell?_alloc_lt _ _ (a := ⟨b, off + j, none⟩) hb
    case qc3 => exact u32_one l
    case qc4 => unfold maxLen; omega
    case qc5 => omega
    case qc6 => simp
    intro v' w1 hown hgrow hnil
    go_wp2
    go_ret
    have h := HH.out
    obtain ⟨a', c', rfl, hL⟩ := Limbs.owned (M := M) (l := l) (by simpa using hown) h.lt HM.out
    exact ⟨_, _, rfl, hL, Thaw.owned hown, ((Keeps.refl _ w).alloc _).grow hgrow (by intro k hk; simp [Value.ownBlock] at hk; omega)⟩

set_option maxHeartbeats 400000 in
theorem trim_zeroT {M M' : Nat → Prop} {p : Addr} {c : Nat} {w : World} (hM : MB M w) (h : Limbs M' w (some p) 0 c []) :
    Calls Tryz.prog 104 #[.slice (some p) 0 c] w fun e w' => ∃ a' c', e = .returned (.slice a' 0 c') ∧ Limbs M w' a' 0 c' [] ∧ Thaw w' a' 0 ∧ Keeps Nil w w' := by
  have hcap := h.sl.cap
  have HH := Lib.hid h
  clear h
  go_enter Tryz.func104, Tryz.ntmps104
  go_wp2
  go_loop [0] (fun s => s = .slice (some p) 0 c) (fun _ => 0)
  case atStart => rfl
  case round =>
    subst hrel
    go_wp2_with (go_at_call 110; refine (clone_u32 hM HH.out (by omega)).mono ?_; rintro e w' ⟨a', c', rfl, h', hk'⟩)
    go_ret
    exact ⟨_, _, rfl, h', Thaw.zero, hk'⟩

set_option maxHeartbeats 400000 in
theorem trim_someT {M M' : Nat → Prop} {b off n c : Nat} {l : List Nat} {w : World} (hM : MB M w) (h : Limbs M' w (some ⟨b, off, none⟩) n c l) (hr : n * 4 ≤ 140737488355328) :
    Calls Tryz.prog 104 #[.slice (some ⟨b, off, none⟩) n c] w fun e w' => ∃ a' c', e = .returned (.slice a' (top l) c') ∧ Limbs M w' a' (top l) c' (trim l) ∧ Thaw w' a' (top l) ∧ Keeps Nil w w' := by
  have hle := h.sl.le
  have hcap := h.sl.cap
  have HH := Lib.hid h
  clear h
  go_enter Tryz.func104, Tryz.ntmps104
  go_wp2
  go_loop [0] (fun s => ∃ k : Nat, k ≤ n ∧ topK l n = topK l k ∧ s = .slice (some ⟨b, off, none⟩) k c) (fun s => match s with | .slice _ k _ => k | _ => 0)
  case atStart => exact ⟨n, Nat.le_refl _, rfl, rfl⟩
  case round =>
    obtain ⟨k, hk, ht, rfl⟩ := hrel
    have HT := Lib.hid ht
    clear ht
    cases k with
    | zero =>
      have hL : Limbs M' w (some ⟨b, off, none⟩) 0 c (trim l) := by
        have e : top l = 0 := by unfold top; rw [HH.out.len]; exact HT.out
        have hx := HH.out.take (k := 0) (by omega)
        rw [← e] at hx ⊢
        exact hx
      have HL := Lib.hid hL
      clear hL
      go_wp2_with (go_at_call 110; refine (clone_u32T hM HL.out (by omega)).mono ?_; rintro e w' ⟨a', c', rfl, h', ht', hk'⟩)
      go_ret
      have e : top l = 0 := by unfold top; rw [HH.out.len]; exact HT.out
      rw [e]
      exact ⟨_, _, rfl, h', ht', hk'⟩
    | succ k =>
      have hcell : w.cell? ⟨b, off + k, none⟩ = some (.int .u32 (lim l k : Int)) := by simpa using (HH.out.sl.some _ rfl (by omega)).2.2.2 k 0 (by omega) (by omega)
      by_cases h1 : ((lim l k : Int) == 0) = true
      · go_wp2
        go_round
        case rel => exact ⟨k, by omega, by rw [HT.out, topK_zero (by simpa using h1)], rfl⟩
        case measure => simp
      · have h1' : ((lim l k : Int) == 0) = false := by simpa using h1
        have e : top l = k + 1 := by unfold top; rw [HH.out.len, HT.out, topK_pos (by simpa using h1')]
        have hL : Limbs M' w (some ⟨b, off, none⟩) (k + 1) c (trim l) :=
          by have hx := HH.out.take (k := k + 1) (by omega); rw [← e] at hx ⊢; exact hx
        have HL := Lib.hid hL
        have HE := Lib.hid e
        clear hL e
        go_wp2_with (go_at_call 110; refine (clone_u32T hM HL.out (by omega)).mono ?_; rintro e w' ⟨a', c', rfl, h', ht', hk'⟩)
        go_ret
        rw [HE.out]
        exact ⟨_, _, rfl, h', ht', hk'⟩

theorem trim_anyT {M M' : Nat → Prop} {a : Option Addr} {n c : Nat} {l : List Nat} {w : World} (hM : MB M w) (h : Limbs M' w a n c l) (hr : n * 4 ≤ 140737488355328) :
    Calls Tryz.prog 104 #[.slice a n c] w fun e w' => ∃ a' c', e = .returned (.slice a' (top l) c') ∧ Limbs M w' a' (top l) c' (trim l) ∧ Thaw w' a' (top l) ∧ Keeps Nil w w' := by
  rcases Nat.eq_zero_or_pos n with rfl | hn
  · have e : l = [] := List.eq_nil_of_length_eq_zero h.len
    subst e
    cases a with
    | none =>
      obtain ⟨_, rfl⟩ := h.sl.none rfl
      exact (trim_nil w).mono fun e w' ⟨he, hw⟩ => by subst hw; exact ⟨_, _, he, h.ofNone, Thaw.none, Keeps.refl _ _⟩
    | some p => exact trim_zeroT hM h
  · obtain ⟨b, off, rfl, _⟩ := h.sl.at hn
    exact trim_someT hM h hr

def ZRetT (M : Nat → Prop) (w : World) (z : Int) (e : Ending) (w' : World) : Prop := ∃ g a n c, e = .returned (.agg #[.bool g, .slice a n c]) ∧ ZN M w' g a n c z ∧ Thaw w' a n ∧ Keeps Nil w w'
set_option maxHeartbeats 1000000 in
theorem made_anyT {M : Nat → Prop} {g : Bool} {a : Option Addr} {n c : Nat} {z : Int} {w : World} (hM : MB M w) (h : ZAt Nil w g a n c z) :
    Calls Tryz.prog 74 #[.bool g, .slice a n c] w fun e w' => ZRetT M w z e w' := by
  obtain ⟨l, h, hr, rfl⟩ := h
  have HH := Lib.hid h
  have HM := Lib.hid hM
  clear h hM
  rcases Nat.eq_zero_or_pos (top l) with h0 | h0
  · go_enter Tryz.func74, Tryz.ntmps74
    cases g
    · go_wp2_with (go_at_call 104; refine (trim_anyT (M := With M w.heap.size) (HM.out.withNew _) (HH.out.keepNil (by repeat (first | exact Keeps.refl _ _ | refine Keeps.drew ?_ | refine Keeps.drewN ?_ _ | refine Keeps.alloc ?_ _))) hr).mono ?_; rintro e w' ⟨a', c', rfl, h', ht', hk'⟩; have r := (RowIs.alloc (w := w) (E := 38) (xs := [.bool false, .slice none 0 0])).keep hk' id; obtain ⟨c0, c1, f0, f1⟩ := r.two; have HT := Lib.hid (And.intro h' hk'); have HTW := Lib.hid ht'; clear h' hk' ht' r)
      have hz := made_zn (g := false) HT.out.1 HH.out.lt
      rw [show (false && decide (0 < top l)) = false by simp] at hz
      rw [h0] at hz HTW
      exact bodyPost_ret (v := .agg #[.bool false, .slice a' 0 c']) (by simp [results, Tryz.results74, go_sem, c0, c1]) rfl ⟨_, _, _, _, rfl, hz.less (Keeps.pair _ _), HTW.out.pair, (((Keeps.refl Nil w).alloc _).trans HT.out.2).own (Nat.le_refl _) (Keeps.pair _ _)⟩
    · go_wp2_with (go_at_call 104; refine (trim_anyT (M := With M w.heap.size) (HM.out.withNew _) (HH.out.keepNil (by repeat (first | exact Keeps.refl _ _ | refine Keeps.drew ?_ | refine Keeps.drewN ?_ _ | refine Keeps.alloc ?_ _))) hr).mono ?_; rintro e w' ⟨a', c', rfl, h', ht', hk'⟩; have r := (RowIs.alloc (w := w) (E := 38) (xs := [.bool false, .slice none 0 0])).keep hk' id; obtain ⟨c0, c1, f0, f1⟩ := r.two; have HT := Lib.hid (And.intro h' hk'); have HTW := Lib.hid ht'; clear h' hk' ht' r)
      have hz := made_zn (g := true) HT.out.1 HH.out.lt
      rw [show (true && decide (0 < top l)) = false by simp; omega] at hz
      rw [h0] at hz HTW
      exact bodyPost_ret (v := .agg #[.bool false, .slice a' 0 c']) (by simp [results, Tryz.results74, go_sem, c0, c1]) rfl ⟨_, _, _, _, rfl, hz.less (Keeps.pair _ _), HTW.out.pair, (((Keeps.refl Nil w).alloc _).trans HT.out.2).own (Nat.le_refl _) (Keeps.pair _ _)⟩
  · go_enter Tryz.func74, Tryz.ntmps74
    cases g
    · go_wp2_with (go_at_call 104; refine (trim_anyT (M := With M w.heap.size) (HM.out.withNew _) (HH.out.keepNil (by repeat (first | exact Keeps.refl _ _ | refine Keeps.drew ?_ | refine Keeps.drewN ?_ _ | refine Keeps.alloc ?_ _))) hr).mono ?_; rintro e w' ⟨a', c', rfl, h', ht', hk'⟩; have r := (RowIs.alloc (w := w) (E := 38) (xs := [.bool false, .slice none 0 0])).keep hk' id; obtain ⟨c0, c1, f0, f1⟩ := r.two; have HT := Lib.hid (And.intro h' hk'); have HTW := Lib.hid ht'; clear h' hk' ht' r)
      have hz := made_zn (g := false) HT.out.1 HH.out.lt
      rw [show (false && decide (0 < top l)) = false by simp] at hz
      exact bodyPost_ret (v := .agg #[.bool false, .slice a' (top l) c']) (by simp [results, Tryz.results74, go_sem, c0, c1]) rfl ⟨_, _, _, _, rfl, hz.less (Keeps.pair _ _), HTW.out.pair, (((Keeps.refl Nil w).alloc _).trans HT.out.2).own (Nat.le_refl _) (Keeps.pair _ _)⟩
    · go_wp2_with (go_at_call 104; refine (trim_anyT (M := With M w.heap.size) (HM.out.withNew _) (HH.out.keepNil (by repeat (first | exact Keeps.refl _ _ | refine Keeps.drew ?_ | refine Keeps.drewN ?_ _ | refine Keeps.alloc ?_ _))) hr).mono ?_; rintro e w' ⟨a', c', rfl, h', ht', hk'⟩; have r := (RowIs.alloc (w := w) (E := 38) (xs := [.bool false, .slice none 0 0])).keep hk' id; obtain ⟨c0, c1, f0, f1⟩ := r.two; have HT := Lib.hid (And.intro h' hk'); have HTW := Lib.hid ht'; clear h' hk' ht' r)
      have hz := made_zn (g := true) HT.out.1 HH.out.lt
      rw [show (true && decide (0 < top l)) = true by simp; omega] at hz
      exact bodyPost_ret (v := .agg #[.bool true, .slice a' (top l) c']) (by simp [results, Tryz.results74, go_sem, c0, c1]) rfl ⟨_, _, _, _, rfl, hz.less (Keeps.pair _ _), HTW.out.pair, (((Keeps.refl Nil w).alloc _).trans HT.out.2).own (Nat.le_refl _) (Keeps.pair _ _)⟩
set_option maxHeartbeats 1000000 in
theorem norm_anyT {M : Nat → Prop} {g : Bool} {a : Option Addr} {n c : Nat} {z : Int} {w : World} (hM : MB M w) (h : ZAt Nil w g a n c z) :
    Calls Tryz.prog 59 #[.agg #[.bool g, .slice a n c]] w fun e w' => ZRetT M w z e w' := by
  have HH := Lib.hid h
  have HM := Lib.hid hM
  clear h hM
  go_enter Tryz.func59, Tryz.ntmps59
  go_wp2_with (go_at_call 74; refine (made_anyT (M := With M (w.heap.size + 1)) (HM.out.withNew2 _ _) (HH.out.keepNil (by repeat (first | exact Keeps.refl _ _ | refine Keeps.drew ?_ | refine Keeps.drewN ?_ _ | refine Keeps.alloc ?_ _)))).mono ?_; rintro e w' ⟨g', a', n', c', rfl, h', ht', hk'⟩; have r := (RowIs.alloc (w := w.alloc (.cells #[.bool g, .slice a n c] 38)) (E := 38) (xs := [.bool false, .slice none 0 0])).keep hk' id; rw [show (w.alloc (.cells #[.bool g, .slice a n c] 38)).heap.size = w.heap.size + 1 by simp] at r; obtain ⟨c0, c1, f0, f1⟩ := r.two; have HT := Lib.hid (And.intro h' hk'); have HTW := Lib.hid ht'; clear h' hk' ht' r)
  exact bodyPost_ret (v := .agg #[.bool g', .slice a' n' c']) (by simp [results, Tryz.results59, go_sem, c0, c1]) rfl ⟨_, _, _, _, rfl, HT.out.1.less (Keeps.pair _ _), HTW.out.pair, ((((Keeps.refl Nil w).alloc _).alloc _).trans HT.out.2).own (by omega) (Keeps.pair _ _)⟩
end Go.Proofs.YtfkclbhddiidbaaGreat

namespace Go.Proofs.YtfkclbhddiidbaaGreat
open Go.RowKit Go.Rid
def RZT (M : Nat → Prop) (w : World) (cs : List Value) (z : Int) : Prop := ∃ g a n c, cs = [.bool g, .slice a n c] ∧ ZN M w g a n c z ∧ Thaw w a n
theorem RZT.moves : Moves RZT := by
  intro M M' M2 w w' cs z h k h1 h2
  obtain ⟨g, a, n, c, e, hz, ht⟩ := h
  refine ⟨g, a, n, c, e, hz.move k h1 h2, fun b off e2 j hj => ?_⟩
  obtain ⟨b', off', e', hb, hn, _⟩ := hz.2.sl.at (by omega)
  rw [e2] at e'
  cases e'
  exact (k.frozen (p := ⟨b, off + j, .none⟩) hb fun hm => hn (h1 _ hb hm)).trans (ht b off e2 j hj)
theorem RZT.rz {M : Nat → Prop} {w : World} {cs : List Value} {z : Int} (h : RZT M w cs z) : RZ M w cs z := by
  obtain ⟨g, a, n, c, e, hz, _⟩ := h; exact ⟨g, a, n, c, e, hz⟩
set_option maxHeartbeats 2000000 in
theorem cutsT_any {M M' : Nat → Prop} {p : Nat} {S : PSet} {w : World} (hM : MB M w) (hs : SetAt M' w p S) (hf : Fine S) :
    Calls Tryz.prog 18 #[.pointer (some ⟨p, 0, none⟩)] w fun e w' => ∃ a c els, e = .returned (.slice a els.length c) ∧ Grown RZT 0 38 2 M w' w.heap.size (.slice a els.length c) els S.cuts ∧ SpareZ w' 38 (.slice a els.length c) els ∧ Keeps Nil w w' := by
  obtain ⟨ac, nc, cc, ar, nr, cr, q1, _, q3, _⟩ := hs
  obtain ⟨i1, hi1⟩ := info_parts info_Int
  have HI := Lib.hid hi1
  have hnc : nc = S.cuts.length := q3.len.symm
  obtain ⟨d0, d1, d2⟩ := q1.three
  have hfew := hf.few
  have hcap := q3.cap
  have hle := q3.le
  have HM := Lib.hid hM
  have HF := Lib.hid hf
  have HS := Lib.hid q3
  have HN := Lib.hid hnc
  have hn1 : nc ≤ 1000 := by omega
  clear hM hf q3 hfew q1 hnc hi1
  go_enter Tryz.func18, Tryz.ntmps18
  go_wp2_with fail
  go_loopw [3, 13] (fun v i wr => ∃ (k : Nat) (els : List (List Value)), k ≤ nc ∧ i = .int .i64 k ∧ els.length = k ∧ Keeps Nil w wr ∧ Grown RZT 0 38 2 M wr w.heap.size v els (S.cuts.take k) ∧ SpareZ wr 38 v els) (fun _ i _ => nc - (intOf i).toNat)
  case atStart => exact ⟨0, [], Nat.zero_le _, rfl, rfl, Keeps.refl _ _, Grown.nil, SpareZ.nil _ _⟩
  case round =>
    obtain ⟨k, els, hk, rfl, hel, hkk, hg, hsp⟩ := hrel
    have HSP := Lib.hid hsp
    clear hsp
    have HKK := Lib.hid hkk
    have HG := Lib.hid hg
    have HEL := Lib.hid hel
    clear hg hel
    by_cases hlt : k < nc
    · obtain ⟨b, off, g', a', n', c', hae, hb, _, e0, e1, hz⟩ := (HS.out.keepNil hkk).at hlt
      subst hae
      have lb := Live.of hb
      have hzfit := HF.out.fit4 (zth S.cuts k) (by rw [zth_lt (by have := HN.out; omega)]; exact List.getElem_mem _)
      have HZ := Lib.hid (hz.toNil.zat hzfit)
      have HMV := Lib.hid (MB.and (HM.out.keep hkk) HG.out.own (Nat.le_refl _))
      clear hz hkk hzfit
      go_wp2_with (first | (go_at_call 59; refine (norm_anyT (M := And' M u3) (HMV.out.keep (M' := Nil) (by repeat (first | exact Keeps.refl _ _ | refine Keeps.drew ?_ | refine Keeps.drewN ?_ _ | refine Keeps.alloc ?_ _))) (HZ.out.keepNil (by repeat (first | exact Keeps.refl _ _ | refine Keeps.drew ?_ | refine Keeps.drewN ?_ _ | refine Keeps.alloc ?_ _)))).mono ?_; rintro e w1 ⟨g1, a1, n1, m1, rfl, h1, ht1, hk1⟩; have HK1 := Lib.hid (show Keeps Nil wr w1 from (by repeat (first | exact Keeps.refl _ _ | assumption | refine Keeps.drew ?_ | refine Keeps.drewN ?_ _ | refine Keeps.alloc ?_ _ | exact Keeps.of_nil (by assumption) | refine Keeps.trans ?_ (Keeps.of_nil (by assumption)) | refine Keeps.setCell ?_ (.inr (by first | exact Nat.le_refl _ | (dsimp only; omega))) _ | refine Keeps.setCell ?_ (.inl (by first | (unfold Old; dsimp only; omega) | (unfold Old; simp; omega) | (unfold Old; simp))) _))); have H1 := Lib.hid (And.intro h1 ht1); clear h1 ht1 hk1) | (at_builtin; refine wpList_append_elsZ _ rfl (.tmp 17) (.tmp 20) 23 rfl w.heap.size 38 i1 32 Tryz.underlying23 HI.out.1 HI.out.2.1 HI.out.2.2.1 HI.out.2.2.2 u3 els rfl ((HG.out.own.keepNil HK1.out).keepNil (by repeat (first | exact Keeps.refl _ _ | refine Keeps.drew ?_ | refine Keeps.drewN ?_ _ | refine Keeps.alloc ?_ _))) ((HSP.out.keep HK1.out (fun _ _ h => h.elim)).keep (M := Nil) (by repeat (first | exact Keeps.refl _ _ | refine Keeps.drew ?_ | refine Keeps.drewN ?_ _ | refine Keeps.alloc ?_ _)) (fun _ _ h => h.elim)) ⟨w1.heap.size, 0, none⟩ 1 [.bool g1, .slice a1 n1 m1] rfl rfl (by simpa using alloc_news w1 [.bool g1, .slice a1 n1 m1] 38) (by simp [Value.oneCell']) (by rw [HEL.out]; omega) (by rw [HEL.out]; omega) (by have := HKK.out.size; have := HK1.out.size; simp; omega) ?_; intro v' w2 ho hk2 hf2 hsz2; have HO := Lib.hid (And.intro ho (And.intro hk2 (And.intro hf2 hsz2))); clear ho hk2 hf2 hsz2))
      go_roundw
      case rel => exact ⟨k + 1, els ++ [[.bool g1, .slice a1 n1 m1]], by omega, by go_num, by rw [List.length_append, HEL.out]; rfl, (((HKK.out.trans HK1.out).trans (by repeat (first | exact Keeps.refl _ _ | refine Keeps.drew ?_ | refine Keeps.drewN ?_ _ | refine Keeps.alloc ?_ _))).trans' HO.out.2.1 (fun b hb => .inr (HG.out.own.lt b hb).1)), by rw [take_zth (by have := HN.out; omega)]; exact Grown.snoc RZT.moves ((HG.out.keepNil RZT.moves HK1.out).keepNil RZT.moves (by repeat (first | exact Keeps.refl _ _ | refine Keeps.drew ?_ | refine Keeps.drewN ?_ _ | refine Keeps.alloc ?_ _))) ⟨g1, a1, n1, m1, rfl, H1.out.1.keepNil (by repeat (first | exact Keeps.refl _ _ | refine Keeps.drew ?_ | refine Keeps.drewN ?_ _ | refine Keeps.alloc ?_ _)), H1.out.2.keepNil H1.out.1.2 (by repeat (first | exact Keeps.refl _ _ | refine Keeps.drew ?_ | refine Keeps.drewN ?_ _ | refine Keeps.alloc ?_ _))⟩ HO.out.1 HO.out.2.1 HO.out.2.2.1, HO.out.2.2.2⟩
      case measure => simp [intOf]; omega
    · obtain rfl : k = nc := by omega
      have hg := HG.out
      rw [List.take_of_length_le (by have := HN.out; omega)] at hg
      obtain ⟨a', c', hv⟩ := hg.own.isSlice
      subst hv
      have HL := Lib.hid (And.intro hg HSP.out)
      clear hg hkk
      go_wp2_with fail
      go_ret
      exact ⟨_, _, els, rfl, HL.out.1, HL.out.2, HKK.out⟩
end Go.Proofs.YtfkclbhddiidbaaGreat

namespace Go.Rid
open Go Go.RowKit
section
variable {P : Program} {ops : Array Oper} {Q : Exit → Act → World → Prop} {md : Region.Mode} {S : World → Prop} {T : List Nat}
/-- Take number i first; what comes up without it is written out. -/
theorem wpTill_takeN {i : Nat} {oi : Oper} {v : Value} {fuel : Nat} {listed : Array Bool} {a : Act} {w : World} (D : Array Bool) (hi : ops[i]? = some oi)
    (hs : (Region.noSelect ops && Region.free md ops listed i && (Region.ready md ops listed).contains i && tillOk md ops T D i && leOk listed D) = true)
    (hy : YieldsIf P ops S oi v a) (hS : S w)
    (h : wpTill P md ops (NoPanic Q) S T fuel (listed.setIfInBounds i true) (a.put oi.dst v) w) : wpTill P md ops (NoPanic Q) S T (fuel + 1) listed a w := by
  simp only [Bool.and_eq_true] at hs
  obtain ⟨⟨⟨⟨h1, h2⟩, h3⟩, h4⟩, h5⟩ := hs
  exact wpTill_first hi (Region.noSelect_spec h1) (fun c a w h => False.elim h) h4 fuel listed a w (fun j hj => leOk.spec h5 j hj) (Region.free_spec hi h2) (by simpa using h3) hy hS h
theorem wp_region_tillN {id : Nat} {a : Act} {w : World} (S : World → Prop) (T : List Nat) (hm : P.follows .mixedOrders = true)
    (h : wpTill P .any ops (NoPanic Q) S T ops.size (Array.replicate ops.size false) a w.drew) : (Code.region id ops true).wp P Q a w := wp_region_noPanic (wp_region_till S T hm h)
theorem wpTill_doneN {listed : Array Bool} {a : Act} {w : World} (hr : Region.ready md ops listed = []) (h : Q .normal a w) : ∀ fuel, wpTill P md ops (NoPanic Q) S T fuel listed a w := wpTill_done hr (NoPanic.normal h)
end
/-- A limb that can be overwritten. -/
def Soft1 (lo hi g : Nat) (w : World) (p : Addr) : Prop := lo ≤ p.block ∧ p.block < hi ∧ p.block ≠ g ∧ (∃ v : Int, w.cell? p = some (.int .u32 v)) ∧ w.frozen? p = false
theorem Soft1.set {lo hi g : Nat} {w : World} {p : Addr} (h : Soft1 lo hi g w p) (q : Addr) (x : Int) : Soft1 lo hi g (w.setCell q (.int .u32 x)) p := by
  obtain ⟨h1, h2, h3, ⟨v, h4⟩, h5⟩ := h
  refine ⟨h1, h2, h3, ?_, by rw [World.frozen?_setCell]; exact h5⟩
  by_cases e : q = p
  · subst e; exact ⟨x, World.cell?_setCell_same w _ _ h4⟩
  · exact ⟨v, (World.cell?_setCell_other w _ _ _ e).trans h4⟩
theorem Soft1.keep {M : Nat → Prop} {lo hi g : Nat} {w w' : World} {p : Addr} (h : Soft1 lo hi g w p) (k : Keeps M w w') (hM : ∀ b, M b → b = g) (hh : hi ≤ w.heap.size) : Soft1 lo hi g w' p := by
  obtain ⟨h1, h2, h3, ⟨v, h4⟩, h5⟩ := h
  have hn : ¬ M p.block := fun hm => h3 (hM _ hm)
  exact ⟨h1, h2, h3, ⟨v, (k.cell (by omega) hn).trans h4⟩, (k.frozen (by omega) hn).trans h5⟩
/-- All numbers of such a list, spare ones too. -/
def Softs (lo hi g : Nat) (w : World) (R : List Value) (m : Nat) : Prop := ∀ i, i < m → ∃ s a n c, R[i * 2]? = some (.bool s) ∧ R[i * 2 + 1]? = some (.slice a n c) ∧ n ≤ c ∧ c ≤ 9223372036854775807 ∧ ∀ k, k < n → ∃ b off, a = some ⟨b, off, none⟩ ∧ Soft1 lo hi g w ⟨b, off + k, none⟩
theorem Softs.set {lo hi g : Nat} {w : World} {R : List Value} {m : Nat} (h : Softs lo hi g w R m) (q : Addr) (x : Int) : Softs lo hi g (w.setCell q (.int .u32 x)) R m := fun i hi' => by
  obtain ⟨s, a, n, c, r0, r1, hl, hc, hk⟩ := h i hi'
  refine ⟨s, a, n, c, r0, r1, hl, hc, fun k hkn => ?_⟩
  obtain ⟨b, off, e, hs⟩ := hk k hkn
  exact ⟨b, off, e, hs.set q x⟩
theorem Softs.keep {M : Nat → Prop} {lo hi g : Nat} {w w' : World} {R : List Value} {m : Nat} (h : Softs lo hi g w R m) (k : Keeps M w w') (hM : ∀ b, M b → b = g) (hh : hi ≤ w.heap.size) : Softs lo hi g w' R m := fun i hi' => by
  obtain ⟨s, a, n, c, r0, r1, hl, hc, hk⟩ := h i hi'
  refine ⟨s, a, n, c, r0, r1, hl, hc, fun k' hkn => ?_⟩
  obtain ⟨b, off, e, hs⟩ := hk k' hkn
  exact ⟨b, off, e, hs.keep k hM hh⟩
/-- The list, its numbers from k on as they were. -/
def Scr (E : TypeId) (lo hi : Nat) (w : World) (a : Option Addr) (m k : Nat) (R : List Value) : Prop :=
  m = 0 ∨ ∃ g cs, a = some ⟨g, 0, none⟩ ∧ lo ≤ g ∧ g < hi ∧ RowIs w g E cs ∧ cs.length = m * 2 ∧ (∀ j, k * 2 ≤ j → cs[j]? = R[j]?) ∧ Softs lo hi g w R m
theorem Scr.keepNil {E : TypeId} {lo hi : Nat} {w w' : World} {a : Option Addr} {m k : Nat} {R : List Value} (h : Scr E lo hi w a m k R) (q : Keeps Nil w w') (hh : hi ≤ w.heap.size) : Scr E lo hi w' a m k R := by
  rcases h with h | ⟨g, cs, e, h1, h2, h3, h4, h5, h6⟩
  · exact .inl h
  · exact .inr ⟨g, cs, e, h1, h2, h3.keep q id, h4, h5, h6.keep q (fun _ h => h.elim) hh⟩
/-- One number overwritten. -/
theorem Scr.put {E : TypeId} {lo hi g : Nat} {w w' : World} {m k : Nat} {cs R : List Value} {u v : Value} (h1 : lo ≤ g) (h2 : g < hi) (h3 : RowIs w g E cs) (h4 : cs.length = m * 2) (h5 : ∀ j, k * 2 ≤ j → cs[j]? = R[j]?) (h6 : Softs lo hi g w R m) (hh : hi ≤ w.heap.size) (q : Keeps Nil w w') : Scr E lo hi ((w'.setCell ⟨g, k * 2, none⟩ u).setCell ⟨g, k * 2 + 1, none⟩ v) (some ⟨g, 0, none⟩) m (k + 1) R := by
  refine .inr ⟨g, (cs.set (k * 2) u).set (k * 2 + 1) v, rfl, h1, h2, ((h3.keep q id).set _ _).set _ _, by simp [h4], fun j hj => ?_, ?_⟩
  · rw [List.getElem?_set_ne (by omega), List.getElem?_set_ne (by omega)]
    exact h5 j (by omega)
  · have hq := Nat.le_trans hh q.size
    exact (h6.keep q (fun _ h => h.elim) hh).keep (((Keeps.refl (One g) w').set1 _ _).set1 _ _) (fun b hb => hb) hq
theorem Scr.put2 {E : TypeId} {lo hi g : Nat} {w : World} {m k : Nat} {cs R : List Value} {u v : Value} {o : Obj} (h1 : lo ≤ g) (h2 : g < hi) (h3 : RowIs w g E cs) (h4 : cs.length = m * 2) (h5 : ∀ j, k * 2 ≤ j → cs[j]? = R[j]?) (h6 : Softs lo hi g w R m) (hh : hi ≤ w.heap.size) : Scr E lo hi (((w.setCell ⟨g, k * 2, none⟩ u).setCell ⟨g, k * 2 + 1, none⟩ v).alloc o) (some ⟨g, 0, none⟩) m (k + 1) R :=
  (Scr.put h1 h2 h3 h4 h5 h6 hh (Keeps.refl Nil w)).keepNil (Keeps.alloc (Keeps.refl _ _) o) (Nat.le_trans hh (Keeps.size (((Keeps.refl (One g) w).set1 (k * 2) u).set1 (k * 2 + 1) v)))
end Go.Rid
namespace Go.Proofs.YtfkclbhddiidbaaGreat
open Go.RowKit Go.Rid
theorem grown_scr {E : TypeId} {w0 w w' : World} {a : Option Addr} {c : Nat} {els : List (List Value)} {zs : List Int} (h : Grown RZT 0 E 2 (Old w0) w w0.heap.size (.slice a els.length c) els zs) (hs : SpareZ w E (.slice a els.length c) els) (k : Keeps Nil w w') : Scr E w0.heap.size w.heap.size w' a c 0 (els.flatten ++ zI (c - els.length)) := by
  rcases h.own.row.2 with ⟨e, h0⟩ | ⟨g, cap, cur, e, hb, hg, hnc, hcm, hcs, htake⟩
  · simp only [Value.slice.injEq] at e; exact .inl e.2.2
  · simp only [Value.slice.injEq, true_and] at e
    obtain ⟨rfl, rfl⟩ := e
    have hr := hs g c rfl
    have hfl := length_flatten_sz els h.own.sz
    refine Scr.keepNil (.inr ⟨g, _, rfl, hb, hr.lt, hr, by rw [List.length_append, hfl, length_zI]; omega, fun _ _ => rfl, fun i hi => ?_⟩) k (Nat.le_refl _)
    rcases Nat.lt_or_ge i els.length with hi' | hi'
    · obtain ⟨s, a', n', c', e, hz, ht⟩ := h.el i hi'
      have f0 := flatten_get els h.own.sz i 0 hi' (by decide)
      have f1 := flatten_get els h.own.sz i 1 hi' (by decide)
      rw [e] at f0 f1
      refine ⟨s, a', n', c', ?_, ?_, hz.2.sl.le, hz.2.sl.cap, fun k hk => ?_⟩
      · rw [List.getElem?_append_left (by omega)]; exact f0
      · rw [List.getElem?_append_left (by omega)]; exact f1
      · obtain ⟨b, off, e2, hb2, hn, hc⟩ := hz.2.cell hk
        refine ⟨b, off, e2, ?_, hb2, ?_, ⟨_, hc⟩, ht b off e2 k hk⟩
        · exact Nat.le_of_not_lt fun hl => hn (.inl hl)
        · intro eg; exact hn (.inr (by rw [show b = g from eg]; rfl))
    · have hz := zI_get (c - els.length) (i - els.length) (by omega)
      refine ⟨false, none, 0, 0, ?_, ?_, Nat.le_refl _, by omega, fun k hk => absurd hk (by omega)⟩
      · rw [List.getElem?_append_right (by omega), hfl, show i * 2 - els.length * 2 = (i - els.length) * 2 by omega]; exact hz.1
      · rw [List.getElem?_append_right (by omega), hfl, show i * 2 + 1 - els.length * 2 = (i - els.length) * 2 + 1 by omega]; exact hz.2
end Go.Proofs.YtfkclbhddiidbaaGreat
