/- What slices.CompactFunc does at a row of rising numbers by their equality: each once. Conditions: the row's own reading; room. -/
import Derived.Test.YtfkclbhddiidbaaGreatKPSort
import Derived.Test.YtfkclbhddiidbaaGreatKPMake
import Derived.Lib.SliceRun
import Derived.IntWalk
namespace Go.Rid
open Go.RowKit
/-- Elements by cells and number. -/
abbrev Ps := List (List Value × Int)
def pg (ps : Ps) (k : Nat) : List Value × Int := ps.getD k ([], 0)
def pz (ps : Ps) (k : Nat) : Int := (pg ps k).2
theorem pg_lt {ps : Ps} {k : Nat} (h : k < ps.length) : pg ps k = ps[k] := by simp [pg, List.getD, List.getElem?_eq_getElem h]
/-- The first k, each number once. -/
def comp (ps : Ps) : Nat → Ps
  | 0 => []
  | k + 1 => if 0 < k ∧ pz ps k = pz ps (k - 1) then comp ps k else comp ps k ++ [pg ps k]
theorem comp_dup {ps : Ps} {k : Nat} (h0 : 0 < k) (h : pz ps k = pz ps (k - 1)) : comp ps (k + 1) = comp ps k := if_pos ⟨h0, h⟩
theorem comp_new {ps : Ps} {k : Nat} (h : ¬ (0 < k ∧ pz ps k = pz ps (k - 1))) : comp ps (k + 1) = comp ps k ++ [pg ps k] := if_neg h
theorem comp_le (ps : Ps) : ∀ k, (comp ps k).length ≤ k
  | 0 => Nat.le_refl _
  | k + 1 => by
    have := comp_le ps k
    unfold comp
    split
    · omega
    · rw [List.length_append]; simp; omega
theorem comp_take {ps : Ps} : ∀ k, k ≤ ps.length → (∀ j, 0 < j → j < k → ¬ pz ps j = pz ps (j - 1)) → comp ps k = ps.take k
  | 0, _, _ => rfl
  | k + 1, hk, h => by
    rw [comp_new (fun hc => h k hc.1 (Nat.lt_succ_self _) hc.2), comp_take k (by omega) (fun j h0 hj => h j h0 (by omega)), List.take_succ_eq_append_getElem (by omega), pg_lt (by omega)]
theorem comp_spec {ps : Ps} (hs : ∀ i j, i ≤ j → j < ps.length → pz ps i ≤ pz ps j) : ∀ k, k ≤ ps.length → (∀ x ∈ comp ps k, ∃ j, j < k ∧ x = pg ps j) ∧ (∀ j, j < k → ∃ x ∈ comp ps k, x.2 = pz ps j) ∧ ((comp ps k).map Prod.snd).Pairwise (· < ·)
  | 0, _ => ⟨by simp [comp], fun j hj => by omega, by simp [comp]⟩
  | k + 1, hk => by
    obtain ⟨h1, h2, h3⟩ := comp_spec hs k (by omega)
    by_cases hc : 0 < k ∧ pz ps k = pz ps (k - 1)
    · rw [comp_dup hc.1 hc.2]
      refine ⟨fun x hx => ?_, fun j hj => ?_, h3⟩
      · obtain ⟨j, hj, e⟩ := h1 x hx; exact ⟨j, by omega, e⟩
      · rcases Nat.lt_succ_iff_lt_or_eq.1 hj with h | rfl
        · exact h2 j h
        · rw [hc.2]; exact h2 _ (by omega)
    · rw [comp_new hc]
      refine ⟨fun x hx => ?_, fun j hj => ?_, ?_⟩
      · rcases List.mem_append.1 hx with hx | hx
        · obtain ⟨j, hj, e⟩ := h1 x hx; exact ⟨j, by omega, e⟩
        · exact ⟨k, by omega, by simpa using hx⟩
      · rcases Nat.lt_succ_iff_lt_or_eq.1 hj with h | rfl
        · obtain ⟨x, hx, e⟩ := h2 j h; exact ⟨x, List.mem_append_left _ hx, e⟩
        · exact ⟨_, List.mem_append_right _ (List.mem_singleton.2 rfl), rfl⟩
      · rw [List.map_append, List.pairwise_append]
        refine ⟨h3, by simp, fun a ha b hb => ?_⟩
        simp only [List.map_cons, List.map_nil, List.mem_singleton] at hb
        subst hb
        obtain ⟨x, hx, rfl⟩ := List.mem_map.1 ha
        obtain ⟨j, hj, rfl⟩ := h1 x hx
        have e1 := hs j (k - 1) (by omega) (by omega)
        have e2 := hs (k - 1) k (by omega) (by omega)
        have : ¬ pz ps k = pz ps (k - 1) := fun e => hc ⟨by omega, e⟩
        show pz ps j < pz ps k
        omega
theorem comp_more (ps : Ps) (a : Nat) : ∀ b, (comp ps (a + b)).length ≤ (comp ps a).length + b
  | 0 => Nat.le_refl _
  | b + 1 => by
    have ih := comp_more ps a b
    rw [← Nat.add_assoc]
    by_cases hc : 0 < a + b ∧ pz ps (a + b) = pz ps (a + b - 1)
    · rw [comp_dup hc.1 hc.2]; omega
    · rw [comp_new hc, List.length_append]; simp; omega
/-- The cells of elements. -/
def rowP (ps : Ps) : List Value := (ps.map Prod.fst).flatten
theorem rowP_append (a b : Ps) : rowP (a ++ b) = rowP a ++ rowP b := by simp [rowP]
def TwoEach (ps : Ps) : Prop := ∀ p ∈ ps, p.1.length = 2
theorem length_rowP {ps : Ps} (h : TwoEach ps) : (rowP ps).length = ps.length * 2 := by
  unfold rowP
  rw [length_flatten_sz (sz := 2) _ (by intro c hc; obtain ⟨p, hp, rfl⟩ := List.mem_map.1 hc; exact h p hp)]; simp
theorem TwoEach.comp {ps : Ps} (h : TwoEach ps) (k : Nat) (hk : k ≤ ps.length) : TwoEach (comp ps k) := by
  induction k with
  | zero => intro p hp; simp [Rid.comp] at hp
  | succ k ih =>
    intro p hp
    unfold Rid.comp at hp
    split at hp
    · exact ih (by omega) p hp
    · rcases List.mem_append.1 hp with hp | hp
      · exact ih (by omega) p hp
      · rw [List.mem_singleton.1 hp, pg_lt (by omega)]; exact h _ (List.getElem_mem _)
theorem rowP_get {ps : Ps} (h : TwoEach ps) {i : Nat} (hi : i < ps.length) (rest : List Value) : ∃ u v, (pg ps i).1 = [u, v] ∧ (rowP ps ++ rest)[i * 2]? = some u ∧ (rowP ps ++ rest)[i * 2 + 1]? = some v := by
  have hl : (pg ps i).1.length = 2 := by rw [pg_lt hi]; exact h _ (List.getElem_mem _)
  have hsz : ∀ c ∈ ps.map Prod.fst, c.length = 2 := by intro c hc; obtain ⟨p, hp, rfl⟩ := List.mem_map.1 hc; exact h p hp
  have e0 := flatten_get (ps.map Prod.fst) hsz i 0 (by simpa using hi) (by decide)
  have e1 := flatten_get (ps.map Prod.fst) hsz i 1 (by simpa using hi) (by decide)
  have eg : (ps.map Prod.fst).getD i [] = (pg ps i).1 := by simp [List.getD, pg_lt hi, List.getElem?_eq_getElem hi]
  rw [eg] at e0 e1
  have hlen := length_rowP h
  match hp : (pg ps i).1, hl with
  | [u, v], _ =>
    refine ⟨u, v, rfl, ?_, ?_⟩
    · rw [List.getElem?_append_left (by omega)]; rw [hp] at e0; exact e0
    · rw [List.getElem?_append_left (by omega)]; rw [hp] at e1; exact e1
theorem set_two (A B : List Value) (x y u v : Value) : ((A ++ x :: y :: B).set A.length u).set (A.length + 1) v = A ++ u :: v :: B := by
  rw [List.set_append_right _ _ (Nat.le_refl _), Nat.sub_self, List.set_append_right _ _ (Nat.le_succ _)]
  simp
theorem get_behind (A X : List Value) {q : Nat} (h : A.length ≤ q) : (A ++ X.drop A.length)[q]? = X[q]? := by
  rw [List.getElem?_append_right h, List.getElem?_drop]; congr 1; omega
/-- Two cells more in front. -/
theorem two_more {A X : List Value} {u v : Value} (h : A.length + 2 ≤ X.length) : ((A ++ X.drop A.length).set A.length u).set (A.length + 1) v = (A ++ [u, v]) ++ X.drop (A ++ [u, v]).length := by
  rw [List.drop_eq_getElem_cons (show A.length < X.length by omega), List.drop_eq_getElem_cons (show A.length + 1 < X.length by omega), set_two]
  simp
theorem RowIs.setCells {E : TypeId} {g : Nat} : ∀ (vs : List Value) (o : Nat) (w : World) (xs : List Value), RowIs w g E xs → o + vs.length ≤ xs.length → ∃ ys, RowIs (w.setCells g o vs) g E ys ∧ ys.length = xs.length ∧ ys.take o = xs.take o ∧ Keeps (One g) w (w.setCells g o vs)
  | [], o, w, xs, h, _ => ⟨xs, h, rfl, rfl, Keeps.refl _ _⟩
  | v :: vs, o, w, xs, h, hl => by
    obtain ⟨ys, q1, q2, q3, q4⟩ := RowIs.setCells vs (o + 1) (w.setCell ⟨g, o, none⟩ v) (xs.set o v) (h.set o v) (by simp at hl ⊢; omega)
    refine ⟨ys, q1, by rw [q2]; simp, ?_, ((Keeps.refl (One g) w).set1 o v).trans q4⟩
    have e : (ys.take (o + 1)).take o = ((xs.set o v).take (o + 1)).take o := by rw [q3]
    rw [List.take_take, List.take_take, Nat.min_eq_left (Nat.le_succ o)] at e
    rw [e, List.take_set_of_le (Nat.le_refl _)]
end Go.Rid
namespace Go.Proofs.YtfkclbhddiidbaaGreat
open Go.RowKit Go.Rid
set_option maxHeartbeats 1000000 in
theorem eqcut_any {g g2 : Bool} {a a2 : Option Addr} {n c n2 c2 : Nat} {z z2 : Int} {w : World} (h : ZAt Nil w g a n c z) (h2 : ZAt Nil w g2 a2 n2 c2 z2) :
    Calls Tryz.prog 73 #[.agg #[.bool g, .slice a n c], .agg #[.bool g2, .slice a2 n2 c2]] w fun e w' => e = .returned (.bool (decide (z = z2))) ∧ Keeps Nil w w' := by
  have hk0 := (rows2 w 38 (.bool g) (.slice a n c) (.bool g2) (.slice a2 n2 c2)).2.2
  have HA := Lib.hid (And.intro (h.keepNil hk0) (And.intro (h2.keepNil hk0) hk0))
  clear h h2 hk0
  have e : (decide (cmpZ z z2 = 0)) = decide (z = z2) := by
    rw [decide_eq_decide]; rcases cmpZ_cases z z2 with ⟨e, h⟩ | ⟨e, h⟩ | ⟨e, h⟩ <;> rw [e] <;> constructor <;> intro h' <;> omega
  have HE := Lib.hid e
  clear e
  go_enter Tryz.func73, Tryz.ntmps73
  go_wp2_with (go_at_call 71; refine (zcmp_any HA.out.1 HA.out.2.1).mono ?_; rintro e w1 ⟨rfl, hk1⟩; have HK := Lib.hid hk1; clear hk1)
  go_ret
  exact ⟨by rw [← HE.out]; rfl, HA.out.2.2.trans HK.out⟩

def CompRet (w : World) (g c : Nat) (ps : Ps) (e : Ending) (w' : World) : Prop := ∃ rest', e = .returned (.slice (some ⟨g, 0, none⟩) (comp ps ps.length).length c) ∧ RowIs w' g 38 (rowP (comp ps ps.length) ++ rest') ∧ Keeps (One g) w w'
theorem zero_Int (w : World) : (zeroValue 38).run Tryz.prog w = .ok (.agg #[.bool false, .slice none 0 0]) w := by kernel_rfl
/-- What 'clear' stores. -/
def clearCells (n : Nat) : List Value := (Builtin.zeroCells (Value.agg #[.bool false, .slice none 0 0]).cells n).toList
theorem length_clearCells (n : Nat) : (clearCells n).length = n * 2 := by simp [clearCells, Builtin.zeroCells, Value.cells]
theorem run_clear_row {w : World} {g : Nat} {E : TypeId} {xs : List Value} (h : RowIs w g E xs) {o n c : Nat} (hn : 0 < n) (hfit : o + n * 2 ≤ xs.length) (ty : TypeId) :
    (Builtin.clear_ #[23] ty #[.slice (some ⟨g, o, none⟩) n c]).run Tryz.prog w = .ok (.tuple #[]) (w.setCells g o (clearCells n)) := by
  have hl := length_clearCells n
  unfold clearCells at *
  have hst := run_storeCells_cells (P := Tryz.prog) g o (Builtin.zeroCells (Value.agg #[.bool false, .slice none 0 0]).cells n).toList 0 w (fun j hj => by rw [h.cell, List.getElem?_eq_getElem (by omega)]; rfl) (fun j hj => h.frozen _) (by
    intro v hv
    obtain ⟨i, hi, rfl⟩ := List.mem_iff_getElem.1 hv
    simp only [Builtin.zeroCells, Value.cells] at hi ⊢
    simp
    have : i % 2 < 2 := Nat.mod_lt _ (by decide)
    rcases (show i % 2 = 0 ∨ i % 2 = 1 by omega) with e | e <;> simp [e, Value.cells, Value.oneCell'])
  simp only [Nat.add_zero] at hst
  obtain ⟨m, rfl⟩ : ∃ m, n = m + 1 := ⟨n - 1, by omega⟩
  simp [Builtin.clear_, run_underlying Tryz.underlying23, zero_Int, hst]
/-- An element of the row, as the walk reads it. -/
theorem el_at {N : Nat → Prop} {w wr : World} {g : Nat} {ps : Ps} {rest xs : List Value} (hN : N g) (h : RowIs wr g 38 xs) (h2 : TwoEach ps) (hr : ∀ p ∈ ps, RZ N w p.1 p.2) (hf : ∀ p ∈ ps, nlen p.2.natAbs * 4 + 4 ≤ 140737488355328) (k : Keeps (One g) w wr) {i : Nat} (hi : i < ps.length) (hx : ∀ q, i * 2 ≤ q → xs[q]? = (rowP ps ++ rest)[q]?) :
    ∃ s a n c, wr.cell? ⟨g, i * 2, none⟩ = some (.bool s) ∧ wr.cell? ⟨g, i * 2 + 1, none⟩ = some (.slice a n c) ∧ ZAt Nil wr s a n c (pz ps i) ∧ (pg ps i).1 = [.bool s, .slice a n c] := by
  obtain ⟨u, v, e, e0, e1⟩ := rowP_get h2 hi rest
  have hm : pg ps i ∈ ps := by rw [pg_lt hi]; exact List.getElem_mem _
  obtain ⟨s, a, n, c, e', hz⟩ := hr _ hm
  rw [e] at e'
  obtain ⟨rfl, rfl⟩ : u = .bool s ∧ v = .slice a n c := by simpa using e'
  exact ⟨s, a, n, c, (h.cell _).trans ((hx _ (Nat.le_refl _)).trans e0), (h.cell _).trans ((hx _ (Nat.le_succ _)).trans e1), (hz.move (M2 := Nil) k (fun b _ hb => by cases (show b = g from hb); exact hN) fun _ _ h => h.elim).zat (hf _ hm), e⟩
set_option maxHeartbeats 4000000 in
theorem compact_any {N : Nat → Prop} {g n c : Nat} {ps : Ps} {rest : List Value} {w : World} (hN : N g) (h : RowIs w g 38 (rowP ps ++ rest)) (h2 : TwoEach ps) (hr : ∀ p ∈ ps, RZ N w p.1 p.2) (hf : ∀ p ∈ ps, nlen p.2.natAbs * 4 + 4 ≤ 140737488355328) (hn : ps.length = n) (hn2 : n ≤ 4000) (hc : n ≤ c) (hc2 : c ≤ 9223372036854775807) :
    Calls Tryz.prog 72 #[.slice (some ⟨g, 0, none⟩) n c, .func (.func 73) #[] #[]] w fun e w' => CompRet w g c ps e w' := by
  have HH := Lib.hid (And.intro h (And.intro h2 (And.intro hr hf)))
  have HN := Lib.hid hn
  have HNg := Lib.hid hN
  have ld := liveRules.2.2.1
  have lg := Live.of h.lt
  clear h h2 hr hf hn hN
  by_cases h1 : n < 2
  · go_enter Tryz.func72, Tryz.ntmps72
    go_wp2_with fail
    go_ret
    have e : comp ps ps.length = ps := by rw [comp_take _ (Nat.le_refl _) (fun j h0 hj => by have := HN.out; omega), List.take_length]
    refine ⟨rest, ?_, ?_, Keeps.refl _ _⟩
    · rw [e, HN.out]; rfl
    · rw [e]; exact HH.out.1
  · go_enter Tryz.func72, Tryz.ntmps72
    go_wp2_with fail
    go_loopw [5] (fun i wr => ∃ j : Nat, j + 1 ≤ n ∧ i = .int .i64 ((j : Int) + 1) ∧ (∀ x, 0 < x → x < j + 1 → ¬ pz ps x = pz ps (x - 1)) ∧ Keeps Nil w wr) (fun i _ => n - (intOf i).toNat)
    case atStart => exact ⟨0, by omega, rfl, fun x h0 hx => by omega, Keeps.refl _ _⟩
    case round =>
      obtain ⟨j, hj, rfl, hnd, hkk⟩ := hrel
      have HND := Lib.hid hnd
      have HKK := Lib.hid hkk
      have lw := Live.of (Nat.lt_of_lt_of_le lg.lt hkk.size)
      by_cases hlt : j + 1 < n
      · obtain ⟨s0, a0, n0, c0, p00, p01, z0, _⟩ := el_at HNg.out (HH.out.1.keep hkk id) HH.out.2.1 HH.out.2.2.1 HH.out.2.2.2 hkk.of_nil (i := j) (by rw [HN.out]; omega) (fun _ _ => rfl)
        obtain ⟨s1, a1, n1, c1, p10, p11, z1, _⟩ := el_at HNg.out (HH.out.1.keep hkk id) HH.out.2.1 HH.out.2.2.1 HH.out.2.2.2 hkk.of_nil (i := j + 1) (by rw [HN.out]; omega) (fun _ _ => rfl)
        have HZ := Lib.hid (And.intro z0 z1)
        have i1 : (j : Int) + 1 < (n : Int) := by omega
        have i2 : (j : Int) < (n : Int) := by omega
        have i3 : (0 : Int) ≤ (j : Int) + 1 := by omega
        have i4 : ((j : Int) + 1).toNat = j + 1 := by omega
        have i5 : (0 : Int) ≤ (j : Int) := by omega
        have i6 : IntKind.i64.wrap (j : Int) = (j : Int) := IntWalk.i64_in _ (by omega)
        have i7 : IntKind.i64.wrap ((j : Int) + 1 - 1) = (j : Int) := by rw [show (j : Int) + 1 - 1 = (j : Int) by omega]; exact i6
        clear hnd hkk z0 z1
        go_wp2_with fail
        go_region_held3 (fun w' => w'.cell? ⟨g, (j + 1) * 2, none⟩ = some (.bool s1) ∧ w'.cell? ⟨g, (j + 1) * 2 + 1, none⟩ = some (.slice a1 n1 c1) ∧ w'.cell? ⟨g, j * 2, none⟩ = some (.bool s0) ∧ w'.cell? ⟨g, j * 2 + 1, none⟩ = some (.slice a0 n0 c0)) (go_keep) (first | (go_at_call 73; refine (eqcut_any (HZ.out.2.keepNil (by repeat (first | exact Keeps.refl _ _ | assumption | refine Keeps.drew ?_ | refine Keeps.drewN ?_ _ | refine Keeps.alloc ?_ _ | exact Keeps.of_nil (by assumption) | refine Keeps.trans ?_ (Keeps.of_nil (by assumption)) | refine Keeps.setCell ?_ (.inr (by first | exact Nat.le_refl _ | (dsimp only; omega))) _ | refine Keeps.setCell ?_ (.inl (by first | (unfold Old; dsimp only; omega) | (unfold Old; simp; omega) | (unfold Old; simp))) _))) (HZ.out.1.keepNil (by repeat (first | exact Keeps.refl _ _ | assumption | refine Keeps.drew ?_ | refine Keeps.drewN ?_ _ | refine Keeps.alloc ?_ _ | exact Keeps.of_nil (by assumption) | refine Keeps.trans ?_ (Keeps.of_nil (by assumption)) | refine Keeps.setCell ?_ (.inr (by first | exact Nat.le_refl _ | (dsimp only; omega))) _ | refine Keeps.setCell ?_ (.inl (by first | (unfold Old; dsimp only; omega) | (unfold Old; simp; omega) | (unfold Old; simp))) _)))).mono ?_; rintro e w1 ⟨rfl, hk1⟩; obtain ⟨rc1, rf1, ra1⟩ := hk1.live))
        have hkw : Keeps Nil w w1 := HKK.out.trans (show Keeps Nil wr w1 from (by repeat (first | exact Keeps.refl _ _ | assumption | refine Keeps.drew ?_ | refine Keeps.drewN ?_ _ | refine Keeps.alloc ?_ _ | exact Keeps.of_nil (by assumption) | refine Keeps.trans ?_ (Keeps.of_nil (by assumption)) | refine Keeps.setCell ?_ (.inr (by first | exact Nat.le_refl _ | (dsimp only; omega))) _ | refine Keeps.setCell ?_ (.inl (by first | (unfold Old; dsimp only; omega) | (unfold Old; simp; omega) | (unfold Old; simp))) _)))
        have HKW := Lib.hid hkw
        clear rc1 rf1 ra1 hk1 hkw i6 i7 p00 p01 p10 p11
        by_cases hd : pz ps (j + 1) = pz ps j
        · rw [decide_eq_true hd]
          have hcd : comp ps (j + 1 + 1) = comp ps (j + 1) := comp_dup (by omega) hd
          have hct : comp ps (j + 1) = ps.take (j + 1) := comp_take _ (by rw [HN.out]; omega) HND.out
          have HCD := Lib.hid (And.intro hcd hct)
          have hlen1 : (comp ps (j + 1 + 1)).length = j + 1 := by rw [hcd, hct, List.length_take, HN.out, Nat.min_eq_left (by omega)]
          have hrow1 : RowIs w1 g 38 (rowP (comp ps (j + 1 + 1)) ++ (rowP ps ++ rest).drop (rowP (comp ps (j + 1 + 1))).length) := by
            have h := HH.out.1.keep HKW.out id
            rw [hcd, hct]
            have e : rowP ps = rowP (ps.take (j + 1)) ++ rowP (ps.drop (j + 1)) := by rw [← rowP_append, List.take_append_drop]
            rw [e, List.append_assoc, List.drop_left, ← List.append_assoc, ← e]; exact h
          have HR1 := Lib.hid (And.intro hrow1 hlen1)
          have hcj : ¬ c = j + 1 := by omega
          have icj : (j : Int) + 1 ≤ (c : Int) := by omega
          clear hd hcd hct hlen1 hrow1
          have HTE := Lib.hid (fun k hk => length_rowP (HH.out.2.1.comp (k := k) hk))
          have HLX := Lib.hid (show (rowP ps ++ rest).length = n * 2 + rest.length by rw [List.length_append, length_rowP HH.out.2.1, HN.out])
          go_wp2_with fail
          go_loopw [5, 7] (fun i k2 wr => ∃ q m : Nat, q + 1 ≤ n - (j + 1) ∧ m = (comp ps (j + 1 + 1 + q)).length ∧ i = .int .i64 m ∧ k2 = .int .i64 ((q : Int) + 1) ∧ RowIs wr g 38 (rowP (comp ps (j + 1 + 1 + q)) ++ (rowP ps ++ rest).drop (rowP (comp ps (j + 1 + 1 + q))).length) ∧ Keeps (One g) w wr) (fun _ k _ => n - (intOf k).toNat)
          case atStart => exact ⟨0, j + 1, by omega, HR1.out.2.symm, by go_num, rfl, HR1.out.1, HKW.out.of_nil⟩
          case round =>
            obtain ⟨q, m, hq, hm, rfl, rfl, hrow, hkk2⟩ := hrel
            have hmle : m ≤ j + 1 + q := by
              have := comp_more ps (j + 1 + 1) q
              have := HR1.out.2
              omega
            have hal : (rowP (comp ps (j + 1 + 1 + q))).length = m * 2 := by rw [HTE.out _ (by rw [HN.out]; omega), ← hm]
            have HROW := Lib.hid (And.intro hrow (And.intro hkk2 (And.intro hm hal)))
            by_cases hq1 : q + 1 < n - (j + 1)
            · obtain ⟨s0, a0, n0, c0, p00, p01, z0, _⟩ := el_at HNg.out hrow HH.out.2.1 HH.out.2.2.1 HH.out.2.2.2 hkk2 (i := j + 1 + q) (by rw [HN.out]; omega) (fun x hx => get_behind _ _ (by rw [hal]; omega))
              obtain ⟨s1, a1, n1, c1, p10, p11, z1, pe1⟩ := el_at HNg.out hrow HH.out.2.1 HH.out.2.2.1 HH.out.2.2.2 hkk2 (i := j + 1 + (q + 1)) (by rw [HN.out]; omega) (fun x hx => get_behind _ _ (by rw [hal]; omega))
              rw [Nat.add_mul] at p00 p01 p10 p11
              have lw := Live.of hrow.lt
              have HZ := Lib.hid (And.intro z0 (And.intro z1 pe1))
              have i1 : (q : Int) + 1 < ((n - (j + 1) : Nat) : Int) := by omega
              have i2 : (q : Int) < ((n - (j + 1) : Nat) : Int) := by omega
              have i3 : (0 : Int) ≤ (q : Int) + 1 := by omega
              have i4 : ((q : Int) + 1).toNat = q + 1 := by omega
              have i5 : (0 : Int) ≤ (q : Int) := by omega
              have i6 : IntKind.i64.wrap (q : Int) = (q : Int) := IntWalk.i64_in _ (by omega)
              have i7 : IntKind.i64.wrap ((q : Int) + 1 - 1) = (q : Int) := by rw [show (q : Int) + 1 - 1 = (q : Int) by omega]; exact i6
              clear hrow hkk2 z0 z1 hm hal pe1
              go_wp2_with fail
              go_region_held3 (fun w' => w'.cell? ⟨g, (j + 1) * 2 + (q + 1) * 2, none⟩ = some (.bool s1) ∧ w'.cell? ⟨g, (j + 1) * 2 + (q + 1) * 2 + 1, none⟩ = some (.slice a1 n1 c1) ∧ w'.cell? ⟨g, (j + 1) * 2 + q * 2, none⟩ = some (.bool s0) ∧ w'.cell? ⟨g, (j + 1) * 2 + q * 2 + 1, none⟩ = some (.slice a0 n0 c0)) (go_keep) (first | (go_at_call 73; refine (eqcut_any (HZ.out.2.1.keepNil (by repeat (first | exact Keeps.refl _ _ | assumption | refine Keeps.drew ?_ | refine Keeps.drewN ?_ _ | refine Keeps.alloc ?_ _ | exact Keeps.of_nil (by assumption) | refine Keeps.trans ?_ (Keeps.of_nil (by assumption)) | refine Keeps.setCell ?_ (.inr (by first | exact Nat.le_refl _ | (dsimp only; omega))) _ | refine Keeps.setCell ?_ (.inl (by first | (unfold Old; dsimp only; omega) | (unfold Old; simp; omega) | (unfold Old; simp))) _))) (HZ.out.1.keepNil (by repeat (first | exact Keeps.refl _ _ | assumption | refine Keeps.drew ?_ | refine Keeps.drewN ?_ _ | refine Keeps.alloc ?_ _ | exact Keeps.of_nil (by assumption) | refine Keeps.trans ?_ (Keeps.of_nil (by assumption)) | refine Keeps.setCell ?_ (.inr (by first | exact Nat.le_refl _ | (dsimp only; omega))) _ | refine Keeps.setCell ?_ (.inl (by first | (unfold Old; dsimp only; omega) | (unfold Old; simp; omega) | (unfold Old; simp))) _)))).mono ?_; rintro e w2 ⟨rfl, hk2⟩; obtain ⟨rc2, rf2, ra2⟩ := hk2.live))
              have hkw2 : Keeps Nil wr w2 := (by repeat (first | exact Keeps.refl _ _ | assumption | refine Keeps.drew ?_ | refine Keeps.drewN ?_ _ | refine Keeps.alloc ?_ _ | exact Keeps.of_nil (by assumption) | refine Keeps.trans ?_ (Keeps.of_nil (by assumption)) | refine Keeps.setCell ?_ (.inr (by first | exact Nat.le_refl _ | (dsimp only; omega))) _ | refine Keeps.setCell ?_ (.inl (by first | (unfold Old; dsimp only; omega) | (unfold Old; simp; omega) | (unfold Old; simp))) _))
              have HK2 := Lib.hid hkw2
              have hcell := (HROW.out.1.keep hkw2 id)
              obtain ⟨x0, hx0⟩ : ∃ x, w2.cell? ⟨g, m * 2, none⟩ = some x := by
                rw [hcell.cell, List.getElem?_append_right (by rw [HROW.out.2.2.2]; exact Nat.le_refl _), List.getElem?_drop, HROW.out.2.2.2, Nat.sub_self, Nat.add_zero]
                exact ⟨_, List.getElem?_eq_getElem (by rw [HLX.out]; omega)⟩
              obtain ⟨x1, hx1⟩ : ∃ x, w2.cell? ⟨g, m * 2 + 1, none⟩ = some x := by
                rw [hcell.cell, List.getElem?_append_right (by rw [HROW.out.2.2.2]; omega), List.getElem?_drop, HROW.out.2.2.2, show m * 2 + (m * 2 + 1 - m * 2) = m * 2 + 1 by omega]
                exact ⟨_, List.getElem?_eq_getElem (by rw [HLX.out]; omega)⟩
              have hz0 := hcell.frozen (m * 2)
              have hz1 := hcell.frozen (m * 2 + 1)
              have j1 : (m : Int) < (n : Int) := by omega
              have j2 : (0 : Int) ≤ (m : Int) := by omega
              clear rc2 rf2 ra2 hk2 hkw2 i6 i7 p00 p01 p10 p11 hcell
              by_cases hd : pz ps (j + 1 + (q + 1)) = pz ps (j + 1 + q)
              · rw [decide_eq_true hd]
                have hcd : comp ps (j + 1 + 1 + (q + 1)) = comp ps (j + 1 + 1 + q) := by
                  have := comp_dup (ps := ps) (k := j + 1 + 1 + q) (by omega) (by rw [show j + 1 + 1 + q = j + 1 + (q + 1) by omega, show j + 1 + (q + 1) - 1 = j + 1 + q by omega]; exact hd)
                  rw [← Nat.add_assoc (j + 1 + 1)]; exact this
                have HC := Lib.hid hcd
                clear hd hcd
                go_wp2_with fail
                go_roundw
                case rel => exact ⟨q + 1, m, by omega, by rw [HC.out]; exact HROW.out.2.2.1, rfl, by go_num, by rw [HC.out]; exact HROW.out.1.keep HK2.out id, HROW.out.2.1.transNil HK2.out⟩
                case measure => simp [intOf]; omega
              · rw [decide_eq_false hd]
                have hcn : comp ps (j + 1 + 1 + (q + 1)) = comp ps (j + 1 + 1 + q) ++ [pg ps (j + 1 + (q + 1))] := by
                  have := comp_new (ps := ps) (k := j + 1 + 1 + q) (by rw [show j + 1 + 1 + q = j + 1 + (q + 1) by omega, show j + 1 + (q + 1) - 1 = j + 1 + q by omega]; exact fun h => hd h.2)
                  rw [← Nat.add_assoc (j + 1 + 1), this, show j + 1 + 1 + q = j + 1 + (q + 1) by omega]
                have HC := Lib.hid hcn
                have hHeld : w2.cell? ⟨g, (j + 1) * 2 + (q + 1) * 2, none⟩ = some (.bool s1) ∧ w2.cell? ⟨g, (j + 1) * 2 + (q + 1) * 2 + 1, none⟩ = some (.slice a1 n1 c1) := by
                  have h := HROW.out.1.keep HK2.out id
                  obtain ⟨s, a, n', c', e0, e1, _, pe⟩ := el_at HNg.out h HH.out.2.1 HH.out.2.2.1 HH.out.2.2.2 (HROW.out.2.1.transNil HK2.out) (i := j + 1 + (q + 1)) (by rw [HN.out]; omega) (fun x hx => get_behind _ _ (by rw [HROW.out.2.2.2]; omega))
                  rw [HZ.out.2.2] at pe
                  obtain ⟨rfl, rfl, rfl, rfl⟩ : s1 = s ∧ a1 = a ∧ n1 = n' ∧ c1 = c' := by simpa using pe
                  rw [Nat.add_mul] at e0 e1
                  exact ⟨e0, e1⟩
                obtain ⟨e0, e1⟩ := hHeld
                clear hd hcn
                go_wp2_with fail
                go_roundw
                case rel =>
                  refine ⟨q + 1, m + 1, by omega, ?_, by go_num, by go_num, ?_, ?_⟩
                  · rw [HC.out, List.length_append, ← HROW.out.2.2.1]; rfl
                  · have h := ((HROW.out.1.keep HK2.out id).set (m * 2) (.bool s1)).set (m * 2 + 1) (.slice a1 n1 c1)
                    have hal := HROW.out.2.2.2
                    rw [← hal, two_more (by rw [hal, HLX.out]; omega)] at h
                    rw [HC.out, rowP_append, show rowP [pg ps (j + 1 + (q + 1))] = [.bool s1, .slice a1 n1 c1] by simp [rowP, HZ.out.2.2]]
                    rw [hal] at h
                    exact h
                  · exact ((HROW.out.2.1.transNil HK2.out).set1 _ _).set1 _ _
                case measure => simp [intOf]; omega
            · have hqn : j + 1 + 1 + q = n := by omega
              have hlx := HLX.out
              have hmn : m < n := by omega
              have hcl := fun ty => run_clear_row (ty := ty) (o := m * 2) (n := n - m) (c := c - m) hrow (by omega) (by rw [List.length_append, List.length_drop, hal, hlx]; omega)
              obtain ⟨ys, y1, y2, y3, y4⟩ := RowIs.setCells (clearCells (n - m)) (m * 2) wr _ hrow (by rw [length_clearCells, List.length_append, List.length_drop, hal, hlx]; omega)
              rw [← hal, List.take_left, hal] at y3
              have HY := Lib.hid (And.intro y1 (And.intro y3 (hkk2.trans y4)))
              have hqI : ¬ (q : Int) + 1 < ((n - (j + 1) : Nat) : Int) := by omega
              have hmc : ¬ c = m := by omega
              have j1 : (m : Int) ≤ (n : Int) := by omega
              have j2 : (m : Int) ≤ (c : Int) := by omega
              have HQN := Lib.hid hqn
              clear hrow hkk2 hm hal y1 y2 y3 y4 hlx hqn
              go_wp2_with fail
              go_ret
              have hm' := HROW.out.2.2.1
              rw [HQN.out] at hm'
              have hy := HY.out.2.1
              rw [HQN.out] at hy
              refine ⟨ys.drop (m * 2), ?_, ?_, HY.out.2.2⟩
              · rw [HN.out, ← hm']; rfl
              · rw [HN.out, ← hy, List.take_append_drop]; exact HY.out.1
        · rw [decide_eq_false hd]
          have HD := Lib.hid hd
          clear hd
          go_wp2_with fail
          go_roundw
          case rel => exact ⟨j + 1, by omega, by go_num, fun x h0 hx => by rcases Nat.lt_succ_iff_lt_or_eq.1 hx with h | rfl; exact HND.out x h0 h; exact HD.out, HKW.out⟩
          case measure => simp [intOf]; omega
      · have hjn : j + 1 = n := by omega
        have HJN := Lib.hid hjn
        have HND2 := Lib.hid (comp_take (ps := ps) ps.length (Nat.le_refl _) (by rw [HN.out, ← hjn]; exact HND.out))
        have hge : ¬ (j : Int) + 1 < (n : Int) := by omega
        clear hnd hjn
        go_wp2_with fail
        go_ret
        have e := HND2.out
        rw [List.take_length] at e
        refine ⟨rest, ?_, ?_, hkk.of_nil⟩
        · rw [e, HN.out]; rfl
        · rw [e]; exact HH.out.1.keep hkk id
end Go.Proofs.YtfkclbhddiidbaaGreat
