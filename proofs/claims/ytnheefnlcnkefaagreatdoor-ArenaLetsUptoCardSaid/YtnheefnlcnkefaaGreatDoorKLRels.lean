/- A region that lets lists go but their first elements: what each of its operations wants, yields and turns. No condition. -/
/- What the arena's Release does: all nodes but the first go. Conditions: the arena stands, its nodes each once; the library's table; room. -/
import Derived.Test.YtnheefnlcnkefaaGreatDoorKLMadesA
import Derived.Test.YtnheefnlcnkefaaGreatDoorKLANode
import Derived.Test.YtnheefnlcnkefaaGreatDoorKLOnces
namespace Go.Proofs.YtnheefnlcnkefaaGreatDoor
open Go.RowKit Go.Rid
structure RC where
  g : Nat
  L : Nat
  n : Nat
  gn : Nat
  gf : Nat
  gp : Nat
  cn : Nat
  cf : Nat
  cp : Nat
  vm : Value
  vt : Value
def RC.row (J : RC) (w : World) (x y z : Value) : Prop := RowIs w J.g 94 [x, y, z, J.vm, J.vt]
def RC.F (J : RC) : Nat → Value → World → Prop
  | 5, v, _ => v = .pointer (some ⟨J.g, 0, none⟩)
  | 6, v, _ => v = .slice (some ⟨J.gn, 0, none⟩) J.L J.cn
  | 7, v, _ => v = .int .i64 J.n
  | 8, v, _ => v = .int .i64 J.n
  | 9, v, _ => v = .slice (some ⟨J.gn, 0, none⟩) J.n J.n
  | 12, v, _ => v = .pointer (some ⟨J.g, 1, none⟩)
  | 13, v, _ => v = .slice (some ⟨J.gf, 0, none⟩) J.L J.cf
  | 14, v, _ => v = .int .i64 J.n
  | 15, v, _ => v = .int .i64 J.n
  | 16, v, _ => v = .slice (some ⟨J.gf, 0, none⟩) J.n J.n
  | 19, v, _ => v = .pointer (some ⟨J.g, 2, none⟩)
  | 20, v, _ => v = .slice (some ⟨J.gp, 0, none⟩) J.L J.cp
  | 21, v, _ => v = .int .i64 J.n
  | 22, v, _ => v = .int .i64 J.n
  | 23, v, _ => v = .slice (some ⟨J.gp, 0, none⟩) J.n J.n
  | 25, v, _ => v = .pointer (some ⟨J.g, 0, none⟩)
  | 26, _, w => ∃ y z, J.row w (.slice (some ⟨J.gn, 0, none⟩) J.n J.n) y z
  | 28, v, _ => v = .pointer (some ⟨J.g, 1, none⟩)
  | 29, _, w => ∃ x z, J.row w x (.slice (some ⟨J.gf, 0, none⟩) J.n J.n) z
  | 31, v, _ => v = .pointer (some ⟨J.g, 2, none⟩)
  | 32, _, w => ∃ x y, J.row w x y (.slice (some ⟨J.gp, 0, none⟩) J.n J.n)
  | _, v, _ => v = .pointer (some ⟨J.g, 0, none⟩)
def RC.Pre (J : RC) : Nat → World → Prop
  | 6, w => ∃ y z, J.row w (.slice (some ⟨J.gn, 0, none⟩) J.L J.cn) y z
  | 13, w => ∃ x z, J.row w x (.slice (some ⟨J.gf, 0, none⟩) J.L J.cf) z
  | 20, w => ∃ x y, J.row w x y (.slice (some ⟨J.gp, 0, none⟩) J.L J.cp)
  | 26, w => ∃ x y z, J.row w x y z
  | 29, w => ∃ x y z, J.row w x y z
  | 32, w => ∃ x y z, J.row w x y z
  | _, _ => True
def RC.R (J : RC) : Nat → World → World → Prop
  | 26, w, w' => (∃ x y z, J.row w x y z) ∧ ∃ u, w' = w.setCell ⟨J.g, 0, none⟩ u
  | 29, w, w' => (∃ x y z, J.row w x y z) ∧ ∃ u, w' = w.setCell ⟨J.g, 1, none⟩ u
  | 32, w, w' => (∃ x y z, J.row w x y z) ∧ ∃ u, w' = w.setCell ⟨J.g, 2, none⟩ u
  | _, w, w' => w = w'
theorem RC.box_keep (J : RC) {j : Nat} {w w' : World} {x y z : Value} (h : J.R j w w') (hr : J.row w x y z) : ∃ x' y' z', J.row w' x' y' z' ∧ (j ≠ 26 → x' = x) ∧ (j ≠ 29 → y' = y) ∧ (j ≠ 32 → z' = z) := by
  unfold RC.row at *
  unfold RC.R RC.row at h
  split at h
  · obtain ⟨_, u, rfl⟩ := h; exact ⟨u, y, z, hr.set 0 u, fun h => absurd rfl h, fun _ => rfl, fun _ => rfl⟩
  · obtain ⟨_, u, rfl⟩ := h; exact ⟨x, u, z, hr.set 1 u, fun _ => rfl, fun h => absurd rfl h, fun _ => rfl⟩
  · obtain ⟨_, u, rfl⟩ := h; exact ⟨x, y, u, hr.set 2 u, fun _ => rfl, fun _ => rfl, fun h => absurd rfl h⟩
  · subst h; exact ⟨x, y, z, hr, fun _ => rfl, fun _ => rfl, fun _ => rfl⟩
theorem RC.hF (J : RC) (A : Nat → Nat → Bool) : ∀ i j v w w', i ≠ j → A i j = false → J.R j w w' → J.F i v w → J.F i v w' := by
  intro i j v w w' hij _ hR hf
  unfold RC.F at hf ⊢
  split at hf
  all_goals first
    | exact hf
    | (obtain ⟨y, z, hr⟩ := hf
       obtain ⟨x', y', z', hr', e1, e2, e3⟩ := J.box_keep hR hr
       first
       | (rw [e1 (fun e => hij e.symm)] at hr'; exact ⟨y', z', hr'⟩)
       | (rw [e2 (fun e => hij e.symm)] at hr'; exact ⟨x', z', hr'⟩)
       | (rw [e3 (fun e => hij e.symm)] at hr'; exact ⟨x', y', hr'⟩))
theorem RC.hP (J : RC) (A : Nat → Nat → Bool) (b1 : A 26 6 = true) (b2 : A 29 13 = true) (b3 : A 32 20 = true) : ∀ i j w w', i ≠ j → A j i = false → J.R j w w' → J.Pre i w → J.Pre i w' := by
  intro i j w w' hij hA hR hp
  unfold RC.Pre at hp ⊢
  split at hp
  · obtain ⟨y, z, hr⟩ := hp
    obtain ⟨x', y', z', hr', e1, _⟩ := J.box_keep hR hr
    rw [e1 (fun e => by subst e; rw [b1] at hA; cases hA)] at hr'
    exact ⟨y', z', hr'⟩
  · obtain ⟨x, z, hr⟩ := hp
    obtain ⟨x', y', z', hr', _, e1, _⟩ := J.box_keep hR hr
    rw [e1 (fun e => by subst e; rw [b2] at hA; cases hA)] at hr'
    exact ⟨x', z', hr'⟩
  · obtain ⟨x, y, hr⟩ := hp
    obtain ⟨x', y', z', hr', _, _, e1⟩ := J.box_keep hR hr
    rw [e1 (fun e => by subst e; rw [b3] at hA; cases hA)] at hr'
    exact ⟨x', y', hr'⟩
  · obtain ⟨x, y, z, hr⟩ := hp
    obtain ⟨x', y', z', hr', _⟩ := J.box_keep hR hr
    exact ⟨x', y', z', hr'⟩
  · obtain ⟨x, y, z, hr⟩ := hp
    obtain ⟨x', y', z', hr', _⟩ := J.box_keep hR hr
    exact ⟨x', y', z', hr'⟩
  · obtain ⟨x, y, z, hr⟩ := hp
    obtain ⟨x', y', z', hr', _⟩ := J.box_keep hR hr
    exact ⟨x', y', z', hr'⟩
  · trivial
theorem RC.pre (J : RC) {w : World} (hr : J.row w (.slice (some ⟨J.gn, 0, none⟩) J.L J.cn) (.slice (some ⟨J.gf, 0, none⟩) J.L J.cf) (.slice (some ⟨J.gp, 0, none⟩) J.L J.cp)) : ∀ j, J.Pre j w := by
  intro j
  unfold RC.Pre
  split
  · exact ⟨_, _, hr⟩
  · exact ⟨_, _, hr⟩
  · exact ⟨_, _, hr⟩
  · exact ⟨_, _, _, hr⟩
  · exact ⟨_, _, _, hr⟩
  · exact ⟨_, _, _, hr⟩
  · trivial
end Go.Proofs.YtnheefnlcnkefaaGreatDoor

namespace Go.Rid
open Go.RowKit
theorem flatten_take {sz : Nat} : ∀ (els : List (List Value)) (n : Nat), (∀ c ∈ els, c.length = sz) → (els.take n).flatten = els.flatten.take (n * sz)
  | [], n, _ => by simp
  | c :: els, 0, _ => by simp
  | c :: els, n + 1, h => by
    have hc : c.length = sz := h c (by simp)
    rw [List.take_succ_cons, List.flatten_cons, List.flatten_cons, flatten_take els n fun c hc => h c (List.mem_cons_of_mem _ hc), List.take_append, hc, show (n + 1) * sz - sz = n * sz by rw [Nat.add_mul]; omega, List.take_of_length_le (l := c) (by rw [hc, Nat.add_mul]; omega)]
theorem OwnEls.cap {w : World} {B : Nat} {E : TypeId} {sz n c k g : Nat} {els : List (List Value)} (h : OwnEls w B E sz (.slice (some ⟨g, 0, none⟩) n c) els) (hn : els.length = n) (hk : k ≤ n) : OwnEls w B E sz (.slice (some ⟨g, 0, none⟩) k k) (els.take k) := by
  have hl : (els.take k).length = k := by rw [List.length_take]; omega
  have hs : ∀ c ∈ els.take k, c.length = sz := fun c hc => h.sz c (List.mem_of_mem_take hc)
  rcases h.row.2 with ⟨e, _⟩ | ⟨g', cap, cur, e, hb, hg, hnc, hcm, hcs, ht⟩
  · cases e
  · cases e
    refine ⟨⟨length_flatten_sz _ hs, .inr ⟨g, k, cur, by rw [hl], hb, hg, by rw [hl]; exact Nat.le_refl _, by omega, Nat.le_trans (Nat.mul_le_mul_right _ (show k ≤ c by omega)) hcs, ?_⟩⟩, hs⟩
    rw [hl, flatten_take els k h.sz, ← ht, List.take_take, hn]
    congr 1
    exact (Nat.min_eq_left (Nat.mul_le_mul_right _ hk)).symm
open Go.Maps in
theorem oper_kmap_del {P : Program} {w : World} {o : Oper} {a : Act} {K : Act → World → Prop} {Q : Exit → Act → World → Prop} (m x : Operand) (t kt : TypeId) (hop : o.op = Op.call { callee := Callee.builtin Builtin.delete, args := #[m, x], argTypes := #[t, kt] }) (et : TypeId) (hk : P.underlying kt = some .string) (ht : P.underlying t = some (.map kt et))
    (b n : Nat) (F : List Nat → Option Nat) (hm : a.eval m = .map (some b)) (hF : KMap P kt et w b n F) (s : List Nat) (hx : a.eval x = .string (strOf s)) (hs : Byt s) (hl : s.length ≤ maxLen)
    (hK : ∀ w', KMap P kt et w' b n (fun t => if t = s then none else F t) → Keeps (One b) w w' → K (a.put o.dst (.tuple #[])) w') : Oper.wp P o a w K Q := by
  obtain ⟨D, q1, q2⟩ := hF
  obtain ⟨w', hrun, r1, r2⟩ := q1.drop (string_keyed hk) ht (key_txt hk hl) o.type
  unfold Oper.wp
  simp [execOp, hop, resolve, invoke, builtin, hm, hx, hrun, Result.andThen]
  refine hK w' ⟨_, r1, fun u hu => ?_⟩ (Keeps.ofGrown r2.grown)
  by_cases hus : u = s
  · subst hus
    show _ = (if u = u then none else F u).isSome ∧ ∀ j, (if u = u then none else F u) = some j → _
    rw [if_pos rfl]
    exact ⟨by rw [Maps.has_del_same]; rfl, fun j hj => by cases hj⟩
  · show _ = (if u = s then none else F u).isSome ∧ ∀ j, (if u = s then none else F u) = some j → _
    rw [if_neg hus]
    have hne : txtLit u ≠ txtLit s := fun e => hus (txtLit_inj hu hs e)
    rw [Maps.has_del_other hne]
    refine ⟨(q2 u hu).1, fun j hj => ?_⟩
    rw [atKey_del_other hne]
    exact (q2 u hu).2 j hj
end Go.Rid
namespace Go.Proofs.YtnheefnlcnkefaaGreatDoor
open Go.RowKit Go.Rid
theorem ArenaW.rel {B : Nat} {O : Nat → Prop} {w w' : World} {g gm gn gf gp cn cf cp : Nat} {bm n : Nat} {ne fe : List (List Value)} {A : ArenaV} (h : ArenaW B O w g gm (.slice (some ⟨gn, 0, none⟩) A.nodes.length cn) (.slice (some ⟨gf, 0, none⟩) A.nodes.length cf) (.slice (some ⟨gp, 0, none⟩) A.nodes.length cp) bm ne fe A) (hn : n ≤ A.nodes.length) (k : Keeps (fun b => b = bm ∨ b = g) w w')
    (row : RowIs w' g 94 [.slice (some ⟨gn, 0, none⟩) n n, .slice (some ⟨gf, 0, none⟩) n n, .slice (some ⟨gp, 0, none⟩) n n, .map (some bm), .pointer (some ⟨gm, 0, none⟩)]) (map : KMap Tryz.prog 9 3 w' bm A.cnt (keyUp A.nodes n (A.nodes.length - n))) :
    ArenaW B O w' g gm (.slice (some ⟨gn, 0, none⟩) n n) (.slice (some ⟨gf, 0, none⟩) n n) (.slice (some ⟨gp, 0, none⟩) n n) bm (ne.take n) (fe.take n) (relA A n) := by
  have l1 := h.nl
  have l2 := h.fl
  have l3 := h.fl2
  have l4 := h.pl
  have hr : (relA A n).nodes.length = n := by simp [relA]; omega
  have x1 : gn ≠ bm ∧ gf ≠ bm ∧ gp ≠ bm := ⟨fun e => h.nodes.neMap h.map (congrArg some e), fun e => h.free.neMap h.map (congrArg some e), fun e => h.plain.neMap h.map (congrArg some e)⟩
  have y1 : ∀ {E : TypeId} {sz : Nat} {b c : Nat} {els : List (List Value)}, OwnEls w B E sz (.slice (some ⟨b, 0, none⟩) A.nodes.length c) els → E ≠ 94 → b ≠ g := fun {E sz b c els} ho hE e => by
    rcases ho.form with ⟨q, _⟩ | ⟨g', cap, rest, _, q1, _, _, _, q2⟩
    · cases q
    · have e2 : b = g' := by simpa [Value.ownBlock] using q2
      subst e2
      subst e
      have q3 := q1.out.symm.trans h.row.out
      simp only [Option.some.injEq, Obj.cells.injEq] at q3
      exact hE q3.2.1
  have z1 := y1 h.nodes (by decide)
  have z2 := y1 h.free (by decide)
  have z3 := y1 h.plain (by decide)
  have kn : ∀ b, (b ≠ bm ∧ b ≠ g) → ¬ (b = bm ∨ b = g) := fun b hb hx => hx.elim hb.1 hb.2
  refine ⟨row, (h.nodes.cap l1 hn).keep k fun b hb => ?_, (h.free.cap l2 hn).keep k fun b hb => ?_, ?_, ?_, by simp [relA]; omega, by simp [relA]; omega, by simp [relA]; omega, by simp [relA]; omega, fun i hi => ?_, fun i hi => ?_, h.mine, fun b hb => ⟨(h.inO b hb).1, Nat.lt_of_lt_of_le (h.inO b hb).2 k.size⟩, h.notM⟩
  · have e : gn = b := by simpa [Value.ownBlock] using hb
    exact kn b ⟨fun q => x1.1 (e.trans q), fun q => z1 (e.trans q)⟩
  · have e : gf = b := by simpa [Value.ownBlock] using hb
    exact kn b ⟨fun q => x1.2.1 (e.trans q), fun q => z2 (e.trans q)⟩
  · have h1 := h.plain.cap (by rw [length_cells1, l4]) hn
    rw [show cells1 (relA A n).plain = (cells1 A.plain).take n by simp [cells1, relA, List.map_take]]
    exact h1.keep k fun b hb => by
      have e : gp = b := by simpa [Value.ownBlock] using hb
      exact kn b ⟨fun q => x1.2.2 (e.trans q), fun q => z3 (e.trans q)⟩
  · rw [show keyF (relA A n).nodes = keyUp A.nodes n (A.nodes.length - n) from keyF_take hn]
    exact map
  · rw [hr] at hi
    rw [getD_take _ _ _ _ hi, show (relA A n).nodes = A.nodes.take n from rfl, getD_take _ _ _ _ hi]
    exact (h.nr i (by omega)).move k (fun b _ hb => .inl (by rcases hb with hb | hb; exact .inr (.inr (.inr (.inr hb))); exact .inl hb)) fun _ _ => id
  · rw [hr] at hi
    rw [getD_take _ _ _ _ hi, show (relA A n).free = A.free.take n from rfl, getD_take _ _ _ _ hi]
    exact (h.fr i (by omega)).move k (fun b _ hb => .inl (by rcases hb with hb | hb; exact .inr (.inr (.inr (.inr hb))); exact .inl hb)) fun _ _ => id
set_option maxHeartbeats 4000000 in
set_option maxRecDepth 100000 in
theorem arelease_any {B0 : Nat} {O : Nat → Prop} {w : World} {g gm : Nat} {A : ArenaV} {n : Nat} (hA : ArenaIn O w g gm A) (hT : Tab B0 w) (hB : ∀ b, O b → B0 ≤ b) (hOn : OnceA A) (hok : ∀ i, 2 ≤ i → i < A.nodes.length → OkNode (A.nodes.getD i zeroN) ∧ (keyTxt (A.nodes.getD i zeroN)).length ≤ maxLen) (h2 : 2 ≤ n) (hn : n ≤ A.nodes.length) (hl : A.nodes.length ≤ 1000000) :
    Calls Tryz.prog 20 #[.pointer (some ⟨g, 0, none⟩), .int .i64 n] w fun e w' => e = .returned (.int .i64 0) ∧ ArenaIn O w' g gm (relA A n) ∧ Keeps O w w' := by
  obtain ⟨B, vn, vf, vp, bm, ne, fe, hW⟩ := hA
  obtain ⟨gn, gf, gp, cn, cf, cp, rfl, rfl, rfl, l1, l2, l3, m1, m2, m3, b1, b2, b3, cN, cF, cP⟩ := hW.lists (by omega)
  have a0 : w.cell? ⟨g, 0, none⟩ = some (.slice (some ⟨gn, 0, none⟩) A.nodes.length cn) := hW.row.cell 0
  have hg := hW.row.lt
  obtain ⟨L, hL⟩ : ∃ L, L = A.nodes.length := ⟨_, rfl⟩
  have HA := Lib.hid (aI hW (aI hT (aI hB (aI hOn (aI hok (aI cN hL))))))
  rw [← hL] at a0 hn hl l1 l2 l3
  clear hW hT hB hOn hok cN cF cP hL
  have e1 : decide ((n : Int) < 2) = false := by simp; omega
  have e2 : decide ((n : Int) > (L : Int)) = false := by simp; omega
  have f1 : n ≤ cn := by omega
  have f2 : ¬ L < n := by omega
  go_enter Tryz.func20, Tryz.ntmps20
  go_upto_region 3 with (fail)
  go_cut [27, 28, 29] (fun v27 v28 v29 wx => ∃ o : Nat, v27 = .slice (some ⟨gn, o, none⟩) (L - n) (cn - n) ∧ (L - n = 0 ∨ o = n * 8) ∧ v28 = .int .i64 ((L - n : Nat) : Int) ∧ v29 = .int .i64 0 ∧ w = wx)
  case first =>
    have hcc : cn - n = 0 ∨ ¬ cn - n = 0 := by omega
    rcases hcc with f3 | f3
    · go_wp2_with fail
      go_meet
      exact ⟨0, by rw [f3], .inl (by omega), rfl, rfl, rfl⟩
    · go_wp2_with fail
      go_meet
      exact ⟨n * 8, rfl, .inr rfl, rfl, rfl, rfl⟩
  case rest =>
    rename World => wx
    obtain ⟨o, rfl, ho, rfl, rfl, rfl⟩ := hcut
    have HO := Lib.hid ho
    clear ho
    go_wp2_with fail
    go_loopw [29] (fun iv wr => ∃ j : Nat, j ≤ L - n ∧ iv = .int .i64 (j : Int) ∧ KMap Tryz.prog 9 3 wr bm A.cnt (keyUp A.nodes n j) ∧ Keeps (Rid.One bm) w wr) (fun iv _ => (L - n) - (intOf iv).toNat)
    case atStart => exact ⟨0, Nat.zero_le _, rfl, by rw [keyUp_zero]; exact HA.out.1.map, Keeps.refl _ _⟩
    case round =>
      obtain ⟨j, hj, rfl, hmap, hkr⟩ := hrel
      have hbr := HA.out.1.row.keep hkr (fun (e : g = bm) => HA.out.1.row.neMap HA.out.1.map e)
      by_cases hlt : j < L - n
      · have hoo : o = n * 8 := by have := HO.out; omega
        subst hoo
        have hi : n + j < A.nodes.length := by have := HA.out.2.2.2.2.2.2; omega
        obtain ⟨gd, ad, nd, cd, ap, np, cp', gk, ak, nk, ck, aq, nq, cq, ene, hN⟩ := HA.out.1.nr (n + j) hi
        have hne : ¬ Rid.One bm gn := fun (e : gn = bm) => HA.out.1.nodes.neMap HA.out.1.map (congrArg some e)
        have cc : ∀ t v, t < 8 → (ne.getD (n + j) []).getD t undef = v → wr.cell? ⟨gn, n * 8 + j * 8 + t, none⟩ = some v := fun t v ht hv => hkr.cellE b1 hne (by rw [show n * 8 + j * 8 + t = (n + j) * 8 + t by omega, HA.out.2.2.2.2.2.1 (n + j) hi t ht, hv])
        rw [ene] at cc
        obtain ⟨N, hNe⟩ : ∃ N, N = A.nodes.getD (n + j) zeroN := ⟨_, rfl⟩
        have hokN := HA.out.2.2.2.2.1 (n + j) (by omega) hi
        have hup := keyUp_succ HA.out.2.2.2.1 h2 hi
        rw [← hNe] at hN cc hokN hup
        have c0 := cc 0 (.int .i64 N.kind) (by omega) rfl
        have c1 := cc 1 (.bool gd) (by omega) rfl
        have c2 := cc 2 (.slice ad nd cd) (by omega) rfl
        have c3 := cc 3 (.slice ap np cp') (by omega) rfl
        have c4 := cc 4 (.bool gk) (by omega) rfl
        have c5 := cc 5 (.slice ak nk ck) (by omega) rfl
        have c6 := cc 6 (.int .i64 N.var) (by omega) rfl
        have c7 := cc 7 (.slice aq nq cq) (by omega) rfl
        simp only [Nat.add_zero] at c0
        have j0 : (0 : Int) ≤ (j : Int) := by omega
        have j1 : (j : Int) < ((L - n : Nat) : Int) := by omega
        have gnr := Nat.lt_of_lt_of_le b1 hkr.size
        have hNr : NodeAt Nil wr gd ad nd cd ap np cp' gk ak nk ck aq nq cq N := hN.move hkr (fun b _ (e : b = bm) => .inl (.inr (.inr (.inr (.inr e))))) fun _ _ h => h.elim
        have hTr := HA.out.2.1.keep hkr fun b (e : b = bm) => by rw [e]; exact HA.out.2.2.1 bm (HA.out.1.mine bm (.inr (.inr (.inr (.inr rfl)))))
        have HR := Lib.hid (aI hmap (aI hkr (aI hbr (aI hNr (aI hTr (aI hokN hup))))))
        have rp := RowIs.alloc (w := wr) (E := 44) (xs := [.int .i64 N.kind, .bool gd, .slice ad nd cd, .slice ap np cp', .bool gk, .slice ak nk ck, .int .i64 N.var, .slice aq nq cq])
        change RowIs (wr.alloc (.cells #[.int .i64 N.kind, .bool gd, .slice ad nd cd, .slice ap np cp', .bool gk, .slice ak nk ck, .int .i64 N.var, .slice aq nq cq] 44)) _ _ _ at rp
        have hkb : Keeps Nil wr (wr.alloc (.cells #[.int .i64 N.kind, .bool gd, .slice ad nd cd, .slice ap np cp', .bool gk, .slice ak nk ck, .int .i64 N.var, .slice aq nq cq] 44)) := kOf
        clear hmap hkr hbr hNr hTr hokN hup hN cc hne ene hNe
        go_upto_region 6 with (fail)
        generalize wr.alloc (.cells #[.int .i64 N.kind, .bool gd, .slice ad nd cd, .slice ap np cp', .bool gk, .slice ak nk ck, .int .i64 N.var, .slice aq nq cq] 44) = wb at *
        have HB := Lib.hid (aI rp hkb)
        clear rp hkb c0 c1 c2 c3 c4 c5 c6 c7
        refine wp_region_factsT [6] [33, 34, 35, 36, 37, 38, 1044] [33, 34, 35, 36, 37, 38] [Un (LitV ?v1_0), Un (LitV ?v1_1), Un (LitV ?v1_2), Un (LitV ?v1_3), Un (LitV ?v1_4), Un (LitV (.string (strOf (keyTxt N)))), nothing] (by kernel_rfl) (by kernel_rfl) ?rst1 ?rsb1 ?rfn1
        case' rst1 =>
          show FactStepsT _ _ _ _ _ _ _ _ _ 7
          refine (FactStepsT.skip (n := 6) (by decide) (FactStepsT.succ (n := 5) rfl ?r1_5 (FactStepsT.succ (n := 4) rfl ?r1_4 (FactStepsT.succ (n := 3) rfl ?r1_3 (FactStepsT.succ (n := 2) rfl ?r1_2 (FactStepsT.succ (n := 1) rfl ?r1_1 (FactStepsT.succ (n := 0) rfl ?r1_0 FactStepsT.zero)))))))
        case' r1_0 | r1_4 =>
          intro us wj hk hp K hK
          try simp only [putAll, Act.put, sL] at hK ⊢
          obtain ⟨d0, d1, d2, d3, d4, d5, d6, d7⟩ := (HB.out.1.keep hk id).cells8
          have a3 : wj.cell? ⟨g, 3, none⟩ = some (.map (some bm)) := ((HR.out.2.2.1.keep HB.out.2 id).keep hk id).cell 3
          go_simp
          refine hK.out _ _ ?_ ?_
          · exact Keeps.refl _ _
          · exact rfl
        case' r1_1 =>
          intro us wj hk hp K hK
          try simp only [putAll, Act.put, sL] at hK ⊢
          obtain ⟨d0, d1, d2, d3, d4, d5, d6, d7⟩ := (HB.out.1.keep hk id).cells8
          have a3 : wj.cell? ⟨g, 3, none⟩ = some (.map (some bm)) := ((HR.out.2.2.1.keep HB.out.2 id).keep hk id).cell 3
          have e0 : us 33 = _ := hp 0 (by kernel_rfl)
          rw [e0] at hK ⊢
          go_simp
          refine hK.out _ _ ?_ ?_
          · exact Keeps.refl _ _
          · exact rfl
        case' r1_2 =>
          intro us wj hk hp K hK
          try simp only [putAll, Act.put, sL] at hK ⊢
          obtain ⟨d0, d1, d2, d3, d4, d5, d6, d7⟩ := (HB.out.1.keep hk id).cells8
          have a3 : wj.cell? ⟨g, 3, none⟩ = some (.map (some bm)) := ((HR.out.2.2.1.keep HB.out.2 id).keep hk id).cell 3
          have e1 : us 34 = _ := hp 1 (by kernel_rfl)
          rw [e1] at hK ⊢
          go_simp
          refine hK.out _ _ ?_ ?_
          · exact Keeps.refl _ _
          · exact rfl
        case' r1_3 =>
          intro us wj hk hp K hK
          try simp only [putAll, Act.put, sL] at hK ⊢
          obtain ⟨d0, d1, d2, d3, d4, d5, d6, d7⟩ := (HB.out.1.keep hk id).cells8
          have a3 : wj.cell? ⟨g, 3, none⟩ = some (.map (some bm)) := ((HR.out.2.2.1.keep HB.out.2 id).keep hk id).cell 3
          have e2 : us 35 = _ := hp 2 (by kernel_rfl)
          rw [e2] at hK ⊢
          go_simp
          refine hK.out _ _ ?_ ?_
          · exact Keeps.refl _ _
          · exact rfl
        case' r1_5 =>
          intro us wj hk hp K hK
          try simp only [putAll, Act.put, sL] at hK ⊢
          obtain ⟨d0, d1, d2, d3, d4, d5, d6, d7⟩ := (HB.out.1.keep hk id).cells8
          have a3 : wj.cell? ⟨g, 3, none⟩ = some (.map (some bm)) := ((HR.out.2.2.1.keep HB.out.2 id).keep hk id).cell 3
          have e4 : us 37 = _ := hp 4 (by kernel_rfl)
          rw [e4] at hK ⊢
          go_simp
          refine (key_any (HR.out.2.2.2.2.1.keepNil (HB.out.2.trans hk)) (HR.out.2.2.2.1.move (M2 := Nil) (HB.out.2.trans hk) (fun _ _ h => h) fun _ _ h => h) HR.out.2.2.2.2.2.1.1).mono ?_
          rintro e wk ⟨rfl, hk2⟩
          refine hK.out _ _ ?_ ?_
          · exact hk2
          · exact rfl
        case' rsb1 => exact Stables.cons (Stables.cons (Stables.cons (Stables.cons (Stables.cons (Stables.cons (Stables.cons (Stables.nil)))))))
        case' rfn1 =>
        intro us wz hkz hf
        simp only [putAll, Act.put, sL]
        have e0 : us 33 = _ := hf 0 (by decide) (by decide)
        have e1 : us 34 = _ := hf 1 (by decide) (by decide)
        have e2 : us 35 = _ := hf 2 (by decide) (by decide)
        have e3 : us 36 = _ := hf 3 (by decide) (by decide)
        have e4 : us 37 = _ := hf 4 (by decide) (by decide)
        have e5 : us 38 = _ := hf 5 (by decide) (by decide)
        clear hf
        simp only [e0, e1, e2, e3, e4, e5]
        clear e0 e1 e2 e3 e4 e5 us
        refine wpTill_ready (rs := [6]) (by kernel_rfl) (by simp) ?_
        refine AllTill.cons rfl (fun K hK => ?_) AllTill.nil
        rw [if_pos (by rfl)]
        refine oper_kmap_del (.tmp 36) (.tmp 38) 92 9 rfl 3 Tryz.underlying9 Tryz.underlying92 bm A.cnt (keyUp A.nodes n j) rfl (HR.out.1.keep (HB.out.2.trans hkz) id) (keyTxt N) rfl (byt_keyTxt N) HR.out.2.2.2.2.2.1.2 (fun w9 hm9 hk9 => ?_)
        refine hK.out _ _ (fun _ => trivial) ?_
        clear hK K
        try simp only [Act.put, sL]
        refine wpTill_done (by kernel_rfl) ?_ _
        skip
        have HF := Lib.hid (aI hm9 (aI hk9 hkz))
        clear hm9 hk9 hkz
        go_wp2_with fail
        go_roundw
        case rel => exact ⟨j + 1, by omega, by go_num, by rw [HR.out.2.2.2.2.2.2]; exact HF.out.1, (HR.out.2.1.transNil (HB.out.2.trans HF.out.2.2)).trans HF.out.2.1⟩
        case measure => simp [intOf]; omega
      · obtain rfl : j = L - n := by omega
        have hnn : ¬ n = 0 := by omega
        have f4 : n ≤ cf := by omega
        have f5 : n ≤ cp := by omega
        have hbL : RowIs wr g 94 [.slice (some ⟨gn, 0, none⟩) L cn, .slice (some ⟨gf, 0, none⟩) L cf, .slice (some ⟨gp, 0, none⟩) L cp, .map (some bm), .pointer (some ⟨gm, 0, none⟩)] := by rw [HA.out.2.2.2.2.2.2]; exact hbr
        have HM := Lib.hid (aI hmap (aI hkr hbL))
        clear hmap hkr hbr hbL
        go_upto_region 8 with (fail)
        obtain ⟨J, hJ⟩ : ∃ J : RC, J = ⟨g, L, n, gn, gf, gp, cn, cf, cp, .map (some bm), .pointer (some ⟨gm, 0, none⟩)⟩ := ⟨_, rfl⟩
        obtain ⟨JF, hJF⟩ : ∃ JF, JF = J.F := ⟨_, rfl⟩
        obtain ⟨JP, hJP⟩ : ∃ JP, JP = J.Pre := ⟨_, rfl⟩
        obtain ⟨JR, hJR⟩ : ∃ JR, JR = J.R := ⟨_, rfl⟩
        have hpre := RC.pre (RC.mk g L n gn gf gp cn cf cp (.map (some bm)) (.pointer (some ⟨gm, 0, none⟩))) (w := wr.drew) (HM.out.2.2.keep (Keeps.refl Nil wr).drew id)
        have HP := Lib.hid hpre
        clear hpre
        refine wp_region_order [40, 41, 42, 43, 44, 45, 46, 47, 48, 49, 50, 51, 52, 53, 54, 55, 56, 57, 58, 59, 60, 61, 62, 63, 64, 65, 200, 66, 67, 201, 68, 69, 202] JF (fun b => b = g) JP JR (by kernel_rfl) (by kernel_rfl) (by rw [hJF, hJR]; exact J.hF _) (by rw [hJP, hJR]; exact J.hP _ (by kernel_rfl) (by kernel_rfl) (by kernel_rfl)) (by rw [hJP, hJ]; exact HP.out) ?osteps ?ofin
        case osteps =>
          show OrderSteps _ _ _ _ _ _ _ _ _ _ 33
          clear HA HO HM HP
          refine OrderSteps.byG (by intro us; simp only [putAll, Act.put, sL]; exact rfl) ?_
          refine OrderStepsG.succ (n := 32) rfl ?os32 ?ot32
          case os32 =>
            intro us wj hk hpr hp K hK
            rw [if_pos (by rfl)]
            rw [hJP] at hpr
            rw [hJF, hJR] at hK
            rw [hJF] at hp
            subst hJ
            have e31 : us 69 = .pointer (some ⟨g, 2, none⟩) := hp 31 (by kernel_rfl)
            rw [e31] at hK ⊢
            have e0 : us 63 = .slice (some ⟨gp, 0, none⟩) n n := hp 23 (by kernel_rfl)
            rw [e0] at hK ⊢
            obtain ⟨x, y, z, hr⟩ := hpr
            have hr := (show RowIs wj g 94 [x, y, z, .map (some bm), .pointer (some ⟨gm, 0, none⟩)] from hr)
            have ff := hr.frozen 2
            have cc := hr.cell 2
            go_simp
            refine hK.out undef _ ?_ ?_ ?_
            · exact ⟨⟨_, _, _, hr⟩, _, rfl⟩
            · exact hk.setCell (.inl rfl) _
            · exact ⟨x, y, hr.set 2 _⟩
          refine OrderStepsG.succ (n := 31) rfl ?os31 ?ot31
          case os31 =>
            intro us wj hk hpr hp K hK
            rw [if_pos (by rfl)]
            rw [hJP] at hpr
            rw [hJF, hJR] at hK
            rw [hJF] at hp
            subst hJ
            have e30 : us 68 = .pointer (some ⟨g, 0, none⟩) := hp 30 (by kernel_rfl)
            rw [e30] at hK ⊢
            go_simp
            refine hK.out _ _ ?_ ?_ ?_
            · exact rfl
            · exact hk
            · exact rfl
          refine OrderStepsG.succ (n := 30) rfl ?os30 ?ot30
          case os30 =>
            intro us wj hk hpr hp K hK
            rw [if_pos (by rfl)]
            rw [hJP] at hpr
            rw [hJF, hJR] at hK
            rw [hJF] at hp
            subst hJ
            have e2 : us 42 = .pointer (some ⟨g, 0, none⟩) := hp 2 (by kernel_rfl)
            rw [e2] at hK ⊢
            go_simp
            refine hK.out _ _ ?_ ?_ ?_
            · exact rfl
            · exact hk
            · exact rfl
          refine OrderStepsG.succ (n := 29) rfl ?os29 ?ot29
          case os29 =>
            intro us wj hk hpr hp K hK
            rw [if_pos (by rfl)]
            rw [hJP] at hpr
            rw [hJF, hJR] at hK
            rw [hJF] at hp
            subst hJ
            have e28 : us 67 = .pointer (some ⟨g, 1, none⟩) := hp 28 (by kernel_rfl)
            rw [e28] at hK ⊢
            have e0 : us 56 = .slice (some ⟨gf, 0, none⟩) n n := hp 16 (by kernel_rfl)
            rw [e0] at hK ⊢
            obtain ⟨x, y, z, hr⟩ := hpr
            have hr := (show RowIs wj g 94 [x, y, z, .map (some bm), .pointer (some ⟨gm, 0, none⟩)] from hr)
            have ff := hr.frozen 1
            have cc := hr.cell 1
            go_simp
            refine hK.out undef _ ?_ ?_ ?_
            · exact ⟨⟨_, _, _, hr⟩, _, rfl⟩
            · exact hk.setCell (.inl rfl) _
            · exact ⟨x, z, hr.set 1 _⟩
          refine OrderStepsG.succ (n := 28) rfl ?os28 ?ot28
          case os28 =>
            intro us wj hk hpr hp K hK
            rw [if_pos (by rfl)]
            rw [hJP] at hpr
            rw [hJF, hJR] at hK
            rw [hJF] at hp
            subst hJ
            have e27 : us 66 = .pointer (some ⟨g, 0, none⟩) := hp 27 (by kernel_rfl)
            rw [e27] at hK ⊢
            go_simp
            refine hK.out _ _ ?_ ?_ ?_
            · exact rfl
            · exact hk
            · exact rfl
          refine OrderStepsG.succ (n := 27) rfl ?os27 ?ot27
          case os27 =>
            intro us wj hk hpr hp K hK
            rw [if_pos (by rfl)]
            rw [hJP] at hpr
            rw [hJF, hJR] at hK
            rw [hJF] at hp
            subst hJ
            have e1 : us 41 = .pointer (some ⟨g, 0, none⟩) := hp 1 (by kernel_rfl)
            rw [e1] at hK ⊢
            go_simp
            refine hK.out _ _ ?_ ?_ ?_
            · exact rfl
            · exact hk
            · exact rfl
          refine OrderStepsG.succ (n := 26) rfl ?os26 ?ot26
          case os26 =>
            intro us wj hk hpr hp K hK
            rw [if_pos (by rfl)]
            rw [hJP] at hpr
            rw [hJF, hJR] at hK
            rw [hJF] at hp
            subst hJ
            have e25 : us 65 = .pointer (some ⟨g, 0, none⟩) := hp 25 (by kernel_rfl)
            rw [e25] at hK ⊢
            have e0 : us 49 = .slice (some ⟨gn, 0, none⟩) n n := hp 9 (by kernel_rfl)
            rw [e0] at hK ⊢
            obtain ⟨x, y, z, hr⟩ := hpr
            have hr := (show RowIs wj g 94 [x, y, z, .map (some bm), .pointer (some ⟨gm, 0, none⟩)] from hr)
            have ff := hr.frozen 0
            have cc := hr.cell 0
            go_simp
            refine hK.out undef _ ?_ ?_ ?_
            · exact ⟨⟨_, _, _, hr⟩, _, rfl⟩
            · exact hk.setCell (.inl rfl) _
            · exact ⟨y, z, hr.set 0 _⟩
          refine OrderStepsG.succ (n := 25) rfl ?os25 ?ot25
          case os25 =>
            intro us wj hk hpr hp K hK
            rw [if_pos (by rfl)]
            rw [hJP] at hpr
            rw [hJF, hJR] at hK
            rw [hJF] at hp
            subst hJ
            have e24 : us 64 = .pointer (some ⟨g, 0, none⟩) := hp 24 (by kernel_rfl)
            rw [e24] at hK ⊢
            go_simp
            refine hK.out _ _ ?_ ?_ ?_
            · exact rfl
            · exact hk
            · exact rfl
          refine OrderStepsG.succ (n := 24) rfl ?os24 ?ot24
          case os24 =>
            intro us wj hk hpr hp K hK
            rw [if_pos (by rfl)]
            rw [hJP] at hpr
            rw [hJF, hJR] at hK
            rw [hJF] at hp
            subst hJ
            have e0 : us 40 = .pointer (some ⟨g, 0, none⟩) := hp 0 (by kernel_rfl)
            rw [e0] at hK ⊢
            go_simp
            refine hK.out _ _ ?_ ?_ ?_
            · exact rfl
            · exact hk
            · exact rfl
          refine OrderStepsG.succ (n := 23) rfl ?os23 ?ot23
          case os23 =>
            intro us wj hk hpr hp K hK
            rw [if_pos (by rfl)]
            rw [hJP] at hpr
            rw [hJF, hJR] at hK
            rw [hJF] at hp
            subst hJ
            have e1 : us 60 = .slice (some ⟨gp, 0, none⟩) L cp := hp 20 (by kernel_rfl)
            have e2 : us 61 = .int .i64 n := hp 21 (by kernel_rfl)
            have e3 : us 62 = .int .i64 n := hp 22 (by kernel_rfl)
            rw [e1, e2, e3] at hK ⊢
            go_simp
            refine hK.out _ _ ?_ ?_ ?_
            · exact rfl
            · exact hk
            · exact rfl
          refine OrderStepsG.succ (n := 22) rfl ?os22 ?ot22
          case os22 =>
            intro us wj hk hpr hp K hK
            rw [if_pos (by rfl)]
            rw [hJP] at hpr
            rw [hJF, hJR] at hK
            rw [hJF] at hp
            subst hJ
            go_simp
            refine hK.out _ _ ?_ ?_ ?_
            · exact rfl
            · exact hk
            · exact rfl
          refine OrderStepsG.succ (n := 21) rfl ?os21 ?ot21
          case os21 =>
            intro us wj hk hpr hp K hK
            rw [if_pos (by rfl)]
            rw [hJP] at hpr
            rw [hJF, hJR] at hK
            rw [hJF] at hp
            subst hJ
            go_simp
            refine hK.out _ _ ?_ ?_ ?_
            · exact rfl
            · exact hk
            · exact rfl
          refine OrderStepsG.succ (n := 20) rfl ?os20 ?ot20
          case os20 =>
            intro us wj hk hpr hp K hK
            rw [if_pos (by rfl)]
            rw [hJP] at hpr
            rw [hJF, hJR] at hK
            rw [hJF] at hp
            subst hJ
            have e19 : us 59 = .pointer (some ⟨g, 2, none⟩) := hp 19 (by kernel_rfl)
            rw [e19] at hK ⊢
            obtain ⟨y, z, hr⟩ := hpr
            have c20 := RowIs.cell hr 2
            go_simp
            refine hK.out _ _ ?_ ?_ ?_
            · exact rfl
            · exact hk
            · exact rfl
          refine OrderStepsG.succ (n := 19) rfl ?os19 ?ot19
          case os19 =>
            intro us wj hk hpr hp K hK
            rw [if_pos (by rfl)]
            rw [hJP] at hpr
            rw [hJF, hJR] at hK
            rw [hJF] at hp
            subst hJ
            have e18 : us 58 = .pointer (some ⟨g, 0, none⟩) := hp 18 (by kernel_rfl)
            rw [e18] at hK ⊢
            go_simp
            refine hK.out _ _ ?_ ?_ ?_
            · exact rfl
            · exact hk
            · exact rfl
          refine OrderStepsG.succ (n := 18) rfl ?os18 ?ot18
          case os18 =>
            intro us wj hk hpr hp K hK
            rw [if_pos (by rfl)]
            rw [hJP] at hpr
            rw [hJF, hJR] at hK
            rw [hJF] at hp
            subst hJ
            have e17 : us 57 = .pointer (some ⟨g, 0, none⟩) := hp 17 (by kernel_rfl)
            rw [e17] at hK ⊢
            go_simp
            refine hK.out _ _ ?_ ?_ ?_
            · exact rfl
            · exact hk
            · exact rfl
          refine OrderStepsG.succ (n := 17) rfl ?os17 ?ot17
          case os17 =>
            intro us wj hk hpr hp K hK
            rw [if_pos (by rfl)]
            rw [hJP] at hpr
            rw [hJF, hJR] at hK
            rw [hJF] at hp
            subst hJ
            go_simp
            refine hK.out _ _ ?_ ?_ ?_
            · exact rfl
            · exact hk
            · exact rfl
          refine OrderStepsG.succ (n := 16) rfl ?os16 ?ot16
          case os16 =>
            intro us wj hk hpr hp K hK
            rw [if_pos (by rfl)]
            rw [hJP] at hpr
            rw [hJF, hJR] at hK
            rw [hJF] at hp
            subst hJ
            have e1 : us 53 = .slice (some ⟨gf, 0, none⟩) L cf := hp 13 (by kernel_rfl)
            have e2 : us 54 = .int .i64 n := hp 14 (by kernel_rfl)
            have e3 : us 55 = .int .i64 n := hp 15 (by kernel_rfl)
            rw [e1, e2, e3] at hK ⊢
            go_simp
            refine hK.out _ _ ?_ ?_ ?_
            · exact rfl
            · exact hk
            · exact rfl
          refine OrderStepsG.succ (n := 15) rfl ?os15 ?ot15
          case os15 =>
            intro us wj hk hpr hp K hK
            rw [if_pos (by rfl)]
            rw [hJP] at hpr
            rw [hJF, hJR] at hK
            rw [hJF] at hp
            subst hJ
            go_simp
            refine hK.out _ _ ?_ ?_ ?_
            · exact rfl
            · exact hk
            · exact rfl
          refine OrderStepsG.succ (n := 14) rfl ?os14 ?ot14
          case os14 =>
            intro us wj hk hpr hp K hK
            rw [if_pos (by rfl)]
            rw [hJP] at hpr
            rw [hJF, hJR] at hK
            rw [hJF] at hp
            subst hJ
            go_simp
            refine hK.out _ _ ?_ ?_ ?_
            · exact rfl
            · exact hk
            · exact rfl
          refine OrderStepsG.succ (n := 13) rfl ?os13 ?ot13
          case os13 =>
            intro us wj hk hpr hp K hK
            rw [if_pos (by rfl)]
            rw [hJP] at hpr
            rw [hJF, hJR] at hK
            rw [hJF] at hp
            subst hJ
            have e12 : us 52 = .pointer (some ⟨g, 1, none⟩) := hp 12 (by kernel_rfl)
            rw [e12] at hK ⊢
            obtain ⟨y, z, hr⟩ := hpr
            have c13 := RowIs.cell hr 1
            go_simp
            refine hK.out _ _ ?_ ?_ ?_
            · exact rfl
            · exact hk
            · exact rfl
          refine OrderStepsG.succ (n := 12) rfl ?os12 ?ot12
          case os12 =>
            intro us wj hk hpr hp K hK
            rw [if_pos (by rfl)]
            rw [hJP] at hpr
            rw [hJF, hJR] at hK
            rw [hJF] at hp
            subst hJ
            have e11 : us 51 = .pointer (some ⟨g, 0, none⟩) := hp 11 (by kernel_rfl)
            rw [e11] at hK ⊢
            go_simp
            refine hK.out _ _ ?_ ?_ ?_
            · exact rfl
            · exact hk
            · exact rfl
          refine OrderStepsG.succ (n := 11) rfl ?os11 ?ot11
          case os11 =>
            intro us wj hk hpr hp K hK
            rw [if_pos (by rfl)]
            rw [hJP] at hpr
            rw [hJF, hJR] at hK
            rw [hJF] at hp
            subst hJ
            have e10 : us 50 = .pointer (some ⟨g, 0, none⟩) := hp 10 (by kernel_rfl)
            rw [e10] at hK ⊢
            go_simp
            refine hK.out _ _ ?_ ?_ ?_
            · exact rfl
            · exact hk
            · exact rfl
          refine OrderStepsG.succ (n := 10) rfl ?os10 ?ot10
          case os10 =>
            intro us wj hk hpr hp K hK
            rw [if_pos (by rfl)]
            rw [hJP] at hpr
            rw [hJF, hJR] at hK
            rw [hJF] at hp
            subst hJ
            go_simp
            refine hK.out _ _ ?_ ?_ ?_
            · exact rfl
            · exact hk
            · exact rfl
          refine OrderStepsG.succ (n := 9) rfl ?os9 ?ot9
          case os9 =>
            intro us wj hk hpr hp K hK
            rw [if_pos (by rfl)]
            rw [hJP] at hpr
            rw [hJF, hJR] at hK
            rw [hJF] at hp
            subst hJ
            have e1 : us 46 = .slice (some ⟨gn, 0, none⟩) L cn := hp 6 (by kernel_rfl)
            have e2 : us 47 = .int .i64 n := hp 7 (by kernel_rfl)
            have e3 : us 48 = .int .i64 n := hp 8 (by kernel_rfl)
            rw [e1, e2, e3] at hK ⊢
            go_simp
            refine hK.out _ _ ?_ ?_ ?_
            · exact rfl
            · exact hk
            · exact rfl
          refine OrderStepsG.succ (n := 8) rfl ?os8 ?ot8
          case os8 =>
            intro us wj hk hpr hp K hK
            rw [if_pos (by rfl)]
            rw [hJP] at hpr
            rw [hJF, hJR] at hK
            rw [hJF] at hp
            subst hJ
            go_simp
            refine hK.out _ _ ?_ ?_ ?_
            · exact rfl
            · exact hk
            · exact rfl
          refine OrderStepsG.succ (n := 7) rfl ?os7 ?ot7
          case os7 =>
            intro us wj hk hpr hp K hK
            rw [if_pos (by rfl)]
            rw [hJP] at hpr
            rw [hJF, hJR] at hK
            rw [hJF] at hp
            subst hJ
            go_simp
            refine hK.out _ _ ?_ ?_ ?_
            · exact rfl
            · exact hk
            · exact rfl
          refine OrderStepsG.succ (n := 6) rfl ?os6 ?ot6
          case os6 =>
            intro us wj hk hpr hp K hK
            rw [if_pos (by rfl)]
            rw [hJP] at hpr
            rw [hJF, hJR] at hK
            rw [hJF] at hp
            subst hJ
            have e5 : us 45 = .pointer (some ⟨g, 0, none⟩) := hp 5 (by kernel_rfl)
            rw [e5] at hK ⊢
            obtain ⟨y, z, hr⟩ := hpr
            have c6 := RowIs.cell hr 0
            go_simp
            refine hK.out _ _ ?_ ?_ ?_
            · exact rfl
            · exact hk
            · exact rfl
          refine OrderStepsG.succ (n := 5) rfl ?os5 ?ot5
          case os5 =>
            intro us wj hk hpr hp K hK
            rw [if_pos (by rfl)]
            rw [hJP] at hpr
            rw [hJF, hJR] at hK
            rw [hJF] at hp
            subst hJ
            have e4 : us 44 = .pointer (some ⟨g, 0, none⟩) := hp 4 (by kernel_rfl)
            rw [e4] at hK ⊢
            go_simp
            refine hK.out _ _ ?_ ?_ ?_
            · exact rfl
            · exact hk
            · exact rfl
          refine OrderStepsG.succ (n := 4) rfl ?os4 ?ot4
          case os4 =>
            intro us wj hk hpr hp K hK
            rw [if_pos (by rfl)]
            rw [hJP] at hpr
            rw [hJF, hJR] at hK
            rw [hJF] at hp
            subst hJ
            have e3 : us 43 = .pointer (some ⟨g, 0, none⟩) := hp 3 (by kernel_rfl)
            rw [e3] at hK ⊢
            go_simp
            refine hK.out _ _ ?_ ?_ ?_
            · exact rfl
            · exact hk
            · exact rfl
          refine OrderStepsG.succ (n := 3) rfl ?os3 ?ot3
          case os3 =>
            intro us wj hk hpr hp K hK
            rw [if_pos (by rfl)]
            rw [hJP] at hpr
            rw [hJF, hJR] at hK
            rw [hJF] at hp
            subst hJ
            go_simp
            refine hK.out _ _ ?_ ?_ ?_
            · exact rfl
            · exact hk
            · exact rfl
          refine OrderStepsG.succ (n := 2) rfl ?os2 ?ot2
          case os2 =>
            intro us wj hk hpr hp K hK
            rw [if_pos (by rfl)]
            rw [hJP] at hpr
            rw [hJF, hJR] at hK
            rw [hJF] at hp
            subst hJ
            go_simp
            refine hK.out _ _ ?_ ?_ ?_
            · exact rfl
            · exact hk
            · exact rfl
          refine OrderStepsG.succ (n := 1) rfl ?os1 ?ot1
          case os1 =>
            intro us wj hk hpr hp K hK
            rw [if_pos (by rfl)]
            rw [hJP] at hpr
            rw [hJF, hJR] at hK
            rw [hJF] at hp
            subst hJ
            go_simp
            refine hK.out _ _ ?_ ?_ ?_
            · exact rfl
            · exact hk
            · exact rfl
          refine OrderStepsG.succ (n := 0) rfl ?os0 ?ot0
          case os0 =>
            intro us wj hk hpr hp K hK
            rw [if_pos (by rfl)]
            rw [hJP] at hpr
            rw [hJF, hJR] at hK
            rw [hJF] at hp
            subst hJ
            go_simp
            refine hK.out _ _ ?_ ?_ ?_
            · exact rfl
            · exact hk
            · exact rfl
          exact OrderStepsG.zero
        case' ofin =>
          intro us w8 hk8 hf8
          simp only [putAll, Act.put, sL]
        rw [hJF, hJ] at hf8
        obtain ⟨y8, z8, r8⟩ := hf8 26 (by decide)
        obtain ⟨x9, z9, r9⟩ := hf8 29 (by decide)
        obtain ⟨x10, y10, r10⟩ := hf8 32 (by decide)
        clear hJF hJP hJR hJ hf8
        have q1 : y8 = .slice (some ⟨gf, 0, none⟩) n n := Option.some.inj ((r8.cell 1).symm.trans (r9.cell 1))
        have q2 : z8 = .slice (some ⟨gp, 0, none⟩) n n := Option.some.inj ((r8.cell 2).symm.trans (r10.cell 2))
        subst q1
        subst q2
        have hrow8 : RowIs w8 g 94 [.slice (some ⟨gn, 0, none⟩) n n, .slice (some ⟨gf, 0, none⟩) n n, .slice (some ⟨gp, 0, none⟩) n n, .map (some bm), .pointer (some ⟨gm, 0, none⟩)] := r8
        have H8 := Lib.hid (aI hrow8 hk8)
        clear r8 r9 r10 hrow8 hk8
        go_wp2_with fail
        go_ret
        have hA := HA.out.1
        have hnL := HA.out.2.2.2.2.2.2
        have kx : Keeps (fun b => b = bm ∨ b = g) w w8 := (HM.out.2.1.mono fun b (hb : b = bm) => .inl hb).trans (H8.out.2.mono fun b hb => .inr hb)
        refine ⟨rfl, ⟨B, _, _, _, bm, _, _, hA.rel (by omega) kx H8.out.1 ?_⟩, kx.mono fun b hb => ?_⟩
        · rw [← hnL]
          exact HM.out.1.keep H8.out.2 fun (hb : bm = g) => hA.row.neMap hA.map hb.symm
        · rcases hb with rfl | rfl
          · exact hA.mine _ (.inr (.inr (.inr (.inr rfl))))
          · exact hA.mine _ (.inl rfl)
end Go.Proofs.YtnheefnlcnkefaaGreatDoor
