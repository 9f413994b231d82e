/- What (*periods.Set).joined asks of its callees: a whole set as its memory lies; sets half joined. Conditions: what is given reads. -/
/- A set that is built up: its box, its two lists; what each operation of one step of (*periods.Set).joined yields and turns. No condition. -/
/- A set half joined, as its memory lies; append as one operation of a region that draws its order. No condition. -/
import Derived.Test.YtfkclbhddiidbaaGreatKPRowAt
import Derived.Test.YtfkclbhddiidbaaGreatKPRest
import Derived.Test.YtfkclbhddiidbaaGreatKPEqual
import Derived.Test.YtfkclbhddiidbaaGreatKRegions
namespace Go.Rid
open Go.RowKit
/-- A row of one element is a list of one's own. -/
theorem OwnEls.ofRow1 {w : World} {base g : Nat} {E : TypeId} {v : Value} (h : RowIs w g E [v]) (hb : base ≤ g) : OwnEls w base E 1 (.slice (some ⟨g, 0, none⟩) 1 1) [[v]] :=
  ⟨⟨rfl, .inr ⟨g, 1, #[v], rfl, hb, h, Nat.le_refl _, by decide, rfl, rfl⟩⟩, by simp⟩
theorem rows111 (w : World) (E1 E2 E3 : TypeId) (u v x : Value) : RowIs (((w.alloc (.cells #[u] E1)).alloc (.cells #[v] E2)).alloc (.cells #[x] E3)) w.heap.size E1 [u] ∧ RowIs (((w.alloc (.cells #[u] E1)).alloc (.cells #[v] E2)).alloc (.cells #[x] E3)) (w.heap.size + 1) E2 [v] ∧ RowIs (((w.alloc (.cells #[u] E1)).alloc (.cells #[v] E2)).alloc (.cells #[x] E3)) (w.heap.size + 1 + 1) E3 [x] ∧ Keeps Nil w (((w.alloc (.cells #[u] E1)).alloc (.cells #[v] E2)).alloc (.cells #[x] E3)) := by
  refine ⟨((RowIs.alloc (w := w) (E := E1) (xs := [u])).keep ((Keeps.refl Nil _).alloc _) id).keep ((Keeps.refl Nil _).alloc _) id, ?_, ?_, (((Keeps.refl Nil w).alloc _).alloc _).alloc _⟩
  · have := (RowIs.alloc (w := w.alloc (.cells #[u] E1)) (E := E2) (xs := [v])).keep ((Keeps.refl Nil _).alloc (.cells #[x] E3)) id
    simpa using this
  · have := RowIs.alloc (w := (w.alloc (.cells #[u] E1)).alloc (.cells #[v] E2)) (E := E3) (xs := [x])
    simpa using this
end Go.Rid
namespace Go.Proofs.YtfkclbhddiidbaaGreat
open Go.RowKit Go.Rid
set_option maxHeartbeats 1000000 in
theorem whole_own {a : Option Addr} {n c : Nat} {w : World} :
    Calls Tryz.prog 23 #[.slice a n c] w fun e w' => ∃ p g, e = .returned (.pointer (some ⟨p, 0, none⟩)) ∧ RowIs w' p 70 [.int .i64 n, .slice none 0 0, .slice (some ⟨g, 0, none⟩) 1 1] ∧ RowIs w' g 59 [.slice a n c] ∧ w.heap.size ≤ g ∧ g < p ∧ Keeps Nil w w' := by
  go_enter Tryz.func23, Tryz.ntmps23
  go_wp2_with fail
  go_ret
  have h1 := RowIs.alloc (w := w) (E := 59) (xs := [.slice a n c])
  have h2 := RowIs.alloc (w := w.alloc (.cells #[.slice a n c] 59)) (E := 70) (xs := [.int .i64 n, .slice none 0 0, .slice (some ⟨w.heap.size, 0, none⟩) 1 1])
  have hs : (w.alloc (.cells #[.slice a n c] 59)).heap.size = w.heap.size + 1 := by simp
  rw [hs] at h2
  exact ⟨_, _, rfl, h2, h1.keep ((Keeps.refl Nil _).alloc _) id, Nat.le_refl _, Nat.lt_succ_self _, (by repeat (first | exact Keeps.refl _ _ | refine Keeps.drew ?_ | refine Keeps.drewN ?_ _ | refine Keeps.alloc ?_ _))⟩
/-- What joined answers. -/
def JoinRet (M : Nat → Prop) (w : World) (f : Bool → Bool → Bool) (S O : PSet) (e : Ending) (w' : World) : Prop :=
  (4096 < Nat.lcm S.P O.P ∧ e = .returned (.tuple #[.pointer none, .int .i64 180]) ∧ Keeps Nil w w') ∨ (Nat.lcm S.P O.P ≤ 4096 ∧ ∃ p, e = .returned (.tuple #[.pointer (some ⟨p, 0, none⟩), .int .i64 0]) ∧ SetAt M w' p (joined f S O) ∧ Keeps Nil w w')
/-- A pointer to a number. -/
def QBox (w0 : World) (q : Nat) (v : Value) (wx : World) : Prop := ∃ b, v = .pointer (some ⟨b, 0, none⟩) ∧ wx.cell? ⟨b, 0, none⟩ = some (.int .i64 (q : Int)) ∧ b < wx.heap.size ∧ Keeps Nil w0 wx
end Go.Proofs.YtfkclbhddiidbaaGreat

namespace Go.Rid
open Go.RowKit
theorem OwnEls.ty {w : World} {base g : Nat} {E E' : TypeId} {sz : Nat} {v : Value} {els : List (List Value)} {xs : List Value} (h : OwnEls w base E sz v els) (hr : RowIs w g E' xs) (hne : E ≠ E') : v.ownBlock ≠ some g := by
  intro e
  rcases h.form with ⟨rfl, _⟩ | ⟨g', cap, rest, _, h1, _, _, _, h2⟩
  · simp [Value.ownBlock] at e
  · rw [h2] at e
    cases e
    have := h1.out.symm.trans hr.out
    simp at this
    exact hne this.2
theorem OwnEls.ty2 {w : World} {base base' : Nat} {E E' : TypeId} {sz sz' : Nat} {v v' : Value} {els els' : List (List Value)} (h : OwnEls w base E sz v els) (h' : OwnEls w base' E' sz' v' els') (hne : E ≠ E') : ∀ b, v.ownBlock = some b → v'.ownBlock ≠ some b := by
  intro b hb e
  rcases h.form with ⟨rfl, _⟩ | ⟨g', cap, rest, _, h1, _, _, _, h2⟩
  · simp [Value.ownBlock] at hb
  · rw [h2] at hb
    cases hb
    exact h'.ty h1 (fun e => hne e.symm) e
end Go.Rid
namespace Go.Proofs.YtfkclbhddiidbaaGreat
open Go.RowKit Go.Rid
/-- What is at hand in one step: the set's box, its two lists, the new cut's box, the new row. -/
structure JC where
  q : Nat
  sz : Nat
  po : Nat
  base : Nat
  bt : Nat
  vc : Value
  vr : Value
  eC : List (List Value)
  eR : List (List Value)
  s : Bool
  a : Option Addr
  n : Nat
  c : Nat
  ra : Option Addr
  rn : Nat
  rc : Nat
def JC.cC (J : JC) : List Value := [.bool J.s, .slice J.a J.n J.c]
def JC.cR (J : JC) : List Value := [.slice J.ra J.rn J.rc]
/-- A box of the step's own. -/
def JC.far (J : JC) (b : Nat) : Prop := J.vc.ownBlock ≠ some b ∧ J.vr.ownBlock ≠ some b ∧ b ≠ J.po
/-- What has grown lies where it lay, or in new memory. -/
def JC.New (J : JC) (v v' : Value) : Prop := ∀ k, v'.ownBlock = some k → v.ownBlock = some k ∨ J.sz ≤ k
def JC.F (J : JC) : Nat → Value → World → Prop
  | 4, v, _ => v = .pointer (some ⟨J.po, 1, none⟩)
  | 5, v, _ => v = J.vc
  | 6, v, _ => v = .agg #[.bool J.s, .slice J.a J.n J.c]
  | 7, v, w => ∃ b, v = .slice (some ⟨b, 0, none⟩) 1 1 ∧ RowIs w b 38 J.cC ∧ J.far b
  | 8, v, w => ∃ a c, v = .slice a (J.eC.length + 1) c ∧ OwnEls w J.base 38 2 v (J.eC ++ [J.cC]) ∧ J.New J.vc v
  | 11, v, _ => v = .pointer (some ⟨J.po, 2, none⟩)
  | 12, v, _ => v = J.vr
  | 13, v, _ => v = .slice J.ra J.rn J.rc
  | 14, v, w => ∃ b, v = .slice (some ⟨b, 0, none⟩) 1 1 ∧ RowIs w b 59 J.cR ∧ J.far b
  | 15, v, w => ∃ a c, v = .slice a (J.eR.length + 1) c ∧ OwnEls w J.base 59 1 v (J.eR ++ [J.cR]) ∧ J.New J.vr v
  | 17, v, _ => v = .pointer (some ⟨J.po, 1, none⟩)
  | 18, _, w => ∃ a c z, OwnEls w J.base 38 2 (.slice a (J.eC.length + 1) c) (J.eC ++ [J.cC]) ∧ J.New J.vc (.slice a (J.eC.length + 1) c) ∧ RowIs w J.po 70 [.int .i64 J.q, .slice a (J.eC.length + 1) c, z]
  | 20, v, _ => v = .pointer (some ⟨J.po, 2, none⟩)
  | 21, _, w => ∃ a c y, OwnEls w J.base 59 1 (.slice a (J.eR.length + 1) c) (J.eR ++ [J.cR]) ∧ J.New J.vr (.slice a (J.eR.length + 1) c) ∧ RowIs w J.po 70 [.int .i64 J.q, y, .slice a (J.eR.length + 1) c]
  | _, v, _ => v = .pointer (some ⟨J.po, 0, none⟩)
def JC.Pre (J : JC) : Nat → World → Prop
  | 5, w => ∃ z, RowIs w J.po 70 [.int .i64 J.q, J.vc, z]
  | 6, w => RowIs w J.bt 38 J.cC
  | 8, w => OwnEls w J.base 38 2 J.vc J.eC
  | 12, w => ∃ y, RowIs w J.po 70 [.int .i64 J.q, y, J.vr]
  | 15, w => OwnEls w J.base 59 1 J.vr J.eR
  | 18, w => ∃ y z, RowIs w J.po 70 [.int .i64 J.q, y, z]
  | 21, w => ∃ y z, RowIs w J.po 70 [.int .i64 J.q, y, z]
  | _, _ => True
def JC.R (J : JC) : Nat → World → World → Prop
  | 7, w, w' => Keeps Nil w w'
  | 8, w, w' => OwnEls w J.base 38 2 J.vc J.eC ∧ Keeps (Own J.vc) w w'
  | 14, w, w' => Keeps Nil w w'
  | 15, w, w' => OwnEls w J.base 59 1 J.vr J.eR ∧ Keeps (Own J.vr) w w'
  | 18, w, w' => (∃ x y z, RowIs w J.po 70 [x, y, z]) ∧ ∃ u, w' = w.setCell ⟨J.po, 1, none⟩ u
  | 21, w, w' => (∃ x y z, RowIs w J.po 70 [x, y, z]) ∧ ∃ u, w' = w.setCell ⟨J.po, 2, none⟩ u
  | _, w, w' => w = w'
/-- Each turns this much. -/
theorem JC.R_keeps (J : JC) {j : Nat} {w w' : World} (h : J.R j w w') : w = w' ∨ Keeps Nil w w' ∨ (j = 8 ∧ Keeps (Own J.vc) w w') ∨ (j = 15 ∧ Keeps (Own J.vr) w w') ∨ ((j = 18 ∨ j = 21) ∧ Keeps (One J.po) w w') := by
  unfold JC.R at h
  split at h
  · exact .inr (.inl h)
  · exact .inr (.inr (.inl ⟨rfl, h.2⟩))
  · exact .inr (.inl h)
  · exact .inr (.inr (.inr (.inl ⟨rfl, h.2⟩)))
  · obtain ⟨_, u, rfl⟩ := h; exact .inr (.inr (.inr (.inr ⟨.inl rfl, (Keeps.refl (One J.po) w).set1 1 u⟩)))
  · obtain ⟨_, u, rfl⟩ := h; exact .inr (.inr (.inr (.inr ⟨.inr rfl, (Keeps.refl (One J.po) w).set1 2 u⟩)))
  · exact .inl h
/-- A box far from all stays. -/
theorem JC.far_keep (J : JC) {b : Nat} (hb : J.far b) {E : TypeId} {xs : List Value} {j : Nat} {w w' : World} (h : J.R j w w') (hr : RowIs w b E xs) : RowIs w' b E xs := by
  rcases J.R_keeps h with rfl | k | ⟨_, k⟩ | ⟨_, k⟩ | ⟨_, k⟩
  · exact hr
  · exact hr.keep k id
  · exact hr.keep k hb.1
  · exact hr.keep k hb.2.1
  · exact hr.keep k hb.2.2
/-- The list of cuts stays behind all but its own append. -/
theorem JC.cuts_keep (J : JC) {x : Value} {els : List (List Value)} {j : Nat} {w w' : World} (hj : j ≠ 8) (h : J.R j w w') (ho : OwnEls w J.base 38 2 x els) : OwnEls w' J.base 38 2 x els := by
  have hR := h
  rcases J.R_keeps h with rfl | k | ⟨e, k⟩ | ⟨rfl, k⟩ | ⟨e, k⟩
  · exact ho
  · exact ho.keepNil k
  · exact absurd e hj
  · exact ho.keep k fun b hb hm => ho.ty2 hR.1 (by decide) b hb hm
  · refine ho.keep k fun b hb hm => ?_
    obtain ⟨x', y, z, hr⟩ : ∃ x y z, RowIs w J.po 70 [x, y, z] := by
      rcases e with rfl | rfl
      · exact hR.1
      · exact hR.1
    exact ho.ty hr (by decide) (by rw [hb]; exact congrArg some hm)
theorem JC.rows_keep (J : JC) {x : Value} {els : List (List Value)} {j : Nat} {w w' : World} (hj : j ≠ 15) (h : J.R j w w') (ho : OwnEls w J.base 59 1 x els) : OwnEls w' J.base 59 1 x els := by
  have hR := h
  rcases J.R_keeps h with rfl | k | ⟨rfl, k⟩ | ⟨e, k⟩ | ⟨e, k⟩
  · exact ho
  · exact ho.keepNil k
  · exact ho.keep k fun b hb hm => ho.ty2 hR.1 (by decide) b hb hm
  · exact absurd e hj
  · refine ho.keep k fun b hb hm => ?_
    obtain ⟨x', y, z, hr⟩ : ∃ x y z, RowIs w J.po 70 [x, y, z] := by
      rcases e with rfl | rfl
      · exact hR.1
      · exact hR.1
    exact ho.ty hr (by decide) (by rw [hb]; exact congrArg some hm)
/-- The set's box stays a box; its fields turn by their own store alone. -/
theorem JC.box_keep (J : JC) {j : Nat} {w w' : World} {x y z : Value} (h : J.R j w w') (hr : RowIs w J.po 70 [x, y, z]) : ∃ y' z', RowIs w' J.po 70 [x, y', z'] ∧ (j ≠ 18 → y' = y) ∧ (j ≠ 21 → z' = z) := by
  unfold JC.R at h
  split at h
  · exact ⟨y, z, hr.keep h id, fun _ => rfl, fun _ => rfl⟩
  · exact ⟨y, z, hr.keep h.2 (fun hm => h.1.ty hr (by decide) hm), fun _ => rfl, fun _ => rfl⟩
  · exact ⟨y, z, hr.keep h id, fun _ => rfl, fun _ => rfl⟩
  · exact ⟨y, z, hr.keep h.2 (fun hm => h.1.ty hr (by decide) hm), fun _ => rfl, fun _ => rfl⟩
  · obtain ⟨_, u, rfl⟩ := h; exact ⟨u, z, hr.set 1 u, fun h => absurd rfl h, fun _ => rfl⟩
  · obtain ⟨_, u, rfl⟩ := h; exact ⟨y, u, hr.set 2 u, fun _ => rfl, fun h => absurd rfl h⟩
  · subst h; exact ⟨y, z, hr, fun _ => rfl, fun _ => rfl⟩
/-- What an operation yielded stays as others run. -/
theorem JC.hF (J : JC) (A : Nat → Nat → Bool) (a1 : A 18 8 = true) (a2 : A 21 15 = true) : ∀ i j v w w', i ≠ j → A i j = false → J.R j w w' → J.F i v w → J.F i v w' := by
  intro i j v w w' hij hA hR hf
  unfold JC.F at hf ⊢
  split at hf
  · exact hf
  · exact hf
  · exact hf
  · obtain ⟨b, rfl, hr, hb⟩ := hf
    exact ⟨b, rfl, J.far_keep hb hR hr, hb⟩
  · obtain ⟨a, c, rfl, ho, hn⟩ := hf
    exact ⟨a, c, rfl, J.cuts_keep (fun e => hij e.symm) hR ho, hn⟩
  · exact hf
  · exact hf
  · exact hf
  · obtain ⟨b, rfl, hr, hb⟩ := hf
    exact ⟨b, rfl, J.far_keep hb hR hr, hb⟩
  · obtain ⟨a, c, rfl, ho, hn⟩ := hf
    exact ⟨a, c, rfl, J.rows_keep (fun e => hij e.symm) hR ho, hn⟩
  · exact hf
  · obtain ⟨a, c, z, ho, hn, hr⟩ := hf
    obtain ⟨y', z', hr', e1, _⟩ := J.box_keep hR hr
    rw [e1 (fun e => hij e.symm)] at hr'
    exact ⟨a, c, z', J.cuts_keep (fun e => by subst e; rw [a1] at hA; cases hA) hR ho, hn, hr'⟩
  · exact hf
  · obtain ⟨a, c, y, ho, hn, hr⟩ := hf
    obtain ⟨y', z', hr', _, e2⟩ := J.box_keep hR hr
    rw [e2 (fun e => hij e.symm)] at hr'
    exact ⟨a, c, y', J.rows_keep (fun e => by subst e; rw [a2] at hA; cases hA) hR ho, hn, hr'⟩
  · exact hf
/-- What an operation wants stays as others run. -/
theorem JC.hP (J : JC) (A : Nat → Nat → Bool) (b1 : A 18 5 = true) (b2 : A 21 12 = true) (hbt : J.far J.bt) : ∀ i j w w', i ≠ j → A j i = false → J.R j w w' → J.Pre i w → J.Pre i w' := by
  intro i j w w' hij hA hR hp
  unfold JC.Pre at hp ⊢
  split at hp
  · obtain ⟨z, hr⟩ := hp
    obtain ⟨y', z', hr', e1, _⟩ := J.box_keep hR hr
    rw [e1 (fun e => by subst e; rw [b1] at hA; cases hA)] at hr'
    exact ⟨z', hr'⟩
  · exact J.far_keep hbt hR hp
  · exact J.cuts_keep (fun e => hij e.symm) hR hp
  · obtain ⟨y, hr⟩ := hp
    obtain ⟨y', z', hr', _, e2⟩ := J.box_keep hR hr
    rw [e2 (fun e => by subst e; rw [b2] at hA; cases hA)] at hr'
    exact ⟨y', hr'⟩
  · exact J.rows_keep (fun e => hij e.symm) hR hp
  · obtain ⟨y, z, hr⟩ := hp
    obtain ⟨y', z', hr', _, _⟩ := J.box_keep hR hr
    exact ⟨y', z', hr'⟩
  · obtain ⟨y, z, hr⟩ := hp
    obtain ⟨y', z', hr', _, _⟩ := J.box_keep hR hr
    exact ⟨y', z', hr'⟩
  · exact hp
end Go.Proofs.YtfkclbhddiidbaaGreat

namespace Go.Rid
open Go.RowKit
section
variable {P : Program} (w : World)
/-- append, as one operation. -/
theorem oper_append_els {o : Oper} {a : Act} {K : Act → World → Prop} {Q : Exit → Act → World → Prop} (s x : Operand) (t : TypeId)
    (ho : o.op = .call { callee := .builtin .append, args := #[s, x], argTypes := #[t, t] })
    (base : Nat) (e : TypeId) (i : TypeInfo) (z : Value) (size bytes : Nat) (ht : P.underlying t = some (.slice e)) (hi : P.info? e = some i) (hz : i.zero = some z)
    (hsize : i.size = size) (hby : i.bytes = bytes) (hzs : z.cells.size = size) (hsz : 0 < size)
    (v : Value) (els : List (List Value)) (hs : a.eval s = v) (hown : OwnEls w base e size v els)
    (ad : Addr) (c m : Nat) (new : List (List Value)) (hx : a.eval x = .slice (some ad) m c) (hm : new.length = m) (hl : ∀ c ∈ new, c.length = size) (hnews : ∀ j u, new.flatten[j]? = some u → w.cell? (ad.add j) = some u) (h1 : ∀ u ∈ new.flatten, u.oneCell' = true)
    (h63 : els.length + m ≤ 9223372036854775807) (hbytes : (els.length + m) * bytes ≤ 140737488355328) (hbase : base ≤ w.heap.size)
    (h : ∀ v' w', OwnEls w' base e size v' (els ++ new) → Keeps (Own v) w w' → Fresh w v v' → K (a.put o.dst v') w') : Oper.wp P o a w K Q := by
  subst hsize
  subst hby
  subst hm
  obtain ⟨v', w', hr, h2, h3, h4⟩ := run_append_own (P := P) w base t o.type e i z _ _ ht hi hz rfl rfl hzs hsz v els.length els.flatten hown.row ad new.length c new.flatten (length_flatten_sz new hl) hnews h1 (by unfold maxLen; omega) hbytes hbase
  have hf := append_fresh w base t o.type e i z ht hi hz v els.length els.flatten hown.row ad new.length c new.flatten (length_flatten_sz new hl) hnews h1 (by unfold maxLen; omega) hbytes hr
  unfold Oper.wp execOp
  simp only [ho, resolve, invoke, builtin, Sem.run_bind, Sem.run_pure, Result.andThen_ok, List.map_toArray, List.map_cons, List.map_nil, hs, hx, hr]
  refine h v' w' ⟨by simpa using h2, fun c hc => ?_⟩ ⟨h3.os, h3.tape, h3.output, h3.size, fun k hk hn => h3.block k hk fun e => hn e.symm⟩ hf
  rcases List.mem_append.1 hc with hc | hc
  · exact hown.sz c hc
  · exact hl c hc
end
/-- The cells of one element, as a block holds them. -/
theorem row_news {w : World} {b : Nat} {E : TypeId} {cs : List Value} (h : RowIs w b E cs) : ∀ j u, [cs].flatten[j]? = some u → w.cell? ((⟨b, 0, none⟩ : Addr).add j) = some u := by
  intro j u hj
  rw [Addr.add_lit]
  simp only [Nat.zero_add]
  rw [h.cell j]
  simpa using hj
theorem RowIs.same3 {w : World} {g : Nat} {E E' : TypeId} {x y z x' y' z' : Value} (h : RowIs w g E [x, y, z]) (h' : RowIs w g E' [x', y', z']) : x = x' ∧ y = y' ∧ z = z' := by
  have h1 := h.three
  have h2 := h'.three
  exact ⟨Option.some.inj (h1.1.symm.trans h2.1), Option.some.inj (h1.2.1.symm.trans h2.2.1), Option.some.inj (h1.2.2.symm.trans h2.2.2)⟩
/-- All that a half joined set may turn. -/
def Turn (M : Nat → Prop) (po : Nat) (vc vr : Value) : Nat → Prop := fun b => M b ∨ b = po ∨ vc.ownBlock = some b ∨ vr.ownBlock = some b
end Go.Rid
namespace Go.Proofs.YtfkclbhddiidbaaGreat
open Go.RowKit Go.Rid
/-- The set half joined, and the cuts that are gone through. -/
structure Half (M : Nat → Prop) (base po q : Nat) (w : World) (vc vr : Value) (eC eR : List (List Value)) (out : List Int × List (List Bool)) (la : Option Addr) (ln lc : Nat) (zs : List Int) : Prop where
  box : RowIs w po 70 [.int .i64 q, vc, vr]
  oC : OwnEls w base 38 2 vc eC
  oR : OwnEls w base 59 1 vr eR
  lC : out.1.length = eC.length
  lR : out.2.length = eR.length
  elC : ∀ i, i < eC.length → RZ (Turn M po vc vr) w (eC.getD i []) (out.1.getD i 0)
  elR : ∀ i, i < eR.length → RBools (Turn M po vc vr) w (eR.getD i []) (out.2.getD i [])
  list : ZInts (Turn M po vc vr) w la ln lc zs
variable {M : Nat → Prop} {base po q : Nat} {w w' : World} {vc vr vc' vr' : Value} {eC eR : List (List Value)} {out : List Int × List (List Bool)} {la : Option Addr} {ln lc : Nat} {zs : List Int}
theorem Half.keepNil (h : Half M base po q w vc vr eC eR out la ln lc zs) (k : Keeps Nil w w') : Half M base po q w' vc vr eC eR out la ln lc zs :=
  ⟨h.box.keep k id, h.oC.keepNil k, h.oR.keepNil k, h.lC, h.lR, fun i hi => (h.elC i hi).move k (fun _ _ h => h.elim) fun _ _ => id, fun i hi => (h.elR i hi).move k (fun _ _ h => h.elim) fun _ _ => id, h.list.keepNil k⟩
/-- One cut more. -/
theorem Half.push (h : Half M base po q w vc vr eC eR out la ln lc zs) (k : Keeps (Turn Nil po vc vr) w w') (hb : RowIs w' po 70 [.int .i64 q, vc', vr']) {cC cR : List Value} {z : Int} {r : List Bool} (hC : RZ (Turn M po vc vr) w cC z) (hR : RBools (Turn M po vc vr) w cR r)
    (oC : OwnEls w' base 38 2 vc' (eC ++ [cC])) (oR : OwnEls w' base 59 1 vr' (eR ++ [cR])) (nC : ∀ b, vc'.ownBlock = some b → vc.ownBlock = some b ∨ w.heap.size ≤ b) (nR : ∀ b, vr'.ownBlock = some b → vr.ownBlock = some b ∨ w.heap.size ≤ b) :
    Half M base po q w' vc' vr' (eC ++ [cC]) (eR ++ [cR]) (out.1 ++ [z], out.2 ++ [r]) la ln lc zs := by
  have h1 : ∀ b, b < w.heap.size → Turn Nil po vc vr b → Turn M po vc vr b := fun b _ hb => by
    rcases hb with hb | hb
    · exact hb.elim
    · exact .inr hb
  have h2 : ∀ b, b < w.heap.size → Turn M po vc' vr' b → Turn M po vc vr b := fun b hlt hb => by
    rcases hb with hb | hb | hb | hb
    · exact .inl hb
    · exact .inr (.inl hb)
    · rcases nC b hb with hb | hb
      · exact .inr (.inr (.inl hb))
      · omega
    · rcases nR b hb with hb | hb
      · exact .inr (.inr (.inr hb))
      · omega
  refine ⟨hb, oC, oR, by simp [h.lC], by simp [h.lR], fun i hi => ?_, fun i hi => ?_, h.list.move k h1 h2⟩
  · rcases Nat.lt_or_ge i eC.length with hi' | hi'
    · rw [getD_snoc_lt _ _ _ hi', show (out.1 ++ [z], out.2 ++ [r]).1 = out.1 ++ [z] from rfl, getD_snoc_lt _ _ _ (by rw [h.lC]; exact hi')]
      exact (h.elC i hi').move k h1 h2
    · have : i = eC.length := by simp at hi; omega
      subst this
      rw [getD_snoc_eq, show (out.1 ++ [z], out.2 ++ [r]).1 = out.1 ++ [z] from rfl, ← h.lC, getD_snoc_eq]
      exact hC.move k h1 h2
  · rcases Nat.lt_or_ge i eR.length with hi' | hi'
    · rw [getD_snoc_lt _ _ _ hi', show (out.1 ++ [z], out.2 ++ [r]).2 = out.2 ++ [r] from rfl, getD_snoc_lt _ _ _ (by rw [h.lR]; exact hi')]
      exact (h.elR i hi').move k h1 h2
    · have : i = eR.length := by simp at hi; omega
      subst this
      rw [getD_snoc_eq, show (out.1 ++ [z], out.2 ++ [r]).2 = out.2 ++ [r] from rfl, ← h.lR, getD_snoc_eq]
      exact hR.move k h1 h2
/-- The set, joined. -/
theorem Half.setAt (h : Half M base po q w vc vr eC eR out la ln lc zs) (hM : ∀ b, M b → b < base) (hpo : base ≤ po) : SetAt M w po ⟨q, out.1, out.2⟩ := by
  obtain ⟨a, c, e1, h1⟩ := OwnEls.sl (M := M) h.oC (fun b hb hm => by have := (h.oC.lt b hb).1; have := hM b hm; omega) h.lC fun i hi => (h.elC i hi).move (M' := Nil) (M2 := M) (Keeps.refl Nil w) (fun _ _ h => h.elim) fun _ _ => .inl
  obtain ⟨a2, c2, e2, h2⟩ := OwnEls.sl (M := M) h.oR (fun b hb hm => by have := (h.oR.lt b hb).1; have := hM b hm; omega) h.lR fun i hi => (h.elR i hi).move (M' := Nil) (M2 := M) (Keeps.refl Nil w) (fun _ _ h => h.elim) fun _ _ => .inl
  have hb := h.box
  rw [e1, e2] at hb
  exact ⟨_, _, _, _, _, _, hb, fun hm => by have := hM _ hm; omega, h1, h2⟩
/-- The last row. -/
theorem Half.last (h : Half M base po q w vc vr eC eR out la ln lc zs) (hl : 1 ≤ out.2.length) : ∃ g cap a n c, vr = .slice (some ⟨g, 0, none⟩) eR.length cap ∧ eR.length ≤ cap ∧ cap ≤ 9223372036854775807 ∧ w.cell? ⟨g, eR.length - 1, none⟩ = some (.slice a n c) ∧ g < w.heap.size ∧ Bools Nil w a n c (out.2.getD (out.2.length - 1) []) := by
  have hlr := h.lR
  rcases h.oR.form with ⟨_, e⟩ | ⟨g, cap, rest, e, hr, h1, h2, _, _⟩
  · rw [e] at hlr; simp only [List.length_nil] at hlr; omega
  · obtain ⟨a, n, c, e2, hB⟩ := h.elR (eR.length - 1) (by omega)
    have hf := flatten_get eR h.oR.sz (eR.length - 1) 0 (by omega) (by omega)
    rw [e2] at hf
    refine ⟨g, cap, a, n, c, e, h1, h2, ?_, hr.lt, ?_⟩
    · rw [hr.cell]
      simp only [Nat.mul_one, Nat.add_zero] at hf
      rw [List.getElem?_append_left (List.getElem?_eq_some_iff.1 hf).1, hf]; rfl
    · rw [hlr]; exact hB.move (Keeps.refl Nil w) (fun _ _ h => h.elim) fun _ _ h => h.elim
/-- The set as it begins. -/
theorem half_start {wc w3 w4 w5 : World} {gr g3 : Nat} {r : List Bool} (hM : ∀ b, M b → b < wc.heap.size) (k4 : Keeps Nil w3 w4) (k5 : Keeps Nil w4 w5) (hg3 : RowIs w3 g3 4 (r.map Value.bool)) (hgb : wc.heap.size ≤ g3) (hrq : r.length = q) (hq2 : q ≤ 4096)
    (ho : RowIs w4 po 70 [.int .i64 q, .slice none 0 0, .slice (some ⟨gr, 0, none⟩) 1 1]) (hr : RowIs w4 gr 59 [.slice (some ⟨g3, 0, none⟩) q q]) (hgr : w3.heap.size ≤ gr) (hpo : gr < po) (hz : ZInts (Box M wc.heap.size (w4.heap.size - wc.heap.size)) w5 la ln lc zs) :
    Half M wc.heap.size po q w5 (.slice none 0 0) (.slice (some ⟨gr, 0, none⟩) 1 1) [] [[.slice (some ⟨g3, 0, none⟩) q q]] ([], [r]) la ln lc zs := by
  have hl3 := hg3.lt
  have hlo := ho.lt
  have ho5 := ho.keep k5 id
  have hr5 := hr.keep k5 id
  have hg5 := (hg3.keep k4 id).keep k5 id
  refine ⟨ho5, OwnEls.nil _ _ _ _, OwnEls.ofRow1 hr5 (by omega), rfl, rfl, fun i hi => by simp at hi, fun i hi => ?_, hz.move (Keeps.refl Nil w5) (fun _ _ h => h.elim) fun b _ hb => ?_⟩
  · obtain rfl : i = 0 := by simpa using hi
    refine ⟨_, _, _, rfl, ?_⟩
    have h := Bools.ofRow (M := Turn M po (.slice none 0 0) (.slice (some ⟨gr, 0, none⟩) 1 1)) hg5 (fun hm => by
      rcases hm with hm | hm | hm | hm
      · have := hM _ hm; omega
      · omega
      · simp [Value.ownBlock] at hm
      · simp [Value.ownBlock] at hm; omega) (by omega)
    rw [hrq] at h
    exact h
  · rcases hb with hb | hb | hb | hb
    · exact .inl hb
    · exact .inr (by omega)
    · simp [Value.ownBlock] at hb
    · simp [Value.ownBlock] at hb; exact .inr (by omega)
/-- What each operation of a new row's statement yields. -/
def RowF (sz : Nat) (v0 z : Value) (p p2 k1 k2 : Nat) (r : List Bool) : Nat → Value → World → Prop
  | 0, v, _ => v = v0
  | 1, v, _ => v = .pointer (some ⟨p, 0, none⟩)
  | 2, v, _ => v = z
  | 3, v, _ => v = .int .i64 (k1 : Int)
  | 4, v, _ => v = .pointer (some ⟨p2, 0, none⟩)
  | 5, v, _ => v = z
  | 6, v, _ => v = .int .i64 (k2 : Int)
  | _, v, w => ∃ g, v = .slice (some ⟨g, 0, none⟩) r.length r.length ∧ RowIs w g 4 (r.map Value.bool) ∧ sz ≤ g
theorem rowF_keep (sz : Nat) (v0 z : Value) (p p2 k1 k2 : Nat) (r : List Bool) : ∀ j v w w', Keeps Nil w w' → RowF sz v0 z p p2 k1 k2 r j v w → RowF sz v0 z p p2 k1 k2 r j v w' := by
  intro j v w w' k h
  unfold RowF at *
  split at h
  all_goals first | exact h | (obtain ⟨g, e, h1, h2⟩ := h; exact ⟨g, e, h1.keep k id, h2⟩)
theorem Half.pre (h : Half M base po q w vc vr eC eR out la ln lc zs) {bt sz : Nat} {s : Bool} {a ra : Option Addr} {n c rn rc : Nat} (hb : RowIs w bt 38 [.bool s, .slice a n c]) : ∀ j, (JC.mk q sz po base bt vc vr eC eR s a n c ra rn rc).Pre j w.drew := by
  intro j
  have h' := h.keepNil (w' := w.drew) ((Keeps.refl Nil w).drew)
  have hb' := hb.keep (w' := w.drew) ((Keeps.refl Nil w).drew) id
  unfold JC.Pre
  split
  · exact ⟨_, h'.box⟩
  · exact hb'
  · exact h'.oC
  · exact ⟨_, h'.box⟩
  · exact h'.oR
  · exact ⟨_, _, h'.box⟩
  · exact ⟨_, _, h'.box⟩
  · trivial
theorem Half.far (h : Half M base po q w vc vr eC eR out la ln lc zs) {bt sz b : Nat} {s : Bool} {a ra : Option Addr} {n c rn rc : Nat} (hb : w.heap.size ≤ b) : (JC.mk q sz po base bt vc vr eC eR s a n c ra rn rc).far b :=
  ⟨fun e => by have := (h.oC.lt b e).2; omega, fun e => by have := (h.oR.lt b e).2; omega, fun e => by have := h.box.lt; have e' : b = po := e; omega⟩
end Go.Proofs.YtfkclbhddiidbaaGreat
