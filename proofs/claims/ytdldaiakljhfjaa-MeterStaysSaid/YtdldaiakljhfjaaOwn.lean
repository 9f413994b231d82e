/- Slices that a call builds up itself, element by element: append's law, told of elements; facts that move on while such a slice grows. No condition but room. -/
import Derived.Test.YtdldaiakljhfjaaBase
namespace Go.Rid
open Go.RowKit

theorem Sl.move {M M' M2 : Nat → Prop} {w w' : World} {sz : Nat} {a : Option Addr} {n c : Nat} {f : Nat → Nat → Value} (h : Sl M w sz a n c f) (k : Keeps M' w w') (h1 : ∀ b, b < w.heap.size → M' b → M b) (h2 : ∀ b, b < w.heap.size → M2 b → M b) : Sl M2 w' sz a n c f :=
  ⟨h.le, h.cap, h.none, fun p hp h0 => by
    obtain ⟨q1, q2, q3, q4⟩ := h.some p hp h0
    exact ⟨q1, Nat.lt_of_lt_of_le q2 k.size, fun hb => q3 (h2 _ q2 hb), fun i j hi hj => k.cellE q2 (fun hb => q3 (h1 _ q2 hb)) (q4 i j hi hj)⟩⟩
theorem Limbs.move {M M' M2 : Nat → Prop} {w w' : World} {a : Option Addr} {n c : Nat} {l : List Nat} (h : Limbs M w a n c l) (k : Keeps M' w w') (h1 : ∀ b, b < w.heap.size → M' b → M b) (h2 : ∀ b, b < w.heap.size → M2 b → M b) : Limbs M2 w' a n c l :=
  ⟨h.len, h.sl.move k h1 h2, h.lt⟩
theorem RInt.move {M M' M2 : Nat → Prop} {w w' : World} {cs : List Value} {x : Bool × List Nat} (h : RInt M w cs x) (k : Keeps M' w w') (h1 : ∀ b, b < w.heap.size → M' b → M b) (h2 : ∀ b, b < w.heap.size → M2 b → M b) : RInt M2 w' cs x := by
  obtain ⟨a, n, c, e, q, r⟩ := h; exact ⟨a, n, c, e, q.move k h1 h2, r⟩
theorem SlOf.move {α : Type} {M M' M2 : Nat → Prop} {w w' : World} {sz : Nat} {R R' : List Value → α → Prop} {d : α} {a : Option Addr} {n c : Nat} {xs : List α} (h : SlOf M w sz R d a n c xs) (k : Keeps M' w w') (h1 : ∀ b, b < w.heap.size → M' b → M b) (h2 : ∀ b, b < w.heap.size → M2 b → M b) (hR : ∀ cs x, R cs x → R' cs x) : SlOf M2 w' sz R' d a n c xs :=
  ⟨h.len, h.ex.elim fun f ⟨q1, q2⟩ => ⟨f, q1.move k h1 h2, fun i hi => ⟨(q2 i hi).1, hR _ _ (q2 i hi).2⟩⟩⟩

/-- The block of a slice of one's own. -/
def Own (v : Value) : Nat → Prop := fun b => v.ownBlock = some b
/-- Behind an append: the same block, or a new one. -/
def Fresh (w : World) (v v' : Value) : Prop := ∀ k, v'.ownBlock = some k → v.ownBlock = some k ∨ w.heap.size ≤ k
/-- M, and the block of v. -/
def And' (M : Nat → Prop) (v : Value) : Nat → Prop := fun b => M b ∨ v.ownBlock = some b

/-- v holds these elements, of sz cells each, in a row of its own from block base on. -/
structure OwnEls (w : World) (base : Nat) (E : TypeId) (sz : Nat) (v : Value) (els : List (List Value)) : Prop where
  row : w.ownsRow base E sz v els.length els.flatten
  sz : ∀ c ∈ els, c.length = sz

theorem OwnEls.nil (w : World) (base : Nat) (E : TypeId) (sz : Nat) : OwnEls w base E sz (.slice none 0 0) [] := ⟨World.ownsRow_nil _ _ _ _, by simp⟩
theorem OwnEls.keep {M : Nat → Prop} {w w' : World} {base : Nat} {E : TypeId} {sz : Nat} {v : Value} {els : List (List Value)} (h : OwnEls w base E sz v els) (k : Keeps M w w') (hn : ∀ b, v.ownBlock = some b → ¬ M b) : OwnEls w' base E sz v els := by
  refine ⟨⟨h.row.1, ?_⟩, h.sz⟩
  rcases h.row.2 with hx | ⟨g, cap, cur, rfl, hb, hg, r⟩
  · exact .inl hx
  · exact .inr ⟨g, cap, cur, rfl, hb, by rw [k.block g (Array.getElem?_eq_some_iff.1 hg).1 (hn g rfl)]; exact hg, r⟩
theorem OwnEls.keepNil {w w' : World} {base : Nat} {E : TypeId} {sz : Nat} {v : Value} {els : List (List Value)} (h : OwnEls w base E sz v els) (k : Keeps Nil w w') : OwnEls w' base E sz v els := h.keep k fun _ _ => id
theorem OwnEls.lt {w : World} {base : Nat} {E : TypeId} {sz : Nat} {v : Value} {els : List (List Value)} (h : OwnEls w base E sz v els) : ∀ b, v.ownBlock = some b → base ≤ b ∧ b < w.heap.size := h.row.lt

theorem flatten_get {sz : Nat} : ∀ (els : List (List Value)), (∀ c ∈ els, c.length = sz) → ∀ i j, i < els.length → j < sz → els.flatten[i * sz + j]? = some ((els.getD i []).getD j undef)
  | [], _, i, j, hi, _ => by simp at hi
  | c :: els, h, 0, j, _, hj => by
    have hc : c.length = sz := h c (by simp)
    simp only [List.flatten_cons, Nat.zero_mul, Nat.zero_add, List.getD_cons_zero]
    rw [List.getElem?_append_left (by omega)]
    simp [List.getD, List.getElem?_eq_getElem (show j < c.length by omega)]
  | c :: els, h, i + 1, j, hi, hj => by
    have hc : c.length = sz := h c (by simp)
    simp only [List.flatten_cons, List.getD_cons_succ]
    rw [List.getElem?_append_right (by rw [hc, Nat.add_mul]; omega), hc, show (i + 1) * sz + j - sz = i * sz + j by rw [Nat.add_mul]; omega]
    exact flatten_get els (fun c hc => h c (List.mem_cons_of_mem _ hc)) i j (by simpa using hi) hj
theorem length_flatten_sz {sz : Nat} : ∀ (els : List (List Value)), (∀ c ∈ els, c.length = sz) → els.flatten.length = els.length * sz
  | [], _ => by simp
  | c :: els, h => by
    rw [List.flatten_cons, List.length_append, h c (by simp), length_flatten_sz els (fun c hc => h c (List.mem_cons_of_mem _ hc)), List.length_cons, Nat.add_mul]; omega

theorem OwnEls.sl {α : Type} {M : Nat → Prop} {w : World} {base : Nat} {E : TypeId} {sz : Nat} {v : Value} {els : List (List Value)} {R : List Value → α → Prop} {d : α} {xs : List α} (h : OwnEls w base E sz v els) (hM : ∀ b, v.ownBlock = some b → ¬ M b)
    (hx : xs.length = els.length) (hR : ∀ i, i < els.length → R (els.getD i []) (xs.getD i d)) : ∃ a c, v = .slice a els.length c ∧ SlOf M w sz R d a els.length c xs := by
  rcases h.row.2 with ⟨rfl, h0⟩ | ⟨g, cap, cur, rfl, hb, hg, hnc, hcm, hcs, htake⟩
  · have : els = [] := List.eq_nil_of_length_eq_zero h0
    subst this
    have : xs = [] := List.eq_nil_of_length_eq_zero (by simpa using hx)
    subst this
    exact ⟨_, _, rfl, SlOf.nil⟩
  · refine ⟨_, _, rfl, hx, fun i => els.getD i [], ⟨hnc, by unfold maxLen at hcm; exact hcm, (fun h => by cases h), fun p hp _ => ?_⟩, fun i hi => ⟨h.sz _ (by simp [List.getD, List.getElem?_eq_getElem hi]), hR i hi⟩⟩
    cases hp
    refine ⟨rfl, (Array.getElem?_eq_some_iff.1 hg).1, hM g rfl, fun i j hi hj => ?_⟩
    have := h.row.cells (g := g) rfl (i * sz + j) _ (flatten_get els h.sz i j hi hj)
    rw [Addr.add_lit] at this
    simpa [Nat.add_assoc] using this

section
variable {P : Program} (w : World)
theorem append_fresh (base : Nat) (t ty e : TypeId) (i : TypeInfo) (z : Value) (ht : P.underlying t = some (.slice e)) (hi : P.info? e = some i) (hz : i.zero = some z)
    (v : Value) (n : Nat) (xs : List Value) (hown : w.ownsRow base e i.size v n xs) (a : Addr) (m c : Nat) (news : List Value) (hl : news.length = m * i.size) (hnews : ∀ j u, news[j]? = some u → w.cell? (a.add j) = some u) (h1 : ∀ u ∈ news, u.oneCell' = true)
    (h63 : n + m ≤ maxLen) (hbytes : (n + m) * i.bytes ≤ 140737488355328) {v' : Value} {w' : World} (hr : (Builtin.append_ #[t, t] ty #[v, .slice (some a) m c]).run P w = .ok v' w') : Fresh w v v' := by
  have hsmall : n + m ≤ 9223372036854775807 := by simp only [maxLen] at h63; omega
  rcases hown.2 with ⟨rfl, rfl⟩ | ⟨g, cap, cur, rfl, hbg, hg, hnc, hcm, hcs, htake⟩
  · by_cases hm : m = 0
    · subst hm
      have hn : news = [] := List.eq_nil_of_length_eq_zero (by simpa using hl)
      subst hn
      have : (Builtin.append_ #[t, t] ty #[.slice none 0 0, .slice (some a) 0 c]).run P w = .ok (.slice none 0 0) w := by
        simp [Builtin.append_, run_underlying ht, sizeOf, typeInfo, hi, Builtin.lenOf, Builtin.firstCells, loadCells, loadCellsFrom]
      rw [this] at hr
      cases hr
      intro k hk; simp [Value.ownBlock] at hk
    · have hr' := run_append_nil (P := P) w t ty e i z ht hi hz a m c news hl hnews (by omega) (by omega) (by have hb := hbytes; simp only [Nat.zero_add] at hb; omega)
      rw [hr'] at hr
      cases hr
      intro k hk; simp [Value.ownBlock] at hk; right; omega
  · by_cases hroom : n + m ≤ cap
    · have hfit : n * i.size + news.length ≤ cur.size := by rw [hl, hcs, ← Nat.add_mul]; exact Nat.mul_le_mul_right _ hroom
      have hr' := run_append_room (P := P) w t ty e i ht hi g n cap cur hg a m c news hl hnews h1 hroom hfit
      rw [hr'] at hr
      cases hr
      intro k hk; left; simpa [Value.ownBlock] using hk
    · have holds : ∀ j u, xs[j]? = some u → w.cell? ((⟨g, 0, none⟩ : Addr).add j) = some u := hown.cells (g := g) rfl
      have hr' := run_append_grow (P := P) w t ty e i z ht hi hz ⟨g, 0, none⟩ n cap xs hown.1 holds a m c news hl hnews (by omega) (by omega) (growslice_fits (by omega) hbytes)
      rw [hr'] at hr
      cases hr
      intro k hk; simp [Value.ownBlock] at hk; right; omega

/-- append, told of elements. -/
theorem wpList_append_els {ops : Array Oper} {rest : List Oper} {o : Oper} {a : Act} {Q : Exit → Act → World → Prop} (hgd : o.guard = none) (s x : Operand) (t : TypeId)
    (ho : o.op = .call { callee := .builtin .append, args := #[s, x], argTypes := #[t, t] })
    (base : Nat) (e : TypeId) (i : TypeInfo) (z : Value) (size bytes : Nat) (ht : P.underlying t = some (.slice e)) (hi : P.info? e = some i) (hz : i.zero = some z)
    (hsize : i.size = size) (hby : i.bytes = bytes) (hzs : z.cells.size = size) (hsz : 0 < size)
    (v : Value) (els : List (List Value)) (hs : a.eval s = v) (hown : OwnEls w base e size v els)
    (ad : Addr) (c m : Nat) (new : List (List Value)) (hx : a.eval x = .slice (some ad) m c) (hm : new.length = m) (hl : ∀ c ∈ new, c.length = size) (hnews : ∀ j u, new.flatten[j]? = some u → w.cell? (ad.add j) = some u) (h1 : ∀ u ∈ new.flatten, u.oneCell' = true)
    (h63 : els.length + m ≤ 9223372036854775807) (hbytes : (els.length + m) * bytes ≤ 140737488355328) (hbase : base ≤ w.heap.size)
    (h : ∀ v' w', OwnEls w' base e size v' (els ++ new) → Keeps (Own v) w w' → Fresh w v v' → (v' = .slice none 0 0 ↔ v = .slice none 0 0 ∧ m = 0) → wpList P ops Q rest (a.put o.dst v') w') : wpList P ops Q (o :: rest) a w := by
  subst hsize
  subst hby
  subst hm
  refine wpList_plain hgd fun K hK => ?_
  obtain ⟨v', w', hr, h2, h3, h4⟩ := run_append_own (P := P) w base t o.type e i z _ _ ht hi hz rfl rfl hzs hsz v els.length els.flatten hown.row ad new.length c new.flatten (length_flatten_sz new hl) hnews h1 (by unfold maxLen; omega) hbytes hbase
  have hf := append_fresh w base t o.type e i z ht hi hz v els.length els.flatten hown.row ad new.length c new.flatten (length_flatten_sz new hl) hnews h1 (by unfold maxLen; omega) hbytes hr
  unfold Oper.wp execOp
  simp only [ho, resolve, invoke, builtin, Sem.run_bind, Sem.run_pure, Result.andThen_ok, List.map_toArray, List.map_cons, List.map_nil, hs, hx, hr]
  refine hK _ _ (h v' w' ⟨by simpa using h2, fun c hc => ?_⟩ ⟨h3.os, h3.tape, h3.output, h3.size, fun k hk hn => h3.block k hk fun e => hn e.symm⟩ hf h4)
  rcases List.mem_append.1 hc with hc | hc
  · exact hown.sz c hc
  · exact hl c hc
end
/-- The cells of one element, written out in a block of its own. -/
theorem alloc_news (w : World) (cs : List Value) (E : TypeId) : ∀ j u, [cs].flatten[j]? = some u → (w.alloc (.cells cs.toArray E)).cell? ((⟨w.heap.size, 0, none⟩ : Addr).add j) = some u := by
  intro j u hj
  rw [Addr.add_lit]
  have h := RowIs.cell (RowIs.alloc (w := w) (E := E) (xs := cs)) j
  simp only [Nat.zero_add]
  rw [h]; simpa using hj
end Go.Rid
