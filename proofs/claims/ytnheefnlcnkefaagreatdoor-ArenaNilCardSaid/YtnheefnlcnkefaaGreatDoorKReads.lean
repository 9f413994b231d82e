/- From the form's own reading of an argument to the words of the walks: slices of whatever elements, limbs, numbers. Nothing is asked. -/
/- The cells of an atom that an argument holds; the library's table as the row lists it. Nothing is asked. -/
import Derived.Test.YtnheefnlcnkefaaGreatDoorRows
import Derived.Test.YtnheefnlcnkefaaGreatDoorKWords
import Derived.ProofKit
import Derived.OpenShut
import Derived.Deep.Slices
import Derived.Deep.Strs
import Derived.Lib.SmallJoins
import Derived.Test.YtnheefnlcnkefaaGreatDoorKKey
import Derived.Lib.LaidTab
namespace Go.Rid
open Go.RowKit Go.Deep Go.ChangeShapes Go.WideShapes Go.Joins

section
variable {H : Type} {enc : TypeId × Value → H} {P : Program} {w : World}
/-- All weights lie within the reach. -/
def Light (P : Program) (t : TypeId) (d : DataW H) : Prop := ∀ x ∈ d.weights P t, x ≤ reachBytes
theorem Light.slice {t e : TypeId} {elems spare : List (DataW H)} (h : Light P t (.slice elems spare)) (ht : P.underlying t = some (.slice e)) : (elems.length + spare.length) * P.bytesOf e ≤ reachBytes :=
  h _ (by simp [DataW.weights, ht])
theorem mem_weightsAll {e : TypeId} {d : DataW H} {x : Nat} (hx : x ∈ d.weights P e) : ∀ {l : List (DataW H)}, d ∈ l → x ∈ DataW.weightsAll P e l
  | _ :: _, h => by
    rw [DataW.weightsAll, List.mem_append]
    rcases List.mem_cons.1 h with rfl | h
    · exact .inl hx
    · exact .inr (mem_weightsAll hx h)
theorem Light.elem {t e : TypeId} {elems spare : List (DataW H)} (h : Light P t (.slice elems spare)) (ht : P.underlying t = some (.slice e)) {d : DataW H} (hd : d ∈ elems) : Light P e d :=
  fun x hx => h x (by simp only [DataW.weights, ht, List.mem_cons, List.mem_append]; exact .inr (.inl (mem_weightsAll hx hd)))
theorem mem_weightsEach {x : Nat} : ∀ {ts : List TypeId} {ds : List (DataW H)} {j : Nat} {t : TypeId} {d : DataW H}, ts[j]? = some t → ds[j]? = some d → x ∈ d.weights P t → x ∈ DataW.weightsEach P ts ds :=
  fun ht hd hx => DataW.weights_mem_each ht hd x hx
theorem Light.field {t u : TypeId} {fs : Array Field} {parts : List (DataW H)} {d : DataW H} {j : Nat} (h : Light P t (.agg parts)) (ht : P.underlying t = some (.struct fs)) (hf : (fs.toList.map (·.type))[j]? = some u) (hd : parts[j]? = some d) : Light P u d :=
  fun x hx => h x (by simp only [DataW.weights, ht]; exact mem_weightsEach hf hd hx)

/-- n cells from an address on. -/
theorem cells_of {b : Nat} {a : Addr} {n : Nat} {cs : List Value} (h : w.cells? b a n = some cs) : cs.length = n ∧ ∀ j, j < n → w.cell? (a.add j) = cs[j]? := by
  unfold World.cells? at h
  split at h
  · have hl := mapM_some_length h
    refine ⟨by simpa using hl, fun j hj => ?_⟩
    have := mapM_some_get h j j (by simp [hj])
    simpa using this
  · cases h

/-- A slice, read. -/
theorem slOf_of_trod {α : Type} {R : List Value → α → Prop} {d : α} {t e : TypeId} {sz fuel : Nat} {cs : List Value} {x : DataW H × List MemPlace} (ht : P.underlying t = some (.slice e)) (hsz : P.cellsOf e = sz) (h0 : 0 < sz)
    (h : DataW.trod enc P w 0 (fun _ => true) true fuel t cs = some x) (hL : Light P t x.1)
    (hR : ∀ n cs' y, cs'.length = sz → DataW.trod enc P w 0 (fun _ => true) true n e cs' = some y → Light P e y.1 → ∃ z, R cs' z) :
    ∃ a n c xs, cs = [.slice a n c] ∧ SlOf Nil w sz R d a n c xs ∧ c * P.bytesOf e ≤ reachBytes := by
  rcases open_slice ht h with ⟨rfl, rfl⟩ | ⟨a, len, cap, m, n, D, Pl, rfl, _, hle, hcm, hm, rfl, hel⟩
  · exact ⟨_, _, _, [], rfl, SlOf.nil, by simp [reachBytes]⟩
  · simp only [if_true] at hm
    subst hm
    have hD : ∀ i, i < len → ∃ (p : List Value × α), p.1.length = sz ∧ (∀ j, j < sz → w.cell? (a.add (i * sz + j)) = p.1[j]?) ∧ R p.1 p.2 := by
      intro i hi
      obtain ⟨cs', h1, h2⟩ := hel i (by omega)
      obtain ⟨hl, hc⟩ := cells_of h1
      rw [hsz] at hl hc
      obtain ⟨z, hz⟩ := hR n cs' _ hl h2 (hL.elem ht (List.mem_map.2 ⟨i, List.mem_range.2 hi, rfl⟩))
      refine ⟨(cs', z), hl, fun j hj => ?_, hz⟩
      rw [← add_add]; exact hc j hj
    haveI : Inhabited (List Value × α) := ⟨([], d)⟩
    obtain ⟨f, hf⟩ := choose_lt hD
    refine ⟨_, _, _, (List.range len).map fun i => (f i).2, rfl, ⟨by simp, fun i => (f i).1, ⟨hle, by unfold maxLen at hcm; exact hcm, (fun h => by cases h), fun p hp hl0 => ?_⟩, fun i hi => ⟨(hf i hi).1, ?_⟩⟩, ?_⟩
    · cases hp
      have hc0 := (hf 0 hl0).2.1 0 h0
      have hs0 : ∃ v, w.cell? a = some v := by
        have hl := (hf 0 hl0).1
        simp only [Nat.zero_mul, Nat.zero_add, Addr.add_zero'] at hc0
        rw [List.getElem?_eq_getElem (by omega)] at hc0
        exact ⟨_, hc0⟩
      obtain ⟨v0, hv0⟩ := hs0
      have hsp := World.cell?_spot hv0
      refine ⟨hsp, World.block_lt_of_cell? w a hv0, id, fun i j hi hj => ?_⟩
      have := (hf i hi).2.1 j hj
      obtain ⟨b, off, spot⟩ := a
      simp only at hsp
      subst hsp
      rw [Addr.add_lit] at this
      rw [Nat.add_assoc, this]
      simp [List.getD, List.getElem?_eq_getElem (show j < (f i).1.length by rw [(hf i hi).1]; exact hj)]
    · simp only [List.getD, List.getElem?_map, List.getElem?_range hi, Option.map_some, Option.getD_some]
      exact (hf i hi).2.2
    · have := hL.slice ht
      simp only [List.length_map, List.length_range] at this
      rwa [show len + (m - len) = m by omega] at this
end
end Go.Rid
namespace Go.Proofs.YtnheefnlcnkefaaGreatDoor
open Go.RowKit Go.Rid Go.Deep Go.ChangeShapes Go.WideShapes Go.Joins
section
variable {H : Type} {enc : TypeId × Value → H} {w : World}
theorem limbs_of_trod {fuel : Nat} {cs : List Value} {x : DataW H × List MemPlace} (h : DataW.trod enc Tryz.prog w 0 (fun _ => true) true fuel 37 cs = some x) (hL : Light Tryz.prog 37 x.1) :
    ∃ a n c l, cs = [.slice a n c] ∧ Limbs Nil w a n c l ∧ n * 4 ≤ 140737488355328 := by
  obtain ⟨a, n, c, xs, rfl, hs, hb⟩ := slOf_of_trod (R := fun cs z => cs = [.int .u32 (z : Nat)] ∧ z < 4294967296) (d := 0) (sz := 1) Tryz.underlying37 (by kernel_rfl) (by decide) h hL (fun n cs' y _ hy _ => by
    obtain ⟨z, rfl, _, hz⟩ := DataW.trod_int Tryz.underlying115 hy
    have hz' := bounds_u32 hz
    exact ⟨z.toNat, by rw [Int.toNat_of_nonneg hz'.1], by omega⟩)
  obtain ⟨f, h1, h2⟩ := hs.ex
  have hb4 : Tryz.prog.bytesOf 115 = 4 := by kernel_rfl
  rw [hb4] at hb
  refine ⟨a, n, c, xs, rfl, ⟨hs.len, h1.congr fun i j hi hj => ?_, fun x hx => ?_⟩, by have := hs.le; unfold reachBytes at hb; omega⟩
  · obtain rfl : j = 0 := by omega
    rw [(h2 i hi).2.1]; rfl
  · obtain ⟨i, hi, rfl⟩ := List.getElem_of_mem hx
    have := (h2 i (by have := hs.len; omega)).2.2
    simpa [List.getD, List.getElem?_eq_getElem hi] using this
set_option maxRecDepth 100000 in
theorem rint_of_trod {fuel : Nat} {cs : List Value} {x : DataW H × List MemPlace} (h : DataW.trod enc Tryz.prog w 0 (fun _ => true) true fuel 39 cs = some x) (hL : Light Tryz.prog 39 x.1) :
    ∃ z, RInt Nil w cs z := by
  obtain ⟨y0, y1, n, rfl, hl, h0, h1⟩ := trod_struct2 Tryz.underlying39 h
  have hc : Tryz.prog.cellsOf 39 = 2 := by kernel_rfl
  have hc0 : Tryz.prog.cellsOf 4 = 1 := by kernel_rfl
  have hc1 : Tryz.prog.cellsOf 37 = 1 := by kernel_rfl
  rw [hc] at hl
  match cs, hl with
  | [c0, c1], _ =>
    simp only [hc0, hc1, List.drop_zero, List.take_succ_cons, List.take_zero, List.drop_succ_cons] at h0 h1
    obtain ⟨b, e0, _⟩ := DataW.trod_bool Tryz.underlying4 h0
    obtain ⟨a, n, c, l, e1, hL1, hr⟩ := limbs_of_trod h1 (hL.field (j := 1) Tryz.underlying39 rfl rfl)
    cases e0
    cases e1
    exact ⟨(b, l), a, n, c, rfl, hL1, hr⟩
theorem ints_of_trod {fuel : Nat} {cs : List Value} {x : DataW H × List MemPlace} (h : DataW.trod enc Tryz.prog w 0 (fun _ => true) true fuel 106 cs = some x) (hL : Light Tryz.prog 106 x.1) :
    ∃ a n c xs, cs = [.slice a n c] ∧ Ints Nil w a n c xs ∧ n * 32 ≤ 140737488355328 := by
  obtain ⟨a, n, c, xs, rfl, hs, hb⟩ := slOf_of_trod (R := RInt Nil w) (d := (false, [])) (sz := 2) Tryz.underlying106 (by kernel_rfl) (by decide) h hL (fun n cs' y _ hy hl => rint_of_trod hy hl)
  have hb4 : Tryz.prog.bytesOf 39 = 32 := by kernel_rfl
  rw [hb4] at hb
  exact ⟨a, n, c, xs, rfl, hs, by have := hs.le; unfold reachBytes at hb; omega⟩
end
end Go.Proofs.YtnheefnlcnkefaaGreatDoor

namespace Go.Proofs.YtnheefnlcnkefaaGreatDoor
open Go.RowKit Go.Rid Go.Deep Go.ChangeShapes Go.WideShapes Go.Joins
section
variable {H : Type} {enc : TypeId × Value → H} {w : World}
theorem slice_shape {t e : TypeId} {fuel : Nat} {cs : List Value} {x : DataW H × List MemPlace} (ht : Tryz.prog.underlying t = some (.slice e)) (h : DataW.trod enc Tryz.prog w 0 (fun _ => true) true fuel t cs = some x) : ∃ a n c, cs = [.slice a n c] := by
  rcases open_slice ht h with ⟨rfl, -⟩ | ⟨a, len, cap, m, n, D, Pl, rfl, -⟩
  · exact ⟨_, _, _, rfl⟩
  · exact ⟨_, _, _, rfl⟩
set_option maxRecDepth 100000 in
theorem int_shape {fuel : Nat} {cs : List Value} {x : DataW H × List MemPlace} (h : DataW.trod enc Tryz.prog w 0 (fun _ => true) true fuel 39 cs = some x) : ∃ g a n c, cs = [.bool g, .slice a n c] := by
  obtain ⟨y0, y1, n, rfl, hl, h0, h1⟩ := trod_struct2 Tryz.underlying39 h
  have hc : Tryz.prog.cellsOf 39 = 2 := by kernel_rfl
  have hc0 : Tryz.prog.cellsOf 4 = 1 := by kernel_rfl
  have hc1 : Tryz.prog.cellsOf 37 = 1 := by kernel_rfl
  rw [hc] at hl
  match cs, hl with
  | [c0, c1], _ =>
    simp only [hc0, hc1, List.drop_zero, List.take_succ_cons, List.take_zero, List.drop_succ_cons] at h0 h1
    obtain ⟨b, e0, _⟩ := DataW.trod_bool Tryz.underlying4 h0
    obtain ⟨a, n, c, e1⟩ := slice_shape Tryz.underlying37 h1
    cases e0
    cases e1
    exact ⟨_, _, _, _, rfl⟩
set_option maxRecDepth 100000 in
theorem term_shape {fuel : Nat} {cs : List Value} {x : DataW H × List MemPlace} (h : DataW.trod enc Tryz.prog w 0 (fun _ => true) true fuel 42 cs = some x) : ∃ ap np cp g a n c, cs = [.slice ap np cp, .bool g, .slice a n c] := by
  obtain ⟨y0, y1, n, rfl, hl, h0, h1⟩ := trod_struct2 Tryz.underlying42 h
  have hc : Tryz.prog.cellsOf 42 = 3 := by kernel_rfl
  have hc0 : Tryz.prog.cellsOf 40 = 1 := by kernel_rfl
  have hc1 : Tryz.prog.cellsOf 39 = 2 := by kernel_rfl
  rw [hc] at hl
  match cs, hl with
  | [c0, c1, c2], _ =>
    simp only [hc0, hc1, List.drop_zero, List.take_succ_cons, List.take_zero, List.drop_succ_cons] at h0 h1
    obtain ⟨ap, np, cp, e0⟩ := slice_shape Tryz.underlying40 h0
    obtain ⟨g, a, n, c, e1⟩ := int_shape h1
    cases e0
    cases e1
    exact ⟨_, _, _, _, _, _, _, rfl⟩
set_option maxRecDepth 100000 in
theorem atom_shape {fuel : Nat} {cs : List Value} {x : DataW H × List MemPlace} (h : DataW.trod enc Tryz.prog w 0 (fun _ => true) true fuel 58 cs = some x) : ∃ k gd ad nd cd ap np cp gk ak nk ck, cs = [.int .i64 k, .bool gd, .slice ad nd cd, .slice ap np cp, .bool gk, .slice ak nk ck] := by
  obtain ⟨y0, y1, y2, n, rfl, hl, h0, h1, h2⟩ := trod_struct3 Tryz.underlying58 h
  have hc : Tryz.prog.cellsOf 58 = 6 := by kernel_rfl
  have hc0 : Tryz.prog.cellsOf 3 = 1 := by kernel_rfl
  have hc1 : Tryz.prog.cellsOf 39 = 2 := by kernel_rfl
  have hc2 : Tryz.prog.cellsOf 42 = 3 := by kernel_rfl
  rw [hc] at hl
  match cs, hl with
  | [c0, c1, c2, c3, c4, c5], _ =>
    simp only [hc0, hc1, hc2, List.drop_zero, List.take_succ_cons, List.take_zero, List.drop_succ_cons] at h0 h1 h2
    obtain ⟨z0, e0, _, k0⟩ := DataW.trod_int Tryz.underlying3 h0
    obtain ⟨g, a, n, c, e1⟩ := int_shape h1
    obtain ⟨ap, np, cp, g2, a2, n2, c2, e2⟩ := term_shape h2
    cases e0
    cases e1
    cases e2
    exact ⟨_, _, _, _, _, _, _, _, _, _, _, _, rfl⟩
end
/-- The rest of the list. -/
theorem laid_tail {P : Program} {x : String × DataW Unit} {r : List (String × DataW Unit)} {w : World} (h : laidMet P (x :: r) w) : laidMet P r w := by
  obtain ⟨ps, hv, hnd, hrows⟩ := h
  obtain ⟨n, d⟩ := x
  obtain ⟨g, t, cs, fuel, p, q, _, _, _, _, hq, rfl⟩ := hv
  exact ⟨q, hq, List.Nodup.sublist (List.sublist_append_right _ _) hnd, fun b off hm => hrows b off (List.mem_append_right _ hm)⟩
theorem gTab : Tryz.prog.globalNamed "internal/strconv.uint64pow10" = some 0 := by kernel_rfl
theorem gTabType : (Tryz.prog.globals[0]?).map (·.type) = some 212 := by kernel_rfl
theorem cells212 : Tryz.prog.cellsOf 212 = 20 := by kernel_rfl
theorem cellsU64 : Tryz.prog.cellsOf 142 = 1 := by kernel_rfl
/-- What the row's list gives. -/
theorem tab_of_laid {W : World} (h : laidMetH Tryz.prog [("math/bits.deBruijn32tab", Rows.laid_math_bits_deBruijn32tab), ("math/bits.deBruijn64tab", Rows.laid_math_bits_deBruijn64tab), ("internal/strconv.uint64pow10", Rows.laid_internal_strconv_uint64pow10)] W) : Tab W.heap.size W :=
  ⟨Nat.le_refl _, Lib.tabBelow_of_tabIs (Lib.tabIs_of_head (rest := []) gTab gTabType Tryz.underlying212 Tryz.underlying142 cellsU64 cells212 (laid_tail (laid_tail h)))⟩
/-- A world for the witness: the tables hold what their initialisers lay. -/
def litOf (d : DataW Unit) : Value := match d with
  | .lit (.int k z) => .int k z
  | _ => undef
def litsOf (d : DataW Unit) : List Value := match d with
  | .agg ps => ps.map litOf
  | _ => []
def setTab (d : DataW Unit) (o : Obj) : Obj := match o with
  | .cells _ t frozen => .cells (litsOf d).toArray t frozen
  | o => o
noncomputable def laidWorld (os : Os) : World :=
  { World.holding Tryz.prog os ⟨#[], #[], []⟩ with heap := (((World.holding Tryz.prog os ⟨#[], #[], []⟩).heap.modify 0 (setTab Rows.laid_internal_strconv_uint64pow10)).modify 1 (setTab Rows.laid_math_bits_deBruijn32tab)).modify 2 (setTab Rows.laid_math_bits_deBruijn64tab) }
end Go.Proofs.YtnheefnlcnkefaaGreatDoor
