/- riddleref18's set half joined, as its memory lies. No condition. -/
import Derived.Test.YtfkclbhddiidbaaGreatKRSet9
import Derived.Test.YtfkclbhddiidbaaGreatKRSetA
import Derived.Test.YtfkclbhddiidbaaGreatKJoins
namespace Go.Proofs.YtfkclbhddiidbaaGreat.R18
open Go.RowKit Go.Rid
/-- The set half joined, and the cuts that are gone through. -/
structure Half (M : Nat → Prop) (base po q : Nat) (w : World) (vc vr : Value) (eC eR : List (List Value)) (out : List Int × List (List Bool)) (la : Option Addr) (ln lc : Nat) (zs : List Int) : Prop where
  box : RowIs w po 30 [.int .i64 q, vc, vr]
  oC : OwnEls w base 38 2 vc eC
  oR : OwnEls w base 58 1 vr eR
  lC : out.1.length = eC.length
  lR : out.2.length = eR.length
  elC : ∀ i, i < eC.length → RZ (Turn M po vc vr) w (eC.getD i []) (out.1.getD i 0)
  elR : ∀ i, i < eR.length → RBools (Turn M po vc vr) w (eR.getD i []) (out.2.getD i [])
  list : ZInts (Turn M po vc vr) w la ln lc zs
variable {M : Nat → Prop} {base po q : Nat} {w w' : World} {vc vr vc' vr' : Value} {eC eR : List (List Value)} {out : List Int × List (List Bool)} {la : Option Addr} {ln lc : Nat} {zs : List Int}
theorem Half.keepNil (h : Half M base po q w vc vr eC eR out la ln lc zs) (k : Keeps Nil w w') : Half M base po q w' vc vr eC eR out la ln lc zs :=
  ⟨h.box.keep k id, h.oC.keepNil k, h.oR.keepNil k, h.lC, h.lR, fun i hi => (h.elC i hi).move k (fun _ _ h => h.elim) fun _ _ => id, fun i hi => (h.elR i hi).move k (fun _ _ h => h.elim) fun _ _ => id, h.list.keepNil k⟩
/-- One cut more. -/
theorem Half.push (h : Half M base po q w vc vr eC eR out la ln lc zs) (k : Keeps (Turn Nil po vc vr) w w') (hb : RowIs w' po 30 [.int .i64 q, vc', vr']) {cC cR : List Value} {z : Int} {r : List Bool} (hC : RZ (Turn M po vc vr) w cC z) (hR : RBools (Turn M po vc vr) w cR r)
    (oC : OwnEls w' base 38 2 vc' (eC ++ [cC])) (oR : OwnEls w' base 58 1 vr' (eR ++ [cR])) (nC : ∀ b, vc'.ownBlock = some b → vc.ownBlock = some b ∨ w.heap.size ≤ b) (nR : ∀ b, vr'.ownBlock = some b → vr.ownBlock = some b ∨ w.heap.size ≤ b) :
    Half M base po q w' vc' vr' (eC ++ [cC]) (eR ++ [cR]) (out.1 ++ [z], out.2 ++ [r]) la ln lc zs := by
  have h1 : ∀ b, b < w.heap.size → Turn Nil po vc vr b → Turn M po vc vr b := fun b _ hb => by
    rcases hb with hb | hb
    · exact hb.elim
    · exact .inr hb
  have h2 : ∀ b, b < w.heap.size → Turn M po vc' vr' b → Turn M po vc vr b := fun b hlt hb => by
    rcases hb with hb | hb | hb | hb
    · exact .inl hb
    · exact .inr (.inl hb)
    · rcases nC b hb with hb | hb
      · exact .inr (.inr (.inl hb))
      · omega
    · rcases nR b hb with hb | hb
      · exact .inr (.inr (.inr hb))
      · omega
  refine ⟨hb, oC, oR, by simp [h.lC], by simp [h.lR], fun i hi => ?_, fun i hi => ?_, h.list.move k h1 h2⟩
  · rcases Nat.lt_or_ge i eC.length with hi' | hi'
    · rw [getD_snoc_lt _ _ _ hi', show (out.1 ++ [z], out.2 ++ [r]).1 = out.1 ++ [z] from rfl, getD_snoc_lt _ _ _ (by rw [h.lC]; exact hi')]
      exact (h.elC i hi').move k h1 h2
    · have : i = eC.length := by simp at hi; omega
      subst this
      rw [getD_snoc_eq, show (out.1 ++ [z], out.2 ++ [r]).1 = out.1 ++ [z] from rfl, ← h.lC, getD_snoc_eq]
      exact hC.move k h1 h2
  · rcases Nat.lt_or_ge i eR.length with hi' | hi'
    · rw [getD_snoc_lt _ _ _ hi', show (out.1 ++ [z], out.2 ++ [r]).2 = out.2 ++ [r] from rfl, getD_snoc_lt _ _ _ (by rw [h.lR]; exact hi')]
      exact (h.elR i hi').move k h1 h2
    · have : i = eR.length := by simp at hi; omega
      subst this
      rw [getD_snoc_eq, show (out.1 ++ [z], out.2 ++ [r]).2 = out.2 ++ [r] from rfl, ← h.lR, getD_snoc_eq]
      exact hR.move k h1 h2
/-- The set, joined. -/
theorem Half.sv (h : Half M base po q w vc vr eC eR out la ln lc zs) (hM : ∀ b, M b → b < base) : ∃ ac nc cc ar nr cr, vc = .slice ac nc cc ∧ vr = .slice ar nr cr ∧ SV M w ac nc cc ar nr cr ⟨q, out.1, out.2⟩ := by
  obtain ⟨a, c, e1, h1⟩ := OwnEls.sl (M := M) h.oC (fun b hb hm => by have := (h.oC.lt b hb).1; have := hM b hm; omega) h.lC fun i hi => (h.elC i hi).move (M' := Nil) (M2 := M) (Keeps.refl Nil w) (fun _ _ h => h.elim) fun _ _ => .inl
  obtain ⟨a2, c2, e2, h2⟩ := OwnEls.sl (M := M) h.oR (fun b hb hm => by have := (h.oR.lt b hb).1; have := hM b hm; omega) h.lR fun i hi => (h.elR i hi).move (M' := Nil) (M2 := M) (Keeps.refl Nil w) (fun _ _ h => h.elim) fun _ _ => .inl
  exact ⟨_, _, _, _, _, _, e1, e2, h1, h2⟩
/-- The last row. -/
theorem Half.last (h : Half M base po q w vc vr eC eR out la ln lc zs) (hl : 1 ≤ out.2.length) : ∃ g cap a n c, vr = .slice (some ⟨g, 0, none⟩) eR.length cap ∧ eR.length ≤ cap ∧ cap ≤ 9223372036854775807 ∧ w.cell? ⟨g, eR.length - 1, none⟩ = some (.slice a n c) ∧ g < w.heap.size ∧ Bools Nil w a n c (out.2.getD (out.2.length - 1) []) := by
  have hlr := h.lR
  rcases h.oR.form with ⟨_, e⟩ | ⟨g, cap, rest, e, hr, h1, h2, _, _⟩
  · rw [e] at hlr; simp only [List.length_nil] at hlr; omega
  · obtain ⟨a, n, c, e2, hB⟩ := h.elR (eR.length - 1) (by omega)
    have hf := flatten_get eR h.oR.sz (eR.length - 1) 0 (by omega) (by omega)
    rw [e2] at hf
    refine ⟨g, cap, a, n, c, e, h1, h2, ?_, hr.lt, ?_⟩
    · rw [hr.cell]
      simp only [Nat.mul_one, Nat.add_zero] at hf
      rw [List.getElem?_append_left (List.getElem?_eq_some_iff.1 hf).1, hf]; rfl
    · rw [hlr]; exact hB.move (Keeps.refl Nil w) (fun _ _ h => h.elim) fun _ _ h => h.elim
/-- The set as it begins. -/
theorem half_start {w5 : World} {gr c3 : Nat} {a3 : Option Addr} {r : List Bool} (hB : Bools (Turn M po (.slice none 0 0) (.slice (some ⟨gr, 0, none⟩) 1 1)) w5 a3 q c3 r) (ho : RowIs w5 po 30 [.int .i64 q, .slice none 0 0, .slice (some ⟨gr, 0, none⟩) 1 1]) (hr : RowIs w5 gr 58 [.slice a3 q c3]) (hb : base ≤ gr) (hz : ZInts (Turn M po (.slice none 0 0) (.slice (some ⟨gr, 0, none⟩) 1 1)) w5 la ln lc zs) :
    Half M base po q w5 (.slice none 0 0) (.slice (some ⟨gr, 0, none⟩) 1 1) [] [[.slice a3 q c3]] ([], [r]) la ln lc zs := by
  refine ⟨ho, OwnEls.nil _ _ _ _, OwnEls.ofRow1 hr hb, rfl, rfl, fun i hi => by simp at hi, fun i hi => ?_, hz⟩
  obtain rfl : i = 0 := by simpa using hi
  exact ⟨_, _, _, rfl, hB⟩
/-- The set that is begun: its box, its one row. -/
def RBegun (M : Nat → Prop) (w0 : World) (q : Nat) (r : List Bool) (v : Value) (W : World) : Prop :=
  ∃ po gr a3 c3, v = .pointer (some ⟨po, 0, none⟩) ∧ RowIs W po 30 [.int .i64 (q : Int), .slice none 0 0, .slice (some ⟨gr, 0, none⟩) 1 1] ∧ RowIs W gr 58 [.slice a3 q c3] ∧ Bools (Turn M po (.slice none 0 0) (.slice (some ⟨gr, 0, none⟩) 1 1)) W a3 q c3 r ∧ w0.heap.size ≤ gr ∧ w0.heap.size ≤ po ∧ Keeps Nil w0 W
theorem rbegun_of {w0 w3 w4 W wx : World} {gr c3 : Nat} {a3 : Option Addr} {r : List Bool} (hM0 : ∀ b, M b → b < w0.heap.size) (hx : w0.heap.size ≤ wx.heap.size) (hB : Bools (Old wx) w3 a3 q c3 r) (hgr : RowIs w4 gr 58 [.slice a3 q c3]) (hgb : w3.heap.size ≤ gr) (k34 : Keeps Nil w3 w4) (kW : Keeps (One po) w4 W) (hpo : po < wx.heap.size ∨ w3.heap.size ≤ po) (hne : ¬ gr = po) (hpo0 : w0.heap.size ≤ po)
    (hrow : RowIs W po 30 [.int .i64 (q : Int), .slice none 0 0, .slice (some ⟨gr, 0, none⟩) 1 1]) (k0 : Keeps Nil w0 w3) : RBegun M w0 q r (.pointer (some ⟨po, 0, none⟩)) W := by
  refine ⟨po, gr, a3, c3, rfl, hrow, hgr.keep kW hne, hB.move (M' := One po) (k34.of_nil.trans kW) (fun b hlt hb => ?_) (fun b hlt hm => ?_), Nat.le_trans k0.size hgb, hpo0, (k0.trans k34).trans' kW fun b hb => .inr (by cases (show b = po from hb); exact hpo0)⟩
  · cases (show b = po from hb)
    rcases hpo with h | h
    · exact h
    · omega
  · rcases hm with hm | hm | hm | hm
    · exact Nat.lt_of_lt_of_le (hM0 b hm) hx
    · subst hm
      rcases hpo with h | h
      · exact h
      · omega
    · simp [Value.ownBlock] at hm
    · simp [Value.ownBlock] at hm; omega
theorem Half.mb (h : Half M base po q w vc vr eC eR out la ln lc zs) (hM : MB M w) : MB (Turn M po vc vr) w := fun b hb => by
  rcases hb with hb | hb | hb | hb
  · exact hM b hb
  · have := h.box.lt; omega
  · exact (h.oC.lt b hb).2
  · exact (h.oR.lt b hb).2
end Go.Proofs.YtfkclbhddiidbaaGreat.R18
