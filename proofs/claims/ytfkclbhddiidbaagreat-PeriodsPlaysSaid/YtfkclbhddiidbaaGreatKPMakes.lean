/- Recipes as lists; lists of sets that grow: XPSets' helpers without its walk (for a seat without Pick), and two lists that grow side by side. No condition. -/
import Derived.Test.YtfkclbhddiidbaaGreatKPDo
import Derived.Test.YtfkclbhddiidbaaGreatKRDo
namespace Go.Rid
open Go.RowKit
def Makes (M : Nat → Prop) (w : World) (a : Option Addr) (n c : Nat) (l : List Mk) : Prop := SlOf M w 7 (RMk M w) ⟨0, 0, 0, 0, 0⟩ a n c l
theorem Makes.keepNil {M : Nat → Prop} {w w' : World} {a : Option Addr} {n c : Nat} {l : List Mk} (h : Makes M w a n c l) (k : Keeps Nil w w') : Makes M w' a n c l :=
  SlOf.move h k (fun _ _ h => h.elim) (fun _ _ => id) fun _ _ hx => RMk.moves hx k (fun _ _ h => h.elim) fun _ _ => id
theorem Makes.at {M : Nat → Prop} {w : World} {a : Option Addr} {n c : Nat} {l : List Mk} (h : Makes M w a n c l) {i : Nat} (hi : i < n) :
    ∃ b off m g a1 n1 c1 g2 a2 n2 c2, m = l.getD i ⟨0, 0, 0, 0, 0⟩ ∧ a = some ⟨b, off, none⟩ ∧ b < w.heap.size ∧ (w.cell? ⟨b, off + i * 7, none⟩ = some (.int .i64 m.kind) ∧ w.cell? ⟨b, off + i * 7 + 1, none⟩ = some (.int .i64 m.a) ∧ w.cell? ⟨b, off + i * 7 + 2, none⟩ = some (.int .i64 m.b) ∧
      w.cell? ⟨b, off + i * 7 + 3, none⟩ = some (.bool g) ∧ w.cell? ⟨b, off + i * 7 + 4, none⟩ = some (.slice a1 n1 c1) ∧ w.cell? ⟨b, off + i * 7 + 5, none⟩ = some (.bool g2) ∧ w.cell? ⟨b, off + i * 7 + 6, none⟩ = some (.slice a2 n2 c2)) ∧
      ZAt M w g a1 n1 c1 m.k ∧ ZAt M w g2 a2 n2 c2 m.d ∧ n1 * 4 + 4096 ≤ 140737488355328 ∧ n2 * 4 + 4096 ≤ 140737488355328 ∧ I64 m.kind ∧ I64 m.a ∧ I64 m.b := by
  obtain ⟨b, off, cs, rfl, hb, hn, hl, hc, g, a1, n1, c1, g2, a2, n2, c2, rfl, r⟩ := SlOf.at h hi
  exact ⟨b, off, _, g, a1, n1, c1, g2, a2, n2, c2, rfl, rfl, hb, ⟨hc 0 (by omega), hc 1 (by omega), hc 2 (by omega), hc 3 (by omega), hc 4 (by omega), hc 5 (by omega), hc 6 (by omega)⟩, r⟩
theorem Makes.fit {w : World} {a : Option Addr} {n c : Nat} {l : List Mk} (h : Makes Nil w a n c l) : ∀ m ∈ l, nlen m.k.natAbs * 4 + 4096 ≤ 140737488355328 := by
  intro m hm
  obtain ⟨i, hi, rfl⟩ := List.mem_iff_getElem.1 hm
  obtain ⟨b, off, m', g, a1, n1, c1, g2, a2, n2, c2, rfl, _, _, _, hz, _, hr, _⟩ := h.at (i := i) (by have : l.length = n := SlOf.len h; omega)
  have e : l.getD i ⟨0, 0, 0, 0, 0⟩ = l[i] := by simp [List.getD, List.getElem?_eq_getElem hi]
  rw [e] at hz
  have := hz.nlen_le
  omega
end Go.Rid
namespace Go.Proofs.YtfkclbhddiidbaaGreat
open Go.RowKit Go.Rid
theorem info_setp : (Tryz.prog.info? 25).map (fun i => (i.zero, i.size, i.bytes)) = some (some (.pointer none), 1, 8) := by kernel_rfl
/-- What 'sets' answers. -/
def SetsRet (M : Nat → Prop) (w : World) (l : List Mk) (e : Ending) (w' : World) : Prop := ∃ a c, e = .returned (.slice a (buildS l).length c) ∧ Sets M M w' a (buildS l).length c (buildS l) ∧ Keeps Nil w w'
/-- The last one. -/
theorem grown_last {M : Nat → Prop} {w : World} {base : Nat} {v : Value} {els : List (List Value)} {out : List PSet} (h : Grown RSet noneSet 25 1 M w base v els out) (hl : 1 ≤ out.length) :
    ∃ g cap p, v = .slice (some ⟨g, 0, none⟩) els.length cap ∧ els.length ≤ cap ∧ cap ≤ 9223372036854775807 ∧ w.cell? ⟨g, els.length - 1, none⟩ = some (.pointer (some ⟨p, 0, none⟩)) ∧ g < w.heap.size := by
  have hlen := h.len
  rcases h.own.form with ⟨_, e⟩ | ⟨g, cap, rest, e, hr, h1, h2, _, _⟩
  · rw [e] at hlen; simp only [List.length_nil] at hlen; omega
  · obtain ⟨p, e2, _⟩ := h.el (els.length - 1) (by omega)
    have hf := flatten_get els h.own.sz (els.length - 1) 0 (by omega) (by omega)
    rw [e2] at hf
    refine ⟨g, cap, p, e, h1, h2, ?_, hr.lt⟩
    rw [hr.cell]
    simp only [Nat.mul_one, Nat.add_zero] at hf
    rw [List.getElem?_append_left (List.getElem?_eq_some_iff.1 hf).1, hf]; rfl
theorem do_inl {M : Nat → Prop} {w w' : World} {r : Int ⊕ PSet} {x : Int} {e : Ending} (hr : r = .inl x) (h : DoRet M w r e w') : ∃ k, k ≠ 0 ∧ e = .returned (.tuple #[.pointer none, .int .i64 k]) ∧ Keeps Nil w w' := by
  rcases h with ⟨k, _, h⟩ | ⟨S, p, h, _⟩
  · exact ⟨k, h⟩
  · rw [hr] at h; cases h
theorem do_inr {M : Nat → Prop} {w w' : World} {r : Int ⊕ PSet} {S : PSet} {e : Ending} (hr : r = .inr S) (h : DoRet M w r e w') : TwoRet M w S e w' := by
  rcases h with ⟨k, h, _⟩ | ⟨S', p, h, h2⟩
  · rw [hr] at h; cases h
  · rw [hr] at h; cases h; exact ⟨p, h2⟩
theorem info_rset : (Tryz.prog.info? 30).map (fun i => (i.zero, i.size, i.bytes)) = some (some (.agg #[.int .i64 0, .slice none 0 0, .slice none 0 0]), 3, 56) := by kernel_rfl
theorem Grown.beside {α : Type} {R : (Nat → Prop) → World → List Value → α → Prop} {d : α} {E : TypeId} {sz base : Nat} {w w' : World} {u u' v : Value} {els : List (List Value)} {xs : List α} (hR : Moves R) (h : Grown R d E sz (Own u) w base v els xs) (k : Keeps (Own u) w w') (hf : Fresh w u u') (hd : ∀ b, v.ownBlock = some b → u.ownBlock ≠ some b) : Grown R d E sz (Own u') w' base v els xs :=
  ⟨h.own.keep k (fun b hb => hd b hb), h.len, fun i hi => hR (h.el i hi) k (fun _ _ hm => .inl hm) fun b hb hm => hm.elim (fun ho => (hf b ho).elim (fun h => .inl h) fun hl => absurd hb (by omega)) fun ho => .inr ho⟩
theorem OwnEls.ofRow3 {w : World} {base g : Nat} {E : TypeId} {v1 v2 v3 : Value} (h : RowIs w g E [v1, v2, v3]) (hb : base ≤ g) : OwnEls w base E 3 (.slice (some ⟨g, 0, none⟩) 1 1) [[v1, v2, v3]] :=
  ⟨⟨rfl, .inr ⟨g, 1, #[v1, v2, v3], rfl, hb, h, Nat.le_refl _, by decide, rfl, rfl⟩⟩, by simp⟩
theorem rdo_inl {M : Nat → Prop} {w w' : World} {r : Int ⊕ PSet} {x : Int} {e : Ending} (hr : r = .inl x) (h : RDoRet M w r e w') : x ≠ 0 ∧ RSetNo w x e w' := by
  rcases h with ⟨k, h, hk, h2⟩ | ⟨S, h, _⟩
  · rw [hr] at h; cases h; exact ⟨hk, h2⟩
  · rw [hr] at h; cases h
theorem rdo_inr {M : Nat → Prop} {w w' : World} {r : Int ⊕ PSet} {S : PSet} {e : Ending} (hr : r = .inr S) (h : RDoRet M w r e w') : RSetYes M w S e w' := by
  rcases h with ⟨k, h, _⟩ | ⟨S', h, h2⟩
  · rw [hr] at h; cases h
  · rw [hr] at h; cases h; exact h2
theorem do_inl' {M : Nat → Prop} {w w' : World} {r : Int ⊕ PSet} {x : Int} {e : Ending} (hr : r = .inl x) (h : DoRet M w r e w') : x ≠ 0 ∧ e = .returned (.tuple #[.pointer none, .int .i64 x]) ∧ Keeps Nil w w' := by
  rcases h with ⟨k, e1, hk, h⟩ | ⟨S, p, h, _⟩
  · rw [hr] at e1; cases e1; exact ⟨hk, h⟩
  · rw [hr] at h; cases h
end Go.Proofs.YtfkclbhddiidbaaGreat
