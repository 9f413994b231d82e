/- What own and the arena's Node do: a node's copy in new memory. Conditions: the arena stands; room. -/
import Derived.Test.YtnheefnlcnkefaaGreatDoorKLMadesC
namespace Go.Rid
open Go.RowKit
def LimbV (M : Nat → Prop) (l : List Nat) : Value → World → Prop := fun v w => ∃ a n c, v = .slice a n c ∧ Limbs M w a n c l
instance {M : Nat → Prop} {l : List Nat} : Stable (LimbV M l) := ⟨fun _ _ _ k ⟨a, n, c, e, h⟩ => ⟨a, n, c, e, h.move k (fun _ _ h => h.elim) fun _ _ => id⟩⟩
def OwnIV (B : Nat) (E : TypeId) (l : List Int) : Value → World → Prop := fun v w => ∃ a c, v = .slice a l.length c ∧ OwnEls w B E 1 (.slice a l.length c) (cells1 l)
instance {B : Nat} {E : TypeId} {l : List Int} : Stable (OwnIV B E l) := ⟨fun _ _ _ k ⟨a, c, e, h⟩ => ⟨a, c, e, h.keepNil k⟩⟩
theorem RowIs.cells8 {w : World} {g : Nat} {E : TypeId} {a b c d e f x y : Value} (h : RowIs w g E [a, b, c, d, e, f, x, y]) : w.cell? ⟨g, 0, none⟩ = some a ∧ w.cell? ⟨g, 1, none⟩ = some b ∧ w.cell? ⟨g, 2, none⟩ = some c ∧ w.cell? ⟨g, 3, none⟩ = some d ∧ w.cell? ⟨g, 4, none⟩ = some e ∧ w.cell? ⟨g, 5, none⟩ = some f ∧ w.cell? ⟨g, 6, none⟩ = some x ∧ w.cell? ⟨g, 7, none⟩ = some y := ⟨h.cell 0, h.cell 1, h.cell 2, h.cell 3, h.cell 4, h.cell 5, h.cell 6, h.cell 7⟩
theorem RowIs.marks8 {w : World} {g : Nat} {E : TypeId} {xs : List Value} (h : RowIs w g E xs) : w.frozen? ⟨g, 0, none⟩ = false ∧ w.frozen? ⟨g, 1, none⟩ = false ∧ w.frozen? ⟨g, 2, none⟩ = false ∧ w.frozen? ⟨g, 3, none⟩ = false ∧ w.frozen? ⟨g, 4, none⟩ = false ∧ w.frozen? ⟨g, 5, none⟩ = false ∧ w.frozen? ⟨g, 6, none⟩ = false ∧ w.frozen? ⟨g, 7, none⟩ = false := ⟨h.frozen 0, h.frozen 1, h.frozen 2, h.frozen 3, h.frozen 4, h.frozen 5, h.frozen 6, h.frozen 7⟩
theorem RowIs.eight {w : World} {g : Nat} {E : TypeId} {a b c d e f x y : Value} (h : RowIs w g E [a, b, c, d, e, f, x, y]) (a' b' c' d' e' f' x' y' : Value) : RowIs ((((((((w.setCell ⟨g, 0, none⟩ a').setCell ⟨g, 1, none⟩ b').setCell ⟨g, 2, none⟩ c').setCell ⟨g, 3, none⟩ d').setCell ⟨g, 4, none⟩ e').setCell ⟨g, 5, none⟩ f').setCell ⟨g, 6, none⟩ x').setCell ⟨g, 7, none⟩ y') g E [a', b', c', d', e', f', x', y'] := (((((((h.set 0 a').set 1 b').set 2 c').set 3 d').set 4 e').set 5 f').set 6 x').set 7 y'
theorem Keeps.eight {w : World} {g : Nat} (a b c d e f x y : Value) : Keeps (One g) w ((((((((w.setCell ⟨g, 0, none⟩ a).setCell ⟨g, 1, none⟩ b).setCell ⟨g, 2, none⟩ c).setCell ⟨g, 3, none⟩ d).setCell ⟨g, 4, none⟩ e).setCell ⟨g, 5, none⟩ f).setCell ⟨g, 6, none⟩ x).setCell ⟨g, 7, none⟩ y) := ((((((((Keeps.refl (One g) w).set1 0 a).set1 1 b).set1 2 c).set1 3 d).set1 4 e).set1 5 f).set1 6 x).set1 7 y
def LimbIn (v : Value) (b : Nat) : Prop := ∃ g p n c, v = .agg #[.bool g, .slice (some p) (n + 1) c] ∧ p.block = b
def OwnA {α : Type} (R : List Value → α → Prop) (d : α) (E : TypeId) (sz B n : Nat) (xs : List α) (u v : Value) : Value → World → Prop := fun x w => OwnV R d E sz B n xs x w ∧ ∀ b, x.ownBlock = some b → ¬ LimbIn u b ∧ ¬ LimbIn v b
instance {α : Type} {R : List Value → α → Prop} {d : α} {E : TypeId} {sz B n : Nat} {xs : List α} {u v : Value} : Stable (OwnA R d E sz B n xs u v) := ⟨fun _ _ _ k ⟨⟨va, vc, els, e, o, n, r⟩, q⟩ => ⟨⟨va, vc, els, e, o.keepNil k, n, r⟩, q⟩⟩
end Go.Rid
namespace Go.Proofs.YtnheefnlcnkefaaGreatDoor
open Go.RowKit Go.Rid
set_option maxHeartbeats 4000000 in
set_option maxRecDepth 100000 in
theorem anode_no {w : World} {g : Nat} {a : Option Addr} {n c : Nat} {v1 v2 v3 v4 : Value} {i : Int} (h : RowIs w g 94 [.slice a n c, v1, v2, v3, v4]) (hi : ¬ (0 ≤ i ∧ i < n)) :
  Calls Tryz.prog 18 #[.pointer (some ⟨g, 0, none⟩), .int .i64 i] w fun e w' => e = .returned (.tuple #[.agg #[.int .i64 0, .bool false, .slice none 0 0, .slice none 0 0, .bool false, .slice none 0 0, .int .i64 0, .slice none 0 0], .bool false]) ∧ Keeps Nil w w' := by
 have HH := Lib.hid h
 have e : decide (0 ≤ i ∧ i < (n : Int)) = false := decide_eq_false hi
 have HI := Lib.hid e
 have hg := h.lt
 clear h hi e
 go_enter Tryz.func18, Tryz.ntmps18
 go_upto_region 1 with (fail)
 have r0 := RowIs.alloc (w := w) (E := 44) (xs := [.int .i64 0, .bool false, .slice none 0 0, .slice none 0 0, .bool false, .slice none 0 0, .int .i64 0, .slice none 0 0])
 change RowIs (w.alloc (.cells #[.int .i64 0, .bool false, .slice none 0 0, .slice none 0 0, .bool false, .slice none 0 0, .int .i64 0, .slice none 0 0] 44)) _ _ _ at r0
 have k0 : Keeps Nil w (w.alloc (.cells #[.int .i64 0, .bool false, .slice none 0 0, .slice none 0 0, .bool false, .slice none 0 0, .int .i64 0, .slice none 0 0] 44)) := kOf
 generalize (w.alloc (.cells #[.int .i64 0, .bool false, .slice none 0 0, .slice none 0 0, .bool false, .slice none 0 0, .int .i64 0, .slice none 0 0] 44)) = w0 at *
 have lr0 := r0.lt
 have H0 := Lib.hid (aI k0 r0)
 clear k0 r0
 go_wp2_with (go_at_call 47; refine (ahas_any (i := i) (HH.out.keep H0.out.1 id)).mono ?_; rintro e w1 ⟨rfl, hk1⟩; rw [HI.out]; have r1 := H0.out.2.keep hk1 id; obtain ⟨z0, z1, z2, z3, z4, z5, z6, z7⟩ := r1.cells8; obtain ⟨y0, y1, y2, y3, y4, y5, y6, y7⟩ := r1.marks8; have H1 := Lib.hid (aI hk1 r1); clear hk1 r1)
 have r6 := H1.out.2.eight (.int .i64 0) (.bool false) (.slice none 0 0) (.slice none 0 0) (.bool false) (.slice none 0 0) (.int .i64 0) (.slice none 0 0)
 obtain ⟨x0, x1, x2, x3, x4, x5, x6, x7⟩ := r6.cells8
 exact bodyPost_ret (v := .tuple #[.agg #[.int .i64 0, .bool false, .slice none 0 0, .slice none 0 0, .bool false, .slice none 0 0, .int .i64 0, .slice none 0 0], .bool false]) (by simp [results, Tryz.results18, go_sem, x0, x1, x2, x3, x4, x5, x6, x7]) rfl ⟨rfl, (H0.out.1.trans H1.out.1).own (Nat.le_refl _) (Keeps.eight _ _ _ _ _ _ _ _)⟩
end Go.Proofs.YtnheefnlcnkefaaGreatDoor
