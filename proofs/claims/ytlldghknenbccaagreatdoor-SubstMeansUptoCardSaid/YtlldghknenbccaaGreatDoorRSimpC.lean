/- What simp answers to the laws' awake: plain laws. -/
import Derived.Test.YtlldghknenbccaaGreatDoorRSimpB
set_option linter.unusedSimpArgs false
set_option linter.unusedVariables false
namespace Go.Proofs.Q
open Go.RowKit

section
variable {O:Nat→Prop} {r:(Int × Int) × aC × (Int × Int)} {nodes limbs sp ov:Int} {gm g:Nat} {w0 w:World} {e:Ending}
structure Up (w0 w:World) (O:Nat→Prop) (g gm:Nat) (nodes limbs:Int) (A:aC) (sp ov:Int):Prop where
 arena:bW O w g gm A
 jC:bR O w gm nodes limbs sp ov
 low:∀b,O b∨b=gm→w0.heap.size≤b
 keep:aA Nil w0 w
theorem Up.mb {A:aC} (h:Up w0 w O g gm nodes limbs A sp ov):MB O w:=h.arena.lt
theorem Up.on {w1:World} {A:aC} (h:Up w0 w O g gm nodes limbs A sp ov) (k:aA Nil w w1):Up w0 w1 O g gm nodes limbs A sp ov:=⟨h.arena.keep k fun _ h=>h.elim,h.jC.eO k,h.low,h.keep.trans k⟩
theorem Up.step {w':World} {A:aC} (h:Up w0 w O g gm nodes limbs A sp ov) (hst:cO O O w g gm nodes limbs r e w') :
  e=.returned (.tuple #[.int .i64 r.1.1,.int .i64 r.1.2])∧∃O':Nat→Prop,Up w0 w' O' g gm nodes limbs r.2.1 r.2.2.1 r.2.2.2:=by
 obtain ⟨h1,⟨O',q1,q2,q3,q4⟩,k⟩:=hst;refine ⟨h1,O',q1,q4.move (aA.refl Nil w') (fun _ _ h=>h.elim) fun b _ hb=>.inr hb,fun b hb=>?_,h.keep.newer k h.low⟩;rcases hb with hb|hb
 ·rcases q3 b hb with h2|h2
  ·exact h.low b (.inl h2)
  ·exact bZ1 h.keep.size h2
 ·exact h.low b (.inr hb)
theorem Up.start {w w1:World} {g b2 b3 b4 b5 gm:Nat} {nodes limbs:Int} (hm:bR (fun b=>Nil b∨b=g∨b=b2∨b=b3∨b=b4∨b=b5) w1 gm nodes limbs 0 0) (hgm:w.heap.size≤gm) (r0:aF w1 g 118 [.slice (some ⟨b2,0,none⟩) 2 2,.slice (some ⟨b3,0,none⟩) 2 2,.slice (some ⟨b4,0,none⟩) 2 2,.map (some b5),.pointer (some ⟨gm,0,none⟩)])
  (r2:aF w1 b2 59 [.int .i64 0,.bool false,.slice none 0 0,.slice none 0 0,.bool false,.slice none 0 0,.int .i64 0,.slice none 0 0,.int .i64 1,.bool false,.slice none 0 0,.slice none 0 0,.bool false,.slice none 0 0,.int .i64 0,.slice none 0 0])
  (r3:aF w1 b3 56 [.slice none 0 0,.slice none 0 0]) (r4:aF w1 b4 3 [.int .i64 0,.int .i64 0]) (r5:w1.heap[b5]?=some (.map #[] 0)) (hk:aA Nil w w1) (h1:w.heap.size≤g) (h2:w.heap.size≤b2) (h3:w.heap.size≤b3) (h4:w.heap.size≤b4) (h5:w.heap.size≤b5) :
  ∃O:Nat→Prop,Up w w1 O g gm nodes limbs gJ 0 0:=by
 obtain ⟨O,hO⟩:∃O:Nat→Prop,O=fun b=>b=g∨b=b2∨b=b3∨b=b4∨b=b5:=⟨_,rfl⟩;have hm1:bR O w1 gm nodes limbs 0 0:=hm.move (aA.refl Nil w1) (fun _ _ h=>h.elim) fun b _ hb=>by rw [hO] at hb;exact .inr hb
 have hng:¬O gm:=by obtain ⟨s,-,-,-,hng,-⟩:=hm1;exact hng
 have hA:bW O w1 g gm gJ:=by
  rw [hO] at hng⊢;exact⟨w.heap.size,_,_,_,_,_,_,kJ.start r0 r2 r3 r4 r5 h1 h2 h3 h4 h5 ⟨fun e=>hng (.inl e),fun e=>hng (.inr (.inl e)),fun e=>hng (.inr (.inr (.inl e))),fun e=>hng (.inr (.inr (.inr (.inl e)))),fun e=>hng (.inr (.inr (.inr (.inr e))))⟩⟩
 refine ⟨O,hA,hm1,fun b hb=>?_,hk⟩;rcases hb with hb|rfl
 ·rw [hO] at hb;rcases hb with rfl|rfl|rfl|rfl|rfl<;>assumption
 ·exact hgm
end
end Go.Proofs.Q
