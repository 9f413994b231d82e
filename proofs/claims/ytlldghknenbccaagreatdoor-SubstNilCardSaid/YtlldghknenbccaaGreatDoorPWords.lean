/- Plain words for the walks: which blocks may be written, what a slice of whatever elements reads as, numbers as. -/
import Derived.WalkSpells
import Derived.WalkLawsBesides
import Derived.Lib.Hide
import Derived.BigQuiet
import Derived.Laws.CopyOwn
import Derived.Sort.Grow
set_option linter.unusedSimpArgs false
set_option linter.unusedVariables false
namespace Go.Proofs.Q
open Go.RowKit
section
structure aA (M:Nat→Prop) (w w':World):Prop where
  os:w'.os=w.os
  tape:w'.tape=w.tape
  output:w'.output=w.output
  size:w.heap.size≤w'.heap.size
  block:∀k,k<w.heap.size→¬M k→w'.heap[k]?=w.heap[k]?
def Nil:Nat→Prop:=fun _=>False
def One (b:Nat):Nat→Prop:=fun k=>k=b
def MB (M:Nat→Prop) (w:World):Prop:=∀b,M b→b<w.heap.size
theorem aA.refl (M:Nat→Prop) (w:World):aA M w w:=⟨rfl,rfl,rfl,Nat.le_refl _,fun _ _ _=>rfl⟩
theorem aA.trans' {M M':Nat→Prop} {a b c:World} (h:aA M a b) (k:aA M' b c) (hm:∀k,M' k→M k∨a.heap.size≤k):aA M a c:=
  ⟨k.os.trans h.os,k.tape.trans h.tape,k.output.trans h.output,Nat.le_trans h.size k.size,fun i hi hn=>
    (k.block i (Nat.lt_of_lt_of_le hi h.size) (fun hM=>by rcases hm i hM with h'|h';exact hn h';omega)).trans (h.block i hi hn)⟩
theorem aA.trans {M:Nat→Prop} {a b c:World} (h:aA M a b) (k:aA M b c):aA M a c:=h.trans' k fun _=>.inl
theorem aA.mono {M M':Nat→Prop} {a b:World} (h:aA M a b) (hm:∀k,M k→M' k):aA M' a b:=
  ⟨h.os,h.tape,h.output,h.size,fun i hi hn=>h.block i hi fun hM=>hn (hm i hM)⟩
theorem aA.of_nil {M:Nat→Prop} {a b:World} (h:aA Nil a b):aA M a b:=h.mono fun _ hk=>hk.elim
theorem aA.transNil {M:Nat→Prop} {a b c:World} (h:aA M a b) (k:aA Nil b c):aA M a c:=h.trans k.of_nil
theorem aA.of_below {a b:World} (h:Below a.heap.size a b) (M:Nat→Prop):aA M a b:=⟨h.os,h.tape,h.output,h.size,fun k hk _=>h.block k hk⟩
theorem aA.below {a b:World} (h:aA Nil a b):Below a.heap.size a b:=⟨h.os,h.tape,h.output,h.size,fun k hk=>h.block k hk id⟩
theorem aA.grow {a w w':World} {row:Option Nat} {M:Nat→Prop} (h:aA M a w) (hg:w.grownBy w' row) (hr:∀k,row=some k→M k∨a.heap.size≤k):aA M a w':=
  h.trans' (M':=fun k=>row=some k) ⟨hg.os,hg.tape,hg.output,hg.size,fun k hk hn=>hg.block k hk fun e=>hn e.symm⟩ hr
theorem aA.drew {M:Nat→Prop} {a w:World} (h:aA M a w):aA M a w.drew:=⟨h.os,h.tape,h.output,h.size,h.block⟩
theorem aA.drewN {M:Nat→Prop} {a w:World} (h:aA M a w) (n:Nat):aA M a (w.drewN n):=⟨h.os,h.tape,h.output,h.size,h.block⟩
theorem aA.alloc {M:Nat→Prop} {a w:World} (h:aA M a w) (o:Obj):aA M a (w.alloc o):=
  h.trans ⟨rfl,rfl,rfl,by simp,fun k hk _=>Below.heap_alloc w o k hk⟩
theorem aA.setCell {M:Nat→Prop} {a w:World} (h:aA M a w) {p:Addr} (hp:M p.block∨a.heap.size≤p.block) (u:Value):aA M a (w.setCell p u):=
  h.trans' (M':=One p.block) ⟨rfl,rfl,rfl,by simp [World.setCell],fun k _ hn=>Below.heap_setCell _ _ _ _ hn⟩ (fun k hk=>by cases hk;exact hp)
theorem kkA {M:Nat→Prop} {a b:World} (h:aA M a b:=by repeat (first|exact aA.refl _ _|assumption|refine aA.drew ?_|refine aA.drewN ?_ _|refine aA.alloc ?_ _|exact aA.of_nil (by assumption)|refine aA.trans ?_ (aA.of_nil (by assumption))|refine aA.setCell ?_ (.inr (by first|exact Nat.le_refl _|(dsimp only;omega))) _|refine aA.setCell ?_ (.inl (by first|(unfold Old;dsimp only;omega)|(unfold Old;simp;omega)|(unfold Old;simp))) _)):aA M a b:=h
theorem aI {a b:Prop} (x:a) (y:b):a∧b:=⟨x,y⟩
theorem jJ {p:Prop} (h:p):Hid p:=Lib.hid h
theorem _root_.And.r4 {a b c d e:Prop} (h:a∧b∧c∧d∧e):e:=h.2.2.2.2
theorem _root_.And.r5 {a b c d e f:Prop} (h:a∧b∧c∧d∧e∧f):f:=h.2.2.2.2.2
theorem _root_.And.r6 {a b c d e f g:Prop} (h:a∧b∧c∧d∧e∧f∧g):g:=h.2.2.2.2.2.2
theorem _root_.And.r7 {a b c d e f g i:Prop} (h:a∧b∧c∧d∧e∧f∧g∧i):i:=h.2.2.2.2.2.2.2
theorem _root_.And.r8 {a b c d e f g i j:Prop} (h:a∧b∧c∧d∧e∧f∧g∧i∧j):j:=h.2.2.2.2.2.2.2.2
theorem _root_.And.r9 {a b c d e f g i j k:Prop} (h:a∧b∧c∧d∧e∧f∧g∧i∧j∧k):k:=h.2.2.2.2.2.2.2.2.2
theorem _root_.And.r10 {a b c d e f g i j k l:Prop} (h:a∧b∧c∧d∧e∧f∧g∧i∧j∧k∧l):l:=h.2.2.2.2.2.2.2.2.2.2
theorem _root_.And.r11 {a b c d e f g i j k l m:Prop} (h:a∧b∧c∧d∧e∧f∧g∧i∧j∧k∧l∧m):m:=h.2.2.2.2.2.2.2.2.2.2.2
theorem _root_.And.r12 {a b c d e f g i j k l m n:Prop} (h:a∧b∧c∧d∧e∧f∧g∧i∧j∧k∧l∧m∧n):n:=h.2.2.2.2.2.2.2.2.2.2.2.2
theorem _root_.And.r13 {a b c d e f g i j k l m n o:Prop} (h:a∧b∧c∧d∧e∧f∧g∧i∧j∧k∧l∧m∧n∧o):o:=h.2.2.2.2.2.2.2.2.2.2.2.2.2
theorem _root_.And.r14 {a b c d e f g i j k l m n o p:Prop} (h:a∧b∧c∧d∧e∧f∧g∧i∧j∧k∧l∧m∧n∧o∧p):p:=h.2.2.2.2.2.2.2.2.2.2.2.2.2.2
def _root_.bM9 (k : Nat) (n : Nat) : Array Bool := ⟨(List.range n).map k.testBit⟩
theorem _root_.Go.RowKit.Hid.o {p : Prop} (h : Go.RowKit.Hid p) : p := h.out
theorem _root_.aI3 {p0 p1 p2 : Prop} (x0 : p0) (x1 : p1) (x2 : p2) : p0 ∧ p1 ∧ p2 := ⟨x0, x1, x2⟩
theorem _root_.aI4 {p0 p1 p2 p3 : Prop} (x0 : p0) (x1 : p1) (x2 : p2) (x3 : p3) : p0 ∧ p1 ∧ p2 ∧ p3 := ⟨x0, x1, x2, x3⟩
theorem _root_.aI5 {p0 p1 p2 p3 p4 : Prop} (x0 : p0) (x1 : p1) (x2 : p2) (x3 : p3) (x4 : p4) : p0 ∧ p1 ∧ p2 ∧ p3 ∧ p4 := ⟨x0, x1, x2, x3, x4⟩
theorem _root_.aI6 {p0 p1 p2 p3 p4 p5 : Prop} (x0 : p0) (x1 : p1) (x2 : p2) (x3 : p3) (x4 : p4) (x5 : p5) : p0 ∧ p1 ∧ p2 ∧ p3 ∧ p4 ∧ p5 := ⟨x0, x1, x2, x3, x4, x5⟩
theorem _root_.aI7 {p0 p1 p2 p3 p4 p5 p6 : Prop} (x0 : p0) (x1 : p1) (x2 : p2) (x3 : p3) (x4 : p4) (x5 : p5) (x6 : p6) : p0 ∧ p1 ∧ p2 ∧ p3 ∧ p4 ∧ p5 ∧ p6 := ⟨x0, x1, x2, x3, x4, x5, x6⟩
theorem _root_.aI8 {p0 p1 p2 p3 p4 p5 p6 p7 : Prop} (x0 : p0) (x1 : p1) (x2 : p2) (x3 : p3) (x4 : p4) (x5 : p5) (x6 : p6) (x7 : p7) : p0 ∧ p1 ∧ p2 ∧ p3 ∧ p4 ∧ p5 ∧ p6 ∧ p7 := ⟨x0, x1, x2, x3, x4, x5, x6, x7⟩
theorem _root_.aI9 {p0 p1 p2 p3 p4 p5 p6 p7 p8 : Prop} (x0 : p0) (x1 : p1) (x2 : p2) (x3 : p3) (x4 : p4) (x5 : p5) (x6 : p6) (x7 : p7) (x8 : p8) : p0 ∧ p1 ∧ p2 ∧ p3 ∧ p4 ∧ p5 ∧ p6 ∧ p7 ∧ p8 := ⟨x0, x1, x2, x3, x4, x5, x6, x7, x8⟩
theorem _root_.aI10 {p0 p1 p2 p3 p4 p5 p6 p7 p8 p9 : Prop} (x0 : p0) (x1 : p1) (x2 : p2) (x3 : p3) (x4 : p4) (x5 : p5) (x6 : p6) (x7 : p7) (x8 : p8) (x9 : p9) : p0 ∧ p1 ∧ p2 ∧ p3 ∧ p4 ∧ p5 ∧ p6 ∧ p7 ∧ p8 ∧ p9 := ⟨x0, x1, x2, x3, x4, x5, x6, x7, x8, x9⟩
theorem _root_.aI11 {p0 p1 p2 p3 p4 p5 p6 p7 p8 p9 p10 : Prop} (x0 : p0) (x1 : p1) (x2 : p2) (x3 : p3) (x4 : p4) (x5 : p5) (x6 : p6) (x7 : p7) (x8 : p8) (x9 : p9) (x10 : p10) : p0 ∧ p1 ∧ p2 ∧ p3 ∧ p4 ∧ p5 ∧ p6 ∧ p7 ∧ p8 ∧ p9 ∧ p10 := ⟨x0, x1, x2, x3, x4, x5, x6, x7, x8, x9, x10⟩
theorem _root_.aI12 {p0 p1 p2 p3 p4 p5 p6 p7 p8 p9 p10 p11 : Prop} (x0 : p0) (x1 : p1) (x2 : p2) (x3 : p3) (x4 : p4) (x5 : p5) (x6 : p6) (x7 : p7) (x8 : p8) (x9 : p9) (x10 : p10) (x11 : p11) : p0 ∧ p1 ∧ p2 ∧ p3 ∧ p4 ∧ p5 ∧ p6 ∧ p7 ∧ p8 ∧ p9 ∧ p10 ∧ p11 := ⟨x0, x1, x2, x3, x4, x5, x6, x7, x8, x9, x10, x11⟩
theorem _root_.aI13 {p0 p1 p2 p3 p4 p5 p6 p7 p8 p9 p10 p11 p12 : Prop} (x0 : p0) (x1 : p1) (x2 : p2) (x3 : p3) (x4 : p4) (x5 : p5) (x6 : p6) (x7 : p7) (x8 : p8) (x9 : p9) (x10 : p10) (x11 : p11) (x12 : p12) : p0 ∧ p1 ∧ p2 ∧ p3 ∧ p4 ∧ p5 ∧ p6 ∧ p7 ∧ p8 ∧ p9 ∧ p10 ∧ p11 ∧ p12 := ⟨x0, x1, x2, x3, x4, x5, x6, x7, x8, x9, x10, x11, x12⟩
theorem _root_.aI14 {p0 p1 p2 p3 p4 p5 p6 p7 p8 p9 p10 p11 p12 p13 : Prop} (x0 : p0) (x1 : p1) (x2 : p2) (x3 : p3) (x4 : p4) (x5 : p5) (x6 : p6) (x7 : p7) (x8 : p8) (x9 : p9) (x10 : p10) (x11 : p11) (x12 : p12) (x13 : p13) : p0 ∧ p1 ∧ p2 ∧ p3 ∧ p4 ∧ p5 ∧ p6 ∧ p7 ∧ p8 ∧ p9 ∧ p10 ∧ p11 ∧ p12 ∧ p13 := ⟨x0, x1, x2, x3, x4, x5, x6, x7, x8, x9, x10, x11, x12, x13⟩
abbrev _root_.aZ1 := @List.length_append
abbrev _root_.bZ1 := @Nat.le_trans
abbrev _root_.cZ1 := @Nat.lt_of_lt_of_le
abbrev _root_.dZ1 := @List.mem_singleton
abbrev _root_.eZ1 := @List.take_of_length_le
abbrev _root_.fZ1 := @List.eq_nil_of_length_eq_zero
abbrev _root_.gZ1 := @List.length_cons
abbrev _root_.hZ1 := @List.length_map
abbrev _root_.iZ1 := @List.length_take
abbrev _root_.jZ1 := @List.mem_append
abbrev _root_.kZ1 := @List.mem_cons_self
abbrev _root_.lZ1 := @List.mem_cons_of_mem
abbrev _root_.mZ1 := @List.mem_cons
abbrev _root_.aZ2 := @Nat.zero_le
abbrev _root_.bZ2 := @Nat.le_refl
abbrev _root_.cZ2 := @List.map_append
abbrev _root_.dZ2 := @List.map_cons
abbrev _root_.eZ2 := @List.flatMap_cons
abbrev _root_.fZ2 := @List.append_nil
abbrev _root_.gZ2 := @List.length_nil
abbrev _root_.hZ2 := @List.not_mem_nil
abbrev _root_.iZ2 := @List.mem_map
abbrev _root_.jZ2 := @List.getElem?_eq_getElem
abbrev _root_.kZ2 := @List.all_eq_true
abbrev _root_.lZ2 := @Option.some.inj
abbrev _root_.mZ2 := @List.append_assoc
abbrev _root_.aZ3 := @List.take_append_drop
abbrev _root_.bZ3 := @List.mem_of_mem_take
abbrev _root_.cZ3 := @List.mem_flatMap
abbrev _root_.dZ3 := @List.length_drop
abbrev _root_.eZ3 := @List.cons_append
abbrev _root_.fZ3 := @List.nil_append
abbrev _root_.gZ3 := @List.getElem_of_mem
abbrev _root_.hZ3 := @List.mem_filter
class KN (a w:World):Prop where
  out:aA Nil a w
instance {w:World}:KN w w:=⟨aA.refl _ _⟩
instance {a w:World} [h:KN a w]:KN a w.drew:=⟨h.out.drew⟩
instance {a w:World} {n:Nat} [h:KN a w]:KN a (w.drewN n):=⟨h.out.drewN n⟩
instance {a w:World} {o:Obj} [h:KN a w]:KN a (w.alloc o):=⟨h.out.alloc o⟩
theorem kOf {M:Nat→Prop} {a w:World} [h:KN a w]:aA M a w:=h.out.of_nil
theorem sL:(∀(l:List Value) (i:Nat) (v:Value),l.toArray.setIfInBounds i v=(l.set i v).toArray)∧(∀(a:Value) (l:List Value) (v:Value),(a::l).set 0 v=v::l)∧(∀(a:Value) (l:List Value) (n:Nat) (v:Value),(a::l).set (n+1) v=a::l.set n v)∧∀(n:Nat) (v:Value),([]:List Value).set n v=[]:=⟨fun _ _ _=>List.setIfInBounds_toArray ..,fun _ _ _=>rfl,fun _ _ _ _=>rfl,fun _ _=>List.set_nil⟩
theorem sN:(∀(l:List Oper) (i:Nat) (h:i<l.toArray.size),l.toArray[i]=l[i]'(by simpa using h))∧(∀(a:Oper) (l:List Oper) (h:0<(a::l).length),(a::l)[0]=a)∧∀(a:Oper) (l:List Oper) (n:Nat) (h:n+1<(a::l).length),(a::l)[n+1]=l[n]'(by simpa using h):=⟨fun _ _ _=>rfl,fun _ _ _=>rfl,fun _ _ _ _=>rfl⟩
theorem mK {p q:Prop} (k:q) (h:q→p:=by (intro hq;refine hK.out _ _ (fun _=>trivial) ?_;(try simp only [Act.put,sL]);exact hq)):p:=h k
theorem mH {p q:Prop} (k:q) (h:q→p:=by (intro hq;refine hK.out _ _ (fun h=>h) ?_;(try simp only [Act.put,sL]);exact hq)):p:=h k
theorem aA.set1 {a w:World} {g:Nat} (h:aA (One g) a w) (o:Nat) (u:Value):aA (One g) a (w.setCell ⟨g,o,none⟩ u):=h.setCell (p:=⟨g,o,none⟩) (.inl rfl) u
theorem aA.cell {M:Nat→Prop} {w w':World} (h:aA M w w') {p:Addr} (hp:p.block<w.heap.size) (hn:¬M p.block):w'.cell? p=w.cell? p:=
  World.cell?_of_block (w:=w) (h.block p.block hp hn)
theorem aA.frozen {M:Nat→Prop} {w w':World} (h:aA M w w') {p:Addr} (hp:p.block<w.heap.size) (hn:¬M p.block):w'.frozen? p=w.frozen? p:=
  World.frozen?_of_block (w:=w) (h.block p.block hp hn)
theorem aA.cellE {M:Nat→Prop} {w w':World} (h:aA M w w') {b o:Nat} {v:Value} (hp:b<w.heap.size) (hn:¬M b) (hv:w.cell? ⟨b,o,none⟩=some v):w'.cell? ⟨b,o,none⟩=some v:=
  (h.cell (p:=⟨b,o,none⟩) hp hn).trans hv
theorem aA.rules {w w':World} (h:aA Nil w w'):(∀b o,b<w.heap.size→w'.cell? ⟨b,o,none⟩=w.cell? ⟨b,o,none⟩)∧(∀b o,b<w.heap.size→w'.frozen? ⟨b,o,none⟩=w.frozen? ⟨b,o,none⟩):=
  ⟨fun b o hb=>h.cell (p:=⟨b,o,none⟩) hb id,fun b o hb=>h.frozen (p:=⟨b,o,none⟩) hb id⟩
theorem MB.keep {M M':Nat→Prop} {w w':World} (h:MB M w) (k:aA M' w w'):MB M w':=fun b hb=>Nat.lt_of_lt_of_le (h b hb) k.size
theorem MB.nil (w:World):MB Nil w:=fun _ h=>h.elim
structure Sl (M:Nat→Prop) (w:World) (sz:Nat) (a:Option Addr) (n c:Nat) (f:Nat→Nat→Value):Prop where
  le:n≤c
  cap:c≤9223372036854775807
  none:a=.none→n=0∧c=0
  some:∀p,a=.some p→0<n→p.spot=.none∧p.block<w.heap.size∧¬M p.block∧∀i j,i<n→j<sz→w.cell? ⟨p.block,p.off+i*sz+j,.none⟩=.some (f i j)
theorem Sl.keep {M M':Nat→Prop} {w w':World} {sz:Nat} {a:Option Addr} {n c:Nat} {f:Nat→Nat→Value} (h:Sl M w sz a n c f) (k:aA M' w w') (hm:∀b,b<w.heap.size→M' b→M b):Sl M w' sz a n c f:=
  ⟨h.le,h.cap,h.none,fun p hp h0=>by
    obtain ⟨h1,h2,h3,h4⟩:=h.some p hp h0;exact⟨h1,Nat.lt_of_lt_of_le h2 k.size,h3,fun i j hi hj=>k.cellE h2 (fun hb=>h3 (hm _ h2 hb)) (h4 i j hi hj)⟩⟩
theorem Sl.turn {M M':Nat→Prop} {w:World} {sz:Nat} {a:Option Addr} {n c:Nat} {f:Nat→Nat→Value} (h:Sl M w sz a n c f) (hm:∀b,b<w.heap.size→M' b→M b):Sl M' w sz a n c f:=
  ⟨h.le,h.cap,h.none,fun p hp h0=>by
    obtain ⟨h1,h2,h3,h4⟩:=h.some p hp h0;exact⟨h1,h2,fun hb=>h3 (hm _ h2 hb),h4⟩⟩
theorem Sl.nil (M:Nat→Prop) (w:World) (sz:Nat) (f:Nat→Nat→Value):Sl M w sz .none 0 0 f:=⟨Nat.le_refl _,Nat.zero_le _,fun _=>⟨rfl,rfl⟩,fun _ h _=>by cases h⟩
theorem Sl.at {M:Nat→Prop} {w:World} {sz:Nat} {a:Option Addr} {n c:Nat} {f:Nat→Nat→Value} (h:Sl M w sz a n c f) (hn:0<n) :
    ∃b off,a=.some ⟨b,off,.none⟩∧b<w.heap.size∧¬M b∧∀i j,i<n→j<sz→w.cell? ⟨b,off+i*sz+j,.none⟩=.some (f i j):=by
  cases a with
  | none=>have:=h.none rfl;omega
  | some p=>
    obtain ⟨h1,h2,h3,h4⟩:=h.some p rfl hn;obtain ⟨b,off,spot⟩:=p;subst h1;exact⟨b,off,rfl,h2,h3,h4⟩
theorem Sl.take {M:Nat→Prop} {w:World} {sz:Nat} {p:Addr} {n c:Nat} {f:Nat→Nat→Value} (h:Sl M w sz (.some p) n c f) {k:Nat} (hk:k≤n):Sl M w sz (.some p) k c f:=
  ⟨Nat.le_trans hk h.le,h.cap,(fun h=>by cases h),fun q hq h0=>by
    obtain ⟨h1,h2,h3,h4⟩:=h.some q hq (by omega);exact⟨h1,h2,h3,fun i j hi hj=>h4 i j (by omega) hj⟩⟩
theorem Sl.congr {M:Nat→Prop} {w:World} {sz:Nat} {a:Option Addr} {n c:Nat} {f g:Nat→Nat→Value} (h:Sl M w sz a n c f) (e:∀i j,i<n→j<sz→f i j=g i j):Sl M w sz a n c g:=
  ⟨h.le,h.cap,h.none,fun q hq h0=>by
    obtain ⟨h1,h2,h3,h4⟩:=h.some q hq h0;exact⟨h1,h2,h3,fun i j hi hj=>by rw [h4 i j hi hj,e i j hi hj]⟩⟩
def lim (l:List Nat) (i:Nat):Nat:=l.getD i 0
theorem lim_lt {l:List Nat} {i:Nat} (h:i<l.length):lim l i=l[i]:=by simp [lim,h]
def u32 (x:Nat):Value:=.int .u32 (x:Int)
structure aR (M:Nat→Prop) (w:World) (a:Option Addr) (n c:Nat) (l:List Nat):Prop where
  len:l.length=n
  sl:Sl M w 1 a n c (fun i _=>.int .u32 (lim l i:Int))
  lt:∀x∈l,x<4294967296
theorem aR.keep {M M':Nat→Prop} {w w':World} {a:Option Addr} {n c:Nat} {l:List Nat} (h:aR M w a n c l) (k:aA M' w w') (hm:∀b,b<w.heap.size→M' b→M b):aR M w' a n c l:=
  ⟨h.len,h.sl.keep k hm,h.lt⟩
theorem aR.keep' {M:Nat→Prop} {w w':World} {a:Option Addr} {n c:Nat} {l:List Nat} (h:aR M w a n c l) (k:aA M w w'):aR M w' a n c l:=h.keep k fun _ _=>id
theorem aR.lim_lt {M:Nat→Prop} {w:World} {a:Option Addr} {n c:Nat} {l:List Nat} (h:aR M w a n c l) (i:Nat):lim l i<4294967296:=by
  unfold lim;by_cases hi:i<l.length
  · simpa [hi] using h.lt _ (List.getElem_mem hi)
  · simp [List.getD,List.getElem?_eq_none (Nat.le_of_not_lt hi)]
theorem aR.owned {w:World} {base:Nat} {E:TypeId} {v:Value} {n:Nat} {l:List Nat} (h:w.ownsRow base E 1 v n (l.map u32)) (hl:∀x∈l,x<4294967296) {M:Nat→Prop} (hM:∀b,M b→b<base) :
    ∃a c,v=.slice a n c∧aR M w a n c l:=by
  have hn:l.length=n:=by simpa using h.1
  rcases h.2 with ⟨rfl,rfl⟩|⟨g,cap,cur,rfl,hb,hg,hnc,hcm,hcs,htake⟩
  · have:l=[]:=List.eq_nil_of_length_eq_zero hn
    subst this;exact⟨_,_,rfl,rfl,Sl.nil _ _ _ _,hl⟩
  · refine ⟨_,_,rfl,hn,⟨hnc,by unfold maxLen at hcm;exact hcm,(fun h=>by cases h),fun p hp _=>?_⟩,hl⟩
    cases hp;refine ⟨rfl,(Array.getElem?_eq_some_iff.1 hg).1,fun hm=>by have:=hM _ hm;simp at this;omega,fun i j hi hj=>?_⟩;obtain rfl:j=0:=by omega
    have:=h.cells (g:=g) rfl i (.int .u32 (lim l i:Int)) (by simp [List.getElem?_map,Go.Proofs.Q.lim,u32,List.getElem?_eq_getElem (show i<l.length by omega)]);simpa [Addr.add_lit] using this
def topK (l:List Nat):Nat→Nat
  | 0=>0
  | k+1=>if lim l k==0 then topK l k else k+1
theorem topK_zero {l:List Nat} {k:Nat} (h:lim l k=0):topK l (k+1)=topK l k:=by simp [topK,h]
theorem topK_pos {l:List Nat} {k:Nat} (h:lim l k≠0):topK l (k+1)=k+1:=by simp [topK,h]
theorem topK_le (l:List Nat) (k:Nat):topK l k≤k:=by
  induction k with
  | zero=>exact Nat.le_refl _
  | succ k ih=>unfold topK;split<;>omega
theorem limbs_cells {w:World} {b off n:Nat} {l:List Nat} (hl:l.length=n) (hc:∀i j,i<n→j<1→w.cell? ⟨b,off+i*1+j,none⟩=some (.int .u32 (lim l i:Int))) (k:Nat) (hk:k≤n) :
    ∀(j:Nat) (u:Value),((l.take k).map u32)[j]?=some u→w.cell? ((⟨b,off,none⟩:Addr).add j)=some u:=by
  intro j u hj;rw [Addr.add_lit];have hjk:j<k:=by
    have:=(List.getElem?_eq_some_iff.1 hj).1;simp at this;omega
  have h:=hc j 0 (by omega) (by omega);simp only [Nat.mul_one,Nat.add_zero] at h;rw [h];have hjl:j<l.length:=by omega
  simp only [List.getElem?_map,List.getElem?_take,hjk,if_true,List.getElem?_eq_getElem hjl,Option.map_some] at hj;rw [Go.Proofs.Q.lim_lt hjl];exact hj
theorem u32_one (l:List Nat):∀u∈l.map u32,u.oneCell'=true:=by
  intro u hu;obtain ⟨x,_,rfl⟩:=List.mem_map.1 hu;rfl
def top (l:List Nat):Nat:=topK l l.length
def trim (l:List Nat):List Nat:=l.take (top l)
theorem top_le (l:List Nat):top l≤l.length:=topK_le l _
theorem cY (l:List Nat):(trim l).length=top l:=by simp [trim,top_le]
theorem mem_trim {l:List Nat} {x:Nat} (h:x∈trim l):x∈l:=List.mem_of_mem_take h
theorem lim_take {l:List Nat} {n i:Nat} (h:i<n):lim (l.take n) i=lim l i:=by simp [lim,List.getD,h]
theorem aR.take {M:Nat→Prop} {w:World} {p:Addr} {n c:Nat} {l:List Nat} (h:aR M w (some p) n c l) {k:Nat} (hk:k≤n):aR M w (some p) k c (l.take k):=
  ⟨by have:=h.len;simp;omega,(h.sl.take hk).congr (fun i j hi _=>by rw [lim_take hi]),fun x hx=>h.lt x (List.mem_of_mem_take hx)⟩
def aC (w:World) (g:Nat) (E:TypeId) (xs:List Value):Prop:=w.heap[g]?=some (.cells xs.toArray E (0,0))
theorem aC.out {w:World} {g:Nat} {E:TypeId} {xs:List Value} (h:aC w g E xs):w.heap[g]?=some (.cells xs.toArray E (0,0)):=h
theorem aC.lt {w:World} {g:Nat} {E:TypeId} {xs:List Value} (h:aC w g E xs):g<w.heap.size:=(Array.getElem?_eq_some_iff.1 h).1
theorem aC.keep {M:Nat→Prop} {w w':World} {g:Nat} {E:TypeId} {xs:List Value} (h:aC w g E xs) (k:aA M w w') (hn:¬M g):aC w' g E xs:=(k.block g h.lt hn).trans h
theorem aC.cell {w:World} {g:Nat} {E:TypeId} {xs:List Value} (h:aC w g E xs) (i:Nat):w.cell? ⟨g,i,none⟩=xs[i]?:=by
  rw [cell_of_row w g i _ E (0,0) h];simp
theorem aC.frozen {w:World} {g:Nat} {E:TypeId} {xs:List Value} (h:aC w g E xs) (i:Nat):w.frozen? ⟨g,i,none⟩=false:=by
  simp [World.frozen?,h.out]
theorem aC.one {w:World} {g:Nat} {E:TypeId} {x:Value} (h:aC w g E [x]):w.cell? ⟨g,0,none⟩=some x∧w.frozen? ⟨g,0,none⟩=false:=⟨h.cell 0,h.frozen 0⟩
theorem aC.two {w:World} {g:Nat} {E:TypeId} {x y:Value} (h:aC w g E [x,y]):w.cell? ⟨g,0,none⟩=some x∧w.cell? ⟨g,1,none⟩=some y∧w.frozen? ⟨g,0,none⟩=false∧w.frozen? ⟨g,1,none⟩=false:=⟨h.cell 0,h.cell 1,h.frozen 0,h.frozen 1⟩
theorem aC.three {w:World} {g:Nat} {E:TypeId} {x y z:Value} (h:aC w g E [x,y,z]):w.cell? ⟨g,0,none⟩=some x∧w.cell? ⟨g,1,none⟩=some y∧w.cell? ⟨g,2,none⟩=some z:=⟨h.cell 0,h.cell 1,h.cell 2⟩
theorem aC.set {w:World} {g:Nat} {E:TypeId} {xs:List Value} (h:aC w g E xs) (i:Nat) (v:Value):aC (w.setCell ⟨g,i,none⟩ v) g E (xs.set i v):=by
  unfold aC;simp only [World.setCell,Array.getElem?_modify,if_true,h.out,Option.map_some];simp
theorem aC.alloc {w:World} {E:TypeId} {xs:List Value}:aC (w.alloc (.cells xs.toArray E)) w.heap.size E xs:=heap_alloc_new w _
theorem bx1 (w:World) (E:TypeId) (xs:List Value):∃w0,w.alloc (.cells xs.toArray E)=w0∧aA Nil w w0∧aC w0 w.heap.size E xs:=⟨_,rfl,kOf,aC.alloc⟩
theorem bx2 (w:World) (E:TypeId) (xs:List Value) (F:TypeId) (ys:List Value):∃w0,(w.alloc (.cells xs.toArray E)).alloc (.cells ys.toArray F)=w0∧aA Nil w w0∧aC w0 w.heap.size E xs∧aC w0 (w.heap.size+1) F ys:=by
  refine ⟨_,rfl,kOf,aC.alloc.keep (M:=Nil) kOf id,?_⟩;have h:=aC.alloc (w:=w.alloc (.cells xs.toArray E)) (E:=F) (xs:=ys);rwa [show (w.alloc (.cells xs.toArray E)).heap.size=w.heap.size+1 by simp] at h
theorem bx3 (w:World) (E:TypeId) (xs:List Value) (F:TypeId) (ys:List Value) (G:TypeId) (zs:List Value):∃w0,((w.alloc (.cells xs.toArray E)).alloc (.cells ys.toArray F)).alloc (.cells zs.toArray G)=w0∧aA Nil w w0∧aC w0 w.heap.size E xs∧aC w0 (w.heap.size+1) F ys∧aC w0 (w.heap.size+1+1) G zs:=by
  obtain ⟨w1,e,k,r0,r1⟩:=bx2 w E xs F ys;rw [e];refine ⟨_,rfl,k.trans kOf,r0.keep (M:=Nil) kOf id,r1.keep (M:=Nil) kOf id,?_⟩;have h:=aC.alloc (w:=w1) (E:=G) (xs:=zs);rwa [show w1.heap.size=w.heap.size+1+1 by rw [←e];simp] at h
def zeros (n:Nat) (z:Value):List Value:=List.replicate n z
theorem length_zeros (n:Nat) (z:Value):(zeros n z).length=n:=by simp [zeros]
def u32s (l:List Nat):List Value:=l.map u32
theorem dL (l:List Nat):(u32s l).length=l.length:=by simp [u32s]
def SrcIs (M:Nat→Prop) (w:World) (a:Option Addr) (cs:List Value):Prop:=
  0<cs.length→∃b off,a=some ⟨b,off,none⟩∧b<w.heap.size∧¬M b∧∀j v,cs[j]?=some v→w.cell? ⟨b,off+j,none⟩=some v
theorem SrcIs.keep {M M':Nat→Prop} {w w':World} {a:Option Addr} {cs:List Value} (h:SrcIs M w a cs) (k:aA M' w w') (hm:∀b,b<w.heap.size→M' b→M b):SrcIs M w' a cs:=by
  intro hp;obtain ⟨b,off,rfl,hb,hn,hc⟩:=h hp;exact⟨b,off,rfl,Nat.lt_of_lt_of_le hb k.size,hn,fun j v hj=>k.cellE hb (fun hb'=>hn (hm _ hb hb')) (hc j v hj)⟩
theorem SrcIs.keepNil {M:Nat→Prop} {w w':World} {a:Option Addr} {cs:List Value} (h:SrcIs M w a cs) (k:aA Nil w w'):SrcIs M w' a cs:=h.keep k fun _ _ h=>h.elim
theorem aR.src {M:Nat→Prop} {w:World} {a:Option Addr} {n c:Nat} {l:List Nat} (h:aR M w a n c l) {k:Nat} (hk:k≤n):SrcIs M w a (u32s (l.take k)):=by
  intro hp;have hl:=h.len;rw [dL,List.length_take] at hp;obtain ⟨b,off,rfl,hb,hn,hc⟩:=h.sl.at (by omega);exact⟨b,off,rfl,hb,hn,fun j v hj=>by rw [←limbs_cells hl hc k hk j v hj,Addr.add_lit]⟩
theorem wpList_copy_row {M:Nat→Prop} {P:Program} {w:World} {ops:Array Oper} {rest:List Oper} {o:Oper} {a:Act} {Q:Exit→Act→World→Prop} (hgd:o.guard=none) (d s:Operand) (dT sT:TypeId)
    (ho:o.op=.call { callee:=.builtin .copy,args:=#[d,s],argTypes:=#[dT,sT] }) (elem:TypeId) (hu:P.underlying dT=some (.slice elem)) (hsz:(P.info? elem).map (·.size)=some 1)
    (dp sp:Option Addr) (dLen dCap sLen sCap:Nat) (hd:a.eval d=.slice dp dLen dCap) (hs:a.eval s=.slice sp sLen sCap)
    (g off:Nat) (cur:List Value) (t:TypeId) (hg:aC w g t cur) (cs:List Value) (hn:cs.length=min sLen dLen)
    (hpd:0<cs.length→dp=some ⟨g,off,none⟩) (hps:SrcIs M w sp cs)
    (hfit:off+cs.length≤cur.length) (h1:∀v∈cs,v.oneCell'=true)
    (h:∀w',aC w' g t (splice cur off cs)→aA (One g) w w'→wpList P ops Q rest (a.put o.dst (goInt cs.length)) w') :
    wpList P ops Q (o::rest) a w:=by
  by_cases h0:cs.length=0
  · obtain rfl:cs=[]:=List.eq_nil_of_length_eq_zero h0
    refine wpList_copy_nothing hgd d s dT sT ho elem hu hsz dp sp dLen dCap sLen sCap hd hs (by simpa using hn.symm) ?_;exact h w (by simpa [splice] using hg) (aA.refl _ _)
  · obtain ⟨b,so,rfl,hb,_,hsrc⟩:=hps (by omega)
    obtain rfl:=hpd (by omega);refine wpList_copy_own hgd d s dT sT ho elem hu hsz g off dLen dCap ⟨b,so,none⟩ sLen sCap hd hs cur.toArray t hg.out cs hn (fun j v hj=>by rw [Addr.add_lit];exact hsrc j v hj) (by simpa using hfit) h1 ?_;refine h _ (show _=_ by simpa [splice] using setRow_heap w g _ _ t _ hg.out) ⟨rfl,rfl,rfl,by simp [World.setRow],fun k _ hk=>setRow_other w g k _ hk⟩
theorem wpList_make_row {P:Program} (w:World) {ops:Array Oper} {rest:List Oper} {o:Oper} {a:Act} {Q:Exit→Act→World→Prop}
    (hg:o.guard=none) (l c:Operand) (t:TypeId) (hop:o.op=Op.makeSlice t l c)
    (e:TypeId) (i:TypeInfo) (z:Value) (h1:P.underlying t=some (.slice e)) (h2:P.info? e=some i) (h3:i.zero=some z) (h4:i.size=1) (hz:z.cells=#[z])
    (kl kc:IntKind) (L C:Int) (n:Nat) (hl:a.eval l=.int kl L) (hc:a.eval c=.int kc C) (hL:L=(n:Int)) (hC:C=(n:Int)) (b2:i.bytes*n≤281474976710656) (b3:n≤9223372036854775807)
    (hK:∀w',aC w' w.heap.size e (zeros n z)→aA Nil w w'→w'.heap.size=w.heap.size+1→wpList P ops Q rest (a.put o.dst (.slice (some ⟨w.heap.size,0,none⟩) n n)) w') :
    wpList P ops Q (o::rest) a w:=by
  refine wpList_plain hg fun K hK'=>?_;subst hL;subst hC;have hb:(i.bytes:Int)*(n:Int)≤281474976710656:=by
    have h:((i.bytes*n:Nat):Int)≤281474976710656:=by omega
    rwa [Int.natCast_mul] at h
  have hr:=run_make (P:=P) w t e i z h1 h2 h3 kl kc (n:Int) (n:Int) (by omega) (Int.le_refl _) hb (by omega);have hm:madeCells z.cells ((n:Int).toNat*i.size)=(List.replicate n z).toArray:=by
    rw [h4,Nat.mul_one,Int.toNat_natCast,hz];apply Array.ext
    · simp [madeCells]
    · intro j h1 h2
      simp [madeCells,Nat.mod_one]
  rw [hm] at hr;simp only [Int.toNat_natCast] at hr;unfold Oper.wp;simp [execOp,hop,hl,hc,hr,Result.andThen];refine hK' _ _ ?_;have:=hK (w.alloc (.cells (List.replicate n z).toArray e)) (heap_alloc_new w _) ((aA.refl Nil w).alloc _) (by simp);simpa using this
theorem aR.ofRow {M:Nat→Prop} {w:World} {g:Nat} {E:TypeId} {l:List Nat} (h:aC w g E (u32s l)) (hl:∀x∈l,x<4294967296) (hM:¬M g) (hr:l.length≤9223372036854775807) :
    aR M w (some ⟨g,0,none⟩) l.length l.length l:=
  ⟨rfl,⟨Nat.le_refl _,hr,(fun h=>by cases h),fun p hp _=>by
    cases hp;refine ⟨rfl,h.lt,hM,fun i j hi hj=>?_⟩;obtain rfl:j=0:=by omega
    simp only [Nat.mul_one,Nat.add_zero,Nat.zero_add];rw [h.cell i];simp [Go.Proofs.Q.lim_lt hi,u32s,u32,List.getElem?_eq_getElem hi]⟩,hl⟩
structure SlOf {α:Type} (M:Nat→Prop) (w:World) (sz:Nat) (R:List Value→α→Prop) (d:α) (a:Option Addr) (n c:Nat) (xs:List α):Prop where
  len:xs.length=n
  ex:∃f:Nat→List Value,Sl M w sz a n c (fun i j=>(f i).getD j undef)∧∀i,i<n→(f i).length=sz∧R (f i) (xs.getD i d)
section
variable {α:Type} {M M':Nat→Prop} {w w':World} {sz:Nat} {R R':List Value→α→Prop} {d:α} {a:Option Addr} {n c:Nat} {xs:List α}
theorem SlOf.keep (h:SlOf M w sz R d a n c xs) (k:aA M' w w') (hm:∀b,b<w.heap.size→M' b→M b) (hR:∀cs x,R cs x→R' cs x):SlOf M w' sz R' d a n c xs:=
  ⟨h.len,h.ex.elim fun f ⟨h1,h2⟩=>⟨f,h1.keep k hm,fun i hi=>⟨(h2 i hi).1,hR _ _ (h2 i hi).2⟩⟩⟩
theorem SlOf.at (h:SlOf M w sz R d a n c xs) {i:Nat} (hi:i<n) :
    ∃b off cs,a=.some ⟨b,off,.none⟩∧b<w.heap.size∧¬M b∧cs.length=sz∧(∀j,j<sz→w.cell? ⟨b,off+i*sz+j,.none⟩=.some (cs.getD j undef))∧R cs (xs.getD i d):=by
  obtain ⟨f,h1,h2⟩:=h.ex;obtain ⟨b,off,rfl,hb,hn,hc⟩:=h1.at (by omega);exact⟨b,off,f i,rfl,hb,hn,(h2 i hi).1,fun j hj=>hc i j hi hj,(h2 i hi).2⟩
theorem SlOf.le (h:SlOf M w sz R d a n c xs):n≤c:=h.ex.elim fun _ h=>h.1.le
theorem SlOf.cap (h:SlOf M w sz R d a n c xs):c≤9223372036854775807:=h.ex.elim fun _ h=>h.1.cap
theorem SlOf.none (h:SlOf M w sz R d .none n c xs):n=0∧c=0:=h.ex.elim fun _ h=>h.1.none rfl
theorem SlOf.nil:SlOf M w sz R d .none 0 0 []:=⟨rfl,fun _=>[],Sl.nil _ _ _ _,fun i hi=>by omega⟩
end
def RInt (M:Nat→Prop) (w:World) (cs:List Value) (x:Bool × List Nat):Prop:=∃a n c,cs=[.bool x.1,.slice a n c]∧aR M w a n c x.2∧n*4≤140737488355328
theorem RInt.keep {M M':Nat→Prop} {w w':World} {cs:List Value} {x:Bool × List Nat} (h:RInt M w cs x) (k:aA M' w w') (hm:∀b,b<w.heap.size→M' b→M b):RInt M w' cs x:=by
  obtain ⟨a,n,c,h1,h2,h3⟩:=h;exact⟨a,n,c,h1,h2.keep k hm,h3⟩
theorem aR.turn {M M':Nat→Prop} {w:World} {a:Option Addr} {n c:Nat} {l:List Nat} (h:aR M w a n c l) (hm:∀b,b<w.heap.size→M' b→M b):aR M' w a n c l:=⟨h.len,h.sl.turn hm,h.lt⟩
def Ints (M:Nat→Prop) (w:World) (a:Option Addr) (n c:Nat) (xs:List (Bool × List Nat)):Prop:=SlOf M w 2 (RInt M w) (false,[]) a n c xs
theorem Ints.keep {M M':Nat→Prop} {w w':World} {a:Option Addr} {n c:Nat} {xs:List (Bool × List Nat)} (h:Ints M w a n c xs) (k:aA M' w w') (hm:∀b,b<w.heap.size→M' b→M b):Ints M w' a n c xs:=
  SlOf.keep h k hm fun _ _ hx=>hx.keep k hm
theorem Ints.keepNil {M:Nat→Prop} {w w':World} {a:Option Addr} {n c:Nat} {xs:List (Bool × List Nat)} (h:Ints M w a n c xs) (k:aA Nil w w'):Ints M w' a n c xs:=h.keep k fun _ _ h=>h.elim
def ith (xs:List (Bool × List Nat)) (i:Nat):Bool × List Nat:=xs.getD i (false,[])
theorem Ints.at {M:Nat→Prop} {w:World} {a:Option Addr} {n c:Nat} {xs:List (Bool × List Nat)} (h:Ints M w a n c xs) {i:Nat} (hi:i<n) :
    ∃b off a' n' c',a=some ⟨b,off,none⟩∧b<w.heap.size∧¬M b∧w.cell? ⟨b,off+i*2,none⟩=some (.bool (ith xs i).1)∧w.cell? ⟨b,off+i*2+1,none⟩=some (.slice a' n' c')∧aR M w a' n' c' (ith xs i).2∧n'*4≤140737488355328:=by
  obtain ⟨b,off,cs,rfl,hb,hn,hl,hc,a',n',c',h1,h2,h3⟩:=SlOf.at h hi;subst h1;exact⟨b,off,a',n',c',rfl,hb,hn,by simpa [ith] using hc 0 (by omega),by simpa using hc 1 (by omega),h2,h3⟩
theorem Ints.none {M:Nat→Prop} {w:World}:Ints M w none 0 0 []:=SlOf.nil
end
def Lays (w w':World):Prop:=aA Nil w w'∧w.drawn≤w'.drawn
theorem Lays.refl (w:World):Lays w w:=⟨aA.refl _ _,Nat.le_refl _⟩
theorem Lays.trans {a b c:World} (h:Lays a b) (k:Lays b c):Lays a c:=⟨h.1.trans k.1,Nat.le_trans h.2 k.2⟩
theorem Lays.drew {a w:World} (h:Lays a w):Lays a w.drew:=⟨h.1.drew,Nat.le_trans h.2 (Nat.le_succ _)⟩
theorem Lays.drewN {a w:World} (h:Lays a w) (n:Nat):Lays a (w.drewN n):=⟨h.1.drewN n,Nat.le_trans h.2 (Nat.le_add_right _ _)⟩
theorem Lays.alloc {a w:World} (h:Lays a w) (o:Obj):Lays a (w.alloc o):=⟨h.1.alloc o,h.2⟩
theorem Lays.form {w w':World} (h:Lays w w'):∃q os',w'=Sort.grow (w.drewN q) os':=by
  obtain ⟨k,hd⟩:=h;obtain ⟨hp,tape,drawn,os,out⟩:=w;obtain ⟨hp',tape',drawn',os',out'⟩:=w';obtain ⟨k1,k2,k3,k4,k5⟩:=k;simp only at k1 k2 k3 k4 k5 hd;subst k1 k2 k3;refine ⟨drawn'-drawn,hp'.extract hp.size hp'.size,?_⟩;unfold Sort.grow World.drewN;simp only [World.mk.injEq,and_true,true_and];refine ⟨?_,by omega⟩;apply Array.ext_getElem?;intro i;rcases Nat.lt_or_ge i hp.size with hi|hi
  · rw [Array.getElem?_append_left hi];exact k5 i hi (fun h=>h.elim)
  · rw [Array.getElem?_append_right hi,Array.getElem?_extract]
    split
    · congr 1;omega
    · rw [Array.getElem?_eq_none (by omega)]
section
theorem Sl.move {M M' M2:Nat→Prop} {w w':World} {sz:Nat} {a:Option Addr} {n c:Nat} {f:Nat→Nat→Value} (h:Sl M w sz a n c f) (k:aA M' w w') (h1:∀b,b<w.heap.size→M' b→M b) (h2:∀b,b<w.heap.size→M2 b→M b):Sl M2 w' sz a n c f:=
  ⟨h.le,h.cap,h.none,fun p hp h0=>by
    obtain ⟨q1,q2,q3,q4⟩:=h.some p hp h0;exact⟨q1,Nat.lt_of_lt_of_le q2 k.size,fun hb=>q3 (h2 _ q2 hb),fun i j hi hj=>k.cellE q2 (fun hb=>q3 (h1 _ q2 hb)) (q4 i j hi hj)⟩⟩
theorem aR.move {M M' M2:Nat→Prop} {w w':World} {a:Option Addr} {n c:Nat} {l:List Nat} (h:aR M w a n c l) (k:aA M' w w') (h1:∀b,b<w.heap.size→M' b→M b) (h2:∀b,b<w.heap.size→M2 b→M b):aR M2 w' a n c l:=
  ⟨h.len,h.sl.move k h1 h2,h.lt⟩
theorem SlOf.move {α:Type} {M M' M2:Nat→Prop} {w w':World} {sz:Nat} {R R':List Value→α→Prop} {d:α} {a:Option Addr} {n c:Nat} {xs:List α} (h:SlOf M w sz R d a n c xs) (k:aA M' w w') (h1:∀b,b<w.heap.size→M' b→M b) (h2:∀b,b<w.heap.size→M2 b→M b) (hR:∀cs x,R cs x→R' cs x):SlOf M2 w' sz R' d a n c xs:=
  ⟨h.len,h.ex.elim fun f ⟨q1,q2⟩=>⟨f,q1.move k h1 h2,fun i hi=>⟨(q2 i hi).1,hR _ _ (q2 i hi).2⟩⟩⟩
def Own (v:Value):Nat→Prop:=fun b=>v.ownBlock=some b
def Fresh (w:World) (v v':Value):Prop:=∀k,v'.ownBlock=some k→v.ownBlock=some k∨w.heap.size≤k
def And' (M:Nat→Prop) (v:Value):Nat→Prop:=fun b=>M b∨v.ownBlock=some b
def OwnRow (w:World) (base:Nat) (e:TypeId) (size:Nat) (v:Value) (n:Nat) (xs:List Value):Prop:=
  xs.length=n*size∧((v=.slice none 0 0∧n=0) ∨
   ∃g cap cur,v=.slice (some ⟨g,0,none⟩) n cap∧base≤g∧w.heap[g]?=some (.cells cur e (0,0))∧n≤cap∧cap≤maxLen∧cap*size≤cur.size∧cur.toList.take (n*size)=xs)
theorem OwnRow.of {w:World} {base:Nat} {e:TypeId} {size:Nat} {v:Value} {n:Nat} {xs:List Value} (h:w.ownsRow base e size v n xs):OwnRow w base e size v n xs:=by
  obtain ⟨h1,h2|⟨g,cap,cur,q1,q2,q3,q4,q5,q6,q7⟩⟩:=h
  · exact⟨h1,.inl h2⟩
  · exact⟨h1,.inr ⟨g,cap,cur,q1,q2,q3,q4,q5,Nat.le_of_eq q6.symm,q7⟩⟩
theorem OwnRow.lt {w:World} {base:Nat} {e:TypeId} {size:Nat} {v:Value} {n:Nat} {xs:List Value} (h:OwnRow w base e size v n xs):∀b,v.ownBlock=some b→base≤b∧b<w.heap.size:=fun b hb=>by
  rcases h.2 with ⟨rfl,_⟩|⟨g,cap,cur,rfl,q,r,_⟩
  · simp [Value.ownBlock] at hb
  · have e:g=b:=by simpa [Value.ownBlock] using hb
    exact e ▸ ⟨q,(Array.getElem?_eq_some_iff.1 r).1⟩
theorem OwnRow.cells {w:World} {base:Nat} {e:TypeId} {size:Nat} {v:Value} {n:Nat} {xs:List Value} (h:OwnRow w base e size v n xs) {g:Nat} (hg:v.ownBlock=some g):∀j u,xs[j]?=some u→w.cell? ((⟨g,0,none⟩:Addr).add j)=some u:=fun j u hu=>by
  rcases h.2 with ⟨rfl,_⟩|⟨g',cap,cur,rfl,_,hr,_,_,_,ht⟩
  · simp [Value.ownBlock] at hg
  · have e':g'=g:=by simpa [Value.ownBlock] using hg
    subst e';rw [Addr.add_lit,cell_of_row w g' _ cur e (0,0) hr];rw [←ht,List.getElem?_take] at hu;split at hu
    · simpa using hu
    · cases hu
structure aL (w:World) (base:Nat) (E:TypeId) (sz:Nat) (v:Value) (els:List (List Value)):Prop where
  row:OwnRow w base E sz v els.length els.flatten
  sz:∀c∈els,c.length=sz
theorem aL.nil (w:World) (base:Nat) (E:TypeId) (sz:Nat):aL w base E sz (.slice none 0 0) []:=⟨.of (World.ownsRow_nil _ _ _ _),by simp⟩
theorem aL.keep {M:Nat→Prop} {w w':World} {base:Nat} {E:TypeId} {sz:Nat} {v:Value} {els:List (List Value)} (h:aL w base E sz v els) (k:aA M w w') (hn:∀b,v.ownBlock=some b→¬M b):aL w' base E sz v els:=by
  refine ⟨⟨h.row.1,?_⟩,h.sz⟩;rcases h.row.2 with hx|⟨g,cap,cur,rfl,hb,hg,r⟩
  · exact .inl hx
  · exact .inr ⟨g,cap,cur,rfl,hb,by rw [k.block g (Array.getElem?_eq_some_iff.1 hg).1 (hn g rfl)];exact hg,r⟩
theorem aL.keepNil {w w':World} {base:Nat} {E:TypeId} {sz:Nat} {v:Value} {els:List (List Value)} (h:aL w base E sz v els) (k:aA Nil w w'):aL w' base E sz v els:=h.keep k fun _ _=>id
theorem aL.lt {w:World} {base:Nat} {E:TypeId} {sz:Nat} {v:Value} {els:List (List Value)} (h:aL w base E sz v els):∀b,v.ownBlock=some b→base≤b∧b<w.heap.size:=h.row.lt
theorem flatten_get {sz:Nat}:∀(els:List (List Value)),(∀c∈els,c.length=sz)→∀i j,i<els.length→j<sz→els.flatten[i*sz+j]?=some ((els.getD i []).getD j undef)
  | [],_,i,j,hi,_=>by simp at hi
  | c::els,h,0,j,_,hj=>by
    have hc:c.length=sz:=h c (by simp);simp only [List.flatten_cons,Nat.zero_mul,Nat.zero_add,List.getD_cons_zero];rw [List.getElem?_append_left (by omega)];simp [List.getD,List.getElem?_eq_getElem (show j<c.length by omega)]
  | c::els,h,i+1,j,hi,hj=>by
    have hc:c.length=sz:=h c (by simp);simp only [List.flatten_cons,List.getD_cons_succ];rw [List.getElem?_append_right (by rw [hc,Nat.add_mul];omega),hc,show (i+1)*sz+j-sz=i*sz+j by rw [Nat.add_mul];omega];exact flatten_get els (fun c hc=>h c (List.mem_cons_of_mem _ hc)) i j (by simpa using hi) hj
theorem bE {sz:Nat}:∀(els:List (List Value)),(∀c∈els,c.length=sz)→els.flatten.length=els.length*sz
  | [],_=>by simp
  | c::els,h=>by
    rw [List.flatten_cons,List.length_append,h c (by simp),bE els (fun c hc=>h c (List.mem_cons_of_mem _ hc)),List.length_cons,Nat.add_mul];omega
theorem aL.sl {α:Type} {M:Nat→Prop} {w:World} {base:Nat} {E:TypeId} {sz:Nat} {v:Value} {els:List (List Value)} {R:List Value→α→Prop} {d:α} {xs:List α} (h:aL w base E sz v els) (hM:∀b,v.ownBlock=some b→¬M b)
    (hx:xs.length=els.length) (hR:∀i,i<els.length→R (els.getD i []) (xs.getD i d)):∃a c,v=.slice a els.length c∧SlOf M w sz R d a els.length c xs:=by
  rcases h.row.2 with ⟨rfl,h0⟩|⟨g,cap,cur,rfl,hb,hg,hnc,hcm,hcs,htake⟩
  · have:els=[]:=List.eq_nil_of_length_eq_zero h0
    subst this;have:xs=[]:=List.eq_nil_of_length_eq_zero (by simpa using hx);subst this;exact⟨_,_,rfl,SlOf.nil⟩
  · refine ⟨_,_,rfl,hx,fun i=>els.getD i [],⟨hnc,by unfold maxLen at hcm;exact hcm,(fun h=>by cases h),fun p hp _=>?_⟩,fun i hi=>⟨h.sz _ (by simp [List.getD,List.getElem?_eq_getElem hi]),hR i hi⟩⟩
    cases hp;refine ⟨rfl,(Array.getElem?_eq_some_iff.1 hg).1,hM g rfl,fun i j hi hj=>?_⟩;have:=h.row.cells (g:=g) rfl (i*sz+j) _ (flatten_get els h.sz i j hi hj);rw [Addr.add_lit] at this;simpa [Nat.add_assoc] using this
section
variable {P:Program} (w:World)
theorem append_fresh (base:Nat) (t ty e:TypeId) (i:TypeInfo) (z:Value) (ht:P.underlying t=some (.slice e)) (hi:P.info? e=some i) (hz:i.zero=some z)
    (v:Value) (n:Nat) (xs:List Value) (hown:w.ownsRow base e i.size v n xs) (a:Addr) (m c:Nat) (news:List Value) (hl:news.length=m*i.size) (hnews:∀j u,news[j]?=some u→w.cell? (a.add j)=some u) (h1:∀u∈news,u.oneCell'=true)
    (h63:n+m≤maxLen) (hbytes:(n+m)*i.bytes≤140737488355328) {v':Value} {w':World} (hr:(Builtin.append_ #[t,t] ty #[v,.slice (some a) m c]).run P w=.ok v' w'):Fresh w v v':=by
  have hsmall:n+m≤9223372036854775807:=by simp only [maxLen] at h63;omega
  rcases hown.2 with ⟨rfl,rfl⟩|⟨g,cap,cur,rfl,hbg,hg,hnc,hcm,hcs,htake⟩
  · by_cases hm:m=0
    · subst hm
      have hn:news=[]:=List.eq_nil_of_length_eq_zero (by simpa using hl);subst hn;have:(Builtin.append_ #[t,t] ty #[.slice none 0 0,.slice (some a) 0 c]).run P w=.ok (.slice none 0 0) w:=by
        simp [Builtin.append_,run_underlying ht,sizeOf,typeInfo,hi,Builtin.lenOf,Builtin.firstCells,loadCells,loadCellsFrom]
      rw [this] at hr;cases hr;intro k hk;simp [Value.ownBlock] at hk
    · have hr':=run_append_nil (P:=P) w t ty e i z ht hi hz a m c news hl hnews (by omega) (by omega) (by have hb:=hbytes;simp only [Nat.zero_add] at hb;omega)
      rw [hr'] at hr;cases hr;intro k hk;simp [Value.ownBlock] at hk;right;omega
  · by_cases hroom:n+m≤cap
    · have hfit:n*i.size+news.length≤cur.size:=by rw [hl,hcs,←Nat.add_mul];exact Nat.mul_le_mul_right _ hroom
      have hr':=run_append_room (P:=P) w t ty e i ht hi g n cap cur hg a m c news hl hnews h1 hroom hfit;rw [hr'] at hr;cases hr;intro k hk;left;simpa [Value.ownBlock] using hk
    · have holds:∀j u,xs[j]?=some u→w.cell? ((⟨g,0,none⟩:Addr).add j)=some u:=hown.cells (g:=g) rfl
      have hr':=run_append_grow (P:=P) w t ty e i z ht hi hz ⟨g,0,none⟩ n cap xs hown.1 holds a m c news hl hnews (by omega) (by omega) (growslice_fits (by omega) hbytes);rw [hr'] at hr;cases hr;intro k hk;simp [Value.ownBlock] at hk;right;omega
theorem run_append_ownR (base:Nat) (t ty e:TypeId) (i:TypeInfo) (z:Value) (ht:P.underlying t=some (.slice e)) (hi:P.info? e=some i) (hz:i.zero=some z) (hzs:z.cells.size=i.size) (hsz:0<i.size)
    (v:Value) (n:Nat) (xs:List Value) (hown:OwnRow w base e i.size v n xs) (a:Addr) (m c:Nat) (news:List Value) (hl:news.length=m*i.size) (hnews:∀j u,news[j]?=some u→w.cell? (a.add j)=some u) (h1:∀u∈news,u.oneCell'=true)
    (h63:n+m≤maxLen) (hbytes:(n+m)*i.bytes≤140737488355328) (hbase:base≤w.heap.size) :
    ∃v' w',(Builtin.append_ #[t,t] ty #[v,.slice (some a) m c]).run P w=.ok v' w'∧OwnRow w' base e i.size v' (n+m) (xs++news)∧aA (Own v) w w'∧Fresh w v v'∧(v'=.slice none 0 0↔v=.slice none 0 0∧m=0):=by
  have hsmall:n+m≤9223372036854775807:=by simp only [maxLen] at h63;omega
  have hlen:(xs++news).length=(n+m)*i.size:=by rw [List.length_append,hown.1,hl,Nat.add_mul]
  rcases hown.2 with ⟨rfl,rfl⟩|⟨g,cap,cur,rfl,hbg,hg,hnc,hcm,hcs,htake⟩
  · have hx:xs=[]:=List.eq_nil_of_length_eq_zero (by simpa using hown.1)
    subst hx;obtain ⟨v',w',r1,r2,r3,r4⟩:=run_append_own (P:=P) w base t ty e i z _ _ ht hi hz rfl rfl hzs hsz (.slice none 0 0) 0 [] (World.ownsRow_nil _ _ _ _) a m c news hl hnews h1 h63 hbytes hbase;exact⟨v',w',r1,.of r2,⟨r3.os,r3.tape,r3.output,r3.size,fun k hk hn=>r3.block k hk fun e=>hn e.symm⟩,append_fresh (P:=P) w base t ty e i z ht hi hz (.slice none 0 0) 0 [] (World.ownsRow_nil _ _ _ _) a m c news hl hnews h1 h63 hbytes r1,r4⟩
  · by_cases hroom:n+m≤cap
    · have hfit:n*i.size+news.length≤cur.size:=by rw [hl,←Nat.add_mul];exact Nat.le_trans (Nat.mul_le_mul_right _ hroom) hcs
      have hr:=run_append_room (P:=P) w t ty e i ht hi g n cap cur hg a m c news hl hnews h1 hroom hfit;refine ⟨_,_,hr,⟨hlen,.inr ⟨g,cap,_,rfl,hbg,setRow_heap w g cur _ e _ hg,hroom,hcm,?_,?_⟩⟩,⟨rfl,rfl,rfl,by simp,fun k _ hk=>setRow_other w g k _ (fun e=>hk (by simp [Own,Value.ownBlock,e]))⟩,fun k hk=>.inl (by simpa [Value.ownBlock] using hk),by simp⟩
      · simp only [List.size_toArray,List.length_append,List.length_take,List.length_drop,Array.length_toList]
        omega
      · simp only []
        rw [htake,←hlen];exact List.take_left
    · have hr:=run_append_grow (P:=P) w t ty e i z ht hi hz ⟨g,0,none⟩ n cap xs hown.1 (hown.cells (g:=g) rfl) a m c news hl hnews (by omega) (by omega) (growslice_fits (by omega) hbytes)
      refine ⟨_,_,hr,⟨hlen,.inr ⟨w.heap.size,_,_,rfl,hbase,heap_alloc_new w.drew _,grownCap_ge ..,grownCap_le_maxLen _ _ _ _ h63,?_,?_⟩⟩,⟨rfl,rfl,rfl,by simp,fun k hk _=>heap_alloc_old w.drew _ hk⟩,fun k hk=>.inr (by simp [Value.ownBlock] at hk;omega),by simp⟩
      · have hge:=grownCap_ge w (n+m) cap e
        simp only [Array.size_append,List.size_toArray,size_zeroCells,hzs,hown.1,hl,←Nat.add_mul];refine Nat.le_of_eq ?_;congr 1;omega
      · simp only [Array.toList_append]
        rw [←hlen];exact List.take_left
theorem run_append_ownR_none (base:Nat) (t ty e:TypeId) (i:TypeInfo) (size:Nat) (ht:P.underlying t=some (.slice e)) (hi:P.info? e=some i) (v:Value) (n:Nat) (xs:List Value) (h:OwnRow w base e size v n xs):(Builtin.append_ #[t,t] ty #[v,.slice none 0 0]).run P w=.ok v w:=by
  have hv:v=.slice none 0 0∨∃g cap,v=.slice (some ⟨g,0,none⟩) n cap∧n+0≤cap:=by
    rcases h.2 with ⟨q,_⟩|⟨g,cap,cur,q,_,_,r,_⟩
    · exact .inl q
    · exact .inr ⟨g,cap,q,r⟩
  rcases hv with rfl|⟨g,cap,rfl,r⟩
  · simp [Builtin.append_,Builtin.lenOf,Builtin.firstCells,sizeOf,typeInfo,hi,run_underlying ht]
  · simp only [Nat.add_zero] at r
    simp [Builtin.append_,Builtin.lenOf,Builtin.firstCells,storeCells,sizeOf,typeInfo,hi,r,run_underlying ht]
theorem wpList_append_ownR_none {ops:Array Oper} {rest:List Oper} {o:Oper} {a:Act} {Q:Exit→Act→World→Prop} (hgd:o.guard=none) (s x:Operand) (t:TypeId)
    (ho:o.op=.call { callee:=.builtin .append,args:=#[s,x],argTypes:=#[t,t] }) (base:Nat) (e:TypeId) (i:TypeInfo) (size:Nat) (ht:P.underlying t=some (.slice e)) (hi:P.info? e=some i)
    (v:Value) (n:Nat) (xs:List Value) (hs:a.eval s=v) (hown:OwnRow w base e size v n xs) (hx:a.eval x=.slice none 0 0) (h:wpList P ops Q rest (a.put o.dst v) w):wpList P ops Q (o::rest) a w:=by
  refine wpList_plain hgd fun K hK=>?_;have hrun:=run_append_ownR_none (P:=P) w base t o.type e i size ht hi v n xs hown;unfold Oper.wp;simp [execOp,ho,resolve,invoke,builtin,hs,hx,hrun,Result.andThen];exact hK _ _ h
theorem cC {ops:Array Oper} {rest:List Oper} {o:Oper} {a:Act} {Q:Exit→Act→World→Prop} (hgd:o.guard=none) (s x:Operand) (t:TypeId)
    (ho:o.op=.call { callee:=.builtin .append,args:=#[s,x],argTypes:=#[t,t] })
    (base:Nat) (e:TypeId) (i:TypeInfo) (z:Value) (size bytes:Nat) (ht:P.underlying t=some (.slice e)) (hi:P.info? e=some i) (hz:i.zero=some z)
    (hsize:i.size=size) (hby:i.bytes=bytes) (hzs:z.cells.size=size) (hsz:0<size)
    (v:Value) (els:List (List Value)) (hs:a.eval s=v) (hown:aL w base e size v els)
    (ad:Addr) (c m:Nat) (new:List (List Value)) (hx:a.eval x=.slice (some ad) m c) (hm:new.length=m) (hl:∀c∈new,c.length=size) (hnews:∀j u,new.flatten[j]?=some u→w.cell? (ad.add j)=some u) (h1:∀u∈new.flatten,u.oneCell'=true)
    (h63:els.length+m≤9223372036854775807) (hbytes:(els.length+m)*bytes≤140737488355328) (hbase:base≤w.heap.size)
    (h:∀v' w',aL w' base e size v' (els++new)→aA (Own v) w w'→Fresh w v v'→(v'=.slice none 0 0↔v=.slice none 0 0∧m=0)→wpList P ops Q rest (a.put o.dst v') w'):wpList P ops Q (o::rest) a w:=by
  subst hsize;subst hby;subst hm;refine wpList_plain hgd fun K hK=>?_;obtain ⟨v',w',hr,h2,h3,hf,h4⟩:=run_append_ownR (P:=P) w base t o.type e i z ht hi hz hzs hsz v els.length els.flatten hown.row ad new.length c new.flatten (bE new hl) hnews h1 (by unfold maxLen;omega) hbytes hbase;unfold Oper.wp execOp;simp only [ho,resolve,invoke,builtin,Sem.run_bind,Sem.run_pure,Result.andThen_ok,List.map_toArray,List.map_cons,List.map_nil,hs,hx,hr];refine hK _ _ (h v' w' ⟨by simpa using h2,fun c hc=>?_⟩ h3 hf h4);rcases List.mem_append.1 hc with hc|hc
  · exact hown.sz c hc
  · exact hl c hc
end
theorem alloc_news (w:World) (cs:List Value) (E:TypeId):∀j u,[cs].flatten[j]?=some u→(w.alloc (.cells cs.toArray E)).cell? ((⟨w.heap.size,0,none⟩:Addr).add j)=some u:=by
  intro j u hj;rw [Addr.add_lit];have h:=aC.cell (aC.alloc (w:=w) (E:=E) (xs:=cs)) j;simp only [Nat.zero_add];rw [h];simpa using hj
end
def Bs:Nat:=4294967296
theorem Bs_pos:0<Bs:=by decide
theorem cL:Bs=4294967296:=rfl
def nval:List Nat→Nat
  | []=>0
  | x::l=>x+Bs*nval l
def Small (l:List Nat):Prop:=∀x∈l,x<4294967296
theorem Small.nil:Small []:=by intro x hx;cases hx
theorem Small.cons {x:Nat} {l:List Nat} (hx:x<4294967296) (h:Small l):Small (x::l):=by
  intro y hy;rcases List.mem_cons.1 hy with rfl|hy
  · exact hx
  · exact h y hy
theorem Small.tail {x:Nat} {l:List Nat} (h:Small (x::l)):Small l:=fun y hy=>h y (List.mem_cons_of_mem _ hy)
theorem Small.head {x:Nat} {l:List Nat} (h:Small (x::l)):x<Bs:=h x (List.mem_cons_self ..)
theorem Small.take {l:List Nat} (h:Small l) (k:Nat):Small (l.take k):=fun y hy=>h y (List.mem_of_mem_take hy)
theorem Small.append {a b:List Nat} (ha:Small a) (hb:Small b):Small (a++b):=by
  intro y hy;rcases List.mem_append.1 hy with h|h
  · exact ha y h
  · exact hb y h
theorem nval_append (a b:List Nat):nval (a++b)=nval a+Bs ^ a.length*nval b:=by
  induction a with
  | nil=>simp [nval]
  | cons x a ih=>
    simp only [List.cons_append,nval,List.length_cons,ih,Nat.pow_succ,Nat.mul_add];rw [show Bs ^ a.length*Bs*nval b=Bs*(Bs ^ a.length*nval b) by rw [Nat.mul_comm (Bs ^ a.length) Bs,Nat.mul_assoc]];omega
theorem nval_lt {l:List Nat} (h:Small l):nval l<Bs ^ l.length:=by
  induction l with
  | nil=>simp [nval]
  | cons x l ih=>
    have h1:=ih h.tail;have h2:=h.head;simp only [nval,List.length_cons,Nat.pow_succ]
    calc x+Bs*nval l<Bs+Bs*nval l:=by omega
      _=Bs*(nval l+1):=by rw [Nat.mul_add];omega
      _≤Bs*Bs ^ l.length:=Nat.mul_le_mul_left _ h1
      _=Bs ^ l.length*Bs:=Nat.mul_comm _ _
theorem nval_replicate (n:Nat):nval (List.replicate n 0)=0:=by
  induction n with
  | zero=>rfl
  | succ n ih=>simp [List.replicate_succ,nval,ih]
theorem nval_take_succ {l:List Nat} {i:Nat} (hi:i<l.length):nval (l.take (i+1))=nval (l.take i)+Bs ^ i*lim l i:=by
  rw [List.take_succ_eq_append_getElem hi,nval_append,List.length_take,Nat.min_eq_left (Nat.le_of_lt hi)];simp [nval,lim,hi]
theorem nval_split (l:List Nat) (k:Nat) (hk:k≤l.length):nval l=nval (l.take k)+Bs ^ k*nval (l.drop k):=by
  have h:=nval_append (l.take k) (l.drop k);rw [List.take_append_drop,List.length_take,Nat.min_eq_left hk] at h;exact h
theorem topK_spec (l:List Nat):∀k,k≤l.length→nval (l.take k)=nval (l.take (topK l k))∧(topK l k=0∨lim l (topK l k-1)≠0)
  | 0,_=>⟨rfl,.inl rfl⟩
  | k+1,hk=>by
    by_cases h:lim l k=0
    · obtain ⟨h1,h2⟩:=topK_spec l k (by omega)
      rw [topK_zero h,nval_take_succ (by omega),h,Nat.mul_zero,Nat.add_zero];exact⟨h1,h2⟩
    · rw [topK_pos h]
      exact⟨rfl,.inr (by simpa using h)⟩
theorem cQ (l:List Nat):nval (trim l)=nval l:=by
  have:=(topK_spec l l.length (Nat.le_refl _)).1;rw [List.take_length] at this;exact this.symm
theorem Small.trim {l:List Nat} (h:Small l):Small (trim l):=h.take _
def Bare (l:List Nat):Prop:=l=[]∨lim l (l.length-1)≠0
theorem bare_trim (l:List Nat):Bare (trim l):=by
  have h:=(topK_spec l l.length (Nat.le_refl _)).2;have hl:=cY l;unfold Bare;rcases h with h|h
  · left;apply List.eq_nil_of_length_eq_zero;rw [hl];exact h
  · by_cases h0:top l=0
    · left;apply List.eq_nil_of_length_eq_zero;rw [hl];exact h0
    · right;rw [hl];unfold trim;rw [lim_take (by omega)];exact h
def bD (n:Nat):List Nat:=if n=0 then [] else n % Bs::bD (n / Bs)
termination_by n
decreasing_by exact Nat.div_lt_self (Nat.pos_of_ne_zero (by assumption)) (by decide)
theorem bP:bD 0=[]:=by unfold bD;simp
theorem limbsOf_pos {n:Nat} (h:n≠0):bD n=n % Bs::bD (n / Bs):=by rw [bD];simp [h]
theorem cT (n:Nat):nval (bD n)=n:=by
  induction n using Nat.strongRecOn with
  | _ n ih=>
    by_cases h:n=0
    · subst h;rw [bP];rfl
    · rw [limbsOf_pos h,nval,ih _ (Nat.div_lt_self (Nat.pos_of_ne_zero h) (by decide))]
      have:=Nat.mod_add_div n Bs;omega
theorem small_limbsOf (n:Nat):Small (bD n):=by
  induction n using Nat.strongRecOn with
  | _ n ih=>
    by_cases h:n=0
    · subst h;rw [bP];exact Small.nil
    · rw [limbsOf_pos h]
      exact Small.cons (Nat.mod_lt _ Bs_pos) (ih _ (Nat.div_lt_self (Nat.pos_of_ne_zero h) (by decide)))
theorem limbsOf_nval {l:List Nat} (hs:Small l) (hb:Bare l):bD (nval l)=l:=by
  induction l with
  | nil=>simp [nval,bP]
  | cons x l ih=>
    have hx:=hs.head;have hbl:Bare l:=by
      rcases hb with h|h
      · cases h
      · cases l with
        | nil=>exact .inl rfl
        | cons y l=>right;simpa [lim] using h
    have hne:nval (x::l)≠0:=by
      simp only [nval];rcases hb with h|h
      · cases h
      · cases l with
        | nil=>simp [lim] at h;simp [nval];exact h
        | cons y l=>
          intro h0;have h1:nval (y::l)=0:=by
            rcases Nat.mul_eq_zero.1 (show Bs*nval (y::l)=0 by omega) with h2|h2
            · exact absurd h2 (by decide)
            · exact h2
          have h2:=ih hs.tail hbl;rw [h1,bP] at h2;cases h2
    rw [limbsOf_pos hne];simp only [nval];rw [Nat.add_mul_mod_self_left,Nat.mod_eq_of_lt hx,Nat.add_mul_div_left _ _ Bs_pos,Nat.div_eq_of_lt hx,Nat.zero_add,ih hs.tail hbl]
theorem trim_eq {l:List Nat} (hs:Small l):trim l=bD (nval l):=by
  rw [←cQ l];exact (limbsOf_nval hs.trim (bare_trim l)).symm
theorem top_eq {l:List Nat} (hs:Small l):top l=(bD (nval l)).length:=by rw [←trim_eq hs,cY]
def nlen (n:Nat):Nat:=(bD n).length
theorem dB {n k:Nat} (h:n<Bs ^ k):nlen n≤k:=by
  induction k generalizing n with
  | zero=>simp at h;subst h;simp [nlen,bP]
  | succ k ih=>
    by_cases h0:n=0
    · subst h0;simp [nlen,bP]
    · have:=ih (n:=n / Bs) (by rw [Nat.pow_succ] at h;exact Nat.div_lt_of_lt_mul (by rw [Nat.mul_comm];exact h))
      unfold nlen at *
      rw [limbsOf_pos h0,List.length_cons];omega
theorem lt_pow_nlen (n:Nat):n<Bs ^ nlen n:=by
  have:=nval_lt (small_limbsOf n);rwa [cT] at this
theorem nlen_mono {a b:Nat} (h:a≤b):nlen a≤nlen b:=dB (Nat.lt_of_le_of_lt h (lt_pow_nlen b))
theorem nlen_add (a b:Nat):nlen (a+b)≤max (nlen a) (nlen b)+1:=by
  apply dB;have h1:=lt_pow_nlen a;have h2:=lt_pow_nlen b;have h3:Bs ^ nlen a≤Bs ^ max (nlen a) (nlen b):=Nat.pow_le_pow_right Bs_pos (Nat.le_max_left _ _);have h4:Bs ^ nlen b≤Bs ^ max (nlen a) (nlen b):=Nat.pow_le_pow_right Bs_pos (Nat.le_max_right _ _);rw [Nat.pow_succ];have:Bs ^ max (nlen a) (nlen b)*2≤Bs ^ max (nlen a) (nlen b)*Bs:=Nat.mul_le_mul_left _ (by decide);omega
theorem nlen_mul (a b:Nat):nlen (a*b)≤nlen a+nlen b:=by
  apply dB;rw [Nat.pow_add];exact Nat.mul_lt_mul'' (lt_pow_nlen a) (lt_pow_nlen b)
theorem nlen_le {l:List Nat} (hs:Small l):nlen (nval l)≤l.length:=dB (nval_lt hs)
theorem nval_eq_zero {l:List Nat}:nval l=0↔∀x∈l,x=0:=by
  induction l with
  | nil=>simp [nval]
  | cons x l ih=>
    simp only [nval,List.mem_cons,forall_eq_or_imp];constructor
    · intro h
      have h1:Bs*nval l=0:=by omega
      rcases Nat.mul_eq_zero.1 h1 with h2|h2
      · exact absurd h2 (by decide)
      · exact⟨by omega,ih.1 h2⟩
    · rintro ⟨h1,h2⟩
      rw [h1,ih.2 h2];rfl
theorem nval_lt_of_len {a b:List Nat} (ha:Small a) (hb:Bare b) (h:a.length<b.length):nval a<nval b:=by
  rcases hb with rfl|hb
  · simp at h
  · have h1:=nval_lt ha
    have h2:Bs ^ a.length≤Bs ^ (b.length-1):=Nat.pow_le_pow_right Bs_pos (by omega);rw [nval_split b (b.length-1) (by omega)];have h3:b.drop (b.length-1)=[lim b (b.length-1)]:=by
      rw [List.drop_eq_getElem_cons (by omega)];rw [lim_lt (by omega),show b.length-1+1=b.length by omega,List.drop_length]
    rw [h3];simp only [nval,Nat.mul_zero,Nat.add_zero];have h4:Bs ^ (b.length-1)*1≤Bs ^ (b.length-1)*lim b (b.length-1):=Nat.mul_le_mul_left _ (Nat.pos_of_ne_zero hb);omega
theorem lim_ge {l:List Nat} {i:Nat} (h:l.length≤i):lim l i=0:=by simp [lim,List.getD,List.getElem?_eq_none h]
theorem bL (l:List Nat) (i:Nat):nval (l.take (i+1))=nval (l.take i)+Bs ^ i*lim l i:=by
  by_cases hi:i<l.length
  · exact nval_take_succ hi
  · rw [List.take_of_length_le (by omega),List.take_of_length_le (by omega),lim_ge (by omega),Nat.mul_zero,Nat.add_zero]
theorem bT {l:List Nat} (h:Small l) (i:Nat):lim l i<4294967296:=by
  by_cases hi:i<l.length
  · rw [lim_lt hi];exact h _ (List.getElem_mem hi)
  · rw [lim_ge (by omega)];decide
theorem nval_snoc (o:List Nat) (x:Nat):nval (o++[x])=nval o+Bs ^ o.length*x:=by rw [nval_append];simp [nval]
theorem small_snoc {o:List Nat} {x:Nat} (h:Small o) (hx:x<4294967296):Small (o++[x]):=h.append (Small.cons hx Small.nil)
theorem carry_split (i s:Nat):Bs ^ i*(s % Bs)+Bs ^ (i+1)*(s / Bs)=Bs ^ i*s:=by
  rw [Nat.pow_succ,Nat.mul_assoc,←Nat.mul_add,Nat.mod_add_div]
def addK (a b:List Nat):Nat→List Nat × Nat
  | 0=>([],0)
  | i+1=>((addK a b i).1++[((addK a b i).2+lim a i+lim b i) % Bs],((addK a b i).2+lim a i+lim b i) / Bs)
theorem addK_spec {a b:List Nat} (ha:Small a) (hb:Small b):∀i,(addK a b i).1.length=i∧Small (addK a b i).1∧(addK a b i).2≤1∧nval (addK a b i).1+Bs ^ i*(addK a b i).2=nval (a.take i)+nval (b.take i)
  | 0=>⟨rfl,Small.nil,by simp [addK],by simp [addK,nval]⟩
  | i+1=>by
    obtain ⟨h1,h2,h3,h4⟩:=addK_spec ha hb i;have la:=bT ha i;have lb:=bT hb i;have hB:=cL;refine ⟨by simp [addK,h1],small_snoc h2 (by have:=Nat.mod_lt ((addK a b i).2+lim a i+lim b i) Bs_pos;omega),by simp only [addK];rw [hB];omega,?_⟩;simp only [addK];have hc:=carry_split i ((addK a b i).2+lim a i+lim b i);rw [Nat.mul_add,Nat.mul_add] at hc;rw [nval_snoc,h1,bL,bL,←Nat.add_assoc,Nat.add_assoc (nval _),hc];omega
def subK (a b:List Nat):Nat→List Nat × Nat
  | 0=>([],0)
  | i+1=>((subK a b i).1++[(lim a i+Bs-lim b i-(subK a b i).2) % Bs],1-(lim a i+Bs-lim b i-(subK a b i).2) / Bs)
theorem subK_spec {a b:List Nat} (ha:Small a) (hb:Small b):∀i,(subK a b i).1.length=i∧Small (subK a b i).1∧(subK a b i).2≤1∧nval (subK a b i).1+nval (b.take i)=nval (a.take i)+Bs ^ i*(subK a b i).2
  | 0=>⟨rfl,Small.nil,by simp [subK],by simp [subK,nval]⟩
  | i+1=>by
    obtain ⟨h1,h2,h3,h4⟩:=subK_spec ha hb i;have la:=bT ha i;have lb:=bT hb i;have hB:=cL;have hB1:Bs ^ (i+1)=Bs ^ i*4294967296:=by rw [Nat.pow_succ,hB]
    refine ⟨by simp [subK,h1],small_snoc h2 (by have:=Nat.mod_lt (lim a i+Bs-lim b i-(subK a b i).2) Bs_pos;omega),by simp only [subK];exact Nat.sub_le _ _,?_⟩;simp only [subK];rw [nval_snoc,h1,bL,bL];generalize (subK a b i).2=c at *
    rw [hB1];generalize Bs ^ i=P at *
    rw [hB];by_cases hlt:lim a i<lim b i+c
    · have e1:(lim a i+4294967296-lim b i-c) / 4294967296=0:=by omega
      have e2:(lim a i+4294967296-lim b i-c) % 4294967296=lim a i+4294967296-lim b i-c:=by omega
      rw [e1,e2];have e3:P*(lim a i+4294967296-lim b i-c)+P*lim b i+P*c=P*lim a i+P*4294967296:=by
        rw [←Nat.mul_add,←Nat.mul_add,←Nat.mul_add];congr 1;omega
      omega
    · have e1:(lim a i+4294967296-lim b i-c) / 4294967296=1:=by omega
      have e2:(lim a i+4294967296-lim b i-c) % 4294967296=lim a i-lim b i-c:=by omega
      rw [e1,e2];have e3:P*(lim a i-lim b i-c)+P*lim b i+P*c=P*lim a i:=by
        rw [←Nat.mul_add,←Nat.mul_add];congr 1;omega
      omega
theorem subK_all {a b:List Nat} (ha:Small a) (hb:Small b) (hl:b.length≤a.length) (hle:nval b≤nval a):(subK a b a.length).2=0∧nval (subK a b a.length).1=nval a-nval b:=by
  obtain ⟨h1,h2,h3,h4⟩:=subK_spec ha hb a.length;rw [List.take_of_length_le hl,List.take_length] at h4;have h5:=nval_lt h2;rw [h1] at h5;rcases (show (subK a b a.length).2=0∨(subK a b a.length).2=1 by omega) with h|h
  · rw [h] at h4;exact⟨h,by omega⟩
  · rw [h] at h4;omega
def cmpN (a b:Nat):Int:=if a<b then -1 else if b<a then 1 else 0
theorem cmpN_lt {a b:Nat} (h:a<b):cmpN a b=-1:=by simp [cmpN,h]
theorem cmpN_gt {a b:Nat} (h:b<a):cmpN a b=1:=by simp [cmpN,h];omega
theorem cmpN_step (a b:List Nat) (ha:Small a) (hb:Small b) (i:Nat) :
    cmpN (nval (a.take (i+1))) (nval (b.take (i+1)))=if lim a i<lim b i then -1 else if lim b i<lim a i then 1 else cmpN (nval (a.take i)) (nval (b.take i)):=by
  rw [bL,bL];have h1:nval (a.take i)<Bs ^ i:=Nat.lt_of_lt_of_le (nval_lt (ha.take i)) (Nat.pow_le_pow_right Bs_pos (by rw [List.length_take];omega));have h2:nval (b.take i)<Bs ^ i:=Nat.lt_of_lt_of_le (nval_lt (hb.take i)) (Nat.pow_le_pow_right Bs_pos (by rw [List.length_take];omega));by_cases hx:lim a i<lim b i
  · rw [if_pos hx]
    apply cmpN_lt;have h3:Bs ^ i*(lim a i+1)≤Bs ^ i*lim b i:=Nat.mul_le_mul_left _ hx;rw [Nat.mul_add,Nat.mul_one] at h3;omega
  · rw [if_neg hx]
    by_cases hy:lim b i<lim a i
    · rw [if_pos hy]
      apply cmpN_gt;have h3:Bs ^ i*(lim b i+1)≤Bs ^ i*lim a i:=Nat.mul_le_mul_left _ hy;rw [Nat.mul_add,Nat.mul_one] at h3;omega
    · rw [if_neg hy,show lim a i=lim b i by omega]
      unfold cmpN;by_cases h4:nval (a.take i)<nval (b.take i)
      · rw [if_pos h4,if_pos (by omega)]
      · rw [if_neg h4,if_neg (by omega)]
        by_cases h5:nval (b.take i)<nval (a.take i)
        · rw [if_pos h5,if_pos (by omega)]
        · rw [if_neg h5,if_neg (by omega)]
def quoK (a:List Nat) (d:Nat):Nat→List Nat × Nat
  | 0=>([],0)
  | j+1=>(((quoK a d j).2*Bs+lim a (a.length-(j+1))) / d::(quoK a d j).1,((quoK a d j).2*Bs+lim a (a.length-(j+1))) % d)
theorem drop_pred {l:List Nat} {j:Nat} (h:j<l.length):l.drop (l.length-(j+1))=lim l (l.length-(j+1))::l.drop (l.length-j):=by
  rw [List.drop_eq_getElem_cons (by omega),lim_lt (by omega),show l.length-(j+1)+1=l.length-j by omega]
theorem quoK_spec {a:List Nat} {d:Nat} (ha:Small a) (hd:0<d) (hd2:d<4294967296):∀j,j≤a.length→(quoK a d j).1.length=j∧Small (quoK a d j).1∧(quoK a d j).2<d∧nval (quoK a d j).1*d+(quoK a d j).2=nval (a.drop (a.length-j))
  | 0,_=>⟨rfl,Small.nil,by simpa [quoK] using hd,by simp [quoK,nval]⟩
  | j+1,hj=>by
    obtain ⟨h1,h2,h3,h4⟩:=quoK_spec ha hd hd2 j (by omega);have hB:=cL;have hx:=bT ha (a.length-(j+1));refine ⟨by simp [quoK,h1],Small.cons ?_ h2,Nat.mod_lt _ hd,?_⟩
    · rw [Nat.div_lt_iff_lt_mul hd]
      have:((quoK a d j).2+1)*Bs≤d*Bs:=Nat.mul_le_mul_right _ h3;rw [Nat.add_mul] at this;rw [Nat.mul_comm 4294967296 d,←hB];omega
    · simp only [quoK,nval]
      rw [drop_pred (by omega),nval,←h4];have h5:=Nat.mod_add_div ((quoK a d j).2*Bs+lim a (a.length-(j+1))) d;rw [Nat.add_mul,Nat.mul_add,Nat.mul_assoc,Nat.mul_comm (((quoK a d j).2*Bs+lim a (a.length-(j+1))) / d) d,Nat.mul_comm Bs (quoK a d j).2];omega
theorem quoK_all {a:List Nat} {d:Nat} (ha:Small a) (hd:0<d) (hd2:d<4294967296):nval (quoK a d a.length).1=nval a / d∧(quoK a d a.length).2=nval a % d:=by
  obtain ⟨h1,h2,h3,h4⟩:=quoK_spec ha hd hd2 a.length (Nat.le_refl _);rw [Nat.sub_self,List.drop_zero] at h4;constructor
  · rw [←h4,Nat.mul_comm,Nat.mul_add_div hd,Nat.div_eq_of_lt h3,Nat.add_zero]
  · rw [←h4,Nat.mul_comm,Nat.mul_add_mod,Nat.mod_eq_of_lt h3]
def bY (a:List Nat) (n more:Nat):Nat→List Nat × Nat
  | 0=>([],more)
  | i+1=>((bY a n more i).1++[(lim a i*n+(bY a n more i).2) % Bs],(lim a i*n+(bY a n more i).2) / Bs)
theorem timesK_spec {a:List Nat} {n more:Nat} (ha:Small a) (hn:n<4294967296) (hm:more<4294967296):∀i,(bY a n more i).1.length=i∧Small (bY a n more i).1∧(bY a n more i).2<4294967296∧nval (bY a n more i).1+Bs ^ i*(bY a n more i).2=nval (a.take i)*n+more
  | 0=>⟨rfl,Small.nil,hm,by simp [bY,nval]⟩
  | i+1=>by
    obtain ⟨h1,h2,h3,h4⟩:=timesK_spec ha hn hm i;have la:=bT ha i;have hB:=cL;refine ⟨by simp [bY,h1],small_snoc h2 (by have:=Nat.mod_lt (lim a i*n+(bY a n more i).2) Bs_pos;omega),?_,?_⟩
    · simp only [bY]
      have hp:lim a i*n≤4294967295*4294967295:=Nat.mul_le_mul (by omega) (by omega);rw [hB];omega
    · simp only [bY]
      have hc:=carry_split i (lim a i*n+(bY a n more i).2);rw [Nat.mul_add] at hc;rw [nval_snoc,h1,bL,Nat.add_mul,Nat.add_assoc,hc,Nat.mul_assoc];omega
def ival (x:Bool × List Nat):Int:=if x.1=true then -(nval x.2:Int) else (nval x.2:Int)
def neg (z:Int):Bool:=decide (z<0)
def norm (z:Int):Bool × List Nat:=(neg z,bD z.natAbs)
theorem ival_norm (z:Int):ival (norm z)=z:=by
  unfold ival norm neg;by_cases h:z<0
  · simp only [h,decide_true,if_true,cT];omega
  · simp only [h,decide_false,Bool.false_eq_true,if_false,cT];omega
theorem natAbs_ival (x:Bool × List Nat):(ival x).natAbs=nval x.2:=by
  unfold ival;split<;>omega
theorem neg_ival (x:Bool × List Nat):neg (ival x)=(x.1&&decide (nval x.2≠0)):=by
  obtain ⟨g,l⟩:=x;unfold ival neg;cases g
  · simp
  · by_cases h:nval l=0
    · simp [h]
    · simp only [if_true,Bool.true_and]
      rw [decide_eq_decide];constructor
      · intro _;exact h
      · intro _;omega
def Fits (k:Nat) (z:Int):Prop:=nlen z.natAbs+k≤35184372088832
theorem Fits.mono {k j:Nat} {z:Int} (h:Fits k z) (hj:j≤k):Fits j z:=by unfold Fits at *;omega
theorem dP (a b:Int):nlen (a+b).natAbs≤max (nlen a.natAbs) (nlen b.natAbs)+1:=
  Nat.le_trans (nlen_mono (by omega)) (nlen_add _ _)
def ZAt (M:Nat→Prop) (w:World) (g:Bool) (a:Option Addr) (n c:Nat) (z:Int):Prop:=∃l,aR M w a n c l∧n*4≤140737488355328∧ival (g,l)=z
def ZN (M:Nat→Prop) (w:World) (g:Bool) (a:Option Addr) (n c:Nat) (z:Int):Prop:=g=neg z∧aR M w a n c (bD z.natAbs)
theorem ZN.at {M:Nat→Prop} {w:World} {g:Bool} {a:Option Addr} {n c:Nat} {z:Int} (h:ZN M w g a n c z) (hf:Fits 0 z):ZAt M w g a n c z:=by
  refine ⟨_,h.2,?_,?_⟩
  · have:=h.2.len
    unfold Fits nlen at hf;omega
  · rw [h.1];exact ival_norm z
theorem ZAt.move {M M' M2:Nat→Prop} {w w':World} {g:Bool} {a:Option Addr} {n c:Nat} {z:Int} (h:ZAt M w g a n c z) (k:aA M' w w') (h1:∀b,b<w.heap.size→M' b→M b) (h2:∀b,b<w.heap.size→M2 b→M b):ZAt M2 w' g a n c z:=
  h.elim fun l ⟨q1,q2⟩=>⟨l,q1.move k h1 h2,q2⟩
theorem ZN.move {M M' M2:Nat→Prop} {w w':World} {g:Bool} {a:Option Addr} {n c:Nat} {z:Int} (h:ZN M w g a n c z) (k:aA M' w w') (h1:∀b,b<w.heap.size→M' b→M b) (h2:∀b,b<w.heap.size→M2 b→M b):ZN M2 w' g a n c z:=
  ⟨h.1,h.2.move k h1 h2⟩
theorem ZAt.keepNil {M:Nat→Prop} {w w':World} {g:Bool} {a:Option Addr} {n c:Nat} {z:Int} (h:ZAt M w g a n c z) (k:aA Nil w w'):ZAt M w' g a n c z:=h.move k (fun _ _ h=>h.elim) fun _ _=>id
theorem ZN.keepNil {M:Nat→Prop} {w w':World} {g:Bool} {a:Option Addr} {n c:Nat} {z:Int} (h:ZN M w g a n c z) (k:aA Nil w w'):ZN M w' g a n c z:=h.move k (fun _ _ h=>h.elim) fun _ _=>id
structure PSet where
  P:Nat
  cuts:List Int
  rows:List (List Bool)
def place (cuts:List Int) (x:Int):Nat:=cuts.countP (fun c=>decide (c≤x))
def rowOf (S:PSet) (x:Int):List Bool:=S.rows.getD (place S.cuts x) []
def has (S:PSet) (x:Int):Bool:=(rowOf S x).getD (x % (S.P:Int)).toNat false
structure PSet.Ok (S:PSet):Prop where
  pos:1≤S.P
  le:S.P≤4096
  len:S.rows.length=S.cuts.length+1
  row:∀r∈S.rows,r.length=S.P
  sorted:S.cuts.Pairwise (·<·)
def ins (x:Int):List Int→List Int
  | []=>[x]
  | y::l=>if x<y then x::y::l else if x=y then y::l else y::ins x l
theorem mem_ins {x y:Int}:∀{l:List Int},y∈ins x l↔y=x∨y∈l
  | []=>by simp [ins]
  | z::l=>by
    unfold ins;split
    · simp
    · split
      · rename_i h;subst h;simp
      · rw [List.mem_cons,mem_ins (l:=l),List.mem_cons]
        constructor
        · rintro (h|h|h)
          · exact .inr (.inl h)
          · exact .inl h
          · exact .inr (.inr h)
        · rintro (h|h|h)
          · exact .inr (.inl h)
          · exact .inl h
          · exact .inr (.inr h)
theorem sorted_ins {x:Int}:∀{l:List Int},l.Pairwise (·<·)→(ins x l).Pairwise (·<·)
  | [],_=>by simp [ins]
  | y::l,h=>by
    unfold ins;have h':=List.pairwise_cons.1 h;split
    · rename_i hlt
      refine List.pairwise_cons.2 ⟨fun z hz=>?_,h⟩;rcases List.mem_cons.1 hz with rfl|hz
      · exact hlt
      · have:=h'.1 z hz;omega
    · split
      · exact h
      · rename_i h1 h2
        refine List.pairwise_cons.2 ⟨fun z hz=>?_,sorted_ins h'.2⟩;rcases mem_ins.1 hz with rfl|hz
        · omega
        · exact h'.1 z hz
theorem mod_lt {S:PSet} (h:S.Ok) (x:Int):(x % (S.P:Int)).toNat<S.P:=by
  have hp:=h.pos;have:=Int.emod_lt_of_pos x (show (0:Int)<(S.P:Int) by omega);have:=Int.emod_nonneg x (show (S.P:Int)≠0 by omega);omega
end Go.Proofs.Q
