/- What the laws' built does: a recipe's nodes in an arena. -/
import Derived.Test.YtlldghknenbccaaGreatDoorRReadsB
set_option linter.unusedSimpArgs false
set_option linter.unusedVariables false
namespace Go.Proofs.Q
open Go.RowKit
def LK (w:World) (b o:Nat) (gd gk:Bool) (ad ap ak aq:Option Addr) (nd cd np cp nk ck nq cq:Nat) (m:dO):Prop:=
 w.cell? ⟨b,o,none⟩=some (.int .i64 m.kind)∧w.cell? ⟨b,o+1,none⟩=some (.int .i64 m.x.kind)∧w.cell? ⟨b,o+2,none⟩=some (.bool gd)∧w.cell? ⟨b,o+3,none⟩=some (.slice ad nd cd)∧w.cell? ⟨b,o+4,none⟩=some (.slice ap np cp)∧w.cell? ⟨b,o+5,none⟩=some (.bool gk)∧w.cell? ⟨b,o+6,none⟩=some (.slice ak nk ck)∧w.cell? ⟨b,o+7,none⟩=some (.int .i64 m.v)∧w.cell? ⟨b,o+8,none⟩=some (.slice aq nq cq)
theorem nO.at {M:Nat→Prop} {w:World} {a:Option Addr} {n c:Nat} {l:List dO} (h:nO M w a n c l) {i:Nat} (hi:i<n) :
  ∃b off gd gk ad ap ak aq nd cd np cp nk ck nq cq,a=some ⟨b,off,none⟩∧b<w.heap.size∧¬M b∧LK w b (off+i*9) gd gk ad ap ak aq nd cd np cp nk ck nq cq (l.getD i CV)∧FJ M w gd ad nd cd ap np cp gk ak nk ck aq nq cq (l.getD i CV):=by
 obtain ⟨b,off,cs,rfl,hb,hn,hl,hc,gd,ad,nd,cd,ap,np,cp,gk,ak,nk,ck,aq,nq,cq,rfl,r⟩:=eU.at h hi;exact⟨b,off,gd,gk,ad,ap,ak,aq,nd,cd,np,cp,nk,ck,nq,cq,rfl,hb,hn,⟨hc 0 zZ,hc 1 zZ,hc 2 zZ,hc 3 zZ,hc 4 zZ,hc 5 zZ,hc 6 zZ,hc 7 zZ,hc 8 zZ⟩,r⟩
theorem LK.keep {M:Nat→Prop} {w w':World} {b o:Nat} {gd gk:Bool} {ad ap ak aq:Option Addr} {nd cd np cp nk ck nq cq:Nat} {m:dO} (h:LK w b o gd gk ad ap ak aq nd cd np cp nk ck nq cq m) (hb:b<w.heap.size) (k:aA M w w') (hM:¬M b):LK w' b o gd gk ad ap ak aq nd cd np cp nk ck nq cq m:=by
 have e:∀j v,w.cell? ⟨b,j,none⟩=some v→w'.cell? ⟨b,j,none⟩=some v:=fun j v hv=>(k.cell (p:=⟨b,j,none⟩) hb hM).trans hv;obtain ⟨h0,h1,h2,h3,h4,h5,h6,h7,h8⟩:=h;exact⟨e _ _ h0,e _ _ h1,e _ _ h2,e _ _ h3,e _ _ h4,e _ _ h5,e _ _ h6,e _ _ h7,e _ _ h8⟩
theorem bBQ {A:aC} {m:dO} {ids:List Int} (h1:1≤ids.length) (hi:∀i∈ids,0≤i∧i<(A.nodes.length:Int)):(∀x∈ofM m ids,0≤x∧x<(A.nodes.length:Int))∧1≤(ofM m ids).length∧(ofM m ids).length≤5:=by
 unfold ofM;split
 ·refine ⟨fun x hx=>?_,zW,zW⟩;rw [dZ1.1 hx];exact hi _ (cK 0 zZ)
 ·rename_i h0;refine ⟨fun x hx=>?_,zZ,?_⟩
  ·unfold jR at hx;obtain ⟨c,_,rfl⟩:=iZ2.1 hx;exact hi _ (cK 0 (IE zZ))
  ·unfold jR;rw [hZ1,iZ1];omega
theorem OX {V:List Int} {nodes sp:Int} {A:aC} {kind v:Int} {ks:List Int} (h:fP V nodes A sp) (hn:nodes≤2000) (hV:V.length≤262144) (h5:5≤kind) (h8:kind≤8) (hv:kind=5∨kind=6→v=0) (hp:ks.Pairwise (·<·)) (hk:∀k∈ks,0≤k∧k<(A.nodes.length:Int)):(dB A ⟨kind,0,bK,v,ks⟩).length≤1000000000:=
 SV h hn hV (by simp [bK,dR]) ⟨⟨yT,h8,fun h4=>xL,fun _=>⟨rfl,rfl⟩,hv⟩,fun x hx=>by simp [bK,dR] at hx,hp,hk⟩
section
variable {r:(Int × Int) × aC × (Int × Int)} {w1 w:World} {nodes limbs i:Int} {M0 O O':Nat→Prop} {gm g b:Nat} {v:Value} {s:St} {e:Ending}
structure BR (O M0:Nat→Prop) (w:World) (g gm:Nat) (nodes limbs:Int) (wr:World) (v:Value) (s:St) (O':Nat→Prop):Prop where
 own:aL wr w.heap.size 3 1 v (aO s.ids)
 far:∀b,v.ownBlock=some b→¬O' b
 arena:bW O' wr g gm s.A
 up:∀b,O b→O' b
 down:∀b,O' b→O b∨w.heap.size≤b
 jC:bR (fun b=>M0 b∨O' b∨v.ownBlock=some b) wr gm nodes limbs s.sp s.ov
 keep:aA (fun b=>O b∨b=gm) w wr
theorem BR.step {wr w':World} (h:BR O M0 w g gm nodes limbs wr v s O') (k1:aA Nil wr w1) (hgm:gm<w.heap.size) (hst:cO O' (fun b=>M0 b∨O' b∨v.ownBlock=some b) w1 g gm nodes limbs r e w') :
  e=.returned (.tuple #[.int .i64 r.1.1,.int .i64 r.1.2])∧∃O2:Nat→Prop,BR O M0 w g gm nodes limbs w' v ⟨r.2.1,r.2.2.1,r.2.2.2,s.ids⟩ O2:=by
 obtain ⟨h1,⟨O2,q1,q2,q3,q4⟩,k⟩:=hst;have hs1:=h.keep.size;have hs2:=k1.size;refine ⟨h1,O2,(h.own.eO k1).keep k fun b hb hm=>?_,fun b hb ho=>?_,q1,fun b hb=>q2 b (h.up b hb),fun b hb=>?_,q4.move (aA.refl Nil w') (fun _ _ h=>h.elim) fun b _ hb=>?_,?_⟩
 ·rcases hm with hm|hm
  ·exact h.far b hb hm
  ·have:=(h.own.lt b hb).1;omega
 ·rcases q3 b ho with h2|h2
  ·exact h.far b hb h2
  ·have:=(h.own.lt b hb).2;omega
 ·rcases q3 b hb with h2|h2
  ·exact h.down b h2
  ·right;omega
 ·rcases hb with hb|hb|hb
  ·exact .inl (.inl hb)
  ·exact .inr hb
  ·exact .inl (.inr (.inr hb))
 ·refine (h.keep.trans k1.of_nil).trans' k fun b hb=>?_;rcases hb with hb|hb
  ·rcases h.down b hb with h2|h2
   ·exact .inl (.inl h2)
   ·exact .inr h2
  ·exact .inl (.inr hb)
theorem aGM (m:dO):I64 (BX m):=sM
theorem aOM (m:dO):nC m=0∨nC m=1∨nC m=2∨nC m=3∨nC m=4:=by
 have:=IE (c:=m.kind) (n:=16) zY;unfold nC;split
 ·exact .inl rfl
 split
 ·exact .inr (.inl rfl)
 split
 ·exact .inr (.inr (.inl rfl))
 ·omega
theorem bBM {A:aC} {sp ov:Int} (hA:bW O w g gm A) (hO:∀b,O b→M0 b) (hm:bR M0 w gm nodes limbs sp ov) (k:aA Nil w w1) (hr:aF w1 b 3 [.int .i64 0,.int .i64 1]) (hb:w.heap.size≤b):BR O M0 w g gm nodes limbs w1 (.slice (some ⟨b,0,none⟩) 2 2) ⟨A,sp,ov,[0,1]⟩ O:=
 ⟨aL.ofRow (els:=aO [0,1]) hr tR rfl hb zY,fun c hc ho=>by have e:some b=some c:=hc;cases e;have:=hA.lt b ho;omega,hA.keep k fun _ h=>h.elim,fun _ h=>h,fun _ h=>.inl h,hm.move k (fun _ _ h=>h.elim) (fun b' hb' hx=>by rcases hx with hx|hx|hx;exact hx;exact hO b' hx;have e:some b=some b':=hx;cases e;omega),k.of_nil⟩
theorem BR.push {w2 w3:World} {v':Value} (h:BR O M0 w g gm nodes limbs w1 v s O') (k1:aA Nil w1 w2) (ho:aL w3 w.heap.size 3 1 v' (aO (s.ids++[i]))) (k:aA (Own v) w2 w3) (hf:∀b,v'.ownBlock=some b→v.ownBlock=some b∨w2.heap.size≤b):BR O M0 w g gm nodes limbs w3 v' ⟨s.A,s.sp,s.ov,s.ids++[i]⟩ O':=by
 have hs:=k1.size;have hs0:=h.keep.size;have k2:aA (Own v) w1 w3:=k1.of_nil.trans k;refine ⟨ho,fun b hb hO=>?_,h.arena.keep k2 fun b hb hO=>h.far b hb hO,h.up,h.down,h.jC.move k2 (fun b _ hb=>.inr (.inr hb)) (fun b hb1 hx=>?_),h.keep.trans' k2 fun b hb=>.inr (h.own.lt b hb).1⟩
 ·rcases hf b hb with h1|h1
  ·exact h.far b h1 hO
  ·have:=h.arena.lt b hO;omega
 ·rcases hx with hx|hx|hx
  ·exact .inl hx
  ·exact .inr (.inl hx)
  ·rcases hf b hx with h1|h1
   ·exact .inr (.inr h1)
   ·omega
end
section
variable {l:List dO} {a:Option Addr} {p:Int × Int} {M:Nat→Prop} {m:dO} {V:List Int} {w:World}
theorem aUL (hm:m∈l) (hp:p∈m.x.t.parts):p.1∈lY l:=by
 unfold lY;exact jZ1.2 (.inl (fZ3.2 ⟨m,hm,iZ2.2 ⟨p,hp,rfl⟩⟩))
theorem aMZ (hm:m∈l):m.x.t.parts.length≤(lY l).length:=by
 unfold lY;induction l with
 | nil=>cases hm
 | cons x l ih=>
  simp only [eZ2,aZ1,hZ1] at ih⊢;rcases mZ1.1 hm with rfl|h
  ·omega
  ·have:=ih h;omega
theorem nO.small {n c:Nat} (h:nO M w a n c l) (hV:∀v∈lY l,v∈V) (hl:(lY l).length≤262144):(∀m∈l,Go.Proofs.Q.jM V m.x)∧∀v∈lY l,I64 v:=by
 have key:∀m∈l,(∀p∈m.x.t.parts,Go.Proofs.Q.nU p)∧eP m.x.t.k.natAbs≤1048576∧eP m.x.d.natAbs≤1048576:=fun m hm=>by
  obtain ⟨i,hi,rfl⟩:=jZ3 hm;obtain ⟨b,off,gd,gk,ad,ap,ak,aq,nd,cd,np,cp,nk,ck,nq,cq,-,-,-,-,hmk⟩:=h.at (i:=i) (by have:=eU.len h;omega);have e:l.getD i CV=l[i]:=by simp [List.getD,hi]
  rw [e] at hmk;exact⟨hmk.r5.1,bZ1 (Go.Proofs.Q.KR hmk.2.2.1) hmk.r4.1,bZ1 (Go.Proofs.Q.KR hmk.1) hmk.2.2.2.1⟩
 refine ⟨fun m hm=>?_,fun v hv=>?_⟩
 ·obtain ⟨k1,k2,k3⟩:=key m hm;exact⟨⟨bZ1 (aMZ hm) hl,fun p hp=>bZ1 (k1 p hp).1 zY,bZ1 k2 zY,fun p hp=>hV _ (aUL hm hp)⟩,bZ1 k3 zY⟩
 ·unfold lY at hv;rcases jZ1.1 hv with hv|hv
  ·obtain ⟨m,hm,hv⟩:=fZ3.1 hv;obtain ⟨p,hp,rfl⟩:=iZ2.1 hv;exact ((key m hm).1 p hp).2
  ·simp at hv;unfold I64;omega
end
end Go.Proofs.Q
