/- What the laws' built does: a recipe's nodes in an arena. -/
import Derived.Test.YtlldghknenbccaaGreatDoorPReadsB
set_option linter.unusedSimpArgs false
set_option linter.unusedVariables false
namespace Go.Proofs.Q
open Go.RowKit
def Cells9 (w:World) (b o:Nat) (gd gk:Bool) (ad ap ak aq:Option Addr) (nd cd np cp nk ck nq cq:Nat) (m:dG):Prop:=
 w.cell? ⟨b,o,none⟩=some (.int .i64 m.kind)∧w.cell? ⟨b,o+1,none⟩=some (.int .i64 m.x.kind)∧w.cell? ⟨b,o+2,none⟩=some (.bool gd)∧w.cell? ⟨b,o+3,none⟩=some (.slice ad nd cd)∧w.cell? ⟨b,o+4,none⟩=some (.slice ap np cp)∧w.cell? ⟨b,o+5,none⟩=some (.bool gk)∧w.cell? ⟨b,o+6,none⟩=some (.slice ak nk ck)∧w.cell? ⟨b,o+7,none⟩=some (.int .i64 m.v)∧w.cell? ⟨b,o+8,none⟩=some (.slice aq nq cq)
theorem MakesAt.at {M:Nat→Prop} {w:World} {a:Option Addr} {n c:Nat} {l:List dG} (h:MakesAt M w a n c l) {i:Nat} (hi:i<n) :
  ∃b off gd gk ad ap ak aq nd cd np cp nk ck nq cq,a=some ⟨b,off,none⟩∧b<w.heap.size∧¬M b∧Cells9 w b (off+i*9) gd gk ad ap ak aq nd cd np cp nk ck nq cq (l.getD i zeroM)∧MakeAt M w gd ad nd cd ap np cp gk ak nk ck aq nq cq (l.getD i zeroM):=by
 obtain ⟨b,off,cs,rfl,hb,hn,hl,hc,gd,ad,nd,cd,ap,np,cp,gk,ak,nk,ck,aq,nq,cq,rfl,r⟩:=SlOf.at h hi;exact⟨b,off,gd,gk,ad,ap,ak,aq,nd,cd,np,cp,nk,ck,nq,cq,rfl,hb,hn,⟨hc 0 (by omega),hc 1 (by omega),hc 2 (by omega),hc 3 (by omega),hc 4 (by omega),hc 5 (by omega),hc 6 (by omega),hc 7 (by omega),hc 8 (by omega)⟩,r⟩
theorem Cells9.keep {M:Nat→Prop} {w w':World} {b o:Nat} {gd gk:Bool} {ad ap ak aq:Option Addr} {nd cd np cp nk ck nq cq:Nat} {m:dG} (h:Cells9 w b o gd gk ad ap ak aq nd cd np cp nk ck nq cq m) (hb:b<w.heap.size) (k:aA M w w') (hM:¬M b):Cells9 w' b o gd gk ad ap ak aq nd cd np cp nk ck nq cq m:=by
 have e:∀j v,w.cell? ⟨b,j,none⟩=some v→w'.cell? ⟨b,j,none⟩=some v:=fun j v hv=>(k.cell (p:=⟨b,j,none⟩) hb hM).trans hv;obtain ⟨h0,h1,h2,h3,h4,h5,h6,h7,h8⟩:=h;exact⟨e _ _ h0,e _ _ h1,e _ _ h2,e _ _ h3,e _ _ h4,e _ _ h5,e _ _ h6,e _ _ h7,e _ _ h8⟩
theorem ofM_ok {A:aF} {m:dG} {ids:List Int} (h1:1≤ids.length) (hi:∀i∈ids,0≤i∧i<(A.nodes.length:Int)):(∀x∈ofM m ids,0≤x∧x<(A.nodes.length:Int))∧1≤(ofM m ids).length∧(ofM m ids).length≤5:=by
 unfold ofM;split
 ·refine ⟨fun x hx=>?_,by simp,by simp⟩;rw [dZ1.1 hx];exact hi _ (cU 0 (by omega))
 ·rename_i h0;refine ⟨fun x hx=>?_,by omega,?_⟩
  ·unfold ofUp at hx;obtain ⟨c,_,rfl⟩:=iZ2.1 hx;exact hi _ (cU 0 (pickN_lt (by omega)))
  ·unfold ofUp;rw [hZ1,iZ1];omega
theorem room_kids {V:List Int} {nodes sp:Int} {A:aF} {kind v:Int} {ks:List Int} (h:InvA V nodes A sp) (hn:nodes≤2000) (hV:V.length≤262144) (h5:5≤kind) (h8:kind≤8) (hv:kind=5∨kind=6→v=0) (hp:ks.Pairwise (·<·)) (hk:∀k∈ks,0≤k∧k<(A.nodes.length:Int)):(cO A ⟨kind,0,bH,v,ks⟩).length≤1000000000:=
 freeRaw_room h hn hV (by simp [bH,neatL]) ⟨⟨by simp only;omega,h8,fun h4=>by simp only at h4;omega,fun _=>⟨rfl,rfl⟩,hv⟩,fun x hx=>by simp [bH,neatL] at hx,hp,hk⟩
section
variable {r:(Int × Int) × aF × (Int × Int)} {w1 w:World} {nodes limbs i:Int} {M0 O O':Nat→Prop} {gm g b:Nat} {v:Value} {s:St} {e:Ending}
structure Half8 (O M0:Nat→Prop) (w:World) (g gm:Nat) (nodes limbs:Int) (wr:World) (v:Value) (s:St) (O':Nat→Prop):Prop where
 own:aL wr w.heap.size 3 1 v (aM s.ids)
 far:∀b,v.ownBlock=some b→¬O' b
 arena:bX O' wr g gm s.A
 up:∀b,O b→O' b
 down:∀b,O' b→O b∨w.heap.size≤b
 meter:bK (fun b=>M0 b∨O' b∨v.ownBlock=some b) wr gm nodes limbs s.sp s.ov
 keep:aA (fun b=>O b∨b=gm) w wr
theorem Half8.step {wr w':World} (h:Half8 O M0 w g gm nodes limbs wr v s O') (k1:aA Nil wr w1) (hgm:gm<w.heap.size) (hst:cK O' (fun b=>M0 b∨O' b∨v.ownBlock=some b) w1 g gm nodes limbs r e w') :
  e=.returned (.tuple #[.int .i64 r.1.1,.int .i64 r.1.2])∧∃O2:Nat→Prop,Half8 O M0 w g gm nodes limbs w' v ⟨r.2.1,r.2.2.1,r.2.2.2,s.ids⟩ O2:=by
 obtain ⟨h1,⟨O2,q1,q2,q3,q4⟩,k⟩:=hst;have hs1:=h.keep.size;have hs2:=k1.size;refine ⟨h1,O2,(h.own.keepNil k1).keep k fun b hb hm=>?_,fun b hb ho=>?_,q1,fun b hb=>q2 b (h.up b hb),fun b hb=>?_,q4.move (aA.refl Nil w') (fun _ _ h=>h.elim) fun b _ hb=>?_,?_⟩
 ·rcases hm with hm|hm
  ·exact h.far b hb hm
  ·have:=(h.own.lt b hb).1;omega
 ·rcases q3 b ho with h2|h2
  ·exact h.far b hb h2
  ·have:=(h.own.lt b hb).2;omega
 ·rcases q3 b hb with h2|h2
  ·exact h.down b h2
  ·right;omega
 ·rcases hb with hb|hb|hb
  ·exact .inl (.inl hb)
  ·exact .inr hb
  ·exact .inl (.inr (.inr hb))
 ·refine (h.keep.trans k1.of_nil).trans' k fun b hb=>?_;rcases hb with hb|hb
  ·rcases h.down b hb with h2|h2
   ·exact .inl (.inl h2)
   ·exact .inr h2
  ·exact .inl (.inr hb)
theorem varM_i64 (m:dG):I64 (varM m):=by
 have:=pickN_lt (c:=m.v) (n:=4) (by decide);unfold varM I64;omega
theorem whatM_cases (m:dG):whatM m=0∨whatM m=1∨whatM m=2∨whatM m=3∨whatM m=4:=by
 have:=pickN_lt (c:=m.kind) (n:=16) (by decide);unfold whatM;split
 ·exact .inl rfl
 split
 ·exact .inr (.inl rfl)
 split
 ·exact .inr (.inr (.inl rfl))
 ·omega
theorem start8 {A:aF} {sp ov:Int} (hA:bX O w g gm A) (hO:∀b,O b→M0 b) (hm:bK M0 w gm nodes limbs sp ov) (k:aA Nil w w1) (hr:aC w1 b 3 [.int .i64 0,.int .i64 1]) (hb:w.heap.size≤b):Half8 O M0 w g gm nodes limbs w1 (.slice (some ⟨b,0,none⟩) 2 2) ⟨A,sp,ov,[0,1]⟩ O:=
 ⟨aL.ofRow (els:=aM [0,1]) hr (by simp [aM]) rfl hb (by decide),fun c hc ho=>by have e:some b=some c:=hc;cases e;have:=hA.lt b ho;omega,hA.keep k fun _ h=>h.elim,fun _ h=>h,fun _ h=>.inl h,hm.move k (fun _ _ h=>h.elim) (fun b' hb' hx=>by rcases hx with hx|hx|hx;exact hx;exact hO b' hx;have e:some b=some b':=hx;cases e;omega),k.of_nil⟩
theorem Half8.push {w2 w3:World} {v':Value} (h:Half8 O M0 w g gm nodes limbs w1 v s O') (k1:aA Nil w1 w2) (ho:aL w3 w.heap.size 3 1 v' (aM (s.ids++[i]))) (k:aA (Own v) w2 w3) (hf:∀b,v'.ownBlock=some b→v.ownBlock=some b∨w2.heap.size≤b):Half8 O M0 w g gm nodes limbs w3 v' ⟨s.A,s.sp,s.ov,s.ids++[i]⟩ O':=by
 have hs:=k1.size;have hs0:=h.keep.size;have k2:aA (Own v) w1 w3:=k1.of_nil.trans k;refine ⟨ho,fun b hb hO=>?_,h.arena.keep k2 fun b hb hO=>h.far b hb hO,h.up,h.down,h.meter.move k2 (fun b _ hb=>.inr (.inr hb)) (fun b hb1 hx=>?_),h.keep.trans' k2 fun b hb=>.inr (h.own.lt b hb).1⟩
 ·rcases hf b hb with h1|h1
  ·exact h.far b h1 hO
  ·have:=h.arena.lt b hO;omega
 ·rcases hx with hx|hx|hx
  ·exact .inl hx
  ·exact .inr (.inl hx)
  ·rcases hf b hx with h1|h1
   ·exact .inr (.inr h1)
   ·omega
end
section
variable {l:List dG} {a:Option Addr} {p:Int × Int} {M:Nat→Prop} {m:dG} {V:List Int} {w:World}
theorem mem_varsM (hm:m∈l) (hp:p∈m.x.t.parts):p.1∈varsM l:=by
 unfold varsM;exact jZ1.2 (.inl (cZ3.2 ⟨m,hm,iZ2.2 ⟨p,hp,rfl⟩⟩))
theorem length_varsM (hm:m∈l):m.x.t.parts.length≤(varsM l).length:=by
 unfold varsM;induction l with
 | nil=>cases hm
 | cons x l ih=>
  simp only [eZ2,aZ1,hZ1] at ih⊢;rcases mZ1.1 hm with rfl|h
  ·omega
  ·have:=ih h;omega
theorem MakesAt.small {n c:Nat} (h:MakesAt M w a n c l) (hV:∀v∈varsM l,v∈V) (hl:(varsM l).length≤262144):(∀m∈l,Go.Proofs.Q.SmallX V m.x)∧∀v∈varsM l,I64 v:=by
 have key:∀m∈l,(∀p∈m.x.t.parts,Go.Proofs.Q.BPart p)∧nlen m.x.t.k.natAbs≤1048576∧nlen m.x.d.natAbs≤1048576:=fun m hm=>by
  obtain ⟨i,hi,rfl⟩:=gZ3 hm;obtain ⟨b,off,gd,gk,ad,ap,ak,aq,nd,cd,np,cp,nk,ck,nq,cq,-,-,-,-,hmk⟩:=h.at (i:=i) (by have:=SlOf.len h;omega);have e:l.getD i zeroM=l[i]:=by simp [List.getD,hi]
  rw [e] at hmk;exact⟨hmk.r5.1,bZ1 (Go.Proofs.Q.zat_nlen hmk.2.2.1) hmk.r4.1,bZ1 (Go.Proofs.Q.zat_nlen hmk.1) hmk.2.2.2.1⟩
 refine ⟨fun m hm=>?_,fun v hv=>?_⟩
 ·obtain ⟨k1,k2,k3⟩:=key m hm;exact⟨⟨bZ1 (length_varsM hm) hl,fun p hp=>bZ1 (k1 p hp).1 (by decide),bZ1 k2 (by decide),fun p hp=>hV _ (mem_varsM hm hp)⟩,bZ1 k3 (by decide)⟩
 ·unfold varsM at hv;rcases jZ1.1 hv with hv|hv
  ·obtain ⟨m,hm,hv⟩:=cZ3.1 hv;obtain ⟨p,hp,rfl⟩:=iZ2.1 hv;exact ((key m hm).1 p hp).2
  ·simp at hv;unfold I64;omega
end
end Go.Proofs.Q
