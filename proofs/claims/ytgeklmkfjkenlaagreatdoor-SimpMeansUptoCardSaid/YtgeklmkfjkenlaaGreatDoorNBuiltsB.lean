/- What the laws' built does: a recipe's nodes in an arena. -/
import Derived.Test.YtgeklmkfjkenlaaGreatDoorNReadsB
set_option linter.unusedSimpArgs false
set_option linter.unusedVariables false
set_option maxRecDepth 100000
set_option maxHeartbeats 4000000
namespace Go.Proofs.Q
open Go.RowKit Tryz
def Cells9 (w:World) (b o:Nat) (gd gk:Bool) (ad ap ak aq:Option Addr) (nd cd np cp nk ck nq cq:Nat) (m:dK):Prop:=
 w.cell? ⟨b,o,none⟩=some (.int .i64 m.kind)∧w.cell? ⟨b,o+1,none⟩=some (.int .i64 m.x.kind)∧w.cell? ⟨b,o+2,none⟩=some (.bool gd)∧w.cell? ⟨b,o+3,none⟩=some (.slice ad nd cd)∧w.cell? ⟨b,o+4,none⟩=some (.slice ap np cp)∧w.cell? ⟨b,o+5,none⟩=some (.bool gk)∧w.cell? ⟨b,o+6,none⟩=some (.slice ak nk ck)∧w.cell? ⟨b,o+7,none⟩=some (.int .i64 m.v)∧w.cell? ⟨b,o+8,none⟩=some (.slice aq nq cq)
theorem MakesAt.at {M:Nat→Prop} {w:World} {a:Option Addr} {n c:Nat} {l:List dK} (h:MakesAt M w a n c l) {i:Nat} (hi:i<n) :
  ∃b off gd gk ad ap ak aq nd cd np cp nk ck nq cq,a=some ⟨b,off,none⟩∧b<w.heap.size∧¬M b∧Cells9 w b (off+i*9) gd gk ad ap ak aq nd cd np cp nk ck nq cq (l.getD i zeroM)∧MakeAt M w gd ad nd cd ap np cp gk ak nk ck aq nq cq (l.getD i zeroM):=by
 obtain ⟨b,off,cs,rfl,hb,hn,hl,hc,gd,ad,nd,cd,ap,np,cp,gk,ak,nk,ck,aq,nq,cq,rfl,r⟩:=SlOf.at h hi;exact⟨b,off,gd,gk,ad,ap,ak,aq,nd,cd,np,cp,nk,ck,nq,cq,rfl,hb,hn,⟨hc 0 (by omega),hc 1 (by omega),hc 2 (by omega),hc 3 (by omega),hc 4 (by omega),hc 5 (by omega),hc 6 (by omega),hc 7 (by omega),hc 8 (by omega)⟩,r⟩
theorem Cells9.keep {M:Nat→Prop} {w w':World} {b o:Nat} {gd gk:Bool} {ad ap ak aq:Option Addr} {nd cd np cp nk ck nq cq:Nat} {m:dK} (h:Cells9 w b o gd gk ad ap ak aq nd cd np cp nk ck nq cq m) (hb:b<w.heap.size) (k:aA M w w') (hM:¬M b):Cells9 w' b o gd gk ad ap ak aq nd cd np cp nk ck nq cq m:=by
 have e:∀j v,w.cell? ⟨b,j,none⟩=some v→w'.cell? ⟨b,j,none⟩=some v:=fun j v hv=>(k.cell (p:=⟨b,j,none⟩) hb hM).trans hv;obtain ⟨h0,h1,h2,h3,h4,h5,h6,h7,h8⟩:=h;exact⟨e _ _ h0,e _ _ h1,e _ _ h2,e _ _ h3,e _ _ h4,e _ _ h5,e _ _ h6,e _ _ h7,e _ _ h8⟩
theorem ofM_ok {A:aF} {m:dK} {ids:List Int} (h1:1≤ids.length) (hi:∀i∈ids,0≤i∧i<(A.nodes.length:Int)):(∀x∈ofM m ids,0≤x∧x<(A.nodes.length:Int))∧1≤(ofM m ids).length∧(ofM m ids).length≤5:=by
 unfold ofM;split
 ·refine ⟨fun x hx=>?_,by simp,by simp⟩;rw [dZ1.1 hx];exact hi _ (cH 0 (by omega))
 ·rename_i h0;refine ⟨fun x hx=>?_,by omega,?_⟩
  ·unfold ofUp at hx;obtain ⟨c,_,rfl⟩:=iZ2.1 hx;exact hi _ (cH 0 (pickN_lt (by omega)))
  ·unfold ofUp;rw [hZ1,iZ1];omega
theorem room_kids {V:List Int} {nodes sp:Int} {A:aF} {kind v:Int} {ks:List Int} (h:InvA V nodes A sp) (hn:nodes≤2000) (hV:V.length≤262144) (h5:5≤kind) (h8:kind≤8) (hv:kind=5∨kind=6→v=0) (hp:ks.Pairwise (·<·)) (hk:∀k∈ks,0≤k∧k<(A.nodes.length:Int)):(freeRaw A ⟨kind,0,bS,v,ks⟩).length≤1000000000:=
 freeRaw_room h hn hV (by simp [bS,neatL]) ⟨⟨by simp only;omega,h8,fun h4=>by simp only at h4;omega,fun _=>⟨rfl,rfl⟩,hv⟩,fun x hx=>by simp [bS,neatL] at hx,hp,hk⟩
section
variable {r:(Int × Int) × aF × (Int × Int)} {w1 w:World} {nodes limbs i:Int} {M0 O O':Nat→Prop} {gm g b:Nat} {v:Value} {s:St} {e:Ending}
structure Half8 (O M0:Nat→Prop) (w:World) (g gm:Nat) (nodes limbs:Int) (wr:World) (v:Value) (s:St) (O':Nat→Prop):Prop where
 own:aL wr w.heap.size 3 1 v (aO s.ids)
 far:∀b,v.ownBlock=some b→¬O' b
 arena:cD O' wr g gm s.A
 up:∀b,O b→O' b
 down:∀b,O' b→O b∨w.heap.size≤b
 meter:bK (fun b=>M0 b∨O' b∨v.ownBlock=some b) wr gm nodes limbs s.sp s.ov
 keep:aA (fun b=>O b∨b=gm) w wr
theorem Half8.step {wr w':World} (h:Half8 O M0 w g gm nodes limbs wr v s O') (k1:aA Nil wr w1) (hgm:gm<w.heap.size) (hst:cJ O' (fun b=>M0 b∨O' b∨v.ownBlock=some b) w1 g gm nodes limbs r e w') :
  e=.returned (.tuple #[.int .i64 r.1.1,.int .i64 r.1.2])∧∃O2:Nat→Prop,Half8 O M0 w g gm nodes limbs w' v ⟨r.2.1,r.2.2.1,r.2.2.2,s.ids⟩ O2:=by
 obtain ⟨h1,⟨O2,q1,q2,q3,q4⟩,k⟩:=hst;have hs1:=h.keep.size;have hs2:=k1.size;refine ⟨h1,O2,(h.own.keepNil k1).keep k fun b hb hm=>?_,fun b hb ho=>?_,q1,fun b hb=>q2 b (h.up b hb),fun b hb=>?_,q4.move (aA.refl Nil w') (fun _ _ h=>h.elim) fun b _ hb=>?_,?_⟩
 ·rcases hm with hm|hm
  ·exact h.far b hb hm
  ·have:=(h.own.lt b hb).1;omega
 ·rcases q3 b ho with h2|h2
  ·exact h.far b hb h2
  ·have:=(h.own.lt b hb).2;omega
 ·rcases q3 b hb with h2|h2
  ·exact h.down b h2
  ·right;omega
 ·rcases hb with hb|hb|hb
  ·exact .inl (.inl hb)
  ·exact .inr hb
  ·exact .inl (.inr (.inr hb))
 ·refine (h.keep.trans k1.of_nil).trans' k fun b hb=>?_;rcases hb with hb|hb
  ·rcases h.down b hb with h2|h2
   ·exact .inl (.inl h2)
   ·exact .inr h2
  ·exact .inl (.inr hb)
theorem varM_i64 (m:dK):I64 (varM m):=by
 have:=pickN_lt (c:=m.v) (n:=4) (by decide);unfold varM I64;omega
theorem whatM_cases (m:dK):whatM m=0∨whatM m=1∨whatM m=2∨whatM m=3∨whatM m=4:=by
 have:=pickN_lt (c:=m.kind) (n:=16) (by decide);unfold whatM;split
 ·exact .inl rfl
 split
 ·exact .inr (.inl rfl)
 split
 ·exact .inr (.inr (.inl rfl))
 ·omega
theorem start8 {A:aF} {sp ov:Int} (hA:cD O w g gm A) (hO:∀b,O b→M0 b) (hm:bK M0 w gm nodes limbs sp ov) (k:aA Nil w w1) (hr:aC w1 b 3 [.int .i64 0,.int .i64 1]) (hb:w.heap.size≤b):Half8 O M0 w g gm nodes limbs w1 (.slice (some ⟨b,0,none⟩) 2 2) ⟨A,sp,ov,[0,1]⟩ O:=
 ⟨aL.ofRow (els:=aO [0,1]) hr (by simp [aO]) rfl hb (by decide),fun c hc ho=>by have e:some b=some c:=hc;cases e;have:=hA.lt b ho;omega,hA.keep k fun _ h=>h.elim,fun _ h=>h,fun _ h=>.inl h,hm.move k (fun _ _ h=>h.elim) (fun b' hb' hx=>by rcases hx with hx|hx|hx;exact hx;exact hO b' hx;have e:some b=some b':=hx;cases e;omega),k.of_nil⟩
theorem Half8.push {w2 w3:World} {v':Value} (h:Half8 O M0 w g gm nodes limbs w1 v s O') (k1:aA Nil w1 w2) (ho:aL w3 w.heap.size 3 1 v' (aO (s.ids++[i]))) (k:aA (Own v) w2 w3) (hf:∀b,v'.ownBlock=some b→v.ownBlock=some b∨w2.heap.size≤b):Half8 O M0 w g gm nodes limbs w3 v' ⟨s.A,s.sp,s.ov,s.ids++[i]⟩ O':=by
 have hs:=k1.size;have hs0:=h.keep.size;have k2:aA (Own v) w1 w3:=k1.of_nil.trans k;refine ⟨ho,fun b hb hO=>?_,h.arena.keep k2 fun b hb hO=>h.far b hb hO,h.up,h.down,h.meter.move k2 (fun b _ hb=>.inr (.inr hb)) (fun b hb1 hx=>?_),h.keep.trans' k2 fun b hb=>.inr (h.own.lt b hb).1⟩
 ·rcases hf b hb with h1|h1
  ·exact h.far b h1 hO
  ·have:=h.arena.lt b hO;omega
 ·rcases hx with hx|hx|hx
  ·exact .inl hx
  ·exact .inr (.inl hx)
  ·rcases hf b hx with h1|h1
   ·exact .inr (.inr h1)
   ·omega
end
theorem built9_any {B0:Nat} {O M0 M:Nat→Prop} {w:World} {g gm:Nat} {A:aF} {V:List Int} {al:Option Addr} {nl cl:Nat} {l:List dK} {nodes limbs sp ov:Int} (hA:cD O w g gm A) (hT:Tab B0 w) (hB:∀b,O b∨b=gm→B0≤b) (hO:∀b,O b→M0 b) (hM0:MB M0 w) (hm:bK M0 w gm nodes limbs sp ov)
  (hl:MakesAt M w al nl cl l) (hMO:∀b,O b∨b=gm→M b) (hI:InvA V nodes A sp) (hn:nodes≤2000) (hV:V.length≤262144) (hV2:∀v∈V,I64 v) (hX:∀m∈l,SmallX V m.x) :
  Calls prog 10 #[.pointer (some ⟨g,0,none⟩),.slice al nl cl] w fun e w'=>∃v O',e=.returned v∧Half8 O M0 w g gm nodes limbs w' v (buildM nodes limbs ⟨A,sp,ov,[0,1]⟩ (l.take 40)) O':=by
 obtain ⟨i1,hi1⟩:=info_parts info_int;have HI:=jJ hi1;have hnl:l.length=nl:=SlOf.len hl;have hcap:=SlOf.cap hl;have hle:=SlOf.le hl;have hgm:=hm.lt;have HA:=jJ (aI13 hA hT hB hO hM0 hm hl hMO hI hV hV2 hX hnl);clear hi1 hA hT hB hO hM0 hm hl hMO hI hV hV2 hX hnl;go_enter func10,ntmps10
 go_upto_region 2 with (fail)
 have r0:=aC.alloc (w:=w) (E:=3) (xs:=[.int .i64 0,.int .i64 1]);change aC (w.alloc (.cells #[.int .i64 0,.int .i64 1] 3)) _ _ _ at r0;have k0:aA Nil w (w.alloc (.cells #[.int .i64 0,.int .i64 1] 3)):=kOf;generalize w.alloc (.cells #[.int .i64 0,.int .i64 1] 3)=w0 at *
 have H0:=jJ (start8 (ov:=ov) HA.o.1 HA.o.2.2.2.1 HA.o.r5.1 k0 r0 (bZ2 _));clear k0 r0;go_wp2_with fail
 go_loopw [5,6] (fun v i wr=>∃(j:Nat) (va:Option Addr) (vc:Nat) (s:St) (O':Nat→Prop),j≤nl∧j≤40∧i=.int .i64 (j:Int)∧s=buildM nodes limbs ⟨A,sp,ov,[0,1]⟩ (l.take j)∧v=.slice va s.ids.length vc∧Half8 O M0 w g gm nodes limbs wr (.slice va s.ids.length vc) s O') (fun _ i _=>40-(intOf i).toNat)
 case atStart=>exact⟨0,_,_,⟨A,sp,ov,[0,1]⟩,O,aZ2 _,aZ2 _,rfl,rfl,rfl,H0.o⟩
 case round=>
  obtain ⟨j,va,vc,s,O',hj,hj40,rfl,hs,rfl,hH⟩:=hrel;have hinv:InvS V nodes s j:=by
   have h1:=(InvS.start (ov:=ov) HA.o.r8.1).build (limbs:=limbs) (l:=l.take j) fun m hm=>HA.o.r11.1 m (bZ3 hm);rw [←hs,iZ1,Nat.min_eq_left (by rw [HA.o.r12];exact hj),Nat.zero_add] at h1;exact h1
  by_cases hlt:j<nl∧j<40
  ·have hjl:j<l.length:=by rw [HA.o.r12];exact hlt.1
   have hlr:MakesAt M wr al nl cl l:=HA.o.r6.1.move hH.keep (fun b _ hb=>HA.o.r7.1 b hb) fun _ _ h=>h;obtain ⟨b,off,gd,gk,ad,ap,ak,aq,nd,cd,np,cp,nk,ck,nq,cq,rfl,hb,hnM,hcs,hmk⟩:=hlr.at hlt.1;have hXm:=HA.o.r11.1 (l.getD j zeroM) (cH zeroM hjl);have htk:l.take (j+1)=l.take j++[l.getD j zeroM]:=by rw [List.take_succ_eq_append_getElem hjl];simp [List.getD,hjl]
   obtain ⟨m,hmm⟩:∃m,m=l.getD j zeroM:=⟨_,rfl⟩;rw [←hmm] at hcs hmk hXm htk;have hnext:buildM nodes limbs ⟨A,sp,ov,[0,1]⟩ (l.take (j+1))=stepB nodes limbs s m:=by rw [htk,buildM_snoc,←hs]
   obtain ⟨r,hr⟩:∃r,r=stepR s.A nodes limbs s.sp s.ov s.ids m:=⟨_,rfl⟩;obtain ⟨ai,ci,ei,hids⟩:=aL.sl (M:=Nil) (R:=RI) (d:=0) (xs:=s.ids) hH.own (fun _ _ h=>h) (by rw [aH]) (fun i hi=>by rw [aH] at hi;simp [RI,aO,List.getD,hi]);rw [aH] at ei hids;have ei2:va=ai∧vc=ci:=by simpa using ei
   obtain ⟨rfl,rfl⟩:=ei2;have hof:=ofM_ok (m:=m) (by have:=hinv.two;omega) hinv.ids;have hk1:I64 m.kind:=hmk.r9.1;have hk2:I64 m.v:=hmk.r10;have hi2:=hinv.two;have hi3:=hinv.len;obtain ⟨c0,c1,c2,c3,c4,c5,c6,c7,c8⟩:=hcs;have j0:(0:Int)≤(j:Int):=by omega
   have j1:(j:Int)<(nl:Int):=by omega
   have j2:(j:Int)<40:=by omega
   have HC:=jJ (aI13 hs hH hinv hmk hXm hnext hr hids hof hk1 hk2 hb hnM);have HCS:=jJ (show Cells9 wr b (off+j*9) gd gk ad ap ak aq nd cd np cp nk ck nq cq m from ⟨c0,c1,c2,c3,c4,c5,c6,c7,c8⟩);clear hs hH hinv hmk hXm hnext hr hids hof hk1 hk2 hlr ei htk hmm hlt hnM;go_upto_region 6 with (go_at_call 47;go_loud (refine (of8_any HC.o.2.2.2.1 HC.o.r7.1 (by omega) (by omega)).mono ?_);rintro e w1 ⟨v7,rfl,ho7,hk1⟩;obtain ⟨a7,c7',rfl⟩:=ho7.isSlice;have hb1:b<w1.heap.size:=cZ1 hb hk1.size;have H1:=jJ (aI ho7 hk1);clear ho7 hk1)
   obtain ⟨c0,c1,c2,c3,c4,c5,c6,c7,c8⟩:=HCS.o.keep hb H1.o.2 id;have ho7:aL w1 wr.heap.size 3 1 (.slice a7 (ofM m s.ids).length c7') (aO (ofM m s.ids)):=by have h:=H1.o.1;rw [aH] at h;exact h
   have H7:=jJ ho7;clear ho7;try rw [aH]
   go_upto_block 2 with (go_at_call 48;go_loud (refine (what8_any HC.o.r9.1).mono ?_);rintro e w2 ⟨rfl,hk2⟩;have hb2:b<w2.heap.size:=cZ1 hb1 hk2.size;have H2:=jJ hk2;clear hk2)
   clear c0 c1 c2 c3 c4 c5 c6 c7 c8;have k12:aA Nil wr w2:=H1.o.2.trans H2.o;obtain ⟨c0,c1,c2,c3,c4,c5,c6,c7,c8⟩:=HCS.o.keep hb k12 id;obtain ⟨q,hq⟩:∃q,q=whatM m:=⟨_,rfl⟩;rw [←hq];have HQ:=jJ hq;have hH:=HC.o.2.1;have hinv:=HC.o.2.2.1;have HP:=jJ (show cD O' w2 g gm s.A∧Tab B0 w2∧(∀b,O' b→M0 b∨O' b∨(Value.slice va s.ids.length vc).ownBlock=some b)∧MB (fun b=>M0 b∨O' b∨(Value.slice va s.ids.length vc).ownBlock=some b) w2∧bK (fun b=>M0 b∨O' b∨(Value.slice va s.ids.length vc).ownBlock=some b) w2 gm nodes limbs s.sp s.ov∧MakeAt M w2 gd ad nd cd ap np cp gk ak nk ck aq nq cq m∧aL w2 wr.heap.size 3 1 (.slice a7 (ofM m s.ids).length c7') (aO (ofM m s.ids))∧aA Nil wr w2 from
    ⟨hH.arena.keep k12 fun _ h=>h.elim,(HA.o.2.1.keep hH.keep HA.o.2.2.1).keepNil k12,fun b hb=>.inr (.inl hb),fun b hb=>by
     have h1:=hH.keep.size;have h2:=k12.size;rcases hb with hb|hb|hb
     ·have:=HA.o.r4.1 b hb;omega
     ·have:=hH.arena.lt b hb;omega
     ·have:=(hH.own.lt b hb).2;omega,hH.meter.keepNil k12,HC.o.2.2.2.1.move k12 (fun _ _ h=>h.elim) fun _ _ h=>h,H7.o.keepNil H2.o,k12⟩)
   have g1:0≤s.sp:=hinv.inv.sp0;have g2:s.sp≤nodes:=hinv.inv.spn;have g3:s.A.cnt<1000000:=by have:=hinv.inv.cnt;omega
   have g4:s.A.nodes.length≤1000000:=by have:=hinv.inv.used;omega
   have g5:2≤s.A.nodes.length:=hinv.inv.once.two;have HI2:=jJ hinv.inv;clear k12 hH hinv hq H7;go_cut [8,9] (fun x y wx=>∃O2:Nat→Prop,x=.int .i64 r.1.1∧y=.int .i64 r.1.2∧Half8 O M0 w g gm nodes limbs wx (.slice va s.ids.length vc) ⟨r.2.1,r.2.2.1,r.2.2.2,s.ids⟩ O2)
   case first=>
    have hr:=HC.o.r6.1;rcases whatM_cases m with h|h|h|h|h
    ·obtain rfl:q=0:=HQ.o.trans h;have hr0:r=atomM s.A nodes limbs s.sp s.ov m.x:=by rw [hr];unfold stepR;rw [if_pos h]
     have HR:=jJ hr0;clear hr hr0 h;go_wp2_with (go_at_call 44;have hX:=HC.o.r4.1;have hsm:=small_norm hX.1 (by decide);go_loud (refine (aatom_any HP.o.1 HP.o.2.1 HP.o.2.2.1 HP.o.2.2.2.1 HP.o.r4.1 HP.o.r5.1.1.toNil HP.o.r5.1.2.1 HP.o.r5.1.2.2.1.toNil (by have h1:=SlOf.len HP.o.r5.1.2.1;have h2:=hX.1.len;simp only at h2;omega) (by have:=HP.o.r5.1.r4.1;omega) ⟨fun p hp=>bZ1 (hsm.parts p hp) (by decide),bZ1 hsm.k (by decide),bZ1 hsm.len (by decide)⟩ (bZ1 hX.2 (by decide)) g1 g2 hn g3 g4 g5 (fun h2=>ok_of_small HI2.o hn HA.o.r9.1 HA.o.r10.1 (small_normR hX.1 hX.2 (by decide)) h2 (by decide) (by decide))).mono ?_);intro e w3 hst;obtain ⟨rfl,O2,h8⟩:=HC.o.2.1.step (r:=r) HP.o.r7 hgm (by rw [HR.o];exact hst);have H8:=jJ h8;clear hst h8 hX hsm)
     go_meet
     exact⟨O2,rfl,rfl,H8.o⟩
    ·obtain rfl:q=1:=HQ.o.trans h;have hr0:r=joinM s.A nodes limbs s.sp s.ov 5 (ofM m s.ids):=by rw [hr];unfold stepR;rw [if_neg (by rw [h];decide),if_pos h]
     have HR:=jJ hr0;clear hr hr0 h;obtain ⟨ax,cx,ex,hx⟩:=aL.sl (M:=Nil) (R:=RI) (d:=0) (xs:=ofM m s.ids) HP.o.r6.1 (fun _ _ h=>h) (by rw [aH]) (fun i hi=>by rw [aH] at hi;simp [RI,aO,List.getD,hi]);rw [aH] at ex hx;have ex2:a7=ax∧c7'=cx:=by simpa using ex
     obtain ⟨rfl,rfl⟩:=ex2;have HX:=jJ hx;clear hx ex;go_wp2_with (go_at_call 49;go_loud (refine (ajoin_any HP.o.1 HP.o.2.1 HP.o.2.2.1 HP.o.2.2.2.1 HP.o.r4.1 HX.o g1 g2 hn g3 g4 g5 (bZ1 HC.o.r8.1.2.2 (by decide)) (room_kids HI2.o hn HA.o.r9.1 (by decide) (by decide) (fun _=>rfl) (neatF_pair _) (fun k hk=>HC.o.r8.1.1 k (dE.1 hk)))).mono ?_);intro e w3 hst;obtain ⟨rfl,O2,h8⟩:=HC.o.2.1.step (r:=r) HP.o.r7 hgm (by rw [HR.o];exact hst);have H8:=jJ h8;clear hst h8)
     go_meet
     exact⟨O2,rfl,rfl,H8.o⟩
    ·obtain rfl:q=2:=HQ.o.trans h;have hr0:r=joinM s.A nodes limbs s.sp s.ov 6 (ofM m s.ids):=by rw [hr];unfold stepR;rw [if_neg (by rw [h];decide),if_neg (by rw [h];decide),if_pos h]
     have HR:=jJ hr0;clear hr hr0 h;obtain ⟨ax,cx,ex,hx⟩:=aL.sl (M:=Nil) (R:=RI) (d:=0) (xs:=ofM m s.ids) HP.o.r6.1 (fun _ _ h=>h) (by rw [aH]) (fun i hi=>by rw [aH] at hi;simp [RI,aO,List.getD,hi]);rw [aH] at ex hx;have ex2:a7=ax∧c7'=cx:=by simpa using ex
     obtain ⟨rfl,rfl⟩:=ex2;have HX:=jJ hx;clear hx ex;go_wp2_with (go_at_call 49;go_loud (refine (ajoin_any HP.o.1 HP.o.2.1 HP.o.2.2.1 HP.o.2.2.2.1 HP.o.r4.1 HX.o g1 g2 hn g3 g4 g5 (bZ1 HC.o.r8.1.2.2 (by decide)) (room_kids HI2.o hn HA.o.r9.1 (by decide) (by decide) (fun _=>rfl) (neatF_pair _) (fun k hk=>HC.o.r8.1.1 k (dE.1 hk)))).mono ?_);intro e w3 hst;obtain ⟨rfl,O2,h8⟩:=HC.o.2.1.step (r:=r) HP.o.r7 hgm (by rw [HR.o];exact hst);have H8:=jJ h8;clear hst h8)
     go_meet
     exact⟨O2,rfl,rfl,H8.o⟩
    ·obtain rfl:q=3:=HQ.o.trans h;have hr0:r=dU s.A nodes limbs s.sp s.ov 7 (varM m) ((ofM m s.ids).getD 0 0):=by rw [hr];unfold stepR;rw [if_neg (by rw [h];decide),if_neg (by rw [h];decide),if_neg (by rw [h];decide),if_pos h]
     have hof:=HC.o.r8.1;obtain ⟨y,hy⟩:∃y,y=(ofM m s.ids).getD 0 0:=⟨_,rfl⟩;have hyr:0≤y∧y<(s.A.nodes.length:Int):=by rw [hy];exact hof.1 _ (cH 0 (by omega))
     rw [←hy] at hr0;have HR:=jJ hr0;have hown7:=HP.o.r6.1;obtain ⟨g7,rest7,rfl,hrow7,-⟩:=hown7.opens (by rw [aH]) (by omega);have z7:w2.cell? ⟨g7,0,none⟩=some (.int .i64 y):=by
      have:=hrow7.el hown7.sz (i:=0) (j:=0) (by rw [aH];omega) (by omega);rw [this,hy];simp [aO,List.getD,show 0<(ofM m s.ids).length by omega]
     have l7:=hrow7.lt;have h7:(0:Int)<((ofM m s.ids).length:Int):=by omega
     have h7n:0<(ofM m s.ids).length:=by omega
     have h7e:¬(ofM m s.ids).length=0:=by omega
     have h7m:¬(ofM m s.ids).length≤0:=by omega
     have HY:=jJ hyr;have Z7:=jJ z7;clear hr hr0 h hof hy hyr hrow7 hown7 z7 c0 c1 c2 c3 c4 c5 c6 c7 c8;go_upto_region 16 with (fail)
     refine aX 15 [9,10,11,12,13,14] [63,64,65,66,67,68,69,70,71,72,62,73,74,8,9] [63,64,65,66,67,68,69,70,71] [Un (LitV ?v1_0),Un (LitV ?v1_1),Un (LitV ?v1_2),Un (LitV ?v1_3),Un (LitV ?v1_4),Un (LitV (.int .i64 (varM m))),Un (LitV ?v1_6),Un (LitV ?v1_7),Un (LitV ?v1_8),nothing,nothing,nothing,nothing,nothing,nothing] (aB.sk (aB.sk (aB.sk (aB.sk (aB.sk (aB.sk (aB.nx ?r1_8 (aB.nx ?r1_7 (aB.nx ?r1_6 (aB.nx ?r1_5 (aB.nx ?r1_4 (aB.nx ?r1_3 (aB.nx ?r1_2 (aB.nx ?r1_1 (aB.nx ?r1_0 aB.zero))))))))))))))) ?rfn1
     case' r1_0|r1_1|r1_2|r1_3|r1_4|r1_5|r1_6|r1_7|r1_8=>
      intro us wj hk hp K hK;try simp only [aP,Act.put,sL] at hK⊢
      obtain ⟨c0,c1,c2,c3,c4,c5,c6,c7,c8⟩:=HCS.o.keep hb (HP.o.r7.trans hk) id;have hbj:=cZ1 hb2 hk.size;have z7:=hk.cellE l7 id Z7.out;have l7j:=cZ1 l7 hk.size
     case' r1_0|r1_1|r1_2|r1_6=>
      go_simp
      refine hK.out _ _ (aA.refl _ _) ?_;exact rfl
     case' r1_3=>
      have e1:us 64=_:=hp 1;have e2:us 65=_:=hp 2;rw [e1,e2] at hK⊢;go_simp
      refine hK.out _ _ (aA.refl _ _) ?_;exact rfl
     case' r1_4=>
      have e3:us 66=_:=hp 3;rw [e3] at hK⊢;go_simp
      refine hK.out _ _ (aA.refl _ _) ?_;exact rfl
     case' r1_5=>
      have e4:us 67=_:=hp 4;rw [e4] at hK⊢;go_simp
      refine (var8_any (gd:=gd) HC.o.r10.1).mono ?_;rintro e wk ⟨rfl,hk2⟩;exact hK.out _ _ hk2 (rfl)
     case' r1_7=>
      have e6:us 69=_:=hp 6;rw [e6] at hK⊢;go_simp
      refine hK.out _ _ (aA.refl _ _) ?_;exact rfl
     case' r1_8=>
      have e7:us 70=_:=hp 7;rw [e7] at hK⊢;go_simp
      refine hK.out _ _ (aA.refl _ _) ?_;exact rfl
     case' rfn1=>
     intro us wz hkz hf;simp only [aP,Act.put,sL];have e0:us 63=_:=hf 0;have e1:us 64=_:=hf 1;have e2:us 65=_:=hf 2;have e3:us 66=_:=hf 3;have e4:us 67=_:=hf 4;have e5:us 68=_:=hf 5;have e6:us 69=_:=hf 6;have e7:us 70=_:=hf 7;have e8:us 71=_:=hf 8;clear hf;simp only [e0,e1,e2,e3,e4,e5,e6,e7,e8];clear e0 e1 e2 e3 e4 e5 e6 e7 e8 us;refine aK 9 fun K hK=>?_;go_simp
     refine (abind_any (HP.o.1.keep hkz fun _ h=>h.elim) (HP.o.2.1.keepNil hkz) HP.o.2.2.1 (HP.o.2.2.2.1.keep hkz) (HP.o.r4.1.keepNil hkz) (varM_i64 m) g1 g2 hn g3 g4 g5 (room_kids HI2.o hn HA.o.r9.1 (by decide) (by decide) (fun h=>absurd h (by decide)) (List.pairwise_singleton _ _) (fun k hk=>by rw [dZ1.1 hk];exact HY.o))).mono ?_;intro e wb hst;obtain ⟨rfl,O2,h8⟩:=HC.o.2.1.step (r:=r) (HP.o.r7.trans hkz) hgm (by rw [HR.o];exact hst);have H8:=jJ h8;clear hst h8;skip
     refine mK ?_;clear hK K;refine aK 10 fun K hK=>?_;go_simp
     refine mK ?_;clear hK K;refine cE (rs:=[11,12]) (by kernel_rfl) (by simp) ?_;refine (bD.cons rfl (fun K hK=>?t2_11) (bD.cons rfl (fun K hK=>?t2_12) bD.nil))
     case t2_11=>
      go_simp
      refine mK ?_;clear hK K;refine cE (rs:=[12,13]) (by kernel_rfl) (by simp) ?_;refine (bD.cons rfl (fun K hK=>?t3_12) (bD.cons rfl (fun K hK=>?t3_13) bD.nil))
      case t3_12=>
       go_simp
       refine mK ?_;clear hK K;refine aK 13 fun K hK=>?_;go_simp
       refine mK ?_;clear hK K;refine aK 14 fun K hK=>?_;go_simp
       refine mK ?_;clear hK K;refine aQ (by kernel_rfl) ?_ _;go_wp2_with fail
       go_meet
       exact⟨O2,rfl,rfl,H8.o⟩
      case t3_13=>
       go_simp
       refine mK ?_;clear hK K;refine aK 12 fun K hK=>?_;go_simp
       refine mK ?_;clear hK K;refine aK 14 fun K hK=>?_;go_simp
       refine mK ?_;clear hK K;refine aQ (by kernel_rfl) ?_ _;go_wp2_with fail
       go_meet
       exact⟨O2,rfl,rfl,H8.o⟩
     case t2_12=>
      go_simp
      refine mK ?_;clear hK K;refine aK 11 fun K hK=>?_;go_simp
      refine mK ?_;clear hK K;refine aK 13 fun K hK=>?_;go_simp
      refine mK ?_;clear hK K;refine aK 14 fun K hK=>?_;go_simp
      refine mK ?_;clear hK K;refine aQ (by kernel_rfl) ?_ _;go_wp2_with fail
      go_meet
      exact⟨O2,rfl,rfl,H8.o⟩
    ·obtain rfl:q=4:=HQ.o.trans h;have hr0:r=dU s.A nodes limbs s.sp s.ov 8 (varM m) ((ofM m s.ids).getD 0 0):=by rw [hr];unfold stepR;rw [if_neg (by rw [h];decide),if_neg (by rw [h];decide),if_neg (by rw [h];decide),if_neg (by rw [h];decide)]
     have hof:=HC.o.r8.1;obtain ⟨y,hy⟩:∃y,y=(ofM m s.ids).getD 0 0:=⟨_,rfl⟩;have hyr:0≤y∧y<(s.A.nodes.length:Int):=by rw [hy];exact hof.1 _ (cH 0 (by omega))
     rw [←hy] at hr0;have HR:=jJ hr0;have hown7:=HP.o.r6.1;obtain ⟨g7,rest7,rfl,hrow7,-⟩:=hown7.opens (by rw [aH]) (by omega);have z7:w2.cell? ⟨g7,0,none⟩=some (.int .i64 y):=by
      have:=hrow7.el hown7.sz (i:=0) (j:=0) (by rw [aH];omega) (by omega);rw [this,hy];simp [aO,List.getD,show 0<(ofM m s.ids).length by omega]
     have l7:=hrow7.lt;have h7:(0:Int)<((ofM m s.ids).length:Int):=by omega
     have h7n:0<(ofM m s.ids).length:=by omega
     have h7e:¬(ofM m s.ids).length=0:=by omega
     have h7m:¬(ofM m s.ids).length≤0:=by omega
     have HY:=jJ hyr;have Z7:=jJ z7;clear hr hr0 h hof hy hyr hrow7 hown7 z7 c0 c1 c2 c3 c4 c5 c6 c7 c8;go_upto_region 18 with (fail)
     refine aX 15 [9,10,11,12,13,14] [78,79,80,81,82,83,84,85,86,87,77,88,89,8,9] [78,79,80,81,82,83,84,85,86] [Un (LitV ?v4_0),Un (LitV ?v4_1),Un (LitV ?v4_2),Un (LitV ?v4_3),Un (LitV ?v4_4),Un (LitV (.int .i64 (varM m))),Un (LitV ?v4_6),Un (LitV ?v4_7),Un (LitV ?v4_8),nothing,nothing,nothing,nothing,nothing,nothing] (aB.sk (aB.sk (aB.sk (aB.sk (aB.sk (aB.sk (aB.nx ?r4_8 (aB.nx ?r4_7 (aB.nx ?r4_6 (aB.nx ?r4_5 (aB.nx ?r4_4 (aB.nx ?r4_3 (aB.nx ?r4_2 (aB.nx ?r4_1 (aB.nx ?r4_0 aB.zero))))))))))))))) ?rfn4
     case' r4_0|r4_1|r4_2|r4_3|r4_4|r4_5|r4_6|r4_7|r4_8=>
      intro us wj hk hp K hK;try simp only [aP,Act.put,sL] at hK⊢
      obtain ⟨c0,c1,c2,c3,c4,c5,c6,c7,c8⟩:=HCS.o.keep hb (HP.o.r7.trans hk) id;have hbj:=cZ1 hb2 hk.size;have z7:=hk.cellE l7 id Z7.out;have l7j:=cZ1 l7 hk.size
     case' r4_0|r4_1|r4_2|r4_6=>
      go_simp
      refine hK.out _ _ (aA.refl _ _) ?_;exact rfl
     case' r4_3=>
      have e1:us 79=_:=hp 1;have e2:us 80=_:=hp 2;rw [e1,e2] at hK⊢;go_simp
      refine hK.out _ _ (aA.refl _ _) ?_;exact rfl
     case' r4_4=>
      have e3:us 81=_:=hp 3;rw [e3] at hK⊢;go_simp
      refine hK.out _ _ (aA.refl _ _) ?_;exact rfl
     case' r4_5=>
      have e4:us 82=_:=hp 4;rw [e4] at hK⊢;go_simp
      refine (var8_any (gd:=gd) HC.o.r10.1).mono ?_;rintro e wk ⟨rfl,hk2⟩;exact hK.out _ _ hk2 (rfl)
     case' r4_7=>
      have e6:us 84=_:=hp 6;rw [e6] at hK⊢;go_simp
      refine hK.out _ _ (aA.refl _ _) ?_;exact rfl
     case' r4_8=>
      have e7:us 85=_:=hp 7;rw [e7] at hK⊢;go_simp
      refine hK.out _ _ (aA.refl _ _) ?_;exact rfl
     case' rfn4=>
     intro us wz hkz hf;simp only [aP,Act.put,sL];have e0:us 78=_:=hf 0;have e1:us 79=_:=hf 1;have e2:us 80=_:=hf 2;have e3:us 81=_:=hf 3;have e4:us 82=_:=hf 4;have e5:us 83=_:=hf 5;have e6:us 84=_:=hf 6;have e7:us 85=_:=hf 7;have e8:us 86=_:=hf 8;clear hf;simp only [e0,e1,e2,e3,e4,e5,e6,e7,e8];clear e0 e1 e2 e3 e4 e5 e6 e7 e8 us;refine aK 9 fun K hK=>?_;go_simp
     refine (abind_any (HP.o.1.keep hkz fun _ h=>h.elim) (HP.o.2.1.keepNil hkz) HP.o.2.2.1 (HP.o.2.2.2.1.keep hkz) (HP.o.r4.1.keepNil hkz) (varM_i64 m) g1 g2 hn g3 g4 g5 (room_kids HI2.o hn HA.o.r9.1 (by decide) (by decide) (fun h=>absurd h (by decide)) (List.pairwise_singleton _ _) (fun k hk=>by rw [dZ1.1 hk];exact HY.o))).mono ?_;intro e wb hst;obtain ⟨rfl,O2,h8⟩:=HC.o.2.1.step (r:=r) (HP.o.r7.trans hkz) hgm (by rw [HR.o];exact hst);have H8:=jJ h8;clear hst h8;skip
     refine mK ?_;clear hK K;refine aK 10 fun K hK=>?_;go_simp
     refine mK ?_;clear hK K;refine cE (rs:=[11,12]) (by kernel_rfl) (by simp) ?_;refine (bD.cons rfl (fun K hK=>?t5_11) (bD.cons rfl (fun K hK=>?t5_12) bD.nil))
     case t5_11=>
      go_simp
      refine mK ?_;clear hK K;refine cE (rs:=[12,13]) (by kernel_rfl) (by simp) ?_;refine (bD.cons rfl (fun K hK=>?t6_12) (bD.cons rfl (fun K hK=>?t6_13) bD.nil))
      case t6_12=>
       go_simp
       refine mK ?_;clear hK K;refine aK 13 fun K hK=>?_;go_simp
       refine mK ?_;clear hK K;refine aK 14 fun K hK=>?_;go_simp
       refine mK ?_;clear hK K;refine aQ (by kernel_rfl) ?_ _;go_wp2_with fail
       go_meet
       exact⟨O2,rfl,rfl,H8.o⟩
      case t6_13=>
       go_simp
       refine mK ?_;clear hK K;refine aK 12 fun K hK=>?_;go_simp
       refine mK ?_;clear hK K;refine aK 14 fun K hK=>?_;go_simp
       refine mK ?_;clear hK K;refine aQ (by kernel_rfl) ?_ _;go_wp2_with fail
       go_meet
       exact⟨O2,rfl,rfl,H8.o⟩
     case t5_12=>
      go_simp
      refine mK ?_;clear hK K;refine aK 11 fun K hK=>?_;go_simp
      refine mK ?_;clear hK K;refine aK 13 fun K hK=>?_;go_simp
      refine mK ?_;clear hK K;refine aK 14 fun K hK=>?_;go_simp
      refine mK ?_;clear hK K;refine aQ (by kernel_rfl) ?_ _;go_wp2_with fail
      go_meet
      exact⟨O2,rfl,rfl,H8.o⟩
   case rest=>
    rename World=>wx;obtain ⟨O2,rfl,rfl,h8⟩:=hcut;obtain ⟨x,hx⟩:∃x,x=r.1.1:=⟨_,rfl⟩;obtain ⟨er,her⟩:∃er,er=r.1.2:=⟨_,rfl⟩;rw [←hx,←her];have hr:=HC.o.r6.1;have hnext:=HC.o.r5.1;have hws:=h8.keep.size;have hlen:s.ids.length≤1000:=by omega
    have HX:=jJ (aI6 hx her hr hnext h8 (aH s.ids));clear hx her hr hnext h8;by_cases he:er=0
    ·have e1:(er==0)=true:=by simpa using he
     have HE:=jJ he;clear he;go_wp2_with (at_builtin;go_loud (refine bV _ rfl (.tmp 92) (.tmp 94) 23 rfl w.heap.size 3 i1 (.int .i64 0) 1 8 underlying23 HI.o.1 HI.o.2.1 HI.o.2.2.1 HI.o.2.2.2 rfl (by decide) (.slice va s.ids.length vc) _ rfl (HX.o.r4.1.own.keepNil (w':=wx.alloc (.cells #[.int .i64 x] 3)) kOf) ⟨wx.heap.size,0,none⟩ 1 1 [[.int .i64 x]] rfl rfl (by simp) (alloc_news _ _ _) (by simp [Value.oneCell']) (by rw [HX.o.r5];omega) (by rw [HX.o.r5];omega) (by simp;omega) ?_);intro v' w9 ho hk9 hf9 _;obtain ⟨a9,c9,rfl⟩:=ho.isSlice;have e9:(aO s.ids++[[Value.int .i64 x]]).length=(s.ids++[x]).length:=(by have q:=HX.o.r5;have q2:(aO s.ids++[[Value.int .i64 x]]).length=(aO s.ids).length+1:=aZ1;have q3:(s.ids++[x]).length=s.ids.length+1:=aZ1;omega);rw [e9] at ho hf9⊢;have HO:=jJ (aI3 ho hk9 hf9);clear ho hk9 hf9 e9)
     go_roundw
     case rel=>
      have hpush:=HX.o.r4.1.push (i:=x) (v':=.slice a9 (s.ids++[x]).length c9) (w2:=wx.alloc (.cells #[.int .i64 x] 3)) kOf (by rw [cells1_snoc];exact HO.o.1) HO.o.2.1 HO.o.2.2;refine ⟨j+1,a9,c9,⟨r.2.1,r.2.2.1,r.2.2.2,s.ids++[x]⟩,O2,by omega,by omega,by go_num,?_,by simp,hpush⟩;rw [HX.o.2.2.2.1];unfold stepB putR;rw [←HX.o.2.2.1,if_pos (HX.o.2.1.symm.trans HE.o),←HX.o.1]
     case measure=>simp [intOf];omega
    ·have e1:(er==0)=false:=by simpa using he
     have HE:=jJ he;clear he;go_wp2_with fail
     go_roundw
     case rel=>
      refine ⟨j+1,va,vc,⟨r.2.1,r.2.2.1,r.2.2.2,s.ids⟩,O2,by omega,by omega,by go_num,?_,rfl,HX.o.r4.1⟩;rw [HX.o.2.2.2.1];unfold stepB putR;rw [←HX.o.2.2.1,if_neg (fun h=>HE.o (HX.o.2.1.trans h))]
     case measure=>simp [intOf];omega
  ·have hend:s=buildM nodes limbs ⟨A,sp,ov,[0,1]⟩ (l.take 40):=by
    rw [hs];rcases Nat.lt_or_ge j 40 with h|h
    ·rw [eZ1 (by have:=HA.o.r12;omega),eZ1 (by have:=HA.o.r12;omega)]
    ·rw [show j=40 by omega]
   have HE:=jJ (aI hH hend);clear hH hend hs hinv;rcases Nat.lt_or_ge j nl with h|h
   ·have h40:j=40:=by omega
    subst h40;have e0:decide (((40:Nat):Int)<(nl:Int))=true:=by simp;omega
    clear hlt;go_wp2_with fail
    go_ret
    exact⟨_,O',rfl,by rw [←HE.o.2];exact HE.o.1⟩
   ·have e0:decide ((j:Int)<(nl:Int))=false:=by simp;omega
    clear hlt;go_wp2_with fail
    go_ret
    exact⟨_,O',rfl,by rw [←HE.o.2];exact HE.o.1⟩
section
variable {l:List dK} {a:Option Addr} {p:Int × Int} {M:Nat→Prop} {m:dK} {V:List Int} {w:World}
theorem mem_varsM (hm:m∈l) (hp:p∈m.x.t.parts):p.1∈varsM l:=by
 unfold varsM;exact jZ1.2 (.inl (dZ3.2 ⟨m,hm,iZ2.2 ⟨p,hp,rfl⟩⟩))
theorem length_varsM (hm:m∈l):m.x.t.parts.length≤(varsM l).length:=by
 unfold varsM;induction l with
 | nil=>cases hm
 | cons x l ih=>
  simp only [eZ2,aZ1,hZ1] at ih⊢;rcases mZ1.1 hm with rfl|h
  ·omega
  ·have:=ih h;omega
theorem MakesAt.small {n c:Nat} (h:MakesAt M w a n c l) (hV:∀v∈varsM l,v∈V) (hl:(varsM l).length≤262144):(∀m∈l,Go.Proofs.Q.SmallX V m.x)∧∀v∈varsM l,I64 v:=by
 have key:∀m∈l,(∀p∈m.x.t.parts,Go.Proofs.Q.BPart p)∧nlen m.x.t.k.natAbs≤1048576∧nlen m.x.d.natAbs≤1048576:=fun m hm=>by
  obtain ⟨i,hi,rfl⟩:=hZ3 hm;obtain ⟨b,off,gd,gk,ad,ap,ak,aq,nd,cd,np,cp,nk,ck,nq,cq,-,-,-,-,hmk⟩:=h.at (i:=i) (by have:=SlOf.len h;omega);have e:l.getD i zeroM=l[i]:=by simp [List.getD,hi]
  rw [e] at hmk;exact⟨hmk.r5.1,bZ1 (Go.Proofs.Q.zat_nlen hmk.2.2.1) hmk.r4.1,bZ1 (Go.Proofs.Q.zat_nlen hmk.1) hmk.2.2.2.1⟩
 refine ⟨fun m hm=>?_,fun v hv=>?_⟩
 ·obtain ⟨k1,k2,k3⟩:=key m hm;exact⟨⟨bZ1 (length_varsM hm) hl,fun p hp=>(k1 p hp).1,k2,fun p hp=>hV _ (mem_varsM hm hp)⟩,k3⟩
 ·unfold varsM at hv;rcases jZ1.1 hv with hv|hv
  ·obtain ⟨m,hm,hv⟩:=dZ3.1 hv;obtain ⟨p,hp,rfl⟩:=iZ2.1 hv;exact ((key m hm).1 p hp).2
  ·simp at hv;unfold I64;omega
end
end Go.Proofs.Q
