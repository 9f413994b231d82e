/- What the laws' built of layer 12 does. -/
import Derived.Test.YtlldghknenbccaaGreatDoorRMeansB
import Derived.Test.YtlldghknenbccaaGreatDoorRSubsF
set_option linter.unusedSimpArgs false
set_option linter.unusedVariables false
set_option maxRecDepth 100000
set_option maxHeartbeats 8000000
namespace Go.Proofs.Q
open Go.Proofs.YtlldghknenbccaaGreatDoor Go.RowKit Go.Deep Go.ChangeShapes Go.WideShapes Go.Joins Tryz
theorem aOF {B0:Nat} {O M0 M:Nat→Prop} {w:World} {g gm:Nat} {A:aC} {V:List Int} {al:Option Addr} {nl cl:Nat} {l:List dO} {nodes limbs sp ov:Int} (hA:bW O w g gm A) (hT:Tab B0 w) (hB:∀b,O b∨b=gm→B0≤b) (hO:∀b,O b→M0 b) (hM0:MB M0 w) (hm:bR M0 w gm nodes limbs sp ov)
  (hl:nO M w al nl cl l) (hMO:∀b,O b∨b=gm→M b) (hI:fP V nodes A sp) (hn:nodes≤2000) (hV:V.length≤262144) (hV2:∀v∈V,I64 v) (hX:∀m∈l,jM V m.x) :
  Calls prog 29 #[.pointer (some ⟨g,0,none⟩),.slice al nl cl] w fun e w'=>∃v O',e=.returned v∧BR O M0 w g gm nodes limbs w' v (jY nodes limbs ⟨A,sp,ov,[0,1]⟩ (l.take 40)) O':=by
 obtain ⟨i1,hi1⟩:=info_parts BI;have HI:=jJ hi1;have hnl:l.length=nl:=eU.len hl;have hcap:=eU.cap hl;have hle:=eU.le hl;have hgm:=hm.lt;have HA:=jJ (RF hA hT hB hO hM0 hm hl hMO hI hV hV2 hX hnl);clear hi1 hA hT hB hO hM0 hm hl hMO hI hV hV2 hX hnl;go_enter func29,ntmps29
 go_upto_region 2 with (fail)
 have r0:=aF.alloc (w:=w) (E:=3) (xs:=[.int .i64 0,.int .i64 1]);change aF (w.alloc (.cells #[.int .i64 0,.int .i64 1] 3)) _ _ _ at r0;have k0:aA Nil w (w.alloc (.cells #[.int .i64 0,.int .i64 1] 3)):=kOf;generalize w.alloc (.cells #[.int .i64 0,.int .i64 1] 3)=w0 at *
 have H0:=jJ (bBM (ov:=ov) HA.o.1 HA.o.2.2.2.1 HA.o.r5.1 k0 r0 (bZ2 _));clear k0 r0;go_wp2_with fail
 go_loopw [5,6] (fun v i wr=>∃(j:Nat) (va:Option Addr) (vc:Nat) (s:St) (O':Nat→Prop),j≤nl∧j≤40∧i=.int .i64 (j:Int)∧s=jY nodes limbs ⟨A,sp,ov,[0,1]⟩ (l.take j)∧v=.slice va s.ids.length vc∧BR O M0 w g gm nodes limbs wr (.slice va s.ids.length vc) s O') (fun _ i _=>40-(intOf i).toNat)
 case atStart=>exact⟨0,_,_,⟨A,sp,ov,[0,1]⟩,O,aZ2 _,aZ2 _,rfl,rfl,rfl,H0.o⟩
 case round=>
  obtain ⟨j,va,vc,s,O',hj,hj40,rfl,hs,rfl,hH⟩:=hrel;have hinv:mJ V nodes s j:=by
   have h1:=(mJ.start (ov:=ov) HA.o.r8.1).build (limbs:=limbs) (l:=l.take j) fun m hm=>HA.o.r11.1 m (cZ3 hm);rw [←hs,iZ1,Nat.min_eq_left (by rw [HA.o.r12];exact hj),Nat.zero_add] at h1;exact h1
  by_cases hlt:j<nl∧j<40
  ·have hjl:j<l.length:=by rw [HA.o.r12];exact hlt.1
   have hlr:nO M wr al nl cl l:=HA.o.r6.1.move hH.keep (fun b _ hb=>HA.o.r7.1 b hb) fun _ _ h=>h;obtain ⟨b,off,gd,gk,ad,ap,ak,aq,nd,cd,np,cp,nk,ck,nq,cq,rfl,hb,hnM,hcs,hmk⟩:=hlr.at hlt.1;have hXm:=HA.o.r11.1 (l.getD j CV) (cK CV hjl);have htk:l.take (j+1)=l.take j++[l.getD j CV]:=by rw [List.take_succ_eq_append_getElem hjl];simp [List.getD,hjl]
   obtain ⟨m,hmm⟩:∃m,m=l.getD j CV:=⟨_,rfl⟩;rw [←hmm] at hcs hmk hXm htk;have hnext:jY nodes limbs ⟨A,sp,ov,[0,1]⟩ (l.take (j+1))=kS nodes limbs s m:=by rw [htk,aOS,←hs]
   obtain ⟨r,hr⟩:∃r,r=jQ s.A nodes limbs s.sp s.ov s.ids m:=⟨_,rfl⟩;obtain ⟨ai,ci,ei,hids⟩:=aL.sl (M:=Nil) (R:=RI) (d:=0) (xs:=s.ids) hH.own (fun _ _ h=>h) vA (fun i hi=>yI);rw [aJ] at ei hids;have ei2:va=ai∧vc=ci:=by simpa using ei
   obtain ⟨rfl,rfl⟩:=ei2;have hof:=bBQ (m:=m) (by have:=hinv.two;omega) hinv.ids;have hk1:I64 m.kind:=hmk.r9.1;have hk2:I64 m.v:=hmk.r10;have hi2:=hinv.two;have hi3:=hinv.len;obtain ⟨c0,c1,c2,c3,c4,c5,c6,c7,c8⟩:=hcs;have j0:(0:Int)≤(j:Int):=zZ;have j1:(j:Int)<(nl:Int):=zZ;have j2:(j:Int)<40:=zZ;have HC:=jJ (RF hs hH hinv hmk hXm hnext hr hids hof hk1 hk2 hb hnM);have HCS:=jJ (show LK wr b (off+j*9) gd gk ad ap ak aq nd cd np cp nk ck nq cq m from ⟨c0,c1,c2,c3,c4,c5,c6,c7,c8⟩);clear hs hH hinv hmk hXm hnext hr hids hof hk1 hk2 hlr ei htk hmm hlt hnM;go_upto_region 6 with (go_at_call 78;go_loud (refine (bAM HC.o.2.2.2.1 HC.o.r7.1 zZ zZ).mono ?_);rintro e w1 ⟨v7,rfl,ho7,hk1⟩;obtain ⟨a7,c7',rfl⟩:=ho7.isSlice;have hb1:b<w1.heap.size:=cZ1 hb hk1.size;have H1:=jJ (aI ho7 hk1);clear ho7 hk1)
   obtain ⟨c0,c1,c2,c3,c4,c5,c6,c7,c8⟩:=HCS.o.keep hb H1.o.2 id;have ho7:aL w1 wr.heap.size 3 1 (.slice a7 (ofM m s.ids).length c7') (aO (ofM m s.ids)):=by have h:=H1.o.1;rw [aJ] at h;exact h
   have H7:=jJ ho7;clear ho7;try rw [aJ]
   go_upto_block 2 with (go_at_call 79;go_loud (refine (aUZ HC.o.r9.1).mono ?_);rintro e w2 ⟨rfl,hk2⟩;have hb2:b<w2.heap.size:=cZ1 hb1 hk2.size;have H2:=jJ hk2;clear hk2)
   clear c0 c1 c2 c3 c4 c5 c6 c7 c8;have k12:aA Nil wr w2:=H1.o.2.trans H2.o;obtain ⟨c0,c1,c2,c3,c4,c5,c6,c7,c8⟩:=HCS.o.keep hb k12 id;obtain ⟨q,hq⟩:∃q,q=nC m:=⟨_,rfl⟩;rw [←hq];have HQ:=jJ hq;have hH:=HC.o.2.1;have hinv:=HC.o.2.2.1;have HP:=jJ (show bW O' w2 g gm s.A∧Tab B0 w2∧(∀b,O' b→M0 b∨O' b∨(Value.slice va s.ids.length vc).ownBlock=some b)∧MB (fun b=>M0 b∨O' b∨(Value.slice va s.ids.length vc).ownBlock=some b) w2∧bR (fun b=>M0 b∨O' b∨(Value.slice va s.ids.length vc).ownBlock=some b) w2 gm nodes limbs s.sp s.ov∧FJ M w2 gd ad nd cd ap np cp gk ak nk ck aq nq cq m∧aL w2 wr.heap.size 3 1 (.slice a7 (ofM m s.ids).length c7') (aO (ofM m s.ids))∧aA Nil wr w2 from
    ⟨hH.arena.keep k12 fun _ h=>h.elim,(HA.o.2.1.keep hH.keep HA.o.2.2.1).eO k12,fun b hb=>.inr (.inl hb),fun b hb=>by
     have h1:=hH.keep.size;have h2:=k12.size;rcases hb with hb|hb|hb
     ·have:=HA.o.r4.1 b hb;omega
     ·have:=hH.arena.lt b hb;omega
     ·have:=(hH.own.lt b hb).2;omega,hH.jC.eO k12,HC.o.2.2.2.1.move k12 (fun _ _ h=>h.elim) fun _ _ h=>h,H7.o.eO H2.o,k12⟩)
   have g1:0≤s.sp:=hinv.inv.sp0;have g2:s.sp≤nodes:=hinv.inv.spn;have g3:s.A.cnt<1000000:=by have:=hinv.inv.cnt;omega
   have g4:s.A.nodes.length≤1000000:=by have:=hinv.inv.used;omega
   have g5:2≤s.A.nodes.length:=hinv.inv.once.two;have HI2:=jJ hinv.inv;clear k12 hH hinv hq H7;go_cut [8,9] (fun x y wx=>∃O2:Nat→Prop,x=.int .i64 r.1.1∧y=.int .i64 r.1.2∧BR O M0 w g gm nodes limbs wx (.slice va s.ids.length vc) ⟨r.2.1,r.2.2.1,r.2.2.2,s.ids⟩ O2)
   case first=>
    have hr:=HC.o.r6.1;rcases aOM m with h|h|h|h|h
    ·obtain rfl:q=0:=HQ.o.trans h;have hr0:r=cX s.A nodes limbs s.sp s.ov m.x:=by rw [hr];unfold jQ;rw [if_pos h]
     have HR:=jJ hr0;clear hr hr0 h;go_wp2_with (go_at_call 37;have hX:=HC.o.r4.1;have hsm:=oH hX.1 zY;go_loud (refine (UN HP.o.1 HP.o.2.1 HP.o.2.2.1 HP.o.2.2.2.1 HP.o.r4.1 HP.o.r5.1.1.gK HP.o.r5.1.2.1 HP.o.r5.1.2.2.1.gK (by have h1:=eU.len HP.o.r5.1.2.1;have h2:=hX.1.len;simp only at h2;omega) (by have:=HP.o.r5.1.r4.1;omega) ⟨fun p hp=>bZ1 (hsm.parts p hp) zY,bZ1 hsm.k zY,bZ1 hsm.len zY⟩ (bZ1 hX.2 zY) g1 g2 hn g3 g4 g5 (fun h2=>TN HI2.o hn HA.o.r9.1 HA.o.r10.1 (nJ hX.1 hX.2 zY) h2 zY zY)).mono ?_);intro e w3 hst;obtain ⟨rfl,O2,h8⟩:=HC.o.2.1.step (r:=r) HP.o.r7 hgm uO;have H8:=jJ h8;clear hst h8 hX hsm)
     go_meet
     exact⟨O2,rfl,rfl,H8.o⟩
    ·obtain rfl:q=1:=HQ.o.trans h;have hr0:r=dW s.A nodes limbs s.sp s.ov 5 (ofM m s.ids):=by rw [hr];unfold jQ;rw [if_neg wW,if_pos h]
     have HR:=jJ hr0;clear hr hr0 h;obtain ⟨ax,cx,ex,hx⟩:=aL.sl (M:=Nil) (R:=RI) (d:=0) (xs:=ofM m s.ids) HP.o.r6.1 (fun _ _ h=>h) vA (fun i hi=>yI);rw [aJ] at ex hx;have ex2:a7=ax∧c7'=cx:=by simpa using ex
     obtain ⟨rfl,rfl⟩:=ex2;have HX:=jJ hx;clear hx ex;go_wp2_with (go_at_call 52;go_loud (refine (UO HP.o.1 HP.o.2.1 HP.o.2.2.1 HP.o.2.2.2.1 HP.o.r4.1 HX.o g1 g2 hn g3 g4 g5 (bZ1 HC.o.r8.1.2.2 zY) (OX HI2.o hn HA.o.r9.1 zY zY (fun _=>rfl) (oI _) (fun k hk=>HC.o.r8.1.1 k (cL.1 hk)))).mono ?_);intro e w3 hst;obtain ⟨rfl,O2,h8⟩:=HC.o.2.1.step (r:=r) HP.o.r7 hgm uO;have H8:=jJ h8;clear hst h8)
     go_meet
     exact⟨O2,rfl,rfl,H8.o⟩
    ·obtain rfl:q=2:=HQ.o.trans h;have hr0:r=dW s.A nodes limbs s.sp s.ov 6 (ofM m s.ids):=by rw [hr];unfold jQ;rw [if_neg wW,if_neg wW,if_pos h]
     have HR:=jJ hr0;clear hr hr0 h;obtain ⟨ax,cx,ex,hx⟩:=aL.sl (M:=Nil) (R:=RI) (d:=0) (xs:=ofM m s.ids) HP.o.r6.1 (fun _ _ h=>h) vA (fun i hi=>yI);rw [aJ] at ex hx;have ex2:a7=ax∧c7'=cx:=by simpa using ex
     obtain ⟨rfl,rfl⟩:=ex2;have HX:=jJ hx;clear hx ex;go_wp2_with (go_at_call 52;go_loud (refine (UO HP.o.1 HP.o.2.1 HP.o.2.2.1 HP.o.2.2.2.1 HP.o.r4.1 HX.o g1 g2 hn g3 g4 g5 (bZ1 HC.o.r8.1.2.2 zY) (OX HI2.o hn HA.o.r9.1 zY zY (fun _=>rfl) (oI _) (fun k hk=>HC.o.r8.1.1 k (cL.1 hk)))).mono ?_);intro e w3 hst;obtain ⟨rfl,O2,h8⟩:=HC.o.2.1.step (r:=r) HP.o.r7 hgm uO;have H8:=jJ h8;clear hst h8)
     go_meet
     exact⟨O2,rfl,rfl,H8.o⟩
    ·obtain rfl:q=3:=HQ.o.trans h;have hr0:r=dY s.A nodes limbs s.sp s.ov 7 (BX m) ((ofM m s.ids).getD 0 0):=by rw [hr];unfold jQ;rw [if_neg wW,if_neg wW,if_neg wW,if_pos h]
     have hof:=HC.o.r8.1;obtain ⟨y,hy⟩:∃y,y=(ofM m s.ids).getD 0 0:=⟨_,rfl⟩;have hyr:0≤y∧y<(s.A.nodes.length:Int):=by rw [hy];exact hof.1 _ (cK 0 zZ)
     rw [←hy] at hr0;have HR:=jJ hr0;have hown7:=HP.o.r6.1;obtain ⟨g7,rest7,rfl,hrow7,-⟩:=hown7.opens vA zZ;have z7:w2.cell? ⟨g7,0,none⟩=some (.int .i64 y):=xG;have l7:=hrow7.lt;have h7:(0:Int)<((ofM m s.ids).length:Int):=zZ;have h7n:0<(ofM m s.ids).length:=zZ;have h7e:¬(ofM m s.ids).length=0:=zZ;have h7m:¬(ofM m s.ids).length≤0:=zZ;have HY:=jJ hyr;have Z7:=jJ z7;clear hr hr0 h hof hy hyr hrow7 hown7 z7 c0 c1 c2 c3 c4 c5 c6 c7 c8;go_upto_region 16 with (fail)
     refine aX 15 [9,10,11,12,13,14] [63,64,65,66,67,68,69,70,71,72,62,73,74,8,9] [63,64,65,66,67,68,69,70,71] [Un (eT ?v1_0),Un (eT ?v1_1),Un (eT ?v1_2),Un (eT ?v1_3),Un (eT ?v1_4),Un (eT (.int .i64 (BX m))),Un (eT ?v1_6),Un (eT ?v1_7),Un (eT ?v1_8),nothing,nothing,nothing,nothing,nothing,nothing] (aB.sk (aB.sk (aB.sk (aB.sk (aB.sk (aB.sk (aB.nx ?r1_8 (aB.nx ?r1_7 (aB.nx ?r1_6 (aB.nx ?r1_5 (aB.nx ?r1_4 (aB.nx ?r1_3 (aB.nx ?r1_2 (aB.nx ?r1_1 (aB.nx ?r1_0 aB.zero))))))))))))))) ?rfn1
     case' r1_0|r1_1|r1_2|r1_3|r1_4|r1_5|r1_6|r1_7|r1_8=>
      intro us wj hk hp K hK;try simp only [aQ,Act.put,sL] at hK⊢
      obtain ⟨c0,c1,c2,c3,c4,c5,c6,c7,c8⟩:=HCS.o.keep hb (HP.o.r7.trans hk) id;have hbj:=cZ1 hb2 hk.size;have z7:=hk.eY l7 id Z7.out;have l7j:=cZ1 l7 hk.size
     case' r1_0|r1_1|r1_2|r1_6=>
      go_simp
      refine hK.out _ _ (aA.refl _ _) ?_;exact rfl
     case' r1_3=>
      have e1:us 64=_:=hp 1;have e2:us 65=_:=hp 2;rw [e1,e2] at hK⊢;go_simp
      refine hK.out _ _ (aA.refl _ _) ?_;exact rfl
     case' r1_4=>
      have e3:us 66=_:=hp 3;rw [e3] at hK⊢;go_simp
      refine hK.out _ _ (aA.refl _ _) ?_;exact rfl
     case' r1_5=>
      have e4:us 67=_:=hp 4;rw [e4] at hK⊢;go_simp
      refine (aIC (gd:=gd) HC.o.r10.1).mono ?_;rintro e wk ⟨rfl,hk2⟩;exact hK.out _ _ hk2 (rfl)
     case' r1_7=>
      have e6:us 69=_:=hp 6;rw [e6] at hK⊢;go_simp
      refine hK.out _ _ (aA.refl _ _) ?_;exact rfl
     case' r1_8=>
      have e7:us 70=_:=hp 7;rw [e7] at hK⊢;go_simp
      refine hK.out _ _ (aA.refl _ _) ?_;exact rfl
     case' rfn1=>
     intro us wz hkz hf;simp only [aQ,Act.put,sL];have e0:us 63=_:=hf 0;have e1:us 64=_:=hf 1;have e2:us 65=_:=hf 2;have e3:us 66=_:=hf 3;have e4:us 67=_:=hf 4;have e5:us 68=_:=hf 5;have e6:us 69=_:=hf 6;have e7:us 70=_:=hf 7;have e8:us 71=_:=hf 8;clear hf;simp only [e0,e1,e2,e3,e4,e5,e6,e7,e8];clear e0 e1 e2 e3 e4 e5 e6 e7 e8 us;refine aK 9 fun K hK=>?_;go_simp
     refine (OQ (HP.o.1.keep hkz fun _ h=>h.elim) (HP.o.2.1.eO hkz) HP.o.2.2.1 (HP.o.2.2.2.1.keep hkz) (HP.o.r4.1.eO hkz) (aGM m) g1 g2 hn g3 g4 g5 (OX HI2.o hn HA.o.r9.1 zY zY (fun h=>absurd h zY) (List.pairwise_singleton _ _) (fun k hk=>by rw [dZ1.1 hk];exact HY.o))).mono ?_;intro e wb hst;obtain ⟨rfl,O2,h8⟩:=HC.o.2.1.step (r:=r) (HP.o.r7.trans hkz) hgm uO;have H8:=jJ h8;clear hst h8;skip
     refine mK ?_;clear hK K;refine aK 10 fun K hK=>?_;go_simp
     refine mK ?_;clear hK K;refine bV (rs:=[11,12]) zX zW ?_;refine (aZ.cons rfl (fun K hK=>?t2_11) (aZ.cons rfl (fun K hK=>?t2_12) aZ.nil))
     case t2_11=>
      go_simp
      refine mK ?_;clear hK K;refine bV (rs:=[12,13]) zX zW ?_;refine (aZ.cons rfl (fun K hK=>?t3_12) (aZ.cons rfl (fun K hK=>?t3_13) aZ.nil))
      case t3_12=>exact yV
      case t3_13=>exact yU
     case t2_12=>exact zA
    ·obtain rfl:q=4:=HQ.o.trans h;have hr0:r=dY s.A nodes limbs s.sp s.ov 8 (BX m) ((ofM m s.ids).getD 0 0):=by rw [hr];unfold jQ;rw [if_neg wW,if_neg wW,if_neg wW,if_neg wW]
     have hof:=HC.o.r8.1;obtain ⟨y,hy⟩:∃y,y=(ofM m s.ids).getD 0 0:=⟨_,rfl⟩;have hyr:0≤y∧y<(s.A.nodes.length:Int):=by rw [hy];exact hof.1 _ (cK 0 zZ)
     rw [←hy] at hr0;have HR:=jJ hr0;have hown7:=HP.o.r6.1;obtain ⟨g7,rest7,rfl,hrow7,-⟩:=hown7.opens vA zZ;have z7:w2.cell? ⟨g7,0,none⟩=some (.int .i64 y):=xG;have l7:=hrow7.lt;have h7:(0:Int)<((ofM m s.ids).length:Int):=zZ;have h7n:0<(ofM m s.ids).length:=zZ;have h7e:¬(ofM m s.ids).length=0:=zZ;have h7m:¬(ofM m s.ids).length≤0:=zZ;have HY:=jJ hyr;have Z7:=jJ z7;clear hr hr0 h hof hy hyr hrow7 hown7 z7 c0 c1 c2 c3 c4 c5 c6 c7 c8;go_upto_region 18 with (fail)
     refine aX 15 [9,10,11,12,13,14] [78,79,80,81,82,83,84,85,86,87,77,88,89,8,9] [78,79,80,81,82,83,84,85,86] [Un (eT ?v4_0),Un (eT ?v4_1),Un (eT ?v4_2),Un (eT ?v4_3),Un (eT ?v4_4),Un (eT (.int .i64 (BX m))),Un (eT ?v4_6),Un (eT ?v4_7),Un (eT ?v4_8),nothing,nothing,nothing,nothing,nothing,nothing] (aB.sk (aB.sk (aB.sk (aB.sk (aB.sk (aB.sk (aB.nx ?r4_8 (aB.nx ?r4_7 (aB.nx ?r4_6 (aB.nx ?r4_5 (aB.nx ?r4_4 (aB.nx ?r4_3 (aB.nx ?r4_2 (aB.nx ?r4_1 (aB.nx ?r4_0 aB.zero))))))))))))))) ?rfn4
     case' r4_0|r4_1|r4_2|r4_3|r4_4|r4_5|r4_6|r4_7|r4_8=>
      intro us wj hk hp K hK;try simp only [aQ,Act.put,sL] at hK⊢
      obtain ⟨c0,c1,c2,c3,c4,c5,c6,c7,c8⟩:=HCS.o.keep hb (HP.o.r7.trans hk) id;have hbj:=cZ1 hb2 hk.size;have z7:=hk.eY l7 id Z7.out;have l7j:=cZ1 l7 hk.size
     case' r4_0|r4_1|r4_2|r4_6=>
      go_simp
      refine hK.out _ _ (aA.refl _ _) ?_;exact rfl
     case' r4_3=>
      have e1:us 79=_:=hp 1;have e2:us 80=_:=hp 2;rw [e1,e2] at hK⊢;go_simp
      refine hK.out _ _ (aA.refl _ _) ?_;exact rfl
     case' r4_4=>
      have e3:us 81=_:=hp 3;rw [e3] at hK⊢;go_simp
      refine hK.out _ _ (aA.refl _ _) ?_;exact rfl
     case' r4_5=>
      have e4:us 82=_:=hp 4;rw [e4] at hK⊢;go_simp
      refine (aIC (gd:=gd) HC.o.r10.1).mono ?_;rintro e wk ⟨rfl,hk2⟩;exact hK.out _ _ hk2 (rfl)
     case' r4_7=>
      have e6:us 84=_:=hp 6;rw [e6] at hK⊢;go_simp
      refine hK.out _ _ (aA.refl _ _) ?_;exact rfl
     case' r4_8=>
      have e7:us 85=_:=hp 7;rw [e7] at hK⊢;go_simp
      refine hK.out _ _ (aA.refl _ _) ?_;exact rfl
     case' rfn4=>
     intro us wz hkz hf;simp only [aQ,Act.put,sL];have e0:us 78=_:=hf 0;have e1:us 79=_:=hf 1;have e2:us 80=_:=hf 2;have e3:us 81=_:=hf 3;have e4:us 82=_:=hf 4;have e5:us 83=_:=hf 5;have e6:us 84=_:=hf 6;have e7:us 85=_:=hf 7;have e8:us 86=_:=hf 8;clear hf;simp only [e0,e1,e2,e3,e4,e5,e6,e7,e8];clear e0 e1 e2 e3 e4 e5 e6 e7 e8 us;refine aK 9 fun K hK=>?_;go_simp
     refine (OQ (HP.o.1.keep hkz fun _ h=>h.elim) (HP.o.2.1.eO hkz) HP.o.2.2.1 (HP.o.2.2.2.1.keep hkz) (HP.o.r4.1.eO hkz) (aGM m) g1 g2 hn g3 g4 g5 (OX HI2.o hn HA.o.r9.1 zY zY (fun h=>absurd h zY) (List.pairwise_singleton _ _) (fun k hk=>by rw [dZ1.1 hk];exact HY.o))).mono ?_;intro e wb hst;obtain ⟨rfl,O2,h8⟩:=HC.o.2.1.step (r:=r) (HP.o.r7.trans hkz) hgm uO;have H8:=jJ h8;clear hst h8;skip
     refine mK ?_;clear hK K;refine aK 10 fun K hK=>?_;go_simp
     refine mK ?_;clear hK K;refine bV (rs:=[11,12]) zX zW ?_;refine (aZ.cons rfl (fun K hK=>?t5_11) (aZ.cons rfl (fun K hK=>?t5_12) aZ.nil))
     case t5_11=>
      go_simp
      refine mK ?_;clear hK K;refine bV (rs:=[12,13]) zX zW ?_;refine (aZ.cons rfl (fun K hK=>?t6_12) (aZ.cons rfl (fun K hK=>?t6_13) aZ.nil))
      case t6_12=>exact yV
      case t6_13=>exact yU
     case t5_12=>exact zA
   case rest=>
    rename World=>wx;obtain ⟨O2,rfl,rfl,h8⟩:=hcut;obtain ⟨x,hx⟩:∃x,x=r.1.1:=⟨_,rfl⟩;obtain ⟨er,her⟩:∃er,er=r.1.2:=⟨_,rfl⟩;rw [←hx,←her];have hr:=HC.o.r6.1;have hnext:=HC.o.r5.1;have hws:=h8.keep.size;have hlen:s.ids.length≤1000:=zZ;have HX:=jJ (aI6 hx her hr hnext h8 (aJ s.ids));clear hx her hr hnext h8;by_cases he:er=0
    ·have e1:(er==0)=true:=by simpa using he
     have HE:=jJ he;clear he;go_wp2_with (at_builtin;go_loud (refine bY _ rfl (.tmp 92) (.tmp 94) 56 rfl w.heap.size 3 i1 (.int .i64 0) 1 8 underlying56 HI.o.1 HI.o.2.1 HI.o.2.2.1 HI.o.2.2.2 rfl zY (.slice va s.ids.length vc) _ rfl (HX.o.r4.1.own.eO (w':=wx.alloc (.cells #[.int .i64 x] 3)) kOf) ⟨wx.heap.size,0,none⟩ 1 1 [[.int .i64 x]] rfl rfl zW (EI _ _ _) yO (by rw [HX.o.r5];omega) (by rw [HX.o.r5];omega) zV ?_);intro v' w9 ho hk9 hf9 _;obtain ⟨a9,c9,rfl⟩:=ho.isSlice;have e9:(aO s.ids++[[Value.int .i64 x]]).length=(s.ids++[x]).length:=(by have q:=HX.o.r5;have q2:(aO s.ids++[[Value.int .i64 x]]).length=(aO s.ids).length+1:=aZ1;have q3:(s.ids++[x]).length=s.ids.length+1:=aZ1;omega);rw [e9] at ho hf9⊢;have HO:=jJ (aI3 ho hk9 hf9);clear ho hk9 hf9 e9)
     go_roundw
     case rel=>
      have hpush:=HX.o.r4.1.push (i:=x) (v':=.slice a9 (s.ids++[x]).length c9) (w2:=wx.alloc (.cells #[.int .i64 x] 3)) kOf (by rw [FZ];exact HO.o.1) HO.o.2.1 HO.o.2.2;refine ⟨j+1,a9,c9,⟨r.2.1,r.2.2.1,r.2.2.2,s.ids++[x]⟩,O2,zZ,zZ,zF,?_,zW,hpush⟩;rw [HX.o.2.2.2.1];unfold kS RD;rw [←HX.o.2.2.1,if_pos (HX.o.2.1.symm.trans HE.o),←HX.o.1]
     case measure=>exact zI
    ·have e1:(er==0)=false:=by simpa using he
     have HE:=jJ he;clear he;go_wp2_with fail
     go_roundw
     case rel=>
      refine ⟨j+1,va,vc,⟨r.2.1,r.2.2.1,r.2.2.2,s.ids⟩,O2,zZ,zZ,zF,?_,rfl,HX.o.r4.1⟩;rw [HX.o.2.2.2.1];unfold kS RD;rw [←HX.o.2.2.1,if_neg (fun h=>HE.o (HX.o.2.1.trans h))]
     case measure=>exact zI
  ·have hend:s=jY nodes limbs ⟨A,sp,ov,[0,1]⟩ (l.take 40):=by
    rw [hs];rcases Nat.lt_or_ge j 40 with h|h
    ·rw [eZ1 (by have:=HA.o.r12;omega),eZ1 (by have:=HA.o.r12;omega)]
    ·rw [show j=40 by omega]
   have HE:=jJ (aI hH hend);clear hH hend hs hinv;rcases Nat.lt_or_ge j nl with h|h
   ·have h40:j=40:=zZ;subst h40;have e0:decide (((40:Nat):Int)<(nl:Int))=true:=zV;clear hlt;go_wp2_with fail
    go_ret
    exact⟨_,O',rfl,by rw [←HE.o.2];exact HE.o.1⟩
   ·have e0:decide ((j:Int)<(nl:Int))=false:=zV;clear hlt;go_wp2_with fail
    go_ret
    exact⟨_,O',rfl,by rw [←HE.o.2];exact HE.o.1⟩
section
variable {V ks ids:List Int} {nodes limbs u sp sp' ov kind x:Int} {N:aS} {xs:List (Bool × List Nat)} {i:Nat} {L:List aS} {B:aC} {T:aV} {X:aY} {m:dO}
def AP (T:aV):List Int:=(dR T.parts).map (·.1)
theorem TS:u∈AP T↔bD T.parts u≠0:=by
 unfold AP;rw [iZ2];constructor
 ·rintro ⟨p,hp,rfl⟩;have:=((CF T.parts).mem p).1 hp;rw [←this.1];exact this.2
 ·intro h;exact⟨(u,bD T.parts u),((CF T.parts).mem _).2 ⟨rfl,h⟩,rfl⟩
inductive FrI (L:List aS) (u:Int):Int→Prop
 | here {x:Int}:u∈AP (L.getD x.toNat aP).t→(7≤(L.getD x.toNat aP).kind→u≠(L.getD x.toNat aP).var)→FrI L u x
 | kid {x k:Int}:k∈(L.getD x.toNat aP).kids→FrI L u k→(7≤(L.getD x.toNat aP).kind→u≠(L.getD x.toNat aP).var)→FrI L u x
theorem WZ:FrI L u x↔(u∈AP (L.getD x.toNat aP).t∨∃k∈(L.getD x.toNat aP).kids,FrI L u k)∧(7≤(L.getD x.toNat aP).kind→u≠(L.getD x.toNat aP).var):=by
 constructor
 ·intro h;cases h with
  | here h1 h2=>exact⟨.inl h1,h2⟩
  | kid h1 h2 h3=>exact⟨.inr ⟨_,h1,h2⟩,h3⟩
 ·rintro ⟨h|⟨k,h1,h2⟩,h3⟩
  ·exact .here h h3
  ·exact .kid h1 h2 h3
theorem aKF {A A':aC} (he:Ext A A') (hB:Below A.nodes) {u:Int}:∀(n:Nat) (x:Int),x.toNat<n→0≤x→x<(A.nodes.length:Int)→(FrI A'.nodes u x↔FrI A.nodes u x)
 | 0,_,h,_,_=>zZ
 | n+1,x,hn,h0,h1=>by
  have e:A'.nodes.getD x.toNat aP=A.nodes.getD x.toNat aP:=he.nd h0 h1;rw [WZ,WZ (L:=A.nodes),e];refine and_congr (or_congr Iff.rfl (exists_congr fun k=>and_congr_right fun hk=>?_)) Iff.rfl;have:=hB.kid h0 h1 hk;exact aKF he hB n k zZ this.1 zZ
theorem aJD {A A':aC} (he:Ext A A') (hB:Below A.nodes) (h:0≤x∧x<(A.nodes.length:Int)):FrI A'.nodes u x↔FrI A.nodes u x:=aKF he hB (x.toNat+1) x (Nat.lt_succ_self _) h.1 h.2
def iA (A:aC):Prop:=∀i,i<A.nodes.length→A.free.getD i []=eF A (A.nodes.getD i aP)∧A.plain.getD i 0=AJ A (A.nodes.getD i aP)
theorem iA.start:iA gJ:=fun i hi=>by
 have hs:cM []=[]:=fZ1 (Nat.le_zero.1 (ZW []));have hi':i<2:=hi;rcases (show i=0∨i=1 by omega) with rfl|rfl
 ·refine ⟨?_,rfl⟩;show []=eF gJ ⟨0,0,bK,0,[]⟩
  unfold eF;rw [if_neg zY,show dB gJ ⟨0,0,bK,0,[]⟩=[] from rfl,hs]
 ·refine ⟨?_,rfl⟩;show []=eF gJ ⟨1,0,bK,0,[]⟩
  unfold eF;rw [if_neg zY,show dB gJ ⟨1,0,bK,0,[]⟩=[] from rfl,hs]
theorem aAQ {A:aC} (h:∀k∈N.kids,A.free.getD k.toNat []=B.free.getD k.toNat []):eF A N=eF B N:=by
 have:dB A N=dB B N:=by unfold dB;rw [MS h]
 unfold eF;rw [this]
theorem ZB {f g:Int→Int}:∀{l:List Int} {q:Int},(∀k∈l,f k=g k)→l.foldl (fun q k=>max q (f k)) q=l.foldl (fun q k=>max q (g k)) q
 | [],_,_=>rfl
 | k::l,q,h=>by
  rw [List.foldl_cons,List.foldl_cons,h k (kZ1 ..)];exact ZB fun j hj=>h j (lZ1 _ hj)
theorem ZY {A:aC} (h:∀k∈N.kids,A.plain.getD k.toNat 0=B.plain.getD k.toNat 0):AJ A N=AJ B N:=by
 unfold AJ BN;rw [List.take_length,ZB h]
theorem SA {α:Type} {l:List α} {x d:α} (h:i<l.length):(l++[x]).getD i d=l.getD i d:=wP
theorem SF {α:Type} {l:List α} {x d:α} (h:i=l.length):(l++[x]).getD i d=x:=by
 subst h;simp [List.getD]
theorem iA.add {A:aC} (h:iA A) (hI:fP V nodes A sp) (hk:∀k∈N.kids,0≤k∧k<(A.nodes.length:Int)):iA (fQ A N):=fun i hi=>by
 have e1:∀j,j<A.nodes.length→(fQ A N).free.getD j []=A.free.getD j []:=fun j hj=>SA (by rw [hI.lf];exact hj);have e2:∀j,j<A.nodes.length→(fQ A N).plain.getD j 0=A.plain.getD j 0:=fun j hj=>SA (by rw [hI.lp];exact hj);have e3:∀j,j<A.nodes.length→(fQ A N).nodes.getD j aP=A.nodes.getD j aP:=fun j hj=>SA hj;have hi':i<A.nodes.length+1:=by simpa [fQ] using hi
 rcases Nat.lt_or_ge i A.nodes.length with hl|hl
 ·rw [e1 i hl,e2 i hl,e3 i hl,(h i hl).1,(h i hl).2];have hkk:=(hI.kids i hl).2;exact⟨(aAQ fun k hk=>e1 _ (by have:=hkk k hk;omega)).symm,(ZY fun k hk=>e2 _ (by have:=hkk k hk;omega)).symm⟩
 ·obtain rfl:i=A.nodes.length:=zZ;have n1:(fQ A N).nodes.getD A.nodes.length aP=N:=SF rfl;have n2:(fQ A N).free.getD A.nodes.length []=eF A N:=SF hI.lf.symm;have n3:(fQ A N).plain.getD A.nodes.length 0=AJ A N:=SF hI.lp.symm;rw [n1,n2,n3];exact⟨(aAQ fun k hkm=>e1 _ (by have:=hk k hkm;omega)).symm,(ZY fun k hkm=>e2 _ (by have:=hk k hkm;omega)).symm⟩
theorem TY {A:aC} (h:iA A) (hI:fP V nodes A sp') (hk:∀k∈N.kids,0≤k∧k<(A.nodes.length:Int)):iA (cU A nodes limbs sp ov N xs).2.1:=by
 unfold cU;cases fK A.nodes (bB N) with
 | some i=>exact h
 | none=>
  simp only [];split
  ·exact h.add hI hk
  ·exact h
theorem UF {A:aC} (h:iA A) (hI:fP V nodes A sp'):iA (dW A nodes limbs sp ov kind ks).2.1:=by
 unfold dW;split
 ·exact h
 split
 ·exact h
 split
 ·exact h
 split
 ·rename_i h1 h2 h3 h4;refine TY h hI fun k hk=>dH.1 (kZ2.1 tW k (cL.1 hk))
 ·exact h
theorem UM {v k:Int} {A:aC} (h:iA A) (hI:fP V nodes A sp'):iA (dY A nodes limbs sp ov kind v k).2.1:=by
 unfold dY;split
 ·exact h
 split
 ·exact h
 ·rename_i h1 h2;exact TY h hI fun j hj=>by rw [dZ1.1 hj];exact dH.1 tW
theorem aDT {A:aC} (h:iA A) (hI:fP V nodes A sp'):iA (cX A nodes limbs sp ov X).2.1:=by
 unfold cX mY;split
 ·exact h
 split
 ·exact h
 ·exact TY h hI fun j hj=>by cases hj
theorem aQA {A:aC} (h:iA A) (hI:fP V nodes A sp'):iA (cR A nodes limbs sp ov kind ks).2.1:=by
 unfold cR;split
 ·exact h
 split
 ·exact h
 split
 ·exact h
 ·exact UF h hI
theorem aRL {A:aC} (h:iA A) (hI:fP V nodes A sp'):iA (jQ A nodes limbs sp ov ids m).2.1:=by
 unfold jQ;split
 ·exact aDT h hI
 split
 ·exact UF h hI
 split
 ·exact UF h hI
 split
 ·exact UM h hI
 ·exact UM h hI
theorem aAW {V:List Int} {nodes limbs:Int}:∀{l:List dO} {s:St} {j:Nat},mJ V nodes s j→(∀m∈l,jM V m.x)→iA s.A→iA (jY nodes limbs s l).A
 | [],s,j,_,_,h=>h
 | m::l,s,j,hs,hl,h=>aAW (l:=l) (s:=kS nodes limbs s m) (hs.step (limbs:=limbs) (hl m (kZ1 ..))) (fun x hx=>hl x (lZ1 _ hx)) (aRL (ids:=s.ids) (m:=m) h hs.inv)
theorem aSF {A:aC}:u∈eF A N↔(u∈AP N.t∨∃k∈N.kids,u∈A.free.getD k.toNat [])∧(7≤N.kind→u≠N.var):=by
 have hr:u∈dB A N↔u∈AP N.t∨∃k∈N.kids,u∈A.free.getD k.toNat []:=by
  unfold dB AP;rw [jZ1,fZ3]
 unfold eF;split
 ·rename_i h7;unfold without;rw [kZ3,cL,hr];simp [h7]
 ·rename_i h7;rw [cL,hr];exact⟨fun q=>⟨q,fun h=>absurd h h7⟩,fun q=>q.1⟩
theorem aJH {A:aC} (h:iA A) (hB:Below A.nodes) {u:Int}:∀(n:Nat) (x:Int),x.toNat<n→0≤x→x<(A.nodes.length:Int)→(u∈A.free.getD x.toNat []↔FrI A.nodes u x)
 | 0,_,h,_,_=>zZ
 | n+1,x,hn,h0,h1=>by
  rw [(h x.toNat zZ).1,aSF,WZ];refine and_congr (or_congr Iff.rfl (exists_congr fun k=>and_congr_right fun hk=>?_)) Iff.rfl;have:=hB.kid h0 h1 hk;exact aJH h hB n k zZ this.1 zZ
theorem aXJ {A:aC} (h:iA A) (hB:Below A.nodes) (hx:0≤x∧x<(A.nodes.length:Int)):u∈A.free.getD x.toNat []↔FrI A.nodes u x:=aJH h hB (x.toNat+1) x (Nat.lt_succ_self _) hx.1 hx.2
end
section
variable {nodes limbs sp ov kind v x o0:Int} {ks V W:List Int} {xs:List (Bool × List Nat)} {f:aY→aY} {Q:aC→Int→Int→Prop} {A0:aC} {p:Int × Int} {N:aS} {X:aY} {U:aV} {c:Bool}
theorem TG {u v:Int} (h:u≠v):∀l:aM,bD (dQ v l) u=bD l u
 | []=>rfl
 | p::l=>by
  unfold dQ;rw [List.filter_cons];by_cases e:p.1=v
  ·rw [if_neg rJ];show bD (dQ v l) u=(if p.1=u then p.2 else 0)+bD l u
   rw [if_neg zZ,TG h l];omega
  ·rw [if_pos rJ];show (if p.1=u then p.2 else 0)+bD (dQ v l) u=(if p.1=u then p.2 else 0)+bD l u
   rw [TG h l]
theorem aVP {T:aV} (hp:p∈(iX T v U).parts):(p.1∈AP T∧p.1≠v)∨p.1∈AP U:=by
 have h1:=((CF (mulL 1 (bC ⟨dQ v T.parts,T.k⟩).parts++mulL (bD T.parts v) U.parts)).mem p).1 hp;rw [SK,OD,OD] at h1;by_cases hu:bD U.parts p.1=0
 ·refine .inl ?_;rw [hu,Int.mul_zero,Int.add_zero,Int.one_mul] at h1;have h2:bD (bC ⟨dQ v T.parts,T.k⟩).parts p.1≠0:=by rw [←h1.1];exact h1.2
  obtain ⟨q,hq,hqe⟩:=CO h2;have h3:=((CF (dQ v T.parts)).mem q).1 hq;have h4:bD (dQ v T.parts) p.1≠0:=by rw [←hqe,←h3.1];exact h3.2
  obtain ⟨r,hr,hre⟩:=CO h4;have h5:p.1≠v:=by
   have:=(kZ3.1 hr).2;rw [←hre];simpa using this
  rw [TG h5] at h4;exact⟨TS.2 h4,h5⟩
 ·exact .inr (TS.2 hu)
theorem aCG (b:Bool):(eA b).kind=0∨(eA b).kind=1:=by unfold eA;simp only;split<;>simp
theorem aSX (A:aY):(bJ A).2.kind=0∨(bJ A).2.kind=1∨((bJ A).1=0∧2≤(bJ A).2.kind):=by
 by_cases h0:A.kind=0∨A.kind=1
 ·rw [eH h0];simp only;omega
 by_cases h2:A.kind=2
 ·rw [CG h2];simp only;unfold iG;split
  ·exact sK
  ·simp
 by_cases h3:A.kind=3∨A.kind=4
 ·rw [oJ h3];unfold jN;split
  ·simp
  ·simp only;unfold cC;split
   ·exact sK
   split
   ·exact sK
   split
   ·exact sK
   ·refine .inr (.inr ⟨trivial,?_⟩);simp only;split<;>omega
 ·rw [DK zZ zZ h2 zZ zZ];simp
theorem aQR (A:aY):(bJ (bJ A).2).1=0:=by
 rcases aSX A with h|h|⟨h1,h2⟩
 ·rw [eH (.inl h)]
 ·rw [eH (.inr h)]
 ·rw [aBS h1 h2];exact h1
theorem aWS (X:aY) (v:Int) (U:aV):(bJ (gF X v U)).1=0:=by
 unfold gF;split
 ·rw [eH (.inl rfl)]
 ·exact aQR _
theorem UD {A:aC} (h:(cU A nodes limbs sp ov N xs).1.2≠0):(cU A nodes limbs sp ov N xs).2.2.2=(cU A nodes limbs sp ov N xs).1.2:=by
 unfold cU at h⊢;cases hk:fK A.nodes (bB N) with
 | some i=>rw [hk] at h;exact absurd rfl h
 | none=>
  rw [hk] at h;simp only [] at h⊢;by_cases he:(dN nodes limbs sp ov xs).2.2=0
  ·rw [if_pos he] at h;exact absurd rfl h
  ·rw [if_neg he];exact (aHT he).2
theorem aTB {A:aC} (h5:kind=5∨kind=6) (hk:∀k∈ks,0≤k∧k<(A.nodes.length:Int)) (h:(dW A nodes limbs sp ov kind ks).1.2≠0):(dW A nodes limbs sp ov kind ks).2.2.2=(dW A nodes limbs sp ov kind ks).1.2:=by
 have ha:ks.all (fE A)=true:=kZ2.2 fun k q=>dH.2 (hk k q);rcases Nat.lt_trichotomy (cM ks).length 1 with hl|hl|hl
 ·rw [EJ h5 ha zZ] at h;exact absurd rfl h
 ·rw [EM h5 ha hl] at h;exact absurd rfl h
 ·rw [EH h5 ha hl] at h⊢;exact UD h
theorem aQE {A:aC} (hB:Below A.nodes) (h5:kind=5∨kind=6) (hk:∀k∈ks,0≤k∧k<(A.nodes.length:Int)) (h:(cR A nodes limbs sp ov kind ks).1.2≠0):(cR A nodes limbs sp ov kind ks).2.2.2=(cR A nodes limbs sp ov kind ks).1.2:=by
 have ha:ks.all (fE A)=true:=kZ2.2 fun k q=>dH.2 (hk k q);by_cases hm:gP kind∈jV A kind ks
 ·rw [KC ha hm] at h;exact absurd rfl h
 cases hcl:jU A kind (gL A kind (fU A kind ks)) (gL A kind (fU A kind ks)).length
 ·rw [JW ha hm hcl] at h⊢;refine aTB h5 (fun k hkm=>?_) h;obtain ⟨y,hy,hxy⟩:=KO hkm;have h1:=hk y hy;have:=KJ hB h1.1 h1.2 hxy;omega
 ·rw [JN ha hm hcl] at h;exact absurd rfl h
theorem aSI {A:aC} {k:Int} (h7:kind=7∨kind=8) (hk:0≤k∧k<(A.nodes.length:Int)) (h:(dY A nodes limbs sp ov kind v k).1.2≠0):(dY A nodes limbs sp ov kind v k).2.2.2=(dY A nodes limbs sp ov kind v k).1.2:=by
 rw [IJ h7 (dH.2 hk)] at h⊢;exact UD h
theorem aQM {A:aC} (hX:(bJ X).1=0) (h:(cX A nodes limbs sp ov X).1.2≠0):(cX A nodes limbs sp ov X).2.2.2=(cX A nodes limbs sp ov X).1.2:=by
 unfold cX at h⊢;obtain ⟨⟨e,B⟩,hr⟩:∃r,r=bJ X:=⟨_,rfl⟩;rw [←hr] at h hX⊢;obtain rfl:e=0:=hX;by_cases hkd:B.kind≤1
 ·rw [BD hkd] at h;exact absurd rfl h
 ·rw [AA hkd] at h⊢;exact UD h
theorem TM {A:aC} (h:ov≠0):(cU A nodes limbs sp ov N xs).2.2.2=ov:=by
 unfold cU;cases fK A.nodes (bB N) with
 | some i=>rfl
 | none=>
  simp only [];have e:dN nodes limbs sp ov xs=(sp,ov,ov):=by unfold dN;rw [if_neg h]
  rw [e];split<;>rfl
theorem aOO {A:aC} (h:ov≠0):(dW A nodes limbs sp ov kind ks).2.2.2=ov:=by
 unfold dW;split
 ·rfl
 split
 ·rfl
 split
 ·rfl
 split
 ·exact TM h
 ·rfl
theorem aNY {A:aC} (h:ov≠0):(cR A nodes limbs sp ov kind ks).2.2.2=ov:=by
 unfold cR;split
 ·rfl
 split
 ·rfl
 split
 ·rfl
 ·exact aOO h
theorem aPZ {A:aC} {k:Int} (h:ov≠0):(dY A nodes limbs sp ov kind v k).2.2.2=ov:=by
 unfold dY;split
 ·rfl
 split
 ·rfl
 ·exact TM h
theorem aQH {A:aC} (h:ov≠0):(cX A nodes limbs sp ov X).2.2.2=ov:=by
 unfold cX mY;split
 ·rfl
 split
 ·rfl
 ·exact TM h
theorem aNQ {A:aC} (h:ov≠0):(cQ f nodes limbs A sp ov x ks).2.2.2=ov:=by
 unfold cQ;split
 ·exact aNY h
 split
 ·exact aPZ h
 ·exact aQH h
def aKO (T:kK) (I:aC→Int→Int→Prop) (R:aC→Int→Prop):Prop:=∀{A:aC} {sp ov x:Int} {ks:List Int},I A sp ov→0≤x→x<(A.nodes.length:Int)→(∀k∈ks,R A k)→ks.length=(ndA A x).kids.length→(T A sp ov x ks).1.2≠0→(T A sp ov x ks).2.2.2=(T A sp ov x ks).1.2
theorem aDP {I:aC→Int→Int→Prop} {R:aC→Int→Prop} {W:WSt→Int→(Int × Int) × WSt} {m:Int} {N:Nat} (H:∀s k,WOk I R s→N≤s.A.nodes.length→0≤k→k<m→k<(N:Int)→QW I R k s (W s k).1.2 (W s k).2∧((W s k).1.2≠0→(W s k).2.ov=(W s k).1.2)) :
  ∀(l:List Int) (s:WSt) (out:List Int),WOk I R s→N≤s.A.nodes.length→(∀k∈l,0≤k∧k<m∧k<(N:Int))→(cW W s out l).1.2≠0→(cW W s out l).2.ov=(cW W s out l).1.2
 | [],s,out,hs,_,_,he=>absurd rfl he
 | k::l,s,out,hs,hN,hl,he=>by
  have hk:=hl k (kZ1 ..);obtain ⟨⟨q1,q2,q3,q4⟩,q5⟩:=H s k hs hN hk.1 hk.2.1 hk.2.2;unfold cW at he⊢;by_cases h0:(W s k).1.2=0
  ·rw [if_pos h0] at he⊢;exact aDP (I:=I) (R:=R) (W:=W) (m:=m) (N:=N) H l (W s k).2 (out++[(W s k).1.1]) (q3 h0) (bZ1 hN q2.len) (fun j hj=>hl j (lZ1 _ hj)) he
  ·rw [if_neg h0] at he⊢;exact q5 h0
theorem aCO {T:kK} {I:aC→Int→Int→Prop} {R:aC→Int→Prop} (hT:IQ T I R) (hE:aKO T I R):∀(f:Nat) (s:WSt) (x:Int),WOk I R s→x.toNat<f→0≤x→x<(s.A.nodes.length:Int)→(cJ T f s x).1.2≠0→(cJ T f s x).2.ov=(cJ T f s x).1.2
 | 0,_,_,_,h,_,_,_=>zZ
 | f+1,s,x,hs,hf,h0,h1,he=>by
  cases hc:s.came x with
  | some y=>
   rw [JQ hc] at he;exact absurd rfl he
  | none=>
   have hin:∀k∈(ndA s.A x).kids,0≤k∧k<x∧k<((s.A.nodes.length:Nat):Int):=fun k hk=>by have:=(hT.below hs.1).kid h0 h1 hk;omega
   have hk:=PW (I:=I) (R:=R) (W:=cJ T f) (m:=x) (N:=s.A.nodes.length) hT.mono (fun s' k hs' hN hk0 hkx hkN=>IC hT f s' k hs' zZ hk0 zZ) (ndA s.A x).kids s [] hs (bZ2 _) hin (fun o ho=>by cases ho);have ho:=aDP (I:=I) (R:=R) (W:=cJ T f) (m:=x) (N:=s.A.nodes.length) (fun s' k hs' hN hk0 hkx hkN=>⟨(IC hT f s' k hs' zZ hk0 zZ).1,aCO hT hE f s' k hs' zZ hk0 zZ⟩) (ndA s.A x).kids s [] hs (bZ2 _) hin;obtain ⟨r,hr⟩:∃r,cW (cJ T f) s [] (ndA s.A x).kids=r:=⟨_,rfl⟩;rw [hr] at hk ho;obtain ⟨⟨q1,q2,q3,q4⟩,q5⟩:=hk;by_cases hre:r.1.2=0
   ·obtain ⟨⟨out,e⟩,t⟩:=r;obtain rfl:e=0:=hre;obtain ⟨q6,q7⟩:=q5 rfl;have hlen:x<(t.A.nodes.length:Int):=by have:=q2.len;simp only at this;omega
    rw [KE hc hr] at he⊢;exact hE (x:=x) (ks:=out) q1 h0 hlen q6 (by rw [q2.nd h0 h1];simpa using q7) he
   ·rw [OW hc hr hre];exact ho hre
def BS (V:List Int) (nodes limbs:Int) (A0:aC) (o0:Int) (A:aC) (sp ov:Int):Prop:=FR V nodes limbs A0 A sp ov∧iA A∧(o0≠0→ov=o0)
theorem aPV {sp':Int} {A:aC} (h:iA A) (hI:fP V nodes A sp'):iA (cQ f nodes limbs A sp ov x ks).2.1:=by
 unfold cQ;split
 ·exact aQA h hI
 split
 ·exact UM h hI
 ·exact aDT h hI
theorem bAW (h0:0≤limbs) (hn:nodes≤2000) (hl:limbs≤8) (hV:V.length≤262144) (hf:DW V f):IQ (cQ f nodes limbs) (BS V nodes limbs A0 o0) mM:=by
 have h:=VJ (A0:=A0) h0 hn hl hV hf;exact⟨fun hI q0 q1 q2 q3=>by
  have:=h.step hI.1 q0 q1 q2 q3;exact⟨⟨this.1,aPV hI.2.1 hI.1.1.inv,fun ho=>(aNQ (by rw [hI.2.2 ho];exact ho)).trans (hI.2.2 ho)⟩,this.2⟩,h.mono,h.rng,fun hI=>h.below hI.1⟩
theorem aSS (hf:∀X,(bJ (f X)).1=0):aKO (cQ f nodes limbs) (BS V nodes limbs A0 o0) mM:=fun {A sp ov x ks} hI h0 h1 hks hkl he=>by
 have h:=hI.1.1;unfold cQ at he⊢;by_cases h5:(ndA A x).kind=5∨(ndA A x).kind=6
 ·rw [if_pos h5] at he⊢;exact aQE h.below h5 hks he
 rw [if_neg h5] at he⊢;by_cases h7:(ndA A x).kind=7∨(ndA A x).kind=8
 ·rw [if_pos h7] at he⊢;have:=(h.one h0 h1 h7).1;exact aSI h7 (hks _ (cK 0 zZ)) he
 ·rw [if_neg h7] at he⊢;exact aQM (hf _) he
def QG (v:Int) (W:List Int) (A:aC) (x y:Int):Prop:=(0≤x∧x<(A.nodes.length:Int))∧(0≤y∧y<(A.nodes.length:Int))∧∀u,FrI A.nodes u y→(FrI A.nodes u x∧u≠v)∨u∈W
theorem QG.mono {A A':aC} {y:Int} (h:QG v W A x y) (hB:Below A.nodes) (he:Ext A A'):QG v W A' x y:=by
 obtain ⟨h1,h2,h3⟩:=h;have:=he.len;exact⟨⟨h1.1,zZ⟩,⟨h2.1,zZ⟩,fun u hu=>by rw [aJD he hB h1];exact h3 u ((aJD he hB h2).1 hu)⟩
theorem aEL {A:aC} (h:iA A) (hB:Below A.nodes) (hs:iW A v x=true):(0≤x∧x<(A.nodes.length:Int))∧¬FrI A.nodes v x:=by
 unfold iW at hs;simp only [Bool.and_eq_true,decide_eq_true_eq] at hs;refine ⟨hs.1,fun q=>?_⟩;have:=hs.2;unfold nT at this;rw [decide_eq_true ((aXJ h hB hs.1).2 q)] at this;simp at this
theorem aJM {A:aC} (hq:LV (cQ (fun X=>gF X v U) 2000 8) (BS V 2000 8 A ov) mM Q) (h:bE V 2000 8 A sp) (hW:iA A) (hG:iV A) (hx:0≤x∧x<(A.nodes.length:Int)) (h0:∀u,iW A v u=true→Q A u u) :
  WQ (BS V 2000 8 A ov) mM Q (fC (iW A v) ⟨fun _=>none,A,sp,ov⟩) ∧
  BS V 2000 8 A ov (eJ A 2000 8 sp ov x v U c).2.1 (eJ A 2000 8 sp ov x v U c).2.2.1 (eJ A 2000 8 sp ov x v U c).2.2.2 ∧
  ((eJ A 2000 8 sp ov x v U c).1.2≠0→(c=true∧(eJ A 2000 8 sp ov x v U c).1.2=120)∨(eJ A 2000 8 sp ov x v U c).2.2.2=(eJ A 2000 8 sp ov x v U c).1.2) ∧
  ((eJ A 2000 8 sp ov x v U c).1.2=0→Q (eJ A 2000 8 sp ov x v U c).2.1 x (eJ A 2000 8 sp ov x v U c).1.1):=by
 have hI0:BS V 2000 8 A ov A sp ov:=⟨⟨h,hG,iP.refl A⟩,hW,fun _=>rfl⟩;have hs:WQ (BS V 2000 8 A ov) mM Q (fC (iW A v) ⟨fun _=>none,A,sp,ov⟩):=by
  have hc:∀u y,(fC (iW A v) ⟨fun _=>none,A,sp,ov⟩).came u=some y→y=u∧iW A v u=true:=fun u y hu=>by
   have h1:(if iW A v u then some u else none)=some y:=hu;by_cases hk:iW A v u=true
   ·rw [if_pos hk] at h1;cases h1;exact⟨rfl,hk⟩
   ·rw [if_neg hk] at h1;cases h1
  refine ⟨⟨hI0,fun u y hu=>?_⟩,fun u y hu=>?_⟩
  ·obtain ⟨rfl,hk⟩:=hc u y hu;exact (aEL hW h.below hk).1
  ·obtain ⟨rfl,hk⟩:=hc u y hu;exact h0 _ hk
 refine ⟨hs,?_⟩;have h1:=XF hq (x.toNat+1) _ x hs zZ hx.1 hx.2;have h2:=aCO hq.ok (aSS (fun X=>aWS X v U)) (x.toNat+1) _ x hs.1 zZ hx.1 hx.2;have h3:=(IC hq.ok (x.toNat+1) _ x hs.1 zZ hx.1 hx.2).1.1;unfold eJ;rw [if_neg (by rw [dH.2 hx];simp)];cases c
 ·rw [if_neg zW];obtain ⟨r,hr⟩:∃r,cJ (cQ (fun X=>gF X v U) 2000 8) (x.toNat+1) (fC (iW A v) ⟨fun _=>none,A,sp,ov⟩) x=r:=⟨_,rfl⟩;rw [hr] at h1 h2 h3⊢;unfold AB;simp only;refine ⟨h3,?_⟩;by_cases he:r.1.2=0
  ·rw [if_neg sI];simp only;exact⟨fun q=>absurd rfl q,fun _=>(h1 he).2.2⟩
  ·rw [if_pos he];simp only;exact⟨fun _=>.inr (h2 he),fun q=>absurd q he⟩
 ·rw [if_pos rfl];exact⟨hI0,fun _=>.inl ⟨rfl,rfl⟩,fun q=>by simp at q⟩
end
section
variable {vals va vb:aM} {T U:aV} {v m x:Int} {p:Int × Int} {X:aY} {V:List Int} {b:Bool}
theorem SH (v m:Int) (vals:aM) (u:Int):valueOf ((v,m)::vals) u=if v=u then some m else valueOf vals u:=by
 unfold valueOf;by_cases h:v=u
 ·rw [if_pos h,List.find?_cons_of_pos (by simp [h])];rfl
 ·rw [if_neg h,List.find?_cons_of_neg (by simp [h])]
theorem aWD (v m:Int) (vals:aM) (u:Int):gM ((v,m)::vals) u=if v=u then m else gM vals u:=by
 unfold gM;rw [SH];split<;>rfl
theorem aHV (v m:Int) (vals:aM):∀l:aM,fD (gM ((v,m)::vals)) l=fD (gM vals) (dQ v l)+bD l v*m
 | []=>by simp [fD,bD,dQ]
 | p::l=>by
  have ih:=aHV v m vals l;simp only [fD,bD];rw [aWD,ih];by_cases e:v=p.1
  ·rw [if_pos e,if_pos e.symm,show dQ v (p::l)=dQ v l by unfold dQ;rw [List.filter_cons,if_neg rJ],Int.add_mul];omega
  ·rw [if_neg e,if_neg (fun h=>e h.symm),show dQ v (p::l)=p::dQ v l by unfold dQ;rw [List.filter_cons,if_pos (by simp;exact fun h=>e h.symm)]];simp only [fD];rw [Int.zero_add];omega
theorem aTT (hm:m=bZ (gM vals) U):bZ (gM vals) (iX T v U)=bZ (gM ((v,m)::vals)) T:=by
 unfold iX;rw [aDZ,EG,←hm,Int.one_mul];unfold bZ;rw [aHV];simp only;omega
theorem aVH (hT:dA ((v,m)::vals) T.parts) (hU:dA vals (dR U.parts)):dA vals (iX T v U).parts:=fun p hp=>by
 rcases aVP hp with ⟨h,hv⟩|h
 ·obtain ⟨q,hq,hqe⟩:=CO (TS.1 h);have h1:=hT q hq;rw [hqe,SH,if_neg (fun e=>hv e.symm)] at h1;exact h1
 ·obtain ⟨q,hq,hqe⟩:=iZ2.1 h;have h1:=hU q hq;rw [hqe] at h1;exact h1
theorem aWO {A:aY} (h:(bJ A).1=0):(bJ A).2.kind=3∨(bJ A).2.kind=4→0<(bJ A).2.d:=by
 have htr:∀b,¬((eA b).kind=3∨(eA b).kind=4):=fun b=>by have:=aCG b;omega
 by_cases h0:A.kind=0∨A.kind=1
 ·rw [eH h0];intro q;simp only at q;omega
 by_cases h2:A.kind=2
 ·rw [CG h2];simp only;unfold iG;split
  ·exact qW
  ·intro q;simp only at q;omega
 by_cases h3:A.kind=3∨A.kind=4
 ·rw [oJ h3] at h⊢;unfold jN at h⊢;by_cases hd:A.d=0
  ·rw [if_pos hd] at h;simp at h
  ·rw [if_neg hd];simp only;unfold cC;split
   ·exact qW
   split
   ·exact qW
   split
   ·exact qW
   ·exact fun _=>GV zZ
 ·rw [DK zZ zZ h2 zZ zZ] at h;simp at h
theorem aYH {A:aY} (hk:0≤A.kind∧A.kind≤4) (hd:A.kind=3∨A.kind=4→0<A.d):(bJ A).1=0:=by
 by_cases h0:A.kind=0∨A.kind=1
 ·rw [eH h0]
 by_cases h2:A.kind=2
 ·rw [CG h2]
 ·have h3:A.kind=3∨A.kind=4:=zZ;rw [oJ h3];unfold jN;rw [if_neg (by have:=hd h3;omega)]
theorem bBD (hm:m=bZ (gM vals) U) (h:bJ X=(0,X)) (hd:X.kind=3∨X.kind=4→0<X.d) (hk:dA ((v,m)::vals) X.t.parts) (hU:dA vals (dR U.parts)) (hkd:0≤X.kind∧X.kind≤4) :
  dA vals (gF X v U).t.parts∧soA (gM vals) (gF X v U)=soA (gM ((v,m)::vals)) X∧((gF X v U).kind=3∨(gF X v U).kind=4→0<(gF X v U).d):=by
 have h0:(bJ ⟨X.kind,X.d,iX X.t v U⟩).1=0:=aYH (A:=⟨X.kind,X.d,iX X.t v U⟩) hkd hd;have h1:=aHO (vals:=vals) (X:=⟨X.kind,X.d,iX X.t v U⟩) h0 hd (aVH hk hU);have e:gF X v U=(bJ ⟨X.kind,X.d,iX X.t v U⟩).2:=by
  unfold gF;rw [h,if_neg zW]
 rw [e];refine ⟨h1.1,h1.2.trans ?_,aWO h0⟩;unfold soA;simp only;rw [aTT hm];rfl
theorem aCN {va vb:aM}:∀{l:aM} {s:Int},(∀p∈l,valueOf va p.1=valueOf vb p.1)→iC va l s=iC vb l s
 | [],_,_=>rfl
 | p::l,s,h=>by
  have h1:=h p (kZ1 ..);simp only [iC];rw [h1];cases valueOf vb p.1 with
  | none=>rfl
  | some x=>exact aCN fun q hq=>h q (lZ1 _ hq)
theorem aPY (h:bJ X=(0,X)) (hn:fF X.t.parts) (hv:∀p∈X.t.parts,valueOf va p.1=valueOf vb p.1):iH va X=iH vb X:=by
 unfold iH;rw [h,if_pos rfl,if_pos rfl];simp only;rw [eE hn,aCN hv]
theorem aQK (hn:fF T.parts) (hp:p∈T.parts):p.1∈AP T:=by
 unfold AP;rw [MQ hn];exact iZ2.2 ⟨p,hp,rfl⟩
theorem aAP {V:List Int} {nodes limbs sp:Int} {va vb:aM} {A:aC} (h:bE V nodes limbs A sp):∀(f:Nat) (x:Int),0≤x→x<(A.nodes.length:Int)→(∀u,FrI A.nodes u x→valueOf va u=valueOf vb u)→iT va A.nodes f x=iT vb A.nodes f x
 | 0,_,_,_,_=>rfl
 | f+1,x,h0,h1,hv=>by
  have hkd:=h.kinds h0 h1;have hn:ndA A x=A.nodes.getD x.toNat aP:=rfl;simp only [iT];split
  ·rfl
  split
  ·rename_i h7 h5;refine JU fun k hk=>?_;have:=h.below.kid h0 h1 hk;exact aAP h f k this.1 zZ fun u hu=>hv u (.kid hk hu fun h8=>zZ)
  ·rename_i h7 h5;have h4:(ndA A x).kind≤4:=by rw [hn] at hkd⊢;omega
   obtain ⟨q1,q2,-⟩:=h.LX ⟨h0,h1⟩ h4;rw [hn] at q1 q2;have:=aPY (va:=va) (vb:=vb) q1 q2 fun p hp=>hv p.1 (.here (aQK q2 hp) fun h8=>by rw [hn] at h4;omega);rw [this]
theorem Tr.bCH {nodes limbs sp:Int} {A:aC} (h:bE V nodes limbs A sp) (hx:0≤x∧x<(A.nodes.length:Int)) (hv:∀u,FrI A.nodes u x→valueOf va u=valueOf vb u) (ht:Tr va A x b):Tr vb A x b:=by
 unfold Tr at ht⊢;rw [←aAP h _ x hx.1 hx.2 hv];exact ht
end
section
variable {V ks:List Int} {vals:aM} {nodes limbs sp v m ov x:Int} {U:aV} {Lu nu:Nat} {b:Bool} {A0:aC} {X:aY}
def nZ (t:Option Bool) (c:Nat) (z:Int):Option (Bool × Int):=match t with
 | none=>none
 | some b=>if (c:Int)≤z then some (b,z-c) else none
theorem aDA {F:Int→Int→Option (Bool × Int)} {T:Int→Option Bool} {c:Int→Nat} {kind:Int}:∀{l:List Int} {out:Bool} {left:Int},0≤left→(∀k∈l,∀z,F k z=nZ (T k) (c k) z)→(∀k∈l,1≤c k)→gX F kind l out left=nZ (kD T kind l out) ((l.map fun k=>1+c k).sum) left
 | [],out,left,h0,_,_=>by
  simp only [gX,kD,nZ,List.map_nil,List.sum_nil];rw [if_pos zZ];simp
 | k::l,out,left,h0,hF,hc=>by
  simp only [gX,kD,dZ2,dZ3];rw [hF k (kZ1 ..)];have h1:=hc k (kZ1 ..);cases hk:T k with
  | none=>rfl
  | some b=>
   simp only [nZ];by_cases hle:(c k:Int)≤left-1
   ·rw [if_pos hle];simp only;rw [aDA (F:=F) (T:=T) (c:=c) zZ (fun j hj=>hF j (lZ1 _ hj)) fun j hj=>hc j (lZ1 _ hj)];simp only [nZ];cases kD T kind l (if kind=5 then out&&b else out||b) with
    | none=>rfl
    | some d=>
     simp only;by_cases h2:((l.map fun k=>1+c k).sum:Int)≤left-1-c k
     ·rw [if_pos h2,if_pos zZ];simp only [Option.some.injEq,Prod.mk.injEq,true_and];omega
     ·rw [if_neg h2,if_neg zZ]
   ·rw [if_neg hle];simp only;cases kD T kind l (if kind=5 then out&&b else out||b) with
    | none=>rfl
    | some d=>
     simp only;rw [if_neg zZ]
theorem aFD {A:aC} (h:bE V nodes limbs A sp):∀(f:Nat) (x:Int),0≤x∧x<(A.nodes.length:Int)→1≤kP A.nodes f x
 | 0,_,_=>bZ2 _
 | f+1,x,hx=>by
  simp only [kP];split
  ·rename_i h5;have h2:=h.XL hx h5;have:=IW (f:=fun k=>1+kP A.nodes f k) (cK 0 (show 0<(A.nodes.getD x.toNat aP).kids.length from by have:2≤(A.nodes.getD x.toNat aP).kids.length:=h2;omega));omega
  ·exact bZ2 _
theorem aAX {V:List Int} {nodes limbs sp:Int} {vals:aM} {A:aC} (h:bE V nodes limbs A sp):∀(f:Nat) (x left:Int),0≤x∧x<(A.nodes.length:Int)→jP vals A.nodes f x left=nZ (iT vals A.nodes f x) (kP A.nodes f x) left
 | 0,_,_,_=>rfl
 | f+1,x,left,hx=>by
  have hp:=aFD h (f+1) x hx;simp only [kP] at hp;simp only [jP,iT,kP];by_cases h7:(A.nodes.getD x.toNat aP).kind=7∨(A.nodes.getD x.toNat aP).kind=8
  ·rw [if_pos (h7.imp id .inl),if_pos h7];rfl
  rw [if_neg h7];by_cases hl:left≤0
  ·rw [if_pos (.inr (.inr hl))];unfold nZ;split
   ·rfl
   ·rw [if_neg zZ]
  rw [if_neg zZ];by_cases h5:(A.nodes.getD x.toNat aP).kind=5∨(A.nodes.getD x.toNat aP).kind=6
  ·rw [if_pos h5,if_pos h5,if_pos h5];exact aDA zZ (fun k hk z=>by
    have:=h.below.kid hx.1 hx.2 hk;exact aAX h f k z ⟨this.1,zZ⟩) fun k hk=>by
    have:=h.below.kid hx.1 hx.2 hk;exact aFD h f k ⟨this.1,zZ⟩
  ·rw [if_neg h5,if_neg h5,if_neg h5];split
   ·simp only [nZ];rw [if_pos zZ];rfl
   ·rfl
theorem aDQ {A:aC} (h:bE V nodes limbs A sp) {left:Int} (hx:0≤x∧x<(A.nodes.length:Int)):jP vals A.nodes (x.toNat+1) x left=nZ (iT vals A.nodes (x.toNat+1) x) (dI A x) left:=aAX h _ x left hx
theorem Tr.noQ {V:List Int} {nodes limbs sp:Int} {vals:aM} {A:aC} (h:bE V nodes limbs A sp):∀(n:Nat) (x:Int),x.toNat<n→0≤x∧x<(A.nodes.length:Int)→Kn vals A x→NoQ A.nodes x
 | 0,_,hn,_,_=>zZ
 | n+1,x,hn,hx,hk=>by
  have hkd:=h.kinds hx.1 hx.2;obtain ⟨b,hb⟩:=hk;have h7:¬((ndA A x).kind=7∨(ndA A x).kind=8):=fun q=>aHF q hb;refine .mk (by show (ndA A x).kind<7;omega) fun k hkm=>?_;have hkm':k∈(ndA A x).kids:=hkm;have hr:=h.below.kid hx.1 hx.2 hkm;by_cases h5:(ndA A x).kind=5∨(ndA A x).kind=6
  ·exact Tr.noQ h n k zZ ⟨hr.1,zZ⟩ (QE h.below hx h5 ⟨b,hb⟩ k hkm')
  ·rw [h.none hx.1 hx.2 zZ] at hkm';cases hkm'
theorem aZQ {va vb:aM} {A:aC} (h0:0≤limbs) (h:bE V nodes limbs A sp) (hx:0≤x∧x<(A.nodes.length:Int)) (h5:(ndA A x).kind=5∨(ndA A x).kind=6) (hks:Cov (fun k y=>(0≤y∧y<(A.nodes.length:Int))∧∀b,Tr va A k b→Tr vb A y b) (ndA A x).kids ks) (he:(cR A nodes limbs sp ov (ndA A x).kind ks).1.2=0) (hb':Tr va A x b):Tr vb (cR A nodes limbs sp ov (ndA A x).kind ks).2.1 (cR A nodes limbs sp ov (ndA A x).kind ks).1.1 b:=by
 have hkk:=QE h.below hx h5 hb'.kn;have htk:=(QJ h.below hx h5 hkk).2;have hkl:KnL vb A ks:=fun y hy=>by
  obtain ⟨k,hk,q⟩:=hks.1 y hy;obtain ⟨d,hd⟩:=hkk k hk;exact⟨q.1,_,q.2 d hd⟩
 have hs:=aQC (ov:=ov) h0 h h5 hkl he;have hall:oC vb A (ndA A x).kind ks↔Tr va A x (decide ((ndA A x).kind=5)):=by
  rw [htk];unfold oC;constructor
  ·intro q k hk;obtain ⟨y,hy,hq⟩:=hks.2 k hk;obtain ⟨d,hd⟩:=hkk k hk;have:=Tr.same (hq.2 d hd) (q y hy);rw [←this];exact hd
  ·intro q y hy;obtain ⟨k,hk,hq⟩:=hks.1 y hy;exact hq.2 _ (q k hk)
 have hs2:=hs.2.2.trans hall;by_cases e:b=decide ((ndA A x).kind=5)
 ·rw [e] at hb'⊢;exact hs2.2 hb'
 ·have e2:b=!decide ((ndA A x).kind=5):=aYG e;rw [e2];refine hs.2.1.or _ fun q=>?_;rw [Bool.not_not] at q;exact e (Tr.same hb' (hs2.1 q))
theorem aTG {A:aC} (h:bE V nodes limbs A sp) (hX:jM V X) (he:(cX A nodes limbs sp ov X).1.2=0):dI (cX A nodes limbs sp ov X).2.1 (cX A nodes limbs sp ov X).1.1=1:=by
 have hb:=nJ (k:=X.kind) hX.1 hX.2 zY;unfold cX at he⊢;obtain ⟨k,d,⟨l,z⟩⟩:=X;simp only at hb he⊢;obtain ⟨⟨e,B⟩,hr⟩:∃r,r=bJ ⟨k,d,⟨l,z⟩⟩:=⟨_,rfl⟩;rw [←hr] at hb he⊢;simp only at hb;have hkd:=hb.kind;by_cases h0:e=0
 ·subst h0;by_cases hk:B.kind≤1
  ·rw [BD hk];simp only;have hl:=h.low (i:=B.kind.toNat) zZ;exact KI (by rw [show ndA A B.kind=A.nodes.getD B.kind.toNat aP from rfl,hl];simp only;omega)
  ·rw [AA hk] at he⊢;obtain ⟨q1,q2,q3⟩:=DJ h.inv (JJ (A:=A) hb zZ).form he;have q4:ndA (cU A nodes limbs sp ov (gH B) ((jD B).map lH)).2.1 (cU A nodes limbs sp ov (gH B) ((jD B).map lH)).1.1=gH B:=q3;exact KI (by rw [q4];simp only [gH];omega)
 ·exact sO
theorem aTA {kind k:Int} {A:aC} (h:bE V nodes limbs A sp) (h7:kind=7∨kind=8) (he:(dY A nodes limbs sp ov kind v k).1.2=0):dI (dY A nodes limbs sp ov kind v k).2.1 (dY A nodes limbs sp ov kind v k).1.1=1:=by
 cases ha:fE A k
 ·rw [KS h7 ha] at he;exact absurd he zW
 have e:=IJ (nodes:=nodes) (limbs:=limbs) (sp:=sp) (ov:=ov) (v:=v) h7 ha;rw [e] at he⊢;obtain ⟨q1,q2,q3⟩:=DJ h.inv (N:=⟨kind,0,bK,v,[k]⟩) ⟨yT,yT,fun h4=>xL,fun _=>⟨rfl,rfl⟩,fun h5=>sV⟩ he;have q4:ndA (cU A nodes limbs sp ov ⟨kind,0,bK,v,[k]⟩ []).2.1 (cU A nodes limbs sp ov ⟨kind,0,bK,v,[k]⟩ []).1.1=⟨kind,0,bK,v,[k]⟩:=q3;exact KI (by rw [q4];simp only;omega)
theorem WK {Q:Int→Int→Prop} {f g:Int→Nat} (hQ:∀x y,Q x y→f y≤g x):∀{l m:List Int},kN Q l m→(m.map fun y=>1+f y).sum≤(l.map fun x=>1+g x).sum
 | [],[],_=>bZ2 _
 | x::l,y::m,h=>by
  have h1:=hQ x y h.1;have h2:=WK hQ h.2;simp only [dZ2,dZ3];omega
 | [],_::_,h=>h.elim
 | _::_,[],h=>h.elim
def QP (v m:Int) (vals:aM) (A:aC) (x y:Int):Prop:=(0≤x∧x<(A.nodes.length:Int))∧(0≤y∧y<(A.nodes.length:Int))∧dI A y≤dI A x∧∀b,Tr ((v,m)::vals) A x b→Tr vals A y b
theorem QP.mono {A A':aC} {y:Int} (h:QP v m vals A x y) (hB:Below A.nodes) (he:Ext A A'):QP v m vals A' x y:=by
 obtain ⟨h1,h2,h3,h4⟩:=h;have:=he.len;exact⟨⟨h1.1,zZ⟩,⟨h2.1,zZ⟩,by rw [oK he hB h1,oK he hB h2];exact h3,fun b hb=>(Tr.ext he hB h2 _).2 (h4 b ((Tr.ext he hB h1 _).1 hb))⟩
theorem XT {o0:Int} (h0:0≤limbs) (hn:nodes≤2000) (hl:limbs≤8) (hV:V.length≤262144) (hU:cB Lu nu V U) (hLu:Lu≤2348576) (hnu:nu≤16000000) (hm:m=bZ (gM vals) U) (hUk:dA vals (dR U.parts)):LV (cQ (fun X=>gF X v U) nodes limbs) (BS V nodes limbs A0 o0) mM (QP v m vals):=by
 have hf:=NS (v:=v) hV hU hLu hnu;refine ⟨bAW h0 hn hl hV hf,fun {A sp ov x ks} hI hx hks he hB hext=>?_,fun q hB k=>q.mono hB k⟩;have h:=hI.1.1;have hxr:∀{A':aC},Ext A A'→0≤x∧x<(A'.nodes.length:Int):=fun q=>⟨hx.1,by have:=q.len;omega⟩;unfold cQ at he hB hext⊢;by_cases h5:(ndA A x).kind=5∨(ndA A x).kind=6
 ·rw [if_pos h5] at he hext⊢;refine ⟨hxr hext,aBU h h5 he,?_,fun b hb=>?_⟩
  ·rw [oK hext h.below hx,GR h.below hx h5];have h1:=WK (f:=dI A) (g:=dI A) (fun x y q=>q.2.2.1) hks;have h2:=h.XL hx h5;have h3:1≤(ks.map fun k=>1+dI A k).sum:=by
    obtain ⟨y,hy,-⟩:=hks.cov.2 _ (cK 0 (show 0<(ndA A x).kids.length by omega));have:=IW (f:=fun k=>1+dI A k) hy;omega
   exact bZ1 (aTD h0 h h5 h3 he) h1
  ·refine aZQ h0 h hx h5 ⟨fun y hy=>?_,fun k hk=>?_⟩ he ((Tr.ext hext h.below hx b).1 hb)
   ·obtain ⟨k,hk,-,q2,-,q4⟩:=hks.cov.1 y hy;exact⟨k,hk,q2,q4⟩
   ·obtain ⟨y,hy,-,q2,-,q4⟩:=hks.cov.2 k hk;exact⟨y,hy,q2,q4⟩
 rw [if_neg h5] at he hB hext⊢;by_cases h7:(ndA A x).kind=7∨(ndA A x).kind=8
 ·rw [if_pos h7] at he hext⊢;refine ⟨hxr hext,aEN h he,?_,fun b hb=>absurd ((Tr.ext hext h.below hx b).1 hb) (aHF h7)⟩;rw [oK hext h.below hx,aTA h h7 he];exact aGS h hx
 ·rw [if_neg h7] at he hB hext⊢;have hkd:=h.kinds hx.1 hx.2;have h4:(ndA A x).kind≤4:=zZ;obtain ⟨s1,s2,s3⟩:=h.small hl hV hx.1 hx.2;have hX:=hf ⟨(ndA A x).kind,(ndA A x).d,(ndA A x).t⟩ s1 s2 s3;have hc:=aEJ h hX (GI (ov:=ov) hX h) he;obtain ⟨f1,f2,f3⟩:=h.LX hx h4;refine ⟨hxr hext,hc.1,?_,fun b hb=>?_⟩
  ·rw [oK hext h.below hx,aTG h hX he];exact aGS h hx
  ·have hb':=(Tr.ext hext h.below hx b).1 hb;have ha:=QC (vals:=(v,m)::vals) h hx h4;have hb2:=Tr.same hb' (ha.2 hb'.kn);have hs:=bBD (vals:=vals) (U:=U) hm f1 f3 (ha.1.1 hb'.kn) hUk ⟨hkd.1,h4⟩;have:=aRW (vals:=vals) h hX hs.2.2 hs.1 he;rw [hs.2.1] at this;rw [hb2];exact this
theorem aJR {u:Int} {A:aC} (h:bE V 2000 8 A sp) (hW:iA A) (hk:iW A v u=true):QP v m vals A u u:=by
 obtain ⟨q1,q2⟩:=aEL hW h.below hk;refine ⟨q1,q1,bZ2 _,fun b hb=>hb.bCH h q1 fun w hw=>?_⟩;rw [SH,if_neg fun e=>q2 (by rw [e];exact hw)]
theorem aVB {sp0:Int} {A:aC} (h:bE V 2000 8 A sp0) (hV:V.length≤262144) (hU:cB Lu nu V U) (hLu:Lu≤2348576) (hnu:nu≤16000000) (hm:m=bZ (gM vals) U) (hUk:dA vals (dR U.parts)):MJ V 2000 8 A (fun X=>gF X v U) (WQ (BS V 2000 8 A ov) mM (QP v m vals)) (fun x=>NoQ A.nodes x∧dI A x≤3000):=by
 have hq:=XT (V:=V) (nodes:=2000) (limbs:=8) (o0:=ov) (A0:=A) (v:=v) zY zY zY hV hU hLu hnu hm hUk;have hin:∀{s:WSt} {x:Int},WQ (BS V 2000 8 A ov) mM (QP v m vals) s→0≤x→x<(A.nodes.length:Int)→x<(s.A.nodes.length:Int):=fun hs q0 q1=>by have:=hs.1.1.1.2.2.ext.len;omega
 refine ⟨fun {n j s t x out} _ hs hxn q0 q1 _ hk=>(aKG hq hs hxn q0 (hin hs q0 q1) hk).1,fun {x k} q0 q1 hz hk=>?_,fun {n s t x} K {out} _ hs hz hxn q0 q1 hk hK h5=>?_⟩
 ·obtain ⟨z1,z2⟩:=hz;refine ⟨z1.opens.2 k hk,?_⟩;by_cases h5:(ndA A x).kind=5∨(ndA A x).kind=6
  ·rw [GR h.below ⟨q0,q1⟩ h5] at z2;have:=IW (f:=fun k=>1+dI A k) hk;omega
  ·have h6:=z1.opens.1;rw [h.none q0 q1 (by have h6':(ndA A x).kind<7:=h6;omega)] at hk;cases hk
 ·have hx:=hin hs q0 q1;obtain ⟨p1,p2⟩:=aKG (j:=(ndA s.A x).kids.length) hq hs hxn q0 hx (by rw [List.take_length];exact hk);rw [List.take_length] at p2;have he:Ext A s.A:=hs.1.1.1.2.2.ext;have he2:Ext A t.A:=p1.1.1.1.2.2.ext;have hnd:ndA s.A x=ndA A x:=he.nd q0 q1;have hnt:ndA t.A x=ndA A x:=he2.nd q0 q1;have hB:Below t.A.nodes:=p1.1.1.1.1.below;have hout:∀k∈out,0≤k∧k<(t.A.nodes.length:Int):=fun k hk=>by
   obtain ⟨_,_,-,q,-⟩:=p2.cov.1 k hk;exact q
  have h1:=aPD hB h5 hout;have h2:=WK (f:=dI t.A) (g:=dI t.A) (fun x y q=>q.2.2.1) p2;have hxt:0≤x∧x<(t.A.nodes.length:Int):=⟨q0,by have:=he2.len;omega⟩;have h3:=GR hB hxt (by rw [hnt,←hnd,hK];exact h5);rw [hnt,oK he2 h.below ⟨q0,q1⟩] at h3;rw [hnd] at h2;have:=hz.2;omega
end
section
variable {V:List Int} {vals ws l:aM} {L x:Nat} {b:Bool} {f:Int→Int} {z:Int} {A0:aC} {T:aV}
theorem aIP {f:Int→Int} {X:Nat}:∀l:aM,(∀p∈l,(p.2*f p.1).natAbs≤X)→(fD f l).natAbs≤l.length*X
 | [],_=>by simp [fD]
 | p::l,h=>by
  have h1:=aIP l (fun q hq=>h q (lZ1 _ hq));have h2:=h p (kZ1 ..);simp only [fD,gZ1,Nat.add_mul,Nat.one_mul];omega
theorem aTQ (h:∀p∈l,eP (p.2*f p.1).natAbs≤L) (hl:l.length≤16777216):eP (fD f l).natAbs≤L+1:=by
 have h1:∀p∈l,(p.2*f p.1).natAbs≤Bs ^ L-1:=fun p hp=>by
  have:=cZ1 (nK (p.2*f p.1).natAbs) (Nat.pow_le_pow_right iI (h p hp));omega
 have h2:=aIP l h1;refine dD ?_;have hp:0<Bs ^ L:=Nat.pow_pos iI
 calc (fD f l).natAbs≤l.length*(Bs ^ L-1):=h2
  _≤16777216*(Bs ^ L-1):=Nat.mul_le_mul_right _ hl
  _<Bs ^ (L+1):=by
   rw [Nat.pow_succ,Nat.mul_comm];have hb:(16777216:Nat)≤Bs:=zY;have h3:(Bs ^ L-1)*16777216≤(Bs ^ L-1)*Bs:=Nat.mul_le_mul_left _ hb;have h4:(Bs ^ L-1)*Bs<Bs ^ L*Bs:=Nat.mul_lt_mul_of_pos_right zZ zY;omega
theorem aSC (h:∀p∈vals,eP p.2.natAbs≤L) (u:Int):eP (gM vals u).natAbs≤L:=by
 unfold gM valueOf;cases hf:vals.find? fun p=>p.1==u with
 | none=>simp [nY]
 | some p=>exact h p (List.mem_of_find?_eq_some hf)
theorem aPP {La Lv n:Nat} (hT:cB La n V T) (hn:n≤16777216) (hv:∀p∈vals,eP p.2.natAbs≤Lv):eP (bZ (gM vals) T).natAbs≤La+Lv+2:=by
 have h1:=aTQ (f:=gM vals) (L:=La+Lv) (l:=T.parts) (fun p hp=>BF (hT.parts p hp) (aSC hv p.1)) (bZ1 hT.len hn);have h2:=dK (fD (gM vals) T.parts) T.k;have h3:=hT.k;unfold bZ;omega
def XW (V:List Int) (ws:aM) (b:Bool) (A0:aC) (o0:Int) (i:Nat) (x:Int) (A:aC) (sp ov:Int):Prop:=
 bE V 2000 8 A sp∧iA A∧iV A∧iP A0 A∧(0≤x∧x<(A.nodes.length:Int))∧dI A x≤3000∧Tr (ws.drop i) A x b∧(o0≠0→ov=o0)
theorem aOJ (h:eP z.natAbs≤L):cB L 0 V ⟨[],z⟩:=⟨bZ2 _,fun p hp=>xC,h,fun p hp=>xC⟩
theorem aSQ {o0:Int} (hV:V.length≤262144) (hw:∀p∈ws,eP p.2.natAbs≤2348576):WG V ws ws.length (XW V ws b A0 o0) (fun _ ov=>ov≠0):=fun i x A sp ov hi hj=>by
 obtain ⟨h,hW,hG,hX,hx,hc,ht,ho⟩:=hj;have hd:ws.drop i=((pth ws i).1,(pth ws i).2)::ws.drop (i+1):=by
  rw [List.drop_eq_getElem_cons hi,iR hi]
 have hz:eP (pth ws i).2.natAbs≤2348576:=by rw [iR hi];exact hw _ (List.getElem_mem _)
 generalize (pth ws i).1=v at *
 generalize (pth ws i).2=z at *
 have hU:cB 2348576 0 V ⟨[],z⟩:=aOJ hz;have hm:z=bZ (gM (ws.drop (i+1))) ⟨[],z⟩:=by simp [bZ,fD]
 have hUk:dA (ws.drop (i+1)) (dR (⟨[],z⟩:aV).parts):=fun p hp=>by
  obtain ⟨q,hq,-⟩:=aDX hp;cases hq
 have hq:=XT (V:=V) (nodes:=2000) (limbs:=8) (o0:=ov) (A0:=A) (v:=v) zY zY zY hV hU (bZ2 _) zY hm hUk;have hlaw:=fun c=>aJM (c:=c) (sp:=sp) (ov:=ov) (x:=x) hq h hW hG hx fun u hk=>aJR h hW hk;rw [hd] at ht;have hno:NoQ A.nodes x:=Tr.noQ h (x.toNat+1) x (Nat.lt_succ_self _) hx ⟨b,ht⟩;refine ⟨⟨h,hG,fun _ s1 s2 _=>aBM s1 s2 hU (bZ2 _) zY,NS hV hU (bZ2 _) zY,_,_,aVB (ov:=ov) h hV hU (bZ2 _) zY hm hUk,(hlaw false).1,hno,hc⟩,fun c hcf=>?_⟩;obtain rfl:=hcf hno;obtain ⟨-,hS,he,hQ⟩:=hlaw false;obtain ⟨r,hr⟩:∃r,eJ A 2000 8 sp ov x v ⟨[],z⟩ false=r:=⟨_,rfl⟩;rw [hr] at hS he hQ⊢;refine ⟨fun h0=>?_,fun h0=>?_⟩
 ·obtain ⟨q1,q2,q3,q4⟩:=hQ h0;have hext:=hS.1.2.2.ext;exact⟨hS.1.1,hS.2.1,hS.1.2.1,hX.trans hS.1.2.2,q2,by rw [oK hext h.below hx] at q3;omega,q4 b ((Tr.ext hext h.below hx b).2 ht),fun hne=>(hS.2.2 (by rw [ho hne];exact hne)).trans (ho hne)⟩
 ·rcases he h0 with ⟨h1,-⟩|h1
  ·cases h1
  ·rw [h1];exact h0
theorem aBK {nodes limbs sp left:Int} {A:aC} (h:bE V nodes limbs A sp) (hx:x<A.nodes.length) (ht:Tr vals A (x:Int) b) (hc:(dI A (x:Int):Int)≤left):jP vals A.nodes (x+1) (x:Int) left=some (b,left-dI A (x:Int)):=by
 have h1:=aDQ (vals:=vals) (left:=left) h (x:=(x:Int)) ⟨zZ,zZ⟩;rw [bZ3] at h1;rw [h1];unfold Tr at ht;rw [bZ3] at ht;rw [ht];simp only [nZ];rw [if_pos hc]
theorem aQF {nodes limbs sp left:Int} {A:aC} {q:Bool × Int} (h:bE V nodes limbs A sp) (hx:x<A.nodes.length) (ht:jP vals A.nodes (x+1) (x:Int) left=some q):Tr vals A (x:Int) q.1∧(dI A (x:Int):Int)≤left:=by
 have h1:=aDQ (vals:=vals) (left:=left) h (x:=(x:Int)) ⟨zZ,zZ⟩;rw [bZ3,ht] at h1;unfold Tr;rw [bZ3];cases hb:iT vals A.nodes (x+1) (x:Int) with
 | none=>rw [hb] at h1;simp [nZ] at h1
 | some b=>
  rw [hb] at h1;simp only [nZ] at h1;split at h1
  ·rename_i hle;cases h1;exact⟨rfl,hle⟩
  ·cases h1
end
theorem aWL:(prog.info? 34).map (fun i=>(i.zero,i.size,i.bytes))=some (some (.agg #[.int .i64 0,.bool false,.slice none 0 0]),3,40):=zX
theorem XO {O M3 M4:Nat→Prop} {V:List Int} {w:World} {g gm i:Nat} {A:aC} {sp:Int} {vals:aM} {av:Option Addr} {nv cv:Nat} (hA:bW O w g gm A) (hI:bE V 2000 8 A sp) (hV:V.length≤262144) (hv:bI M3 M4 w av nv cv vals) (hnv:nv≤1000000000) (hi:i<A.nodes.length) :
  Calls prog 36 #[.pointer (some ⟨g,0,none⟩),.int .i64 (i:Int),.slice av nv cv,.int .i64 3000] w fun e w'=>aGF (jP vals A.nodes (i+1) (i:Int) 3000) w e w':=
 aRO (hI.fine zY zY hV).len (fun _ h=>((hI.fine zY zY hV).sound _ h).size) (fun _ h=>hI.aZP zY hV h) hI.below hnv i 3000 w zY zY hA hv hi
theorem aLF {w:World} {a1 bp ab a5:Option Addr} {n1 c1 mp dp nb cb n5 c5 k1 k2 k3:Nat} {gb:Bool} {l:List dO} {i v:Int} {lb vals:aM} {zb:Int} (hT:Tab w.heap.size w) (h1:nO Nil w a1 n1 c1 l∧5*(lY l).length+l.length≤k1+20) (hi:I64 i) (hv:I64 v) (h4:(bI Nil Nil w bp mp dp lb∧ZAt Nil w gb ab nb cb zb∧nb≤1048576∧∀p∈lb,nU p)∧5*lb.length≤k2) (h5:bI Nil Nil w a5 n5 c5 vals∧5*vals.length+1≤k3∧∀p∈vals,nU p) (hb:k1+k2+k3≤1048576) :
  Calls prog 7 #[.slice a1 n1 c1,.int .i64 i,.int .i64 v,.agg #[.slice bp mp dp,.bool gb,.slice ab nb cb],.slice a5 n5 c5] w fun e w'=>e=.returned (.bool true)∧aA Nil w w':=by
 obtain ⟨V,hV⟩:∃V,V=lY l++lb.map (·.1):=⟨_,rfl⟩;have hVl:V.length≤262144:=by rw [hV,aZ1,hZ1];omega
 have sm1:=h1.1.small (V:=V) (fun v hv=>by rw [hV];exact jZ1.2 (.inl hv)) zZ;have hX1:∀m∈l.take 40,jM V m.x:=fun m hm=>sm1.1 m (cZ3 hm);obtain ⟨s1,e1⟩:∃s,s=jY 2000 8 ⟨gJ,0,0,[0,1]⟩ (l.take 40):=⟨_,rfl⟩;have i0:fP V 2000 gJ 0:=fP.start zY zY;have j1:=(mJ.start (ov:=0) i0).build (limbs:=8) hX1;have hall1:=aCX (V:=V) (nodes:=2000) (limbs:=8) zY (s:=⟨gJ,0,0,[0,1]⟩) fM.start hX1;have hext:=aCT (nodes:=2000) (limbs:=8) (s:=⟨gJ,0,0,[0,1]⟩) (l:=l.take 40);have hfive:=aAT (nodes:=2000) (limbs:=8) (l:=l.take 40) (s:=⟨gJ,0,0,[0,1]⟩) fM.start;have hwell:=aAW (nodes:=2000) (limbs:=8) (l:=l.take 40) (mJ.start (ov:=0) i0) hX1 iA.start;rw [←e1] at j1 hall1 hext hfive hwell;have hS:bE V 2000 8 s1.A s1.sp:=⟨j1.inv,hall1,hext⟩;have hlen42:s1.A.nodes.length≤42:=by have h4:=hfive.2;have h5:(l.take 40).length≤40:=xV;have h6:gJ.nodes.length=2:=rfl;simp only at h4;omega
 have hids2:=j1.two;have hidsl:s1.ids.length≤42:=by have h4:=j1.len;have h5:(l.take 40).length≤40:=xV;omega
 obtain ⟨n,hn⟩:∃n,n=s1.ids.length:=⟨_,rfl⟩;obtain ⟨q,hq⟩:∃q,q=mG i n:=⟨_,rfl⟩;have hqn:q<n:=by rw [hq];exact IE zZ
 obtain ⟨x,hx⟩:∃x,x=s1.ids.getD q 0:=⟨_,rfl⟩;have hxr:0≤x∧x<(s1.A.nodes.length:Int):=by rw [hx];exact j1.ids _ (cK 0 zZ)
 have m1:nO (fun b=>w.heap.size≤b) w a1 n1 c1 l:=h1.1.move (aA.refl Nil w) (fun _ _ h=>h.elim) fun b hb hx=>zZ;have m4:bI (fun b=>w.heap.size≤b) (fun b=>w.heap.size≤b) w bp mp dp lb:=h4.1.1.widen (aA.refl Nil w) (fun _ _ h=>h.elim) fun b hb hx=>zZ;have z4:ZAt (fun b=>w.heap.size≤b) w gb ab nb cb zb:=h4.1.2.1.move (aA.refl Nil w) (fun _ _ h=>h.elim) fun b hb hx=>zZ;have hU:cB 1048576 (lb.length) V ⟨lb,zb⟩:=⟨bZ2 _,fun p hp=>(h4.1.2.2.2 p hp).1,bZ1 (KR h4.1.2.1) h4.1.2.2.1,fun p hp=>by rw [hV];exact jZ1.2 (.inr (iZ2.2 ⟨p,hp,rfl⟩))⟩;have hVi:∀v∈V,I64 v:=fun v hv=>by
  rw [hV] at hv;rcases jZ1.1 hv with hv|hv
  ·exact sm1.2 v hv
  ·obtain ⟨p,hp,rfl⟩:=iZ2.1 hv;exact (h4.1.2.2.2 p hp).2
 have hmp:mp≤16777216:=by have:=eU.len h4.1.1;omega
 have m5:bI (fun b=>w.heap.size≤b) (fun b=>w.heap.size≤b) w a5 n5 c5 vals:=h5.1.widen (aA.refl Nil w) (fun _ _ h=>h.elim) fun b hb hx=>zZ;have hn5:vals.length=n5:=eU.len h5.1;have hn6:n5+1≤1000000∧lb.length≤1000000:=⟨zZ,zZ⟩;have hwee:Wee (bC ⟨lb,zb⟩):=(oH hU zZ).wee zY zZ;have hvs:∀p∈vals,eP p.2.natAbs≤1048576:=fun p hp=>(h5.2.2 p hp).1;have hin:=MX (ov:=s1.ov) (x:=x) (v:=v) hS hfive.1 hlen42 hVl hU zY zZ;have HV:=jJ (aI6 hVl hVi sm1.1 i0 hS hin);have HE:=jJ (aI6 e1 hn hq hqn hx hxr);have HM:=jJ (aI6 m1 m4 z4 hi hmp h4.1.2.2.1);have HG:=jJ (aI7 (iV.raw hS hfive.1 hlen42) hU hwee hvs hn5 hn6 m5);have HW:=jJ hwell;have HT:=jJ hT;have HD:=jJ (aI hids2 hidsl);clear hVi hV hVl sm1 hX1 e1 i0 j1 hall1 hext hfive hwell hS hlen42 hids2 hidsl hn hq hqn hx hxr m1 m4 z4 m5 hn5 hn6 hwee hvs hU hmp hin h1 h4 h5 hb hT hi;have HVV:=jJ hv;clear hv;go_enter func7,ntmps7
 go_upto_region 1 with (fail)
 obtain ⟨w0,e_1,k0,r0⟩:=bx1 w 27 [.slice bp mp dp,.bool gb,.slice ab nb cb];rw [e_1];clear e_1;have H0:=jJ (aI k0 r0);clear k0 r0;go_upto_region 2 with (go_at_call 8;go_loud (refine (aQI (HT.o.eO H0.o.1)).mono ?_);rintro e w1 ⟨rfl,hk1⟩;have H1:=jJ (aI hk1 (H0.o.1.trans hk1));clear hk1)
 go_upto_region 3 with (go_at_call 28;refine (aIB (M:=Nil) (MB.nil _)).mono ?_;rintro e w2 ⟨g,b2,b3,b4,b5,gm,hm,hgm,rfl,r0,r2,r3,r4,r5,hk,h1,h2,h3,h4,h5⟩;have H2:=jJ (Up.start hm hgm r0 r2 r3 r4 r5 hk h1 h2 h3 h4 h5);clear hm hgm r0 r2 r3 r4 r5 hk h1 h2 h3 h4 h5)
 obtain ⟨O,hU⟩:=H2.o;have z1:=H1.o.2.size;have zb1:w.heap.size<w1.heap.size:=(H0.o.2.keep H1.o.1 id).lt;have k02:aA Nil w w2:=H1.o.2.trans hU.keep;have mk2:=HM.o.1.move k02 (M2:=fun b=>w.heap.size≤b) (fun _ _ h=>h.elim) fun _ _ h=>h;have HU:=jJ hU;have HB2:=jJ (aI k02 mk2);clear k02 mk2 hU H2;go_upto_region 4 with (go_at_call 29;go_loud (refine (aOF (B0:=w.heap.size) (M0:=O) HU.o.arena (HT.o.eO HB2.o.1) (fun b hb=>bZ1 z1 (HU.o.low b hb)) (fun _ h=>h) HU.o.mb HU.o.jC HB2.o.2 (fun b hb=>bZ1 z1 (HU.o.low b hb)) HV.o.2.2.2.1 zY HV.o.1 HV.o.2.1 HV.o.2.2.1).mono ?_);rintro e w3 ⟨v3,O3,rfl,h3⟩;rw [←HE.o.1] at h3;obtain ⟨a3,d3,rfl⟩:=h3.own.isSlice;rw [aJ] at h3⊢;have H3:=jJ h3;clear h3)
 rw [show s1.ids.length=n from HE.o.2.1.symm];have z3:=H3.o.keep.size;have u3:Up w1 w3 O3 g gm 2000 8 s1.A s1.sp s1.ov:=⟨H3.o.arena,H3.o.jC.move (aA.refl Nil w3) (fun _ _ h=>h.elim) fun b _ hb=>.inr (.inl hb),fun b hb=>by
  rcases hb with hb|hb
  ·rcases H3.o.down b hb with h|h
   ·exact HU.o.low b (.inl h)
   ·exact bZ1 HU.o.keep.size h
  ·exact HU.o.low b (.inr hb),HU.o.keep.newer H3.o.keep HU.o.low⟩
 have hid3:cE Nil w3 a3 n d3 s1.ids:=by rw [show n=s1.ids.length from HE.o.2.1];exact kG (M:=Nil) H3.o.own (fun _ _ h=>h) rfl
 obtain ⟨ib,io,rfl,ci⟩:=bA hid3 HE.o.2.2.2.1;rw [←HE.o.r4.1] at ci;have ri:(0:Int)≤(q:Int):=zZ;have rj:(q:Int)<(n:Int):=by have:=HE.o.2.2.2.1;omega
 have k03:aA Nil w w3:=H1.o.2.trans u3.keep;have rt:=(H0.o.2.keep (H1.o.1.trans u3.keep) id);have lrt:=rt.lt;obtain ⟨t0,t1,t2⟩:=rt.three;have HP:=jJ (aI3 u3 k03 rt);clear u3 hid3 k03 rt;go_upto_region 5 with (go_at_call 30;refine (OU HM.o.2.2.2.1 (by have:=HE.o.2.2.2.1;omega) (by have:=HE.o.2.1;have:=HD.o.2;omega)).mono ?_;rintro e w4 ⟨rfl,rfl⟩;rw [←HE.o.2.2.1])
 have hev:=aIA (HM.o.2.1.eO HP.o.2.1) (HM.o.2.2.1.gK.eO HP.o.2.1) HM.o.r4.1 (bZ1 HM.o.r5 zY) HG.o.2.2.1 (HG.o.r6.eO HP.o.2.1) tK;obtain ⟨o,ho⟩:∃o,iC vals (bC ⟨lb,zb⟩).parts (bC ⟨lb,zb⟩).k=o:=⟨_,rfl⟩;rw [ho] at hev;have HEV:=jJ (aI hev ho);clear hev ho ci;cases o with
 | none=>
  go_wp2_with (go_at_call 35;refine HEV.o.1.mono ?_;rintro e w4 ⟨⟨g4,a4,m4,c4,rfl,-,-⟩,hk4⟩;rw [show (if (none:Option Int).isSome then (0:Int) else 170)=170 from rfl];have H4:=jJ hk4;clear hk4)
  go_ret
  exact⟨rfl,(HP.o.2.1.trans H4.o).trans kOf⟩
 | some m=>
 go_upto_region 6 with (go_at_call 35;refine HEV.o.1.mono ?_;rintro e w4 ⟨⟨g4,a4,m4,c4,rfl,hz,-⟩,hk4⟩;rw [show (if (some m).isSome then (0:Int) else 170)=0 from rfl];have H4:=jJ (aI (show ZN (Old w3) w4 g4 a4 m4 c4 m from hz) hk4);clear hz hk4)
 obtain ⟨w5,e5,k5,r5⟩:=bx1 w4 25 [.bool g4,.slice a4 m4 c4];rw [e5];clear e5;obtain ⟨x0,x1,-,-⟩:=r5.two;have lr5:=r5.lt;have HK5:=jJ k5;clear k5 r5;go_upto_region 9 with (fail)
 obtain ⟨w6,e6,k6,r6⟩:=bx1 w5 34 [.int .i64 v,.bool g4,.slice a4 m4 c4];rw [e6];clear e6 x0 x1;obtain ⟨b6,hb6⟩:∃b,w5.heap.size=b:=⟨_,rfl⟩;rw [hb6] at r6⊢;have l6:=r6.lt;have hz34:=H4.o.2.size;have hz45:=HK5.o.size;have k36:aA Nil w3 w6:=(H4.o.2.trans HK5.o).trans k6;have k06:aA Nil w w6:=HP.o.2.1.trans k36;obtain ⟨iv,hiv⟩:=info_parts aWL;have hv6:=HG.o.r6.eO k06;have hown6:aL w6 b6 34 3 (.slice (some ⟨b6,0,none⟩) 1 1) [[.int .i64 v,.bool g4,.slice a4 m4 c4]]:=aL.ofRow (by exact r6) zW rfl (bZ2 _) zY;have H6:=jJ (aI6 hv6 hown6 k36 hb6 hiv (HK5.o.trans k6));clear hv6 hown6 k36 k06 hb6 hiv k6 r6;go_upto_region 10 with (at_builtin;go_loud (refine aKW rfl _ _ 35 rfl b6 34 iv (.agg #[.int .i64 0,.bool false,.slice none 0 0]) 3 40 underlying35 H6.o.r4.1.1 H6.o.r4.1.2.1 H6.o.r4.1.2.2.1 H6.o.r4.1.2.2.2 rfl zY (.slice (some ⟨b6,0,none⟩) 1 1) [[.int .i64 v,.bool g4,.slice a4 m4 c4]] rfl H6.o.2.1 rfl H6.o.1 VX (by have:=HG.o.r5.1;simp;omega) (by have:=HG.o.r5.1;simp;omega) zZ ?_);intro v7 w7 ne ho hl hr hk hf;obtain ⟨a7,c7,rfl⟩:=ho.isSlice;have e7:([[Value.int .i64 v,.bool g4,.slice a4 m4 c4]]++ne).length=n5+1:=(by rw [aZ1,hl,Nat.add_comm];rfl);have e8:=e7;rw [e7] at ho⊢;have H7:=jJ (aI5 ho hl hr hk e8);clear ho hl hr hk hf e7 e8)
 have hbown:∀b,Own (.slice (some ⟨b6,0,none⟩) 1 1) b→b=b6:=fun b hb=>by
  have:some b6=some b:=hb;cases this;rfl
 have k67:aA Nil w4 w7:=H6.o.r5.trans' H7.o.2.2.2.1 fun b hb=>.inr (by rw [hbown b hb];have:=H6.o.2.2.2.1;omega);have k37:aA Nil w3 w7:=H4.o.2.trans k67;have k07:aA Nil w w7:=HP.o.2.1.trans k37;have hPlt:∀b,O3 b∨b=gm→b<w3.heap.size∧w1.heap.size≤b:=fun b hb=>⟨hb.elim (HP.o.1.arena.lt b) (fun e=>by rw [e];exact HP.o.1.jC.lt),HP.o.1.low b hb⟩;have hw3w:=HP.o.2.1.size;obtain ⟨ws,hws⟩:∃ws,ws=(v,m)::vals:=⟨_,rfl⟩;have hmz:m=bZ (gM vals) ⟨lb,zb⟩∧dA vals (dR lb):=by
  have h1:=(UJ vals (bC ⟨lb,zb⟩).parts (bC ⟨lb,zb⟩).k m).1 HEV.o.2;refine ⟨?_,h1.1⟩;rw [←EG,h1.2];unfold bZ;omega
 have hml:eP m.natAbs≤2348576:=by
  have:=aPP HG.o.2.1 (by have:=eU.len HM.o.2.1;have:=HM.o.r4.1;omega) HG.o.2.2.2.1;rw [←hmz.1] at this;omega
 have hws7:bI (fun b=>O3 b∨b=gm) (fun b=>O3 b∨b=gm) w7 a7 (n5+1) c7 ws:=by
  have hzm:ZAt (fun b=>O3 b∨b=gm) w7 g4 a4 m4 c4 m:=((H4.o.1.eO k67).at' (by have:=H4.o.1.len;omega)).move (aA.refl Nil w7) (fun _ _ h=>h.elim) fun b _ hb=>(hPlt b hb).1;obtain ⟨a,c,e,hq⟩:=aL.sl (M:=fun b=>O3 b∨b=gm) (R:=iM (fun b=>O3 b∨b=gm) w7) (d:=(0,0)) (xs:=ws) H7.o.1 (fun b hb h=>by have h1:=(H7.o.1.lt b hb).1;have h2:=(hPlt b h).1;have:=H6.o.2.2.2.1;omega) (by rw [hws,gZ1,HG.o.r4.1,H7.o.r4]) (fun i hi=>by
   rw [hws];cases i with
   | zero=>exact⟨g4,a4,m4,c4,rfl,hzm,by have:=H4.o.1.len;omega,HVV.o.1,HVV.o.2⟩
   | succ i=>
    rw [H7.o.r4] at hi;have h1:=H7.o.2.2.1 i zZ;have h2:iM (fun b=>O3 b∨b=gm) w7 (ne.getD i []) (vals.getD i (0,0)):=iM.moves h1 H7.o.2.2.2.1 (fun b _ hb=>by show w.heap.size≤b;rw [hbown b hb];have:=H6.o.2.2.2.1;omega) fun b _ hb=>by show w.heap.size≤b;have:=(hPlt b hb).2;omega
    simpa [List.getD] using h2)
  rw [H7.o.r4] at e hq;cases e;exact hq
 have u7:=HP.o.1.on k37;have hSI:=HV.o.r4.1;have hxr:=HE.o.r5;obtain ⟨x',hx'⟩:∃k:Nat,x=(k:Int):=⟨x.toNat,zZ⟩;have hx2:x'<s1.A.nodes.length:=zZ;have ht7:=XO u7.arena hSI HV.o.1 hws7 tK hx2;have hcsz:=eU.cap hws7;have rt:=H0.o.2.keep ((H1.o.1.trans HP.o.1.keep).trans k37) id;have lrt7:=rt.lt;obtain ⟨tq,htq⟩:∃t,jP ws s1.A.nodes (x'+1) (x':Int) 3000=t:=⟨_,rfl⟩;rw [htq,←hx'] at ht7;have H8:=jJ (MG ht7 u7 hws7 k07 hmz hml hws htq hx2 hx' rt hPlt);clear ht7 u7 hws7 k07 hmz hml hws htq hx2 hx' rt k37 k67 hPlt hbown hSI hxr t0 t1 t2;cases tq with
 | none=>
  go_wp2_with (go_at_call 36;refine H8.o.1.mono ?_;rintro e w8 ⟨⟨z,rfl,-⟩,hk8⟩;rw [show ((none:Option (Bool × Int)).map (·.1)).getD false=false from rfl,show (none:Option (Bool × Int)).isSome=false from rfl];have H9:=jJ hk8;clear hk8)
  go_ret
  exact⟨rfl,H8.o.2.2.2.1.trans H9.o⟩
 | some tt=>
 obtain ⟨bb,lz⟩:=tt;go_upto_region 11 with (go_at_call 36;refine H8.o.1.mono ?_;rintro e w8 ⟨⟨z,rfl,-⟩,hk8⟩;rw [show ((some (bb,lz):Option (Bool × Int)).map (·.1)).getD false=bb from rfl,show (some (bb,lz):Option (Bool × Int)).isSome=true from rfl];have H9:=jJ hk8;clear hk8)
 have hSI:=HV.o.r4.1;have htold:=aQF (V:=V) hSI H8.o.r8.1 H8.o.r7.1;rw [←H8.o.r9.1,H8.o.r6.1] at htold;have hxr:=HE.o.r5;have hno:=Tr.noQ hSI (x.toNat+1) x (Nat.lt_succ_self _) hxr ⟨bb,htold.1⟩;have hlaw:=aJM (c:=false) (sp:=s1.sp) (ov:=s1.ov) (x:=x) (XT (V:=V) (nodes:=2000) (limbs:=8) (o0:=s1.ov) (A0:=s1.A) (v:=v) zY zY zY HV.o.1 HG.o.2.1 zY tK H8.o.r4.1.1 H8.o.r4.1.2) hSI HW.o HG.o.1 hxr fun u hk=>aJR hSI HW.o hk;have u8:=H8.o.2.1.on H9.o;have k08:aA Nil w w8:=H8.o.2.2.2.1.trans H9.o;have hB8:∀b,O3 b∨b=gm→w.heap.size≤b:=fun b hb=>bZ1 z1 (u8.low b hb);have hps:=WA (V:=V) (B0:=w.heap.size) (O:=O3) (M0:=O3) (x:=x) (v:=v) (sp:=s1.sp) (ov:=s1.ov) (bp:=bp) (mp:=mp) (dp:=dp) (gb:=gb) (ab:=ab) (nb:=nb) (cb:=cb) (lb:=lb) (zb:=zb) u8.arena (HT.o.eO k08) (fun _ h=>h) u8.mb u8.jC hB8 HV.o.r5 HV.o.1 HV.o.2.1 (HM.o.2.1.eO k08) (HM.o.2.2.1.eO k08) (fun b hb=>by have:=hB8 b hb;exact⟨this,this,this⟩) (bZ1 HM.o.r5 zY) HM.o.r4.1;have rt:=H8.o.r10.1.keep H9.o id;have lrt8:=rt.lt;obtain ⟨t0,t1,t2⟩:=rt.three;obtain ⟨r1,hr1⟩:∃r,eJ s1.A 2000 8 s1.sp s1.ov x v ⟨lb,zb⟩ false=r:=⟨_,rfl⟩;rw [hr1] at hlaw;obtain ⟨⟨y1,e1⟩,A1,sp1,ov1⟩:=r1;have HL:=jJ (aI8 hlaw htold hno hps u8 k08 hB8 hr1);clear hlaw htold hno hps u8 k08 hB8 hr1 rt hSI hxr;go_upto_region 14 with (go_at_call 9;go_loud (refine HL.o.2.2.2.1.mono ?_);rintro e w9 ⟨cf,hcf,hst⟩;rw [hcf HL.o.2.2.1,HL.o.r7] at hst;have he:=hst.1;subst he;have H10:=jJ hst;clear hst hcf)
 obtain ⟨O4,q1,q2,q3,q4,q5,-⟩:=cO.comp H10.o;obtain ⟨-,hS1,he1,hQ1⟩:=HL.o.1;have hext1:Ext s1.A A1:=hS1.1.2.2.ext;have hx1:0≤x∧x<(A1.nodes.length:Int):=by have:=HE.o.r5;have:=hext1.len;omega
 have hz89:=q5.size;have k09:aA Nil w w9:=HL.o.r5.1.trans' q5 fun b hb=>.inr (HL.o.r6.1 b hb);have hlow4:∀b,O4 b∨b=gm→w.heap.size≤b:=fun b hb=>by
  rcases hb with hb|hb
  ·rcases q3 b hb with h|h
   ·exact HL.o.r6.1 b (.inl h)
   ·have:=HL.o.r5.1.size;omega
  ·exact HL.o.r6.1 b (.inr hb)
 have hws9:bI (fun b=>O4 b∨b=gm) (fun b=>O4 b∨b=gm) w9 a7 (n5+1) c7 ws:=(H8.o.2.2.1.eO H9.o).widen q5 (fun b _ hb=>⟨hb,hb⟩) fun b hb hx=>by
  have:O3 b∨b=gm:=vY;exact⟨this,this⟩
 have hSI:=HV.o.r4.1;have hxr:=HE.o.r5;have hwl:ws.length=n5+1:=by rw [H8.o.r6.1,gZ1,HG.o.r4.1]
 have hws1:∀p∈ws,eP p.2.natAbs≤2348576:=fun p hp=>by
  rw [H8.o.r6.1] at hp;rcases mZ1.1 hp with rfl|hp
  ·exact H8.o.r5.1
  ·exact bZ1 (HG.o.2.2.2.1 p hp) zY
 have hstep:=aSQ (V:=V) (ws:=ws) (b:=bb) (A0:=A1) (o0:=ov1) HV.o.1 hws1;rw [hwl] at hstep;have hJ0:XW V ws bb A1 ov1 0 x A1 sp1 ov1:=⟨hS1.1.1,hS1.2.1,hS1.1.2.1,iP.refl A1,hx1,by rw [oK hext1 hSI.below hxr];have:=HL.o.2.1.2;omega,by rw [List.drop_zero,H8.o.r6.1];exact (Tr.ext hext1 hSI.below hxr bb).2 HL.o.2.1.1,fun _=>rfl⟩;have hgm9:gm<w9.heap.size:=q4.lt;have hin:=aFL (V:=V) (B0:=w.heap.size) (O:=O4) (M0:=fun b=>O3 b∨O4 b) (Mv:=fun b=>O4 b∨b=gm) (x:=x) (sp:=sp1) (ov:=ov1) (J:=XW V ws bb A1 ov1) (E:=fun _ ov=>ov≠0) q1 (HT.o.eO k09) (fun _ h=>.inr h) (fun b hb=>hb.elim (fun h=>q1.lt b (q2 b h)) (q1.lt b)) q4 hlow4 (dH.2 hx1) hS1.1.1 HV.o.1 HV.o.2.1 hws9 (fun _ h=>h) hJ0 hstep;have HI:=jJ (aI7 hin hS1 he1 hQ1 k09 hlow4 hwl);have HO:=jJ (aI3 q1 q4 q2);clear hin hS1 he1 hQ1 k09 hlow4 hwl q1 q2 q3 q4 q5 hws9 hws1 hstep hJ0 hext1 hx1 hSI hxr t0 t1 t2 hz89 hgm9;go_upto_region 15 with (go_at_call 10;go_loud (refine HI.o.1.mono ?_);rintro e w10 ⟨r2,hst,hj,hee⟩;obtain ⟨⟨y2,e2⟩,A2,sp2,ov2⟩:=r2;have he:=hst.1;subst he;simp only at hj hee;have H11:=jJ (aI3 hst hj hee);clear hst hj hee)
 obtain ⟨O5,q1,q2,q3,q4,q5,-⟩:=cO.comp H11.o.1;have k010:aA Nil w w10:=HI.o.r4.1.trans' q5 fun b hb=>.inr (HI.o.r5.1 b hb);obtain ⟨an,cn,v1,v2,v3,hbox⟩:=q1.box;have HB:=jJ (aI4 q1 q4 k010 hbox);clear q1 q2 q3 q4 q5 k010 hbox;by_cases hbad:e1=0∧e2=0
 ·obtain ⟨rfl,rfl⟩:=hbad;obtain ⟨p1,p2,p3,p4⟩:=HI.o.2.2.2.1 rfl;obtain ⟨j1,j2,j3,j4,j5,j6,j7,-⟩:=H11.o.2.1 rfl;have hext2:Ext A1 A2:=j4.ext;have hB1:=HI.o.2.1.1.1.below;rw [oK HI.o.2.1.1.2.2.ext HV.o.r4.1.below HE.o.r5] at p3;have ht1:=p4 bb ((Tr.ext HI.o.2.1.1.2.2.ext HV.o.r4.1.below HE.o.r5 bb).2 HL.o.2.1.1);have hc0:=HL.o.2.1.2;rw [List.drop_of_length_le (by rw [HI.o.r6];exact bZ2 _)] at j7;obtain ⟨y1',hy1⟩:∃k:Nat,y1=(k:Int):=⟨y1.toNat,zZ⟩;obtain ⟨y2',hy2⟩:∃k:Nat,y2=(k:Int):=⟨y2.toNat,zZ⟩;subst hy1;subst hy2;have hl12:=hext2.len;have hs1:=aBK (left:=3000) j1 (x:=y1') zZ ((Tr.ext hext2 hB1 p2 bb).2 ht1) (by rw [oK hext2 hB1 p2];omega);have hs2:=aBK (left:=3000) j1 (x:=y2') zZ j7 zZ;have hv10:=HG.o.r6.eO HB.o.2.2.1;have hT1:=XO HB.o.1 j1 HV.o.1 hv10 tK (i:=y1') zZ;have hT2:=fun (W:World) (k:aA Nil w10 W)=>XO (M3:=Nil) (M4:=Nil) (vals:=[]) (av:=none) (nv:=0) (cv:=0) (HB.o.1.keep k fun _ h=>h.elim) j1 HV.o.1 eU.nil zY (i:=y2') zZ;rw [hs1] at hT1;rw [hs2] at hT2;have HTT:=jJ (aI hT1 hT2);clear hT1 hT2 hs1 hs2 hv10 hl12 hc0 ht1 p1 p2 p3 p4 j1 j2 j3 j4 j5 j6 j7 hext2 hB1;generalize (3000:Int)-dI A2 (y1':Int)=l1 at *
  generalize (3000:Int)-dI A2 (y2':Int)=l2 at *
  have ebb:(bb==bb)=true:=zW;go_upto_region 18 with (go_at_call 36;refine HTT.o.1.mono ?_;rintro e w11 ⟨⟨z,rfl,-⟩,hk⟩;rw [show ((some (bb,l1):Option (Bool × Int)).map (·.1)).getD false=bb from rfl,show (some (bb,l1):Option (Bool × Int)).isSome=true from rfl];have H12:=jJ hk;clear hk)
  go_wp2_with (go_at_call 36;refine (HTT.o.2 _ H12.o).mono ?_;rintro e w12 ⟨⟨z,rfl,-⟩,hk⟩;rw [show ((some (bb,l2):Option (Bool × Int)).map (·.1)).getD false=bb from rfl,show (some (bb,l2):Option (Bool × Int)).isSome=true from rfl];have H13:=jJ (H12.o.trans hk);clear hk)
  go_ret
  exact⟨rfl,HB.o.2.2.1.trans H13.o⟩
 ·have hov:ov2≠0:=by
   by_cases h2:e2=0
   ·have h1:e1≠0:=fun h=>hbad ⟨h,h2⟩;have h3:ov1≠0:=by
     rcases HI.o.2.2.1 h1 with ⟨h4,-⟩|h4
     ·cases h4
     ·rw [h4];exact h1
    obtain ⟨-,-,-,-,-,-,-,j8⟩:=H11.o.2.1 h2;rw [j8 h3];exact h3
   ·exact H11.o.2.2 h2
  have e3:(ov2 != 0)=true:=by simpa using hov
  by_cases h1:e1=0
  ·have h2:e2≠0:=fun h=>hbad ⟨h1,h⟩;have f2:(e2 != 0)=true:=tW;subst h1;clear hov hbad h2;go_wp2_with (first|(go_at_call 31;refine (aDO HB.o.2.2.2).mono ?_;rintro e w11 ⟨rfl,hk⟩;have H12:=jJ hk;clear hk)|(go_at_call 32;refine (aEK (HB.o.2.1.eO H12.o)).mono ?_;rintro e w12 ⟨rfl,hk⟩;have H13:=jJ (H12.o.trans hk);clear hk))
   go_ret
   exact⟨rfl,HB.o.2.2.1.trans H13.o⟩
  ·have f1:(e1 != 0)=true:=by simpa using h1
   clear hov hbad h1;go_wp2_with (first|(go_at_call 31;refine (aDO HB.o.2.2.2).mono ?_;rintro e w11 ⟨rfl,hk⟩;have H12:=jJ hk;clear hk)|(go_at_call 32;refine (aEK (HB.o.2.1.eO H12.o)).mono ?_;rintro e w12 ⟨rfl,hk⟩;have H13:=jJ (H12.o.trans hk);clear hk))
   go_ret
   exact⟨rfl,HB.o.2.2.1.trans H13.o⟩
section
section
variable {H:Type} {enc:TypeId × Value→H} {w:World}
theorem aMJ {fuel:Nat} {cs:List Value} {x:DataW H × List MemPlace} (h:DataW.trod enc prog w 0 (fun _=>true) true fuel 27 cs=some x) (hb:Rows.uptoBulk x.1≤1048576):∃a n c g b m d l z,cs=[.slice a n c,.bool g,.slice b m d]∧(bI Nil Nil w a n c l∧ZAt Nil w g b m d z∧m≤1048576∧∀p∈l,nU p)∧5*l.length≤Rows.uptoBulk x.1:=by
 obtain ⟨t0,t1,m,hx2,hl2,g0,g1⟩:=trod_struct2 underlying27 h;have hc:prog.cellsOf 27=3:=zX;have hc1:prog.cellsOf 25=2:=zX;have hc3:prog.cellsOf 22=1:=zX;rw [hc] at hl2;rw [hx2] at hb⊢;simp only [Rows.uptoBulk,Rows.uptoBulkAll] at hb⊢
 match cs,hl2 with
 | [c0,c1,c2],_=>
  simp only [hc1,hc3,List.drop_zero,List.take_succ_cons,List.take_zero,List.drop_succ_cons] at g0 g1;obtain ⟨ap,np,cp,l,e2,q2,s2,p2⟩:=ZF g0 zZ;obtain ⟨z,g',a',nk,c',e3,q3,r3⟩:=JL g1 zZ;cases e2;cases e3;exact⟨ap,np,cp,g',a',nk,c',l,z,rfl,⟨q2,q3,r3,p2⟩,zZ⟩
end
end
section
section
variable {H:Type} {enc:TypeId × Value→H} {w:World}
theorem aNF {fuel:Nat} {cs:List Value} {x:DataW H × List MemPlace} (h:DataW.trod enc prog w 0 (fun _=>true) true fuel 34 cs=some x) (hb:Rows.uptoBulk x.1≤1048576) :
  ∃p,iM Nil w cs p∧5≤Rows.uptoBulk x.1∧nU p:=by
 obtain ⟨y0,y1,n,hx,hl,h0,h1⟩:=trod_struct2 underlying34 h;have hc:prog.cellsOf 34=3:=zX;have hc0:prog.cellsOf 3=1:=zX;have hc1:prog.cellsOf 25=2:=zX;rw [hc] at hl;rw [hx] at hb⊢;simp only [Rows.uptoBulk,Rows.uptoBulkAll] at hb⊢
 match cs,hl with
 | [c0,c1,c2],_=>
  simp only [hc0,hc1,List.drop_zero,List.take_succ_cons,List.take_zero,List.drop_succ_cons] at h0 h1;obtain ⟨v,e0,_,k0⟩:=DataW.trod_int underlying3 h0;obtain ⟨z,g,a,n,c,e1,q1,r1⟩:=JL h1 zZ;have h4:3≤Rows.uptoBulk y1.1:=xP;have h5:=ET y0.1;have kb:=bounds_i64 k0;cases e0;cases e1;exact⟨(v,z),⟨g,a,n,c,rfl,q1,zZ,kb.1,kb.2⟩,zZ,⟨bZ1 (KR q1) r1,kb⟩⟩
theorem aMB {fuel:Nat} {cs:List Value} {x:DataW H × List MemPlace} (h:DataW.trod enc prog w 0 (fun _=>true) true fuel 35 cs=some x) (hb:Rows.uptoBulk x.1≤1048576) :
  ∃a n c l,cs=[.slice a n c]∧bI Nil Nil w a n c l∧5*l.length+1≤Rows.uptoBulk x.1∧∀p∈l,nU p:=by
 obtain ⟨a,n,c,l,e,hs,hsum,hq⟩:=JZ (R:=iM Nil w) (size:=fun _=>5) (Q:=nU) (d:=(0,0)) (sz:=3) underlying35 zX zY h hb (fun n cs' y _ hy hb'=>by
  obtain ⟨p,q1,q2,q3⟩:=aNF hy hb';exact⟨p,q1,q2,q3⟩)
 refine ⟨a,n,c,l,e,hs,?_,hq⟩;have hc:∀l:aM,(l.map fun _=>5).sum=l.length*5:=fun l=>wJ;have:=hc l;omega
end
end
end Go.Proofs.Q
