/- made's third way: the node is not there, the meter lets it: the arena has one node more. -/
import Derived.Test.YtlldghknenbccaaGreatDoorRMadesA
set_option linter.unusedSimpArgs false
set_option linter.unusedVariables false
set_option maxRecDepth 100000
set_option maxHeartbeats 4000000
namespace Go.Proofs.Q
open Go.RowKit Tryz
def bBW (B:Nat) (O M0:Nat→Prop) (w00:World) (g gm bm:Nat) (nodes limbs:Int) (A':aC) (sp ov:Int) (w':World):Prop:=∃(O':Nat→Prop) (vn' vf' vp':Value) (ne' fe':List (List Value)),kJ B O' w' g gm vn' vf' vp' bm ne' fe' A'∧(∀b,O b→O' b)∧(∀b,O' b→O b∨w00.heap.size≤b)∧bR (fun b=>M0 b∨O' b) w' gm nodes limbs sp ov
theorem aSW:(prog.info? 59).map (fun i=>(i.zero,i.size,i.bytes))=some (some (.agg #[.int .i64 0,.bool false,.slice none 0 0,.slice none 0 0,.bool false,.slice none 0 0,.int .i64 0,.slice none 0 0]),8,128):=zX
theorem aRC:(prog.info? 56).map (fun i=>(i.zero,i.size,i.bytes))=some (some (.slice none 0 0),1,24):=zX
theorem aZA {B B0:Nat} {O M M0:Nat→Prop} {w00 w:World} {g gm:Nat} {vn vf vp:Value} {bm:Nat} {ne fe:List (List Value)} {A:aC} {gd gk:Bool} {ad ap ak aq al:Option Addr} {nd cd np cp nk ck nq cq nl cl:Nat} {N:aS} {xs:List (Bool × List Nat)} {nodes limbs sp ov:Int} (hA:kJ B O w00 g gm vn vf vp bm ne fe A) (hk0:aA Nil w00 w) (hT:Tab B0 w) (hO:∀b,O b→M0 b) (hM0:MB M0 w00) (hm:bR M0 w00 gm nodes limbs sp ov)
  (h:jL (Old w00) w gd ad nd cd ap np cp gk ak nk ck aq nq cq N) (hN:FL N) (hl:(bB N).length≤maxLen) (hi:fK A.nodes (bB N)=none) (hM:MB M w) (hx:Ints M w al nl cl xs) (hs0:0≤sp) (hs:sp≤nodes) (hn:nodes≤2000) (he:(dN nodes limbs sp ov xs).2.2=0) (hcnt:A.cnt<1000000) (hlen:A.nodes.length≤1000000) (h2:2≤A.nodes.length) (hwee:Wee N.t)
  (hkids:∀k∈N.kids,0≤k∧k.toNat<A.nodes.length) (hroom:(dB A N).length≤1000000000) :
  Calls prog 89 #[.pointer (some ⟨g,0,none⟩),.agg #[.int .i64 N.kind,.bool gd,.slice ad nd cd,.slice ap np cp,.bool gk,.slice ak nk ck,.int .i64 N.var,.slice aq nq cq],.slice al nl cl] w fun e w'=>e=.returned (.tuple #[.int .i64 A.nodes.length,.int .i64 0])∧bBW B O M0 w00 g gm bm nodes limbs (fQ A N) (dN nodes limbs sp ov xs).1 (dN nodes limbs sp ov xs).2.1 w'∧aA (fun b=>O b∨b=gm) w w':=by
 obtain ⟨i1,hi1⟩:=info_parts aSW;obtain ⟨i2,hi2⟩:=info_parts aRC;obtain ⟨i3,hi3⟩:=info_parts BI;have HI:=jJ (aI3 hi1 hi2 hi3);have hgm:=hm.lt;have hAw:=hA.keep hk0 (fun _ h=>h.elim);have HA:=jJ (RF hAw hT h hN hl hi hM hm hx hO hM0 hk0 hA);have HROOM:=jJ hroom;have HKIDS:=jJ hkids;clear hi1 hi2 hi3 hA hAw hT h hN hl hi hM hm hx hO hM0 hk0 hroom hkids;go_enter func89,ntmps89
 go_upto_region 1 with (fail)
 obtain ⟨w0,e_1,k0,r0⟩:=bx1 w 59 [.int .i64 N.kind,.bool gd,.slice ad nd cd,.slice ap np cp,.bool gk,.slice ak nk ck,.int .i64 N.var,.slice aq nq cq];rw [e_1];clear e_1;have c0:w0.cell? ⟨w.heap.size,0,none⟩=some (.int .i64 N.kind):=r0.cell 0;have c1:w0.cell? ⟨w.heap.size,1,none⟩=some (.bool gd):=r0.cell 1;have c2:w0.cell? ⟨w.heap.size,2,none⟩=some (.slice ad nd cd):=r0.cell 2;have c3:w0.cell? ⟨w.heap.size,3,none⟩=some (.slice ap np cp):=r0.cell 3;have c4:w0.cell? ⟨w.heap.size,4,none⟩=some (.bool gk):=r0.cell 4;have c5:w0.cell? ⟨w.heap.size,5,none⟩=some (.slice ak nk ck):=r0.cell 5;have c6:w0.cell? ⟨w.heap.size,6,none⟩=some (.int .i64 N.var):=r0.cell 6;have c7:w0.cell? ⟨w.heap.size,7,none⟩=some (.slice aq nq cq):=r0.cell 7;have H0:=jJ (aI k0 r0);clear k0 r0;go_upto_region 2 with (go_at_call 127;refine (XG (HA.o.2.1.eO H0.o.1) (HA.o.2.2.1.move H0.o.1 (fun _ _ h=>h.elim) fun _ _ h=>h.elim) HA.o.2.2.2.1).mono ?_;rintro e w1 ⟨rfl,hk1⟩;have hA1:=HA.o.1.keep (H0.o.1.trans hk1) (fun _ h=>h.elim);have H1:=jJ (aI hk1 hA1);clear hk1 hA1)
 have d4:w1.cell? ⟨g,4,none⟩=some (.pointer (some ⟨gm,0,none⟩)):=H1.o.2.row.cell 4;have k01:=H0.o.1.trans H1.o.1;have hgw:w00.heap.size≤w1.heap.size:=bZ1 HA.o.r11.1.size k01.size;obtain ⟨M1,hM1⟩:∃M1:Nat→Prop,M1=fun b=>M0 b∨(w00.heap.size≤b∧b<w1.heap.size):=⟨_,rfl⟩;have hm1:bR M1 w1 gm nodes limbs sp ov:=HA.o.r7.1.move (HA.o.r11.1.trans k01) (fun _ _ h=>h.elim) fun b hb hx=>by
  rw [hM1] at hx;rcases hx with hx|hx
  ·exact hx
  ·omega
 have hMB1:MB M1 w1:=fun b hb=>by
  rw [hM1] at hb;rcases hb with hb|hb
  ·have:=HA.o.r10.1 b hb;omega
  ·exact hb.2
 have hnode:=aEP (HA.o.r6.1.keep k01) hMB1 hm1 (HA.o.r8.1.eO k01) hs0 hs hn;obtain ⟨err,herr⟩:∃err,err=(dN nodes limbs sp ov xs).2.2:=⟨_,rfl⟩;rw [←herr] at he;subst he;rw [←herr] at hnode;have HE:=jJ herr;have HM1:=jJ hM1;have HN:=jJ (aI hnode k01);clear hnode k01 herr hm1 hMB1 hM1;have d3:w1.cell? ⟨g,3,none⟩=some (.map (some bm)):=H1.o.2.row.cell 3;clear c0 c1 c2 c3 c4 c5 c6 c7;go_upto_region 8 with (first|(at_lookup;refine RN _ rfl _ _ 116 rfl 9 3 underlying9 underlying116 underlying3 (zeroValue3 _) bm A.cnt (fK A.nodes) rfl H1.o.2.map (bB N) rfl (NZ N) HA.o.r4.1 ?_;intro c _;rw [HA.o.r5.1])|(go_at_call 128;refine HN.o.1.mono ?_;rintro e w2 ⟨rfl,hm2,hk2⟩;have hA2:=H1.o.2.keep hk2 (fun b hb=>by rw [show b=gm from hb];exact HA.o.1.notM);have r2:=(H0.o.2.keep H1.o.1 id).keep hk2 (show ¬w.heap.size=gm by have:=HA.o.r11.1.size;omega);have H2:=jJ (aI4 hm2 hk2 hA2 r2);clear hm2 hk2 hA2 r2))
 have hA2:=H2.o.2.2.1;obtain ⟨an,cn,rfl⟩:=hA2.nodes.isSlice;have f0:w2.cell? ⟨g,0,none⟩=some (.slice an ne.length cn):=hA2.row.cell 0;have f3:w2.cell? ⟨g,3,none⟩=some (.map (some bm)):=hA2.row.cell 3;have hgl:=hA2.row.lt;clear d3 d4;go_upto_region 10 with (at_mapUpdate;go_loud (refine aLK _ rfl _ _ _ 116 rfl 9 3 underlying9 underlying116 underlying3 bm A.cnt (fK A.nodes) rfl H2.o.2.2.1.map zC (bB N) rfl (NZ N) HA.o.r4.1 ne.length (by have h1:=H2.o.2.2.1.nl;omega) rfl ?_;intro w3 hF hk3;have r3:=H2.o.2.2.2.keep hk3 (show ¬w.heap.size=bm from H2.o.2.2.2.nV H2.o.2.2.1.map);have H3:=jJ (aI3 hF hk3 r3);clear hF hk3 r3))
 have hA0:=HA.o.r12;have hbm:bm<w00.heap.size:=(hA0.inO bm (hA0.mine bm (.inr (.inr (.inr (.inr rfl)))))).2;have hgw0:g<w00.heap.size:=hA0.row.lt;have n3:=((HA.o.2.2.1.move HN.o.2 (M2:=Old w00) (fun _ _ h=>h.elim) fun _ _ h=>h).move H2.o.2.1 (M2:=Old w00) (fun b _ hb=>by rw [show b=gm from hb];exact hgm) fun _ _ h=>h).move H3.o.2.1 (M2:=Old w00) (fun b _ hb=>by rw [show b=bm from hb];exact hbm) fun _ _ h=>h;have e3:w3.cell? ⟨w.heap.size,3,none⟩=some (.slice ap np cp):=H3.o.2.2.cell 3;have e4:w3.cell? ⟨w.heap.size,4,none⟩=some (.bool gk):=H3.o.2.2.cell 4;have e5:w3.cell? ⟨w.heap.size,5,none⟩=some (.slice ak nk ck):=H3.o.2.2.cell 5;have hT3:eI (Old w00) w3 ap np cp gk ak nk ck N.t:=n3.t;have HN3:=jJ n3;clear n3 f0 f3 hA0;have hraw:=cV.raw (hT3.1) (fun p hp=>by have:=hwee.parts p hp;omega);have hza:=hT3.2.zat (by have:=hwee.k;omega);have hnk:nk≤1073741824:=by have h1:=hT3.2.2.len;have h2:=hwee.k;unfold eP at h2;omega
 have hnp:np≤16777216:=by have h1:=eU.len hT3.1;have h2:=hwee.few;omega
 have HV:=jJ (aFV hraw hza hnk hnp);clear hraw hza hT3;go_upto_region 11 with (go_at_call 34;refine HV.o.mono ?_;rintro e w4 ⟨v,rfl,⟨va,vc,rfl,hown⟩,hk4⟩;have r4:=H3.o.2.2.keep hk4 id;have H4:=jJ (aI3 hown hk4 r4);clear hown hk4 r4)
 obtain ⟨gn,gf,gp,cn',cf,cpp,en,ef,ep,n1,f1,p1,n2,f2,p2,hgn,hgf,hgp,lN,lF,lP⟩:=hA2.lists zZ;obtain ⟨rfl,-,rfl⟩:an=some ⟨gn,0,none⟩∧ne.length=A.nodes.length∧cn=cn':=by simpa using en
 subst ef;subst ep;have hnm:∀v,(v=gf∨v=gp∨v=g)→v≠bm:=fun v hv e=>by
  rcases hv with hv|hv|hv
  ·have h9:(Value.slice (some ⟨gf,0,none⟩) A.nodes.length cf).ownBlock=some bm:=by rw [←e,hv];rfl
   exact hA2.free.nV hA2.map h9
  ·have h9:(Value.slice (some ⟨gp,0,none⟩) A.nodes.length cpp).ownBlock=some bm:=by rw [←e,hv];rfl
   exact hA2.plain.nV hA2.map h9
  ·exact hA2.row.nV hA2.map (hv.symm.trans e)
 have row3:=hA2.row.keep H3.o.2.1 (fun hb=>hnm g (.inr (.inr rfl)) hb);have fr3:∀i,i<A.nodes.length→∃a n c,w3.cell? ⟨gf,i,none⟩=some (.slice a n c)∧cE Nil w3 a n c (A.free.getD i []):=fun i hi=>by
  obtain ⟨a,n,c,ec,hc⟩:=hA2.fr i hi;have h7:=lF i hi;rw [ec] at h7;refine ⟨a,n,c,(H3.o.2.1.cell (p:=⟨gf,i,none⟩) hgf (fun hb=>hnm gf (.inl rfl) hb)).trans h7,?_⟩;exact hc.move H3.o.2.1 (fun b _ hb=>.inl (.inr (.inr (.inr (.inr hb))))) fun _ _ h=>h.elim
 have pl3:∀i,i<A.nodes.length→w3.cell? ⟨gp,i,none⟩=some (.int .i64 (A.plain.getD i 0)):=fun i hi=>(H3.o.2.1.cell (p:=⟨gp,i,none⟩) hgp (fun hb=>hnm gp (.inr (.inl rfl)) hb)).trans (lP i hi);have HL:=jJ (aI3 row3 fr3 pl3);have hs3:w2.heap.size≤w3.heap.size:=H3.o.2.1.size;have e7:w4.cell? ⟨w.heap.size,7,none⟩=some (.slice aq nq cq):=H4.o.2.2.cell 7;have hnq:N.kids.length=nq:=eU.len HN3.o.kids;have hnqc:=eU.cap HN3.o.kids;have hnqle:=eU.le HN3.o.kids;have HNQ:=jJ hnq;have hsv:=aJ ((dR N.t.parts).map (·.1));have HSV:=jJ hsv;have HLF:=jJ (aI3 lN lF lP);clear hA2 row3 fr3 pl3 e3 e4 e5 hnq hsv en hnm lN lF lP;go_wp2_with fail
 go_loopw [13,14,56] (fun f q i wr=>∃(k:Nat) (va:Option Addr) (vc:Nat),k≤nq∧i=.int .i64 (k:Int)∧q=.int .i64 (BN A N k)∧f=.slice va (kI A N k).length vc∧aL wr w3.heap.size 3 1 (.slice va (kI A N k).length vc) (aO (kI A N k))∧aA Nil w3 wr) (fun _ _ i _=>nq-(intOf i).toNat)
 case atStart=>exact⟨0,va,vc,aZ2 _,rfl,rfl,by rw [aAV,hZ1],by rw [aAV];exact H4.o.1,H4.o.2.1⟩
 case round=>
  obtain ⟨k,va,vc,hk,rfl,rfl,rfl,hown,hkr⟩:=hrel;by_cases hlt:k<nq
  ·have hkl:k<N.kids.length:=by rw [HNQ.o];exact hlt
   obtain ⟨b,off,rfl,ck⟩:=bA (HN3.o.kids.eO hkr) hlt;obtain ⟨kn,hkn,hkn2⟩:∃kn:Nat,N.kids.getD k 0=(kn:Int)∧kn<A.nodes.length:=by
    have h9:=HKIDS.o (N.kids.getD k 0) (by simp [List.getD,hkl]);exact⟨(N.kids.getD k 0).toNat,zZ,h9.2⟩
   rw [hkn] at ck;obtain ⟨a1,m1,q1',cf1,hnum⟩:=HL.o.2.1 kn hkn2;have d1:wr.cell? ⟨g,1,none⟩=some (.slice (some ⟨gf,0,none⟩) A.nodes.length cf):=(HL.o.1.keep hkr id).cell 1;have d2:wr.cell? ⟨g,2,none⟩=some (.slice (some ⟨gp,0,none⟩) A.nodes.length cpp):=(HL.o.1.keep hkr id).cell 2;have d5:wr.cell? ⟨gf,kn,none⟩=some (.slice a1 m1 q1'):=hkr.eY (cZ1 hgf hs3) id cf1;have d6:wr.cell? ⟨gp,kn,none⟩=some (.int .i64 (A.plain.getD kn 0)):=hkr.eY (cZ1 hgp hs3) id (HL.o.2.2 kn hkn2);have hfs:=aOZ A N hkl;have hps:=aMY A N hkl;rw [show (N.kids.getD k 0).toNat=kn by rw [hkn];rfl] at hfs hps;have hfl:=aUM A N (j:=k+1) zZ;have hlt3:=hown.lt;rw [hfs,aZ1] at hfl;have hsz:=hkr.size;obtain ⟨fk,hfk⟩:∃fk,fk=A.free.getD kn []:=⟨_,rfl⟩;rw [←hfk] at hnum hfs hfl;clear hfk;have HC:=jJ (aI6 hown hkr (hnum.eO hkr) hfs hps hfl);have j0:(0:Int)≤(k:Int):=zZ;have j1:(k:Int)<(nq:Int):=zZ;have j2:(0:Int)≤(kn:Int):=zZ;have j3:(kn:Int)<(A.nodes.length:Int):=zZ;obtain ⟨pk,hpk⟩:∃pk,pk=BN A N k:=⟨_,rfl⟩;obtain ⟨pa,hpa⟩:∃pa,pa=A.plain.getD kn 0:=⟨_,rfl⟩;rw [←hpk];rw [←hpa] at d6;have HB:=jJ (aI4 d1 d2 d5 d6);have HP:=jJ (aI hpk hpa);clear hpk hpa hfs hps hfl hown hkr hnum hkn;go_upto_region 14 with (fail)
   refine RU ((fun w'=>w'.cell? ⟨g,1,none⟩=some (.slice (some ⟨gf,0,none⟩) A.nodes.length cf)∧w'.cell? ⟨g,2,none⟩=some (.slice (some ⟨gp,0,none⟩) A.nodes.length cpp)∧w'.cell? ⟨gf,kn,none⟩=some (.slice a1 m1 q1')∧w'.cell? ⟨gp,kn,none⟩=some (.int .i64 pa))) [19] zX ?_;have hS:=HB.o;refine eG 0 hS ?_;refine eG 1 hS ?_;refine eG 2 hS ?_;refine eG 3 hS ?_;refine eG 4 hS ?_;refine eG 5 hS ?_;refine eG 6 hS ?_;refine eG 7 hS ?_;refine eG 9 hS ?_;refine eG 10 hS ?_;refine eG 11 hS ?_;refine eG 12 hS ?_;refine eG 13 hS ?_;refine eG 14 hS ?_;refine eG 15 hS ?_;refine eG 16 hS ?_;refine eG 17 hS ?_;refine bV (rs:=[8]) zX zW ?_;refine aZ.cons rfl (fun K hK=>?_) aZ.nil;rw [if_pos zU];refine aKV (.tmp 60) (.tmp 67) rfl w3.heap.size (.slice va (kI A N k).length vc) (kI A N k) rfl (HC.o.1.eO (w':=wr.drew) ((aA.refl Nil wr).drew)) rfl (HC.o.2.2.1.eO (w':=wr.drew) ((aA.refl Nil wr).drew)) (by have:=HC.o.r5;have:=HROOM.o;omega) hsz ?_;intro v' w5 ho5 hk5;obtain ⟨a5,c5,rfl⟩:=ho5.isSlice;have q1:w5.cell? ⟨g,1,none⟩=some (.slice (some ⟨gf,0,none⟩) A.nodes.length cf):=(hk5.cell (p:=⟨g,1,none⟩) (show g<wr.heap.size by omega) (fun hb=>by have:=(HC.o.1.lt g hb).1;omega)).trans HB.o.1;have q2:w5.cell? ⟨g,2,none⟩=some (.slice (some ⟨gp,0,none⟩) A.nodes.length cpp):=(hk5.cell (p:=⟨g,2,none⟩) (show g<wr.heap.size by omega) (fun hb=>by have:=(HC.o.1.lt g hb).1;omega)).trans HB.o.2.1;have q3:w5.cell? ⟨gf,kn,none⟩=some (.slice a1 m1 q1'):=(hk5.cell (p:=⟨gf,kn,none⟩) (show gf<wr.heap.size by omega) (fun hb=>by have:=(HC.o.1.lt gf hb).1;omega)).trans HB.o.2.2.1;have q4:w5.cell? ⟨gp,kn,none⟩=some (.int .i64 pa):=(hk5.cell (p:=⟨gp,kn,none⟩) (show gp<wr.heap.size by omega) (fun hb=>by have:=(HC.o.1.lt gp hb).1;omega)).trans HB.o.2.2.2;refine hK.out _ _ (fun _=>⟨q1,q2,q3,q4⟩) ?_;clear hK K;try simp only [Act.put,List.getElem_toArray,List.getElem_cons_zero,List.getElem_cons_succ,List.setIfInBounds_toArray,List.set_cons_zero,List.set_cons_succ]
   refine aK 18 fun K hK=>?_;go_simp
   refine mH ?_;clear hK K;refine bV (rs:=[19]) zX zW ?_;refine aZ.LU rfl zY (fun K hK=>?_) aZ.nil;go_simp
   refine hK.out _ _ ?_;clear hK K;try simp only [Act.put,sL]
   refine aR zX ?_ _;skip
   have H5:=jJ (aI ho5 hk5);clear ho5 hk5;go_wp2_with fail
   go_roundw
   case rel=>exact⟨k+1,a5,c5,zZ,zF,by rw [HC.o.r4.1,HP.o.1,HP.o.2],by rw [HC.o.2.2.2.1,←aJ (kI A N k++fk)],by rw [HC.o.2.2.2.1,←aJ (kI A N k++fk)];exact H5.o.1,HC.o.2.1.drew.trans' H5.o.2 (fun b hb=>.inr (HC.o.1.lt b hb).1)⟩
   case measure=>exact zI
  ·obtain rfl:nq=k:=zZ;have hall:kI A N nq=dB A N:=by rw [←HNQ.o];exact aSZ A N
   have hpl:BN A N nq=BN A N N.kids.length:=by rw [HNQ.o]
   rw [hall] at hown⊢;rw [hpl];obtain ⟨pq,hpq⟩:∃pq,pq=BN A N N.kids.length:=⟨_,rfl⟩;rw [←hpq];have HC:=jJ (aI3 hown hkr hpq);clear hown hkr hall hpl hpq;go_upto_region 17 with (go_at_call 72;refine (aEW HC.o.1 HROOM.o).mono ?_;rintro e w5 ⟨rfl,ho5,hk5⟩;have H5:=jJ (aI ho5 (HC.o.2.1.trans' hk5 (fun b hb=>.inr (HC.o.1.lt b hb).1)));clear ho5 hk5)
   go_upto_region 18 with (go_at_call 99;refine (aAH H5.o.1 (by rw [FX];exact HROOM.o)).mono ?_;rintro e w6 ⟨v6,rfl,ho6,-,hk6⟩;obtain ⟨a6,c6,rfl⟩:=ho6.isSlice;have k6:=H5.o.2.trans' hk6 (fun b hb=>.inr (H5.o.1.lt b hb).1);have r6:=H3.o.2.2.keep k6 id;have d0:w6.cell? ⟨w.heap.size,0,none⟩=some (.int .i64 N.kind):=r6.cell 0;have l6:=r6.lt;have H6:=jJ (aI3 ho6 k6 r6);clear ho6 hk6 k6 r6)
   go_upto_if 85 with (fail)
   go_cut [13,14] (fun f q wx=>∃(fa:Option Addr) (fc:Nat),f=.slice fa (eF A N).length fc∧aL wx w3.heap.size 3 1 (.slice fa (eF A N).length fc) (aO (eF A N))∧q=.int .i64 (AJ A N)∧aA Nil w3 wx)
   case first=>
    by_cases h7:7≤N.kind
    ·have e7:decide (N.kind ≥ 7)=true:=by simpa using h7
     have ef:eF A N=without N.var (cM (dB A N)):=if_pos h7;have eq:AJ A N=1:=if_pos h7;have HF:=jJ (aI ef eq);clear ef eq;go_wp2_with (go_at_call 129;refine (aPU H6.o.1 (bZ1 (YU _) HROOM.o) H6.o.2.2 zY rfl).mono ?_;rintro e w7 ⟨v7,rfl,ho7,-,hk7⟩;obtain ⟨a7,c7,rfl⟩:=ho7.isSlice;have H7:=jJ (aI ho7 hk7);clear ho7 hk7)
     go_meet
     refine ⟨a7,c7,?_,?_,?_,?_⟩
     ·rw [HF.o.1,aJ];rfl
     ·rw [HF.o.1];have:=H7.o.1;rw [aJ] at this;exact this
     ·rw [HF.o.2]
     ·exact H6.o.2.1.trans' H7.o.2 (fun b hb=>.inr (H6.o.1.lt b hb).1)
    ·have e7:decide (N.kind ≥ 7)=false:=by simpa using h7
     have ef:eF A N=cM (dB A N):=if_neg h7;have eq:AJ A N=pq:=(if_neg h7).trans HC.o.2.2.symm;have HF:=jJ (aI ef eq);clear ef eq;go_wp2_with fail
     go_meet
     refine ⟨a6,c6,?_,?_,?_,H6.o.2.1⟩
     ·rw [HF.o.1,aJ];rfl
     ·rw [HF.o.1];have:=H6.o.1;rw [aJ] at this;exact this
     ·rw [HF.o.2]
   case rest=>
    rename World=>w7;obtain ⟨fa,fc,rfl,hof,rfl,hk7⟩:=hcut;obtain ⟨fn,hfn⟩:∃fn,fn=(eF A N).length:=⟨_,rfl⟩;obtain ⟨Q,hQ⟩:∃Q,Q=AJ A N:=⟨_,rfl⟩;rw [←hfn] at hof⊢;rw [←hQ];have HFN:=jJ (aI hfn hQ);have hA2:=H2.o.2.2.1;have row7:=HL.o.1.keep hk7 id;have k27:aA (One bm) w2 w7:=H3.o.2.1.trans hk7.of_nil;have on7:=hA2.nodes.keep k27 (fun b hb hm=>hA2.nodes.nV hA2.map yF);have of7:=hA2.free.keep k27 (fun b hb hm=>hA2.free.nV hA2.map yF);have op7:=hA2.plain.keep k27 (fun b hb hm=>hA2.plain.nV hA2.map yF);have rb7:=H3.o.2.2.keep hk7 id;have hBg:B≤w7.heap.size:=by have h1:=(hA2.inO g (hA2.mine g (.inl rfl))).1;have h2:=k27.size;omega
    have HBS:=jJ hBg;have hw02:w00.heap.size≤w.heap.size:=HA.o.r11.1.size;have hA0:=HA.o.r12;have hown0:∀b,O b→b<w00.heap.size:=fun b hb=>(hA0.inO b hb).2;have hn0:gn<w00.heap.size:=hown0 _ (hA2.mine _ (.inr (.inl rfl)));have hf0:gf<w00.heap.size:=hown0 _ (hA2.mine _ (.inr (.inr (.inl rfl))));have hp0:gp<w00.heap.size:=hown0 _ (hA2.mine _ (.inr (.inr (.inr (.inl rfl)))));have hww1:w.heap.size≤w1.heap.size:=HN.o.2.size;have hw12:w1.heap.size≤w2.heap.size:=H2.o.2.1.size;have hw27:w2.heap.size≤w7.heap.size:=k27.size;have hfar:∀b,w00.heap.size≤b→(MC.mk B w7.heap.size g w.heap.size (.slice (some ⟨gn,0,none⟩) ne.length cn) (.slice (some ⟨gf,0,none⟩) A.nodes.length cf) (.slice (some ⟨gp,0,none⟩) A.nodes.length cpp) (.map (some bm)) (.pointer (some ⟨gm,0,none⟩)) ne fe (aO A.plain) [.int .i64 N.kind,.bool gd,.slice ad nd cd,.slice ap np cp,.bool gk,.slice ak nk ck,.int .i64 N.var,.slice aq nq cq] (.slice fa fn fc) Q).far b:=fun b hb=>by
     refine ⟨fun e=>?_,fun e=>?_,fun e=>?_,fun e=>?_⟩
     ·have e2:some gn=some b:=e;cases e2;omega
     ·have e2:some gf=some b:=e;cases e2;omega
     ·have e2:some gp=some b:=e;cases e2;omega
     ·have e2:b=g:=e;omega
    have HFAR:=jJ (fun b (hb:w7.heap.size≤b)=>hfar b zZ);have hfb:=hfar w.heap.size hw02;have HLEN:=jJ (show ne.length≤1000000∧fe.length≤1000000∧A.plain.length≤1000000 from ⟨by rw [hA2.nl];exact hlen,by rw [hA2.fl];exact hlen,by rw [hA2.pl];exact hlen⟩);have hpre:=MC.pre (MC.mk B w7.heap.size g w.heap.size (.slice (some ⟨gn,0,none⟩) ne.length cn) (.slice (some ⟨gf,0,none⟩) A.nodes.length cf) (.slice (some ⟨gp,0,none⟩) A.nodes.length cpp) (.map (some bm)) (.pointer (some ⟨gm,0,none⟩)) ne fe (aO A.plain) [.int .i64 N.kind,.bool gd,.slice ad nd cd,.slice ap np cp,.bool gk,.slice ak nk ck,.int .i64 N.var,.slice aq nq cq] (.slice fa fn fc) Q) row7 on7 of7 op7 rb7;have H7:=jJ (aI5 hfb hpre hof hk7 k27);obtain ⟨J,hJ⟩:∃J:MC,J=⟨B,w7.heap.size,g,w.heap.size,.slice (some ⟨gn,0,none⟩) ne.length cn,.slice (some ⟨gf,0,none⟩) A.nodes.length cf,.slice (some ⟨gp,0,none⟩) A.nodes.length cpp,.map (some bm),.pointer (some ⟨gm,0,none⟩),ne,fe,aO A.plain,[.int .i64 N.kind,.bool gd,.slice ad nd cd,.slice ap np cp,.bool gk,.slice ak nk ck,.int .i64 N.var,.slice aq nq cq],.slice fa fn fc,Q⟩:=⟨_,rfl⟩;obtain ⟨JF,hJF⟩:∃JF,JF=J.F:=⟨_,rfl⟩;obtain ⟨JP,hJP⟩:∃JP,JP=J.Pre:=⟨_,rfl⟩;obtain ⟨JR,hJR⟩:∃JR,JR=J.R:=⟨_,rfl⟩;clear hfn hQ hA2 row7 k27 on7 of7 op7 rb7 hBg hA0 hown0 hfar hfb hpre hof hk7;go_upto_region 21 with (fail)
    refine aLJ [89,90,91,92,93,94,95,96,97,98,99,100,101,102,103,104,105,106,107,108,109,110,111,112,113,114,200,115,116,201,117,118,202] JF (fun b=>(.slice (some ⟨gn,0,none⟩) ne.length cn:Value).ownBlock=some b∨(.slice (some ⟨gf,0,none⟩) A.nodes.length cf:Value).ownBlock=some b∨(.slice (some ⟨gp,0,none⟩) A.nodes.length cpp:Value).ownBlock=some b∨b=g) JP JR zX zX (by rw [hJF,hJR];exact J.hF _ zX zX zX) (by rw [hJP,hJR];exact J.hP _ zX zX zX (by rw [hJ];exact H7.o.1)) (by rw [hJP,hJ];exact H7.o.2.1) ?osteps ?ofin
    case osteps=>
     show GH _ _ _ _ _ _ _ _ _ _ 33
     clear HA HROOM HKIDS H0 HE HM1 HN H1 H2 H3 HN3 HV H4 HL HNQ HSV HLF HC H6 H7 HFN;refine GH.byG (by intro us;simp only [aQ,Act.put,List.setIfInBounds_toArray,List.set_cons_zero,List.set_cons_succ];exact rfl) ?_;refine aW.succ (n:=32) rfl ?os32 ?ot32
     case os32=>
      intro us wj hk hpr hp K hK;rw [if_pos zU];rw [hJP] at hpr;rw [hJF,hJR] at hK;rw [hJF] at hp;subst hJ;have e31:us 118=.pointer (some ⟨g,2,none⟩):=hp 31 zX;rw [e31] at hK⊢;obtain ⟨a2,c2,ea,ho,hn⟩:∃a2 c2,us 112=.slice a2 ((aO A.plain).length+1) c2∧aL wj B 3 1 (us 112) ((aO A.plain)++([[.int .i64 Q]]:List (List Value)))∧∀k,(us 112).ownBlock=some k→(.slice (some ⟨gp,0,none⟩) A.nodes.length cpp:Value).ownBlock=some k∨w7.heap.size≤k:=hp 23 zX;rw [ea] at hK⊢;rw [ea] at ho hn;obtain ⟨x,y,z,hr⟩:=hpr;have hr:=(show aF wj g 118 [x,y,z,.map (some bm),.pointer (some ⟨gm,0,none⟩)] from hr);have ff:=hr.frozen 2;have cc:=hr.cell 2;go_simp
      refine hK.out undef _ ?_ ?_ ?_
      ·exact⟨⟨_,_,_,hr⟩,_,rfl⟩
      ·exact tO
      ·exact⟨a2,c2,x,y,ho.keep ((aA.refl (One g) wj).set1 2 _) (fun b hb hm=>ho.tyE hr zY yF),hn,hr.set 2 _⟩
     refine aW.succ (n:=31) rfl ?os31 ?ot31
     case os31=>
      intro us wj hk hpr hp K hK;rw [if_pos zU];rw [hJP] at hpr;rw [hJF,hJR] at hK;rw [hJF] at hp;subst hJ;have e30:us 117=.pointer (some ⟨g,0,none⟩):=hp 30 zX;rw [e30] at hK⊢;go_simp
      refine hK.out _ _ ?_ ?_ ?_
      ·exact rfl
      ·exact hk
      ·exact rfl
     refine aW.succ (n:=30) rfl ?os30 ?ot30
     case os30=>
      intro us wj hk hpr hp K hK;rw [if_pos zU];rw [hJP] at hpr;rw [hJF,hJR] at hK;rw [hJF] at hp;subst hJ;have e2:us 91=.pointer (some ⟨g,0,none⟩):=hp 2 zX;rw [e2] at hK⊢;go_simp
      refine hK.out _ _ ?_ ?_ ?_
      ·exact rfl
      ·exact hk
      ·exact rfl
     refine aW.succ (n:=29) rfl ?os29 ?ot29
     case os29=>
      intro us wj hk hpr hp K hK;rw [if_pos zU];rw [hJP] at hpr;rw [hJF,hJR] at hK;rw [hJF] at hp;subst hJ;have e28:us 116=.pointer (some ⟨g,1,none⟩):=hp 28 zX;rw [e28] at hK⊢;obtain ⟨a2,c2,ea,ho,hn⟩:∃a2 c2,us 105=.slice a2 (fe.length+1) c2∧aL wj B 56 1 (us 105) (fe++([[.slice fa fn fc]]:List (List Value)))∧∀k,(us 105).ownBlock=some k→(.slice (some ⟨gf,0,none⟩) A.nodes.length cf:Value).ownBlock=some k∨w7.heap.size≤k:=hp 16 zX;rw [ea] at hK⊢;rw [ea] at ho hn;obtain ⟨x,y,z,hr⟩:=hpr;have hr:=(show aF wj g 118 [x,y,z,.map (some bm),.pointer (some ⟨gm,0,none⟩)] from hr);have ff:=hr.frozen 1;have cc:=hr.cell 1;go_simp
      refine hK.out undef _ ?_ ?_ ?_
      ·exact⟨⟨_,_,_,hr⟩,_,rfl⟩
      ·exact tO
      ·exact⟨a2,c2,x,z,ho.keep ((aA.refl (One g) wj).set1 1 _) (fun b hb hm=>ho.tyE hr zY yF),hn,hr.set 1 _⟩
     refine aW.succ (n:=28) rfl ?os28 ?ot28
     case os28=>
      intro us wj hk hpr hp K hK;rw [if_pos zU];rw [hJP] at hpr;rw [hJF,hJR] at hK;rw [hJF] at hp;subst hJ;have e27:us 115=.pointer (some ⟨g,0,none⟩):=hp 27 zX;rw [e27] at hK⊢;go_simp
      refine hK.out _ _ ?_ ?_ ?_
      ·exact rfl
      ·exact hk
      ·exact rfl
     refine aW.succ (n:=27) rfl ?os27 ?ot27
     case os27=>
      intro us wj hk hpr hp K hK;rw [if_pos zU];rw [hJP] at hpr;rw [hJF,hJR] at hK;rw [hJF] at hp;subst hJ;have e1:us 90=.pointer (some ⟨g,0,none⟩):=hp 1 zX;rw [e1] at hK⊢;go_simp
      refine hK.out _ _ ?_ ?_ ?_
      ·exact rfl
      ·exact hk
      ·exact rfl
     refine aW.succ (n:=26) rfl ?os26 ?ot26
     case os26=>
      intro us wj hk hpr hp K hK;rw [if_pos zU];rw [hJP] at hpr;rw [hJF,hJR] at hK;rw [hJF] at hp;subst hJ;have e25:us 114=.pointer (some ⟨g,0,none⟩):=hp 25 zX;rw [e25] at hK⊢;obtain ⟨a2,c2,ea,ho,hn⟩:∃a2 c2,us 98=.slice a2 (ne.length+1) c2∧aL wj B 59 8 (us 98) (ne++([[.int .i64 N.kind,.bool gd,.slice ad nd cd,.slice ap np cp,.bool gk,.slice ak nk ck,.int .i64 N.var,.slice aq nq cq]]:List (List Value)))∧∀k,(us 98).ownBlock=some k→(.slice (some ⟨gn,0,none⟩) ne.length cn:Value).ownBlock=some k∨w7.heap.size≤k:=hp 9 zX;rw [ea] at hK⊢;rw [ea] at ho hn;obtain ⟨x,y,z,hr⟩:=hpr;have hr:=(show aF wj g 118 [x,y,z,.map (some bm),.pointer (some ⟨gm,0,none⟩)] from hr);have ff:=hr.frozen 0;have cc:=hr.cell 0;go_simp
      refine hK.out undef _ ?_ ?_ ?_
      ·exact⟨⟨_,_,_,hr⟩,_,rfl⟩
      ·exact tO
      ·exact⟨a2,c2,y,z,ho.keep ((aA.refl (One g) wj).set1 0 _) (fun b hb hm=>ho.tyE hr zY yF),hn,hr.set 0 _⟩
     refine aW.succ (n:=25) rfl ?os25 ?ot25
     case os25=>
      intro us wj hk hpr hp K hK;rw [if_pos zU];rw [hJP] at hpr;rw [hJF,hJR] at hK;rw [hJF] at hp;subst hJ;have e24:us 113=.pointer (some ⟨g,0,none⟩):=hp 24 zX;rw [e24] at hK⊢;go_simp
      refine hK.out _ _ ?_ ?_ ?_
      ·exact rfl
      ·exact hk
      ·exact rfl
     refine aW.succ (n:=24) rfl ?os24 ?ot24
     case os24=>
      intro us wj hk hpr hp K hK;rw [if_pos zU];rw [hJP] at hpr;rw [hJF,hJR] at hK;rw [hJF] at hp;subst hJ;have e0:us 89=.pointer (some ⟨g,0,none⟩):=hp 0 zX;rw [e0] at hK⊢;go_simp
      refine hK.out _ _ ?_ ?_ ?_
      ·exact rfl
      ·exact hk
      ·exact rfl
     refine aW.succ (n:=23) rfl ?os23 ?ot23
     case os23=>
      intro us wj hk hpr hp K hK;rw [if_pos zU];rw [hJP] at hpr;rw [hJF,hJR] at hK;rw [hJF] at hp;subst hJ;have e20:us 109=.slice (some ⟨gp,0,none⟩) A.nodes.length cpp:=hp 20 zX;obtain ⟨b2,eb,hrb,hfar⟩:=hp 22 zX;rw [e20,show us 111=_ from eb] at hK⊢;skip
      refine DC wj (.tmp 109) (.tmp 111) 56 rfl B 3 i3 (.int .i64 0) 1 8 underlying56 HI.o.2.2.1 HI.o.2.2.2.1 HI.o.r4.1 HI.o.r5 rfl zY (.slice (some ⟨gp,0,none⟩) A.nodes.length cpp) (aO A.plain) rfl hpr ⟨b2,0,none⟩ 1 1 [[.int .i64 Q]] rfl rfl zW (EU hrb) yO xX xX tF ?_;intro v' w' ho hk2 hf2;obtain ⟨a2,c2,ev⟩:=ho.isSlice;rw [aZ1] at ev;refine hK.out _ _ ?_ ?_ ?_
      ·exact⟨hpr,hk2⟩
      ·exact hk.trans' hk2 (fun b hb=>.inl (.inr (.inr (.inl hb))))
      ·exact xJ
     refine aW.succ (n:=22) rfl ?os22 ?ot22
     case os22=>
      intro us wj hk hpr hp K hK;rw [if_pos zU];rw [hJP] at hpr;rw [hJF,hJR] at hK;rw [hJF] at hp;subst hJ;have e21:us 110=.int .i64 Q:=hp 21 zX;rw [e21] at hK⊢;go_simp
      refine hK.out _ _ ?_ ?_ ?_
      ·exact kOf
      ·exact hk.trans kkA
      ·exact⟨wj.heap.size,rfl,aF.alloc (w:=wj) (xs:=[.int .i64 Q]),HFAR.o _ hk.size⟩
     refine aW.succ (n:=21) rfl ?os21 ?ot21
     case os21=>exact zR
     refine aW.succ (n:=20) rfl ?os20 ?ot20
     case os20=>
      intro us wj hk hpr hp K hK;rw [if_pos zU];rw [hJP] at hpr;rw [hJF,hJR] at hK;rw [hJF] at hp;subst hJ;have e19:us 108=.pointer (some ⟨g,2,none⟩):=hp 19 zX;rw [e19] at hK⊢;obtain ⟨y,z,hr⟩:=hpr;have c20:=aF.cell hr 2;go_simp
      refine hK.out _ _ ?_ ?_ ?_
      ·exact rfl
      ·exact hk
      ·exact rfl
     refine aW.succ (n:=19) rfl ?os19 ?ot19
     case os19=>
      intro us wj hk hpr hp K hK;rw [if_pos zU];rw [hJP] at hpr;rw [hJF,hJR] at hK;rw [hJF] at hp;subst hJ;have e18:us 107=.pointer (some ⟨g,0,none⟩):=hp 18 zX;rw [e18] at hK⊢;go_simp
      refine hK.out _ _ ?_ ?_ ?_
      ·exact rfl
      ·exact hk
      ·exact rfl
     refine aW.succ (n:=18) rfl ?os18 ?ot18
     case os18=>
      intro us wj hk hpr hp K hK;rw [if_pos zU];rw [hJP] at hpr;rw [hJF,hJR] at hK;rw [hJF] at hp;subst hJ;have e17:us 106=.pointer (some ⟨g,0,none⟩):=hp 17 zX;rw [e17] at hK⊢;go_simp
      refine hK.out _ _ ?_ ?_ ?_
      ·exact rfl
      ·exact hk
      ·exact rfl
     refine aW.succ (n:=17) rfl ?os17 ?ot17
     case os17=>exact zR
     refine aW.succ (n:=16) rfl ?os16 ?ot16
     case os16=>
      intro us wj hk hpr hp K hK;rw [if_pos zU];rw [hJP] at hpr;rw [hJF,hJR] at hK;rw [hJF] at hp;subst hJ;have e13:us 102=.slice (some ⟨gf,0,none⟩) A.nodes.length cf:=hp 13 zX;obtain ⟨b2,eb,hrb,hfar⟩:=hp 15 zX;rw [e13,show us 104=_ from eb] at hK⊢;skip
      refine DC wj (.tmp 102) (.tmp 104) 115 rfl B 56 i2 (.slice none 0 0) 1 24 underlying115 HI.o.2.1.1 HI.o.2.1.2.1 HI.o.2.1.2.2.1 HI.o.2.1.2.2.2 rfl zY (.slice (some ⟨gf,0,none⟩) A.nodes.length cf) fe rfl hpr ⟨b2,0,none⟩ 1 1 [[.slice fa fn fc]] rfl rfl zW (EU hrb) yO xX xX tF ?_;intro v' w' ho hk2 hf2;obtain ⟨a2,c2,ev⟩:=ho.isSlice;rw [aZ1] at ev;refine hK.out _ _ ?_ ?_ ?_
      ·exact⟨hpr,hk2⟩
      ·exact hk.trans' hk2 (fun b hb=>.inl (.inr (.inl hb)))
      ·exact xJ
     refine aW.succ (n:=15) rfl ?os15 ?ot15
     case os15=>
      intro us wj hk hpr hp K hK;rw [if_pos zU];rw [hJP] at hpr;rw [hJF,hJR] at hK;rw [hJF] at hp;subst hJ;have e14:us 103=.slice fa fn fc:=hp 14 zX;rw [e14] at hK⊢;go_simp
      refine hK.out _ _ ?_ ?_ ?_
      ·exact kOf
      ·exact hk.trans kkA
      ·exact⟨wj.heap.size,rfl,aF.alloc (w:=wj) (xs:=[.slice fa fn fc]),HFAR.o _ hk.size⟩
     refine aW.succ (n:=14) rfl ?os14 ?ot14
     case os14=>exact zR
     refine aW.succ (n:=13) rfl ?os13 ?ot13
     case os13=>
      intro us wj hk hpr hp K hK;rw [if_pos zU];rw [hJP] at hpr;rw [hJF,hJR] at hK;rw [hJF] at hp;subst hJ;have e12:us 101=.pointer (some ⟨g,1,none⟩):=hp 12 zX;rw [e12] at hK⊢;obtain ⟨y,z,hr⟩:=hpr;have c13:=aF.cell hr 1;go_simp
      refine hK.out _ _ ?_ ?_ ?_
      ·exact rfl
      ·exact hk
      ·exact rfl
     refine aW.succ (n:=12) rfl ?os12 ?ot12
     case os12=>
      intro us wj hk hpr hp K hK;rw [if_pos zU];rw [hJP] at hpr;rw [hJF,hJR] at hK;rw [hJF] at hp;subst hJ;have e11:us 100=.pointer (some ⟨g,0,none⟩):=hp 11 zX;rw [e11] at hK⊢;go_simp
      refine hK.out _ _ ?_ ?_ ?_
      ·exact rfl
      ·exact hk
      ·exact rfl
     refine aW.succ (n:=11) rfl ?os11 ?ot11
     case os11=>
      intro us wj hk hpr hp K hK;rw [if_pos zU];rw [hJP] at hpr;rw [hJF,hJR] at hK;rw [hJF] at hp;subst hJ;have e10:us 99=.pointer (some ⟨g,0,none⟩):=hp 10 zX;rw [e10] at hK⊢;go_simp
      refine hK.out _ _ ?_ ?_ ?_
      ·exact rfl
      ·exact hk
      ·exact rfl
     refine aW.succ (n:=10) rfl ?os10 ?ot10
     case os10=>exact zR
     refine aW.succ (n:=9) rfl ?os9 ?ot9
     case os9=>
      intro us wj hk hpr hp K hK;rw [if_pos zU];rw [hJP] at hpr;rw [hJF,hJR] at hK;rw [hJF] at hp;subst hJ;have e6:us 95=.slice (some ⟨gn,0,none⟩) ne.length cn:=hp 6 zX;obtain ⟨b2,eb,hrb,hfar⟩:=hp 8 zX;rw [e6,show us 97=_ from eb] at hK⊢;skip
      refine DC wj (.tmp 95) (.tmp 97) 114 rfl B 59 i1 (.agg #[.int .i64 0,.bool false,.slice none 0 0,.slice none 0 0,.bool false,.slice none 0 0,.int .i64 0,.slice none 0 0]) 8 128 underlying114 HI.o.1.1 HI.o.1.2.1 HI.o.1.2.2.1 HI.o.1.2.2.2 rfl zY (.slice (some ⟨gn,0,none⟩) ne.length cn) ne rfl hpr ⟨b2,0,none⟩ 1 1 [[.int .i64 N.kind,.bool gd,.slice ad nd cd,.slice ap np cp,.bool gk,.slice ak nk ck,.int .i64 N.var,.slice aq nq cq]] rfl rfl zW (EU hrb) yO xX xX tF ?_;intro v' w' ho hk2 hf2;obtain ⟨a2,c2,ev⟩:=ho.isSlice;rw [aZ1] at ev;refine hK.out _ _ ?_ ?_ ?_
      ·exact⟨hpr,hk2⟩
      ·exact hk.trans' hk2 (fun b hb=>.inl (.inl hb))
      ·exact xJ
     refine aW.succ (n:=8) rfl ?os8 ?ot8
     case os8=>
      intro us wj hk hpr hp K hK;rw [if_pos zU];rw [hJP] at hpr;rw [hJF,hJR] at hK;rw [hJF] at hp;subst hJ;have e7:us 96=.agg #[.int .i64 N.kind,.bool gd,.slice ad nd cd,.slice ap np cp,.bool gk,.slice ak nk ck,.int .i64 N.var,.slice aq nq cq]:=hp 7 zX;rw [e7] at hK⊢;go_simp
      refine hK.out _ _ ?_ ?_ ?_
      ·exact kOf
      ·exact hk.trans kkA
      ·exact⟨wj.heap.size,rfl,aF.alloc (w:=wj) (xs:=[.int .i64 N.kind,.bool gd,.slice ad nd cd,.slice ap np cp,.bool gk,.slice ak nk ck,.int .i64 N.var,.slice aq nq cq]),HFAR.o _ hk.size⟩
     refine aW.succ (n:=7) rfl ?os7 ?ot7
     case os7=>
      intro us wj hk hpr hp K hK;rw [if_pos zU];rw [hJP] at hpr;rw [hJF,hJR] at hK;rw [hJF] at hp;subst hJ;have c0:=aF.cell (show aF wj w.heap.size 59 [.int .i64 N.kind,.bool gd,.slice ad nd cd,.slice ap np cp,.bool gk,.slice ak nk ck,.int .i64 N.var,.slice aq nq cq] from hpr) 0;have c1:=aF.cell (show aF wj w.heap.size 59 [.int .i64 N.kind,.bool gd,.slice ad nd cd,.slice ap np cp,.bool gk,.slice ak nk ck,.int .i64 N.var,.slice aq nq cq] from hpr) 1;have c2:=aF.cell (show aF wj w.heap.size 59 [.int .i64 N.kind,.bool gd,.slice ad nd cd,.slice ap np cp,.bool gk,.slice ak nk ck,.int .i64 N.var,.slice aq nq cq] from hpr) 2;have c3:=aF.cell (show aF wj w.heap.size 59 [.int .i64 N.kind,.bool gd,.slice ad nd cd,.slice ap np cp,.bool gk,.slice ak nk ck,.int .i64 N.var,.slice aq nq cq] from hpr) 3;have c4:=aF.cell (show aF wj w.heap.size 59 [.int .i64 N.kind,.bool gd,.slice ad nd cd,.slice ap np cp,.bool gk,.slice ak nk ck,.int .i64 N.var,.slice aq nq cq] from hpr) 4;have c5:=aF.cell (show aF wj w.heap.size 59 [.int .i64 N.kind,.bool gd,.slice ad nd cd,.slice ap np cp,.bool gk,.slice ak nk ck,.int .i64 N.var,.slice aq nq cq] from hpr) 5;have c6:=aF.cell (show aF wj w.heap.size 59 [.int .i64 N.kind,.bool gd,.slice ad nd cd,.slice ap np cp,.bool gk,.slice ak nk ck,.int .i64 N.var,.slice aq nq cq] from hpr) 6;have c7:=aF.cell (show aF wj w.heap.size 59 [.int .i64 N.kind,.bool gd,.slice ad nd cd,.slice ap np cp,.bool gk,.slice ak nk ck,.int .i64 N.var,.slice aq nq cq] from hpr) 7;go_simp
      refine hK.out _ _ ?_ ?_ ?_
      ·exact rfl
      ·exact hk
      ·exact rfl
     refine aW.succ (n:=6) rfl ?os6 ?ot6
     case os6=>
      intro us wj hk hpr hp K hK;rw [if_pos zU];rw [hJP] at hpr;rw [hJF,hJR] at hK;rw [hJF] at hp;subst hJ;have e5:us 94=.pointer (some ⟨g,0,none⟩):=hp 5 zX;rw [e5] at hK⊢;obtain ⟨y,z,hr⟩:=hpr;have c6:=aF.cell hr 0;go_simp
      refine hK.out _ _ ?_ ?_ ?_
      ·exact rfl
      ·exact hk
      ·exact rfl
     refine aW.succ (n:=5) rfl ?os5 ?ot5
     case os5=>
      intro us wj hk hpr hp K hK;rw [if_pos zU];rw [hJP] at hpr;rw [hJF,hJR] at hK;rw [hJF] at hp;subst hJ;have e4:us 93=.pointer (some ⟨g,0,none⟩):=hp 4 zX;rw [e4] at hK⊢;go_simp
      refine hK.out _ _ ?_ ?_ ?_
      ·exact rfl
      ·exact hk
      ·exact rfl
     refine aW.succ (n:=4) rfl ?os4 ?ot4
     case os4=>
      intro us wj hk hpr hp K hK;rw [if_pos zU];rw [hJP] at hpr;rw [hJF,hJR] at hK;rw [hJF] at hp;subst hJ;have e3:us 92=.pointer (some ⟨g,0,none⟩):=hp 3 zX;rw [e3] at hK⊢;go_simp
      refine hK.out _ _ ?_ ?_ ?_
      ·exact rfl
      ·exact hk
      ·exact rfl
     refine aW.succ (n:=3) rfl ?os3 ?ot3
     case os3=>exact zR
     refine aW.succ (n:=2) rfl ?os2 ?ot2
     case os2=>exact zR
     refine aW.succ (n:=1) rfl ?os1 ?ot1
     case os1=>exact zR
     refine aW.succ (n:=0) rfl ?os0 ?ot0
     case os0=>exact zR
     exact aW.zero
    case' ofin=>
     intro us w8 hk8 hf8;simp only [aQ,Act.put,List.setIfInBounds_toArray,List.set_cons_zero,List.set_cons_succ]
    rw [hJF,hJ] at hf8;obtain ⟨a8,c8,y8,z8,oN8,nN8,r8⟩:=hf8 26 zY;obtain ⟨a9,c9,x9,z9,oF9,nF9,r9⟩:=hf8 29 zY;obtain ⟨a10,c10,x10,y10,oP10,nP10,r10⟩:=hf8 32 zY;clear hJF hJP hJR hJ hf8;have q1:y8=.slice a9 (fe.length+1) c9:=lZ2 ((r8.cell 1).symm.trans (r9.cell 1));have q2:z8=.slice a10 ((aO A.plain).length+1) c10:=lZ2 ((r8.cell 2).symm.trans (r10.cell 2));subst q1;subst q2;have H8:=jJ (aI8 oN8 nN8 r8 oF9 nF9 oP10 nP10 hk8);clear oN8 nN8 r8 oF9 nF9 r9 oP10 nP10 r10 hk8;have hA2:=H2.o.2.2.1;have hA0:=HA.o.r12;have hown0:∀b,O b→b<w00.heap.size:=fun b hb=>(hA0.inO b hb).2;have hk8:=H8.o.r7;have k27:=H7.o.r4;have hw78:w7.heap.size≤w8.heap.size:=hk8.size;have hk3:=H3.o.2.1.size;have hk37:=H7.o.2.2.2.1.size;have k28:aA (Mut g (.slice (some ⟨gn,0,none⟩) ne.length cn) (.slice (some ⟨gf,0,none⟩) A.nodes.length cf) (.slice (some ⟨gp,0,none⟩) A.nodes.length cpp) bm) w2 w8:=(k27.mono fun b hb=>.inr (.inr (.inr (.inr hb)))).trans (hk8.mono fun b hb=>by
     rcases hb with hb|hb|hb|hb
     ·exact .inr (.inl hb)
     ·exact .inr (.inr (.inl hb))
     ·exact .inr (.inr (.inr (.inl hb)))
     ·exact .inl hb)
    have hmut:∀b,Mut g (.slice (some ⟨gn,0,none⟩) ne.length cn) (.slice (some ⟨gf,0,none⟩) A.nodes.length cf) (.slice (some ⟨gp,0,none⟩) A.nodes.length cpp) bm b→b<w00.heap.size:=fun b hb=>hown0 b (hA2.mine b hb);have hmap:mO prog 9 3 w8 bm (A.cnt+1) (fK (A.nodes++[N])):=by
     rw [aWJ h2 HA.o.r5.1,←hA2.nl];refine (H3.o.1.keep H7.o.2.2.2.1 id).keep hk8 fun hb=>?_;rcases hb with hb|hb|hb|hb
     ·exact hA2.nodes.nV hA2.map hb
     ·exact hA2.free.nV hA2.map hb
     ·exact hA2.plain.nV hA2.map hb
     ·exact hA2.row.nV hA2.map hb.symm
    obtain ⟨O',hO'⟩:∃O':Nat→Prop,O'=fun b=>O b∨(w00.heap.size≤b∧b<w1.heap.size)∨(w2.heap.size≤b∧b<w8.heap.size):=⟨_,rfl⟩;have i1':∀b,O b→O' b:=fun b hb=>by rw [hO'];exact .inl hb
    have i2':∀b,w2.heap.size≤b→b<w8.heap.size→O' b:=fun b h1 h2=>by rw [hO'];exact .inr (.inr ⟨h1,h2⟩)
    have i3':∀b,w00.heap.size≤b→b<w1.heap.size→O' b:=fun b h1 h2=>by rw [hO'];exact .inr (.inl ⟨h1,h2⟩)
    have i4':∀b,O' b→O b∨(w00.heap.size≤b∧b<w1.heap.size)∨(w2.heap.size≤b∧b<w8.heap.size):=fun b hb=>by rw [hO'] at hb;exact hb
    have hBw:B≤w00.heap.size:=by have h1:=(hA0.inO g (hA0.mine g (.inl rfl))).1;omega
    clear hO';have hin:∀b,O' b→B≤b∧b<w8.heap.size:=fun b hb=>by
     rcases i4' b hb with hb|hb|hb
     ·have h1:=hA0.inO b hb;exact⟨h1.1,zZ⟩
     ·exact⟨zZ,zZ⟩
     ·exact⟨zZ,hb.2⟩
    have hnot:¬O' gm:=fun hb=>by
     rcases i4' gm hb with hb|hb|hb
     ·exact hA0.notM hb
     ·omega
     ·omega
    have nN8:∀b,(Value.slice a8 (ne.length+1) c8).ownBlock=some b→(.slice (some ⟨gn,0,none⟩) ne.length cn:Value).ownBlock=some b∨w7.heap.size≤b:=H8.o.2.1;have nF9:∀b,(Value.slice a9 (fe.length+1) c9).ownBlock=some b→(.slice (some ⟨gf,0,none⟩) A.nodes.length cf:Value).ownBlock=some b∨w7.heap.size≤b:=H8.o.r4.1;have nP10:∀b,(Value.slice a10 ((aO A.plain).length+1) c10).ownBlock=some b→(.slice (some ⟨gp,0,none⟩) A.nodes.length cpp:Value).ownBlock=some b∨w7.heap.size≤b:=H8.o.r6.1;have hmut':∀b,Mut g (.slice a8 (ne.length+1) c8) (.slice a9 (fe.length+1) c9) (.slice a10 ((aO A.plain).length+1) c10) bm b→b<w00.heap.size∨w7.heap.size≤b:=fun b hb=>by
     rcases hb with hb|hb|hb|hb|hb
     ·exact .inl zZ
     ·exact (nN8 b hb).imp (fun h=>hmut b (.inr (.inl h))) id
     ·exact (nF9 b hb).imp (fun h=>hmut b (.inr (.inr (.inl h)))) id
     ·exact (nP10 b hb).imp (fun h=>hmut b (.inr (.inr (.inr (.inl h))))) id
     ·exact .inl zZ
    have kX:aA (fun b=>b=gm∨Mut g (.slice (some ⟨gn,0,none⟩) ne.length cn) (.slice (some ⟨gf,0,none⟩) A.nodes.length cf) (.slice (some ⟨gp,0,none⟩) A.nodes.length cpp) bm b) w w8:=((HN.o.2.of_nil).trans (H2.o.2.1.mono fun b hb=>.inl hb)).trans (k28.mono fun b hb=>.inr hb);have hnode:iU (Off O' g (.slice a8 (ne.length+1) c8) (.slice a9 (fe.length+1) c9) (.slice a10 ((aO A.plain).length+1) c10) bm) w8 [.int .i64 N.kind,.bool gd,.slice ad nd cd,.slice ap np cp,.bool gk,.slice ak nk ck,.int .i64 N.var,.slice aq nq cq] N:=by
     refine ⟨_,_,_,_,_,_,_,_,_,_,_,_,_,_,rfl,HA.o.2.2.1.move kX (fun b _ hb=>?_) fun b hb ho=>?_⟩
     ·rcases hb with hb|hb
      ·show b<w00.heap.size
       omega
      ·exact hmut b hb
     ·show b<w00.heap.size
      rcases ho with ho|ho
      ·rcases hmut' b ho with h1|h1
       ·exact h1
       ·omega
      ·rcases Nat.lt_or_ge b w00.heap.size with h1|h1
       ·exact h1
       ·exact absurd (i3' b h1 zZ) ho
    have hof:=H7.o.2.2.1;have hof8:=hof.keep hk8 fun b hb hm=>by
     have h1:=(hof.lt b hb).1;have h2:b<w00.heap.size:=by
      rcases hm with hm|hm|hm|hm
      ·exact hmut b (.inr (.inl hm))
      ·exact hmut b (.inr (.inr (.inl hm)))
      ·exact hmut b (.inr (.inr (.inr (.inl hm))))
      ·exact hmut b (.inl hm)
     omega
    have hnums:FN (Off O' g (.slice a8 (ne.length+1) c8) (.slice a9 (fe.length+1) c9) (.slice a10 ((aO A.plain).length+1) c10) bm) w8 [.slice fa fn fc] (eF A N):=by
     obtain ⟨a',c',e',h'⟩:=aL.sl (M:=Off O' g (.slice a8 (ne.length+1) c8) (.slice a9 (fe.length+1) c9) (.slice a10 ((aO A.plain).length+1) c10) bm) (R:=RI) (d:=0) (xs:=eF A N) hof8 (fun b hb ho=>by
      have h1:=hof.lt b hb;rcases ho with ho|ho
      ·rcases hmut' b ho with h2|h2
       ·omega
       ·omega
      ·exact ho (i2' b zZ zZ)) vA (fun i hi=>by
       rw [aJ] at hi;simp [RI,aO,List.getD,hi])
     rw [e'];exact⟨_,_,_,rfl,h'⟩
    have hadd:=kJ.add (O':=O') hA2 k28 H8.o.2.2.1 H8.o.1 H8.o.2.2.2.1 (q:=Q) (by rw [FZ];exact H8.o.r5.1) hmap (fun b hb=>(nN8 b hb).imp id fun h=>bZ1 hw27 h) (fun b hb=>(nF9 b hb).imp id fun h=>bZ1 hw27 h) (fun b hb=>(nP10 b hb).imp id fun h=>bZ1 hw27 h) i1' i2' hin hnot hnode hnums;have hmet:bR (fun b=>M0 b∨O' b) w8 gm nodes limbs (dN nodes limbs sp ov xs).1 (dN nodes limbs sp ov xs).2.1:=by
     have h1:=H2.o.1;rw [HM1.o] at h1;refine h1.move k28 (fun b _ hb=>.inl (HA.o.r9.1 b (hA2.mine b hb))) fun b hb ho=>?_;rcases ho with ho|ho
     ·exact .inl ho
     ·rcases i4' b ho with ho|ho|ho
      ·exact .inl (HA.o.r9.1 b ho)
      ·exact .inr ho
      ·omega
    have hkk:aA (fun b=>O b∨b=gm) w w8:=kX.mono fun b hb=>hb.elim .inr fun h=>.inl (hA2.mine b h);have hq:(⟨A.nodes++[N],A.free++[eF A N],A.plain++[Q],A.cnt+1⟩:aC)=fQ A N:=by rw [HFN.o.2];rfl
    rw [hq] at hadd;have hge:∀b,O' b→O b∨w00.heap.size≤b:=fun b hb=>by
     rcases i4' b hb with hb|hb|hb
     ·exact .inl hb
     ·exact .inr hb.1
     ·exact .inr zZ
    have HZ:=jJ (aI6 hadd i1' hge hmet hkk hA2.nl);clear hA2 hA0 hown0 hk8 k27 hw78 hk3 hk37 k28 hmut hmap i1' i2' i3' i4' hBw hin hnot nN8 nF9 nP10 hmut' kX hnode hof hof8 hnums hadd hmet hkk hq hge;go_wp2_with fail
    go_ret2
    exact⟨by rw [HZ.o.r5];exact rfl,⟨O',_,_,_,_,_,HZ.o.1,HZ.o.2.1,HZ.o.2.2.1,HZ.o.2.2.2.1⟩,HZ.o.r4.1⟩
end Go.Proofs.Q
