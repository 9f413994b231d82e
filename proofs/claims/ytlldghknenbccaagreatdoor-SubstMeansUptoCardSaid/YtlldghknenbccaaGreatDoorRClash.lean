/- What simp's clash does. -/
import Derived.Test.YtlldghknenbccaaGreatDoorRJoinA
set_option linter.unusedSimpArgs false
set_option linter.unusedVariables false
set_option maxRecDepth 100000
set_option maxHeartbeats 4000000
namespace Go.Proofs.Q
open Go.RowKit Tryz
theorem aJP:eP (2:Int).natAbs*4+4≤140737488355328:=by
 have:eP (2:Int).natAbs≤1:=dD zY;omega
theorem aZM {a:Int}:a.sign > 0↔0<a:=Int.sign_pos_iff
theorem aER {M M2:Nat→Prop} {w:World} {cs cs2:List Value} {x y:aS} {kind:Int} (h:iU M w cs x) (h2:iU M2 w cs2 y) (hz:IV x) (hz2:IV y) (hkd:kind=5∨kind=6) :
  Calls prog 153 #[.int .i64 kind,.agg cs.toArray,.agg cs2.toArray] w fun e w'=>e=.returned (.bool (AU kind x y))∧aA Nil w w':=by
 obtain ⟨gd,ad,nd,cd,ap,np,cp,gk,ak,nk,ck,aq,nq,cq,rfl,hn⟩:=h;obtain ⟨hd,bd,md,dd,bp,mp,dp,hk,bk,mk,dk,bq,mq,dq,rfl,hn2⟩:=h2;have hal:=fun (W:World) (k:aA Nil w W)=>aGG (gk:=gk) (hk:=hk) (ak:=ak) (nk:=nk) (ck:=ck) (bk:=bk) (mk:=mk) (dk:=dk) (turned:=true) (hn.t.1.eO k) (hn2.t.1.eO k);have hl1:=hn.t.2.len;have hl2:=hn2.t.2.len;have had:=fun (W:World) (k:aA Nil w W)=>CP (M:=Nil) (MB.nil W) ((hn.t.2.zat vR).eO k) ((hn2.t.2.zat wA).eO k) vR wA;have hcm:=fun (W:World) (k:aA Nil w W)=>ER ((hn.d.zat (by have:=hz.size.d;omega)).eO k) ((hn2.d.zat (by have:=hz2.size.d;omega)).eO k);have hor:=fun (W:World) (k:aA Nil w W)=>aCQ ((cV.raw hn.t.1 hz.size.nums).eO k) ((hn.t.2.zat vR).eO k) ((cV.raw hn2.t.1 hz2.size.nums).eO k) ((hn2.t.2.zat wA).eO k) vR (by have:=eU.len hn.t.1;have:=hz.size.parts;omega) wA (by have:=eU.len hn2.t.1;have:=hz2.size.parts;omega) (by rw [show (⟨x.t.parts,x.t.k⟩:aV)=x.t from rfl,eE hz.fZ];exact⟨fun p hp=>by have:=hz.size.nums p hp;omega,vR⟩) (by rw [show (⟨y.t.parts,y.t.k⟩:aV)=y.t from rfl,eE hz2.fZ];exact⟨fun p hp=>by have:=hz2.size.nums p hp;omega,wA⟩);rw [show (⟨x.t.parts,x.t.k⟩:aV)=x.t from rfl,eE hz.fZ,show (⟨y.t.parts,y.t.k⟩:aV)=y.t from rfl,eE hz2.fZ] at hor;have hsum:eP (x.t.k+y.t.k).natAbs*4+4≤140737488355328:=by have h1:=dK x.t.k y.t.k;have:=hz.size.k;have:=hz2.size.k;omega
 have hc0:fT x.d y.d=0↔x.d=y.d:=bAD;obtain ⟨u,hu⟩:∃u,u=x.kind:=⟨_,rfl⟩;obtain ⟨v,hv⟩:∃v,v=y.kind:=⟨_,rfl⟩;obtain ⟨r,hr⟩:∃r,r=kH x.t.parts y.t.parts true:=⟨_,rfl⟩;obtain ⟨s,hs⟩:∃s,s=x.t.k+y.t.k:=⟨_,rfl⟩;obtain ⟨m,hm⟩:∃m,m=fT x.d y.d:=⟨_,rfl⟩;obtain ⟨o,ho⟩:∃o,o=kE x.t y.t:=⟨_,rfl⟩;have hW:AU kind x y=if u=2∧v=2 then (if r=false then false else decide (kind=5∧s<2)||decide (kind=6∧0<s)) else if (u=3∧v=4)∨(u=4∧v=3) then decide (m=0)&&decide (o=0) else false:=by
  rw [hu,hv,hr,hs,hm,ho];simp only [hc0];rfl
 rw [hW,←hu,←hv];rw [←hr] at hal;rw [←hs] at had hsum;rw [←hm] at hcm;rw [←ho] at hor;generalize x.var=xv;generalize y.var=yv;have HC:=jJ (aI5 hal had hcm hor hsum);clear hal had hcm hor hsum hu hv hr hs hm ho hW hc0 hn hn2 hz hz2 hl1 hl2;go_enter func153,ntmps153
 go_upto_region 1 with (fail)
 obtain ⟨w0,e_1,k0,r0,r1⟩:=bx2 w 59 [.int .i64 u,.bool gd,.slice ad nd cd,.slice ap np cp,.bool gk,.slice ak nk ck,.int .i64 xv,.slice aq nq cq] 59 [.int .i64 v,.bool hd,.slice bd md dd,.slice bp mp dp,.bool hk,.slice bk mk dk,.int .i64 yv,.slice bq mq dq];rw [e_1];clear e_1;obtain ⟨d0,d1,d2,d3,d4,d5,d6,d7⟩:=r0.fV;obtain ⟨e0,e1,e2,e3,e4,e5,e6,e7⟩:=r1.fV;have HB:=jJ (aI3 r0 r1 k0);clear r0 r1 k0;by_cases hless:u=2∧v=2
 ·obtain ⟨rfl,rfl⟩:=hless;cases r
  ·go_wp2_with (go_at_call 194;refine (HC.o.1 _ HB.o.2.2).mono ?_;rintro e w1 ⟨rfl,hk1⟩;have H1:=jJ hk1;clear hk1)
   go_ret
   exact⟨dF (by first|rfl|simp),HB.o.2.2.trans H1.o⟩
  ·go_upto_region 5 with (first|(go_at_call 194;refine (HC.o.1 _ HB.o.2.2).mono ?_;rintro e w1 ⟨rfl,hk1⟩;have q0:=HB.o.1.keep hk1 id;have q1:=HB.o.2.1.keep hk1 id;obtain ⟨f0,f1,f2,f3,f4,f5,f6,f7⟩:=q0.fV;obtain ⟨g0,g1,g2,g3,g4,g5,g6,g7⟩:=q1.fV;have H1:=jJ (HB.o.2.2.trans hk1);clear hk1 q0 q1)|(go_at_call 86;refine (HC.o.2.1 _ H1.o).mono ?_;rintro e w2 ⟨gs,asl,ns,csl,rfl,hs2,hk2⟩;have H2:=jJ (aI hs2 (H1.o.trans hk2));clear hs2 hk2))
   have rp:=aF.alloc (w:=w2) (E:=25) (xs:=[.bool gs,.slice asl ns csl]);change aF (w2.alloc (.cells #[.bool gs,.slice asl ns csl] 25)) _ _ _ at rp;have kb:aA Nil w2 (w2.alloc (.cells #[.bool gs,.slice asl ns csl] 25)):=kOf;generalize w2.alloc (.cells #[.bool gs,.slice asl ns csl] 25)=wb at *
   have HD:=jJ (aI3 rp (H2.o.1.eO kb) (H2.o.2.trans kb));clear rp kb;rcases hkd with rfl|rfl
   ·by_cases hs0:s<2
    ·have hcs:fT s 2<0:=XJ.2 hs0;have HS:=jJ hs0;clear hs0;have hcz:=fun (W:World) (k:aA Nil wb W) (g:Bool) (a:Option Addr) (n c:Nat) (h:ZN Nil W g a n c 2)=>ER ((HD.o.2.1.zat HC.o.r4).eO k) (h.zat aJP);generalize fT s 2=m2 at *
     have HM:=jJ hcz;clear hcz;refine aX 18 [] [30,31,32,33,34,35,36,37,38,39,40,41,42,43,44,45,46,6] [30,31,32,33,34,35,36,37,38,39,40,41,42,43,44,45,46,6] [Un (eT ?v2_0),Un (eT ?v2_1),Un (eT ?v2_2),Un (eT ?v2_3),Un (ZV Nil 2),Un (eT (.int .i64 m2)),Un (eT ?v2_6),Un (eT ?v2_7),Un (eT ?v2_8),Un (eT undef),Un (eT undef),Un (eT undef),Un (eT undef),Un (eT undef),Un (eT undef),Un (eT undef),Un (eT ?v2_16),Un (eT ?v2_17)] (aB.nx ?r2_17 (aB.nx ?r2_16 (aB.nx ?r2_15 (aB.nx ?r2_14 (aB.nx ?r2_13 (aB.nx ?r2_12 (aB.nx ?r2_11 (aB.nx ?r2_10 (aB.nx ?r2_9 (aB.nx ?r2_8 (aB.nx ?r2_7 (aB.nx ?r2_6 (aB.nx ?r2_5 (aB.nx ?r2_4 (aB.nx ?r2_3 (aB.nx ?r2_2 (aB.nx ?r2_1 (aB.nx ?r2_0 aB.zero)))))))))))))))))) ?rfn2
     case' r2_0|r2_1|r2_2|r2_3|r2_4|r2_5|r2_6|r2_7|r2_8|r2_9|r2_10|r2_11|r2_12|r2_13|r2_14|r2_15|r2_16|r2_17=>
      intro us wj hk hp K hK;try simp only [aQ,Act.put,sL] at hK⊢
      obtain ⟨y0,y1,-,-⟩:=(HD.o.1.keep hk id).two
     case' r2_0=>
      go_simp
      refine hK.out _ _ (aA.refl _ _) ?_;exact rfl
     case' r2_1=>
      have e0:us 30=_:=hp 0;rw [e0] at hK⊢;go_simp
      refine hK.out _ _ (aA.refl _ _) ?_;exact rfl
     case' r2_2=>
      have e1:us 31=_:=hp 1;rw [e1] at hK⊢;go_simp
      refine hK.out _ _ (aA.refl _ _) ?_;exact rfl
     case' r2_3=>
      have e2:us 32=_:=hp 2;rw [e2] at hK⊢;go_simp
      refine hK.out _ _ (aA.refl _ _) ?_;exact rfl
     case' r2_4=>
      have e2:us 32=_:=hp 2;rw [e2] at hK⊢;go_simp
      refine (kZ (M:=Nil) (MB.nil _) zY zY).mono ?_;rintro e wk ⟨g,a,n,c,rfl,h,hk2⟩;exact hK.out _ _ hk2 (⟨g,a,n,c,rfl,h⟩)
     case' r2_5=>
      have e2:us 32=_:=hp 2;have e3:us 33=_:=hp 3;obtain ⟨g4,a4,n4,c4,e4,h4⟩:(ZV Nil 2) (us 34) wj:=hp 4;rw [e2,e3,e4] at hK⊢;go_simp
      refine (HM.o wj hk _ _ _ _ h4).mono ?_;rintro e wk ⟨rfl,hk2⟩;exact hK.out _ _ hk2 (rfl)
     case' r2_6=>
      have e2:us 32=_:=hp 2;have e5:us 35=_:=hp 5;rw [e2,e5] at hK⊢;go_simp
      refine hK.out _ _ (aA.refl _ _) ?_;exact rfl
     case' r2_7=>
      have e2:us 32=_:=hp 2;have e6:us 36=_:=hp 6;rw [e2,e6] at hK⊢;go_simp
      refine hK.out _ _ (aA.refl _ _) ?_;exact rfl
     case' r2_8=>
      have e7:us 37=_:=hp 7;rw [e7] at hK⊢;go_simp
      refine hK.out _ _ (aA.refl _ _) ?_;exact rfl
     case' r2_9=>
      have e8:us 38=_:=hp 8;rw [e8] at hK⊢;go_simp
      refine hK.out _ _ ?_ ?_
      ·exact kkA
      ·exact rfl
     case' r2_10=>
      have e8:us 38=_:=hp 8;have e9:us 39=_:=hp 9;rw [e8,e9] at hK⊢;go_simp
      refine hK.out _ _ ?_ ?_
      ·exact kkA
      ·exact rfl
     case' r2_11=>
      have e8:us 38=_:=hp 8;have e10:us 40=_:=hp 10;rw [e8,e10] at hK⊢;go_simp
      refine hK.out _ _ ?_ ?_
      ·exact kkA
      ·exact rfl
     case' r2_12=>
      have e11:us 41=_:=hp 11;rw [e11] at hK⊢;go_simp
      refine hK.out _ _ ?_ ?_
      ·exact kkA
      ·exact rfl
     case' r2_13=>
      have e11:us 41=_:=hp 11;have e12:us 42=_:=hp 12;rw [e11,e12] at hK⊢;go_simp
      refine hK.out _ _ ?_ ?_
      ·exact kkA
      ·exact rfl
     case' r2_14=>
      have e11:us 41=_:=hp 11;have e13:us 43=_:=hp 13;rw [e11,e13] at hK⊢;go_simp
      refine hK.out _ _ ?_ ?_
      ·exact kkA
      ·exact rfl
     case' r2_15=>
      have e8:us 38=_:=hp 8;have e11:us 41=_:=hp 11;have e14:us 44=_:=hp 14;rw [e8,e11,e14] at hK⊢;go_simp
      refine hK.out _ _ ?_ ?_
      ·exact kkA
      ·exact rfl
     case' r2_16=>
      have e8:us 38=_:=hp 8;have e15:us 45=_:=hp 15;rw [e8,e15] at hK⊢;go_simp
      refine hK.out _ _ (aA.refl _ _) ?_;exact rfl
     case' r2_17=>
      have e16:us 46=_:=hp 16;rw [e16] at hK⊢;go_simp
      refine hK.out _ _ (aA.refl _ _) ?_;exact rfl
     case' rfn2=>
     intro us wz hkz hf;simp only [aQ,Act.put,sL];have e0:us 30=_:=hf 0;have e1:us 31=_:=hf 1;have e2:us 32=_:=hf 2;have e3:us 33=_:=hf 3;obtain ⟨g4,a4,n4,c4,e4,h4⟩:(ZV Nil 2) (us 34) wz:=hf 4;have e5:us 35=_:=hf 5;have e6:us 36=_:=hf 6;have e7:us 37=_:=hf 7;have e8:us 38=_:=hf 8;have e9:us 39=_:=hf 9;have e10:us 40=_:=hf 10;have e11:us 41=_:=hf 11;have e12:us 42=_:=hf 12;have e13:us 43=_:=hf 13;have e14:us 44=_:=hf 14;have e15:us 45=_:=hf 15;have e16:us 46=_:=hf 16;have e17:us 6=_:=hf 17;clear hf;simp only [e0,e1,e2,e3,e4,e5,e6,e7,e8,e9,e10,e11,e12,e13,e14,e15,e16,e17];clear e0 e1 e2 e3 e4 e5 e6 e7 e8 e9 e10 e11 e12 e13 e14 e15 e16 e17 us;refine aR zX ?_ _;go_wp2_with fail
     go_ret
     exact⟨dF (by first|rfl|simp [HS.o]),HD.o.2.2.trans hkz⟩
    ·have hcs:¬fT s 2<0:=fun h=>hs0 (XJ.1 h);have HS:=jJ hs0;clear hs0;have hcz:=fun (W:World) (k:aA Nil wb W) (g:Bool) (a:Option Addr) (n c:Nat) (h:ZN Nil W g a n c 2)=>ER ((HD.o.2.1.zat HC.o.r4).eO k) (h.zat aJP);generalize fT s 2=m2 at *
     have HM:=jJ hcz;clear hcz;refine aX 18 [] [30,31,32,33,34,35,36,37,38,39,40,41,42,43,44,45,46,6] [30,31,32,33,34,35,36,37,38,39,40,41,42,43,44,45,46,6] [Un (eT ?v3_0),Un (eT ?v3_1),Un (eT ?v3_2),Un (eT ?v3_3),Un (ZV Nil 2),Un (eT (.int .i64 m2)),Un (eT ?v3_6),Un (eT ?v3_7),Un (eT ?v3_8),Un (eT ?v3_9),Un (eT ?v3_10),Un (eT ?v3_11),Un (eT undef),Un (eT undef),Un (eT undef),Un (eT ?v3_15),Un (eT ?v3_16),Un (eT ?v3_17)] (aB.nx ?r3_17 (aB.nx ?r3_16 (aB.nx ?r3_15 (aB.nx ?r3_14 (aB.nx ?r3_13 (aB.nx ?r3_12 (aB.nx ?r3_11 (aB.nx ?r3_10 (aB.nx ?r3_9 (aB.nx ?r3_8 (aB.nx ?r3_7 (aB.nx ?r3_6 (aB.nx ?r3_5 (aB.nx ?r3_4 (aB.nx ?r3_3 (aB.nx ?r3_2 (aB.nx ?r3_1 (aB.nx ?r3_0 aB.zero)))))))))))))))))) ?rfn3
     case' r3_0|r3_1|r3_2|r3_3|r3_4|r3_5|r3_6|r3_7|r3_8|r3_9|r3_10|r3_11|r3_12|r3_13|r3_14|r3_15|r3_16|r3_17=>
      intro us wj hk hp K hK;try simp only [aQ,Act.put,sL] at hK⊢
      obtain ⟨y0,y1,-,-⟩:=(HD.o.1.keep hk id).two
     case' r3_0=>
      go_simp
      refine hK.out _ _ (aA.refl _ _) ?_;exact rfl
     case' r3_1=>
      have e0:us 30=_:=hp 0;rw [e0] at hK⊢;go_simp
      refine hK.out _ _ (aA.refl _ _) ?_;exact rfl
     case' r3_2=>
      have e1:us 31=_:=hp 1;rw [e1] at hK⊢;go_simp
      refine hK.out _ _ (aA.refl _ _) ?_;exact rfl
     case' r3_3=>
      have e2:us 32=_:=hp 2;rw [e2] at hK⊢;go_simp
      refine hK.out _ _ (aA.refl _ _) ?_;exact rfl
     case' r3_4=>
      have e2:us 32=_:=hp 2;rw [e2] at hK⊢;go_simp
      refine (kZ (M:=Nil) (MB.nil _) zY zY).mono ?_;rintro e wk ⟨g,a,n,c,rfl,h,hk2⟩;exact hK.out _ _ hk2 (⟨g,a,n,c,rfl,h⟩)
     case' r3_5=>
      have e2:us 32=_:=hp 2;have e3:us 33=_:=hp 3;obtain ⟨g4,a4,n4,c4,e4,h4⟩:(ZV Nil 2) (us 34) wj:=hp 4;rw [e2,e3,e4] at hK⊢;go_simp
      refine (HM.o wj hk _ _ _ _ h4).mono ?_;rintro e wk ⟨rfl,hk2⟩;exact hK.out _ _ hk2 (rfl)
     case' r3_6=>
      have e2:us 32=_:=hp 2;have e5:us 35=_:=hp 5;rw [e2,e5] at hK⊢;go_simp
      refine hK.out _ _ (aA.refl _ _) ?_;exact rfl
     case' r3_7=>
      have e2:us 32=_:=hp 2;have e6:us 36=_:=hp 6;rw [e2,e6] at hK⊢;go_simp
      refine hK.out _ _ (aA.refl _ _) ?_;exact rfl
     case' r3_8=>
      have e7:us 37=_:=hp 7;rw [e7] at hK⊢;go_simp
      refine hK.out _ _ (aA.refl _ _) ?_;exact rfl
     case' r3_9=>
      have e8:us 38=_:=hp 8;rw [e8] at hK⊢;go_simp
      refine hK.out _ _ (aA.refl _ _) ?_;exact rfl
     case' r3_10=>
      have e8:us 38=_:=hp 8;have e9:us 39=_:=hp 9;rw [e8,e9] at hK⊢;go_simp
      refine hK.out _ _ (aA.refl _ _) ?_;exact rfl
     case' r3_11=>
      have e8:us 38=_:=hp 8;have e10:us 40=_:=hp 10;rw [e8,e10] at hK⊢;go_simp
      refine hK.out _ _ (aA.refl _ _) ?_;exact rfl
     case' r3_12=>
      have e11:us 41=_:=hp 11;rw [e11] at hK⊢;go_simp
      refine hK.out _ _ ?_ ?_
      ·exact kkA
      ·exact rfl
     case' r3_13=>
      have e11:us 41=_:=hp 11;have e12:us 42=_:=hp 12;rw [e11,e12] at hK⊢;go_simp
      refine hK.out _ _ ?_ ?_
      ·exact kkA
      ·exact rfl
     case' r3_14=>
      have e11:us 41=_:=hp 11;have e13:us 43=_:=hp 13;rw [e11,e13] at hK⊢;go_simp
      refine hK.out _ _ ?_ ?_
      ·exact kkA
      ·exact rfl
     case' r3_15=>
      have e8:us 38=_:=hp 8;have e11:us 41=_:=hp 11;have e14:us 44=_:=hp 14;rw [e8,e11,e14] at hK⊢;go_simp
      refine hK.out _ _ (aA.refl _ _) ?_;exact rfl
     case' r3_16=>
      have e8:us 38=_:=hp 8;have e15:us 45=_:=hp 15;rw [e8,e15] at hK⊢;go_simp
      refine hK.out _ _ (aA.refl _ _) ?_;exact rfl
     case' r3_17=>
      have e16:us 46=_:=hp 16;rw [e16] at hK⊢;go_simp
      refine hK.out _ _ (aA.refl _ _) ?_;exact rfl
     case' rfn3=>
     intro us wz hkz hf;simp only [aQ,Act.put,sL];have e0:us 30=_:=hf 0;have e1:us 31=_:=hf 1;have e2:us 32=_:=hf 2;have e3:us 33=_:=hf 3;obtain ⟨g4,a4,n4,c4,e4,h4⟩:(ZV Nil 2) (us 34) wz:=hf 4;have e5:us 35=_:=hf 5;have e6:us 36=_:=hf 6;have e7:us 37=_:=hf 7;have e8:us 38=_:=hf 8;have e9:us 39=_:=hf 9;have e10:us 40=_:=hf 10;have e11:us 41=_:=hf 11;have e12:us 42=_:=hf 12;have e13:us 43=_:=hf 13;have e14:us 44=_:=hf 14;have e15:us 45=_:=hf 15;have e16:us 46=_:=hf 16;have e17:us 6=_:=hf 17;clear hf;simp only [e0,e1,e2,e3,e4,e5,e6,e7,e8,e9,e10,e11,e12,e13,e14,e15,e16,e17];clear e0 e1 e2 e3 e4 e5 e6 e7 e8 e9 e10 e11 e12 e13 e14 e15 e16 e17 us;refine aR zX ?_ _;go_wp2_with fail
     go_ret
     exact⟨dF (by first|rfl|simp [HS.o]),HD.o.2.2.trans hkz⟩
   ·have hsg:=fun (W:World) (k:aA Nil wb W)=>kY ((HD.o.2.1.zat HC.o.r4).eO k);have hz2:=@aZM s;generalize s.sign=z2 at *
    have HM:=jJ (aI hsg hz2);clear hsg hz2;refine aX 18 [] [30,31,32,33,34,35,36,37,38,39,40,41,42,43,44,45,46,6] [30,31,32,33,34,35,36,37,38,39,40,41,42,43,44,45,46,6] [Un (eT ?v4_0),Un (eT ?v4_1),Un (eT ?v4_2),Un (eT undef),Un (eT undef),Un (eT undef),Un (eT undef),Un (eT ?v4_7),Un (eT ?v4_8),Un (eT ?v4_9),Un (eT ?v4_10),Un (eT ?v4_11),Un (eT ?v4_12),Un (eT (.int .i64 z2)),Un (eT ?v4_14),Un (eT ?v4_15),Un (eT ?v4_16),Un (eT ?v4_17)] (aB.nx ?r4_17 (aB.nx ?r4_16 (aB.nx ?r4_15 (aB.nx ?r4_14 (aB.nx ?r4_13 (aB.nx ?r4_12 (aB.nx ?r4_11 (aB.nx ?r4_10 (aB.nx ?r4_9 (aB.nx ?r4_8 (aB.nx ?r4_7 (aB.nx ?r4_6 (aB.nx ?r4_5 (aB.nx ?r4_4 (aB.nx ?r4_3 (aB.nx ?r4_2 (aB.nx ?r4_1 (aB.nx ?r4_0 aB.zero)))))))))))))))))) ?rfn4
    case' r4_0|r4_1|r4_2|r4_3|r4_4|r4_5|r4_6|r4_7|r4_8|r4_9|r4_10|r4_11|r4_12|r4_13|r4_14|r4_15|r4_16|r4_17=>
     intro us wj hk hp K hK;try simp only [aQ,Act.put,sL] at hK⊢
     obtain ⟨y0,y1,-,-⟩:=(HD.o.1.keep hk id).two
    case' r4_0=>
     go_simp
     refine hK.out _ _ (aA.refl _ _) ?_;exact rfl
    case' r4_1=>
     have e0:us 30=_:=hp 0;rw [e0] at hK⊢;go_simp
     refine hK.out _ _ (aA.refl _ _) ?_;exact rfl
    case' r4_2=>
     have e1:us 31=_:=hp 1;rw [e1] at hK⊢;go_simp
     refine hK.out _ _ (aA.refl _ _) ?_;exact rfl
    case' r4_3|r4_4=>
     have e2:us 32=_:=hp 2;rw [e2] at hK⊢;go_simp
     refine hK.out _ _ ?_ ?_
     ·exact kkA
     ·exact rfl
    case' r4_5=>
     have e2:us 32=_:=hp 2;have e3:us 33=_:=hp 3;have e4:us 34=_:=hp 4;rw [e2,e3,e4] at hK⊢;go_simp
     refine hK.out _ _ ?_ ?_
     ·exact kkA
     ·exact rfl
    case' r4_6=>
     have e2:us 32=_:=hp 2;have e5:us 35=_:=hp 5;rw [e2,e5] at hK⊢;go_simp
     refine hK.out _ _ ?_ ?_
     ·exact kkA
     ·exact rfl
    case' r4_7=>
     have e2:us 32=_:=hp 2;have e6:us 36=_:=hp 6;rw [e2,e6] at hK⊢;go_simp
     refine hK.out _ _ (aA.refl _ _) ?_;exact rfl
    case' r4_8=>
     have e7:us 37=_:=hp 7;rw [e7] at hK⊢;go_simp
     refine hK.out _ _ (aA.refl _ _) ?_;exact rfl
    case' r4_9=>
     have e8:us 38=_:=hp 8;rw [e8] at hK⊢;go_simp
     refine hK.out _ _ (aA.refl _ _) ?_;exact rfl
    case' r4_10=>
     have e8:us 38=_:=hp 8;have e9:us 39=_:=hp 9;rw [e8,e9] at hK⊢;go_simp
     refine hK.out _ _ (aA.refl _ _) ?_;exact rfl
    case' r4_11=>
     have e8:us 38=_:=hp 8;have e10:us 40=_:=hp 10;rw [e8,e10] at hK⊢;go_simp
     refine hK.out _ _ (aA.refl _ _) ?_;exact rfl
    case' r4_12=>
     have e11:us 41=_:=hp 11;rw [e11] at hK⊢;go_simp
     refine hK.out _ _ (aA.refl _ _) ?_;exact rfl
    case' r4_13=>
     have e11:us 41=_:=hp 11;have e12:us 42=_:=hp 12;rw [e11,e12] at hK⊢;go_simp
     refine (HM.o.1 wj hk).mono ?_;rintro e wk ⟨rfl,hk2⟩;exact hK.out _ _ hk2 (rfl)
    case' r4_14=>
     have e11:us 41=_:=hp 11;have e13:us 43=_:=hp 13;rw [e11,e13] at hK⊢;go_simp
     refine hK.out _ _ (aA.refl _ _) ?_;exact rfl
    case' r4_15=>
     have e8:us 38=_:=hp 8;have e11:us 41=_:=hp 11;have e14:us 44=_:=hp 14;rw [e8,e11,e14] at hK⊢;go_simp
     refine hK.out _ _ (aA.refl _ _) ?_;exact rfl
    case' r4_16=>
     have e8:us 38=_:=hp 8;have e15:us 45=_:=hp 15;rw [e8,e15] at hK⊢;go_simp
     refine hK.out _ _ (aA.refl _ _) ?_;exact rfl
    case' r4_17=>
     have e16:us 46=_:=hp 16;rw [e16] at hK⊢;go_simp
     refine hK.out _ _ (aA.refl _ _) ?_;exact rfl
    case' rfn4=>
    intro us wz hkz hf;simp only [aQ,Act.put,sL];have e0:us 30=_:=hf 0;have e1:us 31=_:=hf 1;have e2:us 32=_:=hf 2;have e3:us 33=_:=hf 3;have e4:us 34=_:=hf 4;have e5:us 35=_:=hf 5;have e6:us 36=_:=hf 6;have e7:us 37=_:=hf 7;have e8:us 38=_:=hf 8;have e9:us 39=_:=hf 9;have e10:us 40=_:=hf 10;have e11:us 41=_:=hf 11;have e12:us 42=_:=hf 12;have e13:us 43=_:=hf 13;have e14:us 44=_:=hf 14;have e15:us 45=_:=hf 15;have e16:us 46=_:=hf 16;have e17:us 6=_:=hf 17;clear hf;simp only [e0,e1,e2,e3,e4,e5,e6,e7,e8,e9,e10,e11,e12,e13,e14,e15,e16,e17];clear e0 e1 e2 e3 e4 e5 e6 e7 e8 e9 e10 e11 e12 e13 e14 e15 e16 e17 us;refine aR zX ?_ _;go_wp2_with fail
    go_ret
    exact⟨dF (by first|rfl|simp [HM.o.2]|(simp only [HM.o.2];simp)),HD.o.2.2.trans hkz⟩
 ·by_cases hdn:(u=3∧v=4)∨(u=4∧v=3)
  ·have HL:=jJ (aI hless hdn);clear hless;by_cases hm0:m=0
   ·subst hm0;rcases hdn with ⟨rfl,rfl⟩|⟨rfl,rfl⟩
    ·exact zB
    ·exact zB
   ·have hm1:(m==0)=false:=by simpa using hm0
    rcases hdn with ⟨rfl,rfl⟩|⟨rfl,rfl⟩
    ·exact xR
    ·exact xR
  ·have HL:=jJ (aI hless hdn);by_cases hu2:u=2
   ·have hv2:¬v=2:=fun h=>hless ⟨hu2,h⟩;subst hu2;clear hless hdn;go_wp2_with fail
    go_ret
    exact⟨dF wO,HB.o.2.2⟩
   ·by_cases hu3:u=3
    ·have hv4:¬v=4:=fun h=>hdn (.inl ⟨hu3,h⟩);subst hu3;clear hless hdn;go_wp2_with fail
     go_ret
     exact⟨dF wO,HB.o.2.2⟩
    ·by_cases hu4:u=4
     ·have hv3:¬v=3:=fun h=>hdn (.inr ⟨hu4,h⟩);subst hu4;clear hless hdn;go_wp2_with fail
      go_ret
      exact⟨dF wO,HB.o.2.2⟩
     ·clear hless hdn;go_wp2_with fail
      go_ret
      exact⟨dF wO,HB.o.2.2⟩
end Go.Proofs.Q
