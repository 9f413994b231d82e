/- What atom.parted does: a divisibility, or its opposite, in its one form. -/
import Derived.Test.YtlldghknenbccaaGreatDoorRAtomsB
set_option linter.unusedSimpArgs false
set_option linter.unusedVariables false
set_option maxRecDepth 100000
set_option maxHeartbeats 8000000
namespace Go.Proofs.Q
open Go.RowKit Tryz
theorem UY {a b:Int}:fT a b=0↔a=b:=by
 unfold fT
 (repeat' split)<;>omega
def jN (d:Int) (T:aV) (no:Bool):Int × aY:=if d=0 then (11,⟨0,0,bK⟩) else (0,cC (d.natAbs:Int) T no)
def QL (M:Nat→Prop) (r:Int × aY) (w:World) (e:Ending) (w':World):Prop:=∃v,e=.returned (.tuple #[v,.int .i64 r.1])∧AV M r.2 v w'∧aA Nil w w'
section
variable {w:World} {M M1 M2:Nat→Prop} {ad ap ak:Option Addr} {gd gk:Bool} {l:aM} {cd np cp nk ck:Nat} {d z:Int} {T:aV}
theorem aOQ {nd:Nat} (no:Bool) (hd:ZAt Nil w gd ad nd cd 0) :
  Calls prog 106 #[.agg #[.bool gd,.slice ad nd cd],.agg #[.slice ap np cp,.bool gk,.slice ak nk ck],.bool no] w fun e w'=>QL M (jN 0 T no) w e w':=by
 have HD:=jJ hd;clear hd;go_enter func106,ntmps106
 go_upto_region 1 with (fail)
 obtain ⟨w0,e_1,k0,r0,r1,r2⟩:=bx3 w 25 [.bool gd,.slice ad nd cd] 27 [.slice ap np cp,.bool gk,.slice ak nk ck] 82 [.int .i64 0,.bool false,.slice none 0 0,.slice none 0 0,.bool false,.slice none 0 0];rw [e_1];clear e_1;obtain ⟨c0,c1,-,-⟩:=r0.two;have lr2:=r2.lt;have H0:=jJ (aI4 k0 r0 r1 r2);clear k0 r0 r1 r2;go_upto_region 2 with (go_at_call 57;refine (aJT (M:=Old w0) (MB.old w0) (HD.o.eO H0.o.1)).mono ?_;rintro e w1 ⟨g1,a1,n1,m1,rfl,h1,hk1⟩;have ra:=H0.o.2.1.keep hk1 id;obtain ⟨z0,z1,z2,z3⟩:=ra.two;have H1:=jJ (aI3 h1 hk1 ra);clear h1 hk1 ra)
 have ks1:=aA.pair (w:=w1) (g:=w.heap.size) (.bool g1) (.slice a1 n1 m1);have ra:=H1.o.2.2.pair (u':=.bool g1) (v':=.slice a1 n1 m1);have rb:=(H0.o.2.2.2.keep H1.o.2.1 id).keep ks1 (show ¬_=_ by omega);have q1:=H1.o.1.move (M2:=Nil) ks1 (fun b _ (hm:b=w.heap.size)=>xO) (fun _ _ hb=>hb.elim);have kq:aA Nil w _:=(H0.o.1.trans H1.o.2.1).own (bZ2 _) ks1;clear z0 z1 z2 z3 ks1 H1 c0 c1;generalize (w1.setCell ⟨w.heap.size,0,none⟩ (.bool g1)).setCell ⟨w.heap.size,1,none⟩ (.slice a1 n1 m1)=wq at *
 obtain ⟨c0,c1,-,-⟩:=ra.two;have hsg:=kY (w:=wq) (q1.zat sP);have HQ:=jJ (aI3 rb kq hsg);clear ra rb q1 kq hsg;go_wp2_with (go_at_call 55;refine HQ.o.2.2.mono ?_;rintro e w2 ⟨rfl,hk2⟩;have r3:=HQ.o.1.keep hk2 id;obtain ⟨z0,z1,z2,z3,z4,z5⟩:=r3.eZ;obtain ⟨y0,y1,y2,y3,y4,y5⟩:=r3.iY;have H2:=jJ (aI hk2 r3);clear hk2 r3)
 have r6:=H2.o.2.six (.int .i64 0) (.bool false) (.slice none 0 0) (.slice none 0 0) (.bool false) (.slice none 0 0);obtain ⟨x0,x1,x2,x3,x4,x5⟩:=r6.eZ;exact bodyPost_ret (v:=.tuple #[.agg #[.int .i64 0,.bool false,.slice none 0 0,.slice none 0 0,.bool false,.slice none 0 0],.int .i64 11]) yQ rfl ⟨_,rfl,⟨_,_,_,_,_,_,_,_,_,_,_,rfl,jA.zero⟩,(HQ.o.2.1.trans H2.o.1).own zZ (aA.six _ _ _ _ _ _)⟩
theorem aQB {nd:Nat} (no:Bool) (hM:MB M w) (hd:ZAt Nil w gd ad nd cd d) (h:bI M1 M2 w ap np cp l) (hk:ZAt Nil w gk ak nk ck z) (h1:np≤16777216) (h2:nk≤1073741824) (hw:Wee (bC ⟨l,z⟩)) (hwd:eP d.natAbs≤536870912) (h0:d≠0) :
  Calls prog 106 #[.agg #[.bool gd,.slice ad nd cd],.agg #[.slice ap np cp,.bool gk,.slice ak nk ck],.bool no] w fun e w'=>QL M (0,cC (d.natAbs:Int) (bC ⟨l,z⟩) no) w e w':=by
 obtain ⟨D,hD⟩:∃D:Int,D=(d.natAbs:Int):=⟨_,rfl⟩;have hD0:0<D:=zZ;have hDn:eP D.natAbs≤536870912:=by rw [hD,Int.natAbs_natCast];exact hwd
 have hgood:mF (bC ⟨l,z⟩):=⟨mP l,hw⟩;have HA:=jJ (aI7 hd h hk hD hD0 hDn hgood);have HM:=jJ hM;rw [←hD];clear hd h hk hM hw hwd h0 hD hD0 hDn hgood;generalize hT:bC ⟨l,z⟩=T at *
 have HT:=jJ hT;clear hT;go_enter func106,ntmps106
 go_upto_region 1 with (fail)
 obtain ⟨w0,e_2,k0,r0,r1,r2⟩:=bx3 w 25 [.bool gd,.slice ad nd cd] 27 [.slice ap np cp,.bool gk,.slice ak nk ck] 82 [.int .i64 0,.bool false,.slice none 0 0,.slice none 0 0,.bool false,.slice none 0 0];rw [e_2];clear e_2;obtain ⟨c0,c1,-,-⟩:=r0.two;have lr2:=r2.lt;have H0:=jJ (aI4 k0 r0 r1 r2);clear k0 r0 r1 r2;go_upto_region 2 with (go_at_call 57;refine (aJT (M:=Old w0) (MB.old w0) (HA.o.1.eO H0.o.1)).mono ?_;rintro e w1 ⟨gD,aD,nD,mD,rfl,h1',hk1⟩;rw [←HA.o.2.2.2.1] at h1';have ra:=H0.o.2.1.keep hk1 id;obtain ⟨z0,z1,z2,z3⟩:=ra.two;have H1:=jJ (aI3 h1' hk1 ra);clear h1' hk1 ra)
 have ks1:=aA.pair (w:=w1) (g:=w.heap.size) (.bool gD) (.slice aD nD mD);have ra:=H1.o.2.2.pair (u':=.bool gD) (v':=.slice aD nD mD);have rb:=(H0.o.2.2.1.keep H1.o.2.1 id).keep ks1 (show ¬_=_ by omega);have rc:=(H0.o.2.2.2.keep H1.o.2.1 id).keep ks1 (show ¬_=_ by omega);have q1:=H1.o.1.move (M2:=Old w0) ks1 (fun b _ (hm:b=w.heap.size)=>xO) (fun _ _ hb=>hb);have kq:aA Nil w _:=(H0.o.1.trans H1.o.2.1).own (bZ2 _) ks1;have ksz:=bZ1 H1.o.2.1.size ks1.size;clear z0 z1 z2 z3 ks1 H1 c0 c1;generalize (w1.setCell ⟨w.heap.size,0,none⟩ (.bool gD)).setCell ⟨w.heap.size,1,none⟩ (.slice aD nD mD)=wq at *
 obtain ⟨c0,c1,-,-⟩:=ra.two;have hsg:Calls prog 55 #[.agg #[.bool gD,.slice aD nD mD]] wq fun e w'=>e=.returned (.int .i64 1)∧aA Nil wq w':=(kY (w:=wq) ((q1.move (M2:=Nil) (aA.refl Nil wq) (fun _ _ h=>h.elim) fun _ _ h=>h.elim).zat qM)).mono fun e w' ⟨he,hk⟩=>⟨by rw [he,Int.sign_eq_one_of_pos HA.o.r4.1],hk⟩;have HQ:=jJ (aI7 ra rb rc q1 kq ksz hsg);have hnD:nD≤536870912:=by have h3:=q1.len;have h4:=HA.o.r5.1;omega
 clear ra rb rc q1 kq ksz hsg;have hD1:=HA.o.r4.1;go_upto_region 6 with (first|(go_at_call 55;refine HQ.o.r6.mono ?_;rintro e w2 ⟨rfl,hk2⟩;have ra2:=HQ.o.1.keep hk2 id;obtain ⟨d0,d1,-,-⟩:=ra2.two;have H2:=jJ (aI hk2 ra2);clear hk2 ra2)|(go_at_call 125;refine KD.mono ?_;rintro e w3 ⟨v,rfl,⟨bM,rfl,hr3,hb3⟩,hk3⟩;have h3:=GA (d:=D) hr3 ((((HQ.o.2.2.2.1.move (M2:=Nil) (aA.refl Nil wq) (fun _ _ h=>h.elim) fun _ _ h=>h.elim).zat qM).eO H2.o.1).eO hk3) zZ zZ;have rb3:=(HQ.o.2.1.keep H2.o.1 id).keep hk3 id;obtain ⟨t0,t1,t2⟩:=rb3.three;have H3:=jJ (aI5 h3 hk3 rb3 hr3 hb3);clear h3 hk3 rb3 hr3 hb3)|(go_at_call 83;refine (DN (M:=Nil) (MB.nil _) (HA.o.2.1.eO (HQ.o.r4.1.trans (H2.o.1.trans H3.o.2.1))) (HA.o.2.2.1.eO (HQ.o.r4.1.trans (H2.o.1.trans H3.o.2.1))) h1 h2).mono ?_;rintro e w4 ⟨v,rfl,⟨bp,mp,dp,gb,ab,nb,cb,rfl,ht⟩,hk4⟩;rw [HT.o] at ht;have hmp:T.parts.length=mp:=eU.len ht.1;have H4:=jJ (aI3 ht hk4 hmp);clear ht hk4 hmp)|(go_at_call 143;refine (NM (M:=Old w0) (MB.gY (bZ1 HQ.o.r5.1 (H2.o.1.trans (H3.o.2.1.trans H4.o.2.1)).size)) (c:=fun x=>x.fmod D) (f:=fun x=>x.fmod D) H4.o.1 ((H3.o.1.eO H4.o.2.1).mono zY) ((H3.o.1.eO H4.o.2.1).mono zY) (by have h5:=HA.o.r6.wee.few;have h6:=H4.o.2.2;omega) (fun p hp=>by have h5:=HA.o.r6.wee.parts p hp;have h6:=AZ p.2 hD1;have h7:=HA.o.r5.1;omega) (by have h5:=HA.o.r6.wee.k;have h6:=AZ T.k hD1;have h7:=HA.o.r5.1;omega)).mono ?_;rintro e w5 ⟨v,rfl,⟨xp,yp,zp,gx,ax,nx,cx,rfl,ht⟩,hk5⟩;have rb5:=(H3.o.2.2.1.keep H4.o.2.1 id).keep hk5 id;obtain ⟨z0,z1,z2⟩:=rb5.three;obtain ⟨z3,z4,z5⟩:=rb5.iZ;have H5:=jJ (aI3 ht hk5 rb5);clear ht hk5 rb5))
 have k35:=H4.o.2.1.trans H5.o.2.1;have ks5:=aA.triple (w:=w5) (g:=w.heap.size+1) (.slice xp yp zp) (.bool gx) (.slice ax nx cx);have kq5:=H2.o.1.trans (H3.o.2.1.trans k35);have rA:=(HQ.o.1.keep kq5 id).keep ks5 (show ¬_=_ by omega);have rB:=H5.o.2.2.triple (.slice xp yp zp) (.bool gx) (.slice ax nx cx);have rC:=(HQ.o.2.2.1.keep kq5 id).keep ks5 (show ¬_=_ by omega);have hqw:w.heap.size+1+1<wq.heap.size:=cZ1 lr2 HQ.o.r5.1;have rM:=(H3.o.2.2.2.1.keep k35 id).keep ks5 (show ¬_=_ by have h3:=H3.o.r4;have h4:=H2.o.1.size;omega);have qD:=(HQ.o.2.2.2.1.eO kq5).move (M2:=Old w0) ks5 (fun b _ (hm:b=w.heap.size+1)=>xO) (fun _ _ hb=>hb);have qT:=H5.o.1.out (M:=Old w0) zZ (fun _ hb=>hb) ks5;rw [show jO T (fun x=>x.fmod D) (fun x=>x.fmod D)=dU D T from rfl] at qT;have kw:=(HQ.o.r4.1.trans kq5).own (Nat.le_succ _) ks5;have ksz:=bZ1 HQ.o.r5.1 (bZ1 kq5.size ks5.size);clear z0 z1 z2 z3 z4 z5 ks5 c0 c1 d0 d1 t0 t1 t2 H5 H4 H3 H2 HQ k35 kq5 hqw;generalize (((w5.setCell ⟨w.heap.size+1,0,none⟩ (.slice xp yp zp)).setCell ⟨w.heap.size+1,1,none⟩ (.bool gx)).setCell ⟨w.heap.size+1,2,none⟩ (.slice ax nx cx))=w6 at *
 have gT:=OA HA.o.r6 hD1 HA.o.r5.1;have hG0:=GZ (T:=T) hD1;have hGn:=aQZ HA.o.r6 hD1 HA.o.r5.1;have hGd:fH (cH (dU D T)++[D])=gB D T:=rfl;generalize hT1:dU D T=T1 at *
 generalize hG1:gB D T=G at *
 have hyp:T1.parts.length=yp:=eU.len qT.1;have hypl:yp≤16777216:=by have:=gT.wee.few;omega
 have HS:=jJ (aI8 rA rB rC rM qD qT kw ksz);have HG:=jJ (aI7 gT hG0 hGn hGd hyp hT1 hG1);clear rA rB rC rM qD qT kw ksz gT hG0 hGn hGd hyp hT1 hG1;obtain ⟨i1,hi1⟩:=info_parts WW;have HI:=jJ hi1;clear hi1;have hzs1:∀(els:List (List Value)),els.length=yp→(∀i,i<yp→RZ Nil w6 (els.getD i []) ((cH T1).getD i 0))→∀i,i<yp+1→RZ Nil w6 ((els++[[Value.bool gD,.slice aD nD mD]]).getD i []) ((cH T1++[D]).getD i 0):=fun els hl hr i hi=>by
  rcases Nat.lt_or_ge i yp with hik|hik
  ·rw [EF _ _ _ zZ,EF _ _ _ (by rw [MN,HG.o.r4.1];exact hik)];exact hr i hik
  ·obtain rfl:i=yp:=zZ;have q1:(els++[[Value.bool gD,.slice aD nD mD]]).getD els.length []=_:=DF _ _ _;have q2:(cH T1++[D]).getD (cH T1).length 0=_:=DF _ _ _;rw [hl] at q1;rw [MN,HG.o.r4.1] at q2;rw [q1,q2];exact⟨gD,aD,nD,mD,rfl,HS.o.r4.1.move (aA.refl Nil w6) (fun _ _ h=>h.elim) fun _ _ h=>h.elim⟩
 have hzs2:∀z∈cH T1++[D],eP z.natAbs*4+4≤140737488355328:=fun z hz=>by
  rcases jZ1.1 hz with hz|hz
  ·obtain ⟨p,hp,rfl⟩:=iZ2.1 hz;have:=HG.o.1.wee.parts p hp;omega
  ·rw [dZ1.1 hz];have:=HA.o.r5.1;omega
 have hnz:∀(els:List (List Value)),(∀i,i<yp→RZ Nil w6 (els.getD i []) ((cH T1).getD i 0))→0<yp→∃x a m c,els.getD 0 []=[x,.slice a m c]∧m≠0:=fun els hr h0=>by
  obtain ⟨s,a,n,c,e,hz⟩:=hr 0 h0;refine ⟨_,a,n,c,e,fun hn=>?_⟩;have h3:=hz.len;have hl:0<T1.parts.length:=by rw [HG.o.r4.1];exact h0
  have h4:(cH T1).getD 0 0=(T1.parts[0]).2:=by simp [cH,List.getD,hl]
  rw [h4,hn] at h3;have h5:=HG.o.1.fZ.some _ (List.getElem_mem hl);have h6:=aHG (n:=(T1.parts[0]).2.natAbs) zZ;omega
 have HZ1:=jJ hzs1;have HZ2:=jJ hzs2;have HZ3:=jJ hnz;clear hzs1 hzs2 hnz;go_cut [9] (fun v wx=>∃(b:Nat) (s:Bool) (a:Option Addr) (n c:Nat),v=.pointer (some ⟨b,0,none⟩)∧aF wx b 25 [.bool s,.slice a n c]∧ZN (Old w6) wx s a n c (G:Int)∧w6.heap.size≤b∧aA Nil w6 wx)
 case first=>
  refine aNE 8 6 [4,5,7] [27,28,29,30,31,32,9,1039] [27,28,29,30,9] [Un (eT ?v3_0),Un (LQ (RZ Nil w6) 0 25 2 w6.heap.size yp (cH T1)),Un (eT ?v3_2),⟨[2],fun vs=>IU ?b3_3 ?t3_3 (vs.getD 0 undef)⟩,nothing,nothing,Un (CZ ?b3_6 25 ?x3_6),nothing] (aB.sk (aB.nx ?r3_6 (aB.sk (aB.sk (aB.nx ?r3_3 (aB.nx ?r3_2 (aB.nx ?r3_1 (aB.nx ?r3_0 aB.zero)))))))) ?rfn3 ?rfu3
  case' r3_0|r3_1|r3_2|r3_3|r3_6=>
   intro us wj hk hp K hK;try simp only [aQ,Act.put,sL] at hK⊢
   obtain ⟨d0,d1,-,-⟩:=(HS.o.1.keep hk id).two;obtain ⟨e0',e1',e2'⟩:=(HS.o.2.1.keep hk id).three
  case' r3_0|r3_2=>
   go_simp
   refine hK.out _ _ (aA.refl _ _) ?_;exact rfl
  case' r3_1=>
   have e0:us 27=_:=hp 0;rw [e0] at hK⊢;go_simp
   refine (aHI hk HS.o.r5.1.1 hypl).mono ?_;rintro e wk ⟨v,rfl,⟨va,vc,els,rfl,o,n,r,z⟩,hk2⟩;exact hK.out _ _ hk2 (⟨va,vc,els,rfl,o.base hk.size,n,r,z⟩)
  case' r3_3=>
   have e2:us 29=_:=hp 2;rw [e2] at hK⊢;go_simp
   refine hK.out _ _ ?_ ?_
   ·exact uK
   ·refine ⟨wj.heap.size,rfl,?_,?_⟩
    ·show aF _ _ _ (cellsOf (us 29))
     rw [e2];exact aF.alloc
    ·exact hk.size
  case' r3_6=>
   go_simp
   refine hK.out _ _ ?_ ?_
   ·exact uK
   ·exact xU
  case' rfn3=>
   intro us wz hkz hf;simp only [aQ,Act.put,sL];have e0:us 27=_:=hf 0;obtain ⟨va1,vc1,els1,e1,o1,n1,r1,z1⟩:(LQ (RZ Nil w6) 0 25 2 w6.heap.size yp (cH T1)) (us 28) wz:=hf 1;have e2:us 29=_:=hf 2;obtain ⟨b3,e3,h3,q3⟩:(IU ?b3_3 ?t3_3 (us 29)) (us 30) wz:=hf 3;obtain ⟨b6,e6,h6,q6⟩:(CZ ?b3_6 25 ?x3_6) (us 9) wz:=hf 6;clear hf;simp only [e0,e1,e2,e3,e6,cellsOf] at h3⊢;clear e0 e1 e2 e3 e6 us;refine aK 4 fun K hK=>?_;rw [if_pos zU];refine DC wz (.tmp 28) (.tmp 30) 109 rfl w6.heap.size 25 i1 (.agg #[.bool false,.slice none 0 0]) 2 32 underlying109 HI.o.1 HI.o.2.1 HI.o.2.2.1 HI.o.2.2.2 rfl zY (.slice va1 yp vc1) els1 rfl (o1.eO kkA) ⟨b3,0,none⟩ 1 1 [[.bool gD,.slice aD nD mD]] rfl rfl zW (EU (h3.keep (M:=Nil) (w':=wz) kkA id)) yO uD uD (bZ1 hkz.size (aA.size (M:=Nil) kkA)) (fun v' w9 ho hk9 hf9=>?_);obtain ⟨a8,c8,rfl⟩:=ho.isSlice;have e8:(els1++[[Value.bool gD,.slice aD nD mD]]).length=yp+1:=(by rw [aZ1,n1];rfl);rw [e8] at ho⊢;have k9:aA Nil w6 w9:=(hkz.trans (c:=wz) kkA).newer hk9 (fun b hb=>(o1.lt b hb).1);skip
   refine mK ?_;clear hK K;refine aK 5 fun K hK=>?_;go_simp
   refine (KP (M:=Old w6) (MB.gY (bZ1 k9.size (aA.size (M:=Nil) kkA))) (nH.LZ (ho.eO (w':=w9) kkA) e8 vQ (zs:=cH T1++[D]) (HZ1.o els1 n1 r1) (k9.trans (c:=w9) kkA)) HZ2.o).mono ?_;rw [HG.o.2.2.2.1];rintro e w10 ⟨g10,a10,n10,c10,rfl,h10,hk10⟩;have k10:aA Nil w6 w10:=(k9.trans (c:=w9) kkA).trans hk10;skip
   refine mK ?_;clear hK K;refine aK 7 fun K hK=>?_;first|(have h66:=(h6.keep hk9 (NK o1 n1 z1 (HZ3.o els1 r1) h6)).keep hk10 id)|(have h66:=(aF.alloc (w:=w9) (E:=25) (xs:=[.bool false,.slice none 0 0])).keep hk10 id)|(have h66:=((aF.alloc (w:=wz) (E:=25) (xs:=[.bool false,.slice none 0 0])).keep hk9 (fun hm=>uC)).keep hk10 id)|(have h66:=aF.alloc (w:=w10) (E:=25) (xs:=[.bool false,.slice none 0 0]))
   obtain ⟨y0,y1,y2,y3⟩:=h66.two;go_simp
   refine mK ?_;clear hK K;refine aR zX ?_ _;go_wp2_with fail
   go_meet
   first|exact⟨_,g10,a10,n10,c10,rfl,aF.alloc (xs:=[.bool g10,.slice a10 n10 c10]),h10.eO kOf,k10.size,k10.trans kOf⟩|exact⟨_,g10,a10,n10,c10,rfl,h66.pair,((h10.eO (w':=w10) kkA).apart h66 zW).less (aA.pair _ _),yY,(k10.trans (c:=w10) kkA).own yY (aA.pair _ _)⟩
  case' rfu3=>
   intro us wz hkz hf;simp only [aQ,Act.put,sL];have e0:us 27=_:=hf 0;obtain ⟨va1,vc1,els1,e1,o1,n1,r1,z1⟩:(LQ (RZ Nil w6) 0 25 2 w6.heap.size yp (cH T1)) (us 28) wz:=hf 1;have e2:us 29=_:=hf 2;obtain ⟨b3,e3,h3,q3⟩:(IU ?b3_3 ?t3_3 (us 29)) (us 30) wz:=hf 3;clear hf;simp only [e0,e1,e2,e3,cellsOf] at h3⊢;clear e0 e1 e2 e3;refine bV (rs:=[4,6]) zX zW ?_;refine aZ.cons rfl (fun K hK=>?f4) (aZ.cons rfl (fun K hK=>?g4) aZ.nil)
   case' f4=>
    rw [if_pos zU];refine DC wz (.tmp 28) (.tmp 30) 109 rfl w6.heap.size 25 i1 (.agg #[.bool false,.slice none 0 0]) 2 32 underlying109 HI.o.1 HI.o.2.1 HI.o.2.2.1 HI.o.2.2.2 rfl zY (.slice va1 yp vc1) els1 rfl (o1.eO kkA) ⟨b3,0,none⟩ 1 1 [[.bool gD,.slice aD nD mD]] rfl rfl zW (EU (h3.keep (M:=Nil) (w':=wz) kkA id)) yO uD uD (bZ1 hkz.size (aA.size (M:=Nil) kkA)) (fun v' w9 ho hk9 hf9=>?_);obtain ⟨a8,c8,rfl⟩:=ho.isSlice;have e8:(els1++[[Value.bool gD,.slice aD nD mD]]).length=yp+1:=(by rw [aZ1,n1];rfl);rw [e8] at ho⊢;have k9:aA Nil w6 w9:=(hkz.trans (c:=wz) kkA).newer hk9 (fun b hb=>(o1.lt b hb).1);skip
    refine mK ?_;clear hK K;refine bV (rs:=[5,6]) zX zW ?_;refine aZ.cons rfl (fun K hK=>?f5) (aZ.cons rfl (fun K hK=>?g5) aZ.nil)
    case' f5=>
     go_simp
     refine (KP (M:=Old w6) (MB.gY (bZ1 k9.size (aA.size (M:=Nil) kkA))) (nH.LZ (ho.eO (w':=w9) kkA) e8 vQ (zs:=cH T1++[D]) (HZ1.o els1 n1 r1) (k9.trans (c:=w9) kkA)) HZ2.o).mono ?_;rw [HG.o.2.2.2.1];rintro e w10 ⟨g10,a10,n10,c10,rfl,h10,hk10⟩;have k10:aA Nil w6 w10:=(k9.trans (c:=w9) kkA).trans hk10;skip
     refine mK ?_;clear hK K;refine aK 6 fun K hK=>?_;go_simp
     refine mK ?_;clear hK K;refine aK 7 fun K hK=>?_;first|(have h66:=(h6.keep hk9 (NK o1 n1 z1 (HZ3.o els1 r1) h6)).keep hk10 id)|(have h66:=(aF.alloc (w:=w9) (E:=25) (xs:=[.bool false,.slice none 0 0])).keep hk10 id)|(have h66:=((aF.alloc (w:=wz) (E:=25) (xs:=[.bool false,.slice none 0 0])).keep hk9 (fun hm=>uC)).keep hk10 id)|(have h66:=aF.alloc (w:=w10) (E:=25) (xs:=[.bool false,.slice none 0 0]))
     obtain ⟨y0,y1,y2,y3⟩:=h66.two;go_simp
     refine mK ?_;clear hK K;refine aR zX ?_ _;go_wp2_with fail
     go_meet
     first|exact⟨_,g10,a10,n10,c10,rfl,aF.alloc (xs:=[.bool g10,.slice a10 n10 c10]),h10.eO kOf,k10.size,k10.trans kOf⟩|exact⟨_,g10,a10,n10,c10,rfl,h66.pair,((h10.eO (w':=(World.alloc w10 (.cells #[.bool false,.slice none 0 0] 25))) kkA).apart h66 zW).less (aA.pair _ _),yY,(k10.trans (c:=(World.alloc w10 (.cells #[.bool false,.slice none 0 0] 25))) kkA).own yY (aA.pair _ _)⟩
    case' g5=>
     go_simp
     refine mK ?_;clear hK K;refine aK 5 fun K hK=>?_;go_simp
     refine (KP (M:=Old w6) (MB.gY (bZ1 k9.size (aA.size (M:=Nil) kkA))) (nH.LZ (ho.eO (w':=(World.alloc w9 (.cells #[.bool false,.slice none 0 0] 25))) kkA) e8 vQ (zs:=cH T1++[D]) (HZ1.o els1 n1 r1) (k9.trans (c:=(World.alloc w9 (.cells #[.bool false,.slice none 0 0] 25))) kkA)) HZ2.o).mono ?_;rw [HG.o.2.2.2.1];rintro e w10 ⟨g10,a10,n10,c10,rfl,h10,hk10⟩;have k10:aA Nil w6 w10:=(k9.trans (c:=(World.alloc w9 (.cells #[.bool false,.slice none 0 0] 25))) kkA).trans hk10;skip
     refine mK ?_;clear hK K;refine aK 7 fun K hK=>?_;first|(have h66:=(h6.keep hk9 (NK o1 n1 z1 (HZ3.o els1 r1) h6)).keep hk10 id)|(have h66:=(aF.alloc (w:=w9) (E:=25) (xs:=[.bool false,.slice none 0 0])).keep hk10 id)|(have h66:=((aF.alloc (w:=wz) (E:=25) (xs:=[.bool false,.slice none 0 0])).keep hk9 (fun hm=>uC)).keep hk10 id)|(have h66:=aF.alloc (w:=w10) (E:=25) (xs:=[.bool false,.slice none 0 0]))
     obtain ⟨y0,y1,y2,y3⟩:=h66.two;go_simp
     refine mK ?_;clear hK K;refine aR zX ?_ _;go_wp2_with fail
     go_meet
     first|exact⟨_,g10,a10,n10,c10,rfl,aF.alloc (xs:=[.bool g10,.slice a10 n10 c10]),h10.eO kOf,k10.size,k10.trans kOf⟩|exact⟨_,g10,a10,n10,c10,rfl,h66.pair,((h10.eO (w':=w10) kkA).apart h66 zW).less (aA.pair _ _),yY,(k10.trans (c:=w10) kkA).own yY (aA.pair _ _)⟩
   case' g4=>
    go_simp
    refine mK ?_;clear hK K;refine aK 4 fun K hK=>?_;rw [if_pos zU];refine DC (World.alloc wz (.cells #[.bool false,.slice none 0 0] 25)) (.tmp 28) (.tmp 30) 109 rfl w6.heap.size 25 i1 (.agg #[.bool false,.slice none 0 0]) 2 32 underlying109 HI.o.1 HI.o.2.1 HI.o.2.2.1 HI.o.2.2.2 rfl zY (.slice va1 yp vc1) els1 rfl (o1.eO kkA) ⟨b3,0,none⟩ 1 1 [[.bool gD,.slice aD nD mD]] rfl rfl zW (EU (h3.keep (M:=Nil) (w':=(World.alloc wz (.cells #[.bool false,.slice none 0 0] 25))) kkA id)) yO uD uD (bZ1 hkz.size (aA.size (M:=Nil) kkA)) (fun v' w9 ho hk9 hf9=>?_);obtain ⟨a8,c8,rfl⟩:=ho.isSlice;have e8:(els1++[[Value.bool gD,.slice aD nD mD]]).length=yp+1:=(by rw [aZ1,n1];rfl);rw [e8] at ho⊢;have k9:aA Nil w6 w9:=(hkz.trans (c:=(World.alloc wz (.cells #[.bool false,.slice none 0 0] 25))) kkA).newer hk9 (fun b hb=>(o1.lt b hb).1);skip
    refine mK ?_;clear hK K;refine aK 5 fun K hK=>?_;go_simp
    refine (KP (M:=Old w6) (MB.gY (bZ1 k9.size (aA.size (M:=Nil) kkA))) (nH.LZ (ho.eO (w':=w9) kkA) e8 vQ (zs:=cH T1++[D]) (HZ1.o els1 n1 r1) (k9.trans (c:=w9) kkA)) HZ2.o).mono ?_;rw [HG.o.2.2.2.1];rintro e w10 ⟨g10,a10,n10,c10,rfl,h10,hk10⟩;have k10:aA Nil w6 w10:=(k9.trans (c:=w9) kkA).trans hk10;skip
    refine mK ?_;clear hK K;refine aK 7 fun K hK=>?_;first|(have h66:=(h6.keep hk9 (NK o1 n1 z1 (HZ3.o els1 r1) h6)).keep hk10 id)|(have h66:=(aF.alloc (w:=w9) (E:=25) (xs:=[.bool false,.slice none 0 0])).keep hk10 id)|(have h66:=((aF.alloc (w:=wz) (E:=25) (xs:=[.bool false,.slice none 0 0])).keep hk9 (fun hm=>uC)).keep hk10 id)|(have h66:=aF.alloc (w:=w10) (E:=25) (xs:=[.bool false,.slice none 0 0]))
    obtain ⟨y0,y1,y2,y3⟩:=h66.two;go_simp
    refine mK ?_;clear hK K;refine aR zX ?_ _;go_wp2_with fail
    go_meet
    first|exact⟨_,g10,a10,n10,c10,rfl,aF.alloc (xs:=[.bool g10,.slice a10 n10 c10]),h10.eO kOf,k10.size,k10.trans kOf⟩|exact⟨_,g10,a10,n10,c10,rfl,h66.pair,((h10.eO (w':=w10) kkA).apart h66 zW).less (aA.pair _ _),yY,(k10.trans (c:=w10) kkA).own yY (aA.pair _ _)⟩
 case rest=>
  rename World=>w7;obtain ⟨bG,sG,aG,nG,cG,rfl,rG,qG,hbG,k67⟩:=hcut;have hnG:nG≤536870912:=by have h3:=qG.len;have h4:=HG.o.2.2.1;rw [Int.natAbs_natCast] at h3;omega
  have hGi:(0:Int)<(G:Int):=by have:=HG.o.2.1;omega
  obtain ⟨c0,c1,-,-⟩:=rG.two;have H7:=jJ (aI4 rG qG hbG k67);clear rG qG hbG k67;go_upto_region 8 with (go_at_call 146;refine aID.mono ?_;rintro e w8 ⟨v,rfl,⟨bO,rfl,rO,hbO⟩,hk8⟩;have H8:=jJ (aI3 rO hbO hk8);clear rO hbO hk8)
  have hego:∀args w,(callFunc 190 args).run prog w=.ok (.enter 190 args) w:=enters_of func190 zX rfl;have hegm:∀args w,(callFunc 176 args).run prog w=.ok (.enter 176 args) w:=enters_of func176 zX rfl;have k68:=H7.o.2.2.2.trans H8.o.2.2;have zD:∀W,aA Nil w6 W→ZAt Nil W gD aD nD mD D:=fun W k=>((HS.o.r4.1.move (M2:=Nil) (aA.refl Nil w6) (fun _ _ h=>h.elim) fun _ _ h=>h.elim).zat qM).eO k;have zG:∀W,aA Nil w7 W→ZAt Nil W sG aG nG cG (G:Int):=fun W k=>((H7.o.2.1.move (M2:=Nil) (aA.refl Nil w7) (fun _ _ h=>h.elim) fun _ _ h=>h.elim).zat qP).eO k;have zK:∀W,aA Nil w6 W→ZAt Nil W gx ax nx cx T1.k:=fun W k=>((HS.o.r5.1.2.move (M2:=Nil) (aA.refl Nil w6) (fun _ _ h=>h.elim) fun _ _ h=>h.elim).zat (by have:=HG.o.1.wee.k;omega)).eO k;have hnx:nx≤536870912:=by have h3:=HS.o.r5.1.2.len;have h4:=HG.o.1.wee.k;omega
  have hfl:eP (T1.k.fmod (G:Int)).natAbs≤536870912:=bZ1 (AZ _ hGi) (by rw [Int.natAbs_natCast];exact HG.o.2.2.1);have HF:=jJ (aI5 zD zG zK k68 hfl);clear zD zG zK k68 hfl;refine aX 12 [10,11] [35,36,37,38,39,40,41,42,43,11,1053,12] [35,36,37,38,39,40,41,42,43,11] [Un (eT ?v6_0),Un (eT ?v6_1),Un (ZV (Old w6) (D.fdiv (G:Int))),Un (eT ?v6_3),Un (oD 176 25 [.bool sG,.slice aG nG cG] w8.heap.size),Un (eT ?v6_5),Un (eT ?v6_6),Un (ZV Nil (T1.k.fmod (G:Int))),Un (eT (.int .i64 (T1.k.fmod (G:Int)).sign)),Un (CZ ?b6_9 25 ?x6_9),nothing,nothing] (aB.sk (aB.sk (aB.nx ?r6_9 (aB.nx ?r6_8 (aB.nx ?r6_7 (aB.nx ?r6_6 (aB.nx ?r6_5 (aB.nx ?r6_4 (aB.nx ?r6_3 (aB.nx ?r6_2 (aB.nx ?r6_1 (aB.nx ?r6_0 aB.zero)))))))))))) ?rfn6
  case' r6_0|r6_1|r6_2|r6_3|r6_4|r6_5|r6_6|r6_7|r6_8|r6_9=>
   intro us wj hk hp K hK;try simp only [aQ,Act.put,sL] at hK⊢
   obtain ⟨d0,d1,-,-⟩:=((HS.o.1.keep HF.o.2.2.2.1 id).keep hk id).two;obtain ⟨e0',e1',e2'⟩:=((HS.o.2.1.keep HF.o.2.2.2.1 id).keep hk id).three;obtain ⟨f0,f1,-,-⟩:=((H7.o.1.keep H8.o.2.2 id).keep hk id).two
  case' r6_0|r6_1|r6_3|r6_5=>
   go_simp
   refine hK.out _ _ (aA.refl _ _) ?_;exact rfl
  case' r6_2=>
   have e0:us 35=_:=hp 0;have e1:us 36=_:=hp 1;rw [e0,e1] at hK⊢;go_simp
   refine ((KL (H8.o.1.keep hk id) (HF.o.2.1 _ (H8.o.2.2.trans hk)) zZ zZ).call (Old w6) _ gD aD nD mD D (aA.refl _ _) (MB.gY (HF.o.2.2.2.1.trans hk).size) (HF.o.1 _ (HF.o.2.2.2.1.trans hk)) zZ).mono ?_;rintro e wk ⟨g,a,n,c,rfl,h,hk2⟩;exact hK.out _ _ hk2 (⟨g,a,n,c,rfl,h⟩)
  case' r6_4=>
   have e3:us 38=_:=hp 3;rw [e3] at hK⊢;go_simp
   refine (KD).mono ?_;rintro e wk ⟨v,rfl,⟨b,rfl,hr,hb⟩,hk2⟩;exact hK.out _ _ hk2 (⟨b,rfl,hr,bZ1 hk.size hb⟩)
  case' r6_6=>
   have e5:us 40=_:=hp 5;rw [e5] at hK⊢;go_simp
   refine hK.out _ _ (aA.refl _ _) ?_;exact rfl
  case' r6_7=>
   obtain ⟨b4,e4,h4,q4⟩:(oD 176 25 [.bool sG,.slice aG nG cG] w8.heap.size) (us 39) wj:=hp 4;have e6:us 41=_:=hp 6;rw [e4,e6] at hK⊢;go_simp
   refine ((GA h4 (HF.o.2.1 _ (H8.o.2.2.trans hk)) zZ zZ).call Nil _ gx ax nx cx T1.k (aA.refl _ _) (MB.nil _) (HF.o.2.2.1 _ (HF.o.2.2.2.1.trans hk)) zZ).mono ?_;rintro e wk ⟨g,a,n,c,rfl,h,hk2⟩;exact hK.out _ _ hk2 (⟨g,a,n,c,rfl,h⟩)
  case' r6_8=>
   obtain ⟨g7,a7,n7,c7,e7,h7⟩:(ZV Nil (T1.k.fmod (G:Int))) (us 42) wj:=hp 7;rw [e7] at hK⊢;go_simp
   refine (kY (h7.zat (by have:=HF.o.r4;omega))).mono ?_;rintro e wk ⟨rfl,hk2⟩;exact hK.out _ _ hk2 (rfl)
  case' r6_9=>
   go_simp
   refine hK.out _ _ ?_ ?_
   ·exact uK
   ·exact xU
  case' rfn6=>
  intro us wz hkz hf;simp only [aQ,Act.put,sL];have e0:us 35=_:=hf 0;have e1:us 36=_:=hf 1;obtain ⟨g2,a2,n2,c2,e2,h2⟩:(ZV (Old w6) (D.fdiv (G:Int))) (us 37) wz:=hf 2;have e3:us 38=_:=hf 3;obtain ⟨b4,e4,h4,q4⟩:(oD 176 25 [.bool sG,.slice aG nG cG] w8.heap.size) (us 39) wz:=hf 4;have e5:us 40=_:=hf 5;have e6:us 41=_:=hf 6;obtain ⟨g7,a7,n7,c7,e7,h7⟩:(ZV Nil (T1.k.fmod (G:Int))) (us 42) wz:=hf 7;have e8:us 43=_:=hf 8;obtain ⟨b9,e9,h9,q9⟩:(CZ ?b6_9 25 ?x6_9) (us 11) wz:=hf 9;clear hf;simp only [e0,e1,e2,e3,e4,e5,e6,e7,e8,e9];clear e0 e1 e2 e3 e4 e5 e6 e7 e8 e9 us;refine aK 10 fun K hK=>?_;obtain ⟨z0,z1,z2,z3⟩:=h9.two;go_simp
  refine mK ?_;clear hK K;refine aK 11 fun K hK=>?_;go_simp
  refine mK ?_;clear hK K;refine aR zX ?_ _;skip
  have k89:aA Nil w8 ((wz.setCell ⟨b9,0,none⟩ (.bool g2)).setCell ⟨b9,1,none⟩ (.slice a2 n2 c2)):=hkz.own q9 (aA.pair _ _);have rE:=h9.pair (u':=.bool g2) (v':=.slice a2 n2 c2);have qE:=(h2.apart h9 zW).less (aA.pair (.bool g2) (.slice a2 n2 c2));rw [show D.fdiv (G:Int)=eC D T by rw [←HG.o.r6];rfl] at qE;have hbE:w8.heap.size≤b9:=q9;clear z0 z1 z2 z3 h9 h2 h4 h7 q4 q9 hkz c0 c1;generalize (wz.setCell ⟨b9,0,none⟩ (.bool g2)).setCell ⟨b9,1,none⟩ (.slice a2 n2 c2)=w9 at *
  have k69:=HF.o.2.2.2.1.trans k89;have k79:=H8.o.2.2.trans k89;have rA9:=HS.o.1.keep k69 id;have rB9:=HS.o.2.1.keep k69 id;have rC9:=HS.o.2.2.1.keep k69 id;have kw9:=HS.o.r6.1.trans k69;have hPV:cC D T no=if T1.parts=[] then eA ((decide (T1.k=0)) != no) else if T1.k.fmod (G:Int)≠0 then eA no else if eC D T=1 then eA (!no) else ⟨if no then 4 else 3,eC D T,if kE (iJ D T) (dE D T)<0 then iJ D T else dE D T⟩:=by
   unfold cC;rw [HG.o.r5.1,HG.o.r6]
  have HPV:=jJ hPV;obtain ⟨e0,e1,e2⟩:=rB9.three;have H9:=jJ (FU rA9 rB9 rC9 kw9 k69 k79 k89 rE qE hbE);clear rA9 rB9 rC9 kw9 k69 k79 k89 rE qE hbE hPV;by_cases hy0:yp=0
  ·subst hy0;have hpn:T1.parts=[]:=fZ1 HG.o.r4.1;have hsg:=(kY (w:=w9) (HF.o.2.2.1 _ H9.o.r4.1));obtain ⟨s,hs⟩:∃s,s=T1.k.sign:=⟨_,rfl⟩;rw [←hs] at hsg;have hsk:decide (s=0)=decide (T1.k=0):=by rw [hs,decide_eq_decide];exact Int.sign_eq_zero_iff_zero
   have HSG:=jJ (aI3 hsg hsk hpn);clear hs hsg hsk hpn;go_wp2_with (first|(go_at_call 55;refine HSG.o.1.mono ?_;rintro e wa ⟨rfl,hka⟩;have HKA:=jJ hka;clear hka)|(go_at_call 147;refine (OJ (M:=Old w0) _).mono ?_;rintro e wt ⟨v,rfl,⟨gd',ad',nd',cd',ap',np',cp',gk',ak',nk',ck',rfl,hv⟩,hkt⟩;have rt:=(H9.o.2.2.1.keep HKA.o id).keep hkt id;obtain ⟨z0,z1,z2,z3,z4,z5⟩:=rt.eZ;obtain ⟨y0,y1,y2,y3,y4,y5⟩:=rt.iY;have HV:=jJ (aI3 hv hkt rt);clear hv hkt rt))
   have hbb:(decide (T1.k=0) != no)=(!(s==0)==no):=by rw [←HSG.o.2.1];cases no<;>simp [bne,Bool.beq_eq_decide_eq]
   have r6:=HV.o.2.2.six (.int .i64 (eA (!(s==0)==no)).kind) (.bool gd') (.slice ad' nd' cd') (.slice ap' np' cp') (.bool gk') (.slice ak' nk' ck');obtain ⟨x0,x1,x2,x3,x4,x5⟩:=r6.eZ;refine bodyPost_ret (v:=.tuple #[.agg #[.int .i64 (eA (!(s==0)==no)).kind,.bool gd',.slice ad' nd' cd',.slice ap' np' cp',.bool gk',.slice ak' nk' ck'],.int .i64 0]) yQ rfl ⟨_,rfl,?_,((H9.o.2.2.2.1.trans HKA.o).trans HV.o.2.1).own zZ (aA.six _ _ _ _ _ _)⟩;show AV M (cC D T no) _ _
   rw [HPV.o,if_pos HSG.o.2.2,hbb];exact⟨_,_,_,_,_,_,_,_,_,_,_,rfl,HV.o.1.out lr2 (fun b hb=>yL) (aA.six _ _ _ _ _ _)⟩
  ·have hyi:¬(yp:Int)=0:=zZ;have hyb:((yp:Int)==0)=false:=by simpa using hyi
   have hpn:¬T1.parts=[]:=fun e=>hy0 (by rw [←HG.o.r4.1,e];rfl);by_cases hr0:T1.k.fmod (G:Int)=0
   ·have hs0:(T1.k.fmod (G:Int)).sign=0:=by rw [hr0];rfl
    rw [hs0];clear hs0;go_upto_region 13 with fail
    obtain ⟨r,hr⟩:∃r,r=fT (eC D T) 1:=⟨_,rfl⟩;have hdp:=GV (T:=T) hD1;have hdn:=aCH (T:=T) hD1 HA.o.r5.1;have zE:∀W,aA Nil w9 W→ZAt Nil W g2 a2 n2 c2 (eC D T):=fun W k=>((H9.o.r8.1.move (M2:=Nil) (aA.refl Nil w9) (fun _ _ h=>h.elim) fun _ _ h=>h.elim).zat zZ).eO k;have hnE:n2≤536870912:=by have h3:=H9.o.r8.1.len;omega
    have HE:=jJ (aI6 zE hr hdp hdn hpn hr0);clear zE hr hdp hdn hpn;go_cut [61] (fun v wx=>v=.bool (decide (eC D T=1))∧aA Nil w9 wx)
    case first=>
     refine aX 5 [] [62,63,64,65,61] [62,63,64,65,61] [Un (eT ?v7_0),Un (ZV Nil 1),Un (eT (.int .i64 r)),Un (eT ?v7_3),Un (eT ?v7_4)] (aB.nx ?r7_4 (aB.nx ?r7_3 (aB.nx ?r7_2 (aB.nx ?r7_1 (aB.nx ?r7_0 aB.zero))))) ?rfn7
     case' r7_0|r7_1|r7_2|r7_3|r7_4=>
      intro us wj hk hp K hK;try simp only [aQ,Act.put,sL] at hK⊢
      obtain ⟨d0,d1,-,-⟩:=(H9.o.r7.1.keep hk id).two
     case' r7_0=>
      go_simp
      refine hK.out _ _ (aA.refl _ _) ?_;exact rfl
     case' r7_1=>
      go_simp
      refine (kZ (M:=Nil) (z:=1) (MB.nil _) zZ zZ).mono ?_;rintro e wk ⟨g,a,n,c,rfl,h,hk2⟩;exact hK.out _ _ hk2 (⟨g,a,n,c,rfl,h⟩)
     case' r7_2=>
      have e0:us 62=_:=hp 0;obtain ⟨g1,a1,n1,c1,e1,h1⟩:(ZV Nil 1) (us 63) wj:=hp 1;rw [e0,e1] at hK⊢;go_simp
      refine (ER (HE.o.1 _ hk) (h1.zat nQ)).mono ?_;rintro e wk ⟨e1,hk2⟩ ;(try rw [←HE.o.2.1] at e1);obtain rfl:=e1;exact hK.out _ _ hk2 (rfl)
     case' r7_3=>
      have e2:us 64=_:=hp 2;rw [e2] at hK⊢;go_simp
      refine hK.out _ _ (aA.refl _ _) ?_;exact rfl
     case' r7_4=>
      have e3:us 65=_:=hp 3;rw [e3] at hK⊢;go_simp
      refine hK.out _ _ (aA.refl _ _) ?_;exact rfl
     case' rfn7=>
     intro us wz hkz hf;simp only [aQ,Act.put,sL];have e0:us 62=_:=hf 0;obtain ⟨g1,a1,n1,c1,e1,h1⟩:(ZV Nil 1) (us 63) wz:=hf 1;have e2:us 64=_:=hf 2;have e3:us 65=_:=hf 3;have e4:us 61=_:=hf 4;clear hf;simp only [e0,e1,e2,e3,e4];clear e0 e1 e2 e3 e4 us;refine aR zX ?_ _;go_wp2_with fail
     go_meet
     exact⟨by congr 1;rw [HE.o.2.1,Bool.eq_iff_iff];simp [UY],hkz⟩
    case rest=>
     rename World=>wc;obtain ⟨rfl,hkc⟩:=hcut;have HCC:=jJ hkc;clear hkc;by_cases hd1:eC D T=1
     ·have hdd:decide (eC D T=1)=true:=decide_eq_true hd1;rw [hdd];clear hdd;go_wp2_with (go_at_call 147;refine (OJ (M:=Old w0) _).mono ?_;rintro e wt ⟨v,rfl,⟨gd',ad',nd',cd',ap',np',cp',gk',ak',nk',ck',rfl,hv⟩,hkt⟩;have rt:=(H9.o.2.2.1.keep HCC.o id).keep hkt id;obtain ⟨z0,z1,z2,z3,z4,z5⟩:=rt.eZ;obtain ⟨y0,y1,y2,y3,y4,y5⟩:=rt.iY;have HV:=jJ (aI3 hv hkt rt);clear hv hkt rt)
      have r6:=HV.o.2.2.six (.int .i64 (eA (!no)).kind) (.bool gd') (.slice ad' nd' cd') (.slice ap' np' cp') (.bool gk') (.slice ak' nk' ck');obtain ⟨x0,x1,x2,x3,x4,x5⟩:=r6.eZ;refine bodyPost_ret (v:=.tuple #[.agg #[.int .i64 (eA (!no)).kind,.bool gd',.slice ad' nd' cd',.slice ap' np' cp',.bool gk',.slice ak' nk' ck'],.int .i64 0]) yQ rfl ⟨_,rfl,?_,((H9.o.2.2.2.1.trans HCC.o).trans HV.o.2.1).own zZ (aA.six _ _ _ _ _ _)⟩;show AV M (cC D T no) _ _
      rw [HPV.o,if_neg HE.o.r4.1,if_neg (by rw [HE.o.r5];simp),if_pos hd1];exact⟨_,_,_,_,_,_,_,_,_,_,_,rfl,HV.o.1.out lr2 (fun b hb=>yL) (aA.six _ _ _ _ _ _)⟩
     ·have hdd:decide (eC D T=1)=false:=decide_eq_false hd1;rw [hdd];clear hdd;go_upto_region 15 with fail
      have gC:=aCD HA.o.r6 hD1 HA.o.r5.1;have gO:=aQU HA.o.r6 hD1 HA.o.r5.1;have hCe:jO T1 (fun x=>x.fdiv (G:Int)) (fun x=>x.fdiv (G:Int))=dE D T:=by
       unfold dE;rw [HG.o.r5.1,HG.o.r6]
      have hPf:cC D T no=⟨if no then 4 else 3,eC D T,if kE (iJ D T) (dE D T)<0 then iJ D T else dE D T⟩:=by
       rw [HPV.o,if_neg HE.o.r4.1,if_neg (by rw [HE.o.r5];simp),if_neg hd1]
      have hOe:jO (gU (-1) (dE D T) 0 ⟨[],0⟩) (fun x=>x.fmod (eC D T)) (fun x=>x.fmod (eC D T))=iJ D T:=rfl;have gN:=ZM gC;have HGO:=jJ (aI6 gC gO hCe hPf hOe gN);clear gC gO hCe hPf hOe gN;have k6c:=H9.o.r4.1.trans HCC.o;have k8c:=H9.o.r6.1.trans HCC.o;have HKC:=jJ (aI3 k6c k8c (H8.o.2.2.trans k8c));clear k6c k8c;refine aX 9 [7,8] [69,70,71,72,73,74,75,1082,1083] [69,70,71,72,73,74,75] [Un (eT ?v8_0),Un (eT ?v8_1),Un (ZV (Old w0) (D.fdiv (G:Int))),Un (eT ?v8_3),Un (eT ?v8_4),Un (eT ?v8_5),Un (TV (Old w0) (dE D T)),nothing,nothing] (aB.sk (aB.sk (aB.nx ?r8_6 (aB.nx ?r8_5 (aB.nx ?r8_4 (aB.nx ?r8_3 (aB.nx ?r8_2 (aB.nx ?r8_1 (aB.nx ?r8_0 aB.zero))))))))) ?rfn8
      case' r8_0|r8_1|r8_2|r8_3|r8_4|r8_5|r8_6=>
       intro us wj hk hp K hK;try simp only [aQ,Act.put,sL] at hK⊢
       obtain ⟨d0,d1,-,-⟩:=((HS.o.1.keep HKC.o.1 id).keep hk id).two;obtain ⟨e0',e1',e2'⟩:=((HS.o.2.1.keep HKC.o.1 id).keep hk id).three
      case' r8_0|r8_1|r8_3|r8_4|r8_5=>
       go_simp
       refine hK.out _ _ (aA.refl _ _) ?_;exact rfl
      case' r8_2=>
       have e0:us 69=_:=hp 0;have e1:us 70=_:=hp 1;rw [e0,e1] at hK⊢;go_simp
       refine ((KL ((H8.o.1.keep HKC.o.2.1 id).keep hk id) (HF.o.2.1 _ (HKC.o.2.2.trans hk)) zZ zZ).call (Old w0) _ gD aD nD mD D (aA.refl _ _) (MB.gY (bZ1 HS.o.r7 (HKC.o.1.trans hk).size)) (HF.o.1 _ (HKC.o.1.trans hk)) zZ).mono ?_;rintro e wk ⟨g,a,n,c,rfl,h,hk2⟩;exact hK.out _ _ hk2 (⟨g,a,n,c,rfl,h⟩)
      case' r8_6=>
       have e3:us 72=_:=hp 3;have e4:us 73=_:=hp 4;have e5:us 74=_:=hp 5;rw [e3,e4,e5] at hK⊢;go_simp
       refine (NM (M:=Old w0) (MB.gY (bZ1 HS.o.r7 (HKC.o.1.trans hk).size)) (T:=T1) (c:=fun x=>x.fdiv (G:Int)) (f:=fun x=>x.fdiv (G:Int)) ((HS.o.r5.1.mono fun _ h=>h.elim).eO (HKC.o.1.trans hk)) ((KL ((H8.o.1.keep HKC.o.2.1 id).keep hk id) (HF.o.2.1 _ (HKC.o.2.2.trans hk)) zZ zZ).mono zY) ((KL ((H8.o.1.keep HKC.o.2.1 id).keep hk id) (HF.o.2.1 _ (HKC.o.2.2.trans hk)) zZ zZ).mono zY) hypl (fun p hp=>by have h5:=HG.o.1.wee.parts p hp;have h6:=BZ p.2 hGi;omega) (by have h5:=HG.o.1.wee.k;have h6:=BZ T1.k hGi;omega)).mono ?_;rintro e wk ⟨v,rfl,hv,hk2⟩;exact hK.out _ _ hk2 ((by rw [HGO.o.2.2.1] at hv;exact hv))
      case' rfn8=>
      intro us wz hkz hf;simp only [aQ,Act.put,sL];have e0:us 69=_:=hf 0;have e1:us 70=_:=hf 1;obtain ⟨g2,a2,n2,c2,e2,h2⟩:(ZV (Old w0) (D.fdiv (G:Int))) (us 71) wz:=hf 2;have e3:us 72=_:=hf 3;have e4:us 73=_:=hf 4;have e5:us 74=_:=hf 5;obtain ⟨ap6,np6,cp6,gk6,ak6,nk6,ck6,e6,h6⟩:(TV (Old w0) (dE D T)) (us 75) wz:=hf 6;clear hf;simp only [e0,e1,e2,e3,e4,e5,e6];clear e0 e1 e2 e3 e4 e5 e6 us;refine aK 7 fun K hK=>?_;obtain ⟨z0,z1,z2,z3⟩:=((HS.o.1.keep HKC.o.1 id).keep hkz id).two;obtain ⟨y0,y1,y2⟩:=((HS.o.2.1.keep HKC.o.1 id).keep hkz id).three;obtain ⟨y3,y4,y5⟩:=((HS.o.2.1.keep HKC.o.1 id).keep hkz id).iZ;go_simp
      refine mK ?_;clear hK K;refine aK 8 fun K hK=>?_;go_simp
      refine mK ?_;clear hK K;refine aR zX ?_ _;skip
      have ks1:=aA.pair (w:=wz) (g:=w.heap.size) (.bool g2) (.slice a2 n2 c2);have ks2:=aA.triple (w:=(wz.setCell ⟨w.heap.size,0,none⟩ (.bool g2)).setCell ⟨w.heap.size,1,none⟩ (.slice a2 n2 c2)) (g:=w.heap.size+1) (.slice ap6 np6 cp6) (.bool gk6) (.slice ak6 nk6 ck6);have rA':=(((HS.o.1.keep HKC.o.1 id).keep hkz id).pair (u':=.bool g2) (v':=.slice a2 n2 c2)).keep ks2 (show ¬_=_ by omega);have rB':=(((HS.o.2.1.keep HKC.o.1 id).keep hkz id).keep ks1 (show ¬_=_ by omega)).triple (.slice ap6 np6 cp6) (.bool gk6) (.slice ak6 nk6 ck6);have rC':=(((HS.o.2.2.1.keep HKC.o.1 id).keep hkz id).keep ks1 (show ¬_=_ by omega)).keep ks2 (show ¬_=_ by omega);have qD':=(h2.move (M2:=Old w0) ks1 (fun b _ (hm:b=w.heap.size)=>xO) (fun _ _ hb=>hb)).move (M2:=Old w0) ks2 (fun b _ (hm:b=w.heap.size+1)=>xO) (fun _ _ hb=>hb);have qT':=(h6.out (M:=Old w0) zZ (fun _ hb=>hb) ks1).out (M:=Old w0) zZ (fun _ hb=>hb) ks2;rw [show D.fdiv (G:Int)=eC D T by rw [←HG.o.r6];rfl] at qD';have kwd:=(((HS.o.r6.1.trans HKC.o.1).trans hkz).own (bZ2 _) ks1).own (Nat.le_succ _) ks2;have ksz':w0.heap.size≤_:=bZ1 (bZ1 HS.o.r7 (HKC.o.1.trans hkz).size) (bZ1 ks1.size ks2.size);clear z0 z1 z2 z3 y0 y1 y2 y3 y4 y5 h2 h6 ks1 ks2 hkz e0 e1 e2 HKC HCC;generalize (((((wz.setCell ⟨w.heap.size,0,none⟩ (.bool g2)).setCell ⟨w.heap.size,1,none⟩ (.slice a2 n2 c2)).setCell ⟨w.heap.size+1,0,none⟩ (.slice ap6 np6 cp6)).setCell ⟨w.heap.size+1,1,none⟩ (.bool gk6)).setCell ⟨w.heap.size+1,2,none⟩ (.slice ak6 nk6 ck6))=wd at *
      obtain ⟨d0,d1,-,-⟩:=rA'.two;have hdn:=HE.o.2.2.2.1;have hdp:=HE.o.2.2.1;have hnd2:n2≤536870912:=by have h3:=qD'.len;omega
      have HWD:=jJ (aI7 rA' rB' rC' qD' qT' kwd ksz');have zDD:∀W,aA Nil wd W→ZAt Nil W g2 a2 n2 c2 (eC D T):=fun W k=>((qD'.move (M2:=Nil) (aA.refl Nil wd) (fun _ _ h=>h.elim) fun _ _ h=>h.elim).zat zZ).eO k;have HZD:=jJ zDD;have hnp6:np6≤16777216:=by have h3:=eU.len qT'.1;have h4:=HGO.o.1.wee.few;omega
      have hnk6:nk6≤536870912:=by have h3:=qT'.2.len;have h4:=HGO.o.1.wee.k;omega
      have hRC:∀W,aA Nil wd W→bI Nil Nil W ap6 np6 cp6 (dE D T).parts:=fun W k=>(cV.raw ((qT'.mono (M':=Nil) fun _ h=>h.elim).1) (fun p hp=>by have:=HGO.o.1.wee.parts p hp;omega)).eO k;have zKC:∀W,aA Nil wd W→ZAt Nil W gk6 ak6 nk6 ck6 (dE D T).k:=fun W k=>((qT'.mono (M':=Nil) fun _ h=>h.elim).2.zat (by have:=HGO.o.1.wee.k;omega)).eO k;have HRC:=jJ (aI hRC zKC);clear rA' rB' rC' qD' qT' kwd ksz' zDD hRC zKC;go_upto_region 17 with (go_at_call 125;refine KD.mono ?_;rintro e we ⟨v,rfl,⟨bN,rfl,rN,hbN⟩,hke⟩;have HN:=jJ (aI3 rN hbN hke);clear rN hbN hke)
      refine aX 8 [7] [78,79,80,81,82,83,13,1090] [78,79,80,81,82,83,13] [Un (ZV Nil (-1)),Un (eT ?v9_1),Un (TV Nil (gU (-1) ⟨(dE D T).parts,(dE D T).k⟩ 0 ⟨[],0⟩)),Un (eT ?v9_3),Un (eT ?v9_4),Un (TV (Old w0) (iJ D T)),Un (CZ ?b9_6 27 ?x9_6),nothing] (aB.sk (aB.nx ?r9_6 (aB.nx ?r9_5 (aB.nx ?r9_4 (aB.nx ?r9_3 (aB.nx ?r9_2 (aB.nx ?r9_1 (aB.nx ?r9_0 aB.zero)))))))) ?rfn9
      case' r9_0|r9_1|r9_2|r9_3|r9_4|r9_5|r9_6=>
       intro us wj hk hp K hK;try simp only [aQ,Act.put,sL] at hK⊢
       obtain ⟨e0',e1',e2'⟩:=((HWD.o.2.1.keep HN.o.2.2 id).keep hk id).three
      case' r9_0=>
       go_simp
       refine (kZ (M:=Nil) (z:=-1) (MB.nil _) zZ zZ).mono ?_;rintro e wk ⟨g,a,n,c,rfl,h,hk2⟩;exact hK.out _ _ hk2 (⟨g,a,n,c,rfl,h⟩)
      case' r9_1|r9_3|r9_4=>
       go_simp
       refine hK.out _ _ (aA.refl _ _) ?_;exact rfl
      case' r9_2=>
       obtain ⟨g0,a0,n0,c0,e0,h0⟩:(ZV Nil (-1)) (us 78) wj:=hp 0;have e1:us 79=_:=hp 1;rw [e0,e1] at hK⊢;go_simp
       refine (aRF (M:=Nil) (MB.nil _) (h0.zat (by have:=BK;rw [show (-1:Int).natAbs=(1:Int).natAbs from rfl];omega)) (HRC.o.1 _ (HN.o.2.2.trans hk)) (HRC.o.2 _ (HN.o.2.2.trans hk)) (by have h3:=h0.len;have:=BK;rw [show (-1:Int).natAbs=(1:Int).natAbs from rfl] at h3;omega) zZ hnp6).mono ?_;rintro e wk ⟨v,rfl,hv,hk2⟩;exact hK.out _ _ hk2 (hv)
      case' r9_5=>
       obtain ⟨ap2,np2,cp2,gk2,ak2,nk2,ck2,e2,h2⟩:(TV Nil (gU (-1) ⟨(dE D T).parts,(dE D T).k⟩ 0 ⟨[],0⟩)) (us 80) wj:=hp 2;have e3:us 81=_:=hp 3;have e4:us 82=_:=hp 4;rw [e2,e3,e4] at hK⊢;go_simp
       refine (NM (M:=Old w0) (MB.gY (bZ1 HWD.o.r6 (HN.o.2.2.trans hk).size)) (T:=gU (-1) (dE D T) 0 ⟨[],0⟩) (c:=fun x=>x.fmod (eC D T)) (f:=fun x=>x.fmod (eC D T)) h2 ((GA (HN.o.1.keep hk id) (HZD.o _ (HN.o.2.2.trans hk)) zZ zZ).mono zY) ((GA (HN.o.1.keep hk id) (HZD.o _ (HN.o.2.2.trans hk)) zZ zZ).mono zY) (by have h5:=HGO.o.r5.wee.few;have h6:=eU.len h2.1;exact bZ1 (Nat.le_of_eq h6.symm) h5) (fun p hp=>by have h5:=HGO.o.r5.wee.parts p hp;have h6:=AZ p.2 hdp;omega) (by have h5:=HGO.o.r5.wee.k;have h6:=AZ (gU (-1) (dE D T) 0 ⟨[],0⟩).k hdp;exact⟨bZ1 h5 zY,zZ⟩)).mono ?_;rintro e wk ⟨v,rfl,hv,hk2⟩;exact hK.out _ _ hk2 ((by rw [HGO.o.r4.1] at hv;exact hv))
      case' r9_6=>
       go_simp
       refine hK.out _ _ ?_ ?_
       ·exact uK
       ·exact xU
      case' rfn9=>
      intro us wz hkz hf;simp only [aQ,Act.put,sL];obtain ⟨g0,a0,n0,c0,e0,h0⟩:(ZV Nil (-1)) (us 78) wz:=hf 0;have e1:us 79=_:=hf 1;obtain ⟨ap2,np2,cp2,gk2,ak2,nk2,ck2,e2,h2⟩:(TV Nil (gU (-1) ⟨(dE D T).parts,(dE D T).k⟩ 0 ⟨[],0⟩)) (us 80) wz:=hf 2;have e3:us 81=_:=hf 3;have e4:us 82=_:=hf 4;obtain ⟨ap5,np5,cp5,gk5,ak5,nk5,ck5,e5,h5⟩:(TV (Old w0) (iJ D T)) (us 83) wz:=hf 5;obtain ⟨b6,e6,h6,q6⟩:(CZ ?b9_6 27 ?x9_6) (us 13) wz:=hf 6;clear hf;simp only [e0,e1,e2,e3,e4,e5,e6];clear e0 e1 e2 e3 e4 e5 e6 us;refine aK 7 fun K hK=>?_;obtain ⟨z0,z1,z2⟩:=h6.three;obtain ⟨z3,z4,z5⟩:=h6.iZ;go_simp
      refine mK ?_;clear hK K;refine aR zX ?_ _;skip
      have ks6:=aA.triple (w:=wz) (g:=b6) (.slice ap5 np5 cp5) (.bool gk5) (.slice ak5 nk5 ck5);have r13:=h6.triple (.slice ap5 np5 cp5) (.bool gk5) (.slice ak5 nk5 ck5);have qO:=(h5.apart h6 zW).less ks6;have kdf:aA Nil wd _:=(HN.o.2.2.trans hkz).own (by have:=HN.o.2.2.size;omega) ks6;clear z0 z1 z2 z3 z4 z5 h6 h5 h2 h0 hkz ks6 d0 d1;generalize ((wz.setCell ⟨b6,0,none⟩ (.slice ap5 np5 cp5)).setCell ⟨b6,1,none⟩ (.bool gk5)).setCell ⟨b6,2,none⟩ (.slice ak5 nk5 ck5)=wf at *
      have hnp5:np5≤16777216:=by have h3:=eU.len qO.1;have h4:=HGO.o.2.1.wee.few;omega
      have hnk5:nk5≤536870912:=by have h3:=qO.2.len;have h4:=HGO.o.2.1.wee.k;omega
      have hord:=aCQ (M1:=Nil) (M2:=Nil) (M3:=Nil) (M4:=Nil) (cV.raw ((qO.mono (M':=Nil) fun _ h=>h.elim).1) (fun p hp=>by have:=HGO.o.2.1.wee.parts p hp;omega)) ((qO.mono (M':=Nil) fun _ h=>h.elim).2.zat (by have:=HGO.o.2.1.wee.k;omega)) (HRC.o.1 _ kdf) (HRC.o.2 _ kdf) zZ hnp5 zZ hnp6 (by rw [show (⟨(iJ D T).parts,(iJ D T).k⟩:aV)=iJ D T from rfl,eE HGO.o.2.1.fZ];exact HGO.o.2.1.fits) (by rw [show (⟨(dE D T).parts,(dE D T).k⟩:aV)=dE D T from rfl,eE HGO.o.1.fZ];exact HGO.o.1.fits);rw [show (⟨(iJ D T).parts,(iJ D T).k⟩:aV)=iJ D T from rfl,eE HGO.o.2.1.fZ,show (⟨(dE D T).parts,(dE D T).k⟩:aV)=dE D T from rfl,eE HGO.o.1.fZ] at hord;generalize hrr:kE (iJ D T) (dE D T)=r at *
      have HO:=jJ (aI hord hrr);have HW2:=jJ (aI8 r13 (HWD.o.1.keep kdf id) (HWD.o.2.1.keep kdf id) (HWD.o.2.2.1.keep kdf id) (HWD.o.2.2.2.1.eO kdf) qO (HWD.o.r4.1.eO kdf) (HWD.o.r5.1.trans kdf));obtain ⟨d0,d1,d2⟩:=r13.three;obtain ⟨e0,e1,e2⟩:=(HWD.o.2.1.keep kdf id).three;clear r13 qO kdf hord hrr;cases no
      ·skip
       by_cases hlt:r<0
       ·have HR:=jJ hlt;go_wp2_with (go_at_call 148;refine HO.o.1.mono ?_;rintro e wg ⟨rfl,hkg⟩;have rBg:=HW2.o.2.2.1.keep hkg id;obtain ⟨y0,y1,y2⟩:=rBg.three;obtain ⟨y3,y4,y5⟩:=rBg.iZ;obtain ⟨t0,t1,t2⟩:=(HW2.o.1.keep hkg id).three;obtain ⟨v0,v1,-,-⟩:=(HW2.o.2.1.keep hkg id).two;obtain ⟨z0,z1,z2,z3,z4,z5⟩:=(HW2.o.2.2.2.1.keep hkg id).eZ;obtain ⟨u0',u1',u2',u3',u4',u5'⟩:=(HW2.o.2.2.2.1.keep hkg id).iY;have HKG:=jJ hkg;clear hkg rBg)
        have ks3:=aA.triple (w:=wg) (g:=w.heap.size+1) (.slice ap5 np5 cp5) (.bool gk5) (.slice ak5 nk5 ck5);have rfin:=(HW2.o.2.2.2.1.keep HKG.o id).keep ks3 (show ¬_=_ by omega);have dfin:=(HW2.o.r4.1.eO HKG.o).move (M2:=Old w0) ks3 (fun b _ (hm:b=w.heap.size+1)=>xO) (fun _ _ hb=>hb);have tfin:=(HW2.o.r5.1.eO HKG.o).out (M:=Old w0) zZ (fun _ hb=>hb) ks3;have kfin:=(HW2.o.r7.trans HKG.o).own zZ ks3;have r7:=rfin.six (.int .i64 3) (.bool g2) (.slice a2 n2 c2) (.slice ap5 np5 cp5) (.bool gk5) (.slice ak5 nk5 ck5);obtain ⟨x0,x1,x2,x3,x4,x5⟩:=r7.eZ;refine bodyPost_ret (v:=.tuple #[.agg #[.int .i64 3,.bool g2,.slice a2 n2 c2,.slice ap5 np5 cp5,.bool gk5,.slice ak5 nk5 ck5],.int .i64 0]) yQ rfl ⟨_,rfl,?_,kfin.own zZ (aA.six _ _ _ _ _ _)⟩;show AV M (cC D T false) _ _
        rw [HGO.o.2.2.2.1,if_pos (show r<0 by have:=HR.o;omega)];exact⟨_,_,_,_,_,_,_,_,_,_,_,rfl,jA.out (A:=⟨3,eC D T,iJ D T⟩) ⟨dfin,tfin⟩ lr2 (fun b hb=>yL) (aA.six _ _ _ _ _ _)⟩
       ·have HR:=jJ hlt;go_wp2_with (go_at_call 148;refine HO.o.1.mono ?_;rintro e wg ⟨rfl,hkg⟩;have rBg:=HW2.o.2.2.1.keep hkg id;obtain ⟨y0,y1,y2⟩:=rBg.three;obtain ⟨y3,y4,y5⟩:=rBg.iZ;obtain ⟨t0,t1,t2⟩:=(HW2.o.1.keep hkg id).three;obtain ⟨v0,v1,-,-⟩:=(HW2.o.2.1.keep hkg id).two;obtain ⟨z0,z1,z2,z3,z4,z5⟩:=(HW2.o.2.2.2.1.keep hkg id).eZ;obtain ⟨u0',u1',u2',u3',u4',u5'⟩:=(HW2.o.2.2.2.1.keep hkg id).iY;have HKG:=jJ hkg;clear hkg rBg)
        have rfin:=HW2.o.2.2.2.1.keep HKG.o id;have dfin:=HW2.o.r4.1.eO HKG.o;have tfin:=HW2.o.r6.1.eO HKG.o;have kfin:=HW2.o.r7.trans HKG.o;have r7:=rfin.six (.int .i64 3) (.bool g2) (.slice a2 n2 c2) (.slice ap6 np6 cp6) (.bool gk6) (.slice ak6 nk6 ck6);obtain ⟨x0,x1,x2,x3,x4,x5⟩:=r7.eZ;refine bodyPost_ret (v:=.tuple #[.agg #[.int .i64 3,.bool g2,.slice a2 n2 c2,.slice ap6 np6 cp6,.bool gk6,.slice ak6 nk6 ck6],.int .i64 0]) yQ rfl ⟨_,rfl,?_,kfin.own zZ (aA.six _ _ _ _ _ _)⟩;show AV M (cC D T false) _ _
        rw [HGO.o.2.2.2.1,if_neg (show ¬r<0 by have:=HR.o;omega)];exact⟨_,_,_,_,_,_,_,_,_,_,_,rfl,jA.out (A:=⟨3,eC D T,dE D T⟩) ⟨dfin,tfin⟩ lr2 (fun b hb=>yL) (aA.six _ _ _ _ _ _)⟩
      ·skip
       by_cases hlt:r<0
       ·have HR:=jJ hlt;go_wp2_with (go_at_call 148;refine HO.o.1.mono ?_;rintro e wg ⟨rfl,hkg⟩;have rBg:=HW2.o.2.2.1.keep hkg id;obtain ⟨y0,y1,y2⟩:=rBg.three;obtain ⟨y3,y4,y5⟩:=rBg.iZ;obtain ⟨t0,t1,t2⟩:=(HW2.o.1.keep hkg id).three;obtain ⟨v0,v1,-,-⟩:=(HW2.o.2.1.keep hkg id).two;obtain ⟨z0,z1,z2,z3,z4,z5⟩:=(HW2.o.2.2.2.1.keep hkg id).eZ;obtain ⟨u0',u1',u2',u3',u4',u5'⟩:=(HW2.o.2.2.2.1.keep hkg id).iY;have HKG:=jJ hkg;clear hkg rBg)
        have ks3:=aA.triple (w:=wg) (g:=w.heap.size+1) (.slice ap5 np5 cp5) (.bool gk5) (.slice ak5 nk5 ck5);have rfin:=(HW2.o.2.2.2.1.keep HKG.o id).keep ks3 (show ¬_=_ by omega);have dfin:=(HW2.o.r4.1.eO HKG.o).move (M2:=Old w0) ks3 (fun b _ (hm:b=w.heap.size+1)=>xO) (fun _ _ hb=>hb);have tfin:=(HW2.o.r5.1.eO HKG.o).out (M:=Old w0) zZ (fun _ hb=>hb) ks3;have kfin:=(HW2.o.r7.trans HKG.o).own zZ ks3;have r7:=rfin.six (.int .i64 4) (.bool g2) (.slice a2 n2 c2) (.slice ap5 np5 cp5) (.bool gk5) (.slice ak5 nk5 ck5);obtain ⟨x0,x1,x2,x3,x4,x5⟩:=r7.eZ;refine bodyPost_ret (v:=.tuple #[.agg #[.int .i64 4,.bool g2,.slice a2 n2 c2,.slice ap5 np5 cp5,.bool gk5,.slice ak5 nk5 ck5],.int .i64 0]) yQ rfl ⟨_,rfl,?_,kfin.own zZ (aA.six _ _ _ _ _ _)⟩;show AV M (cC D T true) _ _
        rw [HGO.o.2.2.2.1,if_pos (show r<0 by have:=HR.o;omega)];exact⟨_,_,_,_,_,_,_,_,_,_,_,rfl,jA.out (A:=⟨4,eC D T,iJ D T⟩) ⟨dfin,tfin⟩ lr2 (fun b hb=>yL) (aA.six _ _ _ _ _ _)⟩
       ·have HR:=jJ hlt;go_wp2_with (go_at_call 148;refine HO.o.1.mono ?_;rintro e wg ⟨rfl,hkg⟩;have rBg:=HW2.o.2.2.1.keep hkg id;obtain ⟨y0,y1,y2⟩:=rBg.three;obtain ⟨y3,y4,y5⟩:=rBg.iZ;obtain ⟨t0,t1,t2⟩:=(HW2.o.1.keep hkg id).three;obtain ⟨v0,v1,-,-⟩:=(HW2.o.2.1.keep hkg id).two;obtain ⟨z0,z1,z2,z3,z4,z5⟩:=(HW2.o.2.2.2.1.keep hkg id).eZ;obtain ⟨u0',u1',u2',u3',u4',u5'⟩:=(HW2.o.2.2.2.1.keep hkg id).iY;have HKG:=jJ hkg;clear hkg rBg)
        have rfin:=HW2.o.2.2.2.1.keep HKG.o id;have dfin:=HW2.o.r4.1.eO HKG.o;have tfin:=HW2.o.r6.1.eO HKG.o;have kfin:=HW2.o.r7.trans HKG.o;have r7:=rfin.six (.int .i64 4) (.bool g2) (.slice a2 n2 c2) (.slice ap6 np6 cp6) (.bool gk6) (.slice ak6 nk6 ck6);obtain ⟨x0,x1,x2,x3,x4,x5⟩:=r7.eZ;refine bodyPost_ret (v:=.tuple #[.agg #[.int .i64 4,.bool g2,.slice a2 n2 c2,.slice ap6 np6 cp6,.bool gk6,.slice ak6 nk6 ck6],.int .i64 0]) yQ rfl ⟨_,rfl,?_,kfin.own zZ (aA.six _ _ _ _ _ _)⟩;show AV M (cC D T true) _ _
        rw [HGO.o.2.2.2.1,if_neg (show ¬r<0 by have:=HR.o;omega)];exact⟨_,_,_,_,_,_,_,_,_,_,_,rfl,jA.out (A:=⟨4,eC D T,dE D T⟩) ⟨dfin,tfin⟩ lr2 (fun b hb=>yL) (aA.six _ _ _ _ _ _)⟩
   ·have hs0:¬(T1.k.fmod (G:Int)).sign=0:=fun e=>hr0 (Int.sign_eq_zero_iff_zero.1 e);have hs1:((T1.k.fmod (G:Int)).sign==0)=false:=by simpa using hs0
    go_wp2_with (go_at_call 147;refine (OJ (M:=Old w0) _).mono ?_;rintro e wt ⟨v,rfl,⟨gd',ad',nd',cd',ap',np',cp',gk',ak',nk',ck',rfl,hv⟩,hkt⟩;have rt:=H9.o.2.2.1.keep hkt id;obtain ⟨z0,z1,z2,z3,z4,z5⟩:=rt.eZ;obtain ⟨y0,y1,y2,y3,y4,y5⟩:=rt.iY;have HV:=jJ (aI3 hv hkt rt);clear hv hkt rt)
    have r6:=HV.o.2.2.six (.int .i64 (eA no).kind) (.bool gd') (.slice ad' nd' cd') (.slice ap' np' cp') (.bool gk') (.slice ak' nk' ck');obtain ⟨x0,x1,x2,x3,x4,x5⟩:=r6.eZ;refine bodyPost_ret (v:=.tuple #[.agg #[.int .i64 (eA no).kind,.bool gd',.slice ad' nd' cd',.slice ap' np' cp',.bool gk',.slice ak' nk' ck'],.int .i64 0]) yQ rfl ⟨_,rfl,?_,(H9.o.2.2.2.1.trans HV.o.2.1).own zZ (aA.six _ _ _ _ _ _)⟩;show AV M (cC D T no) _ _
    rw [HPV.o,if_neg hpn,if_pos hr0];exact⟨_,_,_,_,_,_,_,_,_,_,_,rfl,HV.o.1.out lr2 (fun b hb=>yL) (aA.six _ _ _ _ _ _)⟩
theorem aDJ {nd:Nat} (no:Bool) (hM:MB M w) (hd:ZAt Nil w gd ad nd cd d) (h:bI M1 M2 w ap np cp l) (hk:ZAt Nil w gk ak nk ck z) (h1:np≤16777216) (h2:nk≤1073741824) (hw:Wee (bC ⟨l,z⟩)) (hwd:eP d.natAbs≤536870912) :
  Calls prog 106 #[.agg #[.bool gd,.slice ad nd cd],.agg #[.slice ap np cp,.bool gk,.slice ak nk ck],.bool no] w fun e w'=>QL M (jN d (bC ⟨l,z⟩) no) w e w':=by
 by_cases h0:d=0
 ·subst h0;exact aOQ no hd
 ·rw [jN,if_neg h0];exact aQB no hM hd h hk h1 h2 hw hwd h0
end
end Go.Proofs.Q
