/- What term.Sub, term.Const, atom.Negate do. -/
import Derived.Test.YtgeklmkfjkenlaaGreatDoorNOnces
import Derived.Test.YtgeklmkfjkenlaaGreatDoorNThroughs
set_option linter.unusedSimpArgs false
set_option linter.unusedVariables false
set_option maxRecDepth 100000
set_option maxHeartbeats 4000000
namespace Go.Proofs.Q
open Go.RowKit Tryz
theorem fit_neg1:nlen (-1:Int).natAbs*4+4≤140737488355328:=fit_one
def negV (A:cI):cI:=
 if (bT A).1≠0 then ⟨0,0,bS⟩
 else if (bT A).2.kind=0∨(bT A).2.kind=1 then cV (decide ((bT A).2.kind=0))
 else if (bT A).2.kind=2 then lessV (bE (sumT 1 ⟨[],1⟩ (-1) (bT A).2.t))
 else (dV (bT A).2.d (bE (bT A).2.t) (decide ((bT A).2.kind=3))).2
section
variable {w:World} {M:Nat→Prop} {aa:Option Addr} {ga:Bool} {z k:Int} {l:aM}
theorem tsub_any {M1 M2 M3 M4:Nat→Prop} {gb:Bool} {ap ab bp:Option Addr} {na ca np cp nb cb mp dp:Nat} {za zb:Int} {la lb:aM} (hM:MB M w) (ha:bU M1 M2 w ap np cp la) (hza:ZAt Nil w ga aa na ca za) (hb:bU M3 M4 w bp mp dp lb) (hzb:ZAt Nil w gb ab nb cb zb) (h3:na≤1073741824) (h4:nb≤1073741824) (h5:np≤16777216) (h6:mp≤16777216) :
  Calls prog 58 #[.agg #[.slice ap np cp,.bool ga,.slice aa na ca],.agg #[.slice bp mp dp,.bool gb,.slice ab nb cb]] w fun e w'=>Gives Nil (TV M (sumT 1 ⟨la,za⟩ (-1) ⟨lb,zb⟩)) w e w':=by
 have HM:=jJ hM;have HA:=jJ (aI8 ha hza hb hzb h3 h4 h5 h6);clear hM ha hza hb hzb h3 h4 h5 h6;go_enter func58,ntmps58
 go_upto_region 1 with (fail)
 obtain ⟨w0,e_1,k0,r0,r1,r2⟩:=bx3 w 43 [.slice ap np cp,.bool ga,.slice aa na ca] 43 [.slice bp mp dp,.bool gb,.slice ab nb cb] 43 [.slice none 0 0,.bool false,.slice none 0 0];rw [e_1];clear e_1;have lr:=r2.lt;have H0:=jJ (aI4 k0 r0 r1 r2);clear k0 r0 r1 r2;refine aX 6 [5] [5,6,7,8,9,1014] [5,6,7,8,9] [Un (ZV Nil 1),Un (LitV ?v2_1),Un (ZV Nil (-1)),Un (LitV ?v2_3),Un (TV (Old w0) (sumT 1 ⟨la,za⟩ (-1) ⟨lb,zb⟩)),nothing] (aB.sk (aB.nx ?r2_4 (aB.nx ?r2_3 (aB.nx ?r2_2 (aB.nx ?r2_1 (aB.nx ?r2_0 aB.zero)))))) ?rfn2
 case' r2_0|r2_1|r2_2|r2_3|r2_4=>
  intro us wj hk hp K hK;try simp only [aP,Act.put,sL] at hK⊢
  obtain ⟨d0,d1,d2⟩:=(H0.o.2.1.keep hk id).three;obtain ⟨e0',e1',e2'⟩:=(H0.o.2.2.1.keep hk id).three
 case' r2_0=>
  go_simp
  refine (zof_any (M:=Nil) (z:=1) (MB.nil _) (by omega) (by omega)).mono ?_;rintro e wk ⟨g,a,n,c,rfl,h,hk2⟩;exact hK.out _ _ hk2 (⟨g,a,n,c,rfl,h⟩)
 case' r2_1|r2_3=>
  go_simp
  refine hK.out _ _ (aA.refl _ _) ?_;exact rfl
 case' r2_2=>
  go_simp
  refine (zof_any (M:=Nil) (z:=-1) (MB.nil _) (by omega) (by omega)).mono ?_;rintro e wk ⟨g,a,n,c,rfl,h,hk2⟩;exact hK.out _ _ hk2 (⟨g,a,n,c,rfl,h⟩)
 case' r2_4=>
  obtain ⟨g0,a0,n0,c0,e0,h0⟩:(ZV Nil 1) (us 5) wj:=hp 0;have e1:us 6=_:=hp 1;obtain ⟨g2,a2,n2,c2,e2,h2⟩:(ZV Nil (-1)) (us 7) wj:=hp 2;have e3:us 8=_:=hp 3;rw [e0,e1,e2,e3] at hK⊢;go_simp
  refine (sum_any (M:=Old w0) (MB.oldLe hk.size) (h0.zat fit_one) (h2.zat fit_neg1) (HA.o.1.keepNil (H0.o.1.trans hk)) (HA.o.2.2.1.keepNil (H0.o.1.trans hk)) (HA.o.2.1.keepNil (H0.o.1.trans hk)) (HA.o.2.2.2.1.keepNil (H0.o.1.trans hk)) (by have:=h0.len;have:=nlen_one;omega) (by have:=h2.len;have:=nlen_one;simp only [Int.natAbs_neg] at *;omega) HA.o.r4.1 HA.o.r5.1 HA.o.r6.1 HA.o.r7).mono ?_;rintro e wk ⟨v,rfl,hv,hk2⟩;exact hK.out _ _ hk2 (hv)
 case' rfn2=>
 intro us wz hkz hf;simp only [aP,Act.put,sL];obtain ⟨g0,a0,n0,c0,e0,h0⟩:(ZV Nil 1) (us 5) wz:=hf 0;have e1:us 6=_:=hf 1;obtain ⟨g2,a2,n2,c2,e2,h2⟩:(ZV Nil (-1)) (us 7) wz:=hf 2;have e3:us 8=_:=hf 3;obtain ⟨ap4,np4,cp4,gk4,ak4,nk4,ck4,e4,h4⟩:(TV (Old w0) (sumT 1 ⟨la,za⟩ (-1) ⟨lb,zb⟩)) (us 9) wz:=hf 4;clear hf;simp only [e0,e1,e2,e3,e4];clear e0 e1 e2 e3 e4 us;refine aK 5 fun K hK=>?_;obtain ⟨z0,z1,z2⟩:=(H0.o.2.2.2.keep hkz id).three;obtain ⟨z3,z4,z5⟩:=(H0.o.2.2.2.keep hkz id).marks3;go_simp
 refine mK ?_;clear hK K;refine aQ (by kernel_rfl) ?_ _;go_wp2_with fail
 have r6:=(H0.o.2.2.2.keep hkz id).triple (.slice ap4 np4 cp4) (.bool gk4) (.slice ak4 nk4 ck4);obtain ⟨y0,y1,y2⟩:=r6.three;exact bodyPost_ret (v:=.agg #[.slice ap4 np4 cp4,.bool gk4,.slice ak4 nk4 ck4]) (by simp [results,results58,go_sem,y0,y1,y2]) rfl ⟨_,rfl,⟨_,_,_,_,_,_,_,rfl,h4.out (M:=M) lr (fun b hb=>by have:=HM.o b hb;omega) (aA.triple (g:=w.heap.size+1+1) (.slice ap4 np4 cp4) (.bool gk4) (.slice ak4 nk4 ck4))⟩,(H0.o.1.trans hkz).own (by omega) (aA.triple _ _ _)⟩
theorem tconst_any {na ca:Nat} (hM:MB M w) (hz:ZAt Nil w ga aa na ca z) :
  Calls prog 60 #[.agg #[.bool ga,.slice aa na ca]] w fun e w'=>Gives Nil (TV M ⟨[],z⟩) w e w':=by
 have HM:=jJ hM;have HZ:=jJ hz;clear hM hz;go_enter func60,ntmps60
 go_upto_region 1 with (fail)
 obtain ⟨w0,e_3,k0,r0,r1⟩:=bx2 w 41 [.bool ga,.slice aa na ca] 43 [.slice none 0 0,.bool false,.slice none 0 0];rw [e_3];clear e_3;obtain ⟨c0,c1,-,-⟩:=r0.two;have lr:=r1.lt;have H0:=jJ (aI k0 r1);clear k0 r0 r1;go_wp2_with (go_at_call 116;refine (norm_any (M:=Old w0) (MB.old w0) (HZ.o.keepNil H0.o.1)).mono ?_;rintro e w1 ⟨g,a,n,c,rfl,hn,hk1⟩;have r1:=H0.o.2.keep hk1 id;obtain ⟨z0,z1,z2⟩:=r1.three;obtain ⟨z3,z4,z5⟩:=r1.marks3;have H1:=jJ (aI3 hn hk1 r1);clear hn hk1 r1)
 have r6:=H1.o.2.2.triple (.slice none 0 0) (.bool g) (.slice a n c);obtain ⟨y0,y1,y2⟩:=r6.three;exact bodyPost_ret (v:=.agg #[.slice none 0 0,.bool g,.slice a n c]) (by simp [results,results60,go_sem,y0,y1,y2]) rfl ⟨_,rfl,⟨_,_,_,_,_,_,_,rfl,(show TermAt (Old w0) w1 none 0 0 g a n c ⟨[],z⟩ from ⟨SlOf.nil,H1.o.1⟩).out lr (fun b hb=>by have:=HM.o b hb;omega) (aA.triple _ _ _)⟩,(H0.o.1.trans H1.o.2.1).own (by omega) (aA.triple _ _ _)⟩
theorem anegate_any {M1 M2:Nat→Prop} {ad ap ak:Option Addr} {nd cd np cp nk ck:Nat} {gd gk:Bool} {d:Int} (hM:MB M w) (hd:ZAt Nil w gd ad nd cd d) (h:bU M1 M2 w ap np cp l) (hk:ZAt Nil w gk ak nk ck z) (h1:np≤16777216) (h2:nk≤1073741824) (hw:Wee (bE ⟨l,z⟩)) (hwd:nlen d.natAbs≤536870912)
  (hX:Wee (bT ⟨k,d,⟨l,z⟩⟩).2.t) (hXn:Neat (bT ⟨k,d,⟨l,z⟩⟩).2.t.parts) (hXd:nlen (bT ⟨k,d,⟨l,z⟩⟩).2.d.natAbs≤536870912) (hX2:(bT ⟨k,d,⟨l,z⟩⟩).2.kind=2→Wee (sumT 1 ⟨[],1⟩ (-1) (bT ⟨k,d,⟨l,z⟩⟩).2.t)) :
  Calls prog 55 #[.agg #[.int .i64 k,.bool gd,.slice ad nd cd,.slice ap np cp,.bool gk,.slice ak nk ck]] w fun e w'=>Gives Nil (AV M (negV ⟨k,d,⟨l,z⟩⟩)) w e w':=by
 have hnm:=fun (W:World) (q:aA Nil w W)=>anorm_any (M:=Old W) (k:=k) (MB.old W) (hd.keepNil q) (h.keepNil q) (hk.keepNil q) h1 h2 hw hwd;obtain ⟨r,hr⟩:∃r,bT ⟨k,d,⟨l,z⟩⟩=r:=⟨_,rfl⟩;have hneg:negV ⟨k,d,⟨l,z⟩⟩=if r.1≠0 then ⟨0,0,bS⟩ else if r.2.kind=0∨r.2.kind=1 then cV (decide (r.2.kind=0)) else if r.2.kind=2 then lessV (bE (sumT 1 ⟨[],1⟩ (-1) r.2.t)) else (dV r.2.d (bE r.2.t) (decide (r.2.kind=3))).2:=by unfold negV;rw [hr]
 rw [hr] at hnm hX hXn hXd hX2;obtain ⟨er,kX,dX,tX⟩:=r;simp only at hX hXn hXd hX2 hneg;have HA:=jJ (aI7 hM hnm hX hXn hXd hX2 hneg);clear hd h hk hM hw hwd hnm hX hXn hXd hX2 hneg hr;go_enter func55,ntmps55
 go_upto_region 1 with (fail)
 obtain ⟨w0,e_4,q0,r0,r1⟩:=bx2 w 84 [.int .i64 k,.bool gd,.slice ad nd cd,.slice ap np cp,.bool gk,.slice ak nk ck] 84 [.int .i64 0,.bool false,.slice none 0 0,.slice none 0 0,.bool false,.slice none 0 0];rw [e_4];clear e_4;obtain ⟨c0,c1,c2,c3,c4,c5⟩:=r0.cells6;have lr0:=r0.lt;have lr1:=r1.lt;have H0:=jJ (aI3 q0 r0 r1);clear q0 r0 r1;go_upto_region 2 with (go_at_call 96;refine (HA.o.2.1 _ H0.o.1).mono ?_;rintro e w1 ⟨v,rfl,⟨gd',ad',nd',cd',ap',np',cp',gk',ak',nk',ck',rfl,hv⟩,hk1⟩;have rr0:=H0.o.2.1.keep hk1 id;have rr1:=H0.o.2.2.keep hk1 id;obtain ⟨z0,z1,z2,z3,z4,z5⟩:=rr0.cells6;obtain ⟨y0,y1,y2,y3,y4,y5⟩:=rr0.marks6;have H1:=jJ (aI4 hv hk1 rr0 rr1);clear hv hk1 rr0 rr1)
 have s0:=H1.o.2.2.1.six (.int .i64 kX) (.bool gd') (.slice ad' nd' cd') (.slice ap' np' cp') (.bool gk') (.slice ak' nk' ck');have ks:=aA.six (w:=w1) (g:=w.heap.size) (.int .i64 kX) (.bool gd') (.slice ad' nd' cd') (.slice ap' np' cp') (.bool gk') (.slice ak' nk' ck');have s1:=H1.o.2.2.2.keep ks (fun (e:w.heap.size+1=w.heap.size)=>by omega);have hX0:=H1.o.1.out lr0 (M:=Old w0) (fun _ h=>h) ks;have hXz:ZN (Old w0) _ gd' ad' nd' cd' dX:=hX0.1;have hXp:cQ (Old w0) (Old w0) _ ap' np' cp' tX.parts:=hX0.2.1;have hXk:ZN (Old w0) _ gk' ak' nk' ck' tX.k:=hX0.2.2;have hX:=aI3 hXz hXp hXk;clear hX0 hXz hXp hXk;have kw:=(H0.o.1.trans H1.o.2.1).own (bZ2 _) ks;have hsz:w0.heap.size≤((((((w1.setCell ⟨w.heap.size,0,none⟩ (.int .i64 kX)).setCell ⟨w.heap.size,1,none⟩ (.bool gd')).setCell ⟨w.heap.size,2,none⟩ (.slice ad' nd' cd')).setCell ⟨w.heap.size,3,none⟩ (.slice ap' np' cp')).setCell ⟨w.heap.size,4,none⟩ (.bool gk')).setCell ⟨w.heap.size,5,none⟩ (.slice ak' nk' ck')).heap.size:=bZ1 H1.o.2.1.size ks.size;clear z0 z1 z2 z3 z4 z5 y0 y1 y2 y3 y4 y5;generalize ((((((w1.setCell ⟨w.heap.size,0,none⟩ (.int .i64 kX)).setCell ⟨w.heap.size,1,none⟩ (.bool gd')).setCell ⟨w.heap.size,2,none⟩ (.slice ad' nd' cd')).setCell ⟨w.heap.size,3,none⟩ (.slice ap' np' cp')).setCell ⟨w.heap.size,4,none⟩ (.bool gk')).setCell ⟨w.heap.size,5,none⟩ (.slice ak' nk' ck'))=w2 at *
 obtain ⟨u0,u1,u2,u3,u4,u5⟩:=s0.cells6;have H2:=jJ (aI5 s0 s1 hX kw hsz);clear s0 s1 ks hX kw;by_cases he:er=0
 ·subst he;by_cases k01:kX=0∨kX=1
  ·have hneg:negV ⟨k,d,⟨l,z⟩⟩=cV (decide (kX=0)):=by rw [HA.o.r6,if_neg (by simp),if_pos k01]
   have HNEG:=jJ hneg;clear hneg;have htr:=fun (W:World)=>truth_any (M:=Old w0) (w:=W) (decide (kX=0));have HTR:=jJ htr;clear htr hsz;obtain ⟨v0,v1,v2,v3,v4,v5⟩:=H2.o.2.1.cells6;rcases k01 with rfl|rfl
   ·go_wp2_with (go_at_call 104;refine (HTR.o w2).mono ?_;rintro e w3 ⟨v,rfl,⟨ge,ae,ne,ce,be,me,de,he,fe,ie,je,rfl,hv⟩,hk3⟩;have r1:=H2.o.2.1.keep hk3 id;obtain ⟨z0,z1,z2,z3,z4,z5⟩:=r1.cells6;obtain ⟨y0,y1,y2,y3,y4,y5⟩:=r1.marks6;have H3:=jJ (aI3 hv hk3 r1);clear hv hk3 r1)
    have r6:=H3.o.2.2.six (.int .i64 (cV true).kind) (.bool ge) (.slice ae ne ce) (.slice be me de) (.bool he) (.slice fe ie je);obtain ⟨x0,x1,x2,x3,x4,x5⟩:=r6.cells6;rw [HNEG.o];exact bodyPost_ret (v:=.agg #[.int .i64 (cV true).kind,.bool ge,.slice ae ne ce,.slice be me de,.bool he,.slice fe ie je]) (by simp [results,results55,go_sem,x0,x1,x2,x3,x4,x5]) rfl ⟨_,rfl,⟨_,_,_,_,_,_,_,_,_,_,_,rfl,H3.o.1.out lr1 (fun b hb=>by have:=HA.o.1 b hb;omega) (aA.six _ _ _ _ _ _)⟩,(H2.o.2.2.2.1.trans H3.o.2.1).own (by omega) (aA.six _ _ _ _ _ _)⟩
   ·go_wp2_with (go_at_call 104;refine (HTR.o w2).mono ?_;rintro e w3 ⟨v,rfl,⟨ge,ae,ne,ce,be,me,de,he,fe,ie,je,rfl,hv⟩,hk3⟩;have r1:=H2.o.2.1.keep hk3 id;obtain ⟨z0,z1,z2,z3,z4,z5⟩:=r1.cells6;obtain ⟨y0,y1,y2,y3,y4,y5⟩:=r1.marks6;have H3:=jJ (aI3 hv hk3 r1);clear hv hk3 r1)
    have r6:=H3.o.2.2.six (.int .i64 (cV false).kind) (.bool ge) (.slice ae ne ce) (.slice be me de) (.bool he) (.slice fe ie je);obtain ⟨x0,x1,x2,x3,x4,x5⟩:=r6.cells6;rw [HNEG.o];exact bodyPost_ret (v:=.agg #[.int .i64 (cV false).kind,.bool ge,.slice ae ne ce,.slice be me de,.bool he,.slice fe ie je]) (by simp [results,results55,go_sem,x0,x1,x2,x3,x4,x5]) rfl ⟨_,rfl,⟨_,_,_,_,_,_,_,_,_,_,_,rfl,H3.o.1.out lr1 (fun b hb=>by have:=HA.o.1 b hb;omega) (aA.six _ _ _ _ _ _)⟩,(H2.o.2.2.2.1.trans H3.o.2.1).own (by omega) (aA.six _ _ _ _ _ _)⟩
  ·by_cases k2:kX=2
   ·subst k2;have hneg:negV ⟨k,d,⟨l,z⟩⟩=lessV (bE (sumT 1 ⟨[],1⟩ (-1) tX)):=by rw [HA.o.r6,if_neg (by simp),if_neg k01,if_pos rfl]
    have hneg2:=hneg;clear hneg;have hw2:=HA.o.r5.1 rfl;have hnn:bE (sumT 1 ⟨[],1⟩ (-1) tX)=sumT 1 ⟨[],1⟩ (-1) tX:=cW (dQ _);rw [hnn] at hneg2;have HNEG:=jJ hneg2;clear hneg2;have hXt:=HA.o.2.2.1;have HW:=jJ (aI3 hw2 hnn hXt);clear hw2 hnn hXt k01;go_upto_region 9 with (fail)
    refine aX 7 [6] [25,26,27,28,29,30,1036] [25,26,27,28,29,30] [Un (ZV Nil 1),Un (TV Nil ⟨[],1⟩),Un (LitV ?v5_2),Un (LitV ?v5_3),Un (TV Nil (sumT 1 ⟨[],1⟩ (-1) tX)),Un (AV (Old w0) (lessV (sumT 1 ⟨[],1⟩ (-1) tX))),nothing] (aB.sk (aB.nx ?r5_5 (aB.nx ?r5_4 (aB.nx ?r5_3 (aB.nx ?r5_2 (aB.nx ?r5_1 (aB.nx ?r5_0 aB.zero))))))) ?rfn5
    case' r5_0|r5_1|r5_2|r5_3|r5_4|r5_5=>
     intro us wj hk hp K hK;try simp only [aP,Act.put,sL] at hK⊢
     obtain ⟨v0,v1,v2,v3,v4,v5⟩:=(H2.o.1.keep hk id).cells6
    case' r5_0=>
     go_simp
     refine (zof_any (M:=Nil) (z:=1) (MB.nil _) (by omega) (by omega)).mono ?_;rintro e wk ⟨g,a,n,c,rfl,h,hk2⟩;exact hK.out _ _ hk2 (⟨g,a,n,c,rfl,h⟩)
    case' r5_1=>
     obtain ⟨g0,a0,n0,c0,e0,h0⟩:(ZV Nil 1) (us 25) wj:=hp 0;rw [e0] at hK⊢;go_simp
     refine (tconst_any (M:=Nil) (MB.nil _) (h0.zat fit_one)).mono ?_;rintro e wk ⟨v,rfl,hv,hk2⟩;exact hK.out _ _ hk2 (hv)
    case' r5_2=>
     go_simp
     refine hK.out _ _ (aA.refl _ _) ?_;exact rfl
    case' r5_3=>
     have e2:us 27=_:=hp 2;rw [e2] at hK⊢;go_simp
     refine hK.out _ _ (aA.refl _ _) ?_;exact rfl
    case' r5_4=>
     obtain ⟨ap1,np1,cp1,gk1,ak1,nk1,ck1,e1,h1⟩:(TV Nil ⟨[],1⟩) (us 26) wj:=hp 1;have e3:us 28=_:=hp 3;rw [e1,e3] at hK⊢;go_simp
     refine (tsub_any (M:=Nil) (M1:=Nil) (M2:=Nil) (M3:=Old w0) (M4:=Old w0) (la:=[]) (za:=1) (lb:=tX.parts) (zb:=tX.k) (MB.nil _) (cQ.raw h1.1 (fun p hp=>by cases hp)) (h1.2.zat fit_one) (cQ.raw (H2.o.2.2.1.2.1.keepNil hk) fun p hp=>by have:=HW.o.2.2.parts p hp;omega) ((H2.o.2.2.1.2.2.zat (by have:=HW.o.2.2.k;omega)).keepNil hk) (by have q:nk1=nlen (1:Int).natAbs:=h1.2.len;have:=nlen_one;omega) (by have:=H2.o.2.2.1.2.2.len;have:=HW.o.2.2.k;omega) (by have q:0=np1:=SlOf.len h1.1;omega) (by have:=SlOf.len H2.o.2.2.1.2.1;have:=HW.o.2.2.few;omega)).mono ?_;rintro e wk ⟨v,rfl,hv,hk2⟩;exact hK.out _ _ hk2 (hv)
    case' r5_5=>
     obtain ⟨ap4,np4,cp4,gk4,ak4,nk4,ck4,e4,h4⟩:(TV Nil (sumT 1 ⟨[],1⟩ (-1) tX)) (us 29) wj:=hp 4;rw [e4] at hK⊢;go_simp
     refine (less_any (M:=Old w0) (l:=(sumT 1 ⟨[],1⟩ (-1) tX).parts) (z:=(sumT 1 ⟨[],1⟩ (-1) tX).k) (MB.oldLe (bZ1 hsz hk.size)) (cQ.raw h4.1 fun p hp=>by have:=HW.o.1.parts p hp;omega) (h4.2.zat (by have:=HW.o.1.k;omega)) (by have:=SlOf.len h4.1;have:=HW.o.1.few;omega) (by have:=h4.2.len;have:=HW.o.1.k;omega) (by rw [show (⟨(sumT 1 ⟨[],1⟩ (-1) tX).parts,(sumT 1 ⟨[],1⟩ (-1) tX).k⟩:aY)=sumT 1 ⟨[],1⟩ (-1) tX from rfl,HW.o.2.1];exact HW.o.1)).mono ?_;rintro e wk ⟨v,rfl,hv,hk2⟩;exact hK.out _ _ hk2 ((by rw [show (⟨(sumT 1 ⟨[],1⟩ (-1) tX).parts,(sumT 1 ⟨[],1⟩ (-1) tX).k⟩:aY)=sumT 1 ⟨[],1⟩ (-1) tX from rfl,HW.o.2.1] at hv;exact hv))
    case' rfn5=>
    intro us wz hkz hf;simp only [aP,Act.put,sL];obtain ⟨g0,a0,n0,c0,e0,h0⟩:(ZV Nil 1) (us 25) wz:=hf 0;obtain ⟨ap1,np1,cp1,gk1,ak1,nk1,ck1,e1,h1⟩:(TV Nil ⟨[],1⟩) (us 26) wz:=hf 1;have e2:us 27=_:=hf 2;have e3:us 28=_:=hf 3;obtain ⟨ap4,np4,cp4,gk4,ak4,nk4,ck4,e4,h4⟩:(TV Nil (sumT 1 ⟨[],1⟩ (-1) tX)) (us 29) wz:=hf 4;obtain ⟨gd5,ad5,nd5,cd5,ap5,np5,cp5,gk5,ak5,nk5,ck5,e5,h5⟩:(AV (Old w0) (lessV (sumT 1 ⟨[],1⟩ (-1) tX))) (us 30) wz:=hf 5;clear hf;simp only [e0,e1,e2,e3,e4,e5];clear e0 e1 e2 e3 e4 e5 us;refine aK 6 fun K hK=>?_;have rr:=H2.o.2.1.keep hkz id;obtain ⟨v0,v1,v2,v3,v4,v5⟩:=rr.cells6;obtain ⟨y0,y1,y2,y3,y4,y5⟩:=rr.marks6;have HR:=jJ rr;clear rr;go_simp
    refine mK ?_;clear hK K;refine aQ (by kernel_rfl) ?_ _;go_wp2_with fail
    have r6:=HR.o.six (.int .i64 (lessV (sumT 1 ⟨[],1⟩ (-1) tX)).kind) (.bool gd5) (.slice ad5 nd5 cd5) (.slice ap5 np5 cp5) (.bool gk5) (.slice ak5 nk5 ck5);obtain ⟨x0,x1,x2,x3,x4,x5⟩:=r6.cells6;rw [HNEG.o];exact bodyPost_ret (v:=.agg #[.int .i64 (lessV (sumT 1 ⟨[],1⟩ (-1) tX)).kind,.bool gd5,.slice ad5 nd5 cd5,.slice ap5 np5 cp5,.bool gk5,.slice ak5 nk5 ck5]) (by simp [results,results55,go_sem,x0,x1,x2,x3,x4,x5]) rfl ⟨_,rfl,⟨_,_,_,_,_,_,_,_,_,_,_,rfl,h5.out lr1 (fun b hb=>by have:=HA.o.1 b hb;omega) (aA.six _ _ _ _ _ _)⟩,(H2.o.2.2.2.1.trans hkz).own (by omega) (aA.six _ _ _ _ _ _)⟩
   ·have hneg:negV ⟨k,d,⟨l,z⟩⟩=(dV dX tX (decide (kX=3))).2:=by rw [HA.o.r6,if_neg (by simp),if_neg k01,if_neg k2,cW HA.o.2.2.2.1]
    have hXt:=HA.o.2.2.1;have hXd:=HA.o.r4.1;have hpt:=fun (W:World) (q:aA Nil w2 W)=>parted_any (M:=Old W) (l:=tX.parts) (z:=tX.k) (decide (kX=3)) (MB.old W) ((H2.o.2.2.1.1.zat (by omega)).keepNil q) (cQ.raw (H2.o.2.2.1.2.1.keepNil q) fun p hp=>by have:=hXt.parts p hp;omega) ((H2.o.2.2.1.2.2.zat (by have:=hXt.k;omega)).keepNil q) (by have:=SlOf.len H2.o.2.2.1.2.1;have:=hXt.few;omega) (by have:=H2.o.2.2.1.2.2.len;have:=hXt.k;omega) (by rw [show (⟨tX.parts,tX.k⟩:aY)=tX from rfl,cW HA.o.2.2.2.1];exact hXt) hXd;rw [show (⟨tX.parts,tX.k⟩:aY)=tX from rfl,cW HA.o.2.2.2.1] at hpt;obtain ⟨q,hq⟩:∃q,dV dX tX (decide (kX=3))=q:=⟨_,rfl⟩;rw [hq] at hneg hpt;obtain ⟨eq,kq,dq,tq⟩:=q;have HP:=jJ hpt;have HNEG:=jJ hneg;have b0:¬kX=0:=fun h=>k01 (.inl h);have b1:¬kX=1:=fun h=>k01 (.inr h);have b3:(kX==3)=decide (kX=3):=rfl;clear hpt hneg hXt hXd hq k01;generalize decide (kX=3)=no at *
    go_upto_region 11 with (go_at_call 106;refine (HP.o w2 (aA.refl _ _)).mono ?_;rintro e w3 ⟨v,rfl,⟨ge,ae,ne,ce,be,me,de,he,fe,ie,je,rfl,hv⟩,hk3⟩;have r1:=H2.o.2.1.keep hk3 id;have H3:=jJ (aI3 hv hk3 r1);clear hv hk3 r1)
    have r4:=aC.alloc (w:=w3) (E:=84) (xs:=[.int .i64 kq,.bool ge,.slice ae ne ce,.slice be me de,.bool he,.slice fe ie je]);change aC (w3.alloc (.cells #[.int .i64 kq,.bool ge,.slice ae ne ce,.slice be me de,.bool he,.slice fe ie je] 84)) _ _ _ at r4;have k4:aA Nil w3 (w3.alloc (.cells #[.int .i64 kq,.bool ge,.slice ae ne ce,.slice be me de,.bool he,.slice fe ie je] 84)):=kOf;generalize w3.alloc (.cells #[.int .i64 kq,.bool ge,.slice ae ne ce,.slice be me de,.bool he,.slice fe ie je] 84)=w4 at *
    obtain ⟨v0,v1,v2,v3,v4,v5⟩:=r4.cells6;have r1:=H3.o.2.2.keep k4 id;obtain ⟨z0,z1,z2,z3,z4,z5⟩:=r1.cells6;obtain ⟨y0,y1,y2,y3,y4,y5⟩:=r1.marks6;have r6:=r1.six (.int .i64 kq) (.bool ge) (.slice ae ne ce) (.slice be me de) (.bool he) (.slice fe ie je);obtain ⟨x0,x1,x2,x3,x4,x5⟩:=r6.cells6;have hlw:w0.heap.size≤w2.heap.size:=hsz;go_wp2_with fail
    rw [HNEG.o];exact bodyPost_ret (v:=.agg #[.int .i64 kq,.bool ge,.slice ae ne ce,.slice be me de,.bool he,.slice fe ie je]) (by simp [results,results55,go_sem,x0,x1,x2,x3,x4,x5]) rfl ⟨_,rfl,⟨_,_,_,_,_,_,_,_,_,_,_,rfl,(H3.o.1.keepNil k4).out (cZ1 lr1 hlw) (fun b hb=>by have:=HA.o.1 b hb;have:=H0.o.1.size;omega) (aA.six _ _ _ _ _ _)⟩,((H2.o.2.2.2.1.trans H3.o.2.1).trans k4).own (by omega) (aA.six _ _ _ _ _ _)⟩
 ·have hneg:negV ⟨k,d,⟨l,z⟩⟩=⟨0,0,bS⟩:=by rw [HA.o.r6,if_pos he]
  have HNEG:=jJ hneg;clear hneg;obtain ⟨v0,v1,v2,v3,v4,v5⟩:=H2.o.2.1.cells6;obtain ⟨y0,y1,y2,y3,y4,y5⟩:=H2.o.2.1.marks6;have hne:(er==0)=false:=by simpa using he
  clear u0 u1 u2 u3 u4 u5 hsz;go_wp2_with fail
  have r6:=H2.o.2.1.six (.int .i64 0) (.bool false) (.slice none 0 0) (.slice none 0 0) (.bool false) (.slice none 0 0);obtain ⟨x0,x1,x2,x3,x4,x5⟩:=r6.cells6;rw [HNEG.o];exact bodyPost_ret (v:=.agg #[.int .i64 0,.bool false,.slice none 0 0,.slice none 0 0,.bool false,.slice none 0 0]) (by simp [results,results55,go_sem,x0,x1,x2,x3,x4,x5]) rfl ⟨_,rfl,⟨_,_,_,_,_,_,_,_,_,_,_,rfl,AtomAt.zero⟩,H2.o.2.2.2.1.own (by omega) (aA.six _ _ _ _ _ _)⟩
end
section
variable {V ks ids:List Int} {limbs nodes sp ov x y k v:Int} {L:List aT} {xs:List (Bool × List Nat)} {N:aT} {X:cI} {i m:Nat} {A':aF}
def altN (L:List aT):Nat→Int→Prop
 | 0,_=>True
 | f+1,x=>∀k∈(L.getD x.toNat aV).kids,((L.getD x.toNat aV).kind=5∨(L.getD x.toNat aV).kind=6→(L.getD k.toNat aV).kind≠(L.getD x.toNat aV).kind)∧(0≤k∧k<x)∧altN L f k
def Alt (L:List aT) (x:Int):Prop:=∀f,altN L f x
theorem Alt.kid (h:Alt L x) (hk:k∈(L.getD x.toNat aV).kids):Alt L k:=fun f=>(h (f+1) k hk).2.2
theorem Alt.kind {L:List aT} {x k:Int} (h:Alt L x) (hk:k∈(L.getD x.toNat aV).kids) (h5:(L.getD x.toNat aV).kind=5∨(L.getD x.toNat aV).kind=6):(L.getD k.toNat aV).kind≠(L.getD x.toNat aV).kind:=(h 1 k hk).1 h5
theorem Alt.intro (h:∀k∈(L.getD x.toNat aV).kids,((L.getD x.toNat aV).kind=5∨(L.getD x.toNat aV).kind=6→(L.getD k.toNat aV).kind≠(L.getD x.toNat aV).kind)∧(0≤k∧k<x)∧Alt L k):Alt L x:=fun f=>by
 cases f with
 | zero=>trivial
 | succ f=>exact fun k hk=>⟨(h k hk).1,(h k hk).2.1,(h k hk).2.2 f⟩
theorem altN_ext {L t:List aT}:∀(f:Nat) (x:Int),0≤x→x<(L.length:Int)→altN L f x→altN (L++t) f x
 | 0,_,_,_,_=>trivial
 | f+1,x,h0,h1,h=>by
  have e:(L++t).getD x.toNat aV=L.getD x.toNat aV:=getD_append_lt L t aV (by omega);intro k hk;rw [e] at hk⊢;have hb:=(h k hk).2.1;have e2:(L++t).getD k.toNat aV=L.getD k.toNat aV:=getD_append_lt L t aV (by omega);rw [e2];exact⟨(h k hk).1,hb,altN_ext f k hb.1 (by omega) (h k hk).2.2⟩
theorem Alt.ext {A:aF} (h:Alt A.nodes x) (h0:0≤x) (h1:x<(A.nodes.length:Int)) (he:Ext A A'):Alt A'.nodes x:=fun f=>by
 obtain ⟨t,he⟩:=he;rw [he];exact altN_ext f x h0 h1 (h f)
theorem flatN_alt {L:List aT} {kind:Int}:∀(f:Nat) (x:Int),Alt L x→∀y∈flatN L kind f x,Alt L y
 | 0,x,h,y,hy=>by rw [flatN,dZ1] at hy;rw [hy];exact h
 | f+1,x,h,y,hy=>by
  unfold flatN at hy;split at hy
  ·obtain ⟨k,hk,hy⟩:=dZ3.1 hy;exact flatN_alt f k (h.kid hk) y hy
  ·rw [dZ1] at hy;rw [hy];exact h
theorem flatX_alt {kind:Int} (h:Alt L x) (hy:y∈flatX L kind x):Alt L y:=flatN_alt _ _ h y hy
theorem flatX_len {kind:Int} (hB:Below L) (h0:0≤x) (h1:x<(L.length:Int)) (h:Alt L x) (hk:kind=5∨kind=6) (hm:(L.getD x.toNat aV).kids.length≤m) (hm1:1≤m):(flatX L kind x).length≤m:=by
 by_cases hx:(L.getD x.toNat aV).kind=kind
 ·rw [flatX_node hB h0 h1 hx];have h2:=flatMap_le (m:=1) (flatX L kind) (L.getD x.toNat aV).kids fun k hkm=>by
   rw [flatX_leaf (by rw [←hx];exact h.kind hkm (by rw [hx];exact hk))];exact bZ2 _
  omega
 ·rw [flatX_leaf hx];exact hm1
theorem NodeK.sizeS (h:NodeK V limbs N) (hl:limbs≤8) (hV:V.length≤262144) (hk:N.kids.length≤1000000):SizeN N:=
 ⟨by have:=length_parts_le h.neat h.vars;omega,fun p hp=>by have:=h.nums p hp;omega,by have:=h.k;omega,by have:=h.d;omega,by omega⟩
structure aZ (V:List Int) (nodes limbs:Int) (A:aF) (sp:Int):Prop where
 inv:InvA V nodes A sp
 all:AllN (NodeK V limbs) A
 start:Ext startA A
theorem aZ.begin (h0:0≤sp) (h1:sp≤nodes):aZ V nodes limbs startA sp:=⟨InvA.start h0 h1,AllN.start,Ext.refl _⟩
theorem aZ.below {A:aF} (h:aZ V nodes limbs A sp):Below A.nodes:=fun i hi=>(h.inv.kids i hi).2
theorem aZ.low {A:aF} (h:aZ V nodes limbs A sp) (hi:i<2):A.nodes.getD i aV=⟨(i:Int),0,bS,0,[]⟩:=by
 obtain ⟨t,e⟩:=h.start;rw [e];rcases (show i=0∨i=1 by omega) with rfl|rfl<;>rfl
theorem aZ.kidsLen {A:aF} (h:aZ V nodes limbs A sp) (hn:nodes≤2000) (hi:i<A.nodes.length):(A.nodes.getD i aV).kids.length≤2002:=by
 have h1:=length_kids_le (h.inv.kids i hi).1 (h.inv.kids i hi).2;have:=h.inv.used;have:=h.inv.spn;omega
theorem aZ.fine {A:aF} (h:aZ V nodes limbs A sp) (hn:nodes≤2000) (hl:limbs≤8) (hV:V.length≤262144):FineA A:=by
 have h3:=h.inv.used;have h4:=h.inv.spn;refine ⟨by omega,h.inv.once.two,fun i hi=>?_,h.below,fun i hi hk=>?_⟩
 ·rcases Nat.lt_or_ge i 2 with h2|h2
  ·rw [h.low h2];exact⟨⟨aZ2 _,fun p hp=>absurd hp hZ2,by simp [bS,nlen0],by simp [nlen0],aZ2 _⟩,neat_nil⟩
  ·have hk:=h.all i h2 hi;exact⟨hk.sizeS hl hV (by have:=h.kidsLen hn hi;omega),hk.neat⟩
 ·rcases Nat.lt_or_ge i 2 with h2|h2
  ·rw [h.low h2] at hk;simp only at hk;omega
  ·exact ((h.all i h2 hi).again.join hk).1
def AltR (A:aF) (y:Int):Prop:=(0≤y∧y<(A.nodes.length:Int))∧Alt A.nodes y
theorem AltR.mono {A:aF} (h:AltR A y) (he:Ext A A'):AltR A' y:=⟨⟨h.1.1,by have:=he.len;have:=h.1.2;omega⟩,h.2.ext h.1.1 h.1.2 he⟩
theorem alt_nokids (h:(L.getD x.toNat aV).kids=[]):Alt L x:=Alt.intro fun k hk=>by rw [h] at hk;cases hk
theorem aZ.const {A:aF} (h:aZ V nodes limbs A sp) (hy:y=0∨y=1):AltR A y:=by
 have h2:=h.inv.once.two;refine ⟨by omega,alt_nokids ?_⟩;rw [h.low (i:=y.toNat) (by omega)]
structure Came2 (V:List Int) (nodes limbs:Int) (A:aF) (r:(Int × Int) × aF × (Int × Int)):Prop where
 ok:aZ V nodes limbs r.2.1 r.2.2.1
 ext:Ext A r.2.1
theorem madeM_node {A:aF} (h:InvA V nodes A sp) (hN:FormN N) (he:(madeM A nodes limbs sp ov N xs).1.2=0):0≤(madeM A nodes limbs sp ov N xs).1.1∧(madeM A nodes limbs sp ov N xs).1.1<((madeM A nodes limbs sp ov N xs).2.1.nodes.length:Int)∧(madeM A nodes limbs sp ov N xs).2.1.nodes.getD (madeM A nodes limbs sp ov N xs).1.1.toNat aV=N:=by
 unfold madeM at he⊢;cases hk:keyF A.nodes (bA N) with
 | some i=>
  obtain ⟨q1,q2,q3⟩:=h.once.find_some hN hk;exact⟨by simp,by simp only;omega,by simpa using q3⟩
 | none=>
  rw [hk] at he;simp only [] at he⊢;by_cases h0:(dL nodes limbs sp ov xs).2.2=0
  ·rw [if_pos h0];refine ⟨by simp,by simp [addA];omega,?_⟩;show (A.nodes++[N]).getD ((A.nodes.length:Int)).toNat aV=N
   rw [Int.toNat_natCast,dN]
  ·rw [if_neg h0] at he;exact absurd he h0
theorem Came2.same {i e:Int} {A:aF} (h:aZ V nodes limbs A sp):Came2 V nodes limbs A ((i,e),A,(sp,ov)):=⟨h,Ext.refl _⟩
theorem joinM_came {kind:Int} {A:aF} (h0:0≤limbs) (h:aZ V nodes limbs A sp):Came2 V nodes limbs A (joinM A nodes limbs sp ov kind ks):=by
 have he:Ext A (joinM A nodes limbs sp ov kind ks).2.1:=by
  unfold joinM;split
  ·exact Ext.refl _
  split
  ·exact Ext.refl _
  split
  ·exact Ext.refl _
  split
  ·exact madeM_ext
  ·exact Ext.refl _
 exact⟨⟨(joinM_sound h.inv).1,joinM_all h0 h.all,h.start.trans he⟩,he⟩
theorem bindM_came {kind:Int} {A:aF} (h0:0≤limbs) (hv:I64 v) (h:aZ V nodes limbs A sp):Came2 V nodes limbs A (dU A nodes limbs sp ov kind v k):=by
 have he:Ext A (dU A nodes limbs sp ov kind v k).2.1:=by
  unfold dU;split
  ·exact Ext.refl _
  split
  ·exact Ext.refl _
  ·exact madeM_ext
 exact⟨⟨(bindM_sound h.inv).1,bindM_all h0 hv h.all,h.start.trans he⟩,he⟩
theorem atomM_came {A:aF} (hX:SmallX V X) (h:aZ V nodes limbs A sp):Came2 V nodes limbs A (atomM A nodes limbs sp ov X):=by
 have he:Ext A (atomM A nodes limbs sp ov X).2.1:=by
  unfold atomM atomR;split
  ·exact Ext.refl _
  split
  ·exact Ext.refl _
  ·exact madeM_ext
 exact⟨⟨(atomM_sound h.inv hX).1,atomM_all h.all hX,h.start.trans he⟩,he⟩
theorem joinM_alt {kind:Int} {A:aF} (h:aZ V nodes limbs A sp) (hc:Came2 V nodes limbs A (joinM A nodes limbs sp ov kind ks)) (hk:∀k∈ks,AltR A k∧(ndA A k).kind≠kind) (he:(joinM A nodes limbs sp ov kind ks).1.2=0):AltR (joinM A nodes limbs sp ov kind ks).2.1 (joinM A nodes limbs sp ov kind ks).1.1:=by
 by_cases h5:kind≠5∧kind≠6
 ·rw [joinM_bad h5] at he;exact absurd he (by simp)
 have h56:kind=5∨kind=6:=by omega
 cases ha:ks.all (hasK A)
 ·rw [joinM_no h56 ha] at he;exact absurd he (by simp)
 rcases Nat.lt_trichotomy (cU ks).length 1 with hl|hl|hl
 ·rw [joinM_nil h56 ha (by omega)];exact h.const (by simp only;split<;>simp)
 ·rw [joinM_one h56 ha hl];exact (hk _ (dE.1 (cH 0 (by omega)))).1
 ·rw [joinM_many h56 ha hl] at he hc⊢;obtain ⟨q1,q2,q3⟩:=madeM_node h.inv ⟨by simp only;omega,by simp only;omega,fun h4=>by simp only at h4;omega,fun _=>⟨rfl,rfl⟩,fun _=>rfl⟩ he;refine ⟨⟨q1,q2⟩,Alt.intro fun k hkm=>?_⟩;rw [q3] at hkm⊢;have hkk:=hk k (dE.1 hkm);refine ⟨fun _=>?_,?_,(hkk.1.mono hc.ext).2⟩;rotate_left
  ·exact hc.ok.below.kid q1 q2 (by rw [q3];exact hkm)
  show (ndA _ k).kind≠kind
  rw [hc.ext.nd hkk.1.1.1 hkk.1.1.2];exact hkk.2
theorem bindM_alt {kind:Int} {A:aF} (h:aZ V nodes limbs A sp) (hc:Came2 V nodes limbs A (dU A nodes limbs sp ov kind v k)) (hk:AltR A k) (he:(dU A nodes limbs sp ov kind v k).1.2=0):AltR (dU A nodes limbs sp ov kind v k).2.1 (dU A nodes limbs sp ov kind v k).1.1:=by
 by_cases h7:kind≠7∧kind≠8
 ·rw [bindM_bad h7] at he;exact absurd he (by simp)
 have h78:kind=7∨kind=8:=by omega
 cases ha:hasK A k
 ·rw [bindM_no h78 ha] at he;exact absurd he (by simp)
 rw [bindM_go h78 ha] at he hc⊢;obtain ⟨q1,q2,q3⟩:=madeM_node h.inv ⟨by simp only;omega,by simp only;omega,fun h4=>by simp only at h4;omega,fun _=>⟨rfl,rfl⟩,fun h5=>by simp only at h5;omega⟩ he;refine ⟨⟨q1,q2⟩,Alt.intro fun j hj=>?_⟩;rw [q3] at hj⊢;have hr:=hc.ok.below.kid q1 q2 (by rw [q3];exact hj);rw [dZ1.1 hj] at hr⊢;exact⟨fun h5=>by simp only at h5;omega,hr,(hk.mono hc.ext).2⟩
theorem atomM_alt {A:aF} (h:aZ V nodes limbs A sp) (hX:SmallX V X) (hc:Came2 V nodes limbs A (atomM A nodes limbs sp ov X)) (he:(atomM A nodes limbs sp ov X).1.2=0):AltR (atomM A nodes limbs sp ov X).2.1 (atomM A nodes limbs sp ov X).1.1:=by
 have hb:=small_normR (k:=X.kind) hX.1 hX.2 (by decide);unfold atomM at he hc⊢;obtain ⟨k,d,⟨l,z⟩⟩:=X;simp only at hb he hc⊢;obtain ⟨⟨e,B⟩,hr⟩:∃r,r=bT ⟨k,d,⟨l,z⟩⟩:=⟨_,rfl⟩;rw [←hr] at hb he hc⊢;simp only at hb;by_cases h0:e=0
 ·subst h0;by_cases hk:B.kind≤1
  ·rw [atomR_const hk];exact h.const (by have:=hb.kind;simp only;omega)
  ·rw [atomR_go hk] at he hc⊢;have hf:=(fine_of_small (A:=A) hb (by omega)).form;obtain ⟨q1,q2,q3⟩:=madeM_node h.inv hf he;exact⟨⟨q1,q2⟩,alt_nokids (by rw [q3];rfl)⟩
 ·rw [atomR_err h0] at he;exact absurd he h0
theorem sjoinM_came {kind:Int} {A:aF} (h0:0≤limbs) (h:aZ V nodes limbs A sp):Came2 V nodes limbs A (cK A nodes limbs sp ov kind ks):=by
 unfold cK;split
 ·exact Came2.same h
 split
 ·exact Came2.same h
 split
 ·exact Came2.same h
 ·exact joinM_came h0 h
theorem left_mem {A:aF} {kind:Int} (hx:x∈leftM A kind (keptM A kind (restM A kind ids))):∃y∈ids,x∈flatX A.nodes kind y:=by
 have h1:=(iZ3.1 hx).1;have h2:=(iZ3.1 h1).1;have h3:=(iZ3.1 h2).1;exact dZ3.1 (dE.1 h3)
theorem sjoinM_alt {kind:Int} {A:aF} (h0:0≤limbs) (h:aZ V nodes limbs A sp) (hk:∀k∈ks,AltR A k) (he:(cK A nodes limbs sp ov kind ks).1.2=0):AltR (cK A nodes limbs sp ov kind ks).2.1 (cK A nodes limbs sp ov kind ks).1.1:=by
 have hc:=sjoinM_came (ov:=ov) (kind:=kind) (ks:=ks) h0 h;have hall:allV kind=0∨allV kind=1:=by unfold allV;split<;>simp
 cases ha:ks.all (hasK A)
 ·rw [sjoinM_no ha] at he;exact absurd he (by simp)
 by_cases hm:allV kind∈openM A kind ks
 ·rw [sjoinM_all ha hm];exact h.const hall
 cases hcl:clashTo A kind (keptM A kind (restM A kind ks)) (keptM A kind (restM A kind ks)).length
 ·rw [sjoinM_join ha hm hcl] at he hc⊢;refine joinM_alt h hc (fun x hx=>?_) he;obtain ⟨y,hy,hxy⟩:=left_mem hx;have hyR:=hk y hy;have hxr:=flatX_mem h.below hyR.1.1 hyR.1.2 hxy;exact⟨⟨by have:=hyR.1.2;omega,flatX_alt hyR.2 hxy⟩,flatX_noKind h.below hyR.1.1 hyR.1.2 hxy⟩
 ·rw [sjoinM_clash ha hm hcl];exact h.const hall
theorem flatL_len {kind:Int} {A:aF} (h:aZ V nodes limbs A sp) (hn:nodes≤2000) (hk5:kind=5∨kind=6) (hk:∀k∈ks,AltR A k):(flatL A.nodes kind ks).length≤ks.length*2002:=
 flatMap_le (m:=2002) (flatX A.nodes kind) ks fun k hkm=>by
  have hkR:=hk k hkm;exact flatX_len h.below hkR.1.1 hkR.1.2 hkR.2 hk5 (h.kidsLen hn (by have:=hkR.1;omega)) (by decide)
theorem roomK {A:aF} {kind:Int} (h:InvA V nodes A sp) (hn:nodes≤2000) (hV:V.length≤262144) (h5:5≤kind) (h8:kind≤8) (hv:kind=5∨kind=6→v=0) (hp:ks.Pairwise (·<·)) (hk:∀k∈ks,0≤k∧k<(A.nodes.length:Int)):(freeRaw A ⟨kind,0,bS,v,ks⟩).length≤1000000000:=
 freeRaw_room h hn hV (by simp [bS,neatL]) ⟨⟨by simp only;omega,h8,fun h4=>by simp only at h4;omega,fun _=>⟨rfl,rfl⟩,hv⟩,fun x hx=>by simp [bS,neatL] at hx,hp,hk⟩
def Err0 (r:(Int × Int) × aF × (Int × Int)):Prop:=r.1.2≠0→r.1.1=0
theorem madeM_err0 {A:aF}:Err0 (madeM A nodes limbs sp ov N xs):=fun he=>by
 unfold madeM at he⊢;cases hk:keyF A.nodes (bA N) with
 | some i=>rw [hk] at he;exact absurd rfl he
 | none=>
  rw [hk] at he;simp only [] at he⊢;by_cases h0:(dL nodes limbs sp ov xs).2.2=0
  ·rw [if_pos h0] at he;exact absurd rfl he
  ·rw [if_neg h0]
theorem joinM_err0 {A:aF} {kind:Int}:Err0 (joinM A nodes limbs sp ov kind ks):=by
 unfold joinM;split
 ·exact fun _=>rfl
 split
 ·exact fun _=>rfl
 split
 ·exact fun h=>absurd rfl h
 split
 ·exact madeM_err0
 ·exact fun h=>absurd rfl h
theorem bindM_err0 {A:aF} {kind:Int}:Err0 (dU A nodes limbs sp ov kind v k):=by
 unfold dU;split
 ·exact fun _=>rfl
 split
 ·exact fun _=>rfl
 ·exact madeM_err0
theorem atomM_err0 {A:aF}:Err0 (atomM A nodes limbs sp ov X):=by
 unfold atomM atomR;split
 ·exact fun _=>rfl
 split
 ·exact fun h=>absurd rfl h
 ·exact madeM_err0
theorem sjoinM_err0 {A:aF} {kind:Int}:Err0 (cK A nodes limbs sp ov kind ks):=by
 unfold cK;split
 ·exact fun _=>rfl
 split
 ·exact fun h=>absurd rfl h
 split
 ·exact fun h=>absurd rfl h
 ·exact joinM_err0
end
section
variable {V ks:List Int} {nodes limbs x sp:Int}
def cY (nodes limbs:Int):TurnF:=fun A sp ov x ks=>
 if (ndA A x).kind=5∨(ndA A x).kind=6 then cK A nodes limbs sp ov (ndA A x).kind ks
 else if (ndA A x).kind=7∨(ndA A x).kind=8 then dU A nodes limbs sp ov (ndA A x).kind (ndA A x).var (ks.getD 0 0)
 else ((x,0),A,(sp,ov))
theorem aZ.one {A:aF} (h:aZ V nodes limbs A sp) (h0:0≤x) (h1:x<(A.nodes.length:Int)) (hk:(ndA A x).kind=7∨(ndA A x).kind=8):(ndA A x).kids.length=1∧I64 (ndA A x).var:=by
 have h2:2≤x.toNat:=by
  rcases Nat.lt_or_ge x.toNat 2 with h2|h2
  ·unfold ndA at hk;rw [h.low h2] at hk;simp only at hk;omega
  ·exact h2
 have hK:=h.all x.toNat h2 (by omega);have hb:=hK.again.bind hk;exact⟨by unfold ndA;rw [hb];rfl,hK.var⟩
theorem aZ.none {A:aF} (h:aZ V nodes limbs A sp) (h0:0≤x) (h1:x<(A.nodes.length:Int)) (hk:(ndA A x).kind≤4):(ndA A x).kids=[]:=by
 rcases Nat.lt_or_ge x.toNat 2 with h2|h2
 ·unfold ndA;rw [h.low h2]
 ·exact ((h.inv.once.form x.toNat h2 (by omega)).2.2.1 hk).2
theorem aZ.kinds {A:aF} (h:aZ V nodes limbs A sp) (h0:0≤x) (h1:x<(A.nodes.length:Int)):0≤(ndA A x).kind∧(ndA A x).kind≤8:=by
 rcases Nat.lt_or_ge x.toNat 2 with h2|h2
 ·unfold ndA;rw [h.low h2];simp only;omega
 ·have hf:=h.inv.once.form x.toNat h2 (by omega);exact⟨by have:=hf.1;unfold ndA;omega,hf.2.1⟩
def SimpJ (V:List Int) (nodes limbs:Int) (A:aF) (sp _ov:Int):Prop:=aZ V nodes limbs A sp
theorem againT_ok (h0:0≤limbs):TurnOk (cY nodes limbs) (SimpJ V nodes limbs) AltR:=by
 refine ⟨fun {A sp ov x ks} hI hx0 hx1 hks hkl=>?_,fun h he=>h.mono he,fun h=>h.1,fun h=>aZ.below h⟩;have h:aZ V nodes limbs A sp:=hI;unfold cY;by_cases h5:(ndA A x).kind=5∨(ndA A x).kind=6
 ·rw [if_pos h5];have hc:=sjoinM_came (ov:=ov) (kind:=(ndA A x).kind) (ks:=ks) h0 h;exact⟨hc.ok,hc.ext,sjoinM_alt h0 h hks⟩
 rw [if_neg h5];by_cases h7:(ndA A x).kind=7∨(ndA A x).kind=8
 ·rw [if_pos h7];obtain ⟨q1,q2⟩:=h.one hx0 hx1 h7;have hc:=bindM_came (ov:=ov) (kind:=(ndA A x).kind) (k:=ks.getD 0 0) h0 q2 h;exact⟨hc.ok,hc.ext,bindM_alt h hc (hks _ (cH 0 (by omega)))⟩
 ·rw [if_neg h7];have hk:=h.kinds hx0 hx1;have hk4:(ndA A x).kind≤4:=by omega
  exact⟨h,Ext.refl _,fun _=>⟨⟨hx0,hx1⟩,alt_nokids (h.none hx0 hx1 hk4)⟩⟩
theorem againT_err0 {ov:Int} {A:aF}:Err0 (cY nodes limbs A sp ov x ks):=by
 unfold cY;split
 ·exact sjoinM_err0
 split
 ·exact bindM_err0
 ·exact fun h=>absurd rfl h
theorem AltR.i64 {y:Int} {A:aF} (h:aZ V nodes limbs A sp) (hn:nodes≤2000) (hy:AltR A y):I64' y:=by
 have:=hy.1;have:=h.inv.used;have:=h.inv.spn;exact⟨by omega,by omega⟩
end
section
variable {V ids:List Int} {a:Option Addr} {nodes limbs:Int} {B0 gm g:Nat} {w:World}
theorem sjoin_any {O M0 M1:Nat→Prop} {A:aF} {n c:Nat} {sp ov kind:Int} (hA:cD O w g gm A) (hT:Tab B0 w) (hO:∀b,O b→M0 b) (hM0:MB M0 w) (hm:bK M0 w gm nodes limbs sp ov)
  (h:bP M1 w a n c ids) (hI:aZ V nodes limbs A sp) (hn:nodes≤2000) (hl:limbs≤8) (hV:V.length≤262144) (hids:∀k∈ids,AltR A k) (hlen:ids.length≤1000000) (hkd:kind=5∨kind=6) :
  Calls prog 57 #[.pointer (some ⟨g,0,none⟩),.int .i64 kind,.slice a n c] w fun e w'=>cJ O M0 w g gm nodes limbs (cK A nodes limbs sp ov kind ids) e w':=
 joined_any hA hT hO hM0 hm h hI.inv.sp0 hI.inv.spn hn (by have:=hI.inv.cnt;have:=hI.inv.spn;omega) (hI.fine hn hl hV) (by have:=flatL_len hI hn hkd hids;omega) hkd (roomK hI.inv hn hV (by omega) (by omega) (fun _=>rfl) (neatF_pair _) fun k hk=>by
  obtain ⟨y,hy,hxy⟩:=left_mem (dE.1 hk);have h1:=(hids y hy).1;have h2:=flatX_mem hI.below h1.1 h1.2 hxy;omega)
theorem again1_any {ba:Nat} (hl0:0≤limbs) (hn:nodes≤2000) (hl:limbs≤8) (hV:V.length≤262144):TurnC B0 g gm 56 #[.pointer (some ⟨ba,0,none⟩)] [(ba,26,[.pointer (some ⟨g,0,none⟩)])] nodes limbs (cY nodes limbs) (SimpJ V nodes limbs) AltR:=by
 refine ⟨enters_of func56 (by kernel_rfl) rfl,fun W O M A sp ov x cs ks a n c hA hT hO hM hm hR hf hN hks hI hx0 hx1 hkR hkl=>?_,fun {A sp ov x ks} hI hx0 hx1 hkR hkl=>?_⟩
 ·have hr:=hR _ (dZ1.2 rfl);have hI':aZ V nodes limbs A sp:=hI;have hFine:=hI'.fine hn hl hV;obtain ⟨N,hN'⟩:∃N,ndA A x=N:=⟨_,rfl⟩;rw [hN'] at hN hkl;have hkinds:=hI'.kinds hx0 hx1;have hone:=hI'.one hx0 hx1;rw [hN'] at hkinds hone;have hnl:ks.length=n:=SlOf.len hks;have hkb:N.kids.length≤2002:=by rw [←hN'];exact hI'.kidsLen hn (by omega)
  obtain ⟨gd,ad,nd,cd,ap,np,cp,gk,ak,nk,ck,aq,nq,cq,rfl,hnat⟩:=hN;have HA:=jJ (aI10 hA hT hO hM hm hr hks hnat hI' hkR);have HC:=jJ (aI4 hl0 hn hl hV);have HN:=jJ (aI3 hN' hone hkl);have HF:=jJ hFine;clear hA hT hO hM hm hR hf hr hks hnat hI hI' hkR hN' hone hFine hl0 hn hl hV hkl;show Calls prog 56 #[.int .i64 x,.agg #[.int .i64 N.kind,.bool gd,.slice ad nd cd,.slice ap np cp,.bool gk,.slice ak nk ck,.int .i64 N.var,.slice aq nq cq],.slice a n c,.pointer (some ⟨ba,0,none⟩)] W _
  go_enter func56,ntmps56
  go_upto_region 1 with (fail)
  obtain ⟨w0,e_1,k0,r0⟩:=bx1 W 68 [.int .i64 N.kind,.bool gd,.slice ad nd cd,.slice ap np cp,.bool gk,.slice ak nk ck,.int .i64 N.var,.slice aq nq cq];rw [e_1];clear e_1;obtain ⟨d0,d1,d2,d3,d4,d5,d6,d7⟩:=r0.cells8;obtain ⟨e0,-⟩:=(HA.o.r5.1.keep k0 id).one;have H0:=jJ (aI k0 r0);clear k0 r0;by_cases h5:N.kind=5∨N.kind=6
  ·have hj:=sjoin_any (kind:=N.kind) (ov:=ov) (HA.o.1.keep H0.o.1 fun _ h=>h.elim) (HA.o.2.1.keepNil H0.o.1) HA.o.2.2.1 (HA.o.2.2.2.1.keep H0.o.1) (HA.o.r4.1.keepNil H0.o.1) (HA.o.r6.1.keepNil H0.o.1) HA.o.r8.1 HC.o.2.1 HC.o.2.2.1 HC.o.2.2.2 HA.o.r9 (by have:=HN.o.2.2;omega) h5;have hres:cY nodes limbs A sp ov x ks=cK A nodes limbs sp ov N.kind ks:=by unfold cY;rw [HN.o.1,if_pos h5]
   have HJ:=jJ (aI hj hres);clear hj hres;have hj2:=HJ.o.1;have hr2:=HJ.o.2;rcases h5 with hk|hk
   ·rw [hk] at d0 hj2 hr2;have HS:=jJ (aI hj2 hr2);clear hj2 hr2 hk;go_wp2_with (go_at_call 57;refine HS.o.1.mono ?_;rintro e w1 ⟨rfl,hst⟩;have H1:=jJ hst;clear hst)
    go_ret2
    rw [HS.o.2];exact cJ.after H0.o.1 ⟨rfl,H1.o⟩
   ·rw [hk] at d0 hj2 hr2;have HS:=jJ (aI hj2 hr2);clear hj2 hr2 hk;go_wp2_with (go_at_call 57;refine HS.o.1.mono ?_;rintro e w1 ⟨rfl,hst⟩;have H1:=jJ hst;clear hst)
    go_ret2
    rw [HS.o.2];exact cJ.after H0.o.1 ⟨rfl,H1.o⟩
  by_cases h7:N.kind=7∨N.kind=8
  ·obtain ⟨q1,q2⟩:=HN.o.2.1 h7;have hn1:n=1:=by have:=HN.o.2.2;omega
   subst hn1;obtain ⟨k,hk⟩:∃k,ks.getD 0 0=k:=⟨_,rfl⟩;obtain ⟨b,off,rfl,cq0⟩:=aW (HA.o.r6.1.keepNil H0.o.1) (i:=0) (by omega);rw [hk] at cq0;have hbq:b<w0.heap.size:=by
    obtain ⟨b',off',cs',e,hb',_⟩:=SlOf.at (HA.o.r6.1.keepNil H0.o.1) (i:=0) (by omega);cases e;exact hb'
   have hkr:=(HA.o.r9 k (by rw [←hk];exact cH 0 (by omega))).1;have HK:=jJ hk;have HV:=jJ q2;simp only [Nat.mul_zero,Nat.zero_mul,Nat.add_zero] at cq0;have HQ:=jJ cq0;clear hk q1 q2 cq0;rcases h7 with hkd|hkd
   ·have H7:=jJ hkd;have hroom:=roomK (kind:=N.kind) (v:=N.var) (ks:=[k]) HA.o.r8.1.inv HC.o.2.1 HC.o.2.2.2 (by omega) (by omega) (fun h=>by omega) (List.pairwise_singleton _ _) (fun y hy=>by rw [dZ1.1 hy];exact hkr);have hb:=fun (W':World) (q:aA Nil W W')=>abind_any (kind:=N.kind) (v:=N.var) (k:=k) (HA.o.1.keep q fun _ h=>h.elim) (HA.o.2.1.keepNil q) HA.o.2.2.1 (HA.o.2.2.2.1.keep q) (HA.o.r4.1.keepNil q) HV.o HA.o.r8.1.inv.sp0 HA.o.r8.1.inv.spn HC.o.2.1 (by have:=HA.o.r8.1.inv.cnt;have:=HA.o.r8.1.inv.spn;have:=HC.o.2.1;omega) HF.o.len HF.o.two hroom;rw [hkd] at hb d0;have HB:=jJ hb;clear hb hroom hkd;go_upto_region 7 with (fail)
    refine aX 13 [8,9,10,11,12] [24,25,26,27,28,29,30,31,32,33,34,7,8] [24,25,26,27,28,29,30,31] [Un (LitV ?v2_0),Un (LitV ?v2_1),Un (LitV ?v2_2),Un (LitV ?v2_3),Un (LitV ?v2_4),Un (LitV ?v2_5),Un (LitV ?v2_6),Un (LitV ?v2_7),nothing,nothing,nothing,nothing,nothing] (aB.sk (aB.sk (aB.sk (aB.sk (aB.sk (aB.nx ?r2_7 (aB.nx ?r2_6 (aB.nx ?r2_5 (aB.nx ?r2_4 (aB.nx ?r2_3 (aB.nx ?r2_2 (aB.nx ?r2_1 (aB.nx ?r2_0 aB.zero))))))))))))) ?rfn2
    case' r2_0|r2_1|r2_2|r2_3|r2_4|r2_5|r2_6|r2_7=>
     intro us wj hk hp K hK;try simp only [aP,Act.put,sL] at hK⊢
     obtain ⟨d0,d1,d2,d3,d4,d5,d6,d7⟩:=(H0.o.2.keep hk id).cells8;obtain ⟨e0',-⟩:=(HA.o.r5.1.keep (H0.o.1.trans hk) id).one;have hq0:=hk.cellE hbq id HQ.o;have lq:=cZ1 hbq hk.size;rw [H7.o] at d0
    case' r2_0|r2_1|r2_3|r2_5=>
     go_simp
     refine hK.out _ _ (aA.refl _ _) ?_;exact rfl
    case' r2_2=>
     have e1:us 25=_:=hp 1;rw [e1] at hK⊢;go_simp
     refine hK.out _ _ (aA.refl _ _) ?_;exact rfl
    case' r2_4=>
     have e3:us 27=_:=hp 3;rw [e3] at hK⊢;go_simp
     refine hK.out _ _ (aA.refl _ _) ?_;exact rfl
    case' r2_6=>
     have e5:us 29=_:=hp 5;rw [e5] at hK⊢;go_simp
     refine hK.out _ _ (aA.refl _ _) ?_;exact rfl
    case' r2_7=>
     have e6:us 30=_:=hp 6;rw [e6] at hK⊢;go_simp
     refine hK.out _ _ (aA.refl _ _) ?_;exact rfl
    case' rfn2=>
    intro us wz hkz hf;simp only [aP,Act.put,sL];have e0:us 24=_:=hf 0;have e1:us 25=_:=hf 1;have e2:us 26=_:=hf 2;have e3:us 27=_:=hf 3;have e4:us 28=_:=hf 4;have e5:us 29=_:=hf 5;have e6:us 30=_:=hf 6;have e7:us 31=_:=hf 7;clear hf;simp only [e0,e1,e2,e3,e4,e5,e6,e7];clear e0 e1 e2 e3 e4 e5 e6 e7 us;refine aK 8 fun K hK=>?_;go_simp
    refine (HB.o wz (H0.o.1.trans hkz)).mono ?_;rintro e wb ⟨rfl,hst⟩;have H1:=jJ hst;clear hst;skip
    refine mK ?_;clear hK K;refine cE (rs:=[9,10]) (by kernel_rfl) (by simp) ?_;refine (bD.cons rfl (fun K hK=>?t3_9) (bD.cons rfl (fun K hK=>?t3_10) bD.nil))
    case t3_9=>
     go_simp
     refine mK ?_;clear hK K;refine aK 10 fun K hK=>?_;go_simp
     refine mK ?_;clear hK K;refine aK 11 fun K hK=>?_;go_simp
     refine mK ?_;clear hK K;refine aK 12 fun K hK=>?_;go_simp
     refine mK ?_;clear hK K;refine aQ (by kernel_rfl) ?_ _;go_wp2_with fail
     go_ret2
     rw [show cY nodes limbs A sp ov x ks=dU A nodes limbs sp ov 7 N.var k by unfold cY;rw [HN.o.1,if_neg (by rw [H7.o];omega),if_pos (by rw [H7.o];omega),H7.o,HK.o]];exact cJ.after (H0.o.1.trans hkz) ⟨rfl,H1.o⟩
    case t3_10=>
     go_simp
     refine mK ?_;clear hK K;refine aK 9 fun K hK=>?_;go_simp
     refine mK ?_;clear hK K;refine aK 11 fun K hK=>?_;go_simp
     refine mK ?_;clear hK K;refine aK 12 fun K hK=>?_;go_simp
     refine mK ?_;clear hK K;refine aQ (by kernel_rfl) ?_ _;go_wp2_with fail
     go_ret2
     rw [show cY nodes limbs A sp ov x ks=dU A nodes limbs sp ov 7 N.var k by unfold cY;rw [HN.o.1,if_neg (by rw [H7.o];omega),if_pos (by rw [H7.o];omega),H7.o,HK.o]];exact cJ.after (H0.o.1.trans hkz) ⟨rfl,H1.o⟩
   ·have H8:=jJ hkd;have hroom:=roomK (kind:=N.kind) (v:=N.var) (ks:=[k]) HA.o.r8.1.inv HC.o.2.1 HC.o.2.2.2 (by omega) (by omega) (fun h=>by omega) (List.pairwise_singleton _ _) (fun y hy=>by rw [dZ1.1 hy];exact hkr);have hb:=fun (W':World) (q:aA Nil W W')=>abind_any (kind:=N.kind) (v:=N.var) (k:=k) (HA.o.1.keep q fun _ h=>h.elim) (HA.o.2.1.keepNil q) HA.o.2.2.1 (HA.o.2.2.2.1.keep q) (HA.o.r4.1.keepNil q) HV.o HA.o.r8.1.inv.sp0 HA.o.r8.1.inv.spn HC.o.2.1 (by have:=HA.o.r8.1.inv.cnt;have:=HA.o.r8.1.inv.spn;have:=HC.o.2.1;omega) HF.o.len HF.o.two hroom;rw [hkd] at hb d0;have HB:=jJ hb;clear hb hroom hkd;go_upto_region 7 with (fail)
    refine aX 13 [8,9,10,11,12] [24,25,26,27,28,29,30,31,32,33,34,7,8] [24,25,26,27,28,29,30,31] [Un (LitV ?v4_0),Un (LitV ?v4_1),Un (LitV ?v4_2),Un (LitV ?v4_3),Un (LitV ?v4_4),Un (LitV ?v4_5),Un (LitV ?v4_6),Un (LitV ?v4_7),nothing,nothing,nothing,nothing,nothing] (aB.sk (aB.sk (aB.sk (aB.sk (aB.sk (aB.nx ?r4_7 (aB.nx ?r4_6 (aB.nx ?r4_5 (aB.nx ?r4_4 (aB.nx ?r4_3 (aB.nx ?r4_2 (aB.nx ?r4_1 (aB.nx ?r4_0 aB.zero))))))))))))) ?rfn4
    case' r4_0|r4_1|r4_2|r4_3|r4_4|r4_5|r4_6|r4_7=>
     intro us wj hk hp K hK;try simp only [aP,Act.put,sL] at hK⊢
     obtain ⟨d0,d1,d2,d3,d4,d5,d6,d7⟩:=(H0.o.2.keep hk id).cells8;obtain ⟨e0',-⟩:=(HA.o.r5.1.keep (H0.o.1.trans hk) id).one;have hq0:=hk.cellE hbq id HQ.o;have lq:=cZ1 hbq hk.size;rw [H8.o] at d0
    case' r4_0|r4_1|r4_3|r4_5=>
     go_simp
     refine hK.out _ _ (aA.refl _ _) ?_;exact rfl
    case' r4_2=>
     have e1:us 25=_:=hp 1;rw [e1] at hK⊢;go_simp
     refine hK.out _ _ (aA.refl _ _) ?_;exact rfl
    case' r4_4=>
     have e3:us 27=_:=hp 3;rw [e3] at hK⊢;go_simp
     refine hK.out _ _ (aA.refl _ _) ?_;exact rfl
    case' r4_6=>
     have e5:us 29=_:=hp 5;rw [e5] at hK⊢;go_simp
     refine hK.out _ _ (aA.refl _ _) ?_;exact rfl
    case' r4_7=>
     have e6:us 30=_:=hp 6;rw [e6] at hK⊢;go_simp
     refine hK.out _ _ (aA.refl _ _) ?_;exact rfl
    case' rfn4=>
    intro us wz hkz hf;simp only [aP,Act.put,sL];have e0:us 24=_:=hf 0;have e1:us 25=_:=hf 1;have e2:us 26=_:=hf 2;have e3:us 27=_:=hf 3;have e4:us 28=_:=hf 4;have e5:us 29=_:=hf 5;have e6:us 30=_:=hf 6;have e7:us 31=_:=hf 7;clear hf;simp only [e0,e1,e2,e3,e4,e5,e6,e7];clear e0 e1 e2 e3 e4 e5 e6 e7 us;refine aK 8 fun K hK=>?_;go_simp
    refine (HB.o wz (H0.o.1.trans hkz)).mono ?_;rintro e wb ⟨rfl,hst⟩;have H1:=jJ hst;clear hst;skip
    refine mK ?_;clear hK K;refine cE (rs:=[9,10]) (by kernel_rfl) (by simp) ?_;refine (bD.cons rfl (fun K hK=>?t5_9) (bD.cons rfl (fun K hK=>?t5_10) bD.nil))
    case t5_9=>
     go_simp
     refine mK ?_;clear hK K;refine aK 10 fun K hK=>?_;go_simp
     refine mK ?_;clear hK K;refine aK 11 fun K hK=>?_;go_simp
     refine mK ?_;clear hK K;refine aK 12 fun K hK=>?_;go_simp
     refine mK ?_;clear hK K;refine aQ (by kernel_rfl) ?_ _;go_wp2_with fail
     go_ret2
     rw [show cY nodes limbs A sp ov x ks=dU A nodes limbs sp ov 8 N.var k by unfold cY;rw [HN.o.1,if_neg (by rw [H8.o];omega),if_pos (by rw [H8.o];omega),H8.o,HK.o]];exact cJ.after (H0.o.1.trans hkz) ⟨rfl,H1.o⟩
    case t5_10=>
     go_simp
     refine mK ?_;clear hK K;refine aK 9 fun K hK=>?_;go_simp
     refine mK ?_;clear hK K;refine aK 11 fun K hK=>?_;go_simp
     refine mK ?_;clear hK K;refine aK 12 fun K hK=>?_;go_simp
     refine mK ?_;clear hK K;refine aQ (by kernel_rfl) ?_ _;go_wp2_with fail
     go_ret2
     rw [show cY nodes limbs A sp ov x ks=dU A nodes limbs sp ov 8 N.var k by unfold cY;rw [HN.o.1,if_neg (by rw [H8.o];omega),if_pos (by rw [H8.o];omega),H8.o,HK.o]];exact cJ.after (H0.o.1.trans hkz) ⟨rfl,H1.o⟩
  ·have b5:¬N.kind=5:=fun h=>h5 (.inl h);have b6:¬N.kind=6:=fun h=>h5 (.inr h);have b7:¬N.kind=7:=fun h=>h7 (.inl h);have b8:¬N.kind=8:=fun h=>h7 (.inr h);have HB:=jJ (aI h5 h7);clear h5 h7;go_wp2_with fail
   go_ret2
   rw [show cY nodes limbs A sp ov x ks=((x,0),A,(sp,ov)) by unfold cY;rw [HN.o.1,if_neg HB.o.1,if_neg HB.o.2]];exact cJ.none HA.o.1 HA.o.2.2.1 HA.o.r4.1 H0.o.1
 ·have h:aZ V nodes limbs A sp:=hI;obtain ⟨q1,q2,q3⟩:=(againT_ok (V:=V) hl0).step (ov:=ov) hI hx0 hx1 hkR hkl;by_cases he:(cY nodes limbs A sp ov x ks).1.2=0
  ·exact AltR.i64 (show aZ V nodes limbs _ _ from q1) hn (q3 he)
  ·rw [againT_err0 he];exact⟨by omega,by omega⟩
end
end Go.Proofs.Q
