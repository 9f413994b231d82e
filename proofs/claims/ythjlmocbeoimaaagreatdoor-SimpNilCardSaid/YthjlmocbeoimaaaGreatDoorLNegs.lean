/- What term.Sub, term.Const, atom.Negate do. Conditions: what is given reads; room. -/
import Derived.Test.YthjlmocbeoimaaaGreatDoorLAtom6
set_option linter.unusedSimpArgs false
set_option linter.unusedVariables false
set_option maxRecDepth 100000
set_option maxHeartbeats 4000000
namespace Go.Rid
open Go.RowKit
theorem fit_neg1:nlen (-1:Int).natAbs*4+4≤140737488355328:=fit_one
def negV (A:cM):cM:=
 if (cD A).1≠0 then ⟨0,0,bX⟩
 else if (cD A).2.kind=0∨(cD A).2.kind=1 then cV (decide ((cD A).2.kind=0))
 else if (cD A).2.kind=2 then lessV (bS (sumT 1 ⟨[],1⟩ (-1) (cD A).2.t))
 else (parted2 (cD A).2.d (bS (cD A).2.t) (decide ((cD A).2.kind=3))).2
end Go.Rid
namespace Go.Proofs.YthjlmocbeoimaaaGreatDoor
open Go.RowKit Go.Rid
theorem tsub_any {M M1 M2 M3 M4:Nat→Prop} {w:World} {ga gb:Bool} {aa ap ab bp:Option Addr} {na ca np cp nb cb mp dp:Nat} {za zb:Int} {la lb:aX} (hM:MB M w) (ha:RParts M1 M2 w ap np cp la) (hza:ZAt Nil w ga aa na ca za) (hb:RParts M3 M4 w bp mp dp lb) (hzb:ZAt Nil w gb ab nb cb zb) (h3:na≤1073741824) (h4:nb≤1073741824) (h5:np≤16777216) (h6:mp≤16777216) :
  Calls Tryz.prog 51 #[.agg #[.slice ap np cp,.bool ga,.slice aa na ca],.agg #[.slice bp mp dp,.bool gb,.slice ab nb cb]] w fun e w'=>Gives Nil (TV M (sumT 1 ⟨la,za⟩ (-1) ⟨lb,zb⟩)) w e w':=by
 have HM:=jJ hM
 have HA:=jJ (aI ha (aI hza (aI hb (aI hzb (aI h3 (aI h4 (aI h5 h6)))))))
 clear hM ha hza hb hzb h3 h4 h5 h6
 go_enter Tryz.func51,Tryz.ntmps51
 go_upto_region 1 with (fail)
 have r0:=(aF.alloc (w:=w) (E:=48) (xs:=[.slice ap np cp,.bool ga,.slice aa na ca])).keep (M:=Nil) (w':=(((w.alloc (.cells #[.slice ap np cp,.bool ga,.slice aa na ca] 48)).alloc (.cells #[.slice bp mp dp,.bool gb,.slice ab nb cb] 48)).alloc (.cells #[.slice none 0 0,.bool false,.slice none 0 0] 48))) kOf id
 have r1:=(aF.alloc (w:=(w.alloc (.cells #[.slice ap np cp,.bool ga,.slice aa na ca] 48))) (E:=48) (xs:=[.slice bp mp dp,.bool gb,.slice ab nb cb])).keep (M:=Nil) (w':=(((w.alloc (.cells #[.slice ap np cp,.bool ga,.slice aa na ca] 48)).alloc (.cells #[.slice bp mp dp,.bool gb,.slice ab nb cb] 48)).alloc (.cells #[.slice none 0 0,.bool false,.slice none 0 0] 48))) kOf id
 rw [show (w.alloc (.cells #[.slice ap np cp,.bool ga,.slice aa na ca] 48)).heap.size=w.heap.size+1 by simp] at r1
 have r2:=aF.alloc (w:=((w.alloc (.cells #[.slice ap np cp,.bool ga,.slice aa na ca] 48)).alloc (.cells #[.slice bp mp dp,.bool gb,.slice ab nb cb] 48))) (E:=48) (xs:=[.slice none 0 0,.bool false,.slice none 0 0])
 change aF (((w.alloc (.cells #[.slice ap np cp,.bool ga,.slice aa na ca] 48)).alloc (.cells #[.slice bp mp dp,.bool gb,.slice ab nb cb] 48)).alloc (.cells #[.slice none 0 0,.bool false,.slice none 0 0] 48)) _ _ _ at r2
 rw [show ((w.alloc (.cells #[.slice ap np cp,.bool ga,.slice aa na ca] 48)).alloc (.cells #[.slice bp mp dp,.bool gb,.slice ab nb cb] 48)).heap.size=w.heap.size+1+1 by simp] at r2
 have k0:aA Nil w (((w.alloc (.cells #[.slice ap np cp,.bool ga,.slice aa na ca] 48)).alloc (.cells #[.slice bp mp dp,.bool gb,.slice ab nb cb] 48)).alloc (.cells #[.slice none 0 0,.bool false,.slice none 0 0] 48)):=kOf
 generalize (((w.alloc (.cells #[.slice ap np cp,.bool ga,.slice aa na ca] 48)).alloc (.cells #[.slice bp mp dp,.bool gb,.slice ab nb cb] 48)).alloc (.cells #[.slice none 0 0,.bool false,.slice none 0 0] 48))=w0 at *
 have lr:=r2.lt
 have H0:=jJ (aI k0 (aI r0 (aI r1 r2)))
 clear k0 r0 r1 r2
 refine aS [5] [5,6,7,8,9,1014] [5,6,7,8,9] [Un (ZV Nil 1),Un (LitV ?v1_1),Un (ZV Nil (-1)),Un (LitV ?v1_3),Un (TV (Old w0) (sumT 1 ⟨la,za⟩ (-1) ⟨lb,zb⟩)),nothing] (by kernel_rfl) (by kernel_rfl) ?rst1 ?rsb1 ?rfn1
 case' rst1=>
  show aB _ _ _ _ _ _ _ _ _ 6
  refine (aB.skip (n:=5) (by decide) (aB.succ (n:=4) rfl ?r1_4 (aB.succ (n:=3) rfl ?r1_3 (aB.succ (n:=2) rfl ?r1_2 (aB.succ (n:=1) rfl ?r1_1 (aB.succ (n:=0) rfl ?r1_0 aB.zero))))))
 case' r1_0=>
  intro us wj hk hp K hK
  try simp only [aK,Act.put,sL] at hK⊢
  obtain ⟨d0,d1,d2⟩:=(H0.out.2.1.keep hk id).three
  obtain ⟨e0',e1',e2'⟩:=(H0.out.2.2.1.keep hk id).three
  go_simp
  refine (zof_any (M:=Nil) (z:=1) (MB.nil _) (by omega) (by omega)).mono ?_
  rintro e wk ⟨g,a,n,c,rfl,h,hk2⟩
  refine hK.out _ _ ?_ ?_
  ·exact hk2
  ·exact⟨g,a,n,c,rfl,h⟩
 case' r1_1|r1_3=>
  intro us wj hk hp K hK
  try simp only [aK,Act.put,sL] at hK⊢
  obtain ⟨d0,d1,d2⟩:=(H0.out.2.1.keep hk id).three
  obtain ⟨e0',e1',e2'⟩:=(H0.out.2.2.1.keep hk id).three
  go_simp
  refine hK.out _ _ ?_ ?_
  ·exact aA.refl _ _
  ·exact rfl
 case' r1_2=>
  intro us wj hk hp K hK
  try simp only [aK,Act.put,sL] at hK⊢
  obtain ⟨d0,d1,d2⟩:=(H0.out.2.1.keep hk id).three
  obtain ⟨e0',e1',e2'⟩:=(H0.out.2.2.1.keep hk id).three
  go_simp
  refine (zof_any (M:=Nil) (z:=-1) (MB.nil _) (by omega) (by omega)).mono ?_
  rintro e wk ⟨g,a,n,c,rfl,h,hk2⟩
  refine hK.out _ _ ?_ ?_
  ·exact hk2
  ·exact⟨g,a,n,c,rfl,h⟩
 case' r1_4=>
  intro us wj hk hp K hK
  try simp only [aK,Act.put,sL] at hK⊢
  obtain ⟨d0,d1,d2⟩:=(H0.out.2.1.keep hk id).three
  obtain ⟨e0',e1',e2'⟩:=(H0.out.2.2.1.keep hk id).three
  obtain ⟨g0,a0,n0,c0,e0,h0⟩:(ZV Nil 1) (us 5) wj:=hp 0 (by kernel_rfl)
  have e1:us 6=_:=hp 1 (by kernel_rfl)
  obtain ⟨g2,a2,n2,c2,e2,h2⟩:(ZV Nil (-1)) (us 7) wj:=hp 2 (by kernel_rfl)
  have e3:us 8=_:=hp 3 (by kernel_rfl)
  rw [e0,e1,e2,e3] at hK⊢
  go_simp
  refine (sum_any (M:=Old w0) (MB.oldLe hk.size) (h0.zat fit_one) (h2.zat fit_neg1) (HA.out.1.keepNil (H0.out.1.trans hk)) (HA.out.2.2.1.keepNil (H0.out.1.trans hk)) (HA.out.2.1.keepNil (H0.out.1.trans hk)) (HA.out.2.2.2.1.keepNil (H0.out.1.trans hk)) (by have:=h0.len;have:=nlen_one;omega) (by have:=h2.len;have:=nlen_one;simp only [Int.natAbs_neg] at *;omega) HA.out.r4.1 HA.out.r5.1 HA.out.r6.1 HA.out.r7).mono ?_
  rintro e wk ⟨v,rfl,hv,hk2⟩
  refine hK.out _ _ ?_ ?_
  ·exact hk2
  ·exact hv
 case' rsb1=>exact aC.cons (aC.cons (aC.cons (aC.cons (aC.cons (aC.cons (aC.nil))))))
 case' rfn1=>
 intro us wz hkz hf
 simp only [aK,Act.put,sL]
 obtain ⟨g0,a0,n0,c0,e0,h0⟩:(ZV Nil 1) (us 5) wz:=hf 0 (by decide) (by decide)
 have e1:us 6=_:=hf 1 (by decide) (by decide)
 obtain ⟨g2,a2,n2,c2,e2,h2⟩:(ZV Nil (-1)) (us 7) wz:=hf 2 (by decide) (by decide)
 have e3:us 8=_:=hf 3 (by decide) (by decide)
 obtain ⟨ap4,np4,cp4,gk4,ak4,nk4,ck4,e4,h4⟩:(TV (Old w0) (sumT 1 ⟨la,za⟩ (-1) ⟨lb,zb⟩)) (us 9) wz:=hf 4 (by decide) (by decide)
 clear hf
 simp only [e0,e1,e2,e3,e4]
 clear e0 e1 e2 e3 e4 us
 refine aL (rs:=[5]) (by kernel_rfl) (by simp) ?_
 refine aJ.cons rfl (fun K hK=>?_) aJ.nil
 obtain ⟨z0,z1,z2⟩:=(H0.out.2.2.2.keep hkz id).three
 obtain ⟨z3,z4,z5⟩:=(H0.out.2.2.2.keep hkz id).marks3
 go_simp
 refine hK.out _ _ (fun _=>trivial) ?_
 clear hK K
 try simp only [Act.put,sL]
 refine aU (by kernel_rfl) ?_ _
 go_wp2_with fail
 have r6:=(H0.out.2.2.2.keep hkz id).triple (.slice ap4 np4 cp4) (.bool gk4) (.slice ak4 nk4 ck4)
 obtain ⟨y0,y1,y2⟩:=r6.three
 exact bodyPost_ret (v:=.agg #[.slice ap4 np4 cp4,.bool gk4,.slice ak4 nk4 ck4]) (by simp [results,Tryz.results51,go_sem,y0,y1,y2]) rfl ⟨_,rfl,⟨_,_,_,_,_,_,_,rfl,h4.out (M:=M) lr (fun b hb=>by have:=HM.out b hb;omega) (aA.triple (g:=w.heap.size+1+1) (.slice ap4 np4 cp4) (.bool gk4) (.slice ak4 nk4 ck4))⟩,(H0.out.1.trans hkz).own (by omega) (aA.triple _ _ _)⟩
theorem tconst_any {M:Nat→Prop} {w:World} {ga:Bool} {aa:Option Addr} {na ca:Nat} {z:Int} (hM:MB M w) (hz:ZAt Nil w ga aa na ca z) :
  Calls Tryz.prog 52 #[.agg #[.bool ga,.slice aa na ca]] w fun e w'=>Gives Nil (TV M ⟨[],z⟩) w e w':=by
 have HM:=jJ hM
 have HZ:=jJ hz
 clear hM hz
 go_enter Tryz.func52,Tryz.ntmps52
 go_upto_region 1 with (fail)
 have r0:=(aF.alloc (w:=w) (E:=46) (xs:=[.bool ga,.slice aa na ca])).keep (M:=Nil) (w':=((w.alloc (.cells #[.bool ga,.slice aa na ca] 46)).alloc (.cells #[.slice none 0 0,.bool false,.slice none 0 0] 48))) kOf id
 have r1:=aF.alloc (w:=(w.alloc (.cells #[.bool ga,.slice aa na ca] 46))) (E:=48) (xs:=[.slice none 0 0,.bool false,.slice none 0 0])
 change aF ((w.alloc (.cells #[.bool ga,.slice aa na ca] 46)).alloc (.cells #[.slice none 0 0,.bool false,.slice none 0 0] 48)) _ _ _ at r1
 rw [show (w.alloc (.cells #[.bool ga,.slice aa na ca] 46)).heap.size=w.heap.size+1 by simp] at r1
 have k0:aA Nil w ((w.alloc (.cells #[.bool ga,.slice aa na ca] 46)).alloc (.cells #[.slice none 0 0,.bool false,.slice none 0 0] 48)):=kOf
 generalize ((w.alloc (.cells #[.bool ga,.slice aa na ca] 46)).alloc (.cells #[.slice none 0 0,.bool false,.slice none 0 0] 48))=w0 at *
 obtain ⟨c0,c1,-,-⟩:=r0.two
 have lr:=r1.lt
 have H0:=jJ (aI k0 r1)
 clear k0 r0 r1
 go_wp2_with (go_at_call 83;refine (norm_any (M:=Old w0) (MB.old w0) (HZ.out.keepNil H0.out.1)).mono ?_;rintro e w1 ⟨g,a,n,c,rfl,hn,hk1⟩;have r1:=H0.out.2.keep hk1 id;obtain ⟨z0,z1,z2⟩:=r1.three;obtain ⟨z3,z4,z5⟩:=r1.marks3;have H1:=jJ (aI hn (aI hk1 r1));clear hn hk1 r1)
 have r6:=H1.out.2.2.triple (.slice none 0 0) (.bool g) (.slice a n c)
 obtain ⟨y0,y1,y2⟩:=r6.three
 exact bodyPost_ret (v:=.agg #[.slice none 0 0,.bool g,.slice a n c]) (by simp [results,Tryz.results52,go_sem,y0,y1,y2]) rfl ⟨_,rfl,⟨_,_,_,_,_,_,_,rfl,(show TermAt (Old w0) w1 none 0 0 g a n c ⟨[],z⟩ from ⟨SlOf.nil,H1.out.1⟩).out lr (fun b hb=>by have:=HM.out b hb;omega) (aA.triple _ _ _)⟩,(H0.out.1.trans H1.out.2.1).own (by omega) (aA.triple _ _ _)⟩
theorem anegate_any {M M1 M2:Nat→Prop} {w:World} {k:Int} {ad ap ak:Option Addr} {nd cd np cp nk ck:Nat} {gd gk:Bool} {d z:Int} {l:aX} (hM:MB M w) (hd:ZAt Nil w gd ad nd cd d) (h:RParts M1 M2 w ap np cp l) (hk:ZAt Nil w gk ak nk ck z) (h1:np≤16777216) (h2:nk≤1073741824) (hw:Wee (bS ⟨l,z⟩)) (hwd:nlen d.natAbs≤536870912)
  (hX:Wee (cD ⟨k,d,⟨l,z⟩⟩).2.t) (hXn:Neat (cD ⟨k,d,⟨l,z⟩⟩).2.t.parts) (hXd:nlen (cD ⟨k,d,⟨l,z⟩⟩).2.d.natAbs≤536870912) (hX2:(cD ⟨k,d,⟨l,z⟩⟩).2.kind=2→Wee (sumT 1 ⟨[],1⟩ (-1) (cD ⟨k,d,⟨l,z⟩⟩).2.t)) :
  Calls Tryz.prog 24 #[.agg #[.int .i64 k,.bool gd,.slice ad nd cd,.slice ap np cp,.bool gk,.slice ak nk ck]] w fun e w'=>Gives Nil (AV M (negV ⟨k,d,⟨l,z⟩⟩)) w e w':=by
 have hnm:=fun (W:World) (q:aA Nil w W)=>anorm_any (M:=Old W) (k:=k) (MB.old W) (hd.keepNil q) (h.keepNil q) (hk.keepNil q) h1 h2 hw hwd
 obtain ⟨r,hr⟩:∃r,cD ⟨k,d,⟨l,z⟩⟩=r:=⟨_,rfl⟩
 have hneg:negV ⟨k,d,⟨l,z⟩⟩=if r.1≠0 then ⟨0,0,bX⟩ else if r.2.kind=0∨r.2.kind=1 then cV (decide (r.2.kind=0)) else if r.2.kind=2 then lessV (bS (sumT 1 ⟨[],1⟩ (-1) r.2.t)) else (parted2 r.2.d (bS r.2.t) (decide (r.2.kind=3))).2:=by unfold negV;rw [hr]
 rw [hr] at hnm hX hXn hXd hX2
 obtain ⟨er,kX,dX,tX⟩:=r
 simp only at hX hXn hXd hX2 hneg
 have HA:=jJ (aI hM (aI hnm (aI hX (aI hXn (aI hXd (aI hX2 hneg))))))
 clear hd h hk hM hw hwd hnm hX hXn hXd hX2 hneg hr
 go_enter Tryz.func24,Tryz.ntmps24
 go_upto_region 1 with (fail)
 have r0:=(aF.alloc (w:=w) (E:=51) (xs:=[.int .i64 k,.bool gd,.slice ad nd cd,.slice ap np cp,.bool gk,.slice ak nk ck])).keep (M:=Nil) (w':=((w.alloc (.cells #[.int .i64 k,.bool gd,.slice ad nd cd,.slice ap np cp,.bool gk,.slice ak nk ck] 51)).alloc (.cells #[.int .i64 0,.bool false,.slice none 0 0,.slice none 0 0,.bool false,.slice none 0 0] 51))) kOf id
 have r1:=aF.alloc (w:=(w.alloc (.cells #[.int .i64 k,.bool gd,.slice ad nd cd,.slice ap np cp,.bool gk,.slice ak nk ck] 51))) (E:=51) (xs:=[.int .i64 0,.bool false,.slice none 0 0,.slice none 0 0,.bool false,.slice none 0 0])
 change aF ((w.alloc (.cells #[.int .i64 k,.bool gd,.slice ad nd cd,.slice ap np cp,.bool gk,.slice ak nk ck] 51)).alloc (.cells #[.int .i64 0,.bool false,.slice none 0 0,.slice none 0 0,.bool false,.slice none 0 0] 51)) _ _ _ at r1
 rw [show (w.alloc (.cells #[.int .i64 k,.bool gd,.slice ad nd cd,.slice ap np cp,.bool gk,.slice ak nk ck] 51)).heap.size=w.heap.size+1 by simp] at r1
 have q0:aA Nil w ((w.alloc (.cells #[.int .i64 k,.bool gd,.slice ad nd cd,.slice ap np cp,.bool gk,.slice ak nk ck] 51)).alloc (.cells #[.int .i64 0,.bool false,.slice none 0 0,.slice none 0 0,.bool false,.slice none 0 0] 51)):=kOf
 generalize ((w.alloc (.cells #[.int .i64 k,.bool gd,.slice ad nd cd,.slice ap np cp,.bool gk,.slice ak nk ck] 51)).alloc (.cells #[.int .i64 0,.bool false,.slice none 0 0,.slice none 0 0,.bool false,.slice none 0 0] 51))=w0 at *
 obtain ⟨c0,c1,c2,c3,c4,c5⟩:=r0.cells6
 have lr0:=r0.lt
 have lr1:=r1.lt
 have H0:=jJ (aI q0 (aI r0 r1))
 clear q0 r0 r1
 go_upto_region 2 with (go_at_call 34;refine (HA.out.2.1 _ H0.out.1).mono ?_;rintro e w1 ⟨v,rfl,⟨gd',ad',nd',cd',ap',np',cp',gk',ak',nk',ck',rfl,hv⟩,hk1⟩;have rr0:=H0.out.2.1.keep hk1 id;have rr1:=H0.out.2.2.keep hk1 id;obtain ⟨z0,z1,z2,z3,z4,z5⟩:=rr0.cells6;obtain ⟨y0,y1,y2,y3,y4,y5⟩:=rr0.marks6;have H1:=jJ (aI hv (aI hk1 (aI rr0 rr1)));clear hv hk1 rr0 rr1)
 have s0:=H1.out.2.2.1.six (.int .i64 kX) (.bool gd') (.slice ad' nd' cd') (.slice ap' np' cp') (.bool gk') (.slice ak' nk' ck')
 have ks:=aA.six (w:=w1) (g:=w.heap.size) (.int .i64 kX) (.bool gd') (.slice ad' nd' cd') (.slice ap' np' cp') (.bool gk') (.slice ak' nk' ck')
 have s1:=H1.out.2.2.2.keep ks (fun (e:w.heap.size+1=w.heap.size)=>by omega)
 have hX0:=H1.out.1.out lr0 (M:=Old w0) (fun _ h=>h) ks
 have hXz:ZN (Old w0) _ gd' ad' nd' cd' dX:=hX0.1
 have hXp:cL (Old w0) (Old w0) _ ap' np' cp' tX.parts:=hX0.2.1
 have hXk:ZN (Old w0) _ gk' ak' nk' ck' tX.k:=hX0.2.2
 have hX:=aI hXz (aI hXp hXk)
 clear hX0 hXz hXp hXk
 have kw:=(H0.out.1.trans H1.out.2.1).own (Nat.le_refl _) ks
 have hsz:w0.heap.size≤((((((w1.setCell ⟨w.heap.size,0,none⟩ (.int .i64 kX)).setCell ⟨w.heap.size,1,none⟩ (.bool gd')).setCell ⟨w.heap.size,2,none⟩ (.slice ad' nd' cd')).setCell ⟨w.heap.size,3,none⟩ (.slice ap' np' cp')).setCell ⟨w.heap.size,4,none⟩ (.bool gk')).setCell ⟨w.heap.size,5,none⟩ (.slice ak' nk' ck')).heap.size:=Nat.le_trans H1.out.2.1.size ks.size
 clear z0 z1 z2 z3 z4 z5 y0 y1 y2 y3 y4 y5
 generalize ((((((w1.setCell ⟨w.heap.size,0,none⟩ (.int .i64 kX)).setCell ⟨w.heap.size,1,none⟩ (.bool gd')).setCell ⟨w.heap.size,2,none⟩ (.slice ad' nd' cd')).setCell ⟨w.heap.size,3,none⟩ (.slice ap' np' cp')).setCell ⟨w.heap.size,4,none⟩ (.bool gk')).setCell ⟨w.heap.size,5,none⟩ (.slice ak' nk' ck'))=w2 at *
 obtain ⟨u0,u1,u2,u3,u4,u5⟩:=s0.cells6
 have H2:=jJ (aI s0 (aI s1 (aI hX (aI kw hsz))))
 clear s0 s1 ks hX kw
 by_cases he:er=0
 ·subst he
  by_cases k01:kX=0∨kX=1
  ·have hneg:negV ⟨k,d,⟨l,z⟩⟩=cV (decide (kX=0)):=by rw [HA.out.r6,if_neg (by simp),if_pos k01]
   have HNEG:=jJ hneg
   clear hneg
   have htr:=fun (W:World)=>truth_any (M:=Old w0) (w:=W) (decide (kX=0))
   have HTR:=jJ htr
   clear htr hsz
   obtain ⟨v0,v1,v2,v3,v4,v5⟩:=H2.out.2.1.cells6
   rcases k01 with rfl|rfl
   ·go_wp2_with (go_at_call 49;refine (HTR.out w2).mono ?_;rintro e w3 ⟨v,rfl,⟨ge,ae,ne,ce,be,me,de,he,fe,ie,je,rfl,hv⟩,hk3⟩;have r1:=H2.out.2.1.keep hk3 id;obtain ⟨z0,z1,z2,z3,z4,z5⟩:=r1.cells6;obtain ⟨y0,y1,y2,y3,y4,y5⟩:=r1.marks6;have H3:=jJ (aI hv (aI hk3 r1));clear hv hk3 r1)
    have r6:=H3.out.2.2.six (.int .i64 (cV true).kind) (.bool ge) (.slice ae ne ce) (.slice be me de) (.bool he) (.slice fe ie je)
    obtain ⟨x0,x1,x2,x3,x4,x5⟩:=r6.cells6
    rw [HNEG.out]
    exact bodyPost_ret (v:=.agg #[.int .i64 (cV true).kind,.bool ge,.slice ae ne ce,.slice be me de,.bool he,.slice fe ie je]) (by simp [results,Tryz.results24,go_sem,x0,x1,x2,x3,x4,x5]) rfl ⟨_,rfl,⟨_,_,_,_,_,_,_,_,_,_,_,rfl,H3.out.1.out lr1 (fun b hb=>by have:=HA.out.1 b hb;omega) (aA.six _ _ _ _ _ _)⟩,(H2.out.2.2.2.1.trans H3.out.2.1).own (by omega) (aA.six _ _ _ _ _ _)⟩
   ·go_wp2_with (go_at_call 49;refine (HTR.out w2).mono ?_;rintro e w3 ⟨v,rfl,⟨ge,ae,ne,ce,be,me,de,he,fe,ie,je,rfl,hv⟩,hk3⟩;have r1:=H2.out.2.1.keep hk3 id;obtain ⟨z0,z1,z2,z3,z4,z5⟩:=r1.cells6;obtain ⟨y0,y1,y2,y3,y4,y5⟩:=r1.marks6;have H3:=jJ (aI hv (aI hk3 r1));clear hv hk3 r1)
    have r6:=H3.out.2.2.six (.int .i64 (cV false).kind) (.bool ge) (.slice ae ne ce) (.slice be me de) (.bool he) (.slice fe ie je)
    obtain ⟨x0,x1,x2,x3,x4,x5⟩:=r6.cells6
    rw [HNEG.out]
    exact bodyPost_ret (v:=.agg #[.int .i64 (cV false).kind,.bool ge,.slice ae ne ce,.slice be me de,.bool he,.slice fe ie je]) (by simp [results,Tryz.results24,go_sem,x0,x1,x2,x3,x4,x5]) rfl ⟨_,rfl,⟨_,_,_,_,_,_,_,_,_,_,_,rfl,H3.out.1.out lr1 (fun b hb=>by have:=HA.out.1 b hb;omega) (aA.six _ _ _ _ _ _)⟩,(H2.out.2.2.2.1.trans H3.out.2.1).own (by omega) (aA.six _ _ _ _ _ _)⟩
  ·by_cases k2:kX=2
   ·subst k2
    have hneg:negV ⟨k,d,⟨l,z⟩⟩=lessV (bS (sumT 1 ⟨[],1⟩ (-1) tX)):=by rw [HA.out.r6,if_neg (by simp),if_neg k01,if_pos rfl]
    have hneg2:=hneg
    clear hneg
    have hw2:=HA.out.r5.1 rfl
    have hnn:bS (sumT 1 ⟨[],1⟩ (-1) tX)=sumT 1 ⟨[],1⟩ (-1) tX:=cW (neat_neatL _)
    rw [hnn] at hneg2
    have HNEG:=jJ hneg2
    clear hneg2
    have hXt:=HA.out.2.2.1
    have HW:=jJ (aI hw2 (aI hnn hXt))
    clear hw2 hnn hXt k01
    go_upto_region 9 with (fail)
    refine aS [6] [25,26,27,28,29,30,1036] [25,26,27,28,29,30] [Un (ZV Nil 1),Un (TV Nil ⟨[],1⟩),Un (LitV ?v2_2),Un (LitV ?v2_3),Un (TV Nil (sumT 1 ⟨[],1⟩ (-1) tX)),Un (AV (Old w0) (lessV (sumT 1 ⟨[],1⟩ (-1) tX))),nothing] (by kernel_rfl) (by kernel_rfl) ?rst2 ?rsb2 ?rfn2
    case' rst2=>
     show aB _ _ _ _ _ _ _ _ _ 7
     refine (aB.skip (n:=6) (by decide) (aB.succ (n:=5) rfl ?r2_5 (aB.succ (n:=4) rfl ?r2_4 (aB.succ (n:=3) rfl ?r2_3 (aB.succ (n:=2) rfl ?r2_2 (aB.succ (n:=1) rfl ?r2_1 (aB.succ (n:=0) rfl ?r2_0 aB.zero)))))))
    case' r2_0=>
     intro us wj hk hp K hK
     try simp only [aK,Act.put,sL] at hK⊢
     obtain ⟨v0,v1,v2,v3,v4,v5⟩:=(H2.out.1.keep hk id).cells6
     go_simp
     refine (zof_any (M:=Nil) (z:=1) (MB.nil _) (by omega) (by omega)).mono ?_
     rintro e wk ⟨g,a,n,c,rfl,h,hk2⟩
     refine hK.out _ _ ?_ ?_
     ·exact hk2
     ·exact⟨g,a,n,c,rfl,h⟩
    case' r2_1=>
     intro us wj hk hp K hK
     try simp only [aK,Act.put,sL] at hK⊢
     obtain ⟨v0,v1,v2,v3,v4,v5⟩:=(H2.out.1.keep hk id).cells6
     obtain ⟨g0,a0,n0,c0,e0,h0⟩:(ZV Nil 1) (us 25) wj:=hp 0 (by kernel_rfl)
     rw [e0] at hK⊢
     go_simp
     refine (tconst_any (M:=Nil) (MB.nil _) (h0.zat fit_one)).mono ?_
     rintro e wk ⟨v,rfl,hv,hk2⟩
     refine hK.out _ _ ?_ ?_
     ·exact hk2
     ·exact hv
    case' r2_2=>
     intro us wj hk hp K hK
     try simp only [aK,Act.put,sL] at hK⊢
     obtain ⟨v0,v1,v2,v3,v4,v5⟩:=(H2.out.1.keep hk id).cells6
     go_simp
     refine hK.out _ _ ?_ ?_
     ·exact aA.refl _ _
     ·exact rfl
    case' r2_3=>
     intro us wj hk hp K hK
     try simp only [aK,Act.put,sL] at hK⊢
     obtain ⟨v0,v1,v2,v3,v4,v5⟩:=(H2.out.1.keep hk id).cells6
     have e2:us 27=_:=hp 2 (by kernel_rfl)
     rw [e2] at hK⊢
     go_simp
     refine hK.out _ _ ?_ ?_
     ·exact aA.refl _ _
     ·exact rfl
    case' r2_4=>
     intro us wj hk hp K hK
     try simp only [aK,Act.put,sL] at hK⊢
     obtain ⟨v0,v1,v2,v3,v4,v5⟩:=(H2.out.1.keep hk id).cells6
     obtain ⟨ap1,np1,cp1,gk1,ak1,nk1,ck1,e1,h1⟩:(TV Nil ⟨[],1⟩) (us 26) wj:=hp 1 (by kernel_rfl)
     have e3:us 28=_:=hp 3 (by kernel_rfl)
     rw [e1,e3] at hK⊢
     go_simp
     refine (tsub_any (M:=Nil) (M1:=Nil) (M2:=Nil) (M3:=Old w0) (M4:=Old w0) (la:=[]) (za:=1) (lb:=tX.parts) (zb:=tX.k) (MB.nil _) (cL.raw h1.1 (fun p hp=>by cases hp)) (h1.2.zat fit_one) (cL.raw (H2.out.2.2.1.2.1.keepNil hk) fun p hp=>by have:=HW.out.2.2.parts p hp;omega) ((H2.out.2.2.1.2.2.zat (by have:=HW.out.2.2.k;omega)).keepNil hk) (by have q:nk1=nlen (1:Int).natAbs:=h1.2.len;have:=nlen_one;omega) (by have:=H2.out.2.2.1.2.2.len;have:=HW.out.2.2.k;omega) (by have q:0=np1:=SlOf.len h1.1;omega) (by have:=SlOf.len H2.out.2.2.1.2.1;have:=HW.out.2.2.few;omega)).mono ?_
     rintro e wk ⟨v,rfl,hv,hk2⟩
     refine hK.out _ _ ?_ ?_
     ·exact hk2
     ·exact hv
    case' r2_5=>
     intro us wj hk hp K hK
     try simp only [aK,Act.put,sL] at hK⊢
     obtain ⟨v0,v1,v2,v3,v4,v5⟩:=(H2.out.1.keep hk id).cells6
     obtain ⟨ap4,np4,cp4,gk4,ak4,nk4,ck4,e4,h4⟩:(TV Nil (sumT 1 ⟨[],1⟩ (-1) tX)) (us 29) wj:=hp 4 (by kernel_rfl)
     rw [e4] at hK⊢
     go_simp
     refine (less_any (M:=Old w0) (l:=(sumT 1 ⟨[],1⟩ (-1) tX).parts) (z:=(sumT 1 ⟨[],1⟩ (-1) tX).k) (MB.oldLe (Nat.le_trans hsz hk.size)) (cL.raw h4.1 fun p hp=>by have:=HW.out.1.parts p hp;omega) (h4.2.zat (by have:=HW.out.1.k;omega)) (by have:=SlOf.len h4.1;have:=HW.out.1.few;omega) (by have:=h4.2.len;have:=HW.out.1.k;omega) (by rw [show (⟨(sumT 1 ⟨[],1⟩ (-1) tX).parts,(sumT 1 ⟨[],1⟩ (-1) tX).k⟩:aY)=sumT 1 ⟨[],1⟩ (-1) tX from rfl,HW.out.2.1];exact HW.out.1)).mono ?_
     rintro e wk ⟨v,rfl,hv,hk2⟩
     refine hK.out _ _ ?_ ?_
     ·exact hk2
     ·exact (by rw [show (⟨(sumT 1 ⟨[],1⟩ (-1) tX).parts,(sumT 1 ⟨[],1⟩ (-1) tX).k⟩:aY)=sumT 1 ⟨[],1⟩ (-1) tX from rfl,HW.out.2.1] at hv;exact hv)
    case' rsb2=>exact aC.cons (aC.cons (aC.cons (aC.cons (aC.cons (aC.cons (aC.cons (aC.nil)))))))
    case' rfn2=>
    intro us wz hkz hf
    simp only [aK,Act.put,sL]
    obtain ⟨g0,a0,n0,c0,e0,h0⟩:(ZV Nil 1) (us 25) wz:=hf 0 (by decide) (by decide)
    obtain ⟨ap1,np1,cp1,gk1,ak1,nk1,ck1,e1,h1⟩:(TV Nil ⟨[],1⟩) (us 26) wz:=hf 1 (by decide) (by decide)
    have e2:us 27=_:=hf 2 (by decide) (by decide)
    have e3:us 28=_:=hf 3 (by decide) (by decide)
    obtain ⟨ap4,np4,cp4,gk4,ak4,nk4,ck4,e4,h4⟩:(TV Nil (sumT 1 ⟨[],1⟩ (-1) tX)) (us 29) wz:=hf 4 (by decide) (by decide)
    obtain ⟨gd5,ad5,nd5,cd5,ap5,np5,cp5,gk5,ak5,nk5,ck5,e5,h5⟩:(AV (Old w0) (lessV (sumT 1 ⟨[],1⟩ (-1) tX))) (us 30) wz:=hf 5 (by decide) (by decide)
    clear hf
    simp only [e0,e1,e2,e3,e4,e5]
    clear e0 e1 e2 e3 e4 e5 us
    refine aL (rs:=[6]) (by kernel_rfl) (by simp) ?_
    refine aJ.cons rfl (fun K hK=>?_) aJ.nil
    have rr:=H2.out.2.1.keep hkz id
    obtain ⟨v0,v1,v2,v3,v4,v5⟩:=rr.cells6
    obtain ⟨y0,y1,y2,y3,y4,y5⟩:=rr.marks6
    have HR:=jJ rr
    clear rr
    go_simp
    refine hK.out _ _ (fun _=>trivial) ?_
    clear hK K
    try simp only [Act.put,sL]
    refine aU (by kernel_rfl) ?_ _
    go_wp2_with fail
    have r6:=HR.out.six (.int .i64 (lessV (sumT 1 ⟨[],1⟩ (-1) tX)).kind) (.bool gd5) (.slice ad5 nd5 cd5) (.slice ap5 np5 cp5) (.bool gk5) (.slice ak5 nk5 ck5)
    obtain ⟨x0,x1,x2,x3,x4,x5⟩:=r6.cells6
    rw [HNEG.out]
    exact bodyPost_ret (v:=.agg #[.int .i64 (lessV (sumT 1 ⟨[],1⟩ (-1) tX)).kind,.bool gd5,.slice ad5 nd5 cd5,.slice ap5 np5 cp5,.bool gk5,.slice ak5 nk5 ck5]) (by simp [results,Tryz.results24,go_sem,x0,x1,x2,x3,x4,x5]) rfl ⟨_,rfl,⟨_,_,_,_,_,_,_,_,_,_,_,rfl,h5.out lr1 (fun b hb=>by have:=HA.out.1 b hb;omega) (aA.six _ _ _ _ _ _)⟩,(H2.out.2.2.2.1.trans hkz).own (by omega) (aA.six _ _ _ _ _ _)⟩
   ·have hneg:negV ⟨k,d,⟨l,z⟩⟩=(parted2 dX tX (decide (kX=3))).2:=by rw [HA.out.r6,if_neg (by simp),if_neg k01,if_neg k2,cW HA.out.2.2.2.1]
    have hXt:=HA.out.2.2.1
    have hXd:=HA.out.r4.1
    have hpt:=fun (W:World) (q:aA Nil w2 W)=>parted_any (M:=Old W) (l:=tX.parts) (z:=tX.k) (decide (kX=3)) (MB.old W) ((H2.out.2.2.1.1.zat (by omega)).keepNil q) (cL.raw (H2.out.2.2.1.2.1.keepNil q) fun p hp=>by have:=hXt.parts p hp;omega) ((H2.out.2.2.1.2.2.zat (by have:=hXt.k;omega)).keepNil q) (by have:=SlOf.len H2.out.2.2.1.2.1;have:=hXt.few;omega) (by have:=H2.out.2.2.1.2.2.len;have:=hXt.k;omega) (by rw [show (⟨tX.parts,tX.k⟩:aY)=tX from rfl,cW HA.out.2.2.2.1];exact hXt) hXd
    rw [show (⟨tX.parts,tX.k⟩:aY)=tX from rfl,cW HA.out.2.2.2.1] at hpt
    obtain ⟨q,hq⟩:∃q,parted2 dX tX (decide (kX=3))=q:=⟨_,rfl⟩
    rw [hq] at hneg hpt
    obtain ⟨eq,kq,dq,tq⟩:=q
    have HP:=jJ hpt
    have HNEG:=jJ hneg
    have b0:¬kX=0:=fun h=>k01 (.inl h)
    have b1:¬kX=1:=fun h=>k01 (.inr h)
    have b3:(kX==3)=decide (kX=3):=rfl
    clear hpt hneg hXt hXd hq k01
    generalize decide (kX=3)=no at *
    go_upto_region 11 with (go_at_call 53;refine (HP.out w2 (aA.refl _ _)).mono ?_;rintro e w3 ⟨v,rfl,⟨ge,ae,ne,ce,be,me,de,he,fe,ie,je,rfl,hv⟩,hk3⟩;have r1:=H2.out.2.1.keep hk3 id;have H3:=jJ (aI hv (aI hk3 r1));clear hv hk3 r1)
    have r4:=aF.alloc (w:=w3) (E:=51) (xs:=[.int .i64 kq,.bool ge,.slice ae ne ce,.slice be me de,.bool he,.slice fe ie je])
    change aF (w3.alloc (.cells #[.int .i64 kq,.bool ge,.slice ae ne ce,.slice be me de,.bool he,.slice fe ie je] 51)) _ _ _ at r4
    have k4:aA Nil w3 (w3.alloc (.cells #[.int .i64 kq,.bool ge,.slice ae ne ce,.slice be me de,.bool he,.slice fe ie je] 51)):=kOf
    generalize w3.alloc (.cells #[.int .i64 kq,.bool ge,.slice ae ne ce,.slice be me de,.bool he,.slice fe ie je] 51)=w4 at *
    obtain ⟨v0,v1,v2,v3,v4,v5⟩:=r4.cells6
    have r1:=H3.out.2.2.keep k4 id
    obtain ⟨z0,z1,z2,z3,z4,z5⟩:=r1.cells6
    obtain ⟨y0,y1,y2,y3,y4,y5⟩:=r1.marks6
    have r6:=r1.six (.int .i64 kq) (.bool ge) (.slice ae ne ce) (.slice be me de) (.bool he) (.slice fe ie je)
    obtain ⟨x0,x1,x2,x3,x4,x5⟩:=r6.cells6
    have hlw:w0.heap.size≤w2.heap.size:=hsz
    go_wp2_with fail
    rw [HNEG.out]
    exact bodyPost_ret (v:=.agg #[.int .i64 kq,.bool ge,.slice ae ne ce,.slice be me de,.bool he,.slice fe ie je]) (by simp [results,Tryz.results24,go_sem,x0,x1,x2,x3,x4,x5]) rfl ⟨_,rfl,⟨_,_,_,_,_,_,_,_,_,_,_,rfl,(H3.out.1.keepNil k4).out (Nat.lt_of_lt_of_le lr1 hlw) (fun b hb=>by have:=HA.out.1 b hb;have:=H0.out.1.size;omega) (aA.six _ _ _ _ _ _)⟩,((H2.out.2.2.2.1.trans H3.out.2.1).trans k4).own (by omega) (aA.six _ _ _ _ _ _)⟩
 ·have hneg:negV ⟨k,d,⟨l,z⟩⟩=⟨0,0,bX⟩:=by rw [HA.out.r6,if_pos he]
  have HNEG:=jJ hneg
  clear hneg
  obtain ⟨v0,v1,v2,v3,v4,v5⟩:=H2.out.2.1.cells6
  obtain ⟨y0,y1,y2,y3,y4,y5⟩:=H2.out.2.1.marks6
  have hne:(er==0)=false:=by simpa using he
  clear u0 u1 u2 u3 u4 u5 hsz
  go_wp2_with fail
  have r6:=H2.out.2.1.six (.int .i64 0) (.bool false) (.slice none 0 0) (.slice none 0 0) (.bool false) (.slice none 0 0)
  obtain ⟨x0,x1,x2,x3,x4,x5⟩:=r6.cells6
  rw [HNEG.out]
  exact bodyPost_ret (v:=.agg #[.int .i64 0,.bool false,.slice none 0 0,.slice none 0 0,.bool false,.slice none 0 0]) (by simp [results,Tryz.results24,go_sem,x0,x1,x2,x3,x4,x5]) rfl ⟨_,rfl,⟨_,_,_,_,_,_,_,_,_,_,_,rfl,AtomAt.zero⟩,H2.out.2.2.2.1.own (by omega) (aA.six _ _ _ _ _ _)⟩
end Go.Proofs.YthjlmocbeoimaaaGreatDoor
