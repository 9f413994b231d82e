/- What atom.coefs and atom.mapped do. Conditions: what is given reads; room. -/
import Derived.Test.YthjlmocbeoimaaaGreatDoorLAtomsA
set_option linter.unusedSimpArgs false
set_option linter.unusedVariables false
set_option maxRecDepth 100000
set_option maxHeartbeats 4000000
namespace Go.Rid
open Go.RowKit
theorem aA.newer {w w0 w':World} {M:Nat→Prop} (h:aA Nil w w0) (k:aA M w0 w') (hM:∀b,M b→w.heap.size≤b):aA Nil w w':=h.trans' k fun b hb=>.inr (hM b hb)
theorem mapL_take_succ (f:Int→Int) {l:aX} {k:Nat} (h:k<l.length):mapL f (l.take (k+1))=mapL f (l.take k)++[((pth l k).1,f (pth l k).2)]:=by
 rw [List.take_succ_eq_append_getElem h,pth_lt h];simp only [mapL,List.map_append,List.map_cons,List.map_nil]
theorem cL.raw {M1 M2:Nat→Prop} {w:World} {a:Option Addr} {n c:Nat} {l:aX} (h:SlOf M1 w 3 (cY M2 w) (0,0) a n c l) (hl:∀p∈l,nlen p.2.natAbs≤1073741824):RParts M1 M2 w a n c l:=by
 obtain ⟨hlen,f,hs,hr⟩:=h
 refine ⟨hlen,f,hs,fun i hi=>⟨(hr i hi).1,?_⟩⟩
 obtain ⟨g,a',n',c',e,hz,h1,h2⟩:=(hr i hi).2
 have hm:=hl (l.getD i (0,0)) (by simp [List.getD,show i<l.length by omega])
 have hn:=hz.len
 exact⟨g,a',n',c',e,hz.at' (by omega),by omega,h1,h2⟩
end Go.Rid
namespace Go.Proofs.YthjlmocbeoimaaaGreatDoor
open Go.RowKit Go.Rid
theorem info_Int:(Tryz.prog.info? 46).map (fun i=>(i.zero,i.size,i.bytes))=some (some (.agg #[.bool false,.slice none 0 0]),2,32):=by kernel_rfl
theorem coefs_at {M1 M2:Nat→Prop} {wb w:World} {ap ak:Option Addr} {np cp nk ck:Nat} {gk:Bool} {l:aX} (hb:aA Nil wb w) (h:cL M1 M2 wb ap np cp l) (hn:np≤16777216) :
  Calls Tryz.prog 78 #[.agg #[.slice ap np cp,.bool gk,.slice ak nk ck]] w fun e w'=>Gives Nil (OwnV0 (RZ Nil wb) 0 46 2 w.heap.size np (l.map (·.2))) w e w':=by
 obtain ⟨i1,hi1⟩:=info_parts info_Int
 have HI:=jJ hi1
 have hlen:=SlOf.len h
 have hcap:=SlOf.cap h
 have hle:=SlOf.le h
 have HA:=jJ (aI h hlen)
 have HB:=jJ hb
 clear h hlen hi1 hb
 go_enter Tryz.func78,Tryz.ntmps78
 go_upto_region 1 with (fail)
 have r0:=aF.alloc (w:=w) (E:=48) (xs:=[.slice ap np cp,.bool gk,.slice ak nk ck])
 change aF (w.alloc (.cells #[.slice ap np cp,.bool gk,.slice ak nk ck] 48)) _ _ _ at r0
 have k0:aA Nil w (w.alloc (.cells #[.slice ap np cp,.bool gk,.slice ak nk ck] 48)):=kOf
 generalize w.alloc (.cells #[.slice ap np cp,.bool gk,.slice ak nk ck] 48)=w0 at *
 obtain ⟨d0,d1,d2⟩:=r0.three
 have H0:=jJ k0
 clear k0 r0
 go_wp2_with fail
 go_loopw [3,9] (fun v iv wr=>∃(k:Nat) (va:Option Addr) (vc:Nat) (els:List (List Value)),k≤np∧iv=.int .i64 (k:Int)∧v=.slice va k vc∧els.length=k∧aP wr w.heap.size 46 2 (.slice va k vc) els∧(∀i,i<k→RZ Nil wb (els.getD i []) ((l.map (·.2)).getD i 0))∧aA Nil w wr∧(k=0→va=none)) (fun _ iv _=>np-(intOf iv).toNat)
 case atStart=>exact⟨0,none,0,[],Nat.zero_le _,rfl,rfl,rfl,aP.nil _ _ _ _,(fun i hi=>by omega),H0.out,fun _=>rfl⟩
 case round=>
  obtain ⟨k,va,vc,els,hk,rfl,rfl,hel,hown,hr,hkr,hz0⟩:=hrel
  by_cases hlt:k<np
  ·have j0:(0:Int)≤(k:Int):=by omega
   have j1:(k:Int)<(np:Int):=by omega
   obtain ⟨b,off,g,a',n',c',hae,hb,-,x0,x1,x2,hzz,i1',i2'⟩:=(HA.out.1.keepNil (HB.out.trans hkr)).at hlt
   obtain ⟨b',off',g',a'',n'',c'',hae',hb',-,x0',x1',x2',hzz',-,-⟩:=HA.out.1.at hlt
   rw [hae] at hae'
   simp only [Option.some.injEq,Addr.mk.injEq,and_true] at hae'
   obtain ⟨rfl,rfl⟩:=hae'
   have e1:=((HB.out.trans hkr).cellE hb' id x1').symm.trans x1
   have e2:=((HB.out.trans hkr).cellE hb' id x2').symm.trans x2
   simp only [Option.some.injEq,Value.bool.injEq,Value.slice.injEq] at e1 e2
   obtain ⟨rfl,rfl,rfl⟩:=e2
   subst e1
   subst hae
   have hget:(l.map (·.2)).getD k 0=(pth l k).2:=by
    have:k<l.length:=by have:=HA.out.2;omega
    simp [List.getD,pth,this]
   have hws:w.heap.size≤wr.heap.size:=hkr.size
   have HC:=jJ (aI hel (aI hown (aI hr (aI hkr (aI hzz'.toNil hget)))))
   clear hel hown hr hkr hz0 hzz hzz' hget x0' x1' x2'
   generalize (pth l k).1=v at *
   go_wp2_with (at_builtin;refine cI _ rfl (.tmp 13) (.tmp 16) 78 rfl w.heap.size 46 i1 (.agg #[.bool false,.slice none 0 0]) 2 32 Tryz.underlying78 HI.out.1 HI.out.2.1 HI.out.2.2.1 HI.out.2.2.2 rfl (by decide) (.slice va k vc) els rfl ((HC.out.2.1.keepNil (w':=wr.alloc (.cells #[.int .i64 v,.bool g',.slice a'' n'' c''] 80)) kOf).keepNil kOf) ⟨wr.heap.size+1,0,none⟩ 1 1 [[.bool g',.slice a'' n'' c'']] rfl rfl (by simp) (alloc_news1 _ _ _ _) (by simp [Value.oneCell']) (by rw [HC.out.1];omega) (by rw [HC.out.1];omega) (by simp;omega) ?_;intro v' w2 ho hk2 hf2 _;obtain ⟨a7,c7,rfl⟩:=ho.isSlice;have e7:(els++[[Value.bool g',.slice a'' n'' c'']]).length=k+1:=(by rw [List.length_append,HC.out.1];rfl);rw [e7] at ho⊢;have HO:=jJ (aI ho hk2);clear ho hk2 hf2 e7)
   go_roundw
   case rel=>
    refine ⟨k+1,a7,c7,_,by omega,by go_num,rfl,by rw [List.length_append,HC.out.1];rfl,HO.out.1,fun i hi=>?_,((HC.out.2.2.2.1.trans (c:=wr.alloc (.cells #[.int .i64 v,.bool g',.slice a'' n'' c''] 80)) kOf).trans kOf).newer HO.out.2 (fun b hb=>(HC.out.2.1.lt b hb).1),fun h=>by omega⟩
    rcases Nat.lt_or_ge i k with hik|hik
    ·rw [getD_snoc_lt _ _ _ (by rw [HC.out.1];exact hik)]
     exact HC.out.2.2.1 i hik
    ·obtain rfl:i=k:=by omega
     have e8:(els++[[Value.bool g',.slice a'' n'' c'']]).getD els.length []=[.bool g',.slice a'' n'' c'']:=getD_snoc_eq _ _ _
     rw [HC.out.1] at e8
     rw [e8,HC.out.r5]
     exact⟨_,_,_,_,rfl,HC.out.r4.1⟩
   case measure=>simp [intOf];omega
  ·have ekn:np=k:=by omega
   subst ekn
   have HC:=jJ (aI hel (aI hown (aI hr (aI hkr hz0))))
   clear hel hown hr hkr hz0
   go_wp2_with fail
   go_ret
   exact⟨_,rfl,⟨va,vc,els,rfl,HC.out.2.1,HC.out.1,HC.out.2.2.1,HC.out.r4⟩,HC.out.2.2.2.1⟩
theorem coefs_any {M1 M2:Nat→Prop} {w:World} {ap ak:Option Addr} {np cp nk ck:Nat} {gk:Bool} {l:aX} (h:cL M1 M2 w ap np cp l) (hn:np≤16777216) :
  Calls Tryz.prog 78 #[.agg #[.slice ap np cp,.bool gk,.slice ak nk ck]] w fun e w'=>Gives Nil (OwnV (RZ Nil w) 0 46 2 w.heap.size np (l.map (·.2))) w e w':=(coefs_at (aA.refl _ _) h hn).mono fun e w' ⟨v,e1,⟨va,vc,els,q1,q2,q3,q4,_⟩,k⟩=>⟨v,e1,⟨va,vc,els,q1,q2,q3,q4⟩,k⟩
theorem mapped_any {M:Nat→Prop} {w:World} {ap ak:Option Addr} {np cp nk ck fc bc fk bk:Nat} {gk:Bool} {T:aY} {c f:Int→Int} (hM:MB M w) (h:TermAt Nil w ap np cp gk ak nk ck T) (hc:Clo Tryz.prog w fc bc c 4294967296) (hk:Clo Tryz.prog w fk bk f 4294967296) (hn:np≤16777216) (hp:∀p∈T.parts,nlen p.2.natAbs≤1073741824∧nlen (c p.2).natAbs≤1073741824) (hz:nlen T.k.natAbs≤1073741824∧nlen (f T.k).natAbs≤1073741824) :
  Calls Tryz.prog 79 #[.agg #[.slice ap np cp,.bool gk,.slice ak nk ck],.func (.func fc) #[] #[.pointer (some ⟨bc,0,none⟩)],.func (.func fk) #[] #[.pointer (some ⟨bk,0,none⟩)]] w fun e w'=>Gives Nil (TV M (mappedV T c f)) w e w':=by
 obtain ⟨i1,hi1⟩:=info_parts info_Part
 have HI:=jJ hi1
 have hlen:=SlOf.len h.1
 have hcap:=SlOf.cap h.1
 have hle:=SlOf.le h.1
 have hegc:=hc.enters
 have hegk:=hk.enters
 have HA:=jJ (aI h (aI hc (aI hk (aI hp (aI hz hlen)))))
 have HM:=jJ hM
 clear h hc hk hp hz hlen hM hi1
 go_enter Tryz.func79,Tryz.ntmps79
 go_upto_region 1 with (fail)
 have r0:=(aF.alloc (w:=w) (E:=48) (xs:=[.slice ap np cp,.bool gk,.slice ak nk ck])).keep (M:=Nil) (w':=((w.alloc (.cells #[.slice ap np cp,.bool gk,.slice ak nk ck] 48)).alloc (.cells #[.slice none 0 0,.bool false,.slice none 0 0] 48))) kOf id
 have r1:=aF.alloc (w:=(w.alloc (.cells #[.slice ap np cp,.bool gk,.slice ak nk ck] 48))) (E:=48) (xs:=[.slice none 0 0,.bool false,.slice none 0 0])
 change aF ((w.alloc (.cells #[.slice ap np cp,.bool gk,.slice ak nk ck] 48)).alloc (.cells #[.slice none 0 0,.bool false,.slice none 0 0] 48)) _ _ _ at r1
 rw [show (w.alloc (.cells #[.slice ap np cp,.bool gk,.slice ak nk ck] 48)).heap.size=w.heap.size+1 by simp] at r1
 have k0:aA Nil w ((w.alloc (.cells #[.slice ap np cp,.bool gk,.slice ak nk ck] 48)).alloc (.cells #[.slice none 0 0,.bool false,.slice none 0 0] 48)):=kOf
 generalize ((w.alloc (.cells #[.slice ap np cp,.bool gk,.slice ak nk ck] 48)).alloc (.cells #[.slice none 0 0,.bool false,.slice none 0 0] 48))=w0 at *
 obtain ⟨d0,d1,d2⟩:=r0.three
 have lr1:=r1.lt
 have H0:=jJ (aI k0 (aI r0 r1))
 clear k0 r0 r1
 go_upto_region 2 with (refine (HA.out.2.2.1.call (Old w0) _ gk ak nk ck T.k H0.out.1 (MB.old w0) ((HA.out.1.2.zat (by have:=HA.out.r4.1.1;omega)).keepNil H0.out.1) (by have h1:=HA.out.r4.1.1;have h2:=HA.out.1.2.len;omega)).mono ?_;rintro e w1 ⟨g1,a1,n1,m1,rfl,h1,hk1⟩;have H1:=jJ (aI h1 hk1);clear h1 hk1)
 have rt:=aF.alloc (w:=w1) (E:=48) (xs:=[.slice none 0 0,.bool g1,.slice a1 n1 m1])
 change aF (w1.alloc (.cells #[.slice none 0 0,.bool g1,.slice a1 n1 m1] 48)) _ _ _ at rt
 have k2:aA Nil w1 (w1.alloc (.cells #[.slice none 0 0,.bool g1,.slice a1 n1 m1] 48)):=kOf
 generalize w1.alloc (.cells #[.slice none 0 0,.bool g1,.slice a1 n1 m1] 48)=w2 at *
 have lt2:=rt.lt
 obtain ⟨e0,e1,e2⟩:=((H0.out.2.1.keep H1.out.2 id).keep k2 id).three
 have H2:=jJ (aI rt k2)
 clear rt k2 d0 d1 d2
 go_wp2_with fail
 clear e0 e1 e2
 go_loopw [18] (fun iv wr=>∃(k:Nat) (va:Option Addr) (vc:Nat) (els:List (List Value)),k≤np∧iv=.int .i64 (k:Int)∧els.length=k∧aF wr w1.heap.size 48 [.slice va k vc,.bool g1,.slice a1 n1 m1]∧Grown cY (0,0) 80 3 (Old w2) wr w2.heap.size (.slice va k vc) els (mapL c (T.parts.take k))∧w2.heap.size≤wr.heap.size∧aA Nil w1 wr) (fun iv _=>np-(intOf iv).toNat)
 case atStart=>exact⟨0,none,0,[],Nat.zero_le _,rfl,rfl,H2.out.1,Grown.nil,Nat.le_refl _,H2.out.2⟩
 case round=>
  obtain ⟨k,va,vc,els,hk,rfl,hel,hrow,hg,hsz,hkr⟩:=hrel
  by_cases hlt:k<np
  ·have j0:(0:Int)≤(k:Int):=by omega
   have j1:(k:Int)<(np:Int):=by omega
   obtain ⟨b,off,g,a',n',c',hae,hb,-,x0,x1,x2,hzz,i1',i2'⟩:=(HA.out.1.1.keepNil (H0.out.1.trans (H1.out.2.trans hkr))).at hlt
   subst hae
   have hmem:=HA.out.2.2.2.1 (pth T.parts k) (by rw [pth_lt (by have:=HA.out.r5;omega)];exact List.getElem_mem _)
   have hs:=mapL_take_succ c (l:=T.parts) (k:=k) (by have:=HA.out.r5;omega)
   obtain ⟨v,hv⟩:∃v,v=(pth T.parts k).1:=⟨_,rfl⟩
   rw [←hv] at x0
   have HC:=jJ (aI hel (aI hrow (aI hg (aI hsz (aI hkr (aI hzz (aI hmem (aI hs (aI hv (aI i1' i2'))))))))))
   clear hel hrow hg hsz hkr hzz hmem hs hv i1' i2'
   have hkb:aA Nil wr (wr.alloc (.cells #[.int .i64 v,.bool g,.slice a' n' c'] 80)):=kOf
   have rp:=aF.alloc (w:=wr) (E:=80) (xs:=[.int .i64 v,.bool g,.slice a' n' c'])
   change aF (wr.alloc (.cells #[.int .i64 v,.bool g,.slice a' n' c'] 80)) _ _ _ at rp
   go_upto_region 5 with (fail)
   generalize wr.alloc (.cells #[.int .i64 v,.bool g,.slice a' n' c'] 80)=wb at *
   have HD:=jJ (aI rp hkb)
   clear rp hkb x0 x1 x2
   have hcl:=HA.out.2.1.keepNil (H0.out.1.trans (H1.out.2.trans (HC.out.r4.1.trans HD.out.2)))
   have HCL:=jJ hcl
   clear hcl
   refine aS [10,11,12] [22,23,24,25,26,27,28,29,30,31,32,33,1045] [22,23,24,25,26,27,28,29,30,31] [Un (LitV ?v1_0),Un (LitV ?v1_1),Un (LitV ?v1_2),Un (LitV ?v1_3),Un (LitV ?v1_4),Un (LitV ?v1_5),Un (LitV ?v1_6),Un (ZV (And' (Old w2) (.slice va k vc)) (c (pth T.parts k).2)),⟨[3,7],fun vs=>LitV (buildV [(vs.getD 0 undef),(vs.getD 1 undef)])⟩,⟨[8],fun vs=>OneRow ?b1_9 ?t1_9 (vs.getD 0 undef)⟩,nothing,nothing,nothing] (by kernel_rfl) (by kernel_rfl) ?rst1 ?rsb1 ?rfn1
   case' rst1=>
    show aB _ _ _ _ _ _ _ _ _ 13
    refine (aB.skip (n:=12) (by decide) (aB.skip (n:=11) (by decide) (aB.skip (n:=10) (by decide) (aB.succ (n:=9) rfl ?r1_9 (aB.succ (n:=8) rfl ?r1_8 (aB.succ (n:=7) rfl ?r1_7 (aB.succ (n:=6) rfl ?r1_6 (aB.succ (n:=5) rfl ?r1_5 (aB.succ (n:=4) rfl ?r1_4 (aB.succ (n:=3) rfl ?r1_3 (aB.succ (n:=2) rfl ?r1_2 (aB.succ (n:=1) rfl ?r1_1 (aB.succ (n:=0) rfl ?r1_0 aB.zero)))))))))))))
   case' r1_0|r1_2|r1_4|r1_5=>
    intro us wj hk hp K hK
    try simp only [aK,Act.put,sL] at hK⊢
    obtain ⟨d0,d1,d2⟩:=(HD.out.1.keep hk id).three
    obtain ⟨e0',e1',e2'⟩:=((HC.out.2.1.keep HD.out.2 id).keep hk id).three
    go_simp
    refine hK.out _ _ ?_ ?_
    ·exact aA.refl _ _
    ·exact rfl
   case' r1_1=>
    intro us wj hk hp K hK
    try simp only [aK,Act.put,sL] at hK⊢
    obtain ⟨d0,d1,d2⟩:=(HD.out.1.keep hk id).three
    obtain ⟨e0',e1',e2'⟩:=((HC.out.2.1.keep HD.out.2 id).keep hk id).three
    have e0:us 22=_:=hp 0 (by kernel_rfl)
    rw [e0] at hK⊢
    go_simp
    refine hK.out _ _ ?_ ?_
    ·exact aA.refl _ _
    ·exact rfl
   case' r1_3=>
    intro us wj hk hp K hK
    try simp only [aK,Act.put,sL] at hK⊢
    obtain ⟨d0,d1,d2⟩:=(HD.out.1.keep hk id).three
    obtain ⟨e0',e1',e2'⟩:=((HC.out.2.1.keep HD.out.2 id).keep hk id).three
    have e2:us 24=_:=hp 2 (by kernel_rfl)
    rw [e2] at hK⊢
    go_simp
    refine hK.out _ _ ?_ ?_
    ·exact aA.refl _ _
    ·exact rfl
   case' r1_6=>
    intro us wj hk hp K hK
    try simp only [aK,Act.put,sL] at hK⊢
    obtain ⟨d0,d1,d2⟩:=(HD.out.1.keep hk id).three
    obtain ⟨e0',e1',e2'⟩:=((HC.out.2.1.keep HD.out.2 id).keep hk id).three
    have e5:us 27=_:=hp 5 (by kernel_rfl)
    rw [e5] at hK⊢
    go_simp
    refine hK.out _ _ ?_ ?_
    ·exact aA.refl _ _
    ·exact rfl
   case' r1_7=>
    intro us wj hk hp K hK
    try simp only [aK,Act.put,sL] at hK⊢
    obtain ⟨d0,d1,d2⟩:=(HD.out.1.keep hk id).three
    obtain ⟨e0',e1',e2'⟩:=((HC.out.2.1.keep HD.out.2 id).keep hk id).three
    have e4:us 26=_:=hp 4 (by kernel_rfl)
    have e6:us 28=_:=hp 6 (by kernel_rfl)
    rw [e4,e6] at hK⊢
    go_simp
    refine (HCL.out.call (And' (Old w2) (.slice va k vc)) _ g a' n' c' (pth T.parts k).2 hk (MB.and (MB.oldLe (Nat.le_trans HC.out.2.2.2.1 (HD.out.2.trans hk).size)) HC.out.2.2.1.own (HD.out.2.trans hk).size) ((HC.out.r5.1.zat (by have:=HC.out.r6.1.1;omega)).keepNil (HD.out.2.trans hk)) (by have h1:=HC.out.r6.1.1;have h2:=HC.out.r5.1.len;omega)).mono ?_
    rintro e wk ⟨g,a,n,c,rfl,h,hk2⟩
    refine hK.out _ _ ?_ ?_
    ·exact hk2
    ·exact⟨g,a,n,c,rfl,h⟩
   case' r1_8=>
    intro us wj hk hp K hK
    try simp only [aK,Act.put,sL] at hK⊢
    obtain ⟨d0,d1,d2⟩:=(HD.out.1.keep hk id).three
    obtain ⟨e0',e1',e2'⟩:=((HC.out.2.1.keep HD.out.2 id).keep hk id).three
    have e3:us 25=_:=hp 3 (by kernel_rfl)
    obtain ⟨g7,a7,n7,c7,e7,h7⟩:(ZV (And' (Old w2) (.slice va k vc)) (c (pth T.parts k).2)) (us 29) wj:=hp 7 (by kernel_rfl)
    rw [e3,e7] at hK⊢
    go_simp
    refine hK.out _ _ ?_ ?_
    ·exact aA.refl _ _
    ·show _=buildV [us 25,us 29]
     rw [e3,e7];exact rfl
   case' r1_9=>
    intro us wj hk hp K hK
    try simp only [aK,Act.put,sL] at hK⊢
    obtain ⟨d0,d1,d2⟩:=(HD.out.1.keep hk id).three
    obtain ⟨e0',e1',e2'⟩:=((HC.out.2.1.keep HD.out.2 id).keep hk id).three
    have e3:us 25=_:=hp 3 (by kernel_rfl)
    obtain ⟨g7,a7,n7,c7,e7,h7⟩:(ZV (And' (Old w2) (.slice va k vc)) (c (pth T.parts k).2)) (us 29) wj:=hp 7 (by kernel_rfl)
    have e8:us 30=buildV [us 25,us 29]:=hp 8 (by kernel_rfl)
    simp only [e3,e7,e8,buildV,cellsOf,List.flatMap_cons,List.flatMap_nil,List.append_nil,List.cons_append,List.nil_append] at hK⊢
    go_simp
    refine hK.out _ _ ?_ ?_
    ·exact (aA.refl _ _).alloc _
    ·refine ⟨wj.heap.size,rfl,?_,?_⟩
     ·show aF _ _ _ (cellsOf (us 30))
      rw [e8,e7,e3]
      exact aF.alloc
     ·exact hk.size
   case' rsb1=>exact aC.cons (aC.cons (aC.cons (aC.cons (aC.cons (aC.cons (aC.cons (aC.cons (aC.cons (aC.cons (aC.cons (aC.cons (aC.cons (aC.nil)))))))))))))
   case' rfn1=>
   intro us wz hkz hf
   simp only [aK,Act.put,sL]
   have e0:us 22=_:=hf 0 (by decide) (by decide)
   have e1:us 23=_:=hf 1 (by decide) (by decide)
   have e2:us 24=_:=hf 2 (by decide) (by decide)
   have e3:us 25=_:=hf 3 (by decide) (by decide)
   have e4:us 26=_:=hf 4 (by decide) (by decide)
   have e5:us 27=_:=hf 5 (by decide) (by decide)
   have e6:us 28=_:=hf 6 (by decide) (by decide)
   obtain ⟨g7,a7,n7,c7,e7,h7⟩:(ZV (And' (Old w2) (.slice va k vc)) (c (pth T.parts k).2)) (us 29) wz:=hf 7 (by decide) (by decide)
   have e8:us 30=buildV [us 25,us 29]:=hf 8 (by decide) (by decide)
   rw [e3,e7] at e8;simp only [buildV,cellsOf,List.flatMap_cons,List.flatMap_nil,List.append_nil,List.cons_append,List.nil_append] at e8
   obtain ⟨b9,e9,h9,q9⟩:(OneRow ?b1_9 ?t1_9 (us 30)) (us 31) wz:=hf 9 (by decide) (by decide)
   clear hf
   simp only [e0,e1,e2,e3,e4,e5,e6,e7,e8,e9,cellsOf] at h9⊢
   clear e0 e1 e2 e3 e4 e5 e6 e7 e8 e9 us
   refine aL (rs:=[10]) (by kernel_rfl) (by simp) ?_
   refine aJ.cons rfl (fun K hK=>?_) aJ.nil
   rw [if_pos (by rfl)]
   refine oper_append_els wz (.tmp 23) (.tmp 31) 43 rfl w2.heap.size 80 i1 (.agg #[.int .i64 0,.bool false,.slice none 0 0]) 3 40 Tryz.underlying43 HI.out.1 HI.out.2.1 HI.out.2.2.1 HI.out.2.2.2 rfl (by decide) (.slice va k vc) els rfl (HC.out.2.2.1.own.keepNil (HD.out.2.trans hkz)) ⟨b9,0,none⟩ 1 1 [[.int .i64 v,.bool g7,.slice a7 n7 c7]] rfl rfl (by simp) (row_news h9) (by simp [Value.oneCell']) (by have:=HC.out.1;omega) (by have:=HC.out.1;omega) (Nat.le_trans HC.out.2.2.2.1 (HD.out.2.trans hkz).size) (fun v' w9 ho hk9 hf9=>?_)
   obtain ⟨a8,c8,rfl⟩:=ho.isSlice
   have e8:(els++[[Value.int .i64 v,.bool g7,.slice a7 n7 c7]]).length=k+1:=(by rw [List.length_append,HC.out.1];rfl)
   rw [e8] at ho hf9⊢
   have r9:=((HC.out.2.1.keep HD.out.2 id).keep hkz id).keep hk9 (fun hm=>by have:=(HC.out.2.2.1.own.lt _ hm).1;omega)
   obtain ⟨y0,y1,y2⟩:=r9.three
   obtain ⟨y3,y4,y5⟩:=r9.marks3
   refine hK.out _ _ (fun _=>trivial) ?_
   clear hK K
   try simp only [Act.put,sL]
   refine aL (rs:=[11]) (by kernel_rfl) (by simp) ?_
   refine aJ.cons rfl (fun K hK=>?_) aJ.nil
   go_simp
   refine hK.out _ _ (fun _=>trivial) ?_
   clear hK K
   try simp only [Act.put,sL]
   refine aL (rs:=[12]) (by kernel_rfl) (by simp) ?_
   refine aJ.cons rfl (fun K hK=>?_) aJ.nil
   go_simp
   refine hK.out _ _ (fun _=>trivial) ?_
   clear hK K
   try simp only [Act.put,sL]
   refine aU (by kernel_rfl) ?_ _
   skip
   have hg9:=Grown.snoc cY.moves (HC.out.2.2.1.keepNil cY.moves (HD.out.2.trans hkz)) (x:=(v,c (pth T.parts k).2)) ⟨g7,a7,n7,c7,rfl,h7,by rw [HC.out.r8.1];exact HC.out.r9.1,by rw [HC.out.r8.1];exact HC.out.r10⟩ ho hk9 hf9
   have ks9:=(aA.refl (One w1.heap.size) w9).set1 0 (.slice a8 (k+1) c8)
   have hg10:=hg9.keep cY.moves ks9 (fun b hb (hm:b=w1.heap.size)=>by have:=(ho.lt b hb).1;omega) (fun b _ (hm:b=w1.heap.size)=>by show b<w2.heap.size;omega)
   have kk9:aA Nil w1 w9:=(HC.out.r4.1.trans (HD.out.2.trans hkz)).newer hk9 (fun b hb=>by have:=(HC.out.2.2.1.own.lt b hb).1;omega)
   have hsz9:w2.heap.size≤w9.heap.size:=Nat.le_trans HC.out.2.2.2.1 (Nat.le_trans (HD.out.2.trans hkz).size hk9.size)
   have HE:=jJ (aI hg10 (aI (r9.set 0 (.slice a8 (k+1) c8)) (aI (kk9.own (Nat.le_refl _) ks9) (aI hsz9 e8))))
   clear hg9 hg10 ks9 kk9 hsz9 e8 ho hk9 hf9 r9 h7 h9 hkz y0 y1 y2 y3 y4 y5
   go_wp2_with fail
   go_roundw
   case rel=>exact⟨k+1,a8,c8,_,by omega,by go_num,HE.out.r4,HE.out.2.1,by rw [HC.out.r7.1,←HC.out.r8.1];exact HE.out.1,by have:=HE.out.2.2.2.1;simpa [World.setCell] using this,HE.out.2.2.1⟩
   case measure=>simp [intOf];omega
  ·have ekn:np=k:=by omega
   subst ekn
   rw [List.take_of_length_le (by have:=HA.out.r5;omega)] at hg
   obtain ⟨a5,c5,hv,hL⟩:=hg.sl cY.moves (fun b hb=>hb)
   rw [hel] at hv hL
   cases hv
   obtain ⟨y0,y1,y2⟩:=hrow.three
   have hmm:∀p∈mapL c T.parts,nlen p.2.natAbs≤1073741824:=fun p hp=>by
    obtain ⟨q,hq,rfl⟩:=List.mem_map.1 hp
    exact (HA.out.2.2.2.1 q hq).2
   have hRP:=cL.raw (M1:=Old w2) hL hmm
   have hZK:ZAt Nil wr g1 a1 n1 m1 (f T.k):=(H1.out.1.zat (by have:=HA.out.r4.1.2;omega)).keepNil hkr
   have hn1:n1≤1073741824:=by have h1:=H1.out.1.len;have h2:=HA.out.r4.1.2;omega
   have HC:=jJ (aI hRP (aI hZK (aI hkr (aI hn1 ((H0.out.2.2.keep H1.out.2 id).keep hkr id)))))
   clear hg hL hrow hkr hRP hZK hn1 hmm hel
   go_wp2_with (go_at_call 75;refine (tnorm_any (M:=Old w0) (MB.oldLe (Nat.le_trans H1.out.2.size HC.out.2.2.1.size)) HC.out.1 HC.out.2.1 hn HC.out.2.2.2.1).mono ?_;rintro e w5 ⟨v,rfl,⟨bp,mp,dp,gb,ab,nb,cb,rfl,ht⟩,hk5⟩;have r5:=HC.out.r4.keep hk5 id;obtain ⟨z0,z1,z2⟩:=r5.three;obtain ⟨z3,z4,z5⟩:=r5.marks3;have H5:=jJ (aI ht (aI hk5 r5));clear ht hk5 r5)
   have r6:=H5.out.2.2.triple (.slice bp mp dp) (.bool gb) (.slice ab nb cb)
   obtain ⟨x0,x1,x2⟩:=r6.three
   exact bodyPost_ret (v:=.agg #[.slice bp mp dp,.bool gb,.slice ab nb cb]) (by simp [results,Tryz.results79,go_sem,x0,x1,x2]) rfl ⟨_,rfl,⟨_,_,_,_,_,_,_,rfl,H5.out.1.out lr1 (fun b hb=>by have:=HM.out b hb;omega) (aA.triple _ _ _)⟩,(H0.out.1.trans (H1.out.2.trans (HC.out.2.2.1.trans H5.out.2.1))).own (by omega) (aA.triple _ _ _)⟩
end Go.Proofs.YthjlmocbeoimaaaGreatDoor
