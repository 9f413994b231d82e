/- What term.sum does: so many times one term and so many times another one, in the one form. -/
import Derived.Test.YthjlmocbeoimaaaGreatDoorMTermGath
import Derived.Test.YthjlmocbeoimaaaGreatDoorMMuls
set_option linter.unusedSimpArgs false
set_option linter.unusedVariables false
set_option maxRecDepth 100000
set_option maxHeartbeats 4000000
namespace Go.Rid
open Go.RowKit
variable {w:World} {M:Nat→Prop} {l:aX} {a:Option Addr} {x v:Int} {P:Program} {kt:TypeId} {b L i:Nat}
def sumT (x:Int) (a:bB) (y:Int) (b:bB):bB:=⟨neatL (mulL x a.parts++mulL y b.parts),x*a.k+y*b.k⟩
theorem coefL_room (h:∀p∈l,nlen p.2.natAbs≤L) (hx:nlen x.natAbs≤L) (hl:l.length≤16777216) (v:Int):nlen (x*cA l v).natAbs≤2*L+1:=by
 have h1:∀p∈l,p.2.natAbs≤Bs ^ L:=fun p hp=>Nat.le_of_lt (cZ1 (lt_pow_nlen _) (Nat.pow_le_pow_right Bs_pos (h p hp)));have h2:=coefL_abs l h1 v;have h3:x.natAbs<Bs ^ L:=cZ1 (lt_pow_nlen _) (Nat.pow_le_pow_right Bs_pos hx);refine cZ ?_;rw [Int.natAbs_mul]
 calc x.natAbs*(cA l v).natAbs≤x.natAbs*(l.length*Bs ^ L):=Nat.mul_le_mul_left _ h2
  _≤x.natAbs*(16777216*Bs ^ L):=Nat.mul_le_mul_left _ (Nat.mul_le_mul_right _ hl)
  _<Bs ^ L*(Bs*Bs ^ L):=by
   refine Nat.lt_of_le_of_lt (Nat.mul_le_mul_left _ (Nat.mul_le_mul_right _ (show 16777216≤Bs by decide))) ?_;exact Nat.mul_lt_mul_of_pos_right h3 (Nat.mul_pos Bs_pos (Nat.pow_pos Bs_pos))
  _=Bs ^ (2*L+1):=by rw [←Nat.mul_assoc,Nat.mul_comm _ Bs,Nat.mul_assoc,←Nat.pow_add,Nat.mul_comm Bs,←Nat.pow_succ];congr 1;omega
theorem coefL_take_succ (l:aX) (h:i<l.length) (v:Int):cA (l.take (i+1)) v=cA (l.take i) v+(if (pth l i).1=v then (pth l i).2 else 0):=by
 rw [List.take_succ_eq_append_getElem h,coefL_snoc,pth_lt h]
theorem coefL_i64 (h:∀p∈l,I64' p.1) (hv:cA l v≠0):I64' v:=by
 obtain ⟨p,hp,rfl⟩:=coefL_mem hv;exact h p hp
theorem CMap.congr {m:Nat} {C C':Int→Int} (h:CMap P kt M w b m C) (e:∀v,C v=C' v):CMap P kt M w b m C':=by
 obtain rfl:C=C':=funext e;exact h
theorem MB.oldLe {x:World} (h:x.heap.size≤w.heap.size):MB (Old x) w:=fun _ hb=>cZ1 hb h
theorem RParts.mem {M':Nat→Prop} {n c:Nat} (h:RParts M' M w a n c l):∀p∈l,nlen p.2.natAbs≤1073741824∧I64' p.1:=fun p hp=>by
 obtain ⟨i,hi,rfl⟩:=List.mem_iff_getElem.1 hp;obtain ⟨_,_,g,a',n',c',_,_,_,_,_,_,hz,hn,h1,h2⟩:=h.at (i:=i) (by have:=SlOf.len h;omega);rw [pth_lt hi] at hz h1 h2;exact⟨bZ1 hz.nlen_le hn,h1,h2⟩
theorem nlen_mul_le {y:Int} {a:Nat} (h1:nlen x.natAbs≤a) (h2:nlen y.natAbs≤b):nlen (x*y).natAbs≤a+b:=by
 rw [Int.natAbs_mul];exact bZ1 (nlen_mul _ _) (Nat.add_le_add h1 h2)
end Go.Rid
namespace Go.Proofs.Q
open Go.RowKit Go.Rid Go.Maps
theorem sum_any {M M1 M2 M3 M4:Nat→Prop} {w:World} {gk gl ga gb:Bool} {ak al aa ab ap bp:Option Addr} {nk ck nl cl na ca nb cb np cp mp dp:Nat} {x y za zb:Int} {la lb:aX} (hM:MB M w) (hk:ZAt Nil w gk ak nk ck x) (hl:ZAt Nil w gl al nl cl y)
  (ha:RParts M1 M2 w ap np cp la) (hb:RParts M3 M4 w bp mp dp lb) (hza:ZAt Nil w ga aa na ca za) (hzb:ZAt Nil w gb ab nb cb zb) (h1:nk≤1073741824) (h2:nl≤1073741824) (h3:na≤1073741824) (h4:nb≤1073741824) (h5:np≤16777216) (h6:mp≤16777216) :
  Calls Tryz.prog 82 #[.agg #[.bool gk,.slice ak nk ck],.agg #[.slice ap np cp,.bool ga,.slice aa na ca],.agg #[.bool gl,.slice al nl cl],.agg #[.slice bp mp dp,.bool gb,.slice ab nb cb]] w fun e w'=>Gives Nil (TV M (sumT x ⟨la,za⟩ y ⟨lb,zb⟩)) w e w':=by
 have hlen:=SlOf.len ha;have hlen2:=SlOf.len hb;have HA:=jJ (aI4 ha hza h5 hlen);have HB:=jJ (aI4 hb hzb h6 hlen2);have HK:=jJ (aI hk h1);have HL:=jJ (aI hl h2);have HZ:=jJ (aI h3 h4);have HM:=jJ hM;have hmm:=@run_makeMap Tryz.prog;clear ha hb hza hzb hk hl hM h1 h2 h3 h4 hlen hlen2;go_enter Tryz.func82,Tryz.ntmps82
 go_upto_region 1 with (fail)
 have r0:=(aF.alloc (w:=w) (E:=46) (xs:=[.bool gk,.slice ak nk ck])).keep (M:=Nil) (w':=(((((w.alloc (.cells #[.bool gk,.slice ak nk ck] 46)).alloc (.cells #[.slice ap np cp,.bool ga,.slice aa na ca] 48)).alloc (.cells #[.bool gl,.slice al nl cl] 46)).alloc (.cells #[.slice bp mp dp,.bool gb,.slice ab nb cb] 48)).alloc (.cells #[.slice none 0 0,.bool false,.slice none 0 0] 48))) kOf id;have r1:=(aF.alloc (w:=(w.alloc (.cells #[.bool gk,.slice ak nk ck] 46))) (E:=48) (xs:=[.slice ap np cp,.bool ga,.slice aa na ca])).keep (M:=Nil) (w':=(((((w.alloc (.cells #[.bool gk,.slice ak nk ck] 46)).alloc (.cells #[.slice ap np cp,.bool ga,.slice aa na ca] 48)).alloc (.cells #[.bool gl,.slice al nl cl] 46)).alloc (.cells #[.slice bp mp dp,.bool gb,.slice ab nb cb] 48)).alloc (.cells #[.slice none 0 0,.bool false,.slice none 0 0] 48))) kOf id;rw [show (w.alloc (.cells #[.bool gk,.slice ak nk ck] 46)).heap.size=w.heap.size+1 by simp] at r1;have r2:=(aF.alloc (w:=((w.alloc (.cells #[.bool gk,.slice ak nk ck] 46)).alloc (.cells #[.slice ap np cp,.bool ga,.slice aa na ca] 48))) (E:=46) (xs:=[.bool gl,.slice al nl cl])).keep (M:=Nil) (w':=(((((w.alloc (.cells #[.bool gk,.slice ak nk ck] 46)).alloc (.cells #[.slice ap np cp,.bool ga,.slice aa na ca] 48)).alloc (.cells #[.bool gl,.slice al nl cl] 46)).alloc (.cells #[.slice bp mp dp,.bool gb,.slice ab nb cb] 48)).alloc (.cells #[.slice none 0 0,.bool false,.slice none 0 0] 48))) kOf id;rw [show ((w.alloc (.cells #[.bool gk,.slice ak nk ck] 46)).alloc (.cells #[.slice ap np cp,.bool ga,.slice aa na ca] 48)).heap.size=w.heap.size+1+1 by simp] at r2;have r3:=(aF.alloc (w:=(((w.alloc (.cells #[.bool gk,.slice ak nk ck] 46)).alloc (.cells #[.slice ap np cp,.bool ga,.slice aa na ca] 48)).alloc (.cells #[.bool gl,.slice al nl cl] 46))) (E:=48) (xs:=[.slice bp mp dp,.bool gb,.slice ab nb cb])).keep (M:=Nil) (w':=(((((w.alloc (.cells #[.bool gk,.slice ak nk ck] 46)).alloc (.cells #[.slice ap np cp,.bool ga,.slice aa na ca] 48)).alloc (.cells #[.bool gl,.slice al nl cl] 46)).alloc (.cells #[.slice bp mp dp,.bool gb,.slice ab nb cb] 48)).alloc (.cells #[.slice none 0 0,.bool false,.slice none 0 0] 48))) kOf id;rw [show (((w.alloc (.cells #[.bool gk,.slice ak nk ck] 46)).alloc (.cells #[.slice ap np cp,.bool ga,.slice aa na ca] 48)).alloc (.cells #[.bool gl,.slice al nl cl] 46)).heap.size=w.heap.size+1+1+1 by simp] at r3;have r4:=aF.alloc (w:=((((w.alloc (.cells #[.bool gk,.slice ak nk ck] 46)).alloc (.cells #[.slice ap np cp,.bool ga,.slice aa na ca] 48)).alloc (.cells #[.bool gl,.slice al nl cl] 46)).alloc (.cells #[.slice bp mp dp,.bool gb,.slice ab nb cb] 48))) (E:=48) (xs:=[.slice none 0 0,.bool false,.slice none 0 0]);change aF (((((w.alloc (.cells #[.bool gk,.slice ak nk ck] 46)).alloc (.cells #[.slice ap np cp,.bool ga,.slice aa na ca] 48)).alloc (.cells #[.bool gl,.slice al nl cl] 46)).alloc (.cells #[.slice bp mp dp,.bool gb,.slice ab nb cb] 48)).alloc (.cells #[.slice none 0 0,.bool false,.slice none 0 0] 48)) _ _ _ at r4;rw [show ((((w.alloc (.cells #[.bool gk,.slice ak nk ck] 46)).alloc (.cells #[.slice ap np cp,.bool ga,.slice aa na ca] 48)).alloc (.cells #[.bool gl,.slice al nl cl] 46)).alloc (.cells #[.slice bp mp dp,.bool gb,.slice ab nb cb] 48)).heap.size=w.heap.size+1+1+1+1 by simp] at r4;have k0:aA Nil w (((((w.alloc (.cells #[.bool gk,.slice ak nk ck] 46)).alloc (.cells #[.slice ap np cp,.bool ga,.slice aa na ca] 48)).alloc (.cells #[.bool gl,.slice al nl cl] 46)).alloc (.cells #[.slice bp mp dp,.bool gb,.slice ab nb cb] 48)).alloc (.cells #[.slice none 0 0,.bool false,.slice none 0 0] 48)):=kOf;generalize (((((w.alloc (.cells #[.bool gk,.slice ak nk ck] 46)).alloc (.cells #[.slice ap np cp,.bool ga,.slice aa na ca] 48)).alloc (.cells #[.bool gl,.slice al nl cl] 46)).alloc (.cells #[.slice bp mp dp,.bool gb,.slice ab nb cb] 48)).alloc (.cells #[.slice none 0 0,.bool false,.slice none 0 0] 48))=w0 at *
 have lr4:=r4.lt;have H0:=jJ (aI6 k0 r0 r1 r2 r3 r4);clear k0 r0 r1 r2 r3 r4;go_upto_region 2 with fail
 have hcm0:=CMap.made (P:=Tryz.prog) (kt:=3) (Old (w0.alloc (.map #[] 0))) w0;have k01:aA Nil w0 (w0.alloc (.map #[] 0)):=kOf;have hsz1:(w0.alloc (.map #[] 0)).heap.size=w0.heap.size+1:=by simp
 generalize w0.alloc (.map #[] 0)=w1 at *
 have H1:=jJ (aI3 hcm0 k01 hsz1);clear hcm0 k01 hsz1;obtain ⟨c10,c11,c12⟩:=(H0.o.2.2.1.keep H1.o.2.1 id).three;go_wp2_with fail
 clear c10 c11 c12;have hcap:=SlOf.cap HA.o.1;have hle:=SlOf.le HA.o.1;go_loopw [18] (fun iv wr=>∃k:Nat,k≤np∧iv=.int .i64 (k:Int)∧CMap Tryz.prog 3 (Old w1) wr w0.heap.size k (fun v=>x*cA (la.take k) v)∧aA Nil w0 wr∧w1.heap.size≤wr.heap.size) (fun iv _=>np-(intOf iv).toNat)
 case atStart=>exact⟨0,aZ2 _,rfl,H1.o.1.congr (fun v=>by simp [cA]),H1.o.2.1,bZ2 _⟩
 case round=>
  obtain ⟨k,hk,rfl,hcm,hkr,hsr⟩:=hrel;by_cases hlt:k<np
  ·have j0:(0:Int)≤(k:Int):=by omega
   have j1:(k:Int)<(np:Int):=by omega
   obtain ⟨b,off,g,a',n',c',hae,hb,-,x0,x1,x2,hz,hn',i1,i2⟩:=(HA.o.1.keepNil (H0.o.1.trans hkr)).at hlt;subst hae;have hs:=coefL_take_succ la (i:=k) (by have:=HA.o.2.2.2;omega);generalize pth la k=p at *
   obtain ⟨v,c⟩:=p;have hkb:aA Nil wr (wr.alloc (.cells #[.int .i64 v,.bool g,.slice a' n' c'] 80)):=kOf;have rp:=aF.alloc (w:=wr) (E:=80) (xs:=[.int .i64 v,.bool g,.slice a' n' c']);change aF (wr.alloc (.cells #[.int .i64 v,.bool g,.slice a' n' c'] 80)) _ _ _ at rp;have HC:=jJ (aI6 hcm hkr hsr hz hn' hs);clear hcm hkr hsr hz hn' hs;go_upto_region 5 with (fail)
   generalize wr.alloc (.cells #[.int .i64 v,.bool g,.slice a' n' c'] 80)=wb at *
   obtain ⟨gl1,al1,nl1,cl1,hzl,hlook⟩:=(HC.o.1.keepNil hkb).look (t:=172) (e:=46) Tryz.underlying3 Tryz.underlying172 zero_Int (v:=v) ⟨i1,i2⟩;have hx:nlen x.natAbs≤1073741824:=bZ1 HK.o.1.nlen_le HK.o.2;have hall:=HA.o.1.mem;have hroom:=coefL_room (l:=la.take k) (fun p hp=>(hall p (aZ3 hp)).1) hx (by rw [iZ1];have:=HA.o.2.2.1;omega) v;have hroomc:=nlen_mul_le hx (bZ1 HC.o.2.2.2.1.nlen_le HC.o.r4.1);have hnl:=hzl.len;have HD:=jJ (aI7 rp hkb hlook hzl (show nlen (x*cA (la.take k) v).natAbs≤2147483649 from hroom) hroomc hnl);clear rp hkb hlook hzl hx hall hroom hroomc hnl;refine aR [12] [22,23,24,25,26,27,28,29,30,31,32,33,1045] [22,23,24,25,26,27,28,29,30,31,32,33] [Un (LitV ?v1_0),Un (LitV ?v1_1),Un (LitV ?v1_2),Un (LitV ?v1_3),Un (LitV ?v1_4),Un (LitV ?v1_5),Un (LitV ?v1_6),Un (LitV ?v1_7),Un (LitV ?v1_8),Un (LitV ?v1_9),Un (ZV Nil (x*c)),Un (ZV (Old w1) (x*cA (la.take k) v+x*c)),nothing] (by kernel_rfl) (by kernel_rfl) ?rst1 ?rsb1 ?rfn1
   case' rst1=>
    show aB _ _ _ _ _ _ _ _ _ 13
    refine (aB.skip (n:=12) (by decide) (aB.succ (n:=11) rfl ?r1_11 (aB.succ (n:=10) rfl ?r1_10 (aB.succ (n:=9) rfl ?r1_9 (aB.succ (n:=8) rfl ?r1_8 (aB.succ (n:=7) rfl ?r1_7 (aB.succ (n:=6) rfl ?r1_6 (aB.succ (n:=5) rfl ?r1_5 (aB.succ (n:=4) rfl ?r1_4 (aB.succ (n:=3) rfl ?r1_3 (aB.succ (n:=2) rfl ?r1_2 (aB.succ (n:=1) rfl ?r1_1 (aB.succ (n:=0) rfl ?r1_0 aB.zero)))))))))))))
   case' r1_0|r1_1|r1_3|r1_4|r1_7|r1_8=>
    intro us wj hk hp K hK;try simp only [aM,Act.put,sL] at hK⊢
    obtain ⟨d0,d1,d2⟩:=(HD.o.1.keep hk id).three;obtain ⟨e0',e1',-,-⟩:=(((H0.o.2.1.keep HC.o.2.1 id).keep HD.o.2.1 id).keep hk id).two;have hlk:=HD.o.2.2.1 _ hk;go_simp
    refine hK.out _ _ ?_ ?_
    ·exact aA.refl _ _
    ·exact rfl
   case' r1_2=>
    intro us wj hk hp K hK;try simp only [aM,Act.put,sL] at hK⊢
    obtain ⟨d0,d1,d2⟩:=(HD.o.1.keep hk id).three;obtain ⟨e0',e1',-,-⟩:=(((H0.o.2.1.keep HC.o.2.1 id).keep HD.o.2.1 id).keep hk id).two;have hlk:=HD.o.2.2.1 _ hk;have e1:us 23=_:=hp 1 (by kernel_rfl);rw [e1] at hK⊢;go_simp
    refine hK.out _ _ ?_ ?_
    ·exact aA.refl _ _
    ·exact rfl
   case' r1_5=>
    intro us wj hk hp K hK;try simp only [aM,Act.put,sL] at hK⊢
    obtain ⟨d0,d1,d2⟩:=(HD.o.1.keep hk id).three;obtain ⟨e0',e1',-,-⟩:=(((H0.o.2.1.keep HC.o.2.1 id).keep HD.o.2.1 id).keep hk id).two;have hlk:=HD.o.2.2.1 _ hk;have e4:us 26=_:=hp 4 (by kernel_rfl);rw [e4] at hK⊢;go_simp
    refine hK.out _ _ ?_ ?_
    ·exact aA.refl _ _
    ·exact rfl
   case' r1_6=>
    intro us wj hk hp K hK;try simp only [aM,Act.put,sL] at hK⊢
    obtain ⟨d0,d1,d2⟩:=(HD.o.1.keep hk id).three;obtain ⟨e0',e1',-,-⟩:=(((H0.o.2.1.keep HC.o.2.1 id).keep HD.o.2.1 id).keep hk id).two;have hlk:=HD.o.2.2.1 _ hk;have e3:us 25=_:=hp 3 (by kernel_rfl);have e5:us 27=_:=hp 5 (by kernel_rfl);rw [e3,e5] at hK⊢;go_simp
    refine hK.out _ _ ?_ ?_
    ·exact aA.refl _ _
    ·exact rfl
   case' r1_9=>
    intro us wj hk hp K hK;try simp only [aM,Act.put,sL] at hK⊢
    obtain ⟨d0,d1,d2⟩:=(HD.o.1.keep hk id).three;obtain ⟨e0',e1',-,-⟩:=(((H0.o.2.1.keep HC.o.2.1 id).keep HD.o.2.1 id).keep hk id).two;have hlk:=HD.o.2.2.1 _ hk;have e8:us 30=_:=hp 8 (by kernel_rfl);rw [e8] at hK⊢;go_simp
    refine hK.out _ _ ?_ ?_
    ·exact aA.refl _ _
    ·exact rfl
   case' r1_10=>
    intro us wj hk hp K hK;try simp only [aM,Act.put,sL] at hK⊢
    obtain ⟨d0,d1,d2⟩:=(HD.o.1.keep hk id).three;obtain ⟨e0',e1',-,-⟩:=(((H0.o.2.1.keep HC.o.2.1 id).keep HD.o.2.1 id).keep hk id).two;have hlk:=HD.o.2.2.1 _ hk;have e7:us 29=_:=hp 7 (by kernel_rfl);have e9:us 31=_:=hp 9 (by kernel_rfl);rw [e7,e9] at hK⊢;go_simp
    refine (zmul_any (M:=Nil) (MB.nil _) (HK.o.1.keepNil (H0.o.1.trans (HC.o.2.1.trans (HD.o.2.1.trans hk)))) (HC.o.2.2.2.1.toNil.keepNil (HD.o.2.1.trans hk)) (by have:=HK.o.2;have:=HC.o.r4.1;omega)).mono ?_;rintro e wk ⟨g,a,n,c,rfl,h,hk2⟩;refine hK.out _ _ ?_ ?_
    ·exact hk2
    ·exact⟨g,a,n,c,rfl,h⟩
   case' r1_11=>
    intro us wj hk hp K hK;try simp only [aM,Act.put,sL] at hK⊢
    obtain ⟨d0,d1,d2⟩:=(HD.o.1.keep hk id).three;obtain ⟨e0',e1',-,-⟩:=(((H0.o.2.1.keep HC.o.2.1 id).keep HD.o.2.1 id).keep hk id).two;have hlk:=HD.o.2.2.1 _ hk;have e6:us 28=_:=hp 6 (by kernel_rfl);obtain ⟨g10,a10,n10,c10,e10,h10⟩:(ZV Nil (x*c)) (us 32) wj:=hp 10 (by kernel_rfl);rw [e6,e10] at hK⊢;go_simp
    refine (zadd_any (M:=Old w1) (MB.oldLe (bZ1 HC.o.2.2.1 (HD.o.2.1.trans hk).size)) ((HD.o.2.2.2.1.zat (by have:=HD.o.r4.1;omega)).keepNil hk) (h10.zat (by have:=HD.o.r5.1;dsimp only at this;omega)) (by have:=HD.o.r4.1;have:=HD.o.r6;omega) (by have:=HD.o.r5.1;have:=h10.len;dsimp only at *;omega)).mono ?_;rintro e wk ⟨g,a,n,c,rfl,h,hk2⟩;refine hK.out _ _ ?_ ?_
    ·exact hk2
    ·exact⟨g,a,n,c,rfl,h⟩
   case' rsb1=>exact aC.cons (aC.cons (aC.cons (aC.cons (aC.cons (aC.cons (aC.cons (aC.cons (aC.cons (aC.cons (aC.cons (aC.cons (aC.cons (aC.nil)))))))))))))
   case' rfn1=>
   intro us wz hkz hf;simp only [aM,Act.put,sL];have e0:us 22=_:=hf 0 (by decide) (by decide);have e1:us 23=_:=hf 1 (by decide) (by decide);have e2:us 24=_:=hf 2 (by decide) (by decide);have e3:us 25=_:=hf 3 (by decide) (by decide);have e4:us 26=_:=hf 4 (by decide) (by decide);have e5:us 27=_:=hf 5 (by decide) (by decide);have e6:us 28=_:=hf 6 (by decide) (by decide);have e7:us 29=_:=hf 7 (by decide) (by decide);have e8:us 30=_:=hf 8 (by decide) (by decide);have e9:us 31=_:=hf 9 (by decide) (by decide);obtain ⟨g10,a10,n10,c10,e10,h10⟩:(ZV Nil (x*c)) (us 32) wz:=hf 10 (by decide) (by decide);obtain ⟨g11,a11,n11,c11,e11,h11⟩:(ZV (Old w1) (x*cA (la.take k) v+x*c)) (us 33) wz:=hf 11 (by decide) (by decide);clear hf;simp only [e0,e1,e2,e3,e4,e5,e6,e7,e8,e9,e10,e11];clear e0 e1 e2 e3 e4 e5 e6 e7 e8 e9 e10 e11 us;refine aK (rs:=[12]) (by kernel_rfl) (by simp) ?_;refine aH.cons rfl (fun K hK=>?_) aH.nil;obtain ⟨w9,hrun,hcm9,hk9⟩:=CMap.put (t:=172) (e:=46) ((HC.o.1.keepNil HD.o.2.1).keepNil hkz) Tryz.underlying3 Tryz.underlying172 (v:=v) ⟨i1,i2⟩ (by have:=HA.o.2.2.1;omega) (show w0.heap.size<w1.heap.size by have:=H1.o.2.2;omega) h11;go_simp
   refine hK.out _ _ (fun _=>trivial) ?_;clear hK K;try simp only [Act.put,sL]
   refine aS (by kernel_rfl) ?_ _;have H9:=jJ (aI3 hcm9 hk9 hkz);clear hcm9 hk9 hkz hrun;go_wp2_with fail
   go_roundw
   case rel=>exact⟨k+1,by omega,by go_num,H9.o.1.congr (fun u=>by rw [HC.o.r5 u];dsimp only;by_cases e:v=u<;>simp [e,Int.mul_add]),(HC.o.2.1.trans (HD.o.2.1.trans H9.o.2.2)).own (bZ2 _) H9.o.2.1,bZ1 HC.o.2.2.1 (bZ1 (HD.o.2.1.trans H9.o.2.2).size H9.o.2.1.size)⟩
   case measure=>simp [intOf];omega
  ·have ekn:np=k:=by omega
   subst ekn;rw [eZ1 (by have:=HA.o.2.2.2;omega)] at hcm;have hx:nlen x.natAbs≤1073741824:=bZ1 HK.o.1.nlen_le HK.o.2;have hy:nlen y.natAbs≤1073741824:=bZ1 HL.o.1.nlen_le HL.o.2;have hall:=HA.o.1.mem;have hall2:=HB.o.1.mem;have hroom1:=coefL_room (l:=la) (fun p hp=>(hall p hp).1) hx (by have:=HA.o.2.2;omega);have HC:=jJ (aI8 hcm hkr hsr hx hy hall hall2 hroom1);obtain ⟨c10,c11,c12⟩:=(H0.o.r4.1.keep hkr id).three;have hcapb:=SlOf.cap HB.o.1;have hleb:=SlOf.le HB.o.1;clear hcm hkr hsr hx hy hall hall2 hroom1 hcap hle hlt hk;go_wp2_with fail
   clear c10 c11 c12;rename World=>wq;go_loopw [38] (fun iv wr=>∃k:Nat,k≤mp∧iv=.int .i64 (k:Int)∧CMap Tryz.prog 3 (Old w1) wr w0.heap.size (np+k) (fun v=>x*cA la v+y*cA (lb.take k) v)∧aA Nil w0 wr∧w1.heap.size≤wr.heap.size) (fun iv _=>mp-(intOf iv).toNat)
   case atStart=>exact⟨0,aZ2 _,rfl,HC.o.1.congr (fun v=>by simp [cA]),HC.o.2.1,HC.o.2.2.1⟩
   case round=>
    obtain ⟨k,hk,rfl,hcm,hkr,hsr⟩:=hrel;by_cases hlt:k<mp
    ·have j0:(0:Int)≤(k:Int):=by omega
     have j1:(k:Int)<(mp:Int):=by omega
     obtain ⟨b,off,g,a',n',c',hae,hb,-,x0,x1,x2,hz,hn',i1,i2⟩:=(HB.o.1.keepNil (H0.o.1.trans hkr)).at hlt;subst hae;have hs:=coefL_take_succ lb (i:=k) (by have:=HB.o.2.2.2;omega);generalize pth lb k=p at *
     obtain ⟨v,c⟩:=p;have hkb:aA Nil wr (wr.alloc (.cells #[.int .i64 v,.bool g,.slice a' n' c'] 80)):=kOf;have rp:=aF.alloc (w:=wr) (E:=80) (xs:=[.int .i64 v,.bool g,.slice a' n' c']);change aF (wr.alloc (.cells #[.int .i64 v,.bool g,.slice a' n' c'] 80)) _ _ _ at rp;have HE:=jJ (aI6 hcm hkr hsr hz hn' hs);clear hcm hkr hsr hz hn' hs;go_upto_region 10 with (fail)
     generalize wr.alloc (.cells #[.int .i64 v,.bool g,.slice a' n' c'] 80)=wb at *
     obtain ⟨gl1,al1,nl1,cl1,hzl,hlook⟩:=(HE.o.1.keepNil hkb).look (t:=172) (e:=46) Tryz.underlying3 Tryz.underlying172 zero_Int (v:=v) ⟨i1,i2⟩;have hroom:=coefL_room (l:=lb.take k) (fun p hp=>(HC.o.r6.1 p (aZ3 hp)).1) HC.o.r4.1 (by rw [iZ1];have:=HB.o.2.2.1;omega) v;have hroom2:=bZ1 (nlen_natAbs_add (x*cA la v) (y*cA (lb.take k) v)) (show _≤2147483650 by have:=HC.o.r7 v;omega);have hroomc:=nlen_mul_le HC.o.r4.1 (bZ1 HE.o.2.2.2.1.nlen_le HE.o.r4.1);have hnl:=hzl.len;have HD:=jJ (aI7 rp hkb hlook hzl hroom2 hroomc hnl);clear rp hkb hlook hzl hroom hroom2 hroomc hnl;refine aR [12] [42,43,44,45,46,47,48,49,50,51,52,53,1065] [42,43,44,45,46,47,48,49,50,51,52,53] [Un (LitV ?v2_0),Un (LitV ?v2_1),Un (LitV ?v2_2),Un (LitV ?v2_3),Un (LitV ?v2_4),Un (LitV ?v2_5),Un (LitV ?v2_6),Un (LitV ?v2_7),Un (LitV ?v2_8),Un (LitV ?v2_9),Un (ZV Nil (y*c)),Un (ZV (Old w1) (x*cA la v+y*cA (lb.take k) v+y*c)),nothing] (by kernel_rfl) (by kernel_rfl) ?rst2 ?rsb2 ?rfn2
     case' rst2=>
      show aB _ _ _ _ _ _ _ _ _ 13
      refine (aB.skip (n:=12) (by decide) (aB.succ (n:=11) rfl ?r2_11 (aB.succ (n:=10) rfl ?r2_10 (aB.succ (n:=9) rfl ?r2_9 (aB.succ (n:=8) rfl ?r2_8 (aB.succ (n:=7) rfl ?r2_7 (aB.succ (n:=6) rfl ?r2_6 (aB.succ (n:=5) rfl ?r2_5 (aB.succ (n:=4) rfl ?r2_4 (aB.succ (n:=3) rfl ?r2_3 (aB.succ (n:=2) rfl ?r2_2 (aB.succ (n:=1) rfl ?r2_1 (aB.succ (n:=0) rfl ?r2_0 aB.zero)))))))))))))
     case' r2_0|r2_1|r2_3|r2_4|r2_7|r2_8=>
      intro us wj hk hp K hK;try simp only [aM,Act.put,sL] at hK⊢
      obtain ⟨d0,d1,d2⟩:=(HD.o.1.keep hk id).three;obtain ⟨e0',e1',-,-⟩:=(((H0.o.2.2.2.1.keep HE.o.2.1 id).keep HD.o.2.1 id).keep hk id).two;have hlk:=HD.o.2.2.1 _ hk;go_simp
      refine hK.out _ _ ?_ ?_
      ·exact aA.refl _ _
      ·exact rfl
     case' r2_2=>
      intro us wj hk hp K hK;try simp only [aM,Act.put,sL] at hK⊢
      obtain ⟨d0,d1,d2⟩:=(HD.o.1.keep hk id).three;obtain ⟨e0',e1',-,-⟩:=(((H0.o.2.2.2.1.keep HE.o.2.1 id).keep HD.o.2.1 id).keep hk id).two;have hlk:=HD.o.2.2.1 _ hk;have e1:us 43=_:=hp 1 (by kernel_rfl);rw [e1] at hK⊢;go_simp
      refine hK.out _ _ ?_ ?_
      ·exact aA.refl _ _
      ·exact rfl
     case' r2_5=>
      intro us wj hk hp K hK;try simp only [aM,Act.put,sL] at hK⊢
      obtain ⟨d0,d1,d2⟩:=(HD.o.1.keep hk id).three;obtain ⟨e0',e1',-,-⟩:=(((H0.o.2.2.2.1.keep HE.o.2.1 id).keep HD.o.2.1 id).keep hk id).two;have hlk:=HD.o.2.2.1 _ hk;have e4:us 46=_:=hp 4 (by kernel_rfl);rw [e4] at hK⊢;go_simp
      refine hK.out _ _ ?_ ?_
      ·exact aA.refl _ _
      ·exact rfl
     case' r2_6=>
      intro us wj hk hp K hK;try simp only [aM,Act.put,sL] at hK⊢
      obtain ⟨d0,d1,d2⟩:=(HD.o.1.keep hk id).three;obtain ⟨e0',e1',-,-⟩:=(((H0.o.2.2.2.1.keep HE.o.2.1 id).keep HD.o.2.1 id).keep hk id).two;have hlk:=HD.o.2.2.1 _ hk;have e3:us 45=_:=hp 3 (by kernel_rfl);have e5:us 47=_:=hp 5 (by kernel_rfl);rw [e3,e5] at hK⊢;go_simp
      refine hK.out _ _ ?_ ?_
      ·exact aA.refl _ _
      ·exact rfl
     case' r2_9=>
      intro us wj hk hp K hK;try simp only [aM,Act.put,sL] at hK⊢
      obtain ⟨d0,d1,d2⟩:=(HD.o.1.keep hk id).three;obtain ⟨e0',e1',-,-⟩:=(((H0.o.2.2.2.1.keep HE.o.2.1 id).keep HD.o.2.1 id).keep hk id).two;have hlk:=HD.o.2.2.1 _ hk;have e8:us 50=_:=hp 8 (by kernel_rfl);rw [e8] at hK⊢;go_simp
      refine hK.out _ _ ?_ ?_
      ·exact aA.refl _ _
      ·exact rfl
     case' r2_10=>
      intro us wj hk hp K hK;try simp only [aM,Act.put,sL] at hK⊢
      obtain ⟨d0,d1,d2⟩:=(HD.o.1.keep hk id).three;obtain ⟨e0',e1',-,-⟩:=(((H0.o.2.2.2.1.keep HE.o.2.1 id).keep HD.o.2.1 id).keep hk id).two;have hlk:=HD.o.2.2.1 _ hk;have e7:us 49=_:=hp 7 (by kernel_rfl);have e9:us 51=_:=hp 9 (by kernel_rfl);rw [e7,e9] at hK⊢;go_simp
      refine (zmul_any (M:=Nil) (MB.nil _) (HL.o.1.keepNil (H0.o.1.trans (HE.o.2.1.trans (HD.o.2.1.trans hk)))) (HE.o.2.2.2.1.toNil.keepNil (HD.o.2.1.trans hk)) (by have:=HL.o.2;have:=HE.o.r4.1;omega)).mono ?_;rintro e wk ⟨g,a,n,c,rfl,h,hk2⟩;refine hK.out _ _ ?_ ?_
      ·exact hk2
      ·exact⟨g,a,n,c,rfl,h⟩
     case' r2_11=>
      intro us wj hk hp K hK;try simp only [aM,Act.put,sL] at hK⊢
      obtain ⟨d0,d1,d2⟩:=(HD.o.1.keep hk id).three;obtain ⟨e0',e1',-,-⟩:=(((H0.o.2.2.2.1.keep HE.o.2.1 id).keep HD.o.2.1 id).keep hk id).two;have hlk:=HD.o.2.2.1 _ hk;have e6:us 48=_:=hp 6 (by kernel_rfl);obtain ⟨g10,a10,n10,c10,e10,h10⟩:(ZV Nil (y*c)) (us 52) wj:=hp 10 (by kernel_rfl);rw [e6,e10] at hK⊢;go_simp
      refine (zadd_any (M:=Old w1) (MB.oldLe (bZ1 HE.o.2.2.1 (HD.o.2.1.trans hk).size)) ((HD.o.2.2.2.1.zat (by have:=HD.o.r4.1;omega)).keepNil hk) (h10.zat (by have:=HD.o.r5.1;dsimp only at this;omega)) (by have:=HD.o.r4.1;have:=HD.o.r6;omega) (by have:=HD.o.r5.1;have:=h10.len;dsimp only at *;omega)).mono ?_;rintro e wk ⟨g,a,n,c,rfl,h,hk2⟩;refine hK.out _ _ ?_ ?_
      ·exact hk2
      ·exact⟨g,a,n,c,rfl,h⟩
     case' rsb2=>exact aC.cons (aC.cons (aC.cons (aC.cons (aC.cons (aC.cons (aC.cons (aC.cons (aC.cons (aC.cons (aC.cons (aC.cons (aC.cons (aC.nil)))))))))))))
     case' rfn2=>
     intro us wz hkz hf;simp only [aM,Act.put,sL];have e0:us 42=_:=hf 0 (by decide) (by decide);have e1:us 43=_:=hf 1 (by decide) (by decide);have e2:us 44=_:=hf 2 (by decide) (by decide);have e3:us 45=_:=hf 3 (by decide) (by decide);have e4:us 46=_:=hf 4 (by decide) (by decide);have e5:us 47=_:=hf 5 (by decide) (by decide);have e6:us 48=_:=hf 6 (by decide) (by decide);have e7:us 49=_:=hf 7 (by decide) (by decide);have e8:us 50=_:=hf 8 (by decide) (by decide);have e9:us 51=_:=hf 9 (by decide) (by decide);obtain ⟨g10,a10,n10,c10,e10,h10⟩:(ZV Nil (y*c)) (us 52) wz:=hf 10 (by decide) (by decide);obtain ⟨g11,a11,n11,c11,e11,h11⟩:(ZV (Old w1) (x*cA la v+y*cA (lb.take k) v+y*c)) (us 53) wz:=hf 11 (by decide) (by decide);clear hf;simp only [e0,e1,e2,e3,e4,e5,e6,e7,e8,e9,e10,e11];clear e0 e1 e2 e3 e4 e5 e6 e7 e8 e9 e10 e11 us;refine aK (rs:=[12]) (by kernel_rfl) (by simp) ?_;refine aH.cons rfl (fun K hK=>?_) aH.nil;obtain ⟨w9,hrun,hcm9,hk9⟩:=CMap.put (t:=172) (e:=46) ((HE.o.1.keepNil HD.o.2.1).keepNil hkz) Tryz.underlying3 Tryz.underlying172 (v:=v) ⟨i1,i2⟩ (by have:=HA.o.2.2.1;have:=HB.o.2.2.1;omega) (show w0.heap.size<w1.heap.size by have:=H1.o.2.2;omega) h11;go_simp
     refine hK.out _ _ (fun _=>trivial) ?_;clear hK K;try simp only [Act.put,sL]
     refine aS (by kernel_rfl) ?_ _;have H9:=jJ (aI3 hcm9 hk9 hkz);clear hcm9 hk9 hkz hrun;go_wp2_with fail
     go_roundw
     case rel=>exact⟨k+1,by omega,by go_num,H9.o.1.congr (fun u=>by rw [HE.o.r5 u];dsimp only;by_cases e:v=u<;>simp [e,Int.mul_add,Int.add_assoc]),(HE.o.2.1.trans (HD.o.2.1.trans H9.o.2.2)).own (bZ2 _) H9.o.2.1,bZ1 HE.o.2.2.1 (bZ1 (HD.o.2.1.trans H9.o.2.2).size H9.o.2.1.size)⟩
     case measure=>simp [intOf];omega
    ·have ekn:mp=k:=by omega
     subst ekn;rw [eZ1 (by have:=HB.o.2.2.2;omega)] at hcm;have HE:=jJ (aI3 hcm hkr hsr);clear hcm hkr hsr;have hn4:=nlen_mul_le HC.o.2.2.2.1 (bZ1 HA.o.2.1.nlen_le HZ.o.1);have hn8:=nlen_mul_le HC.o.r4.1 (bZ1 HB.o.2.1.nlen_le HZ.o.2);have hn9:=nlen_natAbs_add (x*za) (y*zb);have hroom2:=coefL_room (l:=lb) (fun p hp=>(HC.o.r6.1 p hp).1) HC.o.r4.1 (by have:=HB.o.2.2;omega);have hn10:∀v,nlen (x*cA la v+y*cA lb v).natAbs*4+4≤140737488355328:=fun v=>by
      have q1:=nlen_natAbs_add (x*cA la v) (y*cA lb v);have q2:=HC.o.r7 v;have q3:=hroom2 v;omega
     have hi64:∀v,x*cA la v+y*cA lb v≠0→I64' v:=fun v hv=>by
      by_cases e1:cA la v=0
      ·by_cases e2:cA lb v=0
       ·rw [e1,e2] at hv;simp at hv
       ·exact coefL_i64 (fun p hp=>(HC.o.r6.1 p hp).2) e2
      ·exact coefL_i64 (fun p hp=>(HC.o.r5.1 p hp).2) e1
     have HX:=jJ (aI5 hn4 hn8 (show nlen (x*za+y*zb).natAbs≤2147483649 by omega) hi64 hn10);clear hn4 hn8 hn9 hn10 hroom2 hi64;go_upto_region 12 with (fail)
     refine aR [11] [55,56,57,58,59,60,61,62,63,64,65,1076] [55,56,57,58,59,60,61,62,63,64,65] [Un (LitV ?v3_0),Un (LitV ?v3_1),Un (LitV ?v3_2),Un (LitV ?v3_3),Un (ZV Nil (x*za)),Un (LitV ?v3_5),Un (LitV ?v3_6),Un (LitV ?v3_7),Un (ZV Nil (y*zb)),Un (ZV Nil (x*za+y*zb)),Un (TV (Old w1) (sumT x ⟨la,za⟩ y ⟨lb,zb⟩)),nothing] (by kernel_rfl) (by kernel_rfl) ?rst3 ?rsb3 ?rfn3
     case' rst3=>
      show aB _ _ _ _ _ _ _ _ _ 12
      refine (aB.skip (n:=11) (by decide) (aB.succ (n:=10) rfl ?r3_10 (aB.succ (n:=9) rfl ?r3_9 (aB.succ (n:=8) rfl ?r3_8 (aB.succ (n:=7) rfl ?r3_7 (aB.succ (n:=6) rfl ?r3_6 (aB.succ (n:=5) rfl ?r3_5 (aB.succ (n:=4) rfl ?r3_4 (aB.succ (n:=3) rfl ?r3_3 (aB.succ (n:=2) rfl ?r3_2 (aB.succ (n:=1) rfl ?r3_1 (aB.succ (n:=0) rfl ?r3_0 aB.zero))))))))))))
     case' r3_0|r3_1|r3_2|r3_5|r3_6=>
      intro us wj hk hp K hK;try simp only [aM,Act.put,sL] at hK⊢
      obtain ⟨d0,d1,-,-⟩:=((H0.o.2.1.keep HE.o.2.1 id).keep hk id).two;obtain ⟨e00,e01,e02⟩:=((H0.o.2.2.1.keep HE.o.2.1 id).keep hk id).three;obtain ⟨f00,f01,-,-⟩:=((H0.o.2.2.2.1.keep HE.o.2.1 id).keep hk id).two;obtain ⟨g00,g01,g02⟩:=((H0.o.r4.1.keep HE.o.2.1 id).keep hk id).three;go_simp
      refine hK.out _ _ ?_ ?_
      ·exact aA.refl _ _
      ·exact rfl
     case' r3_3=>
      intro us wj hk hp K hK;try simp only [aM,Act.put,sL] at hK⊢
      obtain ⟨d0,d1,-,-⟩:=((H0.o.2.1.keep HE.o.2.1 id).keep hk id).two;obtain ⟨e00,e01,e02⟩:=((H0.o.2.2.1.keep HE.o.2.1 id).keep hk id).three;obtain ⟨f00,f01,-,-⟩:=((H0.o.2.2.2.1.keep HE.o.2.1 id).keep hk id).two;obtain ⟨g00,g01,g02⟩:=((H0.o.r4.1.keep HE.o.2.1 id).keep hk id).three;have e2:us 57=_:=hp 2 (by kernel_rfl);rw [e2] at hK⊢;go_simp
      refine hK.out _ _ ?_ ?_
      ·exact aA.refl _ _
      ·exact rfl
     case' r3_4=>
      intro us wj hk hp K hK;try simp only [aM,Act.put,sL] at hK⊢
      obtain ⟨d0,d1,-,-⟩:=((H0.o.2.1.keep HE.o.2.1 id).keep hk id).two;obtain ⟨e00,e01,e02⟩:=((H0.o.2.2.1.keep HE.o.2.1 id).keep hk id).three;obtain ⟨f00,f01,-,-⟩:=((H0.o.2.2.2.1.keep HE.o.2.1 id).keep hk id).two;obtain ⟨g00,g01,g02⟩:=((H0.o.r4.1.keep HE.o.2.1 id).keep hk id).three;have e1:us 56=_:=hp 1 (by kernel_rfl);have e3:us 58=_:=hp 3 (by kernel_rfl);rw [e1,e3] at hK⊢;go_simp
      refine (zmul_any (M:=Nil) (MB.nil _) (HK.o.1.keepNil (H0.o.1.trans (HE.o.2.1.trans hk))) (HA.o.2.1.keepNil (H0.o.1.trans (HE.o.2.1.trans hk))) (by have:=HK.o.2;have:=HZ.o.1;omega)).mono ?_;rintro e wk ⟨g,a,n,c,rfl,h,hk2⟩;refine hK.out _ _ ?_ ?_
      ·exact hk2
      ·exact⟨g,a,n,c,rfl,h⟩
     case' r3_7=>
      intro us wj hk hp K hK;try simp only [aM,Act.put,sL] at hK⊢
      obtain ⟨d0,d1,-,-⟩:=((H0.o.2.1.keep HE.o.2.1 id).keep hk id).two;obtain ⟨e00,e01,e02⟩:=((H0.o.2.2.1.keep HE.o.2.1 id).keep hk id).three;obtain ⟨f00,f01,-,-⟩:=((H0.o.2.2.2.1.keep HE.o.2.1 id).keep hk id).two;obtain ⟨g00,g01,g02⟩:=((H0.o.r4.1.keep HE.o.2.1 id).keep hk id).three;have e6:us 61=_:=hp 6 (by kernel_rfl);rw [e6] at hK⊢;go_simp
      refine hK.out _ _ ?_ ?_
      ·exact aA.refl _ _
      ·exact rfl
     case' r3_8=>
      intro us wj hk hp K hK;try simp only [aM,Act.put,sL] at hK⊢
      obtain ⟨d0,d1,-,-⟩:=((H0.o.2.1.keep HE.o.2.1 id).keep hk id).two;obtain ⟨e00,e01,e02⟩:=((H0.o.2.2.1.keep HE.o.2.1 id).keep hk id).three;obtain ⟨f00,f01,-,-⟩:=((H0.o.2.2.2.1.keep HE.o.2.1 id).keep hk id).two;obtain ⟨g00,g01,g02⟩:=((H0.o.r4.1.keep HE.o.2.1 id).keep hk id).three;have e5:us 60=_:=hp 5 (by kernel_rfl);have e7:us 62=_:=hp 7 (by kernel_rfl);rw [e5,e7] at hK⊢;go_simp
      refine (zmul_any (M:=Nil) (MB.nil _) (HL.o.1.keepNil (H0.o.1.trans (HE.o.2.1.trans hk))) (HB.o.2.1.keepNil (H0.o.1.trans (HE.o.2.1.trans hk))) (by have:=HL.o.2;have:=HZ.o.2;omega)).mono ?_;rintro e wk ⟨g,a,n,c,rfl,h,hk2⟩;refine hK.out _ _ ?_ ?_
      ·exact hk2
      ·exact⟨g,a,n,c,rfl,h⟩
     case' r3_9=>
      intro us wj hk hp K hK;try simp only [aM,Act.put,sL] at hK⊢
      obtain ⟨d0,d1,-,-⟩:=((H0.o.2.1.keep HE.o.2.1 id).keep hk id).two;obtain ⟨e00,e01,e02⟩:=((H0.o.2.2.1.keep HE.o.2.1 id).keep hk id).three;obtain ⟨f00,f01,-,-⟩:=((H0.o.2.2.2.1.keep HE.o.2.1 id).keep hk id).two;obtain ⟨g00,g01,g02⟩:=((H0.o.r4.1.keep HE.o.2.1 id).keep hk id).three;obtain ⟨g4,a4,n4,c4,e4,h4⟩:(ZV Nil (x*za)) (us 59) wj:=hp 4 (by kernel_rfl);obtain ⟨g8,a8,n8,c8,e8,h8⟩:(ZV Nil (y*zb)) (us 63) wj:=hp 8 (by kernel_rfl);rw [e4,e8] at hK⊢;go_simp
      refine (zadd_any (M:=Nil) (MB.nil _) (h4.zat (by have:=HX.o.1;omega)) (h8.zat (by have:=HX.o.2.1;omega)) (by have:=HX.o.1;have:=h4.len;omega) (by have:=HX.o.2.1;have:=h8.len;omega)).mono ?_;rintro e wk ⟨g,a,n,c,rfl,h,hk2⟩;refine hK.out _ _ ?_ ?_
      ·exact hk2
      ·exact⟨g,a,n,c,rfl,h⟩
     case' r3_10=>
      intro us wj hk hp K hK;try simp only [aM,Act.put,sL] at hK⊢
      obtain ⟨d0,d1,-,-⟩:=((H0.o.2.1.keep HE.o.2.1 id).keep hk id).two;obtain ⟨e00,e01,e02⟩:=((H0.o.2.2.1.keep HE.o.2.1 id).keep hk id).three;obtain ⟨f00,f01,-,-⟩:=((H0.o.2.2.2.1.keep HE.o.2.1 id).keep hk id).two;obtain ⟨g00,g01,g02⟩:=((H0.o.r4.1.keep HE.o.2.1 id).keep hk id).three;have e0:us 55=_:=hp 0 (by kernel_rfl);obtain ⟨g9,a9,n9,c9,e9,h9⟩:(ZV Nil (x*za+y*zb)) (us 64) wj:=hp 9 (by kernel_rfl);rw [e0,e9] at hK⊢;go_simp
      refine (gathered_any (M:=Old w1) (m:=np+mp) (C:=fun v=>x*cA la v+y*cA lb v) (MB.oldLe (bZ1 HE.o.2.2 hk.size)) (HE.o.1.keepNil hk) (h9.zat (by have:=HX.o.2.2.1;omega)) HX.o.2.2.2.1 HX.o.r4 (by have:=HA.o.2.2.1;have:=HB.o.2.2.1;omega)).mono ?_;rintro e wk ⟨q,hq,v,rfl,hv,hk2⟩;refine hK.out _ _ ?_ ?_
      ·exact hk2
      ·exact (by have e:q=neatL (mulL x la++mulL y lb):=FormOf.eq (by have e0:(fun v=>x*cA la v+y*cA lb v)=cA (mulL x la++mulL y lb):=funext (fun v=>(by rw [coefL_append,coefL_mul,coefL_mul]));rw [←e0];exact hq);rw [e] at hv;exact hv)
     case' rsb3=>exact aC.cons (aC.cons (aC.cons (aC.cons (aC.cons (aC.cons (aC.cons (aC.cons (aC.cons (aC.cons (aC.cons (aC.cons (aC.nil))))))))))))
     case' rfn3=>
     intro us wz hkz hf;simp only [aM,Act.put,sL];have e0:us 55=_:=hf 0 (by decide) (by decide);have e1:us 56=_:=hf 1 (by decide) (by decide);have e2:us 57=_:=hf 2 (by decide) (by decide);have e3:us 58=_:=hf 3 (by decide) (by decide);obtain ⟨g4,a4,n4,c4,e4,h4⟩:(ZV Nil (x*za)) (us 59) wz:=hf 4 (by decide) (by decide);have e5:us 60=_:=hf 5 (by decide) (by decide);have e6:us 61=_:=hf 6 (by decide) (by decide);have e7:us 62=_:=hf 7 (by decide) (by decide);obtain ⟨g8,a8,n8,c8,e8,h8⟩:(ZV Nil (y*zb)) (us 63) wz:=hf 8 (by decide) (by decide);obtain ⟨g9,a9,n9,c9,e9,h9⟩:(ZV Nil (x*za+y*zb)) (us 64) wz:=hf 9 (by decide) (by decide);obtain ⟨ap10,np10,cp10,gk10,ak10,nk10,ck10,e10,h10⟩:(TV (Old w1) (sumT x ⟨la,za⟩ y ⟨lb,zb⟩)) (us 65) wz:=hf 10 (by decide) (by decide);clear hf;simp only [e0,e1,e2,e3,e4,e5,e6,e7,e8,e9,e10];clear e0 e1 e2 e3 e4 e5 e6 e7 e8 e9 e10 us;refine aK (rs:=[11]) (by kernel_rfl) (by simp) ?_;refine aH.cons rfl (fun K hK=>?_) aH.nil;obtain ⟨z0,z1,z2⟩:=((H0.o.r5.keep HE.o.2.1 id).keep hkz id).three;have z3:=((H0.o.r5.keep HE.o.2.1 id).keep hkz id).frozen 0;have z4:=((H0.o.r5.keep HE.o.2.1 id).keep hkz id).frozen 1;have z5:=((H0.o.r5.keep HE.o.2.1 id).keep hkz id).frozen 2;go_simp
     refine hK.out _ _ (fun _=>trivial) ?_;clear hK K;try simp only [Act.put,sL]
     refine aS (by kernel_rfl) ?_ _;go_wp2_with fail
     have r6:=((((H0.o.r5.keep HE.o.2.1 id).keep hkz id).set 0 (.slice ap10 np10 cp10)).set 1 (.bool gk10)).set 2 (.slice ak10 nk10 ck10);have ks:=((((aA.refl (One (w.heap.size+1+1+1+1)) wz).set1 0 (.slice ap10 np10 cp10)).set1 1 (.bool gk10)).set1 2 (.slice ak10 nk10 ck10));obtain ⟨y0,y1,y2⟩:=r6.three;have hlo:w.heap.size+1+1+1+1<w1.heap.size:=cZ1 lr4 H1.o.2.1.size;refine bodyPost_ret (v:=.agg #[.slice ap10 np10 cp10,.bool gk10,.slice ak10 nk10 ck10]) (by simp [results,Tryz.results82,go_sem,y0,y1,y2]) rfl ⟨_,rfl,⟨_,_,_,_,_,_,_,rfl,h10.1.move ks (fun b _ (hm:b=_)=>by rw [hm];exact hlo) (fun b _ hm=>?hB) (fun b _ (hm:b=_)=>by rw [hm];exact hlo) (fun b _ hm=>?hB2),h10.2.move ks (fun b _ (hm:b=_)=>by rw [hm];exact hlo) (fun b _ hm=>?hB3)⟩,(H0.o.1.trans (HE.o.2.1.trans hkz)).own (by omega) ks⟩;all_goals (have:=HM.o b hm;show b<w1.heap.size;omega)
end Go.Proofs.Q
