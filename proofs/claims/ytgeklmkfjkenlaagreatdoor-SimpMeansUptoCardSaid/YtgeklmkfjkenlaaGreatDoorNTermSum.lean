/- What term.sum does: so many times one term and so many times another one, in the one form. -/
import Derived.Test.YtgeklmkfjkenlaaGreatDoorNTermGath
import Derived.Test.YtgeklmkfjkenlaaGreatDoorNMuls
set_option linter.unusedSimpArgs false
set_option linter.unusedVariables false
set_option maxRecDepth 100000
set_option maxHeartbeats 4000000
namespace Go.Proofs.Q
open Go.RowKit Go.Maps Tryz
section
variable {w:World} {M:Nat→Prop} {l:aM} {a:Option Addr} {x v:Int} {P:Program} {kt:TypeId} {b L i:Nat}
def sumT (x:Int) (a:aY) (y:Int) (b:aY):aY:=⟨neatL (mulL x a.parts++mulL y b.parts),x*a.k+y*b.k⟩
theorem coefL_room (h:∀p∈l,nlen p.2.natAbs≤L) (hx:nlen x.natAbs≤L) (hl:l.length≤16777216) (v:Int):nlen (x*bX l v).natAbs≤2*L+1:=by
 have h1:∀p∈l,p.2.natAbs≤Bs ^ L:=fun p hp=>Nat.le_of_lt (cZ1 (lt_pow_nlen _) (Nat.pow_le_pow_right Bs_pos (h p hp)));have h2:=coefL_abs l h1 v;have h3:x.natAbs<Bs ^ L:=cZ1 (lt_pow_nlen _) (Nat.pow_le_pow_right Bs_pos hx);refine dB ?_;rw [Int.natAbs_mul]
 calc x.natAbs*(bX l v).natAbs≤x.natAbs*(l.length*Bs ^ L):=Nat.mul_le_mul_left _ h2
  _≤x.natAbs*(16777216*Bs ^ L):=Nat.mul_le_mul_left _ (Nat.mul_le_mul_right _ hl)
  _<Bs ^ L*(Bs*Bs ^ L):=by
   refine Nat.lt_of_le_of_lt (Nat.mul_le_mul_left _ (Nat.mul_le_mul_right _ (show 16777216≤Bs by decide))) ?_;exact Nat.mul_lt_mul_of_pos_right h3 (Nat.mul_pos Bs_pos (Nat.pow_pos Bs_pos))
  _=Bs ^ (2*L+1):=by rw [←Nat.mul_assoc,Nat.mul_comm _ Bs,Nat.mul_assoc,←Nat.pow_add,Nat.mul_comm Bs,←Nat.pow_succ];congr 1;omega
theorem coefL_take_succ (l:aM) (h:i<l.length) (v:Int):bX (l.take (i+1)) v=bX (l.take i) v+(if (pth l i).1=v then (pth l i).2 else 0):=by
 rw [List.take_succ_eq_append_getElem h,coefL_snoc,pth_lt h]
theorem coefL_i64 (h:∀p∈l,I64' p.1) (hv:bX l v≠0):I64' v:=by
 obtain ⟨p,hp,rfl⟩:=coefL_mem hv;exact h p hp
theorem CMap.congr {m:Nat} {C C':Int→Int} (h:CMap P kt M w b m C) (e:∀v,C v=C' v):CMap P kt M w b m C':=by
 obtain rfl:C=C':=funext e;exact h
theorem MB.oldLe {x:World} (h:x.heap.size≤w.heap.size):MB (Old x) w:=fun _ hb=>cZ1 hb h
theorem bU.mem {M':Nat→Prop} {n c:Nat} (h:bU M' M w a n c l):∀p∈l,nlen p.2.natAbs≤1073741824∧I64' p.1:=fun p hp=>by
 obtain ⟨i,hi,rfl⟩:=List.mem_iff_getElem.1 hp;obtain ⟨_,_,g,a',n',c',_,_,_,_,_,_,hz,hn,h1,h2⟩:=h.at (i:=i) (by have:=SlOf.len h;omega);rw [pth_lt hi] at hz h1 h2;exact⟨bZ1 hz.nlen_le hn,h1,h2⟩
theorem nlen_mul_le {y:Int} {a:Nat} (h1:nlen x.natAbs≤a) (h2:nlen y.natAbs≤b):nlen (x*y).natAbs≤a+b:=by
 rw [Int.natAbs_mul];exact bZ1 (nlen_mul _ _) (Nat.add_le_add h1 h2)
end
theorem sum_any {M M1 M2 M3 M4:Nat→Prop} {w:World} {gk gl ga gb:Bool} {ak al aa ab ap bp:Option Addr} {nk ck nl cl na ca nb cb np cp mp dp:Nat} {x y za zb:Int} {la lb:aM} (hM:MB M w) (hk:ZAt Nil w gk ak nk ck x) (hl:ZAt Nil w gl al nl cl y)
  (ha:bU M1 M2 w ap np cp la) (hb:bU M3 M4 w bp mp dp lb) (hza:ZAt Nil w ga aa na ca za) (hzb:ZAt Nil w gb ab nb cb zb) (h1:nk≤1073741824) (h2:nl≤1073741824) (h3:na≤1073741824) (h4:nb≤1073741824) (h5:np≤16777216) (h6:mp≤16777216) :
  Calls prog 115 #[.agg #[.bool gk,.slice ak nk ck],.agg #[.slice ap np cp,.bool ga,.slice aa na ca],.agg #[.bool gl,.slice al nl cl],.agg #[.slice bp mp dp,.bool gb,.slice ab nb cb]] w fun e w'=>Gives Nil (TV M (sumT x ⟨la,za⟩ y ⟨lb,zb⟩)) w e w':=by
 have hlen:=SlOf.len ha;have hlen2:=SlOf.len hb;have HA:=jJ (aI4 ha hza h5 hlen);have HB:=jJ (aI4 hb hzb h6 hlen2);have HK:=jJ (aI hk h1);have HL:=jJ (aI hl h2);have HZ:=jJ (aI h3 h4);have HM:=jJ hM;have hmm:=@run_makeMap prog;clear ha hb hza hzb hk hl hM h1 h2 h3 h4 hlen hlen2;go_enter func115,ntmps115
 go_upto_region 1 with (fail)
 have r0:=(aC.alloc (w:=w) (E:=41) (xs:=[.bool gk,.slice ak nk ck])).keep (M:=Nil) (w':=(((((w.alloc (.cells #[.bool gk,.slice ak nk ck] 41)).alloc (.cells #[.slice ap np cp,.bool ga,.slice aa na ca] 43)).alloc (.cells #[.bool gl,.slice al nl cl] 41)).alloc (.cells #[.slice bp mp dp,.bool gb,.slice ab nb cb] 43)).alloc (.cells #[.slice none 0 0,.bool false,.slice none 0 0] 43))) kOf id;have r1:=(aC.alloc (w:=(w.alloc (.cells #[.bool gk,.slice ak nk ck] 41))) (E:=43) (xs:=[.slice ap np cp,.bool ga,.slice aa na ca])).keep (M:=Nil) (w':=(((((w.alloc (.cells #[.bool gk,.slice ak nk ck] 41)).alloc (.cells #[.slice ap np cp,.bool ga,.slice aa na ca] 43)).alloc (.cells #[.bool gl,.slice al nl cl] 41)).alloc (.cells #[.slice bp mp dp,.bool gb,.slice ab nb cb] 43)).alloc (.cells #[.slice none 0 0,.bool false,.slice none 0 0] 43))) kOf id;rw [show (w.alloc (.cells #[.bool gk,.slice ak nk ck] 41)).heap.size=w.heap.size+1 by simp] at r1;have r2:=(aC.alloc (w:=((w.alloc (.cells #[.bool gk,.slice ak nk ck] 41)).alloc (.cells #[.slice ap np cp,.bool ga,.slice aa na ca] 43))) (E:=41) (xs:=[.bool gl,.slice al nl cl])).keep (M:=Nil) (w':=(((((w.alloc (.cells #[.bool gk,.slice ak nk ck] 41)).alloc (.cells #[.slice ap np cp,.bool ga,.slice aa na ca] 43)).alloc (.cells #[.bool gl,.slice al nl cl] 41)).alloc (.cells #[.slice bp mp dp,.bool gb,.slice ab nb cb] 43)).alloc (.cells #[.slice none 0 0,.bool false,.slice none 0 0] 43))) kOf id;rw [show ((w.alloc (.cells #[.bool gk,.slice ak nk ck] 41)).alloc (.cells #[.slice ap np cp,.bool ga,.slice aa na ca] 43)).heap.size=w.heap.size+1+1 by simp] at r2;have r3:=(aC.alloc (w:=(((w.alloc (.cells #[.bool gk,.slice ak nk ck] 41)).alloc (.cells #[.slice ap np cp,.bool ga,.slice aa na ca] 43)).alloc (.cells #[.bool gl,.slice al nl cl] 41))) (E:=43) (xs:=[.slice bp mp dp,.bool gb,.slice ab nb cb])).keep (M:=Nil) (w':=(((((w.alloc (.cells #[.bool gk,.slice ak nk ck] 41)).alloc (.cells #[.slice ap np cp,.bool ga,.slice aa na ca] 43)).alloc (.cells #[.bool gl,.slice al nl cl] 41)).alloc (.cells #[.slice bp mp dp,.bool gb,.slice ab nb cb] 43)).alloc (.cells #[.slice none 0 0,.bool false,.slice none 0 0] 43))) kOf id;rw [show (((w.alloc (.cells #[.bool gk,.slice ak nk ck] 41)).alloc (.cells #[.slice ap np cp,.bool ga,.slice aa na ca] 43)).alloc (.cells #[.bool gl,.slice al nl cl] 41)).heap.size=w.heap.size+1+1+1 by simp] at r3;have r4:=aC.alloc (w:=((((w.alloc (.cells #[.bool gk,.slice ak nk ck] 41)).alloc (.cells #[.slice ap np cp,.bool ga,.slice aa na ca] 43)).alloc (.cells #[.bool gl,.slice al nl cl] 41)).alloc (.cells #[.slice bp mp dp,.bool gb,.slice ab nb cb] 43))) (E:=43) (xs:=[.slice none 0 0,.bool false,.slice none 0 0]);change aC (((((w.alloc (.cells #[.bool gk,.slice ak nk ck] 41)).alloc (.cells #[.slice ap np cp,.bool ga,.slice aa na ca] 43)).alloc (.cells #[.bool gl,.slice al nl cl] 41)).alloc (.cells #[.slice bp mp dp,.bool gb,.slice ab nb cb] 43)).alloc (.cells #[.slice none 0 0,.bool false,.slice none 0 0] 43)) _ _ _ at r4;rw [show ((((w.alloc (.cells #[.bool gk,.slice ak nk ck] 41)).alloc (.cells #[.slice ap np cp,.bool ga,.slice aa na ca] 43)).alloc (.cells #[.bool gl,.slice al nl cl] 41)).alloc (.cells #[.slice bp mp dp,.bool gb,.slice ab nb cb] 43)).heap.size=w.heap.size+1+1+1+1 by simp] at r4;have k0:aA Nil w (((((w.alloc (.cells #[.bool gk,.slice ak nk ck] 41)).alloc (.cells #[.slice ap np cp,.bool ga,.slice aa na ca] 43)).alloc (.cells #[.bool gl,.slice al nl cl] 41)).alloc (.cells #[.slice bp mp dp,.bool gb,.slice ab nb cb] 43)).alloc (.cells #[.slice none 0 0,.bool false,.slice none 0 0] 43)):=kOf;generalize (((((w.alloc (.cells #[.bool gk,.slice ak nk ck] 41)).alloc (.cells #[.slice ap np cp,.bool ga,.slice aa na ca] 43)).alloc (.cells #[.bool gl,.slice al nl cl] 41)).alloc (.cells #[.slice bp mp dp,.bool gb,.slice ab nb cb] 43)).alloc (.cells #[.slice none 0 0,.bool false,.slice none 0 0] 43))=w0 at *
 have lr4:=r4.lt;have H0:=jJ (aI6 k0 r0 r1 r2 r3 r4);clear k0 r0 r1 r2 r3 r4;go_upto_region 2 with fail
 have hcm0:=CMap.made (P:=prog) (kt:=3) (Old (w0.alloc (.map #[] 0))) w0;have k01:aA Nil w0 (w0.alloc (.map #[] 0)):=kOf;have hsz1:(w0.alloc (.map #[] 0)).heap.size=w0.heap.size+1:=by simp
 generalize w0.alloc (.map #[] 0)=w1 at *
 have H1:=jJ (aI3 hcm0 k01 hsz1);clear hcm0 k01 hsz1;obtain ⟨c10,c11,c12⟩:=(H0.o.2.2.1.keep H1.o.2.1 id).three;go_wp2_with fail
 clear c10 c11 c12;have hcap:=SlOf.cap HA.o.1;have hle:=SlOf.le HA.o.1;go_loopw [18] (fun iv wr=>∃k:Nat,k≤np∧iv=.int .i64 (k:Int)∧CMap prog 3 (Old w1) wr w0.heap.size k (fun v=>x*bX (la.take k) v)∧aA Nil w0 wr∧w1.heap.size≤wr.heap.size) (fun iv _=>np-(intOf iv).toNat)
 case atStart=>exact⟨0,aZ2 _,rfl,H1.o.1.congr (fun v=>by simp [bX]),H1.o.2.1,bZ2 _⟩
 case round=>
  obtain ⟨k,hk,rfl,hcm,hkr,hsr⟩:=hrel;by_cases hlt:k<np
  ·have j0:(0:Int)≤(k:Int):=by omega
   have j1:(k:Int)<(np:Int):=by omega
   obtain ⟨b,off,g,a',n',c',hae,hb,-,x0,x1,x2,hz,hn',i1,i2⟩:=(HA.o.1.keepNil (H0.o.1.trans hkr)).at hlt;subst hae;have hs:=coefL_take_succ la (i:=k) (by have:=HA.o.2.2.2;omega);generalize pth la k=p at *
   obtain ⟨v,c⟩:=p;have hkb:aA Nil wr (wr.alloc (.cells #[.int .i64 v,.bool g,.slice a' n' c'] 117)):=kOf;have rp:=aC.alloc (w:=wr) (E:=117) (xs:=[.int .i64 v,.bool g,.slice a' n' c']);change aC (wr.alloc (.cells #[.int .i64 v,.bool g,.slice a' n' c'] 117)) _ _ _ at rp;have HC:=jJ (aI6 hcm hkr hsr hz hn' hs);clear hcm hkr hsr hz hn' hs;go_upto_region 5 with (fail)
   generalize wr.alloc (.cells #[.int .i64 v,.bool g,.slice a' n' c'] 117)=wb at *
   obtain ⟨gl1,al1,nl1,cl1,hzl,hlook⟩:=(HC.o.1.keepNil hkb).look (t:=192) (e:=41) underlying3 underlying192 zero_Int (v:=v) ⟨i1,i2⟩;have hx:nlen x.natAbs≤1073741824:=bZ1 HK.o.1.nlen_le HK.o.2;have hall:=HA.o.1.mem;have hroom:=coefL_room (l:=la.take k) (fun p hp=>(hall p (bZ3 hp)).1) hx (by rw [iZ1];have:=HA.o.2.2.1;omega) v;have hroomc:=nlen_mul_le hx (bZ1 HC.o.2.2.2.1.nlen_le HC.o.r4.1);have hnl:=hzl.len;have HD:=jJ (aI7 rp hkb hlook hzl (show nlen (x*bX (la.take k) v).natAbs≤2147483649 from hroom) hroomc hnl);clear rp hkb hlook hzl hx hall hroom hroomc hnl;refine aX 13 [12] [22,23,24,25,26,27,28,29,30,31,32,33,1045] [22,23,24,25,26,27,28,29,30,31,32,33] [Un (LitV ?v1_0),Un (LitV ?v1_1),Un (LitV ?v1_2),Un (LitV ?v1_3),Un (LitV ?v1_4),Un (LitV ?v1_5),Un (LitV ?v1_6),Un (LitV ?v1_7),Un (LitV ?v1_8),Un (LitV ?v1_9),Un (ZV Nil (x*c)),Un (ZV (Old w1) (x*bX (la.take k) v+x*c)),nothing] (aB.sk (aB.nx ?r1_11 (aB.nx ?r1_10 (aB.nx ?r1_9 (aB.nx ?r1_8 (aB.nx ?r1_7 (aB.nx ?r1_6 (aB.nx ?r1_5 (aB.nx ?r1_4 (aB.nx ?r1_3 (aB.nx ?r1_2 (aB.nx ?r1_1 (aB.nx ?r1_0 aB.zero))))))))))))) ?rfn1
   case' r1_0|r1_1|r1_2|r1_3|r1_4|r1_5|r1_6|r1_7|r1_8|r1_9|r1_10|r1_11=>
    intro us wj hk hp K hK;try simp only [aP,Act.put,sL] at hK⊢
    obtain ⟨d0,d1,d2⟩:=(HD.o.1.keep hk id).three;obtain ⟨e0',e1',-,-⟩:=(((H0.o.2.1.keep HC.o.2.1 id).keep HD.o.2.1 id).keep hk id).two;have hlk:=HD.o.2.2.1 _ hk
   case' r1_0|r1_1|r1_3|r1_4|r1_7|r1_8=>
    go_simp
    refine hK.out _ _ (aA.refl _ _) ?_;exact rfl
   case' r1_2=>
    have e1:us 23=_:=hp 1;rw [e1] at hK⊢;go_simp
    refine hK.out _ _ (aA.refl _ _) ?_;exact rfl
   case' r1_5=>
    have e4:us 26=_:=hp 4;rw [e4] at hK⊢;go_simp
    refine hK.out _ _ (aA.refl _ _) ?_;exact rfl
   case' r1_6=>
    have e3:us 25=_:=hp 3;have e5:us 27=_:=hp 5;rw [e3,e5] at hK⊢;go_simp
    refine hK.out _ _ (aA.refl _ _) ?_;exact rfl
   case' r1_9=>
    have e8:us 30=_:=hp 8;rw [e8] at hK⊢;go_simp
    refine hK.out _ _ (aA.refl _ _) ?_;exact rfl
   case' r1_10=>
    have e7:us 29=_:=hp 7;have e9:us 31=_:=hp 9;rw [e7,e9] at hK⊢;go_simp
    refine (zmul_any (M:=Nil) (MB.nil _) (HK.o.1.keepNil (H0.o.1.trans (HC.o.2.1.trans (HD.o.2.1.trans hk)))) (HC.o.2.2.2.1.toNil.keepNil (HD.o.2.1.trans hk)) (by have:=HK.o.2;have:=HC.o.r4.1;omega)).mono ?_;rintro e wk ⟨g,a,n,c,rfl,h,hk2⟩;exact hK.out _ _ hk2 (⟨g,a,n,c,rfl,h⟩)
   case' r1_11=>
    have e6:us 28=_:=hp 6;obtain ⟨g10,a10,n10,c10,e10,h10⟩:(ZV Nil (x*c)) (us 32) wj:=hp 10;rw [e6,e10] at hK⊢;go_simp
    refine (zadd_any (M:=Old w1) (MB.oldLe (bZ1 HC.o.2.2.1 (HD.o.2.1.trans hk).size)) ((HD.o.2.2.2.1.zat (by have:=HD.o.r4.1;omega)).keepNil hk) (h10.zat (by have:=HD.o.r5.1;dsimp only at this;omega)) (by have:=HD.o.r4.1;have:=HD.o.r6;omega) (by have:=HD.o.r5.1;have:=h10.len;dsimp only at *;omega)).mono ?_;rintro e wk ⟨g,a,n,c,rfl,h,hk2⟩;exact hK.out _ _ hk2 (⟨g,a,n,c,rfl,h⟩)
   case' rfn1=>
   intro us wz hkz hf;simp only [aP,Act.put,sL];have e0:us 22=_:=hf 0;have e1:us 23=_:=hf 1;have e2:us 24=_:=hf 2;have e3:us 25=_:=hf 3;have e4:us 26=_:=hf 4;have e5:us 27=_:=hf 5;have e6:us 28=_:=hf 6;have e7:us 29=_:=hf 7;have e8:us 30=_:=hf 8;have e9:us 31=_:=hf 9;obtain ⟨g10,a10,n10,c10,e10,h10⟩:(ZV Nil (x*c)) (us 32) wz:=hf 10;obtain ⟨g11,a11,n11,c11,e11,h11⟩:(ZV (Old w1) (x*bX (la.take k) v+x*c)) (us 33) wz:=hf 11;clear hf;simp only [e0,e1,e2,e3,e4,e5,e6,e7,e8,e9,e10,e11];clear e0 e1 e2 e3 e4 e5 e6 e7 e8 e9 e10 e11 us;refine aK 12 fun K hK=>?_;obtain ⟨w9,hrun,hcm9,hk9⟩:=CMap.put (t:=192) (e:=41) ((HC.o.1.keepNil HD.o.2.1).keepNil hkz) underlying3 underlying192 (v:=v) ⟨i1,i2⟩ (by have:=HA.o.2.2.1;omega) (show w0.heap.size<w1.heap.size by have:=H1.o.2.2;omega) h11;go_simp
   refine mK ?_;clear hK K;refine aQ (by kernel_rfl) ?_ _;have H9:=jJ (aI3 hcm9 hk9 hkz);clear hcm9 hk9 hkz hrun;go_wp2_with fail
   go_roundw
   case rel=>exact⟨k+1,by omega,by go_num,H9.o.1.congr (fun u=>by rw [HC.o.r5 u];dsimp only;by_cases e:v=u<;>simp [e,Int.mul_add]),(HC.o.2.1.trans (HD.o.2.1.trans H9.o.2.2)).own (bZ2 _) H9.o.2.1,bZ1 HC.o.2.2.1 (bZ1 (HD.o.2.1.trans H9.o.2.2).size H9.o.2.1.size)⟩
   case measure=>simp [intOf];omega
  ·have ekn:np=k:=by omega
   subst ekn;rw [eZ1 (by have:=HA.o.2.2.2;omega)] at hcm;have hx:nlen x.natAbs≤1073741824:=bZ1 HK.o.1.nlen_le HK.o.2;have hy:nlen y.natAbs≤1073741824:=bZ1 HL.o.1.nlen_le HL.o.2;have hall:=HA.o.1.mem;have hall2:=HB.o.1.mem;have hroom1:=coefL_room (l:=la) (fun p hp=>(hall p hp).1) hx (by have:=HA.o.2.2;omega);have HC:=jJ (aI8 hcm hkr hsr hx hy hall hall2 hroom1);obtain ⟨c10,c11,c12⟩:=(H0.o.r4.1.keep hkr id).three;have hcapb:=SlOf.cap HB.o.1;have hleb:=SlOf.le HB.o.1;clear hcm hkr hsr hx hy hall hall2 hroom1 hcap hle hlt hk;go_wp2_with fail
   clear c10 c11 c12;rename World=>wq;go_loopw [38] (fun iv wr=>∃k:Nat,k≤mp∧iv=.int .i64 (k:Int)∧CMap prog 3 (Old w1) wr w0.heap.size (np+k) (fun v=>x*bX la v+y*bX (lb.take k) v)∧aA Nil w0 wr∧w1.heap.size≤wr.heap.size) (fun iv _=>mp-(intOf iv).toNat)
   case atStart=>exact⟨0,aZ2 _,rfl,HC.o.1.congr (fun v=>by simp [bX]),HC.o.2.1,HC.o.2.2.1⟩
   case round=>
    obtain ⟨k,hk,rfl,hcm,hkr,hsr⟩:=hrel;by_cases hlt:k<mp
    ·have j0:(0:Int)≤(k:Int):=by omega
     have j1:(k:Int)<(mp:Int):=by omega
     obtain ⟨b,off,g,a',n',c',hae,hb,-,x0,x1,x2,hz,hn',i1,i2⟩:=(HB.o.1.keepNil (H0.o.1.trans hkr)).at hlt;subst hae;have hs:=coefL_take_succ lb (i:=k) (by have:=HB.o.2.2.2;omega);generalize pth lb k=p at *
     obtain ⟨v,c⟩:=p;have hkb:aA Nil wr (wr.alloc (.cells #[.int .i64 v,.bool g,.slice a' n' c'] 117)):=kOf;have rp:=aC.alloc (w:=wr) (E:=117) (xs:=[.int .i64 v,.bool g,.slice a' n' c']);change aC (wr.alloc (.cells #[.int .i64 v,.bool g,.slice a' n' c'] 117)) _ _ _ at rp;have HE:=jJ (aI6 hcm hkr hsr hz hn' hs);clear hcm hkr hsr hz hn' hs;go_upto_region 10 with (fail)
     generalize wr.alloc (.cells #[.int .i64 v,.bool g,.slice a' n' c'] 117)=wb at *
     obtain ⟨gl1,al1,nl1,cl1,hzl,hlook⟩:=(HE.o.1.keepNil hkb).look (t:=192) (e:=41) underlying3 underlying192 zero_Int (v:=v) ⟨i1,i2⟩;have hroom:=coefL_room (l:=lb.take k) (fun p hp=>(HC.o.r6.1 p (bZ3 hp)).1) HC.o.r4.1 (by rw [iZ1];have:=HB.o.2.2.1;omega) v;have hroom2:=bZ1 (nlen_natAbs_add (x*bX la v) (y*bX (lb.take k) v)) (show _≤2147483650 by have:=HC.o.r7 v;omega);have hroomc:=nlen_mul_le HC.o.r4.1 (bZ1 HE.o.2.2.2.1.nlen_le HE.o.r4.1);have hnl:=hzl.len;have HD:=jJ (aI7 rp hkb hlook hzl hroom2 hroomc hnl);clear rp hkb hlook hzl hroom hroom2 hroomc hnl;refine aX 13 [12] [42,43,44,45,46,47,48,49,50,51,52,53,1065] [42,43,44,45,46,47,48,49,50,51,52,53] [Un (LitV ?v2_0),Un (LitV ?v2_1),Un (LitV ?v2_2),Un (LitV ?v2_3),Un (LitV ?v2_4),Un (LitV ?v2_5),Un (LitV ?v2_6),Un (LitV ?v2_7),Un (LitV ?v2_8),Un (LitV ?v2_9),Un (ZV Nil (y*c)),Un (ZV (Old w1) (x*bX la v+y*bX (lb.take k) v+y*c)),nothing] (aB.sk (aB.nx ?r2_11 (aB.nx ?r2_10 (aB.nx ?r2_9 (aB.nx ?r2_8 (aB.nx ?r2_7 (aB.nx ?r2_6 (aB.nx ?r2_5 (aB.nx ?r2_4 (aB.nx ?r2_3 (aB.nx ?r2_2 (aB.nx ?r2_1 (aB.nx ?r2_0 aB.zero))))))))))))) ?rfn2
     case' r2_0|r2_1|r2_2|r2_3|r2_4|r2_5|r2_6|r2_7|r2_8|r2_9|r2_10|r2_11=>
      intro us wj hk hp K hK;try simp only [aP,Act.put,sL] at hK⊢
      obtain ⟨d0,d1,d2⟩:=(HD.o.1.keep hk id).three;obtain ⟨e0',e1',-,-⟩:=(((H0.o.2.2.2.1.keep HE.o.2.1 id).keep HD.o.2.1 id).keep hk id).two;have hlk:=HD.o.2.2.1 _ hk
     case' r2_0|r2_1|r2_3|r2_4|r2_7|r2_8=>
      go_simp
      refine hK.out _ _ (aA.refl _ _) ?_;exact rfl
     case' r2_2=>
      have e1:us 43=_:=hp 1;rw [e1] at hK⊢;go_simp
      refine hK.out _ _ (aA.refl _ _) ?_;exact rfl
     case' r2_5=>
      have e4:us 46=_:=hp 4;rw [e4] at hK⊢;go_simp
      refine hK.out _ _ (aA.refl _ _) ?_;exact rfl
     case' r2_6=>
      have e3:us 45=_:=hp 3;have e5:us 47=_:=hp 5;rw [e3,e5] at hK⊢;go_simp
      refine hK.out _ _ (aA.refl _ _) ?_;exact rfl
     case' r2_9=>
      have e8:us 50=_:=hp 8;rw [e8] at hK⊢;go_simp
      refine hK.out _ _ (aA.refl _ _) ?_;exact rfl
     case' r2_10=>
      have e7:us 49=_:=hp 7;have e9:us 51=_:=hp 9;rw [e7,e9] at hK⊢;go_simp
      refine (zmul_any (M:=Nil) (MB.nil _) (HL.o.1.keepNil (H0.o.1.trans (HE.o.2.1.trans (HD.o.2.1.trans hk)))) (HE.o.2.2.2.1.toNil.keepNil (HD.o.2.1.trans hk)) (by have:=HL.o.2;have:=HE.o.r4.1;omega)).mono ?_;rintro e wk ⟨g,a,n,c,rfl,h,hk2⟩;exact hK.out _ _ hk2 (⟨g,a,n,c,rfl,h⟩)
     case' r2_11=>
      have e6:us 48=_:=hp 6;obtain ⟨g10,a10,n10,c10,e10,h10⟩:(ZV Nil (y*c)) (us 52) wj:=hp 10;rw [e6,e10] at hK⊢;go_simp
      refine (zadd_any (M:=Old w1) (MB.oldLe (bZ1 HE.o.2.2.1 (HD.o.2.1.trans hk).size)) ((HD.o.2.2.2.1.zat (by have:=HD.o.r4.1;omega)).keepNil hk) (h10.zat (by have:=HD.o.r5.1;dsimp only at this;omega)) (by have:=HD.o.r4.1;have:=HD.o.r6;omega) (by have:=HD.o.r5.1;have:=h10.len;dsimp only at *;omega)).mono ?_;rintro e wk ⟨g,a,n,c,rfl,h,hk2⟩;exact hK.out _ _ hk2 (⟨g,a,n,c,rfl,h⟩)
     case' rfn2=>
     intro us wz hkz hf;simp only [aP,Act.put,sL];have e0:us 42=_:=hf 0;have e1:us 43=_:=hf 1;have e2:us 44=_:=hf 2;have e3:us 45=_:=hf 3;have e4:us 46=_:=hf 4;have e5:us 47=_:=hf 5;have e6:us 48=_:=hf 6;have e7:us 49=_:=hf 7;have e8:us 50=_:=hf 8;have e9:us 51=_:=hf 9;obtain ⟨g10,a10,n10,c10,e10,h10⟩:(ZV Nil (y*c)) (us 52) wz:=hf 10;obtain ⟨g11,a11,n11,c11,e11,h11⟩:(ZV (Old w1) (x*bX la v+y*bX (lb.take k) v+y*c)) (us 53) wz:=hf 11;clear hf;simp only [e0,e1,e2,e3,e4,e5,e6,e7,e8,e9,e10,e11];clear e0 e1 e2 e3 e4 e5 e6 e7 e8 e9 e10 e11 us;refine aK 12 fun K hK=>?_;obtain ⟨w9,hrun,hcm9,hk9⟩:=CMap.put (t:=192) (e:=41) ((HE.o.1.keepNil HD.o.2.1).keepNil hkz) underlying3 underlying192 (v:=v) ⟨i1,i2⟩ (by have:=HA.o.2.2.1;have:=HB.o.2.2.1;omega) (show w0.heap.size<w1.heap.size by have:=H1.o.2.2;omega) h11;go_simp
     refine mK ?_;clear hK K;refine aQ (by kernel_rfl) ?_ _;have H9:=jJ (aI3 hcm9 hk9 hkz);clear hcm9 hk9 hkz hrun;go_wp2_with fail
     go_roundw
     case rel=>exact⟨k+1,by omega,by go_num,H9.o.1.congr (fun u=>by rw [HE.o.r5 u];dsimp only;by_cases e:v=u<;>simp [e,Int.mul_add,Int.add_assoc]),(HE.o.2.1.trans (HD.o.2.1.trans H9.o.2.2)).own (bZ2 _) H9.o.2.1,bZ1 HE.o.2.2.1 (bZ1 (HD.o.2.1.trans H9.o.2.2).size H9.o.2.1.size)⟩
     case measure=>simp [intOf];omega
    ·have ekn:mp=k:=by omega
     subst ekn;rw [eZ1 (by have:=HB.o.2.2.2;omega)] at hcm;have HE:=jJ (aI3 hcm hkr hsr);clear hcm hkr hsr;have hn4:=nlen_mul_le HC.o.2.2.2.1 (bZ1 HA.o.2.1.nlen_le HZ.o.1);have hn8:=nlen_mul_le HC.o.r4.1 (bZ1 HB.o.2.1.nlen_le HZ.o.2);have hn9:=nlen_natAbs_add (x*za) (y*zb);have hroom2:=coefL_room (l:=lb) (fun p hp=>(HC.o.r6.1 p hp).1) HC.o.r4.1 (by have:=HB.o.2.2;omega);have hn10:∀v,nlen (x*bX la v+y*bX lb v).natAbs*4+4≤140737488355328:=fun v=>by
      have q1:=nlen_natAbs_add (x*bX la v) (y*bX lb v);have q2:=HC.o.r7 v;have q3:=hroom2 v;omega
     have hi64:∀v,x*bX la v+y*bX lb v≠0→I64' v:=fun v hv=>by
      by_cases e1:bX la v=0
      ·by_cases e2:bX lb v=0
       ·rw [e1,e2] at hv;simp at hv
       ·exact coefL_i64 (fun p hp=>(HC.o.r6.1 p hp).2) e2
      ·exact coefL_i64 (fun p hp=>(HC.o.r5.1 p hp).2) e1
     have HX:=jJ (aI5 hn4 hn8 (show nlen (x*za+y*zb).natAbs≤2147483649 by omega) hi64 hn10);clear hn4 hn8 hn9 hn10 hroom2 hi64;go_upto_region 12 with (fail)
     refine aX 12 [11] [55,56,57,58,59,60,61,62,63,64,65,1076] [55,56,57,58,59,60,61,62,63,64,65] [Un (LitV ?v3_0),Un (LitV ?v3_1),Un (LitV ?v3_2),Un (LitV ?v3_3),Un (ZV Nil (x*za)),Un (LitV ?v3_5),Un (LitV ?v3_6),Un (LitV ?v3_7),Un (ZV Nil (y*zb)),Un (ZV Nil (x*za+y*zb)),Un (TV (Old w1) (sumT x ⟨la,za⟩ y ⟨lb,zb⟩)),nothing] (aB.sk (aB.nx ?r3_10 (aB.nx ?r3_9 (aB.nx ?r3_8 (aB.nx ?r3_7 (aB.nx ?r3_6 (aB.nx ?r3_5 (aB.nx ?r3_4 (aB.nx ?r3_3 (aB.nx ?r3_2 (aB.nx ?r3_1 (aB.nx ?r3_0 aB.zero)))))))))))) ?rfn3
     case' r3_0|r3_1|r3_2|r3_3|r3_4|r3_5|r3_6|r3_7|r3_8|r3_9|r3_10=>
      intro us wj hk hp K hK;try simp only [aP,Act.put,sL] at hK⊢
      obtain ⟨d0,d1,-,-⟩:=((H0.o.2.1.keep HE.o.2.1 id).keep hk id).two;obtain ⟨e00,e01,e02⟩:=((H0.o.2.2.1.keep HE.o.2.1 id).keep hk id).three;obtain ⟨f00,f01,-,-⟩:=((H0.o.2.2.2.1.keep HE.o.2.1 id).keep hk id).two;obtain ⟨g00,g01,g02⟩:=((H0.o.r4.1.keep HE.o.2.1 id).keep hk id).three
     case' r3_0|r3_1|r3_2|r3_5|r3_6=>
      go_simp
      refine hK.out _ _ (aA.refl _ _) ?_;exact rfl
     case' r3_3=>
      have e2:us 57=_:=hp 2;rw [e2] at hK⊢;go_simp
      refine hK.out _ _ (aA.refl _ _) ?_;exact rfl
     case' r3_4=>
      have e1:us 56=_:=hp 1;have e3:us 58=_:=hp 3;rw [e1,e3] at hK⊢;go_simp
      refine (zmul_any (M:=Nil) (MB.nil _) (HK.o.1.keepNil (H0.o.1.trans (HE.o.2.1.trans hk))) (HA.o.2.1.keepNil (H0.o.1.trans (HE.o.2.1.trans hk))) (by have:=HK.o.2;have:=HZ.o.1;omega)).mono ?_;rintro e wk ⟨g,a,n,c,rfl,h,hk2⟩;exact hK.out _ _ hk2 (⟨g,a,n,c,rfl,h⟩)
     case' r3_7=>
      have e6:us 61=_:=hp 6;rw [e6] at hK⊢;go_simp
      refine hK.out _ _ (aA.refl _ _) ?_;exact rfl
     case' r3_8=>
      have e5:us 60=_:=hp 5;have e7:us 62=_:=hp 7;rw [e5,e7] at hK⊢;go_simp
      refine (zmul_any (M:=Nil) (MB.nil _) (HL.o.1.keepNil (H0.o.1.trans (HE.o.2.1.trans hk))) (HB.o.2.1.keepNil (H0.o.1.trans (HE.o.2.1.trans hk))) (by have:=HL.o.2;have:=HZ.o.2;omega)).mono ?_;rintro e wk ⟨g,a,n,c,rfl,h,hk2⟩;exact hK.out _ _ hk2 (⟨g,a,n,c,rfl,h⟩)
     case' r3_9=>
      obtain ⟨g4,a4,n4,c4,e4,h4⟩:(ZV Nil (x*za)) (us 59) wj:=hp 4;obtain ⟨g8,a8,n8,c8,e8,h8⟩:(ZV Nil (y*zb)) (us 63) wj:=hp 8;rw [e4,e8] at hK⊢;go_simp
      refine (zadd_any (M:=Nil) (MB.nil _) (h4.zat (by have:=HX.o.1;omega)) (h8.zat (by have:=HX.o.2.1;omega)) (by have:=HX.o.1;have:=h4.len;omega) (by have:=HX.o.2.1;have:=h8.len;omega)).mono ?_;rintro e wk ⟨g,a,n,c,rfl,h,hk2⟩;exact hK.out _ _ hk2 (⟨g,a,n,c,rfl,h⟩)
     case' r3_10=>
      have e0:us 55=_:=hp 0;obtain ⟨g9,a9,n9,c9,e9,h9⟩:(ZV Nil (x*za+y*zb)) (us 64) wj:=hp 9;rw [e0,e9] at hK⊢;go_simp
      refine (gathered_any (M:=Old w1) (m:=np+mp) (C:=fun v=>x*bX la v+y*bX lb v) (MB.oldLe (bZ1 HE.o.2.2 hk.size)) (HE.o.1.keepNil hk) (h9.zat (by have:=HX.o.2.2.1;omega)) HX.o.2.2.2.1 HX.o.r4 (by have:=HA.o.2.2.1;have:=HB.o.2.2.1;omega)).mono ?_;rintro e wk ⟨q,hq,v,rfl,hv,hk2⟩;exact hK.out _ _ hk2 ((by have e:q=neatL (mulL x la++mulL y lb):=FormOf.eq (by have e0:(fun v=>x*bX la v+y*bX lb v)=bX (mulL x la++mulL y lb):=funext (fun v=>(by rw [coefL_append,coefL_mul,coefL_mul]));rw [←e0];exact hq);rw [e] at hv;exact hv))
     case' rfn3=>
     intro us wz hkz hf;simp only [aP,Act.put,sL];have e0:us 55=_:=hf 0;have e1:us 56=_:=hf 1;have e2:us 57=_:=hf 2;have e3:us 58=_:=hf 3;obtain ⟨g4,a4,n4,c4,e4,h4⟩:(ZV Nil (x*za)) (us 59) wz:=hf 4;have e5:us 60=_:=hf 5;have e6:us 61=_:=hf 6;have e7:us 62=_:=hf 7;obtain ⟨g8,a8,n8,c8,e8,h8⟩:(ZV Nil (y*zb)) (us 63) wz:=hf 8;obtain ⟨g9,a9,n9,c9,e9,h9⟩:(ZV Nil (x*za+y*zb)) (us 64) wz:=hf 9;obtain ⟨ap10,np10,cp10,gk10,ak10,nk10,ck10,e10,h10⟩:(TV (Old w1) (sumT x ⟨la,za⟩ y ⟨lb,zb⟩)) (us 65) wz:=hf 10;clear hf;simp only [e0,e1,e2,e3,e4,e5,e6,e7,e8,e9,e10];clear e0 e1 e2 e3 e4 e5 e6 e7 e8 e9 e10 us;refine aK 11 fun K hK=>?_;obtain ⟨z0,z1,z2⟩:=((H0.o.r5.keep HE.o.2.1 id).keep hkz id).three;have z3:=((H0.o.r5.keep HE.o.2.1 id).keep hkz id).frozen 0;have z4:=((H0.o.r5.keep HE.o.2.1 id).keep hkz id).frozen 1;have z5:=((H0.o.r5.keep HE.o.2.1 id).keep hkz id).frozen 2;go_simp
     refine mK ?_;clear hK K;refine aQ (by kernel_rfl) ?_ _;go_wp2_with fail
     have r6:=((((H0.o.r5.keep HE.o.2.1 id).keep hkz id).set 0 (.slice ap10 np10 cp10)).set 1 (.bool gk10)).set 2 (.slice ak10 nk10 ck10);have ks:=((((aA.refl (One (w.heap.size+1+1+1+1)) wz).set1 0 (.slice ap10 np10 cp10)).set1 1 (.bool gk10)).set1 2 (.slice ak10 nk10 ck10));obtain ⟨y0,y1,y2⟩:=r6.three;have hlo:w.heap.size+1+1+1+1<w1.heap.size:=cZ1 lr4 H1.o.2.1.size;refine bodyPost_ret (v:=.agg #[.slice ap10 np10 cp10,.bool gk10,.slice ak10 nk10 ck10]) (by simp [results,results115,go_sem,y0,y1,y2]) rfl ⟨_,rfl,⟨_,_,_,_,_,_,_,rfl,h10.1.move ks (fun b _ (hm:b=_)=>by rw [hm];exact hlo) (fun b _ hm=>?hB) (fun b _ (hm:b=_)=>by rw [hm];exact hlo) (fun b _ hm=>?hB2),h10.2.move ks (fun b _ (hm:b=_)=>by rw [hm];exact hlo) (fun b _ hm=>?hB3)⟩,(H0.o.1.trans (HE.o.2.1.trans hkz)).own (by omega) ks⟩;all_goals (have:=HM.o b hm;show b<w1.heap.size;omega)
end Go.Proofs.Q
