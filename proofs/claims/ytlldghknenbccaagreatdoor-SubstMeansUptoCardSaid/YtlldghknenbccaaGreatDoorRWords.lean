/- Plain words for the walks: which blocks may be written, what a slice of whatever elements reads as, numbers as. -/
import Derived.Deep.RegionHeld3
import Derived.Maps.Ext
import Derived.Maps.RangeWalk
import Derived.Deep.LoopGhost
import Derived.Deep.DeepHandedRow
import Derived.Deep.DeepCutAuto
import Derived.Deep.CutBlock
import Derived.OpenShut
import Derived.WalkSpells
import Derived.WalkLawsBesides
import Derived.Lib.Hide
import Derived.BigQuiet
import Derived.Laws.CopyOwn
import Derived.Sort.Grow
set_option linter.unusedSimpArgs false
set_option linter.unusedVariables false
namespace Go.Proofs.Q
open Go.RowKit
theorem zZ {p:Prop} (h:p:=by omega):p:=h
theorem zY {p:Prop} (h:p:=by decide):p:=h
theorem zX {p:Prop} (h:p:=by kernel_rfl):p:=h
theorem zW {p:Prop} (h:p:=by simp):p:=h
theorem zV {p:Prop} (h:p:=by simp; omega):p:=h
theorem zU {p:Prop} (h:p:=by rfl):p:=h
theorem zT {p:Prop} (h:p:=by
 obtain ⟨n,rfl,hn1,hown,hkr⟩:=hrel;obtain ⟨t2,ht2⟩:∃t,t=t1++cD (l.take n):=⟨_,rfl⟩;rw [←ht2] at hown;have hl2:t2.length≤t1.length+jE (l.take n):=by
  rw [ht2,aZ1];have:=RO (l.take n) fun p hp=>HT1.o.r5 p (cZ3 hp);omega
 have hne2:t2≠[]:=by rw [ht2];have:=HT1.o.2.2.1;simp [this]
 have HK:=jJ (aI5 ht2 hown hkr hl2 hne2);clear ht2 hown hkr hl2 hne2;by_cases hnp:n<np
 ·obtain ⟨b,off,g',a',n',c',rfl,hb,-,x0,x1,x2,hzz,i1',i2'⟩:=(HA.o.r5.1.move (M1':=From w.heap.size) (M2':=From w.heap.size) HK.o.2.2.1 (fun _ _ h=>h.elim) (fun _ _ h=>h) (fun _ _ h=>h.elim) fun _ _ h=>h).at hnp;have htk:l.take (n+1)=l.take n++[pth l n]:=by
   have h1:n<l.length:=by rw [HT1.o.r4.1];exact hnp
   rw [List.take_succ_eq_append_getElem h1,iR h1]
  have hbk:jE (l.take n)+(24+32*eP (pth l n).2.natAbs)≤jE l:=by
   have h1:=congrArg jE htk;rw [SG] at h1;have h2:=congrArg jE (aZ3 (n+1) l);rw [SG] at h2;simp only [jE] at h1;omega
  have HZ:=jJ (aI3 htk hbk hzz);clear htk hbk hzz;generalize pth l n=p at *
  obtain ⟨x,y⟩:=p;simp only at x0 i1' i2';go_upto_region 11 with fail
  have r6:aF (wr.alloc (.cells #[.int .i64 x,.bool g',.slice a' n' c'] 96)) wr.heap.size 96 [.int .i64 x,.bool g',.slice a' n' c']:=aF.alloc;have k6:aA Nil wr (wr.alloc (.cells #[.int .i64 x,.bool g',.slice a' n' c'] 96)):=kOf;generalize wr.alloc (.cells #[.int .i64 x,.bool g',.slice a' n' c'] 96)=wp at *
  have h6:=HK.o.2.1.eO k6;have hT6:=bBL (HA.o.1.eO (HK.o.2.2.1.trans k6)).2 (B':=w.heap.size) HA.o.1.1;have hz6:=HZ.o.2.2.move (M2:=From w.heap.size) k6 (fun _ _ h=>h.elim) fun _ _ h=>h;have hs6:=(HK.o.2.2.1.trans k6).size;have hl6:t2.length+(24+32*eP y.natAbs)≤70368744177100:=by have h1:=HK.o.2.2.2.1;have h2:=HZ.o.2.1;have h3:=HT1.o.1;have h4:=HA.o.r6;simp only at h2;omega
  obtain ⟨x0',x1',x2'⟩:=r6.three;have H6:=jJ (aI7 r6 k6 h6 hT6 hz6 hs6 hl6);clear r6 k6 h6 hT6 hz6 hs6 hl6 x0 x1 x2;go_region_held3 (fun w'=>w'.cell? ⟨wr.heap.size,0,none⟩=some (.int .i64 x)∧w'.cell? ⟨wr.heap.size,1,none⟩=some (.bool g')∧w'.cell? ⟨wr.heap.size,2,none⟩=some (.slice a' n' c')) (go_keep) ((first|(go_at_call 180;go_loud (refine (aON (B:=w.heap.size) x i1' i2' (H6.o.2.2.1.eO ((aA.refl Nil wp).drew)) H6.o.r5.1 (by have h1:=H6.o.r6;omega) HK.o.r4 (H6.o.2.2.2.1.on (WI ((aA.refl Nil wp).drew) (fun _ h=>h.elim) H6.o.r5.1))).mono ?_;rintro e w5 ⟨v5,rfl,hp5⟩;have r7:=(H6.o.1.keep ((aA.refl Nil wp).drew) id).keep hp5.keep ((H6.o.2.2.1.eO ((aA.refl Nil wp).drew)).ne (H6.o.1.keep ((aA.refl Nil wp).drew) id) zY);obtain ⟨y0,y1,y2⟩:=r7.three;have k5:aA Nil w w5:=(HK.o.2.2.1.trans (H6.o.2.1.trans (aA.refl Nil wp).drew)).newer hp5.keep (fun b hb=>(H6.o.2.2.1.lt b hb).1);have H5:=jJ (aI4 hp5.own k5 r7 (H6.o.r4.1.move (M2:=From w.heap.size) (((aA.refl Nil wp).drew.of_nil (M:=From w.heap.size)).trans (hp5.keep.mono (fun b hb=>(H6.o.2.2.1.lt b hb).1))) (fun _ _ h=>h) fun _ _ h=>h));clear hp5 r7 k5))|(go_at_call 179;go_loud (refine (EK (B:=w.heap.size) H5.o.1 H5.o.2.1.size H5.o.2.2.2 (by have h1:=H6.o.r6;have h2:=bQ i1' i2';rw [aZ1];omega)).mono ?_;rintro e w8 ⟨v8,rfl,hp8⟩;have r8:=H5.o.2.2.1.keep hp8.keep (H5.o.1.ne H5.o.2.2.1 zY);obtain ⟨z0,z1,z2⟩:=r8.three;have k8:aA Nil w w8:=H5.o.2.1.newer hp8.keep (fun b hb=>(H5.o.1.lt b hb).1);have H8:=jJ (aI hp8.own k8);clear hp8 r8 k8))))
  all_goals
   go_wp2
   go_roundw
   case rel=>
    refine ⟨n+1,zF,hnp,?_,H8.o.2⟩;rw [HZ.o.1,aMR,←mZ2,←HK.o.1,←mZ2];exact H8.o.1
   case measure=>exact zI
 ·have en:np=n:=zZ;have hcb:=fO.text (P:=prog) HK.o.2.1 (by rw [HK.o.1];exact HT1.o.2.1.append (aAB _)) HK.o.r4 211 9 underlying211 underlying5 underlying9;have HCB:=jJ hcb;clear hcb;go_wp2_with fail
  rw [HCB.o];go_wp2
  go_ret
  refine ⟨?_,HK.o.2.2.1⟩;rw [HT1.o.2.2.2.1,HK.o.1,eZ1 (by rw [HT1.o.r4.1];omega)];rfl):p:=h
theorem zS {p:Prop} (h:p:=by
 obtain ⟨n,rfl,hn1,rfl,hkr⟩:=hrel;have hsz:(strOf (t1++cT (q.take n))).size≤44+22*n:=by
  rw [aT,aZ1];rw [aT] at hs4;have h1:=RQ (q.take n) fun x hx=>HA.o.r4.1 x (cZ3 hx);have h2:(q.take n).length≤n:=oU;omega
 obtain ⟨t2,ht2⟩:∃t,t=t1++cT (q.take n):=⟨_,rfl⟩;rw [←ht2] at hsz⊢;have HK:=jJ (aI ht2 hkr);clear ht2 hkr;by_cases hnq:n<nq
 ·have hkd2:=HKD.o.1.eO HK.o.2;obtain ⟨bq,oq,rfl,hcell⟩:=bA hkd2 hnq;have htk:q.take (n+1)=q.take n++[q.getD n 0]:=by
   have h1:n<q.length:=by rw [HKD.o.2];exact hnq
   rw [List.take_succ_eq_append_getElem h1];simp [List.getD,h1]
  have hx:I64 (q.getD n 0):=HA.o.r4.1 _ (by
   have h1:n<q.length:=by rw [HKD.o.2];exact hnq
   simp [List.getD,h1])
  have HX:=jJ (aI htk hx);clear htk hkd2;generalize q.getD n 0=x at *
  have hs5:(strOf (bF x)).size≤21:=by rw [aT];exact bQ hx.1 hx.2
  clear hx;have hs6:(strOf (bF x++[44])).size≤22:=by rw [aT,aZ1];rw [aT] at hs5;simp;omega
  have he6:strOf (bF x)++(⟨#[44]⟩:ByteArray)=strOf (bF x++[44]):=bP _ [44];go_wp2_with (go_at_call 178;refine (BJ HX.o.2 ((HA.o.1.eO HT1.o.2).eO HK.o.2)).mono ?_;rintro e w3 ⟨rfl,hk3⟩;have H3:=jJ hk3;clear hk3)
  go_roundw
  case rel=>
   refine ⟨n+1,zF,hnq,?_,HK.o.2.trans H3.o⟩;rw [HX.o.1,aNK,←mZ2,←HK.o.1];first|rw [he6,bP]|rw [bP]
  case measure=>exact zI
 ·have en:nq=n:=zZ;go_wp2_with fail
  go_ret
  refine ⟨?_,HT1.o.2.trans HK.o.2⟩;rw [HA.o.r5,←HT1.o.1,HK.o.1,eZ1 (by rw [HKD.o.2];omega)];rfl):p:=h
theorem zR {p:Prop} (h:p:=by
 intro us wj hk hpr hp K hK;rw [if_pos zU];rw [hJP] at hpr;rw [hJF,hJR] at hK;rw [hJF] at hp;subst hJ;go_simp
 refine hK.out _ _ ?_ ?_ ?_
 ·exact rfl
 ·exact hk
 ·exact rfl):p:=h
theorem zQ {p:Prop} (h:p:=by
 obtain ⟨g,rest,rfl,hr,hb,h1,h2,hback⟩:=h.opens hn h0;rw [bU] at hr;have hcl:=YM zs;refine (Tryz.slices_Compact_int g 0 c zs w (aFY hr) zZ h1).mono ?_;rintro e w' ⟨rfl,q,rfl⟩;have hlen:(Lib.compact zs++List.replicate (zs.length-(Lib.compact zs).length) 0).length=zs.length:=by rw [aZ1,List.length_replicate];omega
 have h3:=hback («Sort».putRow (Value.int .i64) («Sort».ahead w q) g 0 (Lib.compact zs++List.replicate (zs.length-(Lib.compact zs).length) 0).toArray) (aO (Lib.compact zs++List.replicate (zs.length-(Lib.compact zs).length) 0)) (by rw [aJ,hlen]) (fun c hc=>oS) (by rw [bU];exact aIV (w:=«Sort».ahead w q) (xs:=zs) hr hlen);have h4:=h3.cut (k:=(Lib.compact zs).length) (by rw [aJ,hlen]) hcl;refine ⟨_,rfl,?_,rfl,(aLO _ _).mono fun b hb=>yA⟩;have h5:(aO (Lib.compact zs++List.replicate (zs.length-(Lib.compact zs).length) 0)).take (Lib.compact zs).length=aO (Lib.compact zs):=by
  rw [aO,cZ2,List.take_left' zW];rfl
 rw [h5] at h4;exact h4):p:=h
theorem zP {p:Prop} (h:p:=by
 go_wp2_with (go_at_call 36;refine HC.o.1.mono ?_;rintro e w5 ⟨⟨z,rfl,hz⟩,hk5⟩;obtain rfl:z=lz:=hz _ rfl;have rr:=HRR.o.keep hk5 id;obtain ⟨x0,x1,x2,x3,x4,x5,x6,x7⟩:=rr.fV;have H5:=jJ hk5;clear hk5 rr hz;rw [show ((some (false,z):Option (Bool × Int)).map (·.1)).getD false=false from rfl,show (some (false,z):Option (Bool × Int)).isSome=true from rfl])
 go_roundw
 case rel=>exact oM
 case measure=>exact zI):p:=h
theorem zO {p:Prop} (h:p:=by
 go_wp2_with (go_at_call 36;refine HC.o.1.mono ?_;rintro e w5 ⟨⟨z,rfl,hz⟩,hk5⟩;obtain rfl:z=lz:=hz _ rfl;have rr:=HRR.o.keep hk5 id;obtain ⟨x0,x1,x2,x3,x4,x5,x6,x7⟩:=rr.fV;have H5:=jJ hk5;clear hk5 rr hz;rw [show ((some (true,z):Option (Bool × Int)).map (·.1)).getD false=true from rfl,show (some (true,z):Option (Bool × Int)).isSome=true from rfl])
 go_roundw
 case rel=>exact oL
 case measure=>exact zI):p:=h
theorem zN {p:Prop} (h:p:=by repeat (first|exact Lays.refl _|refine Lays.drew ?_|refine Lays.drewN ?_ _|refine Lays.alloc ?_ _)):p:=h
theorem zM {p:Prop} (h:p:=by
 go_simp
 refine mK ?_;clear hK K;refine aK 13 fun K hK=>?_;go_simp
 refine mK ?_;clear hK K;refine aK 15 fun K hK=>?_;go_simp
 refine mK ?_;clear hK K;refine aK 16 fun K hK=>?_;go_simp
 refine mK ?_;clear hK K;refine aR zX ?_ _;go_wp2_with (at_mapUpdate;go_loud (refine cZ _ rfl _ _ _ 86 rfl 3 3 underlying3 underlying86 underlying3 bm N0 t.came rfl H2.o.map zC x y rfl HX.o.2.2.1 hx0 hxN HQ.o.2.1 rfl HQ.o.1 ?_);intro w3 hm3 hk3;have H3:=jJ (aI hm3 hk3);clear hm3 hk3)
 go_ret2
 exact lT.mk' (r:=((y,er),⟨iL t.came x y,A2,sp2,ov2⟩)) (H2.o.note (t:=⟨iL t.came x y,A2,sp2,ov2⟩) hbm HS.o.r7.1 HS.o.r6.1 H3.o.2 H3.o.1 rfl rfl rfl).done HQ.o.2.2):p:=h
theorem zL {p:Prop} (h:p:=by
 go_simp
 refine mK ?_;clear hK K;refine aK 15 fun K hK=>?_;go_simp
 refine mK ?_;clear hK K;refine aK 16 fun K hK=>?_;go_simp
 refine mK ?_;clear hK K;refine aR zX ?_ _;go_wp2_with (at_mapUpdate;go_loud (refine cZ _ rfl _ _ _ 86 rfl 3 3 underlying3 underlying86 underlying3 bm N0 t.came rfl H2.o.map zC x y rfl HX.o.2.2.1 hx0 hxN HQ.o.2.1 rfl HQ.o.1 ?_);intro w3 hm3 hk3;have H3:=jJ (aI hm3 hk3);clear hm3 hk3)
 go_ret2
 exact lT.mk' (r:=((y,er),⟨iL t.came x y,A2,sp2,ov2⟩)) (H2.o.note (t:=⟨iL t.came x y,A2,sp2,ov2⟩) hbm HS.o.r7.1 HS.o.r6.1 H3.o.2 H3.o.1 rfl rfl rfl).done HQ.o.2.2):p:=h
theorem zJ {p:Prop} (h:p:=by
 go_simp
 refine mK ?_;clear hK K;refine aK 14 fun K hK=>?_;go_simp
 refine mK ?_;clear hK K;refine aK 16 fun K hK=>?_;go_simp
 refine mK ?_;clear hK K;refine aR zX ?_ _;go_wp2_with (at_mapUpdate;go_loud (refine cZ _ rfl _ _ _ 86 rfl 3 3 underlying3 underlying86 underlying3 bm N0 t.came rfl H2.o.map zC x y rfl HX.o.2.2.1 hx0 hxN HQ.o.2.1 rfl HQ.o.1 ?_);intro w3 hm3 hk3;have H3:=jJ (aI hm3 hk3);clear hm3 hk3)
 go_ret2
 exact lT.mk' (r:=((y,er),⟨iL t.came x y,A2,sp2,ov2⟩)) (H2.o.note (t:=⟨iL t.came x y,A2,sp2,ov2⟩) hbm HS.o.r7.1 HS.o.r6.1 H3.o.2 H3.o.1 rfl rfl rfl).done HQ.o.2.2):p:=h
theorem zI {p:Prop} (h:p:=by simp [intOf];omega):p:=h
theorem zH {p:Prop} (h:p:=by
 have hw:=HW.o.1;rw [if_neg HXY.o] at hw;refine ⟨k+1,j+1,_,zF,zF,zZ,hlt,H3.o.2.set k (.int .i64 x),by rw [List.length_set];exact HW.o.2.2.1,?_,by rw [hw,aZ1,HW.o.r4.1];rfl,fun t h1 h2=>?_,(HW.o.r6.1.trans H3.o.1.of_nil).trans ((aA.refl (Go.Proofs.Q.One g) w3).set1 k _)⟩
 ·have h1:k<ds.length:=by have:=HW.o.2.2.1;have:=HR.o.2.1;omega
  rw [List.take_succ_eq_append_getElem oQ,List.take_set_of_le (bZ2 _),HW.o.2.2.2.1,hw,cZ2,List.getElem_set_self];rfl
 ·rw [List.getElem?_set_ne zZ];exact HW.o.r5.1 t zZ h2):p:=h
theorem zF {p:Prop} (h:p:=by go_num):p:=h
theorem zC {p:Prop} (h:p:=by unfold maxLen;omega):p:=h
theorem zB {p:Prop} (h:p:=by
 go_wp2_with (first|(go_at_call 61;refine (HC.o.2.2.1 _ HB.o.2.2).mono ?_;rintro e w1 ⟨rfl,hk1⟩;have q0:=HB.o.1.keep hk1 id;have q1:=HB.o.2.1.keep hk1 id;obtain ⟨f0,f1,f2,f3,f4,f5,f6,f7⟩:=q0.fV;obtain ⟨g0,g1,g2,g3,g4,g5,g6,g7⟩:=q1.fV;have H1:=jJ (HB.o.2.2.trans hk1);clear hk1 q0 q1)|(go_at_call 148;refine (HC.o.2.2.2.1 _ H1.o).mono ?_;rintro e w2 ⟨rfl,hk2⟩;have H2:=jJ (H1.o.trans hk2);clear hk2))
 go_ret
 exact⟨dF (by first|rfl|simp|(simp;rfl)),H2.o⟩):p:=h
theorem zA {p:Prop} (h:p:=by
 go_simp
 refine mK ?_;clear hK K;refine aK 11 fun K hK=>?_;go_simp
 refine mK ?_;clear hK K;refine aK 13 fun K hK=>?_;go_simp
 refine mK ?_;clear hK K;refine aK 14 fun K hK=>?_;go_simp
 refine mK ?_;clear hK K;refine aR zX ?_ _;go_wp2_with fail
 go_meet
 exact⟨O2,rfl,rfl,H8.o⟩):p:=h
theorem yZ {p:Prop} (h:p:=by
 obtain ⟨g,rest,rfl,hr,hb,h1,h2,hback⟩:=h.opens hn h0;rw [bU] at hr;refine (Tryz.slices_Sort_int g 0 c zs w (aFY hr) hr.lt zZ).mono ?_;rintro e w' ⟨rfl,n,os,rfl⟩;refine ⟨rfl,hback _ _ (by rw [aJ,FX]) (fun c hc=>oS) ?_,(aMD _ _ _).mono fun b hb=>yA⟩;rw [bU];exact aWM (aIV (w:=«Sort».ahead w n) (xs:=zs) hr (FX zs)) os):p:=h
theorem yY {p:Prop} (h:p:=by first|exact q6|exact hkz.size|exact k9.size|exact k10.size):p:=h
theorem yX {p:Prop} (h:p:=by
 have HU:=jJ (aI u1 u2);clear u1 u2 s1 s2;go_wp2_with fail
 go_ret
 exact⟨congrArg (fun x=>Ending.returned (Value.int .i64 x)) (show (-1:Int)=fT z z2 by have:=HU.o;unfold fT;(repeat' split)<;>omega),HK.o⟩):p:=h
theorem yW {p:Prop} (h:p:=by
 have HU:=jJ (aI u1 u2);clear u1 u2 s1 s2;go_wp2_with fail
 go_ret
 exact⟨congrArg (fun x=>Ending.returned (Value.int .i64 x)) (show (1:Int)=fT z z2 by have:=HU.o;unfold fT;(repeat' split)<;>omega),HK.o⟩):p:=h
theorem yV {p:Prop} (h:p:=by
 go_simp
 refine mK ?_;clear hK K;refine aK 13 fun K hK=>?_;go_simp
 refine mK ?_;clear hK K;refine aK 14 fun K hK=>?_;go_simp
 refine mK ?_;clear hK K;refine aR zX ?_ _;go_wp2_with fail
 go_meet
 exact⟨O2,rfl,rfl,H8.o⟩):p:=h
theorem yU {p:Prop} (h:p:=by
 go_simp
 refine mK ?_;clear hK K;refine aK 12 fun K hK=>?_;go_simp
 refine mK ?_;clear hK K;refine aK 14 fun K hK=>?_;go_simp
 refine mK ?_;clear hK K;refine aR zX ?_ _;go_wp2_with fail
 go_meet
 exact⟨O2,rfl,rfl,H8.o⟩):p:=h
theorem yT {p:Prop} (h:p:=by simp only;omega):p:=h
theorem yS {p:Prop} (h:p:=by
 intro l;induction l with
 | nil=>intro a;exact⟨Nat.dvd_refl _,fun z hz=>by cases hz⟩
 | cons y l ih=>
  intro a;obtain ⟨h1,h2⟩:=ih (Nat.gcd a y.natAbs);rw [List.foldl_cons];refine ⟨Nat.dvd_trans h1 (Nat.gcd_dvd_left _ _),fun z hz=>?_⟩;rcases mZ1.1 hz with rfl|hz
  ·exact Nat.dvd_trans h1 (Nat.gcd_dvd_right _ _)
  ·exact h2 z hz):p:=h
theorem yR {p:Prop} (h:p:=by
 have hjn:j=nq:=zZ;subst hjn;have e0:decide ((j:Int)<(j:Int))=false:=zW;have hno:o=some (out,lf):=by rw [HO5.o,←hkt,eZ1 (by rw [H2.o.2.2.2.1];exact bZ2 _)]
 have HC:=jJ (aI hno hkr);clear hkr hkt hno hlt;go_wp2_with fail
 go_ret3
 rw [HC.o.1];exact⟨⟨lf,rfl,fun p hp=>by cases hp;rfl⟩,H2.o.2.1.trans HC.o.2⟩):p:=h
theorem yQ {p:Prop} (h:p:=by simp [results,results106,go_sem,x0,x1,x2,x3,x4,x5]):p:=h
theorem yP {p:Prop} (h:p:=by
 obtain ⟨b,off,rfl,_⟩:=bA h (i:=0) h0;refine (Tryz.slices_Clone_int b off n c l w zZ zZ fun j hj=>?_).mono ?_
 ·obtain ⟨b',off',e,hc⟩:=bA h (i:=j) zZ;cases e;exact hc
 ·rintro e w' ⟨v',rfl,h1,_,h2⟩;refine ⟨v',rfl,⟨?_,fun x hx=>by obtain ⟨z,_,rfl⟩:=iZ2.1 hx;rfl⟩,aA.of_below h2 Nil⟩;rw [bU,aJ,hln];rw [eZ1 zZ] at h1;exact .of h1):p:=h
theorem yO {p:Prop} (h:p:=by simp [Value.oneCell']):p:=h
theorem yN {p:Prop} (h:p:=by
 obtain rfl:l=[]:=fZ1 zZ;subst h0;cases a with
 | none=>
  refine (Tryz.slices_Clone_int_nil 0 c w).mono ?_;rintro e w' ⟨rfl,rfl⟩;exact⟨_,rfl,aL.nil _ _ _ _,aA.refl _ _⟩
 | some p=>
  refine (Tryz.slices_Clone_int_zero p c w).mono ?_;rintro e w' ⟨v',rfl,h1,_,h2⟩;exact⟨v',rfl,⟨.of h1,tR⟩,aA.of_below h2 Nil⟩):p:=h
theorem yM {p:Prop} (h:p:=by
 obtain ⟨D,q1,q2⟩:=h;refine ⟨D,?_,q2⟩;have hlt:=q1.lt;obtain ⟨es,clock,hb,F,hs,hD⟩:=q1;exact⟨es,clock,(k.block b hlt hn).trans hb,F,hs,hD⟩):p:=h
theorem yL {p:Prop} (h:p:=by have:=HM.o b hb;omega):p:=h
theorem yK {p:Prop} (h:p:=by
 obtain ⟨i,hi,rfl⟩:=jZ3 hp;obtain ⟨_,_,_,_,_,_,_,_,_,_,_,_,_,h1,h2⟩:=HA.o.r5.1.at (i:=i) zZ;rw [iR hi] at h1 h2;exact⟨h1,h2⟩):p:=h
theorem yJ {p:Prop} (h:p:=by rcases aXB _ _ hm with h|h<;>omega):p:=h
theorem yI {p:Prop} (h:p:=by rw [aJ] at hi;simp [RI,aO,List.getD,hi]):p:=h
theorem yH {p:Prop} (h:p:=by
 obtain ⟨e,he,rfl⟩:=iZ2.1 hx;obtain ⟨he1,he2⟩:=kZ3.1 he;exact hpre e (by simpa using he1) he2):p:=h
theorem yG {p:Prop} (h:p:=by repeat (first|exact aA.refl _ _|refine aA.drew ?_|refine aA.setCell ?_ (.inl (.inr (by constructor<;>(simp only []<;>omega)))) _)):p:=h
theorem yF {p:Prop} (h:p:=by rw [hb];exact congrArg some hm):p:=h
theorem yE {p:Prop} (h:p:=by unfold From at hf;omega):p:=h
theorem yD {p:Prop} (h:p:=by simp [results,results88,go_sem,x0,x1,x2,x3,x4,x5]):p:=h
theorem yC {p:Prop} (h:p:=by rw [aT];exact bQ HA.o.2.2.1.1 HA.o.2.2.1.2):p:=h
theorem yB {p:Prop} (h:p:=by
 have HU:=jJ (aI u1 u2);clear u1 u2 s1 s2;go_wp2_with (go_at_call 105;refine (XH HL.o.1 HL.o.2).mono ?_;rintro e w3 ⟨rfl,hk3⟩)
 go_ret
 exact⟨by rw [HV.o.1,HV.o.2,aZB (by have:=HU.o;omega) (by have:=HU.o;omega)];rfl,HK.o.trans hk3⟩):p:=h
theorem yA {p:Prop} (h:p:=by rw [show b=g from hb];rfl):p:=h
theorem xZ {p:Prop} (h:p:=by
 have hj':j<r:=by have:=(List.getElem?_eq_some_iff.1 hj).1;omega
 rw [hr.cell];have h1:(cs.take (i+1+r))[i+1+j]?=some v:=by rw [htake,←hj,List.map_drop,List.getElem?_drop]
 rwa [List.getElem?_take,if_pos zZ] at h1):p:=h
theorem xY {p:Prop} (h:p:=by exact⟨0,rfl,aZ2 _,by rw [List.take_zero,show cT []=[] from rfl,fZ2],aA.refl _ _⟩):p:=h
theorem xX {p:Prop} (h:p:=by have:=HLEN.o;first|omega|(rw [aJ];omega)):p:=h
theorem xW {p:Prop} (h:p:=by exact⟨0,rfl,aZ2 _,fun j hj=>zZ,aA.refl _ _⟩):p:=h
theorem xV {p:Prop} (h:p:=by rw [iZ1];omega):p:=h
theorem xU {p:Prop} (h:p:=by
 refine ⟨wj.heap.size,rfl,?_,?_⟩
 ·exact aF.alloc
 ·exact hk.size):p:=h
theorem xT {p:Prop} (h:p:=by
 have e1:(u1+Bs*u0-q*v1)*Bs+q*v1*Bs=(u1+Bs*u0)*Bs:=by rw [←Nat.add_mul,Nat.sub_add_cancel hle]
 have e2:q*(v2+Bs*v1)=q*v2+q*v1*Bs:=by rw [Nat.mul_add,Nat.mul_comm Bs v1,Nat.mul_assoc]
 omega):p:=h
theorem xS {p:Prop} (h:p:=by exact ho.keep k fun b hb hm=>ho.bDF hR zY b hb hm):p:=h
theorem xR {p:Prop} (h:p:=by
 go_wp2_with (go_at_call 61;refine (HC.o.2.2.1 _ HB.o.2.2).mono ?_;rintro e w1 ⟨rfl,hk1⟩;have H1:=jJ (HB.o.2.2.trans hk1);clear hk1)
 go_ret
 exact⟨dF (by first|rfl|simp|simp [hm0]),H1.o⟩):p:=h
theorem xQ {p:Prop} (h:p:=by first|exact .inl rfl|exact .inr rfl):p:=h
theorem xP {p:Prop} (h:p:=by
 obtain ⟨z0,z1,m,hx1,_⟩:=trod_struct2 underlying25 h1;have a1:=ET z0.1;have a2:=ET z1.1;rw [hx1];simp only [Rows.uptoBulk,Rows.uptoBulkAll];omega):p:=h
theorem xO {p:Prop} (h:p:=by show b<w0.heap.size;omega):p:=h
theorem xN {p:Prop} (h:p:=by rw [HC.o.2.2.1];rfl):p:=h
theorem xM {p:Prop} (h:p:=by
 have h1:(cs.take n)[t]?=(zs.map fJ)[t]?:=by rw [HR.o.2.2.2.1]
 rw [List.getElem?_take,if_pos ht] at h1;rw [h1];simp [List.getD,show t<zs.length by rw [HL.o];exact ht]):p:=h
theorem xL {p:Prop} (h:p:=by simp only at h4;omega):p:=h
theorem xK {p:Prop} (h:p:=by
 obtain ⟨x,y,z,hr⟩:=hp;obtain ⟨x',y',z',hr',_⟩:=J.ES hR hr;exact⟨x',y',z',hr'⟩):p:=h
theorem xJ {p:Prop} (h:p:=by exact⟨a2,c2,ev,ho,fun b hb=>by rcases hf2 b hb with h|h;exact .inl h;exact .inr (bZ1 hk.size h)⟩):p:=h
theorem xI {p:Prop} (h:p:=by rw [←h.len];exact QS l):p:=h
theorem xH {p:Prop} (h:p:=by
 obtain rfl:zs=[]:=fZ1 h0;refine (Tryz.slices_Sort_int_none a c w).mono ?_;rintro e w' ⟨rfl,rfl⟩;exact⟨rfl,by rw [show iO []=[] from by simp [iO]];exact h,aA.refl _ _⟩):p:=h
theorem xG {p:Prop} (h:p:=by
 have:=hrow7.el hown7.sz (i:=0) (j:=0) wX zZ;rw [this,hy];simp [aO,List.getD,show 0<(ofM m s.ids).length by omega]):p:=h
theorem xF {p:Prop} (h:p:=by exact⟨0,rfl,aZ2 _,by rw [List.take_zero,show cD []=[] from rfl,fZ2];exact HX.o.1,HX.o.2⟩):p:=h
theorem xE {p:Prop} (h:p:=by have:=HA.o.r5;omega):p:=h
theorem xD {p:Prop} (h:p:=by (intro w' hSw;obtain ⟨hrc,hrf⟩:=hSw.rules;clear hSw; go_simp;(try with_reducible rfl))):p:=h
theorem xC {p:Prop} (h:p:=by cases hp):p:=h
theorem xB {p:Prop} (h:p:=by have:=HL.o;omega):p:=h
theorem xA {p:Prop} (h:p:=by exact⟨x,y,z,hr.keep h.2 (fun hm=>h.1.tyE hr zY hm),fun _=>rfl,fun _=>rfl,fun _=>rfl⟩):p:=h
theorem wZ {p:Prop} (h:p:=by cases h):p:=h
theorem wY {p:Prop} (h:p:=by rw [ht1];exact (HT0.o.2.2.1.append (KA d)).append (KA z)):p:=h
theorem wX {p:Prop} (h:p:=by rw [aJ];omega):p:=h
theorem wW {p:Prop} (h:p:=by rw [h];decide):p:=h
theorem wV {p:Prop} (h:p:=by have:=HC.o.1;omega):p:=h
theorem wU {p:Prop} (h:p:=by unfold maxLen at hcm;omega):p:=h
theorem wT {p:Prop} (h:p:=by rw [aT];exact bQ HA.o.2.2.2.1.1 HA.o.2.2.2.1.2):p:=h
theorem wS {p:Prop} (h:p:=by have h2:=HT0.o.2.1;have h3:=dL d;have h5:=dL z;rw [ht1,aZ1,aZ1];omega):p:=h
theorem wR {p:Prop} (h:p:=by have:=HT.o.1.1.inv.cnt;have:=HT.o.1.1.inv.spn;have:=HV.o.2.1;omega):p:=h
theorem wQ {p:Prop} (h:p:=by rw [ht0];exact (KG _).append fun b hb=>vT):p:=h
theorem wP {p:Prop} (h:p:=by simp [List.getD,List.getElem?_append_left h]):p:=h
theorem wO {p:Prop} (h:p:=by first|rfl|rw [if_neg HL.o.1,if_neg HL.o.2]):p:=h
theorem wN {p:Prop} (h:p:=by have h1:=HA.o.r6;have h2:=HT0.o.2.1;have h3:=dL d;rw [aZ1];omega):p:=h
theorem wM {p:Prop} (h:p:=by
 subst e;have h1:=hr.out.symm.trans hn.out;simp only [Option.some.injEq,Obj.cells.injEq] at h1;exact hT h1.2.1):p:=h
theorem wL {p:Prop} (h:p:=by
 have h1:j<zs.length:=by rw [HL.o];exact hlt
 rw [List.take_succ_eq_append_getElem h1,hx];simp [List.getD,h1]):p:=h
theorem wK {p:Prop} (h:p:=by
 obtain rfl:zs=[]:=fZ1 h0;refine (Tryz.slices_Compact_int_empty a c w).mono ?_;rintro e w' ⟨rfl,rfl⟩;exact⟨_,rfl,h,rfl,aA.refl _ _⟩):p:=h
theorem wJ {p:Prop} (h:p:=by induction l with|nil=>rfl|cons x l ih=>rw [dZ2,dZ3,ih,gZ1];omega):p:=h
theorem wI {p:Prop} (h:p:=by
 induction j with
 | zero=>rfl
 | succ j ih=>simp [cA,ih]):p:=h
theorem wH {p:Prop} (h:p:=by show b<w0.heap.size;have:=HM.o b hm;omega):p:=h
theorem wG {p:Prop} (h:p:=by
 induction l with
 | nil=>rfl
 | cons p l ih=>
  simp only [fG,dZ2] at ih⊢;rw [ih fun q hq=>h q (lZ1 _ hq),h p (kZ1 ..)]):p:=h
theorem wF {p:Prop} (h:p:=by
 rcases hb' with hb'|hb'|hb'
 ·exact .inl hb'
 ·exact .inr (.inl hb')
 ·rcases hf b hb' with h2|h2
  ·exact .inr (.inr h2)
  ·omega):p:=h
theorem wE {p:Prop} (h:p:=by repeat (first|exact HK1.o|refine aA.setCell ?_ (.inr zW) _)):p:=h
theorem wD {p:Prop} (h:p:=by simpa using h):p:=h
theorem wC {p:Prop} (h:p:=by rw [aT,ht0,aZ1];rw [aT] at hs0;simp;omega):p:=h
theorem wB {p:Prop} (h:p:=by simp [nY]):p:=h
theorem wA {p:Prop} (h:p:=by have:=hz2.size.k;omega):p:=h
theorem vZ {p:Prop} (h:p:=by unfold maxLen at hcm;exact hcm):p:=h
theorem vY {p:Prop} (h:p:=by
 rcases hx with hx|hx
 ·rcases q3 b hx with h|h
  ·exact .inl h
  ·omega
 ·exact .inr hx):p:=h
theorem vW {p:Prop} (h:p:=by
 cases l with
 | nil=>exact⟨59,r,rfl,.inr rfl⟩
 | cons z l=>exact⟨32,_,by rw [JO];rfl,.inl rfl⟩):p:=h
theorem vV {p:Prop} (h:p:=by simp [results,results92,go_sem,c0,c1]):p:=h
theorem vU {p:Prop} (h:p:=by have:=H2.o.2.2.2;have:=HR.o.2.2;omega):p:=h
theorem vT {p:Prop} (h:p:=by rw [dZ1.1 hb];omega):p:=h
theorem vS {p:Prop} (h:p:=by unfold I64;omega):p:=h
theorem vR {p:Prop} (h:p:=by have:=hz.size.k;omega):p:=h
theorem vQ {p:Prop} (h:p:=by rw [aZ1,MN,HG.o.r4.1];rfl):p:=h
theorem vP {p:Prop} (h:p:=by
 obtain ⟨b,rfl,hr,hb⟩:=hf;exact⟨b,rfl,J.aHA hb hR hr,hb⟩):p:=h
theorem vO {p:Prop} (h:p:=by rw [←HC.o.n0];exact hxN):p:=h
theorem vM {p:Prop} (h:p:=by intro c hc;obtain ⟨x,_,rfl⟩:=iZ2.1 hc;exact x.len):p:=h
theorem vL {p:Prop} (h:p:=by
 go_wp2
 go_round
 case rel=>exact⟨k,zZ,by rw [HT.o,aFJ oQ],rfl⟩
 case measure=>simp):p:=h
theorem vK {p:Prop} (h:p:=by
 have hlt:=h.lt;obtain ⟨es,clock,hb,F,hs,hD⟩:=h;exact⟨es,clock,(k.block b hlt hn).trans hb,F,hs,hD⟩):p:=h
theorem vJ {p:Prop} (h:p:=by
 unfold jK;rw [if_neg zZ];split<;>omega):p:=h
theorem vI {p:Prop} (h:p:=by have:=h0.len;have:=BK;omega):p:=h
theorem vH {p:Prop} (h:p:=by rw [List.length_set];exact HC.o.1):p:=h
theorem vG {p:Prop} (h:p:=by
 have ekn:n=k:=zZ;go_wp2_with fail
 go_ret
 exact⟨⟨-1,rfl,.inl ⟨rfl,fun j hj=>HK.o.1 j zZ⟩⟩,HK.o.2⟩):p:=h
theorem vF {p:Prop} (h:p:=by
 obtain ⟨b',off',cs',e,hb',_⟩:=eU.at hno (i:=0) zZ;cases e;exact hb'):p:=h
theorem vE {p:Prop} (h:p:=by simp [eX,q1]):p:=h
theorem vD {p:Prop} (h:p:=by
 refine ⟨?_,?_,HK.o.1⟩
 ·rw [HL.o];exact hkn
 ·rw [←HX.o];exact HXY.o):p:=h
theorem vC {p:Prop} (h:p:=by
 have hi':i<2:=hi;rcases (show i=0∨i=1 by omega) with rfl|rfl<;>exact⟨List.Pairwise.nil,fun v hv=>absurd hv hZ2⟩):p:=h
theorem vB {p:Prop} (h:p:=by have:=HA.o.2.2.1;omega):p:=h
theorem vA {p:Prop} (h:p:=by rw [aJ]):p:=h
theorem uZ {p:Prop} (h:p:=by rw [HE.o.2,HG.o.2.2];exact PU HROW.o HQ.o.1 zZ (congrArg (Value.int .u32) uW)):p:=h
theorem uY {p:Prop} (h:p:=by exact⟨x,y,z,hr.keep h id,fun _=>rfl,fun _=>rfl,fun _=>rfl⟩):p:=h
theorem uW {p:Prop} (h:p:=by rw [cY];omega):p:=h
theorem uV {p:Prop} (h:p:=by
 have:i<listed.size:=zZ;simp [this] at hiun⊢;exact hiun):p:=h
theorem uU {p:Prop} (h:p:=by
 rw [Bool.eq_iff_iff,beq_iff_eq,beq_iff_eq];exact Int.sign_eq_zero_iff_zero):p:=h
theorem uT {p:Prop} (h:p:=by rw [←Nat.pow_add,show k+(32-k)=32 by omega]):p:=h
theorem uS {p:Prop} (h:p:=by
 simp only [EP,Bool.and_eq_true,decide_eq_true_eq] at hok;exact hok.1.2):p:=h
theorem uR {p:Prop} (h:p:=by rw [HB.o.len];omega):p:=h
theorem uQ {p:Prop} (h:p:=by have h1:=HA.o.r6;have h2:=HT0.o.2.1;omega):p:=h
theorem uP {p:Prop} (h:p:=by exact iP.refl A):p:=h
theorem uO {p:Prop} (h:p:=by rw [HR.o];exact hst):p:=h
theorem uM {p:Prop} (h:p:=by rw [List.drop_eq_getElem_cons zZ,jB zZ]):p:=h
theorem uL {p:Prop} (h:p:=by rw [HY.o.2.2.1] at hu;rcases jZ1.1 hu with h|h;exact HY.o.1 u h;rw [dZ1.1 h];exact HW.o):p:=h
theorem uK {p:Prop} (h:p:=by exact (aA.refl _ _).alloc _):p:=h
theorem uJ {p:Prop} (h:p:=by
 unfold bB;simp only;rw [if_pos zW]):p:=h
theorem uI {p:Prop} (h:p:=by simpa using hi):p:=h
theorem uH {p:Prop} (h:p:=by rw [HE.o];rfl):p:=h
theorem uG {p:Prop} (h:p:=by simp [results,results86,go_sem,c0,c1']):p:=h
theorem uF {p:Prop} (h:p:=by rw [HA.o.2.2.2.1];have:=HA.o.r5.1;omega):p:=h
theorem uE {p:Prop} (h:p:=by have:=HA.o.1 b hb;have:=H0.o.1.size;omega):p:=h
theorem uD {p:Prop} (h:p:=by rw [n1];omega):p:=h
theorem uC {p:Prop} (h:p:=by have:=(o1.lt _ hm).2;omega):p:=h
theorem uB {p:Prop} (h:p:=by have:=HC.o.2.2.2.1;omega):p:=h
theorem uA {p:Prop} (h:p:=by rw [HC.o.2.2.2.1];omega):p:=h
theorem tZ {p:Prop} (h:p:=by simp [Act.eval,Act.put]):p:=h
theorem tY {p:Prop} (h:p:=by rw [show (0:Int).natAbs=0 from rfl,bT];exact⟨rfl,Sl.nil _ _ _ _,Small.nil⟩):p:=h
theorem tW {p:Prop} (h:p:=by simpa using h2):p:=h
theorem tV {p:Prop} (h:p:=by
 conv=>rhs;rw [←aZ3 els.flatten.length cur.toList]
 rw [htake]):p:=h
theorem tU {p:Prop} (h:p:=by rw [ht0,aZ1];rw [aT] at hs0;simp;omega):p:=h
theorem tT {p:Prop} (h:p:=by rw [ht1];have:=HT0.o.2.2.2;simp [this]):p:=h
theorem tS {p:Prop} (h:p:=by have:=HA.o.1.lt b h;omega):p:=h
theorem tR {p:Prop} (h:p:=by simp [aO]):p:=h
theorem tQ {p:Prop} (h:p:=by rw [e];exact HR.o.r5.1.eO H1.o.2):p:=h
theorem tP {p:Prop} (h:p:=by rw [h0 j] at hj;cases hj):p:=h
theorem tO {p:Prop} (h:p:=by exact hk.setCell (.inl (.inr (.inr (.inr rfl)))) _):p:=h
theorem tN {p:Prop} (h:p:=by have:=HA.o.r4.1;omega):p:=h
theorem tM {p:Prop} (h:p:=by rw [hsize];simp):p:=h
theorem tL {p:Prop} (h:p:=by rcases (show v=0∨v=1 by simpa using hv) with rfl|rfl<;>exact⟨zY,zY⟩):p:=h
theorem tK {p:Prop} (h:p:=by have:=HG.o.r5.1;omega):p:=h
theorem tJ {p:Prop} (h:p:=by unfold top;rw [HH.o.len];exact HT.o):p:=h
theorem tI {p:Prop} (h:p:=by unfold fT;(repeat' split)<;>omega):p:=h
theorem tH {p:Prop} (h:p:=by unfold eC;rw (occs:=.pos [1]) [hm];exact Int.mul_fdiv_cancel_left m zZ):p:=h
theorem tG {p:Prop} (h:p:=by rw [HA.o.2.2.2.1,ht1,HT0.o.1];simp):p:=h
theorem tF {p:Prop} (h:p:=by have:=hk.size;have:=HBS.o;omega):p:=h
theorem tE {p:Prop} (h:p:=by rw [HX.o.2.1,HAV.o];exact HAL.o):p:=h
theorem tD {p:Prop} (h:p:=by unfold Live at h;omega):p:=h
theorem tC {p:Prop} (h:p:=by exact⟨wj.heap.size,rfl,Array.getElem?_push_size.trans (congrArg some zX),hk.size⟩):p:=h
theorem sZ {p:Prop} (h:p:=by rw [e0];simp only [gV];rw [show l.length-(n-(k+1)+1)=k by omega]):p:=h
theorem sY {p:Prop} (h:p:=by have:=HL.o.2.1;omega):p:=h
theorem sX {p:Prop} (h:p:=by
 rw [EF _ _ _ (by rw [HC.o.1];exact hik)];exact HC.o.2.2.1 i hik):p:=h
theorem sW {p:Prop} (h:p:=by assumption):p:=h
theorem sV {p:Prop} (h:p:=by simp only at h5;omega):p:=h
theorem sU {p:Prop} (h:p:=by
 have:=HA.o.2.2.2.1;rw [hZ1] at this;rw [aZ1,aZ1,iZ1,HA.o.r4.1,this];omega):p:=h
theorem sS {p:Prop} (h:p:=by rw [←hq];unfold cQ;rw [HT.o.2.2.2.1,if_neg zZ,if_pos zZ,hK,hk]):p:=h
theorem sR {p:Prop} (h:p:=by rw [HX.o.2.1];simp):p:=h
theorem sQ {p:Prop} (h:p:=by simpa using hl):p:=h
theorem sP {p:Prop} (h:p:=by simp [eP,bT]):p:=h
theorem sO {p:Prop} (h:p:=by
 rw [KM h0] at he;exact absurd he h0):p:=h
theorem sM {p:Prop} (h:p:=by
 have:=IE (c:=m.v) (n:=4) zY;unfold BX I64;omega):p:=h
theorem sK {p:Prop} (h:p:=by exact (aCG _).imp id .inl):p:=h
theorem sJ {p:Prop} (h:p:=by rw [←h2.len];exact QS l2):p:=h
theorem sI {p:Prop} (h:p:=by simpa using he):p:=h
theorem sH {p:Prop} (h:p:=by rw [HC.o.1];omega):p:=h
theorem sF {p:Prop} (h:p:=by
 unfold bB;simp only;rw [if_neg zZ,if_pos zW,←mZ2]):p:=h
theorem sE {p:Prop} (h:p:=by rw [hN];exact hkd):p:=h
theorem sD {p:Prop} (h:p:=by (intro w' hSw;have hlk:=HL.o w' hSw;clear hSw;go_simp;(try with_reducible rfl))):p:=h
theorem sC {p:Prop} (h:p:=by rw [List.length_replicate,HW.o.2.1];have:=HR.o.2.1;omega):p:=h
theorem sB {p:Prop} (h:p:=by
 unfold dN lD;rw [if_pos rfl,aOR zY];rfl):p:=h
theorem sA {p:Prop} (h:p:=by unfold top;rw [HH.o.len,HT.o,aHL (by simpa using h1')]):p:=h
theorem rZ {p:Prop} (h:p:=by rw [List.take_succ_eq_append_getElem h];simp [List.getD,h]):p:=h
theorem rY {p:Prop} (h:p:=by simp [results,results23,go_sem,x0,x1,x2,x3,x4,x5,x6,x7]):p:=h
theorem rX {p:Prop} (h:p:=by
 unfold bB;simp only;rw [if_neg zZ,if_neg zZ,iZ3]):p:=h
theorem rW {p:Prop} (h:p:=by exact fun h=>absurd rfl h):p:=h
theorem rV {p:Prop} (h:p:=by rw [HTT.o];exact HT.o.2.1):p:=h
theorem rU {p:Prop} (h:p:=by rw [JG hjl,aBZ,hkt,hm];rfl):p:=h
theorem rS {p:Prop} (h:p:=by rw [HST.o,List.map_take,←HR.o.2.2.2.1,List.take_take,Nat.min_eq_left zZ]):p:=h
theorem rR {p:Prop} (h:p:=by
 intro u hu;rw [bU] at hu;obtain ⟨z,_,rfl⟩:=iZ2.1 hu;rfl):p:=h
theorem rQ {p:Prop} (h:p:=by rw [show ndA (fC sk s).A x=N from HN.o.2];exact hK):p:=h
theorem rP {p:Prop} (h:p:=by have:=HD.o.r5.1;have:=h10.len;dsimp only at *;omega):p:=h
theorem rL {p:Prop} (h:p:=by show b<w2.heap.size;omega):p:=h
theorem rK {p:Prop} (h:p:=by simp [results,results126,go_sem,x0,x1,x2,x3,x4,x5]):p:=h
theorem rJ {p:Prop} (h:p:=by simp [e]):p:=h
theorem rI {p:Prop} (h:p:=by exact⟨[],zW⟩):p:=h
theorem rH {p:Prop} (h:p:=by rw [(HW.o.r7.1.keep HB.o.1 id).cell];exact HR.o.r7):p:=h
theorem rF {p:Prop} (h:p:=by rw [hm];exact lr1):p:=h
theorem rD {p:Prop} (h:p:=by rw [←htake,aZ3];exact hr):p:=h
theorem qZ {p:Prop} (h:p:=by rw [hw];exact HW.o.2.2.2.1):p:=h
theorem qY {p:Prop} (h:p:=by
 unfold lW;rw [ht,List.filter_append];simp [h]):p:=h
theorem qX {p:Prop} (h:p:=by simp [results,results96,go_sem,x0,x1,x2,x3,x4,x5]):p:=h
theorem qW {p:Prop} (h:p:=by exact fun q=>absurd q (htr _)):p:=h
theorem qV {p:Prop} (h:p:=by simpa using (HH.o.sl.some _ rfl zZ).2.2.2 k 0 zZ zZ):p:=h
theorem qU {p:Prop} (h:p:=by rw [←hq];unfold cQ;rw [HT.o.2.2.2.1,if_pos zZ,hK]):p:=h
theorem qS {p:Prop} (h:p:=by
 rw [if_pos hs] at h1;cases h1;exact hC.low u hs):p:=h
theorem qR {p:Prop} (h:p:=by rw [gZ3];omega):p:=h
theorem qQ {p:Prop} (h:p:=by rw [hm];exact hg):p:=h
theorem qP {p:Prop} (h:p:=by have:=HG.o.2.2.1;rw [Int.natAbs_natCast];omega):p:=h
theorem qN {p:Prop} (h:p:=by rw [HI.o.2.2.2];omega):p:=h
theorem qM {p:Prop} (h:p:=by have:=HA.o.r5.1;omega):p:=h
theorem qL {p:Prop} (h:p:=by rw [ht1,aT,aZ1,←HT0.o];rw [aT] at hs1 hs3;omega):p:=h
theorem qK {p:Prop} (h:p:=by have:=hid.2.1;simpa [List.getD,h1] using this):p:=h
theorem qJ {p:Prop} (h:p:=by rw [←hk];exact cK 0 (by rw [HT.o.r4];omega)):p:=h
theorem qI {p:Prop} (h:p:=by have:=H3.o.r4.1;omega):p:=h
theorem qH {p:Prop} (h:p:=by intro k hk;simp [Value.ownBlock] at hk;omega):p:=h
theorem qF {p:Prop} (h:p:=by
 rw [RS _ _ _ zZ];exact HC.o.2.2.2.1 i zZ hi2):p:=h
theorem qC {p:Prop} (h:p:=by subst hw;exact⟨_,_,he,h.bBS,aA.refl _ _⟩):p:=h
theorem qB {p:Prop} (h:p:=by have:=HA.o.1 b hb;omega):p:=h
theorem qA {p:Prop} (h:p:=by have h1:=HK.o.2.1;have h2:=HK.o.2.2.1;omega):p:=h
theorem pZ {p:Prop} (h:p:=by rw [hw];exact HW.o.r4.1):p:=h
theorem pY {p:Prop} (h:p:=by rw [hds.cell,jZ2 (by have:=HR.o.2.1;omega)];rfl):p:=h
theorem pX {p:Prop} (h:p:=by simp only [gH];omega):p:=h
theorem pW {p:Prop} (h:p:=by have h1:=HA.o.r5;have h4:=HA.o.2.2.1;omega):p:=h
theorem pV {p:Prop} (h:p:=by exact⟨wj.heap.size,rfl,⟨heap_alloc_new wj _,zW⟩,hk.size⟩):p:=h
theorem pU {p:Prop} (h:p:=by rw [h2];simp):p:=h
theorem pT {p:Prop} (h:p:=by exact Ext.refl _):p:=h
theorem pS {p:Prop} (h:p:=by simpa [zeros] using c0):p:=h
theorem pR {p:Prop} (h:p:=by simp at hl⊢;omega):p:=h
theorem pQ {p:Prop} (h:p:=by have:=HW.o.r9;omega):p:=h
theorem pP {p:Prop} (h:p:=by simp [zeros]):p:=h
theorem pO {p:Prop} (h:p:=by have:=HD.o.r5.1;dsimp only at this;omega):p:=h
theorem pN {p:Prop} (h:p:=by simp [results,results83,go_sem,y0,y1,y2]):p:=h
theorem pM {p:Prop} (h:p:=by simp only [gH] at h5;have:=h.kind.2;omega):p:=h
theorem pL {p:Prop} (h:p:=by rw [←OY];unfold jS;rw [if_neg zZ]):p:=h
theorem pK {p:Prop} (h:p:=by have:=HP.o.r4;omega):p:=h
theorem pJ {p:Prop} (h:p:=by
 unfold jK fT
 (repeat' split)<;>omega):p:=h
theorem pI {p:Prop} (h:p:=by have:=aTP z z2;have:=HN.o.1;omega):p:=h
theorem pH {p:Prop} (h:p:=by have:=aUU z z2;have:=HN.o.1;omega):p:=h
theorem pG {p:Prop} (h:p:=by simp at hi):p:=h
theorem pF {p:Prop} (h:p:=by have:=HA.o.2.2.1;have:=HB.o.2.2.1;omega):p:=h
theorem pE {p:Prop} (h:p:=by simp [results,results147,go_sem,r.cell]):p:=h
theorem pD {p:Prop} (h:p:=by rw [aZ1,HC.o.1];rfl):p:=h
theorem pC {p:Prop} (h:p:=by have:=HN.o.r7;omega):p:=h
theorem pB {p:Prop} (h:p:=by exact fun q x hx=>q x (kZ3.1 hx).1):p:=h
theorem pA {p:Prop} (h:p:=by
 have hw:=HW.o.1;rw [if_pos HXY.o] at hw;refine ⟨k,j+1,ds,rfl,zF,zZ,hlt,HW.o.2.1.keep H3.o id,HW.o.2.2.1,qZ,pZ,fun t h1 h2=>HW.o.r5.1 t zZ h2,HW.o.r6.1.trans H3.o.of_nil⟩):p:=h
theorem oZ {p:Prop} (h:p:=by exact⟨k+1,zZ,zF,congrArg (Value.int .u64) (by rw [HE.o.1,cY];omega),by rw [HE.o.2];exact PU HROW.o HQ.o.1 zZ (congrArg (Value.int .u32) uW),HK.o.setCell (p:=⟨w.heap.size,k,none⟩) (.inr (bZ2 _)) _⟩):p:=h
theorem oY {p:Prop} (h:p:=by
 refine ⟨k+1,zF,hkn,fun j hj=>?_,HK.o.2.1.trans H1.o⟩;rcases Nat.lt_succ_iff_lt_or_eq.1 hj with h|rfl
 ·exact HK.o.1 j h
 ·rw [←HX.o];exact HPX.o):p:=h
theorem oX {p:Prop} (h:p:=by
 refine ⟨k+1,zF,hkn,fun j hj=>?_,HK.o.2.trans hk1⟩;rcases Nat.lt_succ_iff_lt_or_eq.1 hj with h|rfl
 ·exact HK.o.1 j h
 ·rw [←HX.o];exact hxy):p:=h
theorem oW {p:Prop} (h:p:=by
 refine ⟨i,i+1,cs,rfl,zF,zZ,hin,HR.o.1.keep H1.o.2 id,rfl,?_,?_,fun t _ ht=>?_,H1.o.2.of_nil⟩
 ·exact rS
 ·rw [HST.o,iZ1,HL.o];omega
 ·exact xM):p:=h
theorem oV {p:Prop} (h:p:=by exact⟨k+1,zZ,zF,congrArg (Value.int .u64) (by rw [HE.o.1,HG.o.2.2,cY];omega),uZ,HK.o.setCell (p:=⟨w.heap.size,k,none⟩) (.inr (bZ2 _)) _⟩):p:=h
theorem oU {p:Prop} (h:p:=by rw [iZ1];exact Nat.min_le_left _ _):p:=h
theorem oT {p:Prop} (h:p:=by
 rw [HO5.o,HC.o.2.2.2];exact aCC xN _):p:=h
theorem oS {p:Prop} (h:p:=by obtain ⟨z,_,rfl⟩:=iZ2.1 hc;rfl):p:=h
theorem oR {p:Prop} (h:p:=by exact ho.keep k fun b hb hm=>ho.tyE hr zY yF):p:=h
theorem oQ {p:Prop} (h:p:=by simpa using h1):p:=h
theorem oO {p:Prop} (h:p:=by
 go_wp2
 go_ret
 exact⟨by rw [HS.o];rfl,zN⟩):p:=h
theorem oM {p:Prop} (h:p:=by exact⟨j+1,false,_,zZ,zF,rfl,rfl,zZ,zZ,xN,HC.o.2.1.trans H5.o⟩):p:=h
theorem oL {p:Prop} (h:p:=by exact⟨j+1,true,_,zZ,zF,rfl,rfl,zZ,zZ,xN,HC.o.2.1.trans H5.o⟩):p:=h
section
structure aA (M:Nat→Prop) (w w':World):Prop where
  os:w'.os=w.os
  tape:w'.tape=w.tape
  output:w'.output=w.output
  size:w.heap.size≤w'.heap.size
  block:∀k,k<w.heap.size→¬M k→w'.heap[k]?=w.heap[k]?
def Nil:Nat→Prop:=fun _=>False
def One (b:Nat):Nat→Prop:=fun k=>k=b
def MB (M:Nat→Prop) (w:World):Prop:=∀b,M b→b<w.heap.size
theorem aA.refl (M:Nat→Prop) (w:World):aA M w w:=⟨rfl,rfl,rfl,Nat.le_refl _,fun _ _ _=>rfl⟩
theorem aA.trans' {M M':Nat→Prop} {a b c:World} (h:aA M a b) (k:aA M' b c) (hm:∀k,M' k→M k∨a.heap.size≤k):aA M a c:=
  ⟨k.os.trans h.os,k.tape.trans h.tape,k.output.trans h.output,Nat.le_trans h.size k.size,fun i hi hn=>
    (k.block i (Nat.lt_of_lt_of_le hi h.size) (fun hM=>by rcases hm i hM with h'|h';exact hn h';omega)).trans (h.block i hi hn)⟩
theorem aA.trans {M:Nat→Prop} {a b c:World} (h:aA M a b) (k:aA M b c):aA M a c:=h.trans' k fun _=>.inl
theorem aA.mono {M M':Nat→Prop} {a b:World} (h:aA M a b) (hm:∀k,M k→M' k):aA M' a b:=
  ⟨h.os,h.tape,h.output,h.size,fun i hi hn=>h.block i hi fun hM=>hn (hm i hM)⟩
theorem aA.of_nil {M:Nat→Prop} {a b:World} (h:aA Nil a b):aA M a b:=h.mono fun _ hk=>hk.elim
theorem aA.WR {M:Nat→Prop} {a b c:World} (h:aA M a b) (k:aA Nil b c):aA M a c:=h.trans k.of_nil
theorem aA.of_below {a b:World} (h:Below a.heap.size a b) (M:Nat→Prop):aA M a b:=⟨h.os,h.tape,h.output,h.size,fun k hk _=>h.block k hk⟩
theorem aA.below {a b:World} (h:aA Nil a b):Below a.heap.size a b:=⟨h.os,h.tape,h.output,h.size,fun k hk=>h.block k hk id⟩
theorem aA.grow {a w w':World} {row:Option Nat} {M:Nat→Prop} (h:aA M a w) (hg:w.grownBy w' row) (hr:∀k,row=some k→M k∨a.heap.size≤k):aA M a w':=
  h.trans' (M':=fun k=>row=some k) ⟨hg.os,hg.tape,hg.output,hg.size,fun k hk hn=>hg.block k hk fun e=>hn e.symm⟩ hr
theorem aA.drew {M:Nat→Prop} {a w:World} (h:aA M a w):aA M a w.drew:=⟨h.os,h.tape,h.output,h.size,h.block⟩
theorem aA.drewN {M:Nat→Prop} {a w:World} (h:aA M a w) (n:Nat):aA M a (w.drewN n):=⟨h.os,h.tape,h.output,h.size,h.block⟩
theorem aA.alloc {M:Nat→Prop} {a w:World} (h:aA M a w) (o:Obj):aA M a (w.alloc o):=
  h.trans ⟨rfl,rfl,rfl,zW,fun k hk _=>Below.heap_alloc w o k hk⟩
theorem aA.setCell {M:Nat→Prop} {a w:World} (h:aA M a w) {p:Addr} (hp:M p.block∨a.heap.size≤p.block) (u:Value):aA M a (w.setCell p u):=
  h.trans' (M':=One p.block) ⟨rfl,rfl,rfl,by simp [World.setCell],fun k _ hn=>Below.heap_setCell _ _ _ _ hn⟩ (fun k hk=>by cases hk;exact hp)
theorem kkA {M:Nat→Prop} {a b:World} (h:aA M a b:=by repeat (first|exact aA.refl _ _|assumption|refine aA.drew ?_|refine aA.drewN ?_ _|refine aA.alloc ?_ _|exact aA.of_nil sW|refine aA.trans ?_ (aA.of_nil sW)|refine aA.setCell ?_ (.inr (by first|exact Nat.le_refl _|(dsimp only;omega))) _|refine aA.setCell ?_ (.inl (by first|(unfold Old;dsimp only;omega)|(unfold Old;simp;omega)|(unfold Old;simp))) _)):aA M a b:=h
theorem aI {a b:Prop} (x:a) (y:b):a∧b:=⟨x,y⟩
theorem jJ {p:Prop} (h:p):Hid p:=Lib.hid h
theorem _root_.And.r4 {a b c d e:Prop} (h:a∧b∧c∧d∧e):e:=h.2.2.2.2
theorem _root_.And.r5 {a b c d e f:Prop} (h:a∧b∧c∧d∧e∧f):f:=h.2.2.2.2.2
theorem _root_.And.r6 {a b c d e f g:Prop} (h:a∧b∧c∧d∧e∧f∧g):g:=h.2.2.2.2.2.2
theorem _root_.And.r7 {a b c d e f g i:Prop} (h:a∧b∧c∧d∧e∧f∧g∧i):i:=h.2.2.2.2.2.2.2
theorem _root_.And.r8 {a b c d e f g i j:Prop} (h:a∧b∧c∧d∧e∧f∧g∧i∧j):j:=h.2.2.2.2.2.2.2.2
theorem _root_.And.r9 {a b c d e f g i j k:Prop} (h:a∧b∧c∧d∧e∧f∧g∧i∧j∧k):k:=h.2.2.2.2.2.2.2.2.2
theorem _root_.And.r10 {a b c d e f g i j k l:Prop} (h:a∧b∧c∧d∧e∧f∧g∧i∧j∧k∧l):l:=h.2.2.2.2.2.2.2.2.2.2
theorem _root_.And.r11 {a b c d e f g i j k l m:Prop} (h:a∧b∧c∧d∧e∧f∧g∧i∧j∧k∧l∧m):m:=h.2.2.2.2.2.2.2.2.2.2.2
theorem _root_.And.r12 {a b c d e f g i j k l m n:Prop} (h:a∧b∧c∧d∧e∧f∧g∧i∧j∧k∧l∧m∧n):n:=h.2.2.2.2.2.2.2.2.2.2.2.2
theorem _root_.And.r13 {a b c d e f g i j k l m n o:Prop} (h:a∧b∧c∧d∧e∧f∧g∧i∧j∧k∧l∧m∧n∧o):o:=h.2.2.2.2.2.2.2.2.2.2.2.2.2
theorem _root_.And.r14 {a b c d e f g i j k l m n o p:Prop} (h:a∧b∧c∧d∧e∧f∧g∧i∧j∧k∧l∧m∧n∧o∧p):p:=h.2.2.2.2.2.2.2.2.2.2.2.2.2.2
def _root_.bM9 (k : Nat) (n : Nat) : Array Bool := ⟨(List.range n).map k.testBit⟩
theorem _root_.Go.RowKit.Hid.o {p : Prop} (h : Go.RowKit.Hid p) : p := h.out
theorem _root_.aI3 {p0 p1 p2 : Prop} (x0 : p0) (x1 : p1) (x2 : p2) : p0 ∧ p1 ∧ p2 := ⟨x0, x1, x2⟩
theorem _root_.aI4 {p0 p1 p2 p3 : Prop} (x0 : p0) (x1 : p1) (x2 : p2) (x3 : p3) : p0 ∧ p1 ∧ p2 ∧ p3 := ⟨x0, x1, x2, x3⟩
theorem _root_.aI5 {p0 p1 p2 p3 p4 : Prop} (x0 : p0) (x1 : p1) (x2 : p2) (x3 : p3) (x4 : p4) : p0 ∧ p1 ∧ p2 ∧ p3 ∧ p4 := ⟨x0, x1, x2, x3, x4⟩
theorem _root_.aI6 {p0 p1 p2 p3 p4 p5 : Prop} (x0 : p0) (x1 : p1) (x2 : p2) (x3 : p3) (x4 : p4) (x5 : p5) : p0 ∧ p1 ∧ p2 ∧ p3 ∧ p4 ∧ p5 := ⟨x0, x1, x2, x3, x4, x5⟩
theorem _root_.aI7 {p0 p1 p2 p3 p4 p5 p6 : Prop} (x0 : p0) (x1 : p1) (x2 : p2) (x3 : p3) (x4 : p4) (x5 : p5) (x6 : p6) : p0 ∧ p1 ∧ p2 ∧ p3 ∧ p4 ∧ p5 ∧ p6 := ⟨x0, x1, x2, x3, x4, x5, x6⟩
theorem _root_.aI8 {p0 p1 p2 p3 p4 p5 p6 p7 : Prop} (x0 : p0) (x1 : p1) (x2 : p2) (x3 : p3) (x4 : p4) (x5 : p5) (x6 : p6) (x7 : p7) : p0 ∧ p1 ∧ p2 ∧ p3 ∧ p4 ∧ p5 ∧ p6 ∧ p7 := ⟨x0, x1, x2, x3, x4, x5, x6, x7⟩
theorem _root_.aI9 {p0 p1 p2 p3 p4 p5 p6 p7 p8 : Prop} (x0 : p0) (x1 : p1) (x2 : p2) (x3 : p3) (x4 : p4) (x5 : p5) (x6 : p6) (x7 : p7) (x8 : p8) : p0 ∧ p1 ∧ p2 ∧ p3 ∧ p4 ∧ p5 ∧ p6 ∧ p7 ∧ p8 := ⟨x0, x1, x2, x3, x4, x5, x6, x7, x8⟩
theorem _root_.FU {p0 p1 p2 p3 p4 p5 p6 p7 p8 p9 : Prop} (x0 : p0) (x1 : p1) (x2 : p2) (x3 : p3) (x4 : p4) (x5 : p5) (x6 : p6) (x7 : p7) (x8 : p8) (x9 : p9) : p0 ∧ p1 ∧ p2 ∧ p3 ∧ p4 ∧ p5 ∧ p6 ∧ p7 ∧ p8 ∧ p9 := ⟨x0, x1, x2, x3, x4, x5, x6, x7, x8, x9⟩
theorem _root_.YG {p0 p1 p2 p3 p4 p5 p6 p7 p8 p9 p10 : Prop} (x0 : p0) (x1 : p1) (x2 : p2) (x3 : p3) (x4 : p4) (x5 : p5) (x6 : p6) (x7 : p7) (x8 : p8) (x9 : p9) (x10 : p10) : p0 ∧ p1 ∧ p2 ∧ p3 ∧ p4 ∧ p5 ∧ p6 ∧ p7 ∧ p8 ∧ p9 ∧ p10 := ⟨x0, x1, x2, x3, x4, x5, x6, x7, x8, x9, x10⟩
theorem _root_.MG {p0 p1 p2 p3 p4 p5 p6 p7 p8 p9 p10 p11 : Prop} (x0 : p0) (x1 : p1) (x2 : p2) (x3 : p3) (x4 : p4) (x5 : p5) (x6 : p6) (x7 : p7) (x8 : p8) (x9 : p9) (x10 : p10) (x11 : p11) : p0 ∧ p1 ∧ p2 ∧ p3 ∧ p4 ∧ p5 ∧ p6 ∧ p7 ∧ p8 ∧ p9 ∧ p10 ∧ p11 := ⟨x0, x1, x2, x3, x4, x5, x6, x7, x8, x9, x10, x11⟩
theorem _root_.RF {p0 p1 p2 p3 p4 p5 p6 p7 p8 p9 p10 p11 p12 : Prop} (x0 : p0) (x1 : p1) (x2 : p2) (x3 : p3) (x4 : p4) (x5 : p5) (x6 : p6) (x7 : p7) (x8 : p8) (x9 : p9) (x10 : p10) (x11 : p11) (x12 : p12) : p0 ∧ p1 ∧ p2 ∧ p3 ∧ p4 ∧ p5 ∧ p6 ∧ p7 ∧ p8 ∧ p9 ∧ p10 ∧ p11 ∧ p12 := ⟨x0, x1, x2, x3, x4, x5, x6, x7, x8, x9, x10, x11, x12⟩
theorem _root_.bDE {p0 p1 p2 p3 p4 p5 p6 p7 p8 p9 p10 p11 p12 p13 : Prop} (x0 : p0) (x1 : p1) (x2 : p2) (x3 : p3) (x4 : p4) (x5 : p5) (x6 : p6) (x7 : p7) (x8 : p8) (x9 : p9) (x10 : p10) (x11 : p11) (x12 : p12) (x13 : p13) : p0 ∧ p1 ∧ p2 ∧ p3 ∧ p4 ∧ p5 ∧ p6 ∧ p7 ∧ p8 ∧ p9 ∧ p10 ∧ p11 ∧ p12 ∧ p13 := ⟨x0, x1, x2, x3, x4, x5, x6, x7, x8, x9, x10, x11, x12, x13⟩
abbrev _root_.aZ1 := @List.length_append
abbrev _root_.bZ1 := @Nat.le_trans
abbrev _root_.cZ1 := @Nat.lt_of_lt_of_le
abbrev _root_.dZ1 := @List.mem_singleton
abbrev _root_.eZ1 := @List.take_of_length_le
abbrev _root_.fZ1 := @List.eq_nil_of_length_eq_zero
abbrev _root_.gZ1 := @List.length_cons
abbrev _root_.hZ1 := @List.length_map
abbrev _root_.iZ1 := @List.length_take
abbrev _root_.jZ1 := @List.mem_append
abbrev _root_.kZ1 := @List.mem_cons_self
abbrev _root_.lZ1 := @List.mem_cons_of_mem
abbrev _root_.mZ1 := @List.mem_cons
abbrev _root_.aZ2 := @Nat.zero_le
abbrev _root_.bZ2 := @Nat.le_refl
abbrev _root_.cZ2 := @List.map_append
abbrev _root_.dZ2 := @List.map_cons
abbrev _root_.eZ2 := @List.flatMap_cons
abbrev _root_.fZ2 := @List.append_nil
abbrev _root_.gZ2 := @List.length_nil
abbrev _root_.hZ2 := @List.not_mem_nil
abbrev _root_.iZ2 := @List.mem_map
abbrev _root_.jZ2 := @List.getElem?_eq_getElem
abbrev _root_.kZ2 := @List.all_eq_true
abbrev _root_.lZ2 := @Option.some.inj
abbrev _root_.mZ2 := @List.append_assoc
abbrev _root_.aZ3 := @List.take_append_drop
abbrev _root_.bZ3 := @Int.toNat_natCast
abbrev _root_.cZ3 := @List.mem_of_mem_take
abbrev _root_.dZ3 := @List.sum_cons
abbrev _root_.eZ3 := @List.any_eq_true
abbrev _root_.fZ3 := @List.mem_flatMap
abbrev _root_.gZ3 := @List.length_drop
abbrev _root_.hZ3 := @List.cons_append
abbrev _root_.iZ3 := @List.nil_append
abbrev _root_.jZ3 := @List.getElem_of_mem
abbrev _root_.kZ3 := @List.mem_filter
class KN (a w:World):Prop where
  out:aA Nil a w
instance {w:World}:KN w w:=⟨aA.refl _ _⟩
instance {a w:World} [h:KN a w]:KN a w.drew:=⟨h.out.drew⟩
instance {a w:World} {n:Nat} [h:KN a w]:KN a (w.drewN n):=⟨h.out.drewN n⟩
instance {a w:World} {o:Obj} [h:KN a w]:KN a (w.alloc o):=⟨h.out.alloc o⟩
theorem kOf {M:Nat→Prop} {a w:World} [h:KN a w]:aA M a w:=h.out.of_nil
theorem sL:(∀(l:List Value) (i:Nat) (v:Value),l.toArray.setIfInBounds i v=(l.set i v).toArray)∧(∀(a:Value) (l:List Value) (v:Value),(a::l).set 0 v=v::l)∧(∀(a:Value) (l:List Value) (n:Nat) (v:Value),(a::l).set (n+1) v=a::l.set n v)∧∀(n:Nat) (v:Value),([]:List Value).set n v=[]:=⟨fun _ _ _=>List.setIfInBounds_toArray ..,fun _ _ _=>rfl,fun _ _ _ _=>rfl,fun _ _=>List.set_nil⟩
theorem sN:(∀(l:List Oper) (i:Nat) (h:i<l.toArray.size),l.toArray[i]=l[i]'wD)∧(∀(a:Oper) (l:List Oper) (h:0<(a::l).length),(a::l)[0]=a)∧∀(a:Oper) (l:List Oper) (n:Nat) (h:n+1<(a::l).length),(a::l)[n+1]=l[n]'wD:=⟨fun _ _ _=>rfl,fun _ _ _=>rfl,fun _ _ _ _=>rfl⟩
theorem mK {p q:Prop} (k:q) (h:q→p:=by (intro hq;refine hK.out _ _ (fun _=>trivial) ?_;(try simp only [Act.put,sL]);exact hq)):p:=h k
theorem mH {p q:Prop} (k:q) (h:q→p:=by (intro hq;refine hK.out _ _ (fun h=>h) ?_;(try simp only [Act.put,sL]);exact hq)):p:=h k
theorem aA.set1 {a w:World} {g:Nat} (h:aA (One g) a w) (o:Nat) (u:Value):aA (One g) a (w.setCell ⟨g,o,none⟩ u):=h.setCell (p:=⟨g,o,none⟩) (.inl rfl) u
theorem aA.cell {M:Nat→Prop} {w w':World} (h:aA M w w') {p:Addr} (hp:p.block<w.heap.size) (hn:¬M p.block):w'.cell? p=w.cell? p:=
  World.cell?_of_block (w:=w) (h.block p.block hp hn)
theorem aA.frozen {M:Nat→Prop} {w w':World} (h:aA M w w') {p:Addr} (hp:p.block<w.heap.size) (hn:¬M p.block):w'.frozen? p=w.frozen? p:=
  World.frozen?_of_block (w:=w) (h.block p.block hp hn)
theorem aA.eY {M:Nat→Prop} {w w':World} (h:aA M w w') {b o:Nat} {v:Value} (hp:b<w.heap.size) (hn:¬M b) (hv:w.cell? ⟨b,o,none⟩=some v):w'.cell? ⟨b,o,none⟩=some v:=
  (h.cell (p:=⟨b,o,none⟩) hp hn).trans hv
theorem aA.rules {w w':World} (h:aA Nil w w'):(∀b o,b<w.heap.size→w'.cell? ⟨b,o,none⟩=w.cell? ⟨b,o,none⟩)∧(∀b o,b<w.heap.size→w'.frozen? ⟨b,o,none⟩=w.frozen? ⟨b,o,none⟩):=
  ⟨fun b o hb=>h.cell (p:=⟨b,o,none⟩) hb id,fun b o hb=>h.frozen (p:=⟨b,o,none⟩) hb id⟩
theorem MB.keep {M M':Nat→Prop} {w w':World} (h:MB M w) (k:aA M' w w'):MB M w':=fun b hb=>Nat.lt_of_lt_of_le (h b hb) k.size
theorem MB.nil (w:World):MB Nil w:=fun _ h=>h.elim
structure Sl (M:Nat→Prop) (w:World) (sz:Nat) (a:Option Addr) (n c:Nat) (f:Nat→Nat→Value):Prop where
  le:n≤c
  cap:c≤9223372036854775807
  none:a=.none→n=0∧c=0
  some:∀p,a=.some p→0<n→p.spot=.none∧p.block<w.heap.size∧¬M p.block∧∀i j,i<n→j<sz→w.cell? ⟨p.block,p.off+i*sz+j,.none⟩=.some (f i j)
theorem Sl.keep {M M':Nat→Prop} {w w':World} {sz:Nat} {a:Option Addr} {n c:Nat} {f:Nat→Nat→Value} (h:Sl M w sz a n c f) (k:aA M' w w') (hm:∀b,b<w.heap.size→M' b→M b):Sl M w' sz a n c f:=
  ⟨h.le,h.cap,h.none,fun p hp h0=>by
    obtain ⟨h1,h2,h3,h4⟩:=h.some p hp h0;exact⟨h1,Nat.lt_of_lt_of_le h2 k.size,h3,fun i j hi hj=>k.eY h2 (fun hb=>h3 (hm _ h2 hb)) (h4 i j hi hj)⟩⟩
theorem Sl.turn {M M':Nat→Prop} {w:World} {sz:Nat} {a:Option Addr} {n c:Nat} {f:Nat→Nat→Value} (h:Sl M w sz a n c f) (hm:∀b,b<w.heap.size→M' b→M b):Sl M' w sz a n c f:=
  ⟨h.le,h.cap,h.none,fun p hp h0=>by
    obtain ⟨h1,h2,h3,h4⟩:=h.some p hp h0;exact⟨h1,h2,fun hb=>h3 (hm _ h2 hb),h4⟩⟩
theorem Sl.nil (M:Nat→Prop) (w:World) (sz:Nat) (f:Nat→Nat→Value):Sl M w sz .none 0 0 f:=⟨Nat.le_refl _,Nat.zero_le _,fun _=>⟨rfl,rfl⟩,fun _ h _=>wZ⟩
theorem Sl.at {M:Nat→Prop} {w:World} {sz:Nat} {a:Option Addr} {n c:Nat} {f:Nat→Nat→Value} (h:Sl M w sz a n c f) (hn:0<n) :
    ∃b off,a=.some ⟨b,off,.none⟩∧b<w.heap.size∧¬M b∧∀i j,i<n→j<sz→w.cell? ⟨b,off+i*sz+j,.none⟩=.some (f i j):=by
  cases a with
  | none=>have:=h.none rfl;omega
  | some p=>
    obtain ⟨h1,h2,h3,h4⟩:=h.some p rfl hn;obtain ⟨b,off,spot⟩:=p;subst h1;exact⟨b,off,rfl,h2,h3,h4⟩
theorem Sl.take {M:Nat→Prop} {w:World} {sz:Nat} {p:Addr} {n c:Nat} {f:Nat→Nat→Value} (h:Sl M w sz (.some p) n c f) {k:Nat} (hk:k≤n):Sl M w sz (.some p) k c f:=
  ⟨Nat.le_trans hk h.le,h.cap,(fun h=>wZ),fun q hq h0=>by
    obtain ⟨h1,h2,h3,h4⟩:=h.some q hq zZ;exact⟨h1,h2,h3,fun i j hi hj=>h4 i j zZ hj⟩⟩
theorem Sl.congr {M:Nat→Prop} {w:World} {sz:Nat} {a:Option Addr} {n c:Nat} {f g:Nat→Nat→Value} (h:Sl M w sz a n c f) (e:∀i j,i<n→j<sz→f i j=g i j):Sl M w sz a n c g:=
  ⟨h.le,h.cap,h.none,fun q hq h0=>by
    obtain ⟨h1,h2,h3,h4⟩:=h.some q hq h0;exact⟨h1,h2,h3,fun i j hi hj=>by rw [h4 i j hi hj,e i j hi hj]⟩⟩
def lim (l:List Nat) (i:Nat):Nat:=l.getD i 0
theorem jB {l:List Nat} {i:Nat} (h:i<l.length):lim l i=l[i]:=by simp [lim,h]
def u32 (x:Nat):Value:=.int .u32 (x:Int)
structure aU (M:Nat→Prop) (w:World) (a:Option Addr) (n c:Nat) (l:List Nat):Prop where
  len:l.length=n
  sl:Sl M w 1 a n c (fun i _=>.int .u32 (lim l i:Int))
  lt:∀x∈l,x<4294967296
theorem aU.keep {M M':Nat→Prop} {w w':World} {a:Option Addr} {n c:Nat} {l:List Nat} (h:aU M w a n c l) (k:aA M' w w') (hm:∀b,b<w.heap.size→M' b→M b):aU M w' a n c l:=
  ⟨h.len,h.sl.keep k hm,h.lt⟩
theorem aU.keep' {M:Nat→Prop} {w w':World} {a:Option Addr} {n c:Nat} {l:List Nat} (h:aU M w a n c l) (k:aA M w w'):aU M w' a n c l:=h.keep k fun _ _=>id
theorem aU.jB {M:Nat→Prop} {w:World} {a:Option Addr} {n c:Nat} {l:List Nat} (h:aU M w a n c l) (i:Nat):lim l i<4294967296:=by
  unfold lim;by_cases hi:i<l.length
  · simpa [hi] using h.lt _ (List.getElem_mem hi)
  · simp [List.getD,List.getElem?_eq_none (Nat.le_of_not_lt hi)]
theorem aU.owned {w:World} {base:Nat} {E:TypeId} {v:Value} {n:Nat} {l:List Nat} (h:w.ownsRow base E 1 v n (l.map u32)) (hl:∀x∈l,x<4294967296) {M:Nat→Prop} (hM:∀b,M b→b<base) :
    ∃a c,v=.slice a n c∧aU M w a n c l:=by
  have hn:l.length=n:=by simpa using h.1
  rcases h.2 with ⟨rfl,rfl⟩|⟨g,cap,cur,rfl,hb,hg,hnc,hcm,hcs,htake⟩
  · have:l=[]:=List.eq_nil_of_length_eq_zero hn
    subst this;exact⟨_,_,rfl,rfl,Sl.nil _ _ _ _,hl⟩
  · refine ⟨_,_,rfl,hn,⟨hnc,vZ,(fun h=>wZ),fun p hp _=>?_⟩,hl⟩
    cases hp;refine ⟨rfl,(Array.getElem?_eq_some_iff.1 hg).1,fun hm=>by have:=hM _ hm;simp at this;omega,fun i j hi hj=>?_⟩;obtain rfl:j=0:=zZ;have:=h.cells (g:=g) rfl i (.int .u32 (lim l i:Int)) (by simp [List.getElem?_map,Go.Proofs.Q.lim,u32,List.getElem?_eq_getElem (show i<l.length by omega)]);simpa [Addr.add_lit] using this
def kV (l:List Nat):Nat→Nat
  | 0=>0
  | k+1=>if lim l k==0 then kV l k else k+1
theorem aFJ {l:List Nat} {k:Nat} (h:lim l k=0):kV l (k+1)=kV l k:=by simp [kV,h]
theorem aHL {l:List Nat} {k:Nat} (h:lim l k≠0):kV l (k+1)=k+1:=by simp [kV,h]
theorem bAT (l:List Nat) (k:Nat):kV l k≤k:=by
  induction k with
  | zero=>exact Nat.le_refl _
  | succ k ih=>unfold kV;split<;>omega
theorem aOP {w:World} {b off n:Nat} {l:List Nat} (hl:l.length=n) (hc:∀i j,i<n→j<1→w.cell? ⟨b,off+i*1+j,none⟩=some (.int .u32 (lim l i:Int))) (k:Nat) (hk:k≤n) :
    ∀(j:Nat) (u:Value),((l.take k).map u32)[j]?=some u→w.cell? ((⟨b,off,none⟩:Addr).add j)=some u:=by
  intro j u hj;rw [Addr.add_lit];have hjk:j<k:=by
    have:=(List.getElem?_eq_some_iff.1 hj).1;simp at this;omega
  have h:=hc j 0 zZ zZ;simp only [Nat.mul_one,Nat.add_zero] at h;rw [h];have hjl:j<l.length:=zZ;simp only [List.getElem?_map,List.getElem?_take,hjk,if_true,List.getElem?_eq_getElem hjl,Option.map_some] at hj;rw [Go.Proofs.Q.jB hjl];exact hj
theorem aJQ (l:List Nat):∀u∈l.map u32,u.oneCell'=true:=by
  intro u hu;obtain ⟨x,_,rfl⟩:=List.mem_map.1 hu;rfl
def top (l:List Nat):Nat:=kV l l.length
def trim (l:List Nat):List Nat:=l.take (top l)
theorem QS (l:List Nat):top l≤l.length:=bAT l _
theorem dG (l:List Nat):(trim l).length=top l:=by simp [trim,QS]
theorem aHB {l:List Nat} {x:Nat} (h:x∈trim l):x∈l:=List.mem_of_mem_take h
theorem QA {l:List Nat} {n i:Nat} (h:i<n):lim (l.take n) i=lim l i:=by simp [lim,List.getD,h]
theorem aU.take {M:Nat→Prop} {w:World} {p:Addr} {n c:Nat} {l:List Nat} (h:aU M w (some p) n c l) {k:Nat} (hk:k≤n):aU M w (some p) k c (l.take k):=
  ⟨by have:=h.len;simp;omega,(h.sl.take hk).congr (fun i j hi _=>by rw [QA hi]),fun x hx=>h.lt x (List.mem_of_mem_take hx)⟩
def aF (w:World) (g:Nat) (E:TypeId) (xs:List Value):Prop:=w.heap[g]?=some (.cells xs.toArray E (0,0))
theorem aF.out {w:World} {g:Nat} {E:TypeId} {xs:List Value} (h:aF w g E xs):w.heap[g]?=some (.cells xs.toArray E (0,0)):=h
theorem aF.lt {w:World} {g:Nat} {E:TypeId} {xs:List Value} (h:aF w g E xs):g<w.heap.size:=(Array.getElem?_eq_some_iff.1 h).1
theorem aF.keep {M:Nat→Prop} {w w':World} {g:Nat} {E:TypeId} {xs:List Value} (h:aF w g E xs) (k:aA M w w') (hn:¬M g):aF w' g E xs:=(k.block g h.lt hn).trans h
theorem aF.cell {w:World} {g:Nat} {E:TypeId} {xs:List Value} (h:aF w g E xs) (i:Nat):w.cell? ⟨g,i,none⟩=xs[i]?:=by
  rw [cell_of_row w g i _ E (0,0) h];simp
theorem aF.frozen {w:World} {g:Nat} {E:TypeId} {xs:List Value} (h:aF w g E xs) (i:Nat):w.frozen? ⟨g,i,none⟩=false:=by
  simp [World.frozen?,h.out]
theorem aF.one {w:World} {g:Nat} {E:TypeId} {x:Value} (h:aF w g E [x]):w.cell? ⟨g,0,none⟩=some x∧w.frozen? ⟨g,0,none⟩=false:=⟨h.cell 0,h.frozen 0⟩
theorem aF.two {w:World} {g:Nat} {E:TypeId} {x y:Value} (h:aF w g E [x,y]):w.cell? ⟨g,0,none⟩=some x∧w.cell? ⟨g,1,none⟩=some y∧w.frozen? ⟨g,0,none⟩=false∧w.frozen? ⟨g,1,none⟩=false:=⟨h.cell 0,h.cell 1,h.frozen 0,h.frozen 1⟩
theorem aF.three {w:World} {g:Nat} {E:TypeId} {x y z:Value} (h:aF w g E [x,y,z]):w.cell? ⟨g,0,none⟩=some x∧w.cell? ⟨g,1,none⟩=some y∧w.cell? ⟨g,2,none⟩=some z:=⟨h.cell 0,h.cell 1,h.cell 2⟩
theorem aF.set {w:World} {g:Nat} {E:TypeId} {xs:List Value} (h:aF w g E xs) (i:Nat) (v:Value):aF (w.setCell ⟨g,i,none⟩ v) g E (xs.set i v):=by
  unfold aF;simp only [World.setCell,Array.getElem?_modify,if_true,h.out,Option.map_some];simp
theorem aF.alloc {w:World} {E:TypeId} {xs:List Value}:aF (w.alloc (.cells xs.toArray E)) w.heap.size E xs:=heap_alloc_new w _
theorem bx1 (w:World) (E:TypeId) (xs:List Value):∃w0,w.alloc (.cells xs.toArray E)=w0∧aA Nil w w0∧aF w0 w.heap.size E xs:=⟨_,rfl,kOf,aF.alloc⟩
theorem bx2 (w:World) (E:TypeId) (xs:List Value) (F:TypeId) (ys:List Value):∃w0,(w.alloc (.cells xs.toArray E)).alloc (.cells ys.toArray F)=w0∧aA Nil w w0∧aF w0 w.heap.size E xs∧aF w0 (w.heap.size+1) F ys:=by
  refine ⟨_,rfl,kOf,aF.alloc.keep (M:=Nil) kOf id,?_⟩;have h:=aF.alloc (w:=w.alloc (.cells xs.toArray E)) (E:=F) (xs:=ys);rwa [show (w.alloc (.cells xs.toArray E)).heap.size=w.heap.size+1 by simp] at h
theorem bx3 (w:World) (E:TypeId) (xs:List Value) (F:TypeId) (ys:List Value) (G:TypeId) (zs:List Value):∃w0,((w.alloc (.cells xs.toArray E)).alloc (.cells ys.toArray F)).alloc (.cells zs.toArray G)=w0∧aA Nil w w0∧aF w0 w.heap.size E xs∧aF w0 (w.heap.size+1) F ys∧aF w0 (w.heap.size+1+1) G zs:=by
  obtain ⟨w1,e,k,r0,r1⟩:=bx2 w E xs F ys;rw [e];refine ⟨_,rfl,k.trans kOf,r0.keep (M:=Nil) kOf id,r1.keep (M:=Nil) kOf id,?_⟩;have h:=aF.alloc (w:=w1) (E:=G) (xs:=zs);rwa [show w1.heap.size=w.heap.size+1+1 by rw [←e];simp] at h
def zeros (n:Nat) (z:Value):List Value:=List.replicate n z
theorem aNI (n:Nat) (z:Value):(zeros n z).length=n:=pP
def eX (l:List Nat):List Value:=l.map u32
theorem dV (l:List Nat):(eX l).length=l.length:=by simp [eX]
def mE (M:Nat→Prop) (w:World) (a:Option Addr) (cs:List Value):Prop:=
  0<cs.length→∃b off,a=some ⟨b,off,none⟩∧b<w.heap.size∧¬M b∧∀j v,cs[j]?=some v→w.cell? ⟨b,off+j,none⟩=some v
theorem mE.keep {M M':Nat→Prop} {w w':World} {a:Option Addr} {cs:List Value} (h:mE M w a cs) (k:aA M' w w') (hm:∀b,b<w.heap.size→M' b→M b):mE M w' a cs:=by
  intro hp;obtain ⟨b,off,rfl,hb,hn,hc⟩:=h hp;exact⟨b,off,rfl,Nat.lt_of_lt_of_le hb k.size,hn,fun j v hj=>k.eY hb (fun hb'=>hn (hm _ hb hb')) (hc j v hj)⟩
theorem mE.eO {M:Nat→Prop} {w w':World} {a:Option Addr} {cs:List Value} (h:mE M w a cs) (k:aA Nil w w'):mE M w' a cs:=h.keep k fun _ _ h=>h.elim
theorem aU.src {M:Nat→Prop} {w:World} {a:Option Addr} {n c:Nat} {l:List Nat} (h:aU M w a n c l) {k:Nat} (hk:k≤n):mE M w a (eX (l.take k)):=by
  intro hp;have hl:=h.len;rw [dV,List.length_take] at hp;obtain ⟨b,off,rfl,hb,hn,hc⟩:=h.sl.at zZ;exact⟨b,off,rfl,hb,hn,fun j v hj=>by rw [←aOP hl hc k hk j v hj,Addr.add_lit]⟩
theorem YW {M:Nat→Prop} {P:Program} {w:World} {ops:Array Oper} {rest:List Oper} {o:Oper} {a:Act} {Q:Exit→Act→World→Prop} (hgd:o.guard=none) (d s:Operand) (dT sT:TypeId)
    (ho:o.op=.call { callee:=.builtin .copy,args:=#[d,s],argTypes:=#[dT,sT] }) (elem:TypeId) (hu:P.underlying dT=some (.slice elem)) (hsz:(P.info? elem).map (·.size)=some 1)
    (dp sp:Option Addr) (dLen dCap sLen sCap:Nat) (hd:a.eval d=.slice dp dLen dCap) (hs:a.eval s=.slice sp sLen sCap)
    (g off:Nat) (cur:List Value) (t:TypeId) (hg:aF w g t cur) (cs:List Value) (hn:cs.length=min sLen dLen)
    (hpd:0<cs.length→dp=some ⟨g,off,none⟩) (hps:mE M w sp cs)
    (hfit:off+cs.length≤cur.length) (h1:∀v∈cs,v.oneCell'=true)
    (h:∀w',aF w' g t (splice cur off cs)→aA (One g) w w'→wpList P ops Q rest (a.put o.dst (goInt cs.length)) w') :
    wpList P ops Q (o::rest) a w:=by
  by_cases h0:cs.length=0
  · obtain rfl:cs=[]:=List.eq_nil_of_length_eq_zero h0
    refine wpList_copy_nothing hgd d s dT sT ho elem hu hsz dp sp dLen dCap sLen sCap hd hs (by simpa using hn.symm) ?_;exact h w (by simpa [splice] using hg) (aA.refl _ _)
  · obtain ⟨b,so,rfl,hb,_,hsrc⟩:=hps zZ
    obtain rfl:=hpd zZ;refine wpList_copy_own hgd d s dT sT ho elem hu hsz g off dLen dCap ⟨b,so,none⟩ sLen sCap hd hs cur.toArray t hg.out cs hn (fun j v hj=>by rw [Addr.add_lit];exact hsrc j v hj) (by simpa using hfit) h1 ?_;refine h _ (show _=_ by simpa [splice] using setRow_heap w g _ _ t _ hg.out) ⟨rfl,rfl,rfl,by simp [World.setRow],fun k _ hk=>setRow_other w g k _ hk⟩
theorem wpList_make_row {P:Program} (w:World) {ops:Array Oper} {rest:List Oper} {o:Oper} {a:Act} {Q:Exit→Act→World→Prop}
    (hg:o.guard=none) (l c:Operand) (t:TypeId) (hop:o.op=Op.makeSlice t l c)
    (e:TypeId) (i:TypeInfo) (z:Value) (h1:P.underlying t=some (.slice e)) (h2:P.info? e=some i) (h3:i.zero=some z) (h4:i.size=1) (hz:z.cells=#[z])
    (kl kc:IntKind) (L C:Int) (n:Nat) (hl:a.eval l=.int kl L) (hc:a.eval c=.int kc C) (hL:L=(n:Int)) (hC:C=(n:Int)) (b2:i.bytes*n≤281474976710656) (b3:n≤9223372036854775807)
    (hK:∀w',aF w' w.heap.size e (zeros n z)→aA Nil w w'→w'.heap.size=w.heap.size+1→wpList P ops Q rest (a.put o.dst (.slice (some ⟨w.heap.size,0,none⟩) n n)) w') :
    wpList P ops Q (o::rest) a w:=by
  refine wpList_plain hg fun K hK'=>?_;subst hL;subst hC;have hb:(i.bytes:Int)*(n:Int)≤281474976710656:=by
    have h:((i.bytes*n:Nat):Int)≤281474976710656:=zZ;rwa [Int.natCast_mul] at h
  have hr:=run_make (P:=P) w t e i z h1 h2 h3 kl kc (n:Int) (n:Int) zZ (Int.le_refl _) hb zZ;have hm:madeCells z.cells ((n:Int).toNat*i.size)=(List.replicate n z).toArray:=by
    rw [h4,Nat.mul_one,Int.toNat_natCast,hz];apply Array.ext
    · simp [madeCells]
    · intro j h1 h2
      simp [madeCells,Nat.mod_one]
  rw [hm] at hr;simp only [Int.toNat_natCast] at hr;unfold Oper.wp;simp [execOp,hop,hl,hc,hr,Result.andThen];refine hK' _ _ ?_;have:=hK (w.alloc (.cells (List.replicate n z).toArray e)) (heap_alloc_new w _) ((aA.refl Nil w).alloc _) zW;simpa using this
theorem aU.ofRow {M:Nat→Prop} {w:World} {g:Nat} {E:TypeId} {l:List Nat} (h:aF w g E (eX l)) (hl:∀x∈l,x<4294967296) (hM:¬M g) (hr:l.length≤9223372036854775807) :
    aU M w (some ⟨g,0,none⟩) l.length l.length l:=
  ⟨rfl,⟨Nat.le_refl _,hr,(fun h=>wZ),fun p hp _=>by
    cases hp;refine ⟨rfl,h.lt,hM,fun i j hi hj=>?_⟩;obtain rfl:j=0:=zZ;simp only [Nat.mul_one,Nat.add_zero,Nat.zero_add];rw [h.cell i];simp [Go.Proofs.Q.jB hi,eX,u32,List.getElem?_eq_getElem hi]⟩,hl⟩
structure eU {α:Type} (M:Nat→Prop) (w:World) (sz:Nat) (R:List Value→α→Prop) (d:α) (a:Option Addr) (n c:Nat) (xs:List α):Prop where
  len:xs.length=n
  ex:∃f:Nat→List Value,Sl M w sz a n c (fun i j=>(f i).getD j undef)∧∀i,i<n→(f i).length=sz∧R (f i) (xs.getD i d)
section
variable {α:Type} {M M':Nat→Prop} {w w':World} {sz:Nat} {R R':List Value→α→Prop} {d:α} {a:Option Addr} {n c:Nat} {xs:List α}
theorem eU.keep (h:eU M w sz R d a n c xs) (k:aA M' w w') (hm:∀b,b<w.heap.size→M' b→M b) (hR:∀cs x,R cs x→R' cs x):eU M w' sz R' d a n c xs:=
  ⟨h.len,h.ex.elim fun f ⟨h1,h2⟩=>⟨f,h1.keep k hm,fun i hi=>⟨(h2 i hi).1,hR _ _ (h2 i hi).2⟩⟩⟩
theorem eU.at (h:eU M w sz R d a n c xs) {i:Nat} (hi:i<n) :
    ∃b off cs,a=.some ⟨b,off,.none⟩∧b<w.heap.size∧¬M b∧cs.length=sz∧(∀j,j<sz→w.cell? ⟨b,off+i*sz+j,.none⟩=.some (cs.getD j undef))∧R cs (xs.getD i d):=by
  obtain ⟨f,h1,h2⟩:=h.ex;obtain ⟨b,off,rfl,hb,hn,hc⟩:=h1.at zZ;exact⟨b,off,f i,rfl,hb,hn,(h2 i hi).1,fun j hj=>hc i j hi hj,(h2 i hi).2⟩
theorem eU.le (h:eU M w sz R d a n c xs):n≤c:=h.ex.elim fun _ h=>h.1.le
theorem eU.cap (h:eU M w sz R d a n c xs):c≤9223372036854775807:=h.ex.elim fun _ h=>h.1.cap
theorem eU.none (h:eU M w sz R d .none n c xs):n=0∧c=0:=h.ex.elim fun _ h=>h.1.none rfl
theorem eU.nil:eU M w sz R d .none 0 0 []:=⟨rfl,fun _=>[],Sl.nil _ _ _ _,fun i hi=>zZ⟩
end
def RA (M:Nat→Prop) (w:World) (cs:List Value) (x:Bool × List Nat):Prop:=∃a n c,cs=[.bool x.1,.slice a n c]∧aU M w a n c x.2∧n*4≤140737488355328
theorem RA.keep {M M':Nat→Prop} {w w':World} {cs:List Value} {x:Bool × List Nat} (h:RA M w cs x) (k:aA M' w w') (hm:∀b,b<w.heap.size→M' b→M b):RA M w' cs x:=by
  obtain ⟨a,n,c,h1,h2,h3⟩:=h;exact⟨a,n,c,h1,h2.keep k hm,h3⟩
theorem aU.turn {M M':Nat→Prop} {w:World} {a:Option Addr} {n c:Nat} {l:List Nat} (h:aU M w a n c l) (hm:∀b,b<w.heap.size→M' b→M b):aU M' w a n c l:=⟨h.len,h.sl.turn hm,h.lt⟩
def Ints (M:Nat→Prop) (w:World) (a:Option Addr) (n c:Nat) (xs:List (Bool × List Nat)):Prop:=eU M w 2 (RA M w) (false,[]) a n c xs
theorem Ints.keep {M M':Nat→Prop} {w w':World} {a:Option Addr} {n c:Nat} {xs:List (Bool × List Nat)} (h:Ints M w a n c xs) (k:aA M' w w') (hm:∀b,b<w.heap.size→M' b→M b):Ints M w' a n c xs:=
  eU.keep h k hm fun _ _ hx=>hx.keep k hm
theorem Ints.eO {M:Nat→Prop} {w w':World} {a:Option Addr} {n c:Nat} {xs:List (Bool × List Nat)} (h:Ints M w a n c xs) (k:aA Nil w w'):Ints M w' a n c xs:=h.keep k fun _ _ h=>h.elim
def ith (xs:List (Bool × List Nat)) (i:Nat):Bool × List Nat:=xs.getD i (false,[])
theorem Ints.at {M:Nat→Prop} {w:World} {a:Option Addr} {n c:Nat} {xs:List (Bool × List Nat)} (h:Ints M w a n c xs) {i:Nat} (hi:i<n) :
    ∃b off a' n' c',a=some ⟨b,off,none⟩∧b<w.heap.size∧¬M b∧w.cell? ⟨b,off+i*2,none⟩=some (.bool (ith xs i).1)∧w.cell? ⟨b,off+i*2+1,none⟩=some (.slice a' n' c')∧aU M w a' n' c' (ith xs i).2∧n'*4≤140737488355328:=by
  obtain ⟨b,off,cs,rfl,hb,hn,hl,hc,a',n',c',h1,h2,h3⟩:=eU.at h hi;subst h1;exact⟨b,off,a',n',c',rfl,hb,hn,by simpa [ith] using hc 0 zZ,by simpa using hc 1 zZ,h2,h3⟩
theorem Ints.none {M:Nat→Prop} {w:World}:Ints M w none 0 0 []:=eU.nil
end
def Lays (w w':World):Prop:=aA Nil w w'∧w.drawn≤w'.drawn
theorem Lays.refl (w:World):Lays w w:=⟨aA.refl _ _,Nat.le_refl _⟩
theorem Lays.trans {a b c:World} (h:Lays a b) (k:Lays b c):Lays a c:=⟨h.1.trans k.1,Nat.le_trans h.2 k.2⟩
theorem Lays.drew {a w:World} (h:Lays a w):Lays a w.drew:=⟨h.1.drew,Nat.le_trans h.2 (Nat.le_succ _)⟩
theorem Lays.drewN {a w:World} (h:Lays a w) (n:Nat):Lays a (w.drewN n):=⟨h.1.drewN n,Nat.le_trans h.2 (Nat.le_add_right _ _)⟩
theorem Lays.alloc {a w:World} (h:Lays a w) (o:Obj):Lays a (w.alloc o):=⟨h.1.alloc o,h.2⟩
theorem Lays.form {w w':World} (h:Lays w w'):∃q os',w'=Sort.grow (w.drewN q) os':=by
  obtain ⟨k,hd⟩:=h;obtain ⟨hp,tape,drawn,os,out⟩:=w;obtain ⟨hp',tape',drawn',os',out'⟩:=w';obtain ⟨k1,k2,k3,k4,k5⟩:=k;simp only at k1 k2 k3 k4 k5 hd;subst k1 k2 k3;refine ⟨drawn'-drawn,hp'.extract hp.size hp'.size,?_⟩;unfold Sort.grow World.drewN;simp only [World.mk.injEq,and_true,true_and];refine ⟨?_,zZ⟩;apply Array.ext_getElem?;intro i;rcases Nat.lt_or_ge i hp.size with hi|hi
  · rw [Array.getElem?_append_left hi];exact k5 i hi (fun h=>h.elim)
  · rw [Array.getElem?_append_right hi,Array.getElem?_extract]
    split
    · congr 1;omega
    · rw [Array.getElem?_eq_none zZ]
section
theorem Sl.move {M M' M2:Nat→Prop} {w w':World} {sz:Nat} {a:Option Addr} {n c:Nat} {f:Nat→Nat→Value} (h:Sl M w sz a n c f) (k:aA M' w w') (h1:∀b,b<w.heap.size→M' b→M b) (h2:∀b,b<w.heap.size→M2 b→M b):Sl M2 w' sz a n c f:=
  ⟨h.le,h.cap,h.none,fun p hp h0=>by
    obtain ⟨q1,q2,q3,q4⟩:=h.some p hp h0;exact⟨q1,Nat.lt_of_lt_of_le q2 k.size,fun hb=>q3 (h2 _ q2 hb),fun i j hi hj=>k.eY q2 (fun hb=>q3 (h1 _ q2 hb)) (q4 i j hi hj)⟩⟩
theorem aU.move {M M' M2:Nat→Prop} {w w':World} {a:Option Addr} {n c:Nat} {l:List Nat} (h:aU M w a n c l) (k:aA M' w w') (h1:∀b,b<w.heap.size→M' b→M b) (h2:∀b,b<w.heap.size→M2 b→M b):aU M2 w' a n c l:=
  ⟨h.len,h.sl.move k h1 h2,h.lt⟩
theorem eU.move {α:Type} {M M' M2:Nat→Prop} {w w':World} {sz:Nat} {R R':List Value→α→Prop} {d:α} {a:Option Addr} {n c:Nat} {xs:List α} (h:eU M w sz R d a n c xs) (k:aA M' w w') (h1:∀b,b<w.heap.size→M' b→M b) (h2:∀b,b<w.heap.size→M2 b→M b) (hR:∀cs x,R cs x→R' cs x):eU M2 w' sz R' d a n c xs:=
  ⟨h.len,h.ex.elim fun f ⟨q1,q2⟩=>⟨f,q1.move k h1 h2,fun i hi=>⟨(q2 i hi).1,hR _ _ (q2 i hi).2⟩⟩⟩
def Own (v:Value):Nat→Prop:=fun b=>v.ownBlock=some b
def DZ (w:World) (v v':Value):Prop:=∀k,v'.ownBlock=some k→v.ownBlock=some k∨w.heap.size≤k
def lI (M:Nat→Prop) (v:Value):Nat→Prop:=fun b=>M b∨v.ownBlock=some b
def AQ (w:World) (base:Nat) (e:TypeId) (size:Nat) (v:Value) (n:Nat) (xs:List Value):Prop:=
  xs.length=n*size∧((v=.slice none 0 0∧n=0) ∨
   ∃g cap cur,v=.slice (some ⟨g,0,none⟩) n cap∧base≤g∧w.heap[g]?=some (.cells cur e (0,0))∧n≤cap∧cap≤maxLen∧cap*size≤cur.size∧cur.toList.take (n*size)=xs)
theorem AQ.of {w:World} {base:Nat} {e:TypeId} {size:Nat} {v:Value} {n:Nat} {xs:List Value} (h:w.ownsRow base e size v n xs):AQ w base e size v n xs:=by
  obtain ⟨h1,h2|⟨g,cap,cur,q1,q2,q3,q4,q5,q6,q7⟩⟩:=h
  · exact⟨h1,.inl h2⟩
  · exact⟨h1,.inr ⟨g,cap,cur,q1,q2,q3,q4,q5,Nat.le_of_eq q6.symm,q7⟩⟩
theorem AQ.lt {w:World} {base:Nat} {e:TypeId} {size:Nat} {v:Value} {n:Nat} {xs:List Value} (h:AQ w base e size v n xs):∀b,v.ownBlock=some b→base≤b∧b<w.heap.size:=fun b hb=>by
  rcases h.2 with ⟨rfl,_⟩|⟨g,cap,cur,rfl,q,r,_⟩
  · simp [Value.ownBlock] at hb
  · have e:g=b:=by simpa [Value.ownBlock] using hb
    exact e ▸ ⟨q,(Array.getElem?_eq_some_iff.1 r).1⟩
theorem AQ.cells {w:World} {base:Nat} {e:TypeId} {size:Nat} {v:Value} {n:Nat} {xs:List Value} (h:AQ w base e size v n xs) {g:Nat} (hg:v.ownBlock=some g):∀j u,xs[j]?=some u→w.cell? ((⟨g,0,none⟩:Addr).add j)=some u:=fun j u hu=>by
  rcases h.2 with ⟨rfl,_⟩|⟨g',cap,cur,rfl,_,hr,_,_,_,ht⟩
  · simp [Value.ownBlock] at hg
  · have e':g'=g:=by simpa [Value.ownBlock] using hg
    subst e';rw [Addr.add_lit,cell_of_row w g' _ cur e (0,0) hr];rw [←ht,List.getElem?_take] at hu;split at hu
    · simpa using hu
    · cases hu
structure aL (w:World) (base:Nat) (E:TypeId) (sz:Nat) (v:Value) (els:List (List Value)):Prop where
  row:AQ w base E sz v els.length els.flatten
  sz:∀c∈els,c.length=sz
theorem aL.nil (w:World) (base:Nat) (E:TypeId) (sz:Nat):aL w base E sz (.slice none 0 0) []:=⟨.of (World.ownsRow_nil _ _ _ _),zW⟩
theorem aL.keep {M:Nat→Prop} {w w':World} {base:Nat} {E:TypeId} {sz:Nat} {v:Value} {els:List (List Value)} (h:aL w base E sz v els) (k:aA M w w') (hn:∀b,v.ownBlock=some b→¬M b):aL w' base E sz v els:=by
  refine ⟨⟨h.row.1,?_⟩,h.sz⟩;rcases h.row.2 with hx|⟨g,cap,cur,rfl,hb,hg,r⟩
  · exact .inl hx
  · exact .inr ⟨g,cap,cur,rfl,hb,by rw [k.block g (Array.getElem?_eq_some_iff.1 hg).1 (hn g rfl)];exact hg,r⟩
theorem aL.eO {w w':World} {base:Nat} {E:TypeId} {sz:Nat} {v:Value} {els:List (List Value)} (h:aL w base E sz v els) (k:aA Nil w w'):aL w' base E sz v els:=h.keep k fun _ _=>id
theorem aL.lt {w:World} {base:Nat} {E:TypeId} {sz:Nat} {v:Value} {els:List (List Value)} (h:aL w base E sz v els):∀b,v.ownBlock=some b→base≤b∧b<w.heap.size:=h.row.lt
theorem DI {sz:Nat}:∀(els:List (List Value)),(∀c∈els,c.length=sz)→∀i j,i<els.length→j<sz→els.flatten[i*sz+j]?=some ((els.getD i []).getD j undef)
  | [],_,i,j,hi,_=>pG
  | c::els,h,0,j,_,hj=>by
    have hc:c.length=sz:=h c zW;simp only [List.flatten_cons,Nat.zero_mul,Nat.zero_add,List.getD_cons_zero];rw [List.getElem?_append_left zZ];simp [List.getD,List.getElem?_eq_getElem (show j<c.length by omega)]
  | c::els,h,i+1,j,hi,hj=>by
    have hc:c.length=sz:=h c zW;simp only [List.flatten_cons,List.getD_cons_succ];rw [List.getElem?_append_right (by rw [hc,Nat.add_mul];omega),hc,show (i+1)*sz+j-sz=i*sz+j by rw [Nat.add_mul];omega];exact DI els (fun c hc=>h c (List.mem_cons_of_mem _ hc)) i j uI hj
theorem bL {sz:Nat}:∀(els:List (List Value)),(∀c∈els,c.length=sz)→els.flatten.length=els.length*sz
  | [],_=>zW
  | c::els,h=>by
    rw [List.flatten_cons,List.length_append,h c zW,bL els (fun c hc=>h c (List.mem_cons_of_mem _ hc)),List.length_cons,Nat.add_mul];omega
theorem aL.sl {α:Type} {M:Nat→Prop} {w:World} {base:Nat} {E:TypeId} {sz:Nat} {v:Value} {els:List (List Value)} {R:List Value→α→Prop} {d:α} {xs:List α} (h:aL w base E sz v els) (hM:∀b,v.ownBlock=some b→¬M b)
    (hx:xs.length=els.length) (hR:∀i,i<els.length→R (els.getD i []) (xs.getD i d)):∃a c,v=.slice a els.length c∧eU M w sz R d a els.length c xs:=by
  rcases h.row.2 with ⟨rfl,h0⟩|⟨g,cap,cur,rfl,hb,hg,hnc,hcm,hcs,htake⟩
  · have:els=[]:=List.eq_nil_of_length_eq_zero h0
    subst this;have:xs=[]:=List.eq_nil_of_length_eq_zero (by simpa using hx);subst this;exact⟨_,_,rfl,eU.nil⟩
  · refine ⟨_,_,rfl,hx,fun i=>els.getD i [],⟨hnc,vZ,(fun h=>wZ),fun p hp _=>?_⟩,fun i hi=>⟨h.sz _ (by simp [List.getD,List.getElem?_eq_getElem hi]),hR i hi⟩⟩
    cases hp;refine ⟨rfl,(Array.getElem?_eq_some_iff.1 hg).1,hM g rfl,fun i j hi hj=>?_⟩;have:=h.row.cells (g:=g) rfl (i*sz+j) _ (DI els h.sz i j hi hj);rw [Addr.add_lit] at this;simpa [Nat.add_assoc] using this
section
variable {P:Program} (w:World)
theorem ZX (base:Nat) (t ty e:TypeId) (i:TypeInfo) (z:Value) (ht:P.underlying t=some (.slice e)) (hi:P.info? e=some i) (hz:i.zero=some z)
    (v:Value) (n:Nat) (xs:List Value) (hown:w.ownsRow base e i.size v n xs) (a:Addr) (m c:Nat) (news:List Value) (hl:news.length=m*i.size) (hnews:∀j u,news[j]?=some u→w.cell? (a.add j)=some u) (h1:∀u∈news,u.oneCell'=true)
    (h63:n+m≤maxLen) (hbytes:(n+m)*i.bytes≤140737488355328) {v':Value} {w':World} (hr:(Builtin.append_ #[t,t] ty #[v,.slice (some a) m c]).run P w=.ok v' w'):DZ w v v':=by
  have hsmall:n+m≤9223372036854775807:=by simp only [maxLen] at h63;omega
  rcases hown.2 with ⟨rfl,rfl⟩|⟨g,cap,cur,rfl,hbg,hg,hnc,hcm,hcs,htake⟩
  · by_cases hm:m=0
    · subst hm
      have hn:news=[]:=List.eq_nil_of_length_eq_zero sQ;subst hn;have:(Builtin.append_ #[t,t] ty #[.slice none 0 0,.slice (some a) 0 c]).run P w=.ok (.slice none 0 0) w:=by
        simp [Builtin.append_,run_underlying ht,sizeOf,typeInfo,hi,Builtin.lenOf,Builtin.firstCells,loadCells,loadCellsFrom]
      rw [this] at hr;cases hr;intro k hk;simp [Value.ownBlock] at hk
    · have hr':=run_append_nil (P:=P) w t ty e i z ht hi hz a m c news hl hnews zZ zZ (by have hb:=hbytes;simp only [Nat.zero_add] at hb;omega)
      rw [hr'] at hr;cases hr;intro k hk;simp [Value.ownBlock] at hk;right;omega
  · by_cases hroom:n+m≤cap
    · have hfit:n*i.size+news.length≤cur.size:=by rw [hl,hcs,←Nat.add_mul];exact Nat.mul_le_mul_right _ hroom
      have hr':=run_append_room (P:=P) w t ty e i ht hi g n cap cur hg a m c news hl hnews h1 hroom hfit;rw [hr'] at hr;cases hr;intro k hk;left;simpa [Value.ownBlock] using hk
    · have holds:∀j u,xs[j]?=some u→w.cell? ((⟨g,0,none⟩:Addr).add j)=some u:=hown.cells (g:=g) rfl
      have hr':=run_append_grow (P:=P) w t ty e i z ht hi hz ⟨g,0,none⟩ n cap xs hown.1 holds a m c news hl hnews zZ zZ (growslice_fits zZ hbytes);rw [hr'] at hr;cases hr;intro k hk;simp [Value.ownBlock] at hk;right;omega
theorem YT (base:Nat) (t ty e:TypeId) (i:TypeInfo) (z:Value) (ht:P.underlying t=some (.slice e)) (hi:P.info? e=some i) (hz:i.zero=some z) (hzs:z.cells.size=i.size) (hsz:0<i.size)
    (v:Value) (n:Nat) (xs:List Value) (hown:AQ w base e i.size v n xs) (a:Addr) (m c:Nat) (news:List Value) (hl:news.length=m*i.size) (hnews:∀j u,news[j]?=some u→w.cell? (a.add j)=some u) (h1:∀u∈news,u.oneCell'=true)
    (h63:n+m≤maxLen) (hbytes:(n+m)*i.bytes≤140737488355328) (hbase:base≤w.heap.size) :
    ∃v' w',(Builtin.append_ #[t,t] ty #[v,.slice (some a) m c]).run P w=.ok v' w'∧AQ w' base e i.size v' (n+m) (xs++news)∧aA (Own v) w w'∧DZ w v v'∧(v'=.slice none 0 0↔v=.slice none 0 0∧m=0):=by
  have hsmall:n+m≤9223372036854775807:=by simp only [maxLen] at h63;omega
  have hlen:(xs++news).length=(n+m)*i.size:=by rw [List.length_append,hown.1,hl,Nat.add_mul]
  rcases hown.2 with ⟨rfl,rfl⟩|⟨g,cap,cur,rfl,hbg,hg,hnc,hcm,hcs,htake⟩
  · have hx:xs=[]:=List.eq_nil_of_length_eq_zero (by simpa using hown.1)
    subst hx;obtain ⟨v',w',r1,r2,r3,r4⟩:=run_append_own (P:=P) w base t ty e i z _ _ ht hi hz rfl rfl hzs hsz (.slice none 0 0) 0 [] (World.ownsRow_nil _ _ _ _) a m c news hl hnews h1 h63 hbytes hbase;exact⟨v',w',r1,.of r2,⟨r3.os,r3.tape,r3.output,r3.size,fun k hk hn=>r3.block k hk fun e=>hn e.symm⟩,ZX (P:=P) w base t ty e i z ht hi hz (.slice none 0 0) 0 [] (World.ownsRow_nil _ _ _ _) a m c news hl hnews h1 h63 hbytes r1,r4⟩
  · by_cases hroom:n+m≤cap
    · have hfit:n*i.size+news.length≤cur.size:=by rw [hl,←Nat.add_mul];exact Nat.le_trans (Nat.mul_le_mul_right _ hroom) hcs
      have hr:=run_append_room (P:=P) w t ty e i ht hi g n cap cur hg a m c news hl hnews h1 hroom hfit;refine ⟨_,_,hr,⟨hlen,.inr ⟨g,cap,_,rfl,hbg,setRow_heap w g cur _ e _ hg,hroom,hcm,?_,?_⟩⟩,⟨rfl,rfl,rfl,zW,fun k _ hk=>setRow_other w g k _ (fun e=>hk (by simp [Own,Value.ownBlock,e]))⟩,fun k hk=>.inl (by simpa [Value.ownBlock] using hk),zW⟩
      · simp only [List.size_toArray,List.length_append,List.length_take,List.length_drop,Array.length_toList]
        omega
      · simp only []
        rw [htake,←hlen];exact List.take_left
    · have hr:=run_append_grow (P:=P) w t ty e i z ht hi hz ⟨g,0,none⟩ n cap xs hown.1 (hown.cells (g:=g) rfl) a m c news hl hnews zZ zZ (growslice_fits zZ hbytes)
      refine ⟨_,_,hr,⟨hlen,.inr ⟨w.heap.size,_,_,rfl,hbase,heap_alloc_new w.drew _,grownCap_ge ..,grownCap_le_maxLen _ _ _ _ h63,?_,?_⟩⟩,⟨rfl,rfl,rfl,zW,fun k hk _=>heap_alloc_old w.drew _ hk⟩,fun k hk=>.inr (by simp [Value.ownBlock] at hk;omega),zW⟩
      · have hge:=grownCap_ge w (n+m) cap e
        simp only [Array.size_append,List.size_toArray,size_zeroCells,hzs,hown.1,hl,←Nat.add_mul];refine Nat.le_of_eq ?_;congr 1;omega
      · simp only [Array.toList_append]
        rw [←hlen];exact List.take_left
theorem YK (base:Nat) (t ty e:TypeId) (i:TypeInfo) (size:Nat) (ht:P.underlying t=some (.slice e)) (hi:P.info? e=some i) (v:Value) (n:Nat) (xs:List Value) (h:AQ w base e size v n xs):(Builtin.append_ #[t,t] ty #[v,.slice none 0 0]).run P w=.ok v w:=by
  have hv:v=.slice none 0 0∨∃g cap,v=.slice (some ⟨g,0,none⟩) n cap∧n+0≤cap:=by
    rcases h.2 with ⟨q,_⟩|⟨g,cap,cur,q,_,_,r,_⟩
    · exact .inl q
    · exact .inr ⟨g,cap,q,r⟩
  rcases hv with rfl|⟨g,cap,rfl,r⟩
  · simp [Builtin.append_,Builtin.lenOf,Builtin.firstCells,sizeOf,typeInfo,hi,run_underlying ht]
  · simp only [Nat.add_zero] at r
    simp [Builtin.append_,Builtin.lenOf,Builtin.firstCells,storeCells,sizeOf,typeInfo,hi,r,run_underlying ht]
theorem YJ {ops:Array Oper} {rest:List Oper} {o:Oper} {a:Act} {Q:Exit→Act→World→Prop} (hgd:o.guard=none) (s x:Operand) (t:TypeId)
    (ho:o.op=.call { callee:=.builtin .append,args:=#[s,x],argTypes:=#[t,t] }) (base:Nat) (e:TypeId) (i:TypeInfo) (size:Nat) (ht:P.underlying t=some (.slice e)) (hi:P.info? e=some i)
    (v:Value) (n:Nat) (xs:List Value) (hs:a.eval s=v) (hown:AQ w base e size v n xs) (hx:a.eval x=.slice none 0 0) (h:wpList P ops Q rest (a.put o.dst v) w):wpList P ops Q (o::rest) a w:=by
  refine wpList_plain hgd fun K hK=>?_;have hrun:=YK (P:=P) w base t o.type e i size ht hi v n xs hown;unfold Oper.wp;simp [execOp,ho,resolve,invoke,builtin,hs,hx,hrun,Result.andThen];exact hK _ _ h
theorem bY {ops:Array Oper} {rest:List Oper} {o:Oper} {a:Act} {Q:Exit→Act→World→Prop} (hgd:o.guard=none) (s x:Operand) (t:TypeId)
    (ho:o.op=.call { callee:=.builtin .append,args:=#[s,x],argTypes:=#[t,t] })
    (base:Nat) (e:TypeId) (i:TypeInfo) (z:Value) (size bytes:Nat) (ht:P.underlying t=some (.slice e)) (hi:P.info? e=some i) (hz:i.zero=some z)
    (hsize:i.size=size) (hby:i.bytes=bytes) (hzs:z.cells.size=size) (hsz:0<size)
    (v:Value) (els:List (List Value)) (hs:a.eval s=v) (hown:aL w base e size v els)
    (ad:Addr) (c m:Nat) (new:List (List Value)) (hx:a.eval x=.slice (some ad) m c) (hm:new.length=m) (hl:∀c∈new,c.length=size) (hnews:∀j u,new.flatten[j]?=some u→w.cell? (ad.add j)=some u) (h1:∀u∈new.flatten,u.oneCell'=true)
    (h63:els.length+m≤9223372036854775807) (hbytes:(els.length+m)*bytes≤140737488355328) (hbase:base≤w.heap.size)
    (h:∀v' w',aL w' base e size v' (els++new)→aA (Own v) w w'→DZ w v v'→(v'=.slice none 0 0↔v=.slice none 0 0∧m=0)→wpList P ops Q rest (a.put o.dst v') w'):wpList P ops Q (o::rest) a w:=by
  subst hsize;subst hby;subst hm;refine wpList_plain hgd fun K hK=>?_;obtain ⟨v',w',hr,h2,h3,hf,h4⟩:=YT (P:=P) w base t o.type e i z ht hi hz hzs hsz v els.length els.flatten hown.row ad new.length c new.flatten (bL new hl) hnews h1 zC hbytes hbase;unfold Oper.wp execOp;simp only [ho,resolve,invoke,builtin,Sem.run_bind,Sem.run_pure,Result.andThen_ok,List.map_toArray,List.map_cons,List.map_nil,hs,hx,hr];refine hK _ _ (h v' w' ⟨tW,fun c hc=>?_⟩ h3 hf h4);rcases List.mem_append.1 hc with hc|hc
  · exact hown.sz c hc
  · exact hl c hc
end
theorem EI (w:World) (cs:List Value) (E:TypeId):∀j u,[cs].flatten[j]?=some u→(w.alloc (.cells cs.toArray E)).cell? ((⟨w.heap.size,0,none⟩:Addr).add j)=some u:=by
  intro j u hj;rw [Addr.add_lit];have h:=aF.cell (aF.alloc (w:=w) (E:=E) (xs:=cs)) j;simp only [Nat.zero_add];rw [h];simpa using hj
end
def Bs:Nat:=4294967296
theorem iI:0<Bs:=zY
theorem cY:Bs=4294967296:=rfl
def nval:List Nat→Nat
  | []=>0
  | x::l=>x+Bs*nval l
def Small (l:List Nat):Prop:=∀x∈l,x<4294967296
theorem Small.nil:Small []:=by intro x hx;cases hx
theorem Small.cons {x:Nat} {l:List Nat} (hx:x<4294967296) (h:Small l):Small (x::l):=by
  intro y hy;rcases List.mem_cons.1 hy with rfl|hy
  · exact hx
  · exact h y hy
theorem Small.tail {x:Nat} {l:List Nat} (h:Small (x::l)):Small l:=fun y hy=>h y (List.mem_cons_of_mem _ hy)
theorem Small.head {x:Nat} {l:List Nat} (h:Small (x::l)):x<Bs:=h x (List.mem_cons_self ..)
theorem Small.take {l:List Nat} (h:Small l) (k:Nat):Small (l.take k):=fun y hy=>h y (List.mem_of_mem_take hy)
theorem Small.append {a b:List Nat} (ha:Small a) (hb:Small b):Small (a++b):=by
  intro y hy;rcases List.mem_append.1 hy with h|h
  · exact ha y h
  · exact hb y h
theorem JY (a b:List Nat):nval (a++b)=nval a+Bs ^ a.length*nval b:=by
  induction a with
  | nil=>simp [nval]
  | cons x a ih=>
    simp only [List.cons_append,nval,List.length_cons,ih,Nat.pow_succ,Nat.mul_add];rw [show Bs ^ a.length*Bs*nval b=Bs*(Bs ^ a.length*nval b) by rw [Nat.mul_comm (Bs ^ a.length) Bs,Nat.mul_assoc]];omega
theorem nM {l:List Nat} (h:Small l):nval l<Bs ^ l.length:=by
  induction l with
  | nil=>simp [nval]
  | cons x l ih=>
    have h1:=ih h.tail;have h2:=h.head;simp only [nval,List.length_cons,Nat.pow_succ]
    calc x+Bs*nval l<Bs+Bs*nval l:=zZ
      _=Bs*(nval l+1):=by rw [Nat.mul_add];omega
      _≤Bs*Bs ^ l.length:=Nat.mul_le_mul_left _ h1
      _=Bs ^ l.length*Bs:=Nat.mul_comm _ _
theorem aLR (n:Nat):nval (List.replicate n 0)=0:=by
  induction n with
  | zero=>rfl
  | succ n ih=>simp [List.replicate_succ,nval,ih]
theorem ZJ {l:List Nat} {i:Nat} (hi:i<l.length):nval (l.take (i+1))=nval (l.take i)+Bs ^ i*lim l i:=by
  rw [List.take_succ_eq_append_getElem hi,JY,List.length_take,Nat.min_eq_left (Nat.le_of_lt hi)];simp [nval,lim,hi]
theorem GN (l:List Nat) (k:Nat) (hk:k≤l.length):nval l=nval (l.take k)+Bs ^ k*nval (l.drop k):=by
  have h:=JY (l.take k) (l.drop k);rw [List.take_append_drop,List.length_take,Nat.min_eq_left hk] at h;exact h
theorem VU (l:List Nat):∀k,k≤l.length→nval (l.take k)=nval (l.take (kV l k))∧(kV l k=0∨lim l (kV l k-1)≠0)
  | 0,_=>⟨rfl,.inl rfl⟩
  | k+1,hk=>by
    by_cases h:lim l k=0
    · obtain ⟨h1,h2⟩:=VU l k zZ
      rw [aFJ h,ZJ zZ,h,Nat.mul_zero,Nat.add_zero];exact⟨h1,h2⟩
    · rw [aHL h]
      exact⟨rfl,.inr wD⟩
theorem dC (l:List Nat):nval (trim l)=nval l:=by
  have:=(VU l l.length (Nat.le_refl _)).1;rw [List.take_length] at this;exact this.symm
theorem Small.trim {l:List Nat} (h:Small l):Small (trim l):=h.take _
def Bare (l:List Nat):Prop:=l=[]∨lim l (l.length-1)≠0
theorem EL (l:List Nat):Bare (trim l):=by
  have h:=(VU l l.length (Nat.le_refl _)).2;have hl:=dG l;unfold Bare;rcases h with h|h
  · left;apply List.eq_nil_of_length_eq_zero;rw [hl];exact h
  · by_cases h0:top l=0
    · left;apply List.eq_nil_of_length_eq_zero;rw [hl];exact h0
    · right;rw [hl];unfold trim;rw [QA zZ];exact h
def bH (n:Nat):List Nat:=if n=0 then [] else n % Bs::bH (n / Bs)
termination_by n
decreasing_by exact Nat.div_lt_self (Nat.pos_of_ne_zero sW) zY
theorem bT:bH 0=[]:=by unfold bH;simp
theorem NH {n:Nat} (h:n≠0):bH n=n % Bs::bH (n / Bs):=by rw [bH];simp [h]
theorem cS (n:Nat):nval (bH n)=n:=by
  induction n using Nat.strongRecOn with
  | _ n ih=>
    by_cases h:n=0
    · subst h;rw [bT];rfl
    · rw [NH h,nval,ih _ (Nat.div_lt_self (Nat.pos_of_ne_zero h) zY)]
      have:=Nat.mod_add_div n Bs;omega
theorem SE (n:Nat):Small (bH n):=by
  induction n using Nat.strongRecOn with
  | _ n ih=>
    by_cases h:n=0
    · subst h;rw [bT];exact Small.nil
    · rw [NH h]
      exact Small.cons (Nat.mod_lt _ iI) (ih _ (Nat.div_lt_self (Nat.pos_of_ne_zero h) zY))
theorem aNU {l:List Nat} (hs:Small l) (hb:Bare l):bH (nval l)=l:=by
  induction l with
  | nil=>simp [nval,bT]
  | cons x l ih=>
    have hx:=hs.head;have hbl:Bare l:=by
      rcases hb with h|h
      · cases h
      · cases l with
        | nil=>exact .inl rfl
        | cons y l=>right;simpa [lim] using h
    have hne:nval (x::l)≠0:=by
      simp only [nval];rcases hb with h|h
      · cases h
      · cases l with
        | nil=>simp [lim] at h;simp [nval];exact h
        | cons y l=>
          intro h0;have h1:nval (y::l)=0:=by
            rcases Nat.mul_eq_zero.1 (show Bs*nval (y::l)=0 by omega) with h2|h2
            · exact absurd h2 zY
            · exact h2
          have h2:=ih hs.tail hbl;rw [h1,bT] at h2;cases h2
    rw [NH hne];simp only [nval];rw [Nat.add_mul_mod_self_left,Nat.mod_eq_of_lt hx,Nat.add_mul_div_left _ _ iI,Nat.div_eq_of_lt hx,Nat.zero_add,ih hs.tail hbl]
theorem mQ {l:List Nat} (hs:Small l):trim l=bH (nval l):=by
  rw [←dC l];exact (aNU hs.trim (EL l)).symm
theorem iN {l:List Nat} (hs:Small l):top l=(bH (nval l)).length:=by rw [←mQ hs,dG]
def eP (n:Nat):Nat:=(bH n).length
theorem dD {n k:Nat} (h:n<Bs ^ k):eP n≤k:=by
  induction k generalizing n with
  | zero=>simp at h;subst h;simp [eP,bT]
  | succ k ih=>
    by_cases h0:n=0
    · subst h0;simp [eP,bT]
    · have:=ih (n:=n / Bs) (by rw [Nat.pow_succ] at h;exact Nat.div_lt_of_lt_mul (by rw [Nat.mul_comm];exact h))
      unfold eP at *
      rw [NH h0,List.length_cons];omega
theorem nK (n:Nat):n<Bs ^ eP n:=by
  have:=nM (SE n);rwa [cS] at this
theorem lQ {a b:Nat} (h:a≤b):eP a≤eP b:=dD (Nat.lt_of_le_of_lt h (nK b))
theorem WT (a b:Nat):eP (a+b)≤max (eP a) (eP b)+1:=by
  apply dD;have h1:=nK a;have h2:=nK b;have h3:Bs ^ eP a≤Bs ^ max (eP a) (eP b):=Nat.pow_le_pow_right iI (Nat.le_max_left _ _);have h4:Bs ^ eP b≤Bs ^ max (eP a) (eP b):=Nat.pow_le_pow_right iI (Nat.le_max_right _ _);rw [Nat.pow_succ];have:Bs ^ max (eP a) (eP b)*2≤Bs ^ max (eP a) (eP b)*Bs:=Nat.mul_le_mul_left _ zY;omega
theorem aIQ (a b:Nat):eP (a*b)≤eP a+eP b:=by
  apply dD;rw [Nat.pow_add];exact Nat.mul_lt_mul'' (nK a) (nK b)
theorem iD {l:List Nat} (hs:Small l):eP (nval l)≤l.length:=dD (nM hs)
theorem SS {l:List Nat}:nval l=0↔∀x∈l,x=0:=by
  induction l with
  | nil=>simp [nval]
  | cons x l ih=>
    simp only [nval,List.mem_cons,forall_eq_or_imp];constructor
    · intro h
      have h1:Bs*nval l=0:=zZ;rcases Nat.mul_eq_zero.1 h1 with h2|h2
      · exact absurd h2 zY
      · exact⟨zZ,ih.1 h2⟩
    · rintro ⟨h1,h2⟩
      rw [h1,ih.2 h2];rfl
theorem ZI {a b:List Nat} (ha:Small a) (hb:Bare b) (h:a.length<b.length):nval a<nval b:=by
  rcases hb with rfl|hb
  · simp at h
  · have h1:=nM ha
    have h2:Bs ^ a.length≤Bs ^ (b.length-1):=Nat.pow_le_pow_right iI zZ;rw [GN b (b.length-1) zZ];have h3:b.drop (b.length-1)=[lim b (b.length-1)]:=by
      rw [List.drop_eq_getElem_cons zZ];rw [jB zZ,show b.length-1+1=b.length by omega,List.drop_length]
    rw [h3];simp only [nval,Nat.mul_zero,Nat.add_zero];have h4:Bs ^ (b.length-1)*1≤Bs ^ (b.length-1)*lim b (b.length-1):=Nat.mul_le_mul_left _ (Nat.pos_of_ne_zero hb);omega
theorem FK {l:List Nat} {i:Nat} (h:l.length≤i):lim l i=0:=by simp [lim,List.getD,List.getElem?_eq_none h]
theorem bS (l:List Nat) (i:Nat):nval (l.take (i+1))=nval (l.take i)+Bs ^ i*lim l i:=by
  by_cases hi:i<l.length
  · exact ZJ hi
  · rw [List.take_of_length_le zZ,List.take_of_length_le zZ,FK zZ,Nat.mul_zero,Nat.add_zero]
theorem bX {l:List Nat} (h:Small l) (i:Nat):lim l i<4294967296:=by
  by_cases hi:i<l.length
  · rw [jB hi];exact h _ (List.getElem_mem hi)
  · rw [FK zZ];decide
theorem CK (o:List Nat) (x:Nat):nval (o++[x])=nval o+Bs ^ o.length*x:=by rw [JY];simp [nval]
theorem CB {o:List Nat} {x:Nat} (h:Small o) (hx:x<4294967296):Small (o++[x]):=h.append (Small.cons hx Small.nil)
theorem TK (i s:Nat):Bs ^ i*(s % Bs)+Bs ^ (i+1)*(s / Bs)=Bs ^ i*s:=by
  rw [Nat.pow_succ,Nat.mul_assoc,←Nat.mul_add,Nat.mod_add_div]
def fB (a b:List Nat):Nat→List Nat × Nat
  | 0=>([],0)
  | i+1=>((fB a b i).1++[((fB a b i).2+lim a i+lim b i) % Bs],((fB a b i).2+lim a i+lim b i) / Bs)
theorem GU {a b:List Nat} (ha:Small a) (hb:Small b):∀i,(fB a b i).1.length=i∧Small (fB a b i).1∧(fB a b i).2≤1∧nval (fB a b i).1+Bs ^ i*(fB a b i).2=nval (a.take i)+nval (b.take i)
  | 0=>⟨rfl,Small.nil,by simp [fB],by simp [fB,nval]⟩
  | i+1=>by
    obtain ⟨h1,h2,h3,h4⟩:=GU ha hb i;have la:=bX ha i;have lb:=bX hb i;have hB:=cY;refine ⟨by simp [fB,h1],CB h2 (by have:=Nat.mod_lt ((fB a b i).2+lim a i+lim b i) iI;omega),by simp only [fB];rw [hB];omega,?_⟩;simp only [fB];have hc:=TK i ((fB a b i).2+lim a i+lim b i);rw [Nat.mul_add,Nat.mul_add] at hc;rw [CK,h1,bS,bS,←Nat.add_assoc,Nat.add_assoc (nval _),hc];omega
def fA (a b:List Nat):Nat→List Nat × Nat
  | 0=>([],0)
  | i+1=>((fA a b i).1++[(lim a i+Bs-lim b i-(fA a b i).2) % Bs],1-(lim a i+Bs-lim b i-(fA a b i).2) / Bs)
theorem BG {a b:List Nat} (ha:Small a) (hb:Small b):∀i,(fA a b i).1.length=i∧Small (fA a b i).1∧(fA a b i).2≤1∧nval (fA a b i).1+nval (b.take i)=nval (a.take i)+Bs ^ i*(fA a b i).2
  | 0=>⟨rfl,Small.nil,by simp [fA],by simp [fA,nval]⟩
  | i+1=>by
    obtain ⟨h1,h2,h3,h4⟩:=BG ha hb i;have la:=bX ha i;have lb:=bX hb i;have hB:=cY;have hB1:Bs ^ (i+1)=Bs ^ i*4294967296:=by rw [Nat.pow_succ,hB]
    refine ⟨by simp [fA,h1],CB h2 (by have:=Nat.mod_lt (lim a i+Bs-lim b i-(fA a b i).2) iI;omega),by simp only [fA];exact Nat.sub_le _ _,?_⟩;simp only [fA];rw [CK,h1,bS,bS];generalize (fA a b i).2=c at *
    rw [hB1];generalize Bs ^ i=P at *
    rw [hB];by_cases hlt:lim a i<lim b i+c
    · have e1:(lim a i+4294967296-lim b i-c) / 4294967296=0:=zZ
      have e2:(lim a i+4294967296-lim b i-c) % 4294967296=lim a i+4294967296-lim b i-c:=zZ;rw [e1,e2];have e3:P*(lim a i+4294967296-lim b i-c)+P*lim b i+P*c=P*lim a i+P*4294967296:=by
        rw [←Nat.mul_add,←Nat.mul_add,←Nat.mul_add];congr 1;omega
      omega
    · have e1:(lim a i+4294967296-lim b i-c) / 4294967296=1:=zZ
      have e2:(lim a i+4294967296-lim b i-c) % 4294967296=lim a i-lim b i-c:=zZ;rw [e1,e2];have e3:P*(lim a i-lim b i-c)+P*lim b i+P*c=P*lim a i:=by
        rw [←Nat.mul_add,←Nat.mul_add];congr 1;omega
      omega
theorem aZE {a b:List Nat} (ha:Small a) (hb:Small b) (hl:b.length≤a.length) (hle:nval b≤nval a):(fA a b a.length).2=0∧nval (fA a b a.length).1=nval a-nval b:=by
  obtain ⟨h1,h2,h3,h4⟩:=BG ha hb a.length;rw [List.take_of_length_le hl,List.take_length] at h4;have h5:=nM h2;rw [h1] at h5;rcases (show (fA a b a.length).2=0∨(fA a b a.length).2=1 by omega) with h|h
  · rw [h] at h4;exact⟨h,zZ⟩
  · rw [h] at h4;omega
def jK (a b:Nat):Int:=if a<b then -1 else if b<a then 1 else 0
theorem QI {a b:Nat} (h:a<b):jK a b=-1:=by simp [jK,h]
theorem aIZ {a b:Nat} (h:b<a):jK a b=1:=by simp [jK,h];omega
theorem aUT (a b:List Nat) (ha:Small a) (hb:Small b) (i:Nat) :
    jK (nval (a.take (i+1))) (nval (b.take (i+1)))=if lim a i<lim b i then -1 else if lim b i<lim a i then 1 else jK (nval (a.take i)) (nval (b.take i)):=by
  rw [bS,bS];have h1:nval (a.take i)<Bs ^ i:=Nat.lt_of_lt_of_le (nM (ha.take i)) (Nat.pow_le_pow_right iI (by rw [List.length_take];omega));have h2:nval (b.take i)<Bs ^ i:=Nat.lt_of_lt_of_le (nM (hb.take i)) (Nat.pow_le_pow_right iI (by rw [List.length_take];omega));by_cases hx:lim a i<lim b i
  · rw [if_pos hx]
    apply QI;have h3:Bs ^ i*(lim a i+1)≤Bs ^ i*lim b i:=Nat.mul_le_mul_left _ hx;rw [Nat.mul_add,Nat.mul_one] at h3;omega
  · rw [if_neg hx]
    by_cases hy:lim b i<lim a i
    · rw [if_pos hy]
      apply aIZ;have h3:Bs ^ i*(lim b i+1)≤Bs ^ i*lim a i:=Nat.mul_le_mul_left _ hy;rw [Nat.mul_add,Nat.mul_one] at h3;omega
    · rw [if_neg hy,show lim a i=lim b i by omega]
      unfold jK;by_cases h4:nval (a.take i)<nval (b.take i)
      · rw [if_pos h4,if_pos zZ]
      · rw [if_neg h4,if_neg zZ]
        by_cases h5:nval (b.take i)<nval (a.take i)
        · rw [if_pos h5,if_pos zZ]
        · rw [if_neg h5,if_neg zZ]
def gV (a:List Nat) (d:Nat):Nat→List Nat × Nat
  | 0=>([],0)
  | j+1=>(((gV a d j).2*Bs+lim a (a.length-(j+1))) / d::(gV a d j).1,((gV a d j).2*Bs+lim a (a.length-(j+1))) % d)
theorem drop_pred {l:List Nat} {j:Nat} (h:j<l.length):l.drop (l.length-(j+1))=lim l (l.length-(j+1))::l.drop (l.length-j):=by
  rw [List.drop_eq_getElem_cons zZ,jB zZ,show l.length-(j+1)+1=l.length-j by omega]
theorem VT {a:List Nat} {d:Nat} (ha:Small a) (hd:0<d) (hd2:d<4294967296):∀j,j≤a.length→(gV a d j).1.length=j∧Small (gV a d j).1∧(gV a d j).2<d∧nval (gV a d j).1*d+(gV a d j).2=nval (a.drop (a.length-j))
  | 0,_=>⟨rfl,Small.nil,by simpa [gV] using hd,by simp [gV,nval]⟩
  | j+1,hj=>by
    obtain ⟨h1,h2,h3,h4⟩:=VT ha hd hd2 j zZ;have hB:=cY;have hx:=bX ha (a.length-(j+1));refine ⟨by simp [gV,h1],Small.cons ?_ h2,Nat.mod_lt _ hd,?_⟩
    · rw [Nat.div_lt_iff_lt_mul hd]
      have:((gV a d j).2+1)*Bs≤d*Bs:=Nat.mul_le_mul_right _ h3;rw [Nat.add_mul] at this;rw [Nat.mul_comm 4294967296 d,←hB];omega
    · simp only [gV,nval]
      rw [drop_pred zZ,nval,←h4];have h5:=Nat.mod_add_div ((gV a d j).2*Bs+lim a (a.length-(j+1))) d;rw [Nat.add_mul,Nat.mul_add,Nat.mul_assoc,Nat.mul_comm (((gV a d j).2*Bs+lim a (a.length-(j+1))) / d) d,Nat.mul_comm Bs (gV a d j).2];omega
theorem aXV {a:List Nat} {d:Nat} (ha:Small a) (hd:0<d) (hd2:d<4294967296):nval (gV a d a.length).1=nval a / d∧(gV a d a.length).2=nval a % d:=by
  obtain ⟨h1,h2,h3,h4⟩:=VT ha hd hd2 a.length (Nat.le_refl _);rw [Nat.sub_self,List.drop_zero] at h4;constructor
  · rw [←h4,Nat.mul_comm,Nat.mul_add_div hd,Nat.div_eq_of_lt h3,Nat.add_zero]
  · rw [←h4,Nat.mul_comm,Nat.mul_add_mod,Nat.mod_eq_of_lt h3]
def cA (a:List Nat) (n more:Nat):Nat→List Nat × Nat
  | 0=>([],more)
  | i+1=>((cA a n more i).1++[(lim a i*n+(cA a n more i).2) % Bs],(lim a i*n+(cA a n more i).2) / Bs)
theorem MZ {a:List Nat} {n more:Nat} (ha:Small a) (hn:n<4294967296) (hm:more<4294967296):∀i,(cA a n more i).1.length=i∧Small (cA a n more i).1∧(cA a n more i).2<4294967296∧nval (cA a n more i).1+Bs ^ i*(cA a n more i).2=nval (a.take i)*n+more
  | 0=>⟨rfl,Small.nil,hm,by simp [cA,nval]⟩
  | i+1=>by
    obtain ⟨h1,h2,h3,h4⟩:=MZ ha hn hm i;have la:=bX ha i;have hB:=cY;refine ⟨by simp [cA,h1],CB h2 (by have:=Nat.mod_lt (lim a i*n+(cA a n more i).2) iI;omega),?_,?_⟩
    · simp only [cA]
      have hp:lim a i*n≤4294967295*4294967295:=Nat.mul_le_mul zZ zZ;rw [hB];omega
    · simp only [cA]
      have hc:=TK i (lim a i*n+(cA a n more i).2);rw [Nat.mul_add] at hc;rw [CK,h1,bS,Nat.add_mul,Nat.add_assoc,hc,Nat.mul_assoc];omega
def ival (x:Bool × List Nat):Int:=if x.1=true then -(nval x.2:Int) else (nval x.2:Int)
def neg (z:Int):Bool:=decide (z<0)
def norm (z:Int):Bool × List Nat:=(neg z,bH z.natAbs)
theorem aEV (z:Int):ival (norm z)=z:=by
  unfold ival norm neg;by_cases h:z<0
  · simp only [h,decide_true,if_true,cS];omega
  · simp only [h,decide_false,Bool.false_eq_true,if_false,cS];omega
theorem JX (x:Bool × List Nat):(ival x).natAbs=nval x.2:=by
  unfold ival;split<;>omega
theorem aWY (x:Bool × List Nat):neg (ival x)=(x.1&&decide (nval x.2≠0)):=by
  obtain ⟨g,l⟩:=x;unfold ival neg;cases g
  · simp
  · by_cases h:nval l=0
    · simp [h]
    · simp only [if_true,Bool.true_and]
      rw [decide_eq_decide];constructor
      · intro _;exact h
      · intro _;omega
def Fits (k:Nat) (z:Int):Prop:=eP z.natAbs+k≤35184372088832
theorem Fits.mono {k j:Nat} {z:Int} (h:Fits k z) (hj:j≤k):Fits j z:=by unfold Fits at *;omega
theorem dK (a b:Int):eP (a+b).natAbs≤max (eP a.natAbs) (eP b.natAbs)+1:=
  Nat.le_trans (lQ zZ) (WT _ _)
def ZAt (M:Nat→Prop) (w:World) (g:Bool) (a:Option Addr) (n c:Nat) (z:Int):Prop:=∃l,aU M w a n c l∧n*4≤140737488355328∧ival (g,l)=z
def ZN (M:Nat→Prop) (w:World) (g:Bool) (a:Option Addr) (n c:Nat) (z:Int):Prop:=g=neg z∧aU M w a n c (bH z.natAbs)
theorem ZN.at {M:Nat→Prop} {w:World} {g:Bool} {a:Option Addr} {n c:Nat} {z:Int} (h:ZN M w g a n c z) (hf:Fits 0 z):ZAt M w g a n c z:=by
  refine ⟨_,h.2,?_,?_⟩
  · have:=h.2.len
    unfold Fits eP at hf;omega
  · rw [h.1];exact aEV z
theorem ZAt.move {M M' M2:Nat→Prop} {w w':World} {g:Bool} {a:Option Addr} {n c:Nat} {z:Int} (h:ZAt M w g a n c z) (k:aA M' w w') (h1:∀b,b<w.heap.size→M' b→M b) (h2:∀b,b<w.heap.size→M2 b→M b):ZAt M2 w' g a n c z:=
  h.elim fun l ⟨q1,q2⟩=>⟨l,q1.move k h1 h2,q2⟩
theorem ZN.move {M M' M2:Nat→Prop} {w w':World} {g:Bool} {a:Option Addr} {n c:Nat} {z:Int} (h:ZN M w g a n c z) (k:aA M' w w') (h1:∀b,b<w.heap.size→M' b→M b) (h2:∀b,b<w.heap.size→M2 b→M b):ZN M2 w' g a n c z:=
  ⟨h.1,h.2.move k h1 h2⟩
theorem ZAt.eO {M:Nat→Prop} {w w':World} {g:Bool} {a:Option Addr} {n c:Nat} {z:Int} (h:ZAt M w g a n c z) (k:aA Nil w w'):ZAt M w' g a n c z:=h.move k (fun _ _ h=>h.elim) fun _ _=>id
theorem ZN.eO {M:Nat→Prop} {w w':World} {g:Bool} {a:Option Addr} {n c:Nat} {z:Int} (h:ZN M w g a n c z) (k:aA Nil w w'):ZN M w' g a n c z:=h.move k (fun _ _ h=>h.elim) fun _ _=>id
structure MH where
  P:Nat
  cuts:List Int
  rows:List (List Bool)
def place (cuts:List Int) (x:Int):Nat:=cuts.countP (fun c=>decide (c≤x))
def rowOf (S:MH) (x:Int):List Bool:=S.rows.getD (place S.cuts x) []
def has (S:MH) (x:Int):Bool:=(rowOf S x).getD (x % (S.P:Int)).toNat false
structure MH.Ok (S:MH):Prop where
  pos:1≤S.P
  le:S.P≤4096
  len:S.rows.length=S.cuts.length+1
  row:∀r∈S.rows,r.length=S.P
  sorted:S.cuts.Pairwise (·<·)
def ins (x:Int):List Int→List Int
  | []=>[x]
  | y::l=>if x<y then x::y::l else if x=y then y::l else y::ins x l
theorem XC {x y:Int}:∀{l:List Int},y∈ins x l↔y=x∨y∈l
  | []=>by simp [ins]
  | z::l=>by
    unfold ins;split
    · simp
    · split
      · rename_i h;subst h;simp
      · rw [List.mem_cons,XC (l:=l),List.mem_cons]
        constructor
        · rintro (h|h|h)
          · exact .inr (.inl h)
          · exact .inl h
          · exact .inr (.inr h)
        · rintro (h|h|h)
          · exact .inr (.inl h)
          · exact .inl h
          · exact .inr (.inr h)
theorem aBY {x:Int}:∀{l:List Int},l.Pairwise (·<·)→(ins x l).Pairwise (·<·)
  | [],_=>by simp [ins]
  | y::l,h=>by
    unfold ins;have h':=List.pairwise_cons.1 h;split
    · rename_i hlt
      refine List.pairwise_cons.2 ⟨fun z hz=>?_,h⟩;rcases List.mem_cons.1 hz with rfl|hz
      · exact hlt
      · have:=h'.1 z hz;omega
    · split
      · exact h
      · rename_i h1 h2
        refine List.pairwise_cons.2 ⟨fun z hz=>?_,aBY h'.2⟩;rcases XC.1 hz with rfl|hz
        · omega
        · exact h'.1 z hz
theorem mod_lt {S:MH} (h:S.Ok) (x:Int):(x % (S.P:Int)).toNat<S.P:=by
  have hp:=h.pos;have:=Int.emod_lt_of_pos x (show (0:Int)<(S.P:Int) by omega);have:=Int.emod_nonneg x (show (S.P:Int)≠0 by omega);omega
end Go.Proofs.Q
