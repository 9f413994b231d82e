/- What term.Valid does: where it says so the parts rise and none is nought. -/
import Derived.Laws.AppendOwnNone
import Derived.Test.YthjlmocbeoimaaaGreatDoorMTermSum
set_option linter.unusedSimpArgs false
set_option linter.unusedVariables false
set_option maxRecDepth 100000
set_option maxHeartbeats 4000000
namespace Go.Rid
theorem Neat.snoc {l:aX} {k:Nat} (h:Neat (l.take k)) (hk:k<l.length) (h2:(pth l k).2≠0) (h1:0<k→(pth l (k-1)).1<(pth l k).1):Neat (l.take (k+1)):=by
 rw [List.take_succ_eq_append_getElem hk,←pth_lt hk];refine ⟨List.pairwise_append.2 ⟨h.rising,by simp,fun a ha b hb=>?_⟩,fun p hp=>?_⟩
 ·rw [dZ1.1 hb];obtain ⟨i,hi,rfl⟩:=List.mem_iff_getElem.1 ha;rw [iZ1,Nat.min_eq_left (by omega)] at hi;have hlast:=h1 (by omega);rcases Nat.lt_or_ge i (k-1) with h3|h3
  ·have:=List.pairwise_iff_getElem.1 h.rising i (k-1) (by rw [iZ1];omega) (by rw [iZ1];omega) h3;rw [List.getElem_take,List.getElem_take] at this;rw [pth_lt (show k-1<l.length by omega)] at hlast;rw [List.getElem_take];omega
  ·obtain rfl:i=k-1:=by omega
   rw [List.getElem_take,←pth_lt (show k-1<l.length by omega)];exact hlast
 ·rcases jZ1.1 hp with hp|hp
  ·exact h.some p hp
  ·rw [dZ1.1 hp];exact h2
theorem neat_zero (l:aX):Neat (l.take 0):=⟨by simp,by simp⟩
end Go.Rid
namespace Go.Proofs.Q
open Go.RowKit Go.Rid
theorem tvalid_any {M M' M3:Nat→Prop} {ap ak:Option Addr} {np cp nk ck:Nat} {gk:Bool} {l:aX} {z:Int} {w:World} (h:RParts M' M w ap np cp l) (hk:ZAt M3 w gk ak nk ck z) :
  Calls Tryz.prog 116 #[.agg #[.slice ap np cp,.bool gk,.slice ak nk ck]] w fun e w'=>∃b,e=.returned (.bool b)∧(b=true→Neat l)∧aA Nil w w':=by
 have hln:l.length=np:=SlOf.len h;have hcap:=SlOf.cap h;have hle:=SlOf.le h;have hk0:aA Nil w (w.alloc (.cells #[.slice ap np cp,.bool gk,.slice ak nk ck] 48)):=kOf;have r0:=aF.alloc (w:=w) (E:=48) (xs:=[.slice ap np cp,.bool gk,.slice ak nk ck]);change aF (w.alloc (.cells #[.slice ap np cp,.bool gk,.slice ak nk ck] 48)) _ _ _ at r0;obtain ⟨lk,k1,k2,k3⟩:=hk;have HK:=jJ (k1.toNil.keepNil hk0);have HP:=jJ (h.keepNil hk0);have HL:=jJ hln;clear h hln k1 k2 k3;go_enter Tryz.func116,Tryz.ntmps116
 go_upto_region 1 with (fail)
 generalize w.alloc (.cells #[.slice ap np cp,.bool gk,.slice ak nk ck] 48)=w0 at *
 obtain ⟨d0,d1,d2⟩:=r0.three;have b0:=r0.lt;have HB:=jJ (aI r0 hk0);clear r0 hk0;go_wp2_with fail
 go_loopw [8] (fun iv wr=>∃k:Nat,k≤np∧iv=.int .i64 (k:Int)∧Neat (l.take k)∧aA Nil w0 wr) (fun iv _=>np-(intOf iv).toNat)
 case atStart=>exact⟨0,aZ2 _,rfl,neat_zero l,aA.refl _ _⟩
 case round=>
  obtain ⟨k,hk,rfl,hn,hkr⟩:=hrel;by_cases hlt:k<np
  ·have j0:(0:Int)≤(k:Int):=by omega
   have j1:(k:Int)<(np:Int):=by omega
   obtain ⟨b,off,g,a',n',c',hae,hb,-,x0,x1,x2,hz,hroom,i1,i2⟩:=(HP.o.keepNil hkr).at hlt;subst hae;obtain ⟨le,q1,q2,q3⟩:=hz;have e0:=hkr.cellE b0 id d0;have l0:=Live.of (cZ1 b0 hkr.size);have l1:=Live.of hb;have HN:=jJ (aI hn hkr);have hr4:=aF.alloc (w:=wr) (E:=80) (xs:=[.int .i64 (pth l k).1,.bool g,.slice a' n' c']);change aF (wr.alloc (.cells #[.int .i64 (pth l k).1,.bool g,.slice a' n' c'] 80)) _ _ _ at hr4;have hkb:aA Nil wr (wr.alloc (.cells #[.int .i64 (pth l k).1,.bool g,.slice a' n' c'] 80)):=kOf;obtain ⟨rc,rf,ra⟩:=hkb.live;have e0':=hkb.cellE l0.lt id e0;have hprev:0<k→(wr.alloc (.cells #[.int .i64 (pth l k).1,.bool g,.slice a' n' c'] 80)).cell? ⟨b,off+(k-1)*3,none⟩=some (.int .i64 (pth l (k-1)).1):=fun h0=>by
    obtain ⟨b2,off2,g2,a2,n2,c2,hae,hb2,-,y0,_⟩:=(HP.o.keepNil (hkr.trans hkb)).at (i:=k-1) (by omega);cases hae;exact y0
   clear hn hkr;go_upto_region 4 with (fail)
   have lb:=ra _ l1;have l0':=ra _ l0;generalize wr.alloc (.cells #[.int .i64 (pth l k).1,.bool g,.slice a' n' c'] 80)=wb at *
   obtain ⟨f0,f1,f2⟩:=hr4.three;have l4:=Live.of hr4.lt;have HQ:=jJ (aI4 (q1.toNil.keepNil hkb) q2 q3 hkb);clear hr4 q1 q2 q3 hkb x0 x1 x2 e0 rc rf ra l0 l1 hb;obtain ⟨vb,hvb⟩:∃vb,vb=validB g le:=⟨_,rfl⟩;obtain ⟨zs,hzs⟩:∃zs,zs=(pth l k).2.sign:=⟨_,rfl⟩;obtain ⟨v,hv⟩:∃v,v=(pth l k).1:=⟨_,rfl⟩;rw [←hv] at f0;have HV:=jJ (aI3 hvb hzs hv);clear hvb hzs hv i1 i2;have bt:=l4.lt;have bt2:=l0'.lt;have bt3:=lb.lt;cases vb with
   | false=>
    refine wp_region_tillN (aA Nil wb) [] (by kernel_rfl) ?_;have hS:aA Nil wb (World.drew wb):=kOf;refine aJ (i:=0) (v:=?v1) (bM9 0 26) rfl (by kernel_rfl) (Or.inl ⟨by rfl,?y1⟩) hS ?r1
    case y1=>(intro w' hSw;obtain ⟨hrc,hrf⟩:=hSw.rules;clear hSw; go_simp;(try with_reducible rfl))
    try simp only [Act.put,sN,sL]
    refine aJ (i:=1) (v:=?v2) (bM9 1 26) rfl (by kernel_rfl) (Or.inl ⟨by rfl,?y2⟩) hS ?r2
    case y2=>(intro w' hSw;obtain ⟨hrc,hrf⟩:=hSw.rules;clear hSw; go_simp;(try with_reducible rfl))
    try simp only [Act.put,sN,sL]
    refine aK (rs:=[2]) (by kernel_rfl) (by simp) ?_;refine aH.cons rfl (fun K hK=>?_) aH.nil;go_simp
    refine (zvalid_any (HQ.o.1.keepNil hS)).mono ?_;rintro e w1 ⟨rfl,hk⟩;refine hK.out _ _ (fun h=>h.trans hk) ?_;clear hK K;try simp only [Act.put,sN,sL]
    replace hS:=hS.trans hk;rw [←HV.o.1];refine aJ (i:=3) (v:=?v3) (bM9 7 26) rfl (by kernel_rfl) (Or.inl ⟨by rfl,?y3⟩) hS ?r3
    case y3=>(intro w' hSw;obtain ⟨hrc,hrf⟩:=hSw.rules;clear hSw; go_simp;(try with_reducible rfl))
    try simp only [Act.put,sN,sL]
    refine aJ (i:=4) (v:=?v4) (bM9 15 26) rfl (by kernel_rfl) (Or.inl ⟨by rfl,?y4⟩) hS ?r4
    case y4=>(intro w' hSw;obtain ⟨hrc,hrf⟩:=hSw.rules;clear hSw; go_simp;(try with_reducible rfl))
    try simp only [Act.put,sN,sL]
    refine aJ (i:=5) (v:=undef) (bM9 31 26) rfl (by kernel_rfl) (Or.inr ⟨by rfl,rfl⟩) hS ?_;try simp only [Act.put,sN,sL]
    refine aJ (i:=6) (v:=undef) (bM9 63 26) rfl (by kernel_rfl) (Or.inr ⟨by rfl,rfl⟩) hS ?_;try simp only [Act.put,sN,sL]
    refine aJ (i:=7) (v:=undef) (bM9 127 26) rfl (by kernel_rfl) (Or.inr ⟨by rfl,rfl⟩) hS ?_;try simp only [Act.put,sN,sL]
    refine aJ (i:=8) (v:=undef) (bM9 255 26) rfl (by kernel_rfl) (Or.inr ⟨by rfl,rfl⟩) hS ?_;try simp only [Act.put,sN,sL]
    refine aJ (i:=9) (v:=?v5) (bM9 511 26) rfl (by kernel_rfl) (Or.inl ⟨by rfl,?y5⟩) hS ?r5
    case y5=>(intro w' hSw;obtain ⟨hrc,hrf⟩:=hSw.rules;clear hSw; go_simp;(try with_reducible rfl))
    try simp only [Act.put,sN,sL]
    refine aJ (i:=10) (v:=?v6) (bM9 1023 26) rfl (by kernel_rfl) (Or.inl ⟨by rfl,?y6⟩) hS ?r6
    case y6=>(intro w' hSw;obtain ⟨hrc,hrf⟩:=hSw.rules;clear hSw; go_simp;(try with_reducible rfl))
    try simp only [Act.put,sN,sL]
    refine aJ (i:=11) (v:=undef) (bM9 2047 26) rfl (by kernel_rfl) (Or.inr ⟨by rfl,rfl⟩) hS ?_;try simp only [Act.put,sN,sL]
    refine aJ (i:=12) (v:=undef) (bM9 4095 26) rfl (by kernel_rfl) (Or.inr ⟨by rfl,rfl⟩) hS ?_;try simp only [Act.put,sN,sL]
    refine aJ (i:=13) (v:=undef) (bM9 8191 26) rfl (by kernel_rfl) (Or.inr ⟨by rfl,rfl⟩) hS ?_;try simp only [Act.put,sN,sL]
    refine aJ (i:=14) (v:=undef) (bM9 6504447 26) rfl (by kernel_rfl) (Or.inr ⟨by rfl,rfl⟩) hS ?_;try simp only [Act.put,sN,sL]
    refine aJ (i:=15) (v:=undef) (bM9 6520831 26) rfl (by kernel_rfl) (Or.inr ⟨by rfl,rfl⟩) hS ?_;try simp only [Act.put,sN,sL]
    refine aJ (i:=16) (v:=undef) (bM9 6356991 26) rfl (by kernel_rfl) (Or.inr ⟨by rfl,rfl⟩) hS ?_;try simp only [Act.put,sN,sL]
    refine aJ (i:=17) (v:=undef) (bM9 6422527 26) rfl (by kernel_rfl) (Or.inr ⟨by rfl,rfl⟩) hS ?_;try simp only [Act.put,sN,sL]
    refine aJ (i:=18) (v:=undef) (bM9 6553599 26) rfl (by kernel_rfl) (Or.inr ⟨by rfl,rfl⟩) hS ?_;try simp only [Act.put,sN,sL]
    refine aJ (i:=19) (v:=undef) (bM9 6815743 26) rfl (by kernel_rfl) (Or.inr ⟨by rfl,rfl⟩) hS ?_;try simp only [Act.put,sN,sL]
    refine aJ (i:=20) (v:=undef) (bM9 7340031 26) rfl (by kernel_rfl) (Or.inr ⟨by rfl,rfl⟩) hS ?_;try simp only [Act.put,sN,sL]
    refine aJ (i:=21) (v:=undef) (bM9 2097151 26) rfl (by kernel_rfl) (Or.inr ⟨by rfl,rfl⟩) hS ?_;try simp only [Act.put,sN,sL]
    refine aJ (i:=22) (v:=undef) (bM9 4194303 26) rfl (by kernel_rfl) (Or.inr ⟨by rfl,rfl⟩) hS ?_;try simp only [Act.put,sN,sL]
    refine aJ (i:=23) (v:=undef) (bM9 8388607 26) rfl (by kernel_rfl) (Or.inr ⟨by rfl,rfl⟩) hS ?_;try simp only [Act.put,sN,sL]
    refine aJ (i:=24) (v:=undef) (bM9 16777215 26) rfl (by kernel_rfl) (Or.inr ⟨by rfl,rfl⟩) hS ?_;try simp only [Act.put,sN,sL]
    refine aJ (i:=25) (v:=?v7) (bM9 33554431 26) rfl (by kernel_rfl) (Or.inl ⟨by rfl,?y7⟩) hS ?r7
    case y7=>(intro w' hSw;obtain ⟨hrc,hrf⟩:=hSw.rules;clear hSw; go_simp;(try with_reducible rfl))
    try simp only [Act.put,sN,sL]
    refine wpTill_doneN (by kernel_rfl) ?_ _;go_wp2_with fail
    go_ret
    exact⟨false,rfl,(fun h=>by cases h),HB.o.2.trans (HN.o.2.trans (HQ.o.2.2.2.trans (show aA Nil wb _ from kkA)))⟩
   | true=>
    by_cases hz0:zs=0
    ·subst hz0;refine wp_region_tillN (aA Nil wb) [] (by kernel_rfl) ?_;have hS:aA Nil wb (World.drew wb):=kOf;refine aJ (i:=0) (v:=?v8) (bM9 0 26) rfl (by kernel_rfl) (Or.inl ⟨by rfl,?y8⟩) hS ?r8
     case y8=>(intro w' hSw;obtain ⟨hrc,hrf⟩:=hSw.rules;clear hSw; go_simp;(try with_reducible rfl))
     try simp only [Act.put,sN,sL]
     refine aJ (i:=1) (v:=?v9) (bM9 1 26) rfl (by kernel_rfl) (Or.inl ⟨by rfl,?y9⟩) hS ?r9
     case y9=>(intro w' hSw;obtain ⟨hrc,hrf⟩:=hSw.rules;clear hSw; go_simp;(try with_reducible rfl))
     try simp only [Act.put,sN,sL]
     refine aK (rs:=[2]) (by kernel_rfl) (by simp) ?_;refine aH.cons rfl (fun K hK=>?_) aH.nil;go_simp
     refine (zvalid_any (HQ.o.1.keepNil hS)).mono ?_;rintro e w1 ⟨rfl,hk⟩;refine hK.out _ _ (fun h=>h.trans hk) ?_;clear hK K;try simp only [Act.put,sN,sL]
     replace hS:=hS.trans hk;rw [←HV.o.1];refine aJ (i:=3) (v:=?v10) (bM9 7 26) rfl (by kernel_rfl) (Or.inl ⟨by rfl,?y10⟩) hS ?r10
     case y10=>(intro w' hSw;obtain ⟨hrc,hrf⟩:=hSw.rules;clear hSw; go_simp;(try with_reducible rfl))
     try simp only [Act.put,sN,sL]
     refine aJ (i:=4) (v:=?v11) (bM9 15 26) rfl (by kernel_rfl) (Or.inl ⟨by rfl,?y11⟩) hS ?r11
     case y11=>(intro w' hSw;obtain ⟨hrc,hrf⟩:=hSw.rules;clear hSw; go_simp;(try with_reducible rfl))
     try simp only [Act.put,sN,sL]
     refine aJ (i:=5) (v:=?v12) (bM9 31 26) rfl (by kernel_rfl) (Or.inl ⟨by rfl,?y12⟩) hS ?r12
     case y12=>(intro w' hSw;obtain ⟨hrc,hrf⟩:=hSw.rules;clear hSw; go_simp;(try with_reducible rfl))
     try simp only [Act.put,sN,sL]
     refine aJ (i:=6) (v:=?v13) (bM9 63 26) rfl (by kernel_rfl) (Or.inl ⟨by rfl,?y13⟩) hS ?r13
     case y13=>(intro w' hSw;obtain ⟨hrc,hrf⟩:=hSw.rules;clear hSw; go_simp;(try with_reducible rfl))
     try simp only [Act.put,sN,sL]
     refine aK (rs:=[7]) (by kernel_rfl) (by simp) ?_;refine aH.cons rfl (fun K hK=>?_) aH.nil;go_simp
     refine (sign_any (ZAt.keepNil ⟨le,HQ.o.1,HQ.o.2.1,HQ.o.2.2.1⟩ hS)).mono ?_;rintro e w1 ⟨rfl,hk⟩;refine hK.out _ _ (fun h=>h.trans hk) ?_;clear hK K;try simp only [Act.put,sN,sL]
     replace hS:=hS.trans hk;rw [←HV.o.2.1];refine aJ (i:=8) (v:=?v14) (bM9 255 26) rfl (by kernel_rfl) (Or.inl ⟨by rfl,?y14⟩) hS ?r14
     case y14=>(intro w' hSw;obtain ⟨hrc,hrf⟩:=hSw.rules;clear hSw; go_simp;(try with_reducible rfl))
     try simp only [Act.put,sN,sL]
     refine aJ (i:=9) (v:=?v15) (bM9 511 26) rfl (by kernel_rfl) (Or.inl ⟨by rfl,?y15⟩) hS ?r15
     case y15=>(intro w' hSw;obtain ⟨hrc,hrf⟩:=hSw.rules;clear hSw; go_simp;(try with_reducible rfl))
     try simp only [Act.put,sN,sL]
     refine aJ (i:=10) (v:=?v16) (bM9 1023 26) rfl (by kernel_rfl) (Or.inl ⟨by rfl,?y16⟩) hS ?r16
     case y16=>(intro w' hSw;obtain ⟨hrc,hrf⟩:=hSw.rules;clear hSw; go_simp;(try with_reducible rfl))
     try simp only [Act.put,sN,sL]
     refine aJ (i:=11) (v:=undef) (bM9 2047 26) rfl (by kernel_rfl) (Or.inr ⟨by rfl,rfl⟩) hS ?_;try simp only [Act.put,sN,sL]
     refine aJ (i:=12) (v:=undef) (bM9 4095 26) rfl (by kernel_rfl) (Or.inr ⟨by rfl,rfl⟩) hS ?_;try simp only [Act.put,sN,sL]
     refine aJ (i:=13) (v:=undef) (bM9 8191 26) rfl (by kernel_rfl) (Or.inr ⟨by rfl,rfl⟩) hS ?_;try simp only [Act.put,sN,sL]
     refine aJ (i:=14) (v:=undef) (bM9 6504447 26) rfl (by kernel_rfl) (Or.inr ⟨by rfl,rfl⟩) hS ?_;try simp only [Act.put,sN,sL]
     refine aJ (i:=15) (v:=undef) (bM9 6520831 26) rfl (by kernel_rfl) (Or.inr ⟨by rfl,rfl⟩) hS ?_;try simp only [Act.put,sN,sL]
     refine aJ (i:=16) (v:=undef) (bM9 6356991 26) rfl (by kernel_rfl) (Or.inr ⟨by rfl,rfl⟩) hS ?_;try simp only [Act.put,sN,sL]
     refine aJ (i:=17) (v:=undef) (bM9 6422527 26) rfl (by kernel_rfl) (Or.inr ⟨by rfl,rfl⟩) hS ?_;try simp only [Act.put,sN,sL]
     refine aJ (i:=18) (v:=undef) (bM9 6553599 26) rfl (by kernel_rfl) (Or.inr ⟨by rfl,rfl⟩) hS ?_;try simp only [Act.put,sN,sL]
     refine aJ (i:=19) (v:=undef) (bM9 6815743 26) rfl (by kernel_rfl) (Or.inr ⟨by rfl,rfl⟩) hS ?_;try simp only [Act.put,sN,sL]
     refine aJ (i:=20) (v:=undef) (bM9 7340031 26) rfl (by kernel_rfl) (Or.inr ⟨by rfl,rfl⟩) hS ?_;try simp only [Act.put,sN,sL]
     refine aJ (i:=21) (v:=undef) (bM9 2097151 26) rfl (by kernel_rfl) (Or.inr ⟨by rfl,rfl⟩) hS ?_;try simp only [Act.put,sN,sL]
     refine aJ (i:=22) (v:=undef) (bM9 4194303 26) rfl (by kernel_rfl) (Or.inr ⟨by rfl,rfl⟩) hS ?_;try simp only [Act.put,sN,sL]
     refine aJ (i:=23) (v:=undef) (bM9 8388607 26) rfl (by kernel_rfl) (Or.inr ⟨by rfl,rfl⟩) hS ?_;try simp only [Act.put,sN,sL]
     refine aJ (i:=24) (v:=undef) (bM9 16777215 26) rfl (by kernel_rfl) (Or.inr ⟨by rfl,rfl⟩) hS ?_;try simp only [Act.put,sN,sL]
     refine aJ (i:=25) (v:=?v17) (bM9 33554431 26) rfl (by kernel_rfl) (Or.inl ⟨by rfl,?y17⟩) hS ?r17
     case y17=>(intro w' hSw;obtain ⟨hrc,hrf⟩:=hSw.rules;clear hSw; go_simp;(try with_reducible rfl))
     try simp only [Act.put,sN,sL]
     refine wpTill_doneN (by kernel_rfl) ?_ _;go_wp2_with fail
     go_ret
     exact⟨false,rfl,(fun h=>by cases h),HB.o.2.trans (HN.o.2.trans (HQ.o.2.2.2.trans (show aA Nil wb _ from kkA)))⟩
    ·have hz1:(zs==0)=false:=by simpa using hz0
     have hne:(pth l k).2≠0:=fun e=>hz0 (by rw [HV.o.2.1,e];rfl);have HNE:=jJ hne;clear hne;by_cases hk0:0<k
     ·have hk1:(0:Int)<(k:Int):=by omega
      have y0:=hprev hk0;obtain ⟨u,hu⟩:∃u,u=(pth l (k-1)).1:=⟨_,rfl⟩;obtain ⟨k1,hk1'⟩:∃k1,k1=k-1:=⟨_,rfl⟩;rw [←hu,←hk1'] at y0;have j2:(k:Int)-1=(k1:Int):=by omega
      have j3:IntKind.i64.wrap (k1:Int)=(k1:Int):=IntWalk.i64_in _ (by omega);have j4:(0:Int)≤(k1:Int):=by omega
      have j5:(k1:Int)<(np:Int):=by omega
      have HU:=jJ (aI hu hk0);have hkd:decide (0<k)=true:=decide_eq_true hk0;clear hprev hu hk1';by_cases huv:v≤u
      ·have huv':u ≥ v:=huv;refine wp_region_tillN (aA Nil wb) [] (by kernel_rfl) ?_;have hS:aA Nil wb (World.drew wb):=kOf;refine aJ (i:=0) (v:=?v18) (bM9 0 26) rfl (by kernel_rfl) (Or.inl ⟨by rfl,?y18⟩) hS ?r18
       case y18=>(intro w' hSw;obtain ⟨hrc,hrf⟩:=hSw.rules;clear hSw; go_simp;(try with_reducible rfl))
       try simp only [Act.put,sN,sL]
       refine aJ (i:=1) (v:=?v19) (bM9 1 26) rfl (by kernel_rfl) (Or.inl ⟨by rfl,?y19⟩) hS ?r19
       case y19=>(intro w' hSw;obtain ⟨hrc,hrf⟩:=hSw.rules;clear hSw; go_simp;(try with_reducible rfl))
       try simp only [Act.put,sN,sL]
       refine aK (rs:=[2]) (by kernel_rfl) (by simp) ?_;refine aH.cons rfl (fun K hK=>?_) aH.nil;go_simp
       refine (zvalid_any (HQ.o.1.keepNil hS)).mono ?_;rintro e w1 ⟨rfl,hk⟩;refine hK.out _ _ (fun h=>h.trans hk) ?_;clear hK K;try simp only [Act.put,sN,sL]
       replace hS:=hS.trans hk;rw [←HV.o.1];refine aJ (i:=3) (v:=?v20) (bM9 7 26) rfl (by kernel_rfl) (Or.inl ⟨by rfl,?y20⟩) hS ?r20
       case y20=>(intro w' hSw;obtain ⟨hrc,hrf⟩:=hSw.rules;clear hSw; go_simp;(try with_reducible rfl))
       try simp only [Act.put,sN,sL]
       refine aJ (i:=4) (v:=?v21) (bM9 15 26) rfl (by kernel_rfl) (Or.inl ⟨by rfl,?y21⟩) hS ?r21
       case y21=>(intro w' hSw;obtain ⟨hrc,hrf⟩:=hSw.rules;clear hSw; go_simp;(try with_reducible rfl))
       try simp only [Act.put,sN,sL]
       refine aJ (i:=5) (v:=?v22) (bM9 31 26) rfl (by kernel_rfl) (Or.inl ⟨by rfl,?y22⟩) hS ?r22
       case y22=>(intro w' hSw;obtain ⟨hrc,hrf⟩:=hSw.rules;clear hSw; go_simp;(try with_reducible rfl))
       try simp only [Act.put,sN,sL]
       refine aJ (i:=6) (v:=?v23) (bM9 63 26) rfl (by kernel_rfl) (Or.inl ⟨by rfl,?y23⟩) hS ?r23
       case y23=>(intro w' hSw;obtain ⟨hrc,hrf⟩:=hSw.rules;clear hSw; go_simp;(try with_reducible rfl))
       try simp only [Act.put,sN,sL]
       refine aK (rs:=[7]) (by kernel_rfl) (by simp) ?_;refine aH.cons rfl (fun K hK=>?_) aH.nil;go_simp
       refine (sign_any (ZAt.keepNil ⟨le,HQ.o.1,HQ.o.2.1,HQ.o.2.2.1⟩ hS)).mono ?_;rintro e w1 ⟨rfl,hk⟩;refine hK.out _ _ (fun h=>h.trans hk) ?_;clear hK K;try simp only [Act.put,sN,sL]
       replace hS:=hS.trans hk;rw [←HV.o.2.1];refine aJ (i:=8) (v:=?v24) (bM9 255 26) rfl (by kernel_rfl) (Or.inl ⟨by rfl,?y24⟩) hS ?r24
       case y24=>(intro w' hSw;obtain ⟨hrc,hrf⟩:=hSw.rules;clear hSw; go_simp;(try with_reducible rfl))
       try simp only [Act.put,sN,sL]
       refine aJ (i:=9) (v:=?v25) (bM9 511 26) rfl (by kernel_rfl) (Or.inl ⟨by rfl,?y25⟩) hS ?r25
       case y25=>(intro w' hSw;obtain ⟨hrc,hrf⟩:=hSw.rules;clear hSw; go_simp;(try with_reducible rfl))
       try simp only [Act.put,sN,sL]
       refine aJ (i:=10) (v:=?v26) (bM9 1023 26) rfl (by kernel_rfl) (Or.inl ⟨by rfl,?y26⟩) hS ?r26
       case y26=>(intro w' hSw;obtain ⟨hrc,hrf⟩:=hSw.rules;clear hSw; go_simp;(try with_reducible rfl))
       try simp only [Act.put,sN,sL]
       refine aJ (i:=11) (v:=?v27) (bM9 2047 26) rfl (by kernel_rfl) (Or.inl ⟨by rfl,?y27⟩) hS ?r27
       case y27=>(intro w' hSw;obtain ⟨hrc,hrf⟩:=hSw.rules;clear hSw; go_simp;(try with_reducible rfl))
       try simp only [Act.put,sN,sL]
       refine aJ (i:=12) (v:=?v28) (bM9 4095 26) rfl (by kernel_rfl) (Or.inl ⟨by rfl,?y28⟩) hS ?r28
       case y28=>(intro w' hSw;obtain ⟨hrc,hrf⟩:=hSw.rules;clear hSw; go_simp;(try with_reducible rfl))
       try simp only [Act.put,sN,sL]
       refine aJ (i:=13) (v:=?v29) (bM9 8191 26) rfl (by kernel_rfl) (Or.inl ⟨by rfl,?y29⟩) hS ?r29
       case y29=>(intro w' hSw;obtain ⟨hrc,hrf⟩:=hSw.rules;clear hSw; go_simp;(try with_reducible rfl))
       try simp only [Act.put,sN,sL]
       refine aJ (i:=14) (v:=?v30) (bM9 6504447 26) rfl (by kernel_rfl) (Or.inl ⟨by rfl,?y30⟩) hS ?r30
       case y30=>(intro w' hSw;obtain ⟨hrc,hrf⟩:=hSw.rules;clear hSw; go_simp;(try with_reducible rfl))
       try simp only [Act.put,sN,sL]
       refine aJ (i:=15) (v:=?v31) (bM9 6520831 26) rfl (by kernel_rfl) (Or.inl ⟨by rfl,?y31⟩) hS ?r31
       case y31=>(intro w' hSw;obtain ⟨hrc,hrf⟩:=hSw.rules;clear hSw; go_simp;(try with_reducible rfl))
       try simp only [Act.put,sN,sL]
       refine aJ (i:=16) (v:=?v32) (bM9 6356991 26) rfl (by kernel_rfl) (Or.inl ⟨by rfl,?y32⟩) hS ?r32
       case y32=>(intro w' hSw;obtain ⟨hrc,hrf⟩:=hSw.rules;clear hSw; go_simp;(try with_reducible rfl))
       try simp only [Act.put,sN,sL]
       refine aJ (i:=17) (v:=?v33) (bM9 6422527 26) rfl (by kernel_rfl) (Or.inl ⟨by rfl,?y33⟩) hS ?r33
       case y33=>(intro w' hSw;obtain ⟨hrc,hrf⟩:=hSw.rules;clear hSw; go_simp;(try with_reducible rfl))
       try simp only [Act.put,sN,sL]
       refine aJ (i:=18) (v:=?v34) (bM9 6553599 26) rfl (by kernel_rfl) (Or.inl ⟨by rfl,?y34⟩) hS ?r34
       case y34=>(intro w' hSw;obtain ⟨hrc,hrf⟩:=hSw.rules;clear hSw; go_simp;(try with_reducible rfl))
       try simp only [Act.put,sN,sL]
       refine aJ (i:=19) (v:=?v35) (bM9 6815743 26) rfl (by kernel_rfl) (Or.inl ⟨by rfl,?y35⟩) hS ?r35
       case y35=>(intro w' hSw;obtain ⟨hrc,hrf⟩:=hSw.rules;clear hSw; go_simp;(try with_reducible rfl))
       try simp only [Act.put,sN,sL]
       refine aJ (i:=20) (v:=?v36) (bM9 7340031 26) rfl (by kernel_rfl) (Or.inl ⟨by rfl,?y36⟩) hS ?r36
       case y36=>(intro w' hSw;obtain ⟨hrc,hrf⟩:=hSw.rules;clear hSw; go_simp;(try with_reducible rfl))
       try simp only [Act.put,sN,sL]
       refine aJ (i:=21) (v:=?v37) (bM9 2097151 26) rfl (by kernel_rfl) (Or.inl ⟨by rfl,?y37⟩) hS ?r37
       case y37=>(intro w' hSw;obtain ⟨hrc,hrf⟩:=hSw.rules;clear hSw; go_simp;(try with_reducible rfl))
       try simp only [Act.put,sN,sL]
       refine aJ (i:=22) (v:=?v38) (bM9 4194303 26) rfl (by kernel_rfl) (Or.inl ⟨by rfl,?y38⟩) hS ?r38
       case y38=>(intro w' hSw;obtain ⟨hrc,hrf⟩:=hSw.rules;clear hSw; go_simp;(try with_reducible rfl))
       try simp only [Act.put,sN,sL]
       refine aJ (i:=23) (v:=?v39) (bM9 8388607 26) rfl (by kernel_rfl) (Or.inl ⟨by rfl,?y39⟩) hS ?r39
       case y39=>(intro w' hSw;obtain ⟨hrc,hrf⟩:=hSw.rules;clear hSw; go_simp;(try with_reducible rfl))
       try simp only [Act.put,sN,sL]
       refine aJ (i:=24) (v:=?v40) (bM9 16777215 26) rfl (by kernel_rfl) (Or.inl ⟨by rfl,?y40⟩) hS ?r40
       case y40=>(intro w' hSw;obtain ⟨hrc,hrf⟩:=hSw.rules;clear hSw; go_simp;(try with_reducible rfl))
       try simp only [Act.put,sN,sL]
       refine aJ (i:=25) (v:=?v41) (bM9 33554431 26) rfl (by kernel_rfl) (Or.inl ⟨by rfl,?y41⟩) hS ?r41
       case y41=>(intro w' hSw;obtain ⟨hrc,hrf⟩:=hSw.rules;clear hSw; go_simp;(try with_reducible rfl))
       try simp only [Act.put,sN,sL]
       refine wpTill_doneN (by kernel_rfl) ?_ _;go_wp2_with fail
       go_ret
       exact⟨false,rfl,(fun h=>by cases h),HB.o.2.trans (HN.o.2.trans (HQ.o.2.2.2.trans (show aA Nil wb _ from kkA)))⟩
      ·have huv2:u<v:=by omega
       refine wp_region_tillN (aA Nil wb) [] (by kernel_rfl) ?_;have hS:aA Nil wb (World.drew wb):=kOf;refine aJ (i:=0) (v:=?v42) (bM9 0 26) rfl (by kernel_rfl) (Or.inl ⟨by rfl,?y42⟩) hS ?r42
       case y42=>(intro w' hSw;obtain ⟨hrc,hrf⟩:=hSw.rules;clear hSw; go_simp;(try with_reducible rfl))
       try simp only [Act.put,sN,sL]
       refine aJ (i:=1) (v:=?v43) (bM9 1 26) rfl (by kernel_rfl) (Or.inl ⟨by rfl,?y43⟩) hS ?r43
       case y43=>(intro w' hSw;obtain ⟨hrc,hrf⟩:=hSw.rules;clear hSw; go_simp;(try with_reducible rfl))
       try simp only [Act.put,sN,sL]
       refine aK (rs:=[2]) (by kernel_rfl) (by simp) ?_;refine aH.cons rfl (fun K hK=>?_) aH.nil;go_simp
       refine (zvalid_any (HQ.o.1.keepNil hS)).mono ?_;rintro e w1 ⟨rfl,hk⟩;refine hK.out _ _ (fun h=>h.trans hk) ?_;clear hK K;try simp only [Act.put,sN,sL]
       replace hS:=hS.trans hk;rw [←HV.o.1];refine aJ (i:=3) (v:=?v44) (bM9 7 26) rfl (by kernel_rfl) (Or.inl ⟨by rfl,?y44⟩) hS ?r44
       case y44=>(intro w' hSw;obtain ⟨hrc,hrf⟩:=hSw.rules;clear hSw; go_simp;(try with_reducible rfl))
       try simp only [Act.put,sN,sL]
       refine aJ (i:=4) (v:=?v45) (bM9 15 26) rfl (by kernel_rfl) (Or.inl ⟨by rfl,?y45⟩) hS ?r45
       case y45=>(intro w' hSw;obtain ⟨hrc,hrf⟩:=hSw.rules;clear hSw; go_simp;(try with_reducible rfl))
       try simp only [Act.put,sN,sL]
       refine aJ (i:=5) (v:=?v46) (bM9 31 26) rfl (by kernel_rfl) (Or.inl ⟨by rfl,?y46⟩) hS ?r46
       case y46=>(intro w' hSw;obtain ⟨hrc,hrf⟩:=hSw.rules;clear hSw; go_simp;(try with_reducible rfl))
       try simp only [Act.put,sN,sL]
       refine aJ (i:=6) (v:=?v47) (bM9 63 26) rfl (by kernel_rfl) (Or.inl ⟨by rfl,?y47⟩) hS ?r47
       case y47=>(intro w' hSw;obtain ⟨hrc,hrf⟩:=hSw.rules;clear hSw; go_simp;(try with_reducible rfl))
       try simp only [Act.put,sN,sL]
       refine aK (rs:=[7]) (by kernel_rfl) (by simp) ?_;refine aH.cons rfl (fun K hK=>?_) aH.nil;go_simp
       refine (sign_any (ZAt.keepNil ⟨le,HQ.o.1,HQ.o.2.1,HQ.o.2.2.1⟩ hS)).mono ?_;rintro e w1 ⟨rfl,hk⟩;refine hK.out _ _ (fun h=>h.trans hk) ?_;clear hK K;try simp only [Act.put,sN,sL]
       replace hS:=hS.trans hk;rw [←HV.o.2.1];refine aJ (i:=8) (v:=?v48) (bM9 255 26) rfl (by kernel_rfl) (Or.inl ⟨by rfl,?y48⟩) hS ?r48
       case y48=>(intro w' hSw;obtain ⟨hrc,hrf⟩:=hSw.rules;clear hSw; go_simp;(try with_reducible rfl))
       try simp only [Act.put,sN,sL]
       refine aJ (i:=9) (v:=?v49) (bM9 511 26) rfl (by kernel_rfl) (Or.inl ⟨by rfl,?y49⟩) hS ?r49
       case y49=>(intro w' hSw;obtain ⟨hrc,hrf⟩:=hSw.rules;clear hSw; go_simp;(try with_reducible rfl))
       try simp only [Act.put,sN,sL]
       refine aJ (i:=10) (v:=?v50) (bM9 1023 26) rfl (by kernel_rfl) (Or.inl ⟨by rfl,?y50⟩) hS ?r50
       case y50=>(intro w' hSw;obtain ⟨hrc,hrf⟩:=hSw.rules;clear hSw; go_simp;(try with_reducible rfl))
       try simp only [Act.put,sN,sL]
       refine aJ (i:=11) (v:=?v51) (bM9 2047 26) rfl (by kernel_rfl) (Or.inl ⟨by rfl,?y51⟩) hS ?r51
       case y51=>(intro w' hSw;obtain ⟨hrc,hrf⟩:=hSw.rules;clear hSw; go_simp;(try with_reducible rfl))
       try simp only [Act.put,sN,sL]
       refine aJ (i:=12) (v:=?v52) (bM9 4095 26) rfl (by kernel_rfl) (Or.inl ⟨by rfl,?y52⟩) hS ?r52
       case y52=>(intro w' hSw;obtain ⟨hrc,hrf⟩:=hSw.rules;clear hSw; go_simp;(try with_reducible rfl))
       try simp only [Act.put,sN,sL]
       refine aJ (i:=13) (v:=?v53) (bM9 8191 26) rfl (by kernel_rfl) (Or.inl ⟨by rfl,?y53⟩) hS ?r53
       case y53=>(intro w' hSw;obtain ⟨hrc,hrf⟩:=hSw.rules;clear hSw; go_simp;(try with_reducible rfl))
       try simp only [Act.put,sN,sL]
       refine aJ (i:=14) (v:=?v54) (bM9 6504447 26) rfl (by kernel_rfl) (Or.inl ⟨by rfl,?y54⟩) hS ?r54
       case y54=>(intro w' hSw;obtain ⟨hrc,hrf⟩:=hSw.rules;clear hSw; go_simp;(try with_reducible rfl))
       try simp only [Act.put,sN,sL]
       refine aJ (i:=15) (v:=?v55) (bM9 6520831 26) rfl (by kernel_rfl) (Or.inl ⟨by rfl,?y55⟩) hS ?r55
       case y55=>(intro w' hSw;obtain ⟨hrc,hrf⟩:=hSw.rules;clear hSw; go_simp;(try with_reducible rfl))
       try simp only [Act.put,sN,sL]
       refine aJ (i:=16) (v:=?v56) (bM9 6356991 26) rfl (by kernel_rfl) (Or.inl ⟨by rfl,?y56⟩) hS ?r56
       case y56=>(intro w' hSw;obtain ⟨hrc,hrf⟩:=hSw.rules;clear hSw; go_simp;(try with_reducible rfl))
       try simp only [Act.put,sN,sL]
       refine aJ (i:=17) (v:=?v57) (bM9 6422527 26) rfl (by kernel_rfl) (Or.inl ⟨by rfl,?y57⟩) hS ?r57
       case y57=>(intro w' hSw;obtain ⟨hrc,hrf⟩:=hSw.rules;clear hSw; go_simp;(try with_reducible rfl))
       try simp only [Act.put,sN,sL]
       refine aJ (i:=18) (v:=?v58) (bM9 6553599 26) rfl (by kernel_rfl) (Or.inl ⟨by rfl,?y58⟩) hS ?r58
       case y58=>(intro w' hSw;obtain ⟨hrc,hrf⟩:=hSw.rules;clear hSw; go_simp;(try with_reducible rfl))
       try simp only [Act.put,sN,sL]
       refine aJ (i:=19) (v:=?v59) (bM9 6815743 26) rfl (by kernel_rfl) (Or.inl ⟨by rfl,?y59⟩) hS ?r59
       case y59=>(intro w' hSw;obtain ⟨hrc,hrf⟩:=hSw.rules;clear hSw; go_simp;(try with_reducible rfl))
       try simp only [Act.put,sN,sL]
       refine aJ (i:=20) (v:=?v60) (bM9 7340031 26) rfl (by kernel_rfl) (Or.inl ⟨by rfl,?y60⟩) hS ?r60
       case y60=>(intro w' hSw;obtain ⟨hrc,hrf⟩:=hSw.rules;clear hSw; go_simp;(try with_reducible rfl))
       try simp only [Act.put,sN,sL]
       refine aJ (i:=21) (v:=?v61) (bM9 2097151 26) rfl (by kernel_rfl) (Or.inl ⟨by rfl,?y61⟩) hS ?r61
       case y61=>(intro w' hSw;obtain ⟨hrc,hrf⟩:=hSw.rules;clear hSw; go_simp;(try with_reducible rfl))
       try simp only [Act.put,sN,sL]
       refine aJ (i:=22) (v:=?v62) (bM9 4194303 26) rfl (by kernel_rfl) (Or.inl ⟨by rfl,?y62⟩) hS ?r62
       case y62=>(intro w' hSw;obtain ⟨hrc,hrf⟩:=hSw.rules;clear hSw; go_simp;(try with_reducible rfl))
       try simp only [Act.put,sN,sL]
       refine aJ (i:=23) (v:=?v63) (bM9 8388607 26) rfl (by kernel_rfl) (Or.inl ⟨by rfl,?y63⟩) hS ?r63
       case y63=>(intro w' hSw;obtain ⟨hrc,hrf⟩:=hSw.rules;clear hSw; go_simp;(try with_reducible rfl))
       try simp only [Act.put,sN,sL]
       refine aJ (i:=24) (v:=?v64) (bM9 16777215 26) rfl (by kernel_rfl) (Or.inl ⟨by rfl,?y64⟩) hS ?r64
       case y64=>(intro w' hSw;obtain ⟨hrc,hrf⟩:=hSw.rules;clear hSw; go_simp;(try with_reducible rfl))
       try simp only [Act.put,sN,sL]
       refine aJ (i:=25) (v:=?v65) (bM9 33554431 26) rfl (by kernel_rfl) (Or.inl ⟨by rfl,?y65⟩) hS ?r65
       case y65=>(intro w' hSw;obtain ⟨hrc,hrf⟩:=hSw.rules;clear hSw; go_simp;(try with_reducible rfl))
       try simp only [Act.put,sN,sL]
       refine wpTill_doneN (by kernel_rfl) ?_ _;have HS:=jJ hS;clear hS;go_wp2_with fail
       go_roundw
       case rel=>exact⟨k+1,by omega,by go_num,HN.o.1.snoc (by have:=HL.o;omega) HNE.o (fun _=>by have h1:=HU.o.1;have h2:=HV.o.2.2;omega),HN.o.2.trans (HQ.o.2.2.2.trans (show aA Nil wb _ from kkA))⟩
       case measure=>simp [intOf];omega
     ·have hk1:¬(0:Int)<(k:Int):=by omega
      have HK0:=jJ hk0;have hkd:decide (0<k)=false:=decide_eq_false hk0;clear hprev;refine wp_region_tillN (aA Nil wb) [] (by kernel_rfl) ?_;have hS:aA Nil wb (World.drew wb):=kOf;refine aJ (i:=0) (v:=?v66) (bM9 0 26) rfl (by kernel_rfl) (Or.inl ⟨by rfl,?y66⟩) hS ?r66
      case y66=>(intro w' hSw;obtain ⟨hrc,hrf⟩:=hSw.rules;clear hSw; go_simp;(try with_reducible rfl))
      try simp only [Act.put,sN,sL]
      refine aJ (i:=1) (v:=?v67) (bM9 1 26) rfl (by kernel_rfl) (Or.inl ⟨by rfl,?y67⟩) hS ?r67
      case y67=>(intro w' hSw;obtain ⟨hrc,hrf⟩:=hSw.rules;clear hSw; go_simp;(try with_reducible rfl))
      try simp only [Act.put,sN,sL]
      refine aK (rs:=[2]) (by kernel_rfl) (by simp) ?_;refine aH.cons rfl (fun K hK=>?_) aH.nil;go_simp
      refine (zvalid_any (HQ.o.1.keepNil hS)).mono ?_;rintro e w1 ⟨rfl,hk⟩;refine hK.out _ _ (fun h=>h.trans hk) ?_;clear hK K;try simp only [Act.put,sN,sL]
      replace hS:=hS.trans hk;rw [←HV.o.1];refine aJ (i:=3) (v:=?v68) (bM9 7 26) rfl (by kernel_rfl) (Or.inl ⟨by rfl,?y68⟩) hS ?r68
      case y68=>(intro w' hSw;obtain ⟨hrc,hrf⟩:=hSw.rules;clear hSw; go_simp;(try with_reducible rfl))
      try simp only [Act.put,sN,sL]
      refine aJ (i:=4) (v:=?v69) (bM9 15 26) rfl (by kernel_rfl) (Or.inl ⟨by rfl,?y69⟩) hS ?r69
      case y69=>(intro w' hSw;obtain ⟨hrc,hrf⟩:=hSw.rules;clear hSw; go_simp;(try with_reducible rfl))
      try simp only [Act.put,sN,sL]
      refine aJ (i:=5) (v:=?v70) (bM9 31 26) rfl (by kernel_rfl) (Or.inl ⟨by rfl,?y70⟩) hS ?r70
      case y70=>(intro w' hSw;obtain ⟨hrc,hrf⟩:=hSw.rules;clear hSw; go_simp;(try with_reducible rfl))
      try simp only [Act.put,sN,sL]
      refine aJ (i:=6) (v:=?v71) (bM9 63 26) rfl (by kernel_rfl) (Or.inl ⟨by rfl,?y71⟩) hS ?r71
      case y71=>(intro w' hSw;obtain ⟨hrc,hrf⟩:=hSw.rules;clear hSw; go_simp;(try with_reducible rfl))
      try simp only [Act.put,sN,sL]
      refine aK (rs:=[7]) (by kernel_rfl) (by simp) ?_;refine aH.cons rfl (fun K hK=>?_) aH.nil;go_simp
      refine (sign_any (ZAt.keepNil ⟨le,HQ.o.1,HQ.o.2.1,HQ.o.2.2.1⟩ hS)).mono ?_;rintro e w1 ⟨rfl,hk⟩;refine hK.out _ _ (fun h=>h.trans hk) ?_;clear hK K;try simp only [Act.put,sN,sL]
      replace hS:=hS.trans hk;rw [←HV.o.2.1];refine aJ (i:=8) (v:=?v72) (bM9 255 26) rfl (by kernel_rfl) (Or.inl ⟨by rfl,?y72⟩) hS ?r72
      case y72=>(intro w' hSw;obtain ⟨hrc,hrf⟩:=hSw.rules;clear hSw; go_simp;(try with_reducible rfl))
      try simp only [Act.put,sN,sL]
      refine aJ (i:=9) (v:=?v73) (bM9 511 26) rfl (by kernel_rfl) (Or.inl ⟨by rfl,?y73⟩) hS ?r73
      case y73=>(intro w' hSw;obtain ⟨hrc,hrf⟩:=hSw.rules;clear hSw; go_simp;(try with_reducible rfl))
      try simp only [Act.put,sN,sL]
      refine aJ (i:=10) (v:=?v74) (bM9 1023 26) rfl (by kernel_rfl) (Or.inl ⟨by rfl,?y74⟩) hS ?r74
      case y74=>(intro w' hSw;obtain ⟨hrc,hrf⟩:=hSw.rules;clear hSw; go_simp;(try with_reducible rfl))
      try simp only [Act.put,sN,sL]
      refine aJ (i:=11) (v:=?v75) (bM9 2047 26) rfl (by kernel_rfl) (Or.inl ⟨by rfl,?y75⟩) hS ?r75
      case y75=>(intro w' hSw;obtain ⟨hrc,hrf⟩:=hSw.rules;clear hSw; go_simp;(try with_reducible rfl))
      try simp only [Act.put,sN,sL]
      refine aJ (i:=12) (v:=?v76) (bM9 4095 26) rfl (by kernel_rfl) (Or.inl ⟨by rfl,?y76⟩) hS ?r76
      case y76=>(intro w' hSw;obtain ⟨hrc,hrf⟩:=hSw.rules;clear hSw; go_simp;(try with_reducible rfl))
      try simp only [Act.put,sN,sL]
      refine aJ (i:=13) (v:=?v77) (bM9 8191 26) rfl (by kernel_rfl) (Or.inl ⟨by rfl,?y77⟩) hS ?r77
      case y77=>(intro w' hSw;obtain ⟨hrc,hrf⟩:=hSw.rules;clear hSw; go_simp;(try with_reducible rfl))
      try simp only [Act.put,sN,sL]
      refine aJ (i:=14) (v:=undef) (bM9 6504447 26) rfl (by kernel_rfl) (Or.inr ⟨by rfl,rfl⟩) hS ?_;try simp only [Act.put,sN,sL]
      refine aJ (i:=15) (v:=undef) (bM9 6520831 26) rfl (by kernel_rfl) (Or.inr ⟨by rfl,rfl⟩) hS ?_;try simp only [Act.put,sN,sL]
      refine aJ (i:=16) (v:=undef) (bM9 6356991 26) rfl (by kernel_rfl) (Or.inr ⟨by rfl,rfl⟩) hS ?_;try simp only [Act.put,sN,sL]
      refine aJ (i:=17) (v:=undef) (bM9 6422527 26) rfl (by kernel_rfl) (Or.inr ⟨by rfl,rfl⟩) hS ?_;try simp only [Act.put,sN,sL]
      refine aJ (i:=18) (v:=undef) (bM9 6553599 26) rfl (by kernel_rfl) (Or.inr ⟨by rfl,rfl⟩) hS ?_;try simp only [Act.put,sN,sL]
      refine aJ (i:=19) (v:=undef) (bM9 6815743 26) rfl (by kernel_rfl) (Or.inr ⟨by rfl,rfl⟩) hS ?_;try simp only [Act.put,sN,sL]
      refine aJ (i:=20) (v:=undef) (bM9 7340031 26) rfl (by kernel_rfl) (Or.inr ⟨by rfl,rfl⟩) hS ?_;try simp only [Act.put,sN,sL]
      refine aJ (i:=21) (v:=undef) (bM9 2097151 26) rfl (by kernel_rfl) (Or.inr ⟨by rfl,rfl⟩) hS ?_;try simp only [Act.put,sN,sL]
      refine aJ (i:=22) (v:=undef) (bM9 4194303 26) rfl (by kernel_rfl) (Or.inr ⟨by rfl,rfl⟩) hS ?_;try simp only [Act.put,sN,sL]
      refine aJ (i:=23) (v:=undef) (bM9 8388607 26) rfl (by kernel_rfl) (Or.inr ⟨by rfl,rfl⟩) hS ?_;try simp only [Act.put,sN,sL]
      refine aJ (i:=24) (v:=?v78) (bM9 16777215 26) rfl (by kernel_rfl) (Or.inl ⟨by rfl,?y78⟩) hS ?r78
      case y78=>(intro w' hSw;obtain ⟨hrc,hrf⟩:=hSw.rules;clear hSw; go_simp;(try with_reducible rfl))
      try simp only [Act.put,sN,sL]
      refine aJ (i:=25) (v:=?v79) (bM9 33554431 26) rfl (by kernel_rfl) (Or.inl ⟨by rfl,?y79⟩) hS ?r79
      case y79=>(intro w' hSw;obtain ⟨hrc,hrf⟩:=hSw.rules;clear hSw; go_simp;(try with_reducible rfl))
      try simp only [Act.put,sN,sL]
      refine wpTill_doneN (by kernel_rfl) ?_ _;have HS:=jJ hS;clear hS;go_wp2_with fail
      go_roundw
      case rel=>exact⟨k+1,by omega,by go_num,HN.o.1.snoc (by have:=HL.o;omega) HNE.o (fun h=>absurd h HK0.o),HN.o.2.trans (HQ.o.2.2.2.trans (show aA Nil wb _ from kkA))⟩
      case measure=>simp [intOf];omega
  ·have e0:=hkr.cellE b0 id d1;have e1:=hkr.cellE b0 id d2;have l0:=Live.of (cZ1 b0 hkr.size);obtain rfl:k=np:=by omega
   rw [eZ1 (by have:=HL.o;omega)] at hn;have HN:=jJ (aI hn hkr);clear hn hkr;go_wp2_with (go_at_call 144;refine (zvalid_any (HK.o.keepNil HN.o.2)).mono ?_;rintro e w5 ⟨rfl,hk5⟩)
   go_ret
   exact⟨validB gk lk,rfl,fun _=>HN.o.1,HB.o.2.trans (HN.o.2.trans hk5)⟩
end Go.Proofs.Q

namespace Go.Rid
open Go.RowKit
def Copy {α:Type} (R:List Value→α→Prop) (d:α) (E:TypeId) (sz n:Nat) (xs:List α) (w:World) (e:Ending) (w':World):Prop:=
 ∃(va:Option Addr) (vc:Nat) (els:List (List Value)),e=.returned (.slice va n vc)∧aP w' w.heap.size E sz (.slice va n vc) els∧els.length=n∧(∀i,i<n→R (els.getD i []) (xs.getD i d))∧aA Nil w w'
theorem aP.made {w:World} {E:TypeId} {sz:Nat}:aP (w.alloc (.cells #[] E)) w.heap.size E sz (.slice (some ⟨w.heap.size,0,none⟩) 0 0) []:=⟨.of (World.ownsRow_made w #[] 0 (bZ2 _) (aZ2 _) (by simp)),by simp⟩
end Go.Rid
namespace Go.Proofs.Q
open Go.RowKit Go.Rid
variable {w:World} {M M':Nat→Prop} {a:Option Addr}
theorem cloneParts_any {α:Type} {R:List Value→α→Prop} {d:α} {n c:Nat} {xs:List α} (h1:∀cs x,R cs x→∀v∈cs,v.oneCell'=true) (h:SlOf M' w 3 R d a n c xs) (hn:n≤16777216) :
  Calls Tryz.prog 58 #[.slice a n c] w fun e w'=>Copy R d 80 3 n xs w e w':=by
 have q:∀(w:World) (a:Option Addr) (n c n' c':Nat),(binOp .eql 43 (.slice a n c) (.slice none n' c')).run Tryz.prog w=.ok (.bool a.isNone) w:=fun w a n c n' c'=>Lib.run_eql_slice_nil w _ _ a n c n' c' Tryz.underlying43;cases a with
 | none=>
  obtain ⟨rfl,rfl⟩:=h.none;clear h;go_enter Tryz.func58,Tryz.ntmps58
  go_wp2
  go_ret
  exact⟨none,0,[],rfl,aP.nil _ _ _ _,rfl,(fun i hi=>by omega),aA.refl _ _⟩
 | some p=>
  obtain ⟨i1,hi1⟩:=info_parts info_Part;have HI:=jJ hi1;obtain ⟨els,e1,e2,e3,e4⟩:=h.els;have HE:=jJ (aI5 e1 e2 e3 (e4 p rfl) h1);have hlt:∀(o:Obj) j u,els.flatten[j]?=some u→(w.alloc o).cell? (p.add j)=some u:=fun o j u hj=>by
   have hj':=(List.getElem?_eq_some_iff.1 hj).1;rw [bP _ e2,e1] at hj';obtain ⟨f,hs,_⟩:=h.ex;obtain ⟨q1,q2,_⟩:=hs.some p rfl (by omega);have q3:=e4 p rfl j u hj;obtain ⟨b,off,spot⟩:=p;subst q1;rw [Addr.add_lit] at q3⊢;exact ((aA.refl Nil w).alloc o).cellE q2 id q3
  have HL:=jJ hlt;have hcap:=h.cap;have hle:=h.le;clear h e1 e2 e3 e4 hi1 hlt h1;go_enter Tryz.func58,Tryz.ntmps58
  go_wp2_with (at_builtin;refine bI _ rfl _ _ 43 rfl w.heap.size 80 i1 (.agg #[.int .i64 0,.bool false,.slice none 0 0]) 3 40 Tryz.underlying43 HI.o.1 HI.o.2.1 HI.o.2.2.1 HI.o.2.2.2 rfl (by decide) _ [] rfl aP.made p c n els rfl HE.o.1 HE.o.2.1 ?qc2 ?qc3 (by simp;omega) (by simp;omega) (by simp) ?_)
  case qc2=>
   intro j u hj;exact HL.o _ j u hj
  case qc3=>
   intro u hu;obtain ⟨cs,hcs,hu⟩:=List.mem_flatten.1 hu;obtain ⟨i,hi,rfl⟩:=List.mem_iff_getElem.1 hcs;have h2:=HE.o.2.2.1 i (by have:=HE.o.1;omega);rw [show els.getD i []=els[i] by simp [List.getD,jZ2 hi]] at h2;exact HE.o.r4 _ _ h2 u hu
  intro v' w1 hown hk hf hnil;obtain ⟨va,vc,rfl⟩:=hown.isSlice;have e1:=HE.o.1;rw [e1] at hown⊢;go_wp2
  go_ret
  exact⟨_,_,els,rfl,hown,HE.o.1,HE.o.2.2.1,((aA.refl Nil w).alloc _).trans' hk (fun b hb=>.inr (by simp [Own,Value.ownBlock] at hb;omega))⟩
theorem rpart_one:∀cs x,RPart M w cs x→∀v∈cs,v.oneCell'=true:=fun cs x ⟨g,a,n,c,e,_⟩ v hv=>by
 rw [e] at hv;simp at hv;rcases hv with rfl|rfl|rfl<;>rfl
theorem npart_one:∀cs x,dI M w cs x→∀v∈cs,v.oneCell'=true:=fun cs x ⟨g,a,n,c,e,_⟩ v hv=>by
 rw [e] at hv;simp at hv;rcases hv with rfl|rfl|rfl<;>rfl
end Go.Proofs.Q

namespace Go.Rid
open Go.RowKit
theorem mulL_one (l:aX):mulL 1 l=l:=by
 unfold mulL;rw [List.map_congr_left (g:=id) (fun p _=>by simp),List.map_id]
theorem sumT_one (l:aX) (z:Int):sumT 1 ⟨l,z⟩ 0 ⟨[],0⟩=bX ⟨l,z⟩:=by
 unfold sumT bX;rw [mulL_one];simp [mulL]
theorem nlen_one:nlen (1:Int).natAbs≤1:=cZ (by rw [cQ];decide)
theorem zat_zero (w:World):ZAt Nil w false none 0 0 0:=(zn_zero Nil w).zat (by simp [nlen,bK])
end Go.Rid
namespace Go.Proofs.Q
open Go.RowKit Go.Rid
theorem tnorm_any {M M1 M2:Nat→Prop} {w:World} {ap ak:Option Addr} {np cp nk ck:Nat} {gk:Bool} {l:aX} {z:Int} (hM:MB M w) (h:RParts M1 M2 w ap np cp l) (hk:ZAt Nil w gk ak nk ck z) (h1:np≤16777216) (h2:nk≤1073741824) :
  Calls Tryz.prog 75 #[.agg #[.slice ap np cp,.bool gk,.slice ak nk ck]] w fun e w'=>Gives Nil (TV M (bX ⟨l,z⟩)) w e w':=by
 have hlen:=SlOf.len h;have HH:=jJ (aI5 h hk h1 h2 hlen);have HM:=jJ hM;clear h hk hM hlen;go_enter Tryz.func75,Tryz.ntmps75
 go_upto_region 1 with (fail)
 have r0:=(aF.alloc (w:=w) (E:=48) (xs:=[.slice ap np cp,.bool gk,.slice ak nk ck])).keep (M:=Nil) (w':=((w.alloc (.cells #[.slice ap np cp,.bool gk,.slice ak nk ck] 48)).alloc (.cells #[.slice none 0 0,.bool false,.slice none 0 0] 48))) kOf id;have r1:=aF.alloc (w:=(w.alloc (.cells #[.slice ap np cp,.bool gk,.slice ak nk ck] 48))) (E:=48) (xs:=[.slice none 0 0,.bool false,.slice none 0 0]);change aF ((w.alloc (.cells #[.slice ap np cp,.bool gk,.slice ak nk ck] 48)).alloc (.cells #[.slice none 0 0,.bool false,.slice none 0 0] 48)) _ _ _ at r1;rw [show (w.alloc (.cells #[.slice ap np cp,.bool gk,.slice ak nk ck] 48)).heap.size=w.heap.size+1 by simp] at r1;have k0:aA Nil w ((w.alloc (.cells #[.slice ap np cp,.bool gk,.slice ak nk ck] 48)).alloc (.cells #[.slice none 0 0,.bool false,.slice none 0 0] 48)):=kOf;generalize ((w.alloc (.cells #[.slice ap np cp,.bool gk,.slice ak nk ck] 48)).alloc (.cells #[.slice none 0 0,.bool false,.slice none 0 0] 48))=w0 at *
 obtain ⟨c0,c1,c2⟩:=r0.three;have H0:=jJ (aI3 k0 r0 r1);have lr1:=r1.lt;clear k0 r0 r1;go_wp2_with (go_at_call 116;refine (tvalid_any (HH.o.1.keepNil H0.o.1) (HH.o.2.1.keepNil H0.o.1)).mono ?_;rintro e w1 ⟨b,rfl,hb,hk1⟩;have H1:=jJ (aI hb hk1);clear hb hk1;cases b)
 ·skip
  refine aR [5] [9,10,11,12,13,1018] [9,10,11,12,13] [Un (ZV Nil 1),Un (LitV ?v1_1),Un (LitV ?v1_2),Un (LitV ?v1_3),Un (TV (Old w0) (sumT 1 ⟨l,z⟩ 0 ⟨[],0⟩)),nothing] (by kernel_rfl) (by kernel_rfl) ?rst1 ?rsb1 ?rfn1
  case' rst1=>
   show aB _ _ _ _ _ _ _ _ _ 6
   refine (aB.skip (n:=5) (by decide) (aB.succ (n:=4) rfl ?r1_4 (aB.succ (n:=3) rfl ?r1_3 (aB.succ (n:=2) rfl ?r1_2 (aB.succ (n:=1) rfl ?r1_1 (aB.succ (n:=0) rfl ?r1_0 aB.zero))))))
  case' r1_0=>
   intro us wj hk hp K hK;try simp only [aM,Act.put,sL] at hK⊢
   obtain ⟨d0,d1,d2⟩:=((H0.o.2.1.keep H1.o.2 id).keep hk id).three;go_simp
   refine (zof_any (M:=Nil) (z:=1) (MB.nil _) (by omega) (by omega)).mono ?_;rintro e wk ⟨g,a,n,c,rfl,h,hk2⟩;refine hK.out _ _ ?_ ?_
   ·exact hk2
   ·exact⟨g,a,n,c,rfl,h⟩
  case' r1_1|r1_2|r1_3=>
   intro us wj hk hp K hK;try simp only [aM,Act.put,sL] at hK⊢
   obtain ⟨d0,d1,d2⟩:=((H0.o.2.1.keep H1.o.2 id).keep hk id).three;go_simp
   refine hK.out _ _ ?_ ?_
   ·exact aA.refl _ _
   ·exact rfl
  case' r1_4=>
   intro us wj hk hp K hK;try simp only [aM,Act.put,sL] at hK⊢
   obtain ⟨d0,d1,d2⟩:=((H0.o.2.1.keep H1.o.2 id).keep hk id).three;obtain ⟨g0,a0,n0,c0,e0,h0⟩:(ZV Nil 1) (us 9) wj:=hp 0 (by kernel_rfl);have e1:us 10=_:=hp 1 (by kernel_rfl);have e2:us 11=_:=hp 2 (by kernel_rfl);have e3:us 12=_:=hp 3 (by kernel_rfl);rw [e0,e1,e2,e3] at hK⊢;go_simp
   refine (sum_any (M:=Old w0) (M3:=Nil) (M4:=Nil) (lb:=[]) (zb:=0) (MB.oldLe (bZ1 H1.o.2.size hk.size)) (h0.zat fit_one) (zat_zero _) (HH.o.1.keepNil (H0.o.1.trans (H1.o.2.trans hk))) SlOf.nil (HH.o.2.1.keepNil (H0.o.1.trans (H1.o.2.trans hk))) (zat_zero _) (by have:=h0.len;have:=nlen_one;omega) (by omega) HH.o.2.2.2.1 (by omega) HH.o.2.2.1 (by omega)).mono ?_;rintro e wk ⟨v,rfl,hv,hk2⟩;refine hK.out _ _ ?_ ?_
   ·exact hk2
   ·exact hv
  case' rsb1=>exact aC.cons (aC.cons (aC.cons (aC.cons (aC.cons (aC.cons (aC.nil))))))
  case' rfn1=>
  intro us wz hkz hf;simp only [aM,Act.put,sL];obtain ⟨g0,a0,n0,c0,e0,h0⟩:(ZV Nil 1) (us 9) wz:=hf 0 (by decide) (by decide);have e1:us 10=_:=hf 1 (by decide) (by decide);have e2:us 11=_:=hf 2 (by decide) (by decide);have e3:us 12=_:=hf 3 (by decide) (by decide);obtain ⟨ap4,np4,cp4,gk4,ak4,nk4,ck4,e4,h4⟩:(TV (Old w0) (sumT 1 ⟨l,z⟩ 0 ⟨[],0⟩)) (us 13) wz:=hf 4 (by decide) (by decide);clear hf;simp only [e0,e1,e2,e3,e4];clear e0 e1 e2 e3 e4 us;refine aK (rs:=[5]) (by kernel_rfl) (by simp) ?_;refine aH.cons rfl (fun K hK=>?_) aH.nil;obtain ⟨z0,z1,z2⟩:=((H0.o.2.2.keep H1.o.2 id).keep hkz id).three;obtain ⟨z3,z4,z5⟩:=((H0.o.2.2.keep H1.o.2 id).keep hkz id).marks3;go_simp
  refine hK.out _ _ (fun _=>trivial) ?_;clear hK K;try simp only [Act.put,sL]
  refine aS (by kernel_rfl) ?_ _;go_wp2_with fail
  have r6:=((H0.o.2.2.keep H1.o.2 id).keep hkz id).triple (.slice ap4 np4 cp4) (.bool gk4) (.slice ak4 nk4 ck4);obtain ⟨y0,y1,y2⟩:=r6.three;exact bodyPost_ret (v:=.agg #[.slice ap4 np4 cp4,.bool gk4,.slice ak4 nk4 ck4]) (by simp [results,Tryz.results75,go_sem,y0,y1,y2]) rfl ⟨_,rfl,⟨_,_,_,_,_,_,_,rfl,by have:=h4.out (M:=M) lr1 (fun b hb=>by have:=HM.o b hb;omega) (aA.triple (g:=w.heap.size+1) (.slice ap4 np4 cp4) (.bool gk4) (.slice ak4 nk4 ck4));rw [sumT_one] at this;exact this⟩,(H0.o.1.trans (H1.o.2.trans hkz)).own (by omega) (aA.triple _ _ _)⟩
 ·have hneat:Neat l:=H1.o.1 trivial;have H1':=jJ (aI H1.o.2 hneat);clear H1 hneat;go_upto_region 3 with (fail)
  refine aR [8] [14,15,16,17,18,19,20,3,1028] [14,15,16,17,18,19,20,3] [Un (LitV ?v2_0),Un (LitV ?v2_1),Un (OwnV (RPart M2 w) (0,0) 80 3 w0.heap.size np l),Un (LitV ?v2_3),Un (LitV ?v2_4),⟨[2],fun vs=>ZV (And' (Old w0) (vs.getD 0 undef)) z⟩,⟨[2,5],fun vs=>LitV (buildV [(vs.getD 0 undef),(vs.getD 1 undef)])⟩,Un (NewP ?b2_7 48 ?x2_7),nothing] (by kernel_rfl) (by kernel_rfl) ?rst2 ?rsb2 ?rfn2
  case' rst2=>
   show aB _ _ _ _ _ _ _ _ _ 9
   refine (aB.skip (n:=8) (by decide) (aB.succ (n:=7) rfl ?r2_7 (aB.succ (n:=6) rfl ?r2_6 (aB.succ (n:=5) rfl ?r2_5 (aB.succ (n:=4) rfl ?r2_4 (aB.succ (n:=3) rfl ?r2_3 (aB.succ (n:=2) rfl ?r2_2 (aB.succ (n:=1) rfl ?r2_1 (aB.succ (n:=0) rfl ?r2_0 aB.zero)))))))))
  case' r2_0|r2_3=>
   intro us wj hk hp K hK;try simp only [aM,Act.put,sL] at hK⊢
   obtain ⟨d0,d1,d2⟩:=((H0.o.2.1.keep H1'.o.1 id).keep hk id).three;go_simp
   refine hK.out _ _ ?_ ?_
   ·exact aA.refl _ _
   ·exact rfl
  case' r2_1=>
   intro us wj hk hp K hK;try simp only [aM,Act.put,sL] at hK⊢
   obtain ⟨d0,d1,d2⟩:=((H0.o.2.1.keep H1'.o.1 id).keep hk id).three;have e0:us 14=_:=hp 0 (by kernel_rfl);rw [e0] at hK⊢;go_simp
   refine hK.out _ _ ?_ ?_
   ·exact aA.refl _ _
   ·exact rfl
  case' r2_2=>
   intro us wj hk hp K hK;try simp only [aM,Act.put,sL] at hK⊢
   obtain ⟨d0,d1,d2⟩:=((H0.o.2.1.keep H1'.o.1 id).keep hk id).three;have e1:us 15=_:=hp 1 (by kernel_rfl);rw [e1] at hK⊢;go_simp
   refine (cloneParts_any rpart_one (SlOf.move HH.o.1 (H0.o.1.trans (H1'.o.1.trans hk)) (fun _ _ h=>h.elim) (fun _ _=>id) fun _ _ hx=>hx) HH.o.2.2.1).mono ?_;rintro e wk ⟨va,vc,els,rfl,o,n,r,hk2⟩;refine hK.out _ _ ?_ ?_
   ·exact hk2
   ·exact⟨va,vc,els,rfl,o.base (bZ1 H1'.o.1.size hk.size),n,r⟩
  case' r2_4=>
   intro us wj hk hp K hK;try simp only [aM,Act.put,sL] at hK⊢
   obtain ⟨d0,d1,d2⟩:=((H0.o.2.1.keep H1'.o.1 id).keep hk id).three;have e3:us 17=_:=hp 3 (by kernel_rfl);rw [e3] at hK⊢;go_simp
   refine hK.out _ _ ?_ ?_
   ·exact aA.refl _ _
   ·exact rfl
  case' r2_5=>
   intro us wj hk hp K hK;try simp only [aM,Act.put,sL] at hK⊢
   obtain ⟨d0,d1,d2⟩:=((H0.o.2.1.keep H1'.o.1 id).keep hk id).three;obtain ⟨va2,vc2,els2,e2,o2,n2,r2⟩:(OwnV (RPart M2 w) (0,0) 80 3 w0.heap.size np l) (us 16) wj:=hp 2 (by kernel_rfl);have e4:us 18=_:=hp 4 (by kernel_rfl);rw [e2,e4] at hK⊢;go_simp
   refine (norm_any (M:=And' (Old w0) (.slice va2 np vc2)) (MB.and (MB.oldLe (bZ1 H1'.o.1.size hk.size)) o2 (bZ2 _)) (HH.o.2.1.keepNil (H0.o.1.trans (H1'.o.1.trans hk)))).mono ?_;rintro e wk ⟨g,a,n,c,rfl,h,hk2⟩;refine hK.out _ _ ?_ ?_
   ·exact hk2
   ·rw [←e2] at h;exact⟨g,a,n,c,rfl,h⟩
  case' r2_6=>
   intro us wj hk hp K hK;try simp only [aM,Act.put,sL] at hK⊢
   obtain ⟨d0,d1,d2⟩:=((H0.o.2.1.keep H1'.o.1 id).keep hk id).three;obtain ⟨va2,vc2,els2,e2,o2,n2,r2⟩:(OwnV (RPart M2 w) (0,0) 80 3 w0.heap.size np l) (us 16) wj:=hp 2 (by kernel_rfl);obtain ⟨g5,a5,n5,c5,e5,h5⟩:(ZV (And' (Old w0) (us 16)) z) (us 19) wj:=hp 5 (by kernel_rfl);rw [e2,e5] at hK⊢;go_simp
   refine hK.out _ _ ?_ ?_
   ·exact aA.refl _ _
   ·show _=buildV [us 16,us 19]
    rw [e2,e5];exact rfl
  case' r2_7=>
   intro us wj hk hp K hK;try simp only [aM,Act.put,sL] at hK⊢
   obtain ⟨d0,d1,d2⟩:=((H0.o.2.1.keep H1'.o.1 id).keep hk id).three;go_simp
   refine hK.out _ _ ?_ ?_
   ·exact (aA.refl _ _).alloc _
   ·refine ⟨wj.heap.size,rfl,?_,?_⟩
    ·exact aF.alloc
    ·exact hk.size
  case' rsb2=>exact aC.cons (aC.cons (aC.cons (aC.cons (aC.cons (aC.cons (aC.cons (aC.cons (aC.cons (aC.nil)))))))))
  case' rfn2=>
  intro us wz hkz hf;simp only [aM,Act.put,sL];have e0:us 14=_:=hf 0 (by decide) (by decide);have e1:us 15=_:=hf 1 (by decide) (by decide);obtain ⟨va2,vc2,els2,e2,o2,n2,r2⟩:(OwnV (RPart M2 w) (0,0) 80 3 w0.heap.size np l) (us 16) wz:=hf 2 (by decide) (by decide);have e3:us 17=_:=hf 3 (by decide) (by decide);have e4:us 18=_:=hf 4 (by decide) (by decide);obtain ⟨g5,a5,n5,c5,e5,h5⟩:(ZV (And' (Old w0) (us 16)) z) (us 19) wz:=hf 5 (by decide) (by decide);have e6:us 20=buildV [us 16,us 19]:=hf 6 (by decide) (by decide);rw [e2,e5] at e6;simp only [buildV,cellsOf,eZ2,List.flatMap_nil,fZ2,eZ3,fZ3] at e6;obtain ⟨b7,e7,h7,q7⟩:(NewP ?b2_7 48 ?x2_7) (us 3) wz:=hf 7 (by decide) (by decide);clear hf;simp only [e0,e1,e2,e3,e4,e5,e6,e7] at h5⊢;clear e0 e1 e2 e3 e4 e5 e6 e7 us;refine aK (rs:=[8]) (by kernel_rfl) (by simp) ?_;refine aH.cons rfl (fun K hK=>?_) aH.nil;obtain ⟨z0,z1,z2⟩:=h7.three;obtain ⟨z3,z4,z5⟩:=h7.marks3;go_simp
  refine hK.out _ _ (fun _=>trivial) ?_;clear hK K;try simp only [Act.put,sL]
  refine aS (by kernel_rfl) ?_ _;skip
  have hkt:=aA.triple (w:=wz) (g:=b7) (.slice va2 np vc2) (.bool g5) (.slice a5 n5 c5);have hrt:=h7.triple (.slice va2 np vc2) (.bool g5) (.slice a5 n5 c5);have hot:=o2.keep hkt (fun b hb (hm:b=b7)=>o2.ne h7 (by decide) (by rw [hb,hm]));have hzt:=(h5.apart h7 (by simp)).less hkt;have kwq:aA Nil w (((wz.setCell ⟨b7,0,none⟩ (.slice va2 np vc2)).setCell ⟨b7,1,none⟩ (.bool g5)).setCell ⟨b7,2,none⟩ (.slice a5 n5 c5)):=(H0.o.1.trans (H1'.o.1.trans hkz)).own (by have h1:=H0.o.1.size;have h2:=H1'.o.1.size;omega) hkt;have kwq0:w0.heap.size≤(((wz.setCell ⟨b7,0,none⟩ (.slice va2 np vc2)).setCell ⟨b7,1,none⟩ (.bool g5)).setCell ⟨b7,2,none⟩ (.slice a5 n5 c5)).heap.size:=by have h1:=H1'.o.1.size;have h2:=hkz.size;simp [World.setCell];omega
  have hne7:(Value.slice va2 np vc2).ownBlock≠some b7:=o2.ne h7 (by decide);have k0q:aA Nil w0 (((wz.setCell ⟨b7,0,none⟩ (.slice va2 np vc2)).setCell ⟨b7,1,none⟩ (.bool g5)).setCell ⟨b7,2,none⟩ (.slice a5 n5 c5)):=(H1'.o.1.trans hkz).own (by have h2:=H1'.o.1.size;omega) hkt;clear z0 z1 z2 z3 z4 z5 h7 o2 h5 hkz hkt c0 c1 c2;generalize ((wz.setCell ⟨b7,0,none⟩ (.slice va2 np vc2)).setCell ⟨b7,1,none⟩ (.bool g5)).setCell ⟨b7,2,none⟩ (.slice a5 n5 c5)=wq at *
  obtain ⟨t0,t1,t2⟩:=hrt.three;have HT:=jJ (aI10 hrt hot hzt kwq kwq0 hne7 n2 r2 k0q q7);have lt7:=hrt.lt;clear hrt hot hzt kwq kwq0 hne7 n2 r2 k0q q7;go_wp2_with fail
  clear t0 t1 t2;go_loopw [24] (fun iv wr=>∃(k:Nat) (els:List (List Value)),k≤np∧iv=.int .i64 (k:Int)∧els.length=np∧aP wr w0.heap.size 80 3 (.slice va2 np vc2) els∧(∀i,i<k→dI (Old wq) wr (els.getD i []) (pth l i))∧(∀i,k≤i→i<np→els.getD i []=els2.getD i [])∧aA (Own (.slice va2 np vc2)) wq wr) (fun iv _=>np-(intOf iv).toNat)
  case atStart=>exact⟨0,els2,aZ2 _,rfl,HT.o.r6.1,HT.o.2.1,(fun i hi=>by omega),(fun i _ _=>rfl),aA.refl _ _⟩
  case round=>
   obtain ⟨k,els,hk,rfl,hel,hown,hdone,hrest,hkr⟩:=hrel;have hr7:=HT.o.1.keep hkr (HT.o.r5.1);have hn7:=HT.o.r5.1;by_cases hlt:k<np
   ·have j0:(0:Int)≤(k:Int):=by omega
    have j1:(k:Int)<(np:Int):=by omega
    obtain ⟨g,rest,hva,hrow,hbg,hnc,hcm,hback⟩:=hown.opens hel (by omega);subst hva;have hsz:=hown.sz;have hpart:=HT.o.r7.1 k hlt;rw [←hrest k (bZ2 _) hlt] at hpart;obtain ⟨gx,ax,nx,cx,hcs,hzx,hnx,i1,i2⟩:=hpart;have x0:=hrow.el hsz (i:=k) (j:=0) (by omega) (by omega);have x1:=hrow.el hsz (i:=k) (j:=1) (by omega) (by omega);have x2:=hrow.el hsz (i:=k) (j:=2) (by omega) (by omega);rw [hcs] at x0 x1 x2;simp only [List.getD_cons_zero,List.getD_cons_succ,Nat.add_zero] at x0 x1 x2;change wr.cell? _=some (.int .i64 (pth l k).1) at x0;obtain ⟨v,hv⟩:∃v,v=(pth l k).1:=⟨_,rfl⟩;rw [←hv] at x0;have hgb:¬g=b7:=fun e=>hn7 (by simp [Value.ownBlock,e]);have lg:=Live.of hrow.lt;have HC:=jJ (aI13 hel hown hdone hrest hkr hr7 hrow hback hsz hcs hzx hnx hv);have hkb:aA Nil wr (wr.alloc (.cells #[.int .i64 v,.bool gx,.slice ax nx cx] 80)):=kOf;have rp:=aF.alloc (w:=wr) (E:=80) (xs:=[.int .i64 v,.bool gx,.slice ax nx cx]);change aF (wr.alloc (.cells #[.int .i64 v,.bool gx,.slice ax nx cx] 80)) _ _ _ at rp;clear hel hown hdone hrest hkr hr7 hrow hback hsz hcs hzx hnx hv hn7;go_upto_region 7 with (fail)
    generalize wr.alloc (.cells #[.int .i64 v,.bool gx,.slice ax nx cx] 80)=wb at *
    have HB:=jJ (aI rp hkb);clear rp hkb x0 x1 x2 lg;have kwb:aA Nil w wr:=HT.o.2.2.2.1.trans' HC.o.r4.1 (fun b hb=>.inr (by have h1:=(HT.o.2.1.lt b hb).1;have h2:=H0.o.1.size;omega));have KW:=jJ kwb;clear kwb;refine aR [8] [29,30,31,32,33,34,35,36,1044] [29,30,31,32,33,34,35,36] [Un (LitV ?v3_0),Un (LitV ?v3_1),Un (LitV ?v3_2),Un (LitV ?v3_3),Un (LitV ?v3_4),Un (ZV (Old wq) (pth l k).2),Un (LitV ?v3_6),Un (LitV ?v3_7),nothing] (by kernel_rfl) (by kernel_rfl) ?rst3 ?rsb3 ?rfn3
    case' rst3=>
     show aB _ _ _ _ _ _ _ _ _ 9
     refine (aB.skip (n:=8) (by decide) (aB.succ (n:=7) rfl ?r3_7 (aB.succ (n:=6) rfl ?r3_6 (aB.succ (n:=5) rfl ?r3_5 (aB.succ (n:=4) rfl ?r3_4 (aB.succ (n:=3) rfl ?r3_3 (aB.succ (n:=2) rfl ?r3_2 (aB.succ (n:=1) rfl ?r3_1 (aB.succ (n:=0) rfl ?r3_0 aB.zero)))))))))
    case' r3_0|r3_2|r3_3=>
     intro us wj hk hp K hK;try simp only [aM,Act.put,sL] at hK⊢
     obtain ⟨d0,d1,d2⟩:=((HC.o.r5.1.keep HB.o.2 id).keep hk id).three;obtain ⟨f0,f1,f2⟩:=(HB.o.1.keep hk id).three;go_simp
     refine hK.out _ _ ?_ ?_
     ·exact aA.refl _ _
     ·exact rfl
    case' r3_1=>
     intro us wj hk hp K hK;try simp only [aM,Act.put,sL] at hK⊢
     obtain ⟨d0,d1,d2⟩:=((HC.o.r5.1.keep HB.o.2 id).keep hk id).three;obtain ⟨f0,f1,f2⟩:=(HB.o.1.keep hk id).three;have e0:us 29=_:=hp 0 (by kernel_rfl);rw [e0] at hK⊢;go_simp
     refine hK.out _ _ ?_ ?_
     ·exact aA.refl _ _
     ·exact rfl
    case' r3_4=>
     intro us wj hk hp K hK;try simp only [aM,Act.put,sL] at hK⊢
     obtain ⟨d0,d1,d2⟩:=((HC.o.r5.1.keep HB.o.2 id).keep hk id).three;obtain ⟨f0,f1,f2⟩:=(HB.o.1.keep hk id).three;have e3:us 32=_:=hp 3 (by kernel_rfl);rw [e3] at hK⊢;go_simp
     refine hK.out _ _ ?_ ?_
     ·exact aA.refl _ _
     ·exact rfl
    case' r3_5=>
     intro us wj hk hp K hK;try simp only [aM,Act.put,sL] at hK⊢
     obtain ⟨d0,d1,d2⟩:=((HC.o.r5.1.keep HB.o.2 id).keep hk id).three;obtain ⟨f0,f1,f2⟩:=(HB.o.1.keep hk id).three;have e4:us 33=_:=hp 4 (by kernel_rfl);rw [e4] at hK⊢;go_simp
     refine (norm_any (M:=Old wq) (MB.oldLe (bZ1 HC.o.r4.1.size (HB.o.2.trans hk).size)) (HC.o.r10.1.toNil.keepNil (KW.out.trans (HB.o.2.trans hk)))).mono ?_;rintro e wk ⟨g,a,n,c,rfl,h,hk2⟩;refine hK.out _ _ ?_ ?_
     ·exact hk2
     ·exact⟨g,a,n,c,rfl,h⟩
    case' r3_6=>
     intro us wj hk hp K hK;try simp only [aM,Act.put,sL] at hK⊢
     obtain ⟨d0,d1,d2⟩:=((HC.o.r5.1.keep HB.o.2 id).keep hk id).three;obtain ⟨f0,f1,f2⟩:=(HB.o.1.keep hk id).three;have e1:us 30=_:=hp 1 (by kernel_rfl);have e2:us 31=_:=hp 2 (by kernel_rfl);rw [e1,e2] at hK⊢;go_simp
     refine hK.out _ _ ?_ ?_
     ·exact aA.refl _ _
     ·exact rfl
    case' r3_7=>
     intro us wj hk hp K hK;try simp only [aM,Act.put,sL] at hK⊢
     obtain ⟨d0,d1,d2⟩:=((HC.o.r5.1.keep HB.o.2 id).keep hk id).three;obtain ⟨f0,f1,f2⟩:=(HB.o.1.keep hk id).three;have e6:us 35=_:=hp 6 (by kernel_rfl);rw [e6] at hK⊢;go_simp
     refine hK.out _ _ ?_ ?_
     ·exact aA.refl _ _
     ·exact rfl
    case' rsb3=>exact aC.cons (aC.cons (aC.cons (aC.cons (aC.cons (aC.cons (aC.cons (aC.cons (aC.cons (aC.nil)))))))))
    case' rfn3=>
    intro us wz hkz hf;simp only [aM,Act.put,sL];have e0:us 29=_:=hf 0 (by decide) (by decide);have e1:us 30=_:=hf 1 (by decide) (by decide);have e2:us 31=_:=hf 2 (by decide) (by decide);have e3:us 32=_:=hf 3 (by decide) (by decide);have e4:us 33=_:=hf 4 (by decide) (by decide);obtain ⟨g5,a5,n5,c5,e5,h5⟩:(ZV (Old wq) (pth l k).2) (us 34) wz:=hf 5 (by decide) (by decide);have e6:us 35=_:=hf 6 (by decide) (by decide);have e7:us 36=_:=hf 7 (by decide) (by decide);clear hf;simp only [e0,e1,e2,e3,e4,e5,e6,e7];clear e0 e1 e2 e3 e4 e5 e6 e7 us;refine aK (rs:=[8]) (by kernel_rfl) (by simp) ?_;refine aH.cons rfl (fun K hK=>?_) aH.nil;have hrz:=(HC.o.r6.1.keep HB.o.2 id).keep hkz id;have x1:=hrz.el HC.o.r8.1 (i:=k) (j:=1) (by have:=HC.o.1;omega) (by omega);have x2:=hrz.el HC.o.r8.1 (i:=k) (j:=2) (by have:=HC.o.1;omega) (by omega);have x3:=hrz.frozen (k*3+1);have x4:=hrz.frozen (k*3+2);go_simp
    refine hK.out _ _ (fun _=>trivial) ?_;clear hK K;try simp only [Act.put,sL]
    refine aS (by kernel_rfl) ?_ _;skip
    have hke:k<els.length:=by have:=HC.o.1;omega
    have hsz:=HC.o.r8.1;have hpk:(pth l k)=l.getD k (0,0):=rfl;have hr1:=hrz.setEl hsz (i:=k) (t:=1) hke (by omega) (.bool g5);have hsz1:=mem_set_sz hsz (i:=k) (x:=(els.getD k []).set 1 (.bool g5)) (by rw [HC.o.r9.1];rfl);have hr2:=hr1.setEl hsz1 (i:=k) (t:=2) (by simpa using hke) (by omega) (.slice a5 n5 c5);rw [getD_set_self _ _ _ hke,List.set_set,HC.o.r9.1] at hr2;simp only [List.set_cons_succ,List.set_cons_zero] at hr2;have hsz2:=mem_set_sz hsz (i:=k) (x:=[.int .i64 (pth l k).1,.bool g5,.slice a5 n5 c5]) rfl;have hown2:=HC.o.r7.1 _ (els.set k [.int .i64 (pth l k).1,.bool g5,.slice a5 n5 c5]) (by rw [List.length_set];exact HC.o.1) hsz2 hr2;have hgq:g<wq.heap.size:=(HT.o.2.1.lt g rfl).2;have kst:aA (One g) wz ((wz.setCell ⟨g,k*3+1,none⟩ (.bool g5)).setCell ⟨g,k*3+2,none⟩ (.slice a5 n5 c5)):=((aA.refl (One g) wz).set1 (k*3+1) _).set1 (k*3+2) _;have HF:=jJ (aI8 hown2 hgq kst hke h5 hkz i1 i2);clear hr1 hsz1 hr2 hsz2 hown2 kst hrz x1 x2 x3 x4 h5 hkz;go_wp2_with fail
    go_roundw
    case rel=>
     refine ⟨k+1,_,by omega,by go_num,by rw [List.length_set];exact HC.o.1,HF.o.1,fun i hi=>?_,fun i hi hi2=>?_,(HC.o.r4.1.transNil (HB.o.2.trans HF.o.r5.1)).trans (HF.o.2.2.1.mono fun b hb=>by have hb':b=g:=hb;subst hb';rfl)⟩
     ·rcases Nat.lt_or_ge i k with hik|hik
      ·rw [getD_set_other _ _ _ (by omega)];exact dI.moves (dI.moves (HC.o.2.2.1 i hik) (HB.o.2.trans HF.o.r5.1) (fun _ _ h=>h.elim) fun _ _=>id) HF.o.2.2.1 (fun b _ hb=>by have hb':b=g:=hb;rw [hb'];exact hgq) fun _ _=>id
      ·obtain rfl:i=k:=by omega
       rw [getD_set_self _ _ _ hke];exact⟨g5,a5,n5,c5,rfl,HF.o.r4.1.move HF.o.2.2.1 (fun b _ hb=>by have hb':b=g:=hb;rw [hb'];exact hgq) fun _ _=>id,HF.o.r6.1,HF.o.r7⟩
     ·rw [getD_set_other _ _ _ (by omega)];exact HC.o.2.2.2.1 i (by omega) hi2
    case measure=>simp [intOf];omega
   ·have ekn:np=k:=by omega
    subst ekn;obtain ⟨t0,t1,t2⟩:=hr7.three;have rT:=(H0.o.2.2.keep HT.o.r8.1 id).keep hkr (fun hb=>by have:=(HT.o.2.1.lt _ hb).1;omega);obtain ⟨z0,z1,z2⟩:=rT.three;obtain ⟨z3,z4,z5⟩:=rT.marks3;have HF:=jJ (aI5 hel hown hdone hkr rT);clear hel hown hdone hkr rT hr7 hrest;go_wp2_with fail
    have r6:=HF.o.r4.triple (.slice va2 np vc2) (.bool g5) (.slice a5 n5 c5);have ks:=aA.triple (w:=wr) (g:=w.heap.size+1) (.slice va2 np vc2) (.bool g5) (.slice a5 n5 c5);obtain ⟨y0,y1,y2⟩:=r6.three;have hll:l.length=np:=HH.o.r4;have hnew:∀b,(Value.slice va2 np vc2).ownBlock=some b→w0.heap.size≤b:=fun b hb=>(HF.o.2.1.lt b hb).1;have hown3:=HF.o.2.1.keep ks (fun b hb (hm:b=w.heap.size+1)=>by have:=hnew b hb;omega);obtain ⟨a',c',e',hsl⟩:=hown3.sl (M:=M) (R:=dI M _) (d:=(0,0)) (xs:=l) (fun b hb hm=>by have:=hnew b hb;have:=HM.o b hm;have:=H0.o.1.size;omega) (by rw [HF.o.1,hll]) (fun i hi=>dI.moves (HF.o.2.2.1 i (by have:=HF.o.1;omega)) ks (fun b _ (hm:b=w.heap.size+1)=>by show b<wq.heap.size;have:=HT.o.r4.1;omega) fun b _ hm=>by show b<wq.heap.size;have:=HM.o b hm;have:=HT.o.r4.1;omega);rw [HF.o.1] at e' hsl;cases e';have hzk:=(HT.o.2.2.1.move (M2:=And' (Old w0) (Value.slice va2 np vc2)) HF.o.2.2.2.1 (fun b _ hb=>.inr hb) fun _ _=>id).move (M2:=M) ks (fun b _ (hm:b=w.heap.size+1)=>.inl (by show b<w0.heap.size;omega)) (fun b _ hm=>.inl (by show b<w0.heap.size;have:=HM.o b hm;omega));have kw:aA Nil w wr:=HT.o.2.2.2.1.trans' HF.o.2.2.2.1 (fun b hb=>.inr (by have h1:=hnew b hb;omega));refine bodyPost_ret (v:=.agg #[.slice va2 np vc2,.bool g5,.slice a5 n5 c5]) (by simp [results,Tryz.results75,go_sem,y0,y1,y2]) rfl ⟨_,rfl,⟨_,_,_,_,_,_,_,rfl,?_,hzk⟩,kw.own (by omega) ks⟩;show cV M M _ _ _ _ (neatL l)
    rw [neatL_of_neat H1'.o.2];exact hsl
end Go.Proofs.Q
