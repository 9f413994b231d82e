/- What the laws' light of layer 9 does: it answers a number below what it was given, and changes nothing. -/
import Derived.Test.YtgeklmkfjkenlaaGreatDoorNOpens
import Derived.Test.YtgeklmkfjkenlaaGreatDoorNEvalsB
set_option linter.unusedSimpArgs false
set_option linter.unusedVariables false
set_option maxRecDepth 100000
set_option maxHeartbeats 8000000
namespace Go.Proofs.Q
open Go.RowKit Tryz
theorem light_any {O:Nat→Prop} {g gm:Nat} {A:aF} (hlen:A.nodes.length≤1000000) (hz:∀i,i<A.nodes.length→SizeN (A.nodes.getD i aV)) (hb:Below A.nodes):∀(i:Nat) (w:World) (left:Int),cD O w g gm A→i<A.nodes.length→1≤left→left≤3000 →
  Calls prog 12 #[.pointer (some ⟨g,0,none⟩),.int .i64 (i:Int),.int .i64 left] w fun e w'=>(∃r:Int,e=.returned (.int .i64 r)∧0≤r∧r<left)∧aA Nil w w':=by
 intro i;induction i using Nat.strongRecOn with
 | ind i ih=>
  intro w left hA hi h1 h2;have hnode:=anode_any hA hi hlen (hz i hi);obtain ⟨N,hN⟩:∃N,N=A.nodes.getD i aV:=⟨_,rfl⟩;rw [←hN] at hnode;have hkb:∀k∈N.kids,0≤k∧k<(i:Int):=fun k hk=>hb i hi k (by rw [←hN];exact hk);have HA:=jJ (aI5 hA hi hnode hkb ih);clear hA hi hnode hkb ih hN hz hb;go_enter func12,ntmps12
  go_upto_region 2 with (go_at_call 33;refine HA.o.2.2.1.mono ?_;rintro e w1 ⟨gd,ad,nd,cd,ap,np,cp,gk,ak,nk,ck,aq,nq,cq,els,rfl,ha,ho,hq,hk1⟩;have H1:=jJ (aI hq hk1);clear ha ho hq hk1)
  have r7:=aC.alloc (w:=w1) (E:=68) (xs:=[.int .i64 N.kind,.bool gd,.slice ad nd cd,.slice ap np cp,.bool gk,.slice ak nk ck,.int .i64 N.var,.slice aq nq cq]);change aC (w1.alloc (.cells #[.int .i64 N.kind,.bool gd,.slice ad nd cd,.slice ap np cp,.bool gk,.slice ak nk ck,.int .i64 N.var,.slice aq nq cq] 68)) _ _ _ at r7;have k7:aA Nil w1 (w1.alloc (.cells #[.int .i64 N.kind,.bool gd,.slice ad nd cd,.slice ap np cp,.bool gk,.slice ak nk ck,.int .i64 N.var,.slice aq nq cq] 68)):=kOf;generalize w1.alloc (.cells #[.int .i64 N.kind,.bool gd,.slice ad nd cd,.slice ap np cp,.bool gk,.slice ak nk ck,.int .i64 N.var,.slice aq nq cq] 68)=w2 at *
  have hnq:N.kids.length=nq:=by
   obtain ⟨a',c',e⟩:=H1.o.1.isSlice;rw [aH] at e;cases e;rfl
  have hks:bP Nil w2 aq nq cq N.kids:=(nums_own (M:=Nil) H1.o.1 (fun _ _ h=>h) hnq).keepNil k7;have hcap:=SlOf.cap hks;have hle:=SlOf.le hks;have HB:=jJ (aI4 r7 (H1.o.2.trans k7) hks hnq);clear r7 k7 hks hnq;go_wp2_with fail
  go_loopw [2,9] (fun lv iv wr=>∃(j:Nat) (r:Int),j≤nq∧iv=.int .i64 (j:Int)∧lv=.int .i64 r∧0≤r∧r<left∧aA Nil w2 wr) (fun _ iv _=>nq-(intOf iv).toNat)
  case atStart=>exact⟨0,left-1,aZ2 _,rfl,rfl,by omega,by omega,aA.refl _ _⟩
  case round=>
   obtain ⟨j,r,hj,rfl,rfl,hr0,hr1,hkr⟩:=hrel;have d7:wr.cell? ⟨w1.heap.size,7,none⟩=some (.slice aq nq cq):=(HB.o.1.keep hkr id).cell 7;by_cases hlt:j<nq
   ·by_cases hpos:0<r
    ·obtain ⟨b,off,rfl,ck'⟩:=aW (HB.o.2.2.1.keepNil hkr) hlt;have hkj:=HA.o.2.2.2.1 (N.kids.getD j 0) (cH 0 (by rw [HB.o.2.2.2];exact hlt));obtain ⟨m,hm⟩:∃m:Nat,N.kids.getD j 0=(m:Int):=⟨(N.kids.getD j 0).toNat,by omega⟩;rw [hm] at ck' hkj;have hmi:m<i:=by omega
     have j0:(0:Int)≤(j:Int):=by omega
     have j1:(j:Int)<(nq:Int):=by omega
     have hcall:=HA.o.r4 m hmi wr r (HA.o.1.keep (HB.o.2.1.trans hkr) fun _ h=>h.elim) (by have:=HA.o.2.1;omega) (by omega) (by omega);have HC:=jJ (aI3 hcall hkr hr1);clear hcall hkr hr1 hr0 hm hkj hmi;go_wp2_with (go_at_call 12;refine HC.o.1.mono ?_;rintro e w5 ⟨⟨r5,rfl,q0,q1⟩,hk5⟩;have H5:=jJ (aI3 q0 q1 hk5);clear q0 q1 hk5)
     go_roundw
     case rel=>exact⟨j+1,r5,by omega,by go_num,rfl,H5.o.1,by have:=H5.o.2.1;have:=HC.o.2.2;omega,HC.o.2.1.trans H5.o.2.2⟩
     case measure=>simp [intOf];omega
    ·have hr:r=0:=by omega
     subst hr;have HC:=jJ hkr;clear hkr hpos;have j1:(j:Int)<(nq:Int):=by omega
     go_wp2_with fail
     go_ret
     exact⟨⟨_,rfl,Int.le_refl _,by omega⟩,HB.o.2.1.trans HC.o⟩
   ·have hjn:j=nq:=by omega
    subst hjn;have e0:decide ((j:Int)<(j:Int))=false:=by simp
    have HC:=jJ hkr;clear hkr hlt;go_wp2_with fail
    go_ret
    exact⟨⟨_,rfl,hr0,hr1⟩,HB.o.2.1.trans HC.o⟩
def isR (X:cI) (x:Int):Bool:=if X.kind=2 then decide (0<x) else if X.kind=3∨X.kind=4 then (x.fmod X.d==0)==decide (X.kind=3) else decide (X.kind=1)
def holdsR (vals:aM) (X:cI):Bool × Int:=
 if (bT X).1=0 then
  match evalP vals (bE (bT X).2.t).parts (bE (bT X).2.t).k with
  | none=>(false,170)
  | some x=>(isR (bT X).2 x,0)
 else (false,(bT X).1)
structure HoldOk (X:cI):Prop where
 wee:Wee X.t
 nwee:Wee (bE X.t)
 d:nlen X.d.natAbs≤536870912
 nd:X.kind=3∨X.kind=4→0<X.d
theorem holds_any {M1 M2 M3 M4:Nat→Prop} {w:World} {k:Int} {ad ap ak av:Option Addr} {nd cd np cp nk ck nv cv:Nat} {gd gk:Bool} {d z:Int} {l vals:aM} (hd:ZAt Nil w gd ad nd cd d) (h:bU M1 M2 w ap np cp l) (hk:ZAt Nil w gk ak nk ck z) (h1:np≤16777216) (h2:nk≤1073741824) (hw:Wee (bE ⟨l,z⟩)) (hwd:nlen d.natAbs≤536870912) (hv:bU M3 M4 w av nv cv vals) (hnv:nv≤1000000000) (hO:HoldOk (bT ⟨k,d,⟨l,z⟩⟩).2) :
  Calls prog 52 #[.agg #[.int .i64 k,.bool gd,.slice ad nd cd,.slice ap np cp,.bool gk,.slice ak nk ck],.slice av nv cv] w fun e w'=>e=.returned (.tuple #[.bool (holdsR vals ⟨k,d,⟨l,z⟩⟩).1,.int .i64 (holdsR vals ⟨k,d,⟨l,z⟩⟩).2])∧aA Nil w w':=by
 obtain ⟨hr,hhr⟩:∃hr,hr=holdsR vals ⟨k,d,⟨l,z⟩⟩:=⟨_,rfl⟩;rw [←hhr];obtain ⟨N,hN⟩:∃N,N=bT ⟨k,d,⟨l,z⟩⟩:=⟨_,rfl⟩;unfold holdsR at hhr;rw [←hN] at hhr hO;have HNN:=jJ hN;clear hN;have HA:=jJ (aI9 hd h hk hw hwd hv hnv hO hhr);clear hd h hk hw hwd hv hnv hO hhr;go_enter func52,ntmps52
 go_upto_region 1 with (fail)
 obtain ⟨w0,e_1,q0,r0⟩:=bx1 w 84 [.int .i64 k,.bool gd,.slice ad nd cd,.slice ap np cp,.bool gk,.slice ak nk ck];rw [e_1];clear e_1;obtain ⟨c0,c1,c2,c3,c4,c5⟩:=r0.cells6;have H0:=jJ (aI q0 r0);clear q0 r0;go_upto_region 2 with (go_at_call 96;refine (anorm_any (M:=Old w0) (MB.old w0) (HA.o.1.keepNil H0.o.1) (HA.o.2.1.keepNil H0.o.1) (HA.o.2.2.1.keepNil H0.o.1) h1 h2 HA.o.2.2.2.1 HA.o.r4.1).mono ?_;rintro e w1 ⟨v,rfl,⟨gd',ad',nd',cd',ap',np',cp',gk',ak',nk',ck',rfl,ha⟩,hk1⟩;rw [←HNN.o] at ha⊢;have r1:=H0.o.2.keep hk1 id;obtain ⟨z0,z1,z2,z3,z4,z5⟩:=r1.cells6;obtain ⟨y0,y1,y2,y3,y4,y5⟩:=r1.marks6;have H1:=jJ (aI3 ha hk1 r1);clear ha hk1 r1)
 have lr:=H0.o.2.lt;have r6:=H1.o.2.2.six (.int .i64 N.2.kind) (.bool gd') (.slice ad' nd' cd') (.slice ap' np' cp') (.bool gk') (.slice ak' nk' ck');have ks:=aA.six (w:=w1) (g:=w.heap.size) (.int .i64 N.2.kind) (.bool gd') (.slice ad' nd' cd') (.slice ap' np' cp') (.bool gk') (.slice ak' nk' ck');have ha2:=H1.o.1.out (M:=Nil) lr (fun _ hb=>hb.elim) ks;have kq:aA Nil w _:=(H0.o.1.trans H1.o.2.1).own (bZ2 _) ks;clear ks;generalize (((((w1.setCell ⟨w.heap.size,0,none⟩ (.int .i64 N.2.kind)).setCell ⟨w.heap.size,1,none⟩ (.bool gd')).setCell ⟨w.heap.size,2,none⟩ (.slice ad' nd' cd')).setCell ⟨w.heap.size,3,none⟩ (.slice ap' np' cp')).setCell ⟨w.heap.size,4,none⟩ (.bool gk')).setCell ⟨w.heap.size,5,none⟩ (.slice ak' nk' ck')=w2 at *
 obtain ⟨er,X⟩:=N;simp only at r6 ha2;obtain ⟨c0,c1,c2,c3,c4,c5⟩:=r6.cells6;have hhr:=HA.o.r8;have hO:=HA.o.r7.1;simp only at hhr hO;have H2:=jJ (aI4 ha2 kq r6 hO);have HH:=jJ hhr;clear ha2 kq r6 hhr hO;by_cases he:¬er=0
 ·have e1:(er==0)=false:=by simp [he]
  go_wp2_with fail
  go_ret2
  rw [HH.o,if_neg he];exact⟨rfl,H2.o.2.1⟩
 obtain rfl:=Decidable.not_not.1 he;have e1:((0:Int)==0)=true:=rfl;have hpr:bU Nil Nil w2 ap' np' cp' X.t.parts:=cQ.raw H2.o.1.2.1 fun p hp=>by have:=H2.o.2.2.2.wee.parts p hp;omega
 have hkr:ZAt Nil w2 gk' ak' nk' ck' X.t.k:=H2.o.1.2.2.zat (by have:=H2.o.2.2.2.wee.k;omega);have hnp:np'≤16777216:=by have:=SlOf.len hpr;have:=H2.o.2.2.2.wee.few;omega
 have hnk:nk'≤1073741824:=by have h3:=H2.o.1.2.2.len;have h4:=H2.o.2.2.2.wee.k;omega
 have hev:=eval_any hpr hkr hnp hnk H2.o.2.2.2.nwee (HA.o.r5.1.keepNil H2.o.2.1) HA.o.r6.1;obtain ⟨o,ho⟩:∃o,o=evalP vals (bE X.t).parts (bE X.t).k:=⟨_,rfl⟩;rw [show (⟨X.t.parts,X.t.k⟩:aY)=X.t from rfl,←ho] at hev;have hhr:=HH.o;rw [if_pos rfl,←ho] at hhr;have HEV:=jJ hev;have HHR:=jJ hhr;clear hpr hkr hnp hnk hev ho hhr;go_upto_region 5 with (go_at_call 100;refine HEV.o.mono ?_;rintro e w3 ⟨⟨g3,a3,n3,c3,rfl,hz3,hn3⟩,hk3⟩;have H3:=jJ (aI3 hz3 hk3 hn3);clear hz3 hk3 hn3)
 have r7:=aC.alloc (w:=w3) (E:=41) (xs:=[.bool g3,.slice a3 n3 c3]);change aC (w3.alloc (.cells #[.bool g3,.slice a3 n3 c3] 41)) _ _ _ at r7;have k7:aA Nil w3 (w3.alloc (.cells #[.bool g3,.slice a3 n3 c3] 41)):=kOf;generalize w3.alloc (.cells #[.bool g3,.slice a3 n3 c3] 41)=w4 at *
 have k24:=H3.o.2.1.trans k7;have r24:=H2.o.2.2.1.keep k24 id;obtain ⟨c0,c1,c2,c3',c4,c5⟩:=r24.cells6;obtain ⟨d0,d1,-,-⟩:=r7.two;have H4:=jJ (aI4 r7 r24 k24 (H3.o.1.keepNil k7));clear r7 k7 k24 r24;cases o with
 | none=>
  have hhr:=HHR.o;have H5:=jJ hhr;clear hhr;rw [show (if (none:Option Int).isSome=true then (0:Int) else 170)=170 from rfl];go_wp2_with fail
  go_ret2
  rw [H5.o];exact⟨rfl,H2.o.2.1.trans H4.o.2.2.1⟩
 | some x=>
  have hhr:hr=(isR X x,0):=HHR.o;have hz4:ZN Nil w4 g3 a3 n3 c3 x:=H4.o.2.2.2;have hxn:nlen x.natAbs≤2164260864:=H3.o.2.2;have hza:=hz4.zat (by omega);have H5:=jJ (aI4 hhr hza (H2.o.2.1.trans H4.o.2.2.1) hxn);clear hhr hz4 hza;rw [show (if (some x).isSome=true then (0:Int) else 170)=0 from rfl];by_cases k2:X.kind=2
  ·rw [k2] at c0;go_wp2_with (go_at_call 73;refine (sign_any H5.o.2.1).mono ?_;rintro e w5 ⟨rfl,hk5⟩;have H6:=jJ hk5;clear hk5)
   go_ret2
   rw [H5.o.1];unfold isR;rw [if_pos k2];exact⟨rfl,H5.o.2.2.1.trans H6.o⟩
  by_cases k34:X.kind=3∨X.kind=4
  ·have hda:=H2.o.1.1.keepNil H4.o.2.2.1;have hd4:=hda.zat (by have:=H2.o.2.2.2.d;omega);have hdn:nd'≤4294967296:=by have h3:=hda.len;have h4:=H2.o.2.2.2.d;omega
   have hdz:=H2.o.2.2.2.nd k34;have hdz':X.d≠0:=by omega
   have hg3:n3≤8589934592:=by have h3:=H3.o.1.len;have h4:=H5.o.2.2.2;simp only [Option.getD_some] at h3;omega
   have hfl:nlen (x.fmod X.d).natAbs≤536870912:=bZ1 (nlen_fmod_le _ hdz) H2.o.2.2.2.d;have HD:=jJ (aI5 hd4 hdz' hdn hg3 hfl);clear hda hd4 hdn hdz hdz' hg3 hfl;have hegm:∀args w,(callFunc 149 args).run prog w=.ok (.enter 149 args) w:=enters_of func149 (by kernel_rfl) rfl;rcases k34 with k3|k4
   ·rw [k3] at c0;have HK:=jJ k3;have hsg:((x.fmod X.d).sign==0)=(x.fmod X.d==0):=by
     rw [Bool.eq_iff_iff,beq_iff_eq,beq_iff_eq];exact Int.sign_eq_zero_iff_zero
    have hfin:isR X x=((x.fmod X.d).sign==0):=by
     unfold isR;rw [k3,if_neg (by decide),if_pos (by decide),hsg];simp
    clear hsg;have HFI:=jJ hfin;clear hfin;clear k3 k2;go_upto_region 12 with (fail)
    refine aX 13 [11,12] [36,37,38,39,40,41,42,43,44,45,46,4,5] [36,37,38,39,40,41,42,43,44,45,46] [Un (LitV ?v2_0),Un (LitV ?v2_1),Un (CapV 149 41 [.bool gd',.slice ad' nd' cd'] w4.heap.size),Un (LitV ?v2_3),Un (ZV Nil (x.fmod X.d)),Un (LitV (.int .i64 (x.fmod X.d).sign)),Un (LitV ?v2_6),Un (LitV ?v2_7),Un (LitV ?v2_8),Un (LitV ?v2_9),Un (LitV ?v2_10),nothing,nothing] (aB.sk (aB.sk (aB.nx ?r2_10 (aB.nx ?r2_9 (aB.nx ?r2_8 (aB.nx ?r2_7 (aB.nx ?r2_6 (aB.nx ?r2_5 (aB.nx ?r2_4 (aB.nx ?r2_3 (aB.nx ?r2_2 (aB.nx ?r2_1 (aB.nx ?r2_0 aB.zero))))))))))))) ?rfn2
    case' r2_0|r2_1|r2_2|r2_3|r2_4|r2_5|r2_6|r2_7|r2_8|r2_9|r2_10=>
     intro us wj hk hp K hK;try simp only [aP,Act.put,sL] at hK⊢
     obtain ⟨f0,f1,f2,f3,f4,f5⟩:=(H4.o.2.1.keep hk id).cells6;rw [HK.o] at f0;obtain ⟨d0,d1,-,-⟩:=(H4.o.1.keep hk id).two
    case' r2_0|r2_3|r2_7=>
     go_simp
     refine hK.out _ _ (aA.refl _ _) ?_;exact rfl
    case' r2_1=>
     have e0:us 36=_:=hp 0;rw [e0] at hK⊢;go_simp
     refine hK.out _ _ (aA.refl _ _) ?_;exact rfl
    case' r2_2=>
     have e1:us 37=_:=hp 1;rw [e1] at hK⊢;go_simp
     refine (modulo_any).mono ?_;rintro e wk ⟨v,rfl,⟨b,rfl,hr,hb⟩,hk2⟩;exact hK.out _ _ hk2 (⟨b,rfl,hr,bZ1 hk.size hb⟩)
    case' r2_4=>
     obtain ⟨b2,e2,h2,q2⟩:(CapV 149 41 [.bool gd',.slice ad' nd' cd'] w4.heap.size) (us 38) wj:=hp 2;have e3:us 39=_:=hp 3;rw [e2,e3] at hK⊢;go_simp
     refine ((modulo1_any h2 (HD.o.1.keepNil hk) HD.o.2.1 HD.o.2.2.1).call Nil _ g3 a3 n3 c3 x (aA.refl _ _) (MB.nil _) (H5.o.2.1.keepNil hk) HD.o.2.2.2.1).mono ?_;rintro e wk ⟨g,a,n,c,rfl,h,hk2⟩;exact hK.out _ _ hk2 (⟨g,a,n,c,rfl,h⟩)
    case' r2_5=>
     obtain ⟨g4,a4,n4,c4,e4,h4⟩:(ZV Nil (x.fmod X.d)) (us 40) wj:=hp 4;rw [e4] at hK⊢;go_simp
     refine (sign_any (h4.zat (by have:=HD.o.r4;omega))).mono ?_;rintro e wk ⟨rfl,hk2⟩;exact hK.out _ _ hk2 (rfl)
    case' r2_6=>
     have e5:us 41=_:=hp 5;rw [e5] at hK⊢;go_simp
     refine hK.out _ _ (aA.refl _ _) ?_;exact rfl
    case' r2_8=>
     have e7:us 43=_:=hp 7;rw [e7] at hK⊢;go_simp
     refine hK.out _ _ (aA.refl _ _) ?_;exact rfl
    case' r2_9=>
     have e8:us 44=_:=hp 8;rw [e8] at hK⊢;go_simp
     refine hK.out _ _ (aA.refl _ _) ?_;exact rfl
    case' r2_10=>
     have e6:us 42=_:=hp 6;have e9:us 45=_:=hp 9;rw [e6,e9] at hK⊢;go_simp
     refine hK.out _ _ (aA.refl _ _) ?_;exact rfl
    case' rfn2=>
    intro us wz hkz hf;simp only [aP,Act.put,sL];have e0:us 36=_:=hf 0;have e1:us 37=_:=hf 1;obtain ⟨b2,e2,h2,q2⟩:(CapV 149 41 [.bool gd',.slice ad' nd' cd'] w4.heap.size) (us 38) wz:=hf 2;have e3:us 39=_:=hf 3;obtain ⟨g4,a4,n4,c4,e4,h4⟩:(ZV Nil (x.fmod X.d)) (us 40) wz:=hf 4;have e5:us 41=_:=hf 5;have e6:us 42=_:=hf 6;have e7:us 43=_:=hf 7;have e8:us 44=_:=hf 8;have e9:us 45=_:=hf 9;have e10:us 46=_:=hf 10;clear hf;simp only [e0,e1,e2,e3,e4,e5,e6,e7,e8,e9,e10];clear e0 e1 e2 e3 e4 e5 e6 e7 e8 e9 e10 us;refine aK 11 fun K hK=>?_;go_simp
    refine mK ?_;clear hK K;refine aK 12 fun K hK=>?_;go_simp
    refine mK ?_;clear hK K;refine aQ (by kernel_rfl) ?_ _;go_wp2_with fail
    go_ret2
    rw [H5.o.1];exact⟨congrArg (fun b=>Ending.returned (.tuple #[.bool b,.int .i64 0])) HFI.o.symm,H5.o.2.2.1.trans hkz⟩
   ·rw [k4] at c0;have HK:=jJ k4;have hsg:((x.fmod X.d).sign==0)=(x.fmod X.d==0):=by
     rw [Bool.eq_iff_iff,beq_iff_eq,beq_iff_eq];exact Int.sign_eq_zero_iff_zero
    have hfin:isR X x=(!((x.fmod X.d).sign==0)):=by
     unfold isR;rw [k4,if_neg (by decide),if_pos (by decide),hsg];simp
    clear hsg;have HFI:=jJ hfin;clear hfin;clear k4 k2;go_upto_region 12 with (fail)
    refine aX 13 [11,12] [36,37,38,39,40,41,42,43,44,45,46,4,5] [36,37,38,39,40,41,42,43,44,45,46] [Un (LitV ?v3_0),Un (LitV ?v3_1),Un (CapV 149 41 [.bool gd',.slice ad' nd' cd'] w4.heap.size),Un (LitV ?v3_3),Un (ZV Nil (x.fmod X.d)),Un (LitV (.int .i64 (x.fmod X.d).sign)),Un (LitV ?v3_6),Un (LitV ?v3_7),Un (LitV ?v3_8),Un (LitV ?v3_9),Un (LitV ?v3_10),nothing,nothing] (aB.sk (aB.sk (aB.nx ?r3_10 (aB.nx ?r3_9 (aB.nx ?r3_8 (aB.nx ?r3_7 (aB.nx ?r3_6 (aB.nx ?r3_5 (aB.nx ?r3_4 (aB.nx ?r3_3 (aB.nx ?r3_2 (aB.nx ?r3_1 (aB.nx ?r3_0 aB.zero))))))))))))) ?rfn3
    case' r3_0|r3_1|r3_2|r3_3|r3_4|r3_5|r3_6|r3_7|r3_8|r3_9|r3_10=>
     intro us wj hk hp K hK;try simp only [aP,Act.put,sL] at hK⊢
     obtain ⟨f0,f1,f2,f3,f4,f5⟩:=(H4.o.2.1.keep hk id).cells6;rw [HK.o] at f0;obtain ⟨d0,d1,-,-⟩:=(H4.o.1.keep hk id).two
    case' r3_0|r3_3|r3_7=>
     go_simp
     refine hK.out _ _ (aA.refl _ _) ?_;exact rfl
    case' r3_1=>
     have e0:us 36=_:=hp 0;rw [e0] at hK⊢;go_simp
     refine hK.out _ _ (aA.refl _ _) ?_;exact rfl
    case' r3_2=>
     have e1:us 37=_:=hp 1;rw [e1] at hK⊢;go_simp
     refine (modulo_any).mono ?_;rintro e wk ⟨v,rfl,⟨b,rfl,hr,hb⟩,hk2⟩;exact hK.out _ _ hk2 (⟨b,rfl,hr,bZ1 hk.size hb⟩)
    case' r3_4=>
     obtain ⟨b2,e2,h2,q2⟩:(CapV 149 41 [.bool gd',.slice ad' nd' cd'] w4.heap.size) (us 38) wj:=hp 2;have e3:us 39=_:=hp 3;rw [e2,e3] at hK⊢;go_simp
     refine ((modulo1_any h2 (HD.o.1.keepNil hk) HD.o.2.1 HD.o.2.2.1).call Nil _ g3 a3 n3 c3 x (aA.refl _ _) (MB.nil _) (H5.o.2.1.keepNil hk) HD.o.2.2.2.1).mono ?_;rintro e wk ⟨g,a,n,c,rfl,h,hk2⟩;exact hK.out _ _ hk2 (⟨g,a,n,c,rfl,h⟩)
    case' r3_5=>
     obtain ⟨g4,a4,n4,c4,e4,h4⟩:(ZV Nil (x.fmod X.d)) (us 40) wj:=hp 4;rw [e4] at hK⊢;go_simp
     refine (sign_any (h4.zat (by have:=HD.o.r4;omega))).mono ?_;rintro e wk ⟨rfl,hk2⟩;exact hK.out _ _ hk2 (rfl)
    case' r3_6=>
     have e5:us 41=_:=hp 5;rw [e5] at hK⊢;go_simp
     refine hK.out _ _ (aA.refl _ _) ?_;exact rfl
    case' r3_8=>
     have e7:us 43=_:=hp 7;rw [e7] at hK⊢;go_simp
     refine hK.out _ _ (aA.refl _ _) ?_;exact rfl
    case' r3_9=>
     have e8:us 44=_:=hp 8;rw [e8] at hK⊢;go_simp
     refine hK.out _ _ (aA.refl _ _) ?_;exact rfl
    case' r3_10=>
     have e6:us 42=_:=hp 6;have e9:us 45=_:=hp 9;rw [e6,e9] at hK⊢;go_simp
     refine hK.out _ _ (aA.refl _ _) ?_;exact rfl
    case' rfn3=>
    intro us wz hkz hf;simp only [aP,Act.put,sL];have e0:us 36=_:=hf 0;have e1:us 37=_:=hf 1;obtain ⟨b2,e2,h2,q2⟩:(CapV 149 41 [.bool gd',.slice ad' nd' cd'] w4.heap.size) (us 38) wz:=hf 2;have e3:us 39=_:=hf 3;obtain ⟨g4,a4,n4,c4,e4,h4⟩:(ZV Nil (x.fmod X.d)) (us 40) wz:=hf 4;have e5:us 41=_:=hf 5;have e6:us 42=_:=hf 6;have e7:us 43=_:=hf 7;have e8:us 44=_:=hf 8;have e9:us 45=_:=hf 9;have e10:us 46=_:=hf 10;clear hf;simp only [e0,e1,e2,e3,e4,e5,e6,e7,e8,e9,e10];clear e0 e1 e2 e3 e4 e5 e6 e7 e8 e9 e10 us;refine aK 11 fun K hK=>?_;go_simp
    refine mK ?_;clear hK K;refine aK 12 fun K hK=>?_;go_simp
    refine mK ?_;clear hK K;refine aQ (by kernel_rfl) ?_ _;go_wp2_with fail
    go_ret2
    rw [H5.o.1];exact⟨congrArg (fun b=>Ending.returned (.tuple #[.bool b,.int .i64 0])) HFI.o.symm,H5.o.2.2.1.trans hkz⟩
  ·have k2':(X.kind==2)=false:=by simp [k2]
   have k3':(X.kind==3)=false:=by simp;omega
   have k4':(X.kind==4)=false:=by simp;omega
   go_wp2_with fail
   go_ret2
   rw [H5.o.1];unfold isR;rw [if_neg k2,if_neg k34];exact⟨rfl,H5.o.2.2.1⟩
theorem holdsR_err {vals:aM} {X:cI} (h:(holdsR vals X).2≠0):(holdsR vals X).1=false:=by
 unfold holdsR at h⊢;split at h
 ·rename_i h0;rw [if_pos h0];split at h
  ·rfl
  ·exact absurd rfl h
 ·rename_i h0;rw [if_neg h0]
def kidsT (f:Int→Option Bool) (kind:Int):List Int→Bool→Option Bool
 | [],out=>some out
 | k::l,out=>match f k with
  | none=>none
  | some b=>kidsT f kind l (if kind=5 then out&&b else out||b)
theorem kidsT_snoc (f:Int→Option Bool) (kind:Int):∀(l:List Int) (k:Int) (out:Bool),kidsT f kind (l++[k]) out=(kidsT f kind l out).bind fun t=>(f k).map fun b=>if kind=5 then t&&b else t||b
 | [],k,out=>by
  simp only [gZ3,kidsT,Option.bind_some];cases f k<;>rfl
 | x::l,k,out=>by
  simp only [fZ3,kidsT];cases f x with
  | none=>rfl
  | some b=>exact kidsT_snoc f kind l k _
theorem kidsT_none {f:Int→Option Bool} {kind:Int} {l:List Int} {out:Bool} (h:kidsT f kind l out=none) (m:List Int):kidsT f kind (l++m) out=none:=by
 induction l generalizing out with
 | nil=>simp [kidsT] at h
 | cons q l ih=>
  simp only [fZ3,kidsT] at h⊢;cases hv:f q with
  | none=>rfl
  | some x=>rw [hv] at h;exact ih h
theorem kidsT_congr {f g:Int→Option Bool} {kind:Int}:∀{l:List Int} {out:Bool},(∀k∈l,f k=g k)→kidsT f kind l out=kidsT g kind l out
 | [],_,_=>rfl
 | x::l,out,h=>by
  simp only [kidsT];rw [h x (kZ1 ..)];cases g x with
  | none=>rfl
  | some b=>exact kidsT_congr fun k hk=>h k (lZ1 _ hk)
def truthN (vals:aM) (L:List aT):Nat→Int→Option Bool
 | 0,_=>none
 | f+1,x=>
  if (L.getD x.toNat aV).kind=7∨(L.getD x.toNat aV).kind=8 then none
  else if (L.getD x.toNat aV).kind=5∨(L.getD x.toNat aV).kind=6 then kidsT (truthN vals L f) (L.getD x.toNat aV).kind (L.getD x.toNat aV).kids (decide ((L.getD x.toNat aV).kind=5))
  else if (holdsR vals ⟨(L.getD x.toNat aV).kind,(L.getD x.toNat aV).d,(L.getD x.toNat aV).t⟩).2=0 then some (holdsR vals ⟨(L.getD x.toNat aV).kind,(L.getD x.toNat aV).d,(L.getD x.toNat aV).t⟩).1 else none
theorem truthN_fuel {vals:aM} {L:List aT} (hB:Below L):∀(f g:Nat) (x:Int),0≤x→x<(L.length:Int)→x.toNat<f→x.toNat<g→truthN vals L f x=truthN vals L g x
 | 0,_,_,_,_,h,_=>by omega
 | _,0,_,_,_,_,h=>by omega
 | f+1,g+1,x,h0,h1,hf,hg=>by
  simp only [truthN];split
  ·rfl
  split
  ·refine kidsT_congr fun k hk=>?_;have:=hB.kid h0 h1 hk;exact truthN_fuel hB f g k this.1 (by omega) (by omega) (by omega)
  ·rfl
structure TruthOk (N:aT):Prop where
 wee:Wee (bE N.t)
 d:nlen N.d.natAbs≤536870912
 hold:HoldOk (bT ⟨N.kind,N.d,N.t⟩).2
def TruthRet (o:Option Bool) (w:World) (e:Ending) (w':World):Prop:=e=.returned (.tuple #[.bool (o.getD false),.bool o.isSome])∧aA Nil w w'
theorem ltruth_any {O M3 M4:Nat→Prop} {g gm:Nat} {A:aF} {vals:aM} {av:Option Addr} {nv cv:Nat} (hlen:A.nodes.length≤1000000) (hz:∀i,i<A.nodes.length→SizeN (A.nodes.getD i aV)) (hH:∀i,i<A.nodes.length→TruthOk (A.nodes.getD i aV)) (hb:Below A.nodes) (hnv:nv≤1000000000):∀(i:Nat) (w:World),cD O w g gm A→bU M3 M4 w av nv cv vals→i<A.nodes.length →
  Calls prog 13 #[.pointer (some ⟨g,0,none⟩),.int .i64 (i:Int),.slice av nv cv] w fun e w'=>TruthRet (truthN vals A.nodes (i+1) (i:Int)) w e w':=by
 intro i;induction i using Nat.strongRecOn with
 | ind i ih=>
  intro w hA hv hi;have hnode:=anode_any hA hi hlen (hz i hi);obtain ⟨N,hN⟩:∃N,N=A.nodes.getD i aV:=⟨_,rfl⟩;have hsz:=hz i hi;have hok:=hH i hi;rw [←hN] at hnode hsz hok;have hkb:∀k∈N.kids,0≤k∧k<(i:Int):=fun k hk=>hb i hi k (by rw [←hN];exact hk);have htr:truthN vals A.nodes (i+1) (i:Int)=if N.kind=7∨N.kind=8 then none else if N.kind=5∨N.kind=6 then kidsT (truthN vals A.nodes i) N.kind N.kids (decide (N.kind=5)) else if (holdsR vals ⟨N.kind,N.d,N.t⟩).2=0 then some (holdsR vals ⟨N.kind,N.d,N.t⟩).1 else none:=by
   rw [hN];rfl
  have hfu:∀m:Nat,m<i→truthN vals A.nodes (m+1) (m:Int)=truthN vals A.nodes i (m:Int):=fun m hm=>truthN_fuel hb _ _ _ (by omega) (by omega) (by omega) (by omega);obtain ⟨o,ho⟩:∃o,o=truthN vals A.nodes (i+1) (i:Int):=⟨_,rfl⟩;rw [←ho] at htr⊢;obtain ⟨kd,hkd⟩:∃kd,kd=N.kind:=⟨_,rfl⟩;rw [←hkd] at htr;have hok2:Wee (bE N.t)∧nlen N.d.natAbs≤536870912∧HoldOk (bT ⟨kd,N.d,N.t⟩).2:=by rw [hkd];exact⟨hok.wee,hok.d,hok.hold⟩
  obtain ⟨T,hT⟩:∃T,T=truthN vals A.nodes i:=⟨_,rfl⟩;rw [←hT] at htr hfu;have HA:=jJ (aI5 hA hi hnode hkb ih);have HB:=jJ (aI5 hv hsz hok2 htr hfu);have HKD:=jJ hkd;clear hA hi hnode hkb ih hv hsz hok hok2 htr hfu ho hN hkd hT hz hH hb;go_enter func13,ntmps13
  go_upto_region 2 with (go_at_call 33;refine HA.o.2.2.1.mono ?_;rintro e w1 ⟨gd,ad,nd,cd,ap,np,cp,gk,ak,nk,ck,aq,nq,cq,els,rfl,ha,ho,hq,hk1⟩;rw [←HKD.o];have H1:=jJ (aI3 ha hq hk1);clear ha ho hq hk1)
  have r7:=aC.alloc (w:=w1) (E:=68) (xs:=[.int .i64 kd,.bool gd,.slice ad nd cd,.slice ap np cp,.bool gk,.slice ak nk ck,.int .i64 N.var,.slice aq nq cq]);change aC (w1.alloc (.cells #[.int .i64 kd,.bool gd,.slice ad nd cd,.slice ap np cp,.bool gk,.slice ak nk ck,.int .i64 N.var,.slice aq nq cq] 68)) _ _ _ at r7;have k7:aA Nil w1 (w1.alloc (.cells #[.int .i64 kd,.bool gd,.slice ad nd cd,.slice ap np cp,.bool gk,.slice ak nk ck,.int .i64 N.var,.slice aq nq cq] 68)):=kOf;generalize w1.alloc (.cells #[.int .i64 kd,.bool gd,.slice ad nd cd,.slice ap np cp,.bool gk,.slice ak nk ck,.int .i64 N.var,.slice aq nq cq] 68)=w2 at *
  have hnq:N.kids.length=nq:=by
   obtain ⟨a',c',e⟩:=H1.o.2.1.isSlice;rw [aH] at e;cases e;rfl
  have hks:bP Nil w2 aq nq cq N.kids:=(nums_own (M:=Nil) H1.o.2.1 (fun _ _ h=>h) hnq).keepNil k7;have hcap:=SlOf.cap hks;have hle:=SlOf.le hks;obtain ⟨d0,d1,d2,d3,d4,d5,d6,d7⟩:=r7.cells8;have H2:=jJ (aI5 r7 (H1.o.2.2.trans k7) hks hnq k7);clear r7 k7 hks hnq;by_cases h78:kd=7∨kd=8
  ·have hno:o=none:=by rw [HB.o.2.2.2.1,if_pos h78]
   have HN:=jJ hno;clear hno;rcases h78 with rfl|rfl
   ·go_wp2_with fail
    go_ret2
    rw [HN.o];exact⟨rfl,H2.o.2.1⟩
   ·go_wp2_with fail
    go_ret2
    rw [HN.o];exact⟨rfl,H2.o.2.1⟩
  have n7:(kd==7)=false:=by simp;omega
  have n8:(kd==8)=false:=by simp;omega
  by_cases h56:¬(kd=5∨kd=6)
  ·have hno:o=if (holdsR vals ⟨kd,N.d,N.t⟩).2=0 then some (holdsR vals ⟨kd,N.d,N.t⟩).1 else none:=by rw [HB.o.2.2.2.1,if_neg h78,if_neg h56]
   have n5:(kd != 5)=true:=by simp;omega
   have n6:(kd != 6)=true:=by simp;omega
   have hpr:bU (Old w) (Old w) w2 ap np cp N.t.parts:=(cQ.raw H1.o.1.t.1 HB.o.2.1.nums).keepNil H2.o.r4;have hkr:ZAt Nil w2 gk ak nk ck N.t.k:=(H1.o.1.t.2.zat (by have:=HB.o.2.1.k;omega)).keepNil H2.o.r4;have hdr:ZAt Nil w2 gd ad nd cd N.d:=(H1.o.1.d.zat (by have:=HB.o.2.1.d;omega)).keepNil H2.o.r4;have hnp:np≤16777216:=by have h3:=SlOf.len hpr;have h4:=HB.o.2.1.parts;omega
   have hnk:nk≤1073741824:=by have h3:=H1.o.1.t.2.len;have h4:=HB.o.2.1.k;omega
   have hh:=holds_any (k:=kd) hdr hpr hkr hnp hnk HB.o.2.2.1.1 HB.o.2.2.1.2.1 (HB.o.1.keepNil H2.o.2.1) hnv HB.o.2.2.1.2.2;obtain ⟨r,hr⟩:∃r,r=holdsR vals ⟨kd,N.d,⟨N.t.parts,N.t.k⟩⟩:=⟨_,rfl⟩;rw [←hr] at hh;have hre:r.2≠0→r.1=false:=fun h=>by rw [hr] at h⊢;exact holdsR_err h
   have hno2:o=if r.2=0 then some r.1 else none:=by rw [hr];exact hno
   obtain ⟨rb,re⟩:=r;simp only at hh hre hno2;have HH:=jJ (aI3 hh hre hno2);clear hpr hkr hdr hnp hnk hh hr hre hno2 hno h78 h56;go_wp2_with (go_at_call 52;go_loud (refine HH.o.1.mono ?_;rintro e w5 ⟨rfl,hk5⟩;have H5:=jJ hk5;clear hk5))
   go_ret2
   have hfin:Ending.returned (.tuple #[.bool rb,.bool (re==0)])=Ending.returned (.tuple #[.bool (o.getD false),.bool o.isSome]):=by
    rw [HH.o.2.2];by_cases h0:re=0
    ·rw [if_pos h0,h0];rfl
    ·rw [if_neg h0,HH.o.2.1 h0,show (re==0)=false by simp [h0]];rfl
   exact⟨hfin,H2.o.2.1.trans H5.o⟩
  have h56':=Decidable.not_not.1 h56;have hno:o=kidsT T kd N.kids (decide (kd=5)):=by rw [HB.o.2.2.2.1,if_neg h78,if_pos h56']
  have HO:=jJ hno;clear hno h78 h56;rcases h56' with rfl|rfl
  ·have HO5:=jJ (show o=kidsT T 5 N.kids true from HO.o);clear HO;go_wp2_with fail
   go_loopw [12,13] (fun ov iv wr=>∃(j:Nat) (out:Bool),j≤nq∧iv=.int .i64 (j:Int)∧ov=.bool out∧kidsT T 5 (N.kids.take j) true=some out∧aA Nil w2 wr) (fun _ iv _=>nq-(intOf iv).toNat)
   case atStart=>exact⟨0,true,aZ2 _,rfl,rfl,rfl,aA.refl _ _⟩
   case round=>
    obtain ⟨j,out,hj,rfl,rfl,hkt,hkr⟩:=hrel;have rr:=H2.o.1.keep hkr id;obtain ⟨d0,d1,d2,d3,d4,d5,d6,d7⟩:=rr.cells8;have HRR:=jJ rr;clear rr;by_cases hlt:j<nq
    ·obtain ⟨b,off,rfl,ck'⟩:=aW (H2.o.2.2.1.keepNil hkr) hlt;have hjl:j<N.kids.length:=by rw [H2.o.2.2.2.1];exact hlt
     have hkj:=HA.o.2.2.2.1 (N.kids.getD j 0) (cH 0 hjl);obtain ⟨m,hm⟩:∃m:Nat,N.kids.getD j 0=(m:Int):=⟨(N.kids.getD j 0).toNat,by omega⟩;have hsn:kidsT T 5 (N.kids.take (j+1)) true=(T (m:Int)).map fun b=>if (5:Int)=5 then out&&b else out||b:=by
      rw [take_snoc_getD hjl,kidsT_snoc,hkt,hm];rfl
     have hdr:kidsT T 5 N.kids true=kidsT T 5 (N.kids.take (j+1)++N.kids.drop (j+1)) true:=by rw [aZ3]
     rw [hm] at ck' hkj;have hmi:m<i:=by omega
     have j0:(0:Int)≤(j:Int):=by omega
     have j1:(j:Int)<(nq:Int):=by omega
     have hcall:=HA.o.r4 m hmi wr (HA.o.1.keep (H2.o.2.1.trans hkr) fun _ h=>h.elim) (HB.o.1.keepNil (H2.o.2.1.trans hkr)) (by have:=HA.o.2.1;omega);rw [HB.o.r4 m hmi] at hcall;obtain ⟨t,ht⟩:∃t,t=T (m:Int):=⟨_,rfl⟩;rw [←ht] at hcall hsn;have HC:=jJ (aI4 hcall hkr hsn hdr);clear hcall hkr hkt hm hkj hmi hsn hdr ht;cases t with
     | none=>
      go_wp2_with (go_at_call 13;refine HC.o.1.mono ?_;rintro e w5 ⟨rfl,hk5⟩;have H5:=jJ hk5;clear hk5;rw [show (none:Option Bool).getD false=false from rfl,show (none:Option Bool).isSome=false from rfl])
      go_ret2
      have hno:o=none:=by
       rw [HO5.o,HC.o.2.2.2];exact kidsT_none (by rw [HC.o.2.2.1];rfl) _
      rw [hno];exact⟨rfl,H2.o.2.1.trans (HC.o.2.1.trans H5.o)⟩
     | some bb=>
      cases out<;>cases bb
      ·go_wp2_with (go_at_call 13;refine HC.o.1.mono ?_;rintro e w5 ⟨rfl,hk5⟩;have rr:=HRR.o.keep hk5 id;obtain ⟨x0,x1,x2,x3,x4,x5,x6,x7⟩:=rr.cells8;have H5:=jJ hk5;clear hk5 rr;rw [show (some false:Option Bool).getD false=false from rfl,show (some false:Option Bool).isSome=true from rfl])
       go_roundw
       case rel=>exact⟨j+1,false,by omega,by go_num,rfl,by rw [HC.o.2.2.1];rfl,HC.o.2.1.trans H5.o⟩
       case measure=>simp [intOf];omega
      ·go_wp2_with (go_at_call 13;refine HC.o.1.mono ?_;rintro e w5 ⟨rfl,hk5⟩;have rr:=HRR.o.keep hk5 id;obtain ⟨x0,x1,x2,x3,x4,x5,x6,x7⟩:=rr.cells8;have H5:=jJ hk5;clear hk5 rr;rw [show (some true:Option Bool).getD false=true from rfl,show (some true:Option Bool).isSome=true from rfl])
       go_roundw
       case rel=>exact⟨j+1,false,by omega,by go_num,rfl,by rw [HC.o.2.2.1];rfl,HC.o.2.1.trans H5.o⟩
       case measure=>simp [intOf];omega
      ·go_wp2_with (go_at_call 13;refine HC.o.1.mono ?_;rintro e w5 ⟨rfl,hk5⟩;have rr:=HRR.o.keep hk5 id;obtain ⟨x0,x1,x2,x3,x4,x5,x6,x7⟩:=rr.cells8;have H5:=jJ hk5;clear hk5 rr;rw [show (some false:Option Bool).getD false=false from rfl,show (some false:Option Bool).isSome=true from rfl])
       go_roundw
       case rel=>exact⟨j+1,false,by omega,by go_num,rfl,by rw [HC.o.2.2.1];rfl,HC.o.2.1.trans H5.o⟩
       case measure=>simp [intOf];omega
      ·go_wp2_with (go_at_call 13;refine HC.o.1.mono ?_;rintro e w5 ⟨rfl,hk5⟩;have rr:=HRR.o.keep hk5 id;obtain ⟨x0,x1,x2,x3,x4,x5,x6,x7⟩:=rr.cells8;have H5:=jJ hk5;clear hk5 rr;rw [show (some true:Option Bool).getD false=true from rfl,show (some true:Option Bool).isSome=true from rfl])
       go_roundw
       case rel=>exact⟨j+1,true,by omega,by go_num,rfl,by rw [HC.o.2.2.1];rfl,HC.o.2.1.trans H5.o⟩
       case measure=>simp [intOf];omega
    ·have hjn:j=nq:=by omega
     subst hjn;have e0:decide ((j:Int)<(j:Int))=false:=by simp
     have hno:o=some out:=by rw [HO5.o,←hkt,eZ1 (by rw [H2.o.2.2.2.1];exact bZ2 _)]
     have HC:=jJ (aI hno hkr);clear hkr hkt hno hlt;go_wp2_with fail
     go_ret2
     rw [HC.o.1];exact⟨rfl,H2.o.2.1.trans HC.o.2⟩
  ·have HO5:=jJ (show o=kidsT T 6 N.kids false from HO.o);clear HO;go_wp2_with fail
   go_loopw [12,13] (fun ov iv wr=>∃(j:Nat) (out:Bool),j≤nq∧iv=.int .i64 (j:Int)∧ov=.bool out∧kidsT T 6 (N.kids.take j) false=some out∧aA Nil w2 wr) (fun _ iv _=>nq-(intOf iv).toNat)
   case atStart=>exact⟨0,false,aZ2 _,rfl,rfl,rfl,aA.refl _ _⟩
   case round=>
    obtain ⟨j,out,hj,rfl,rfl,hkt,hkr⟩:=hrel;have rr:=H2.o.1.keep hkr id;obtain ⟨d0,d1,d2,d3,d4,d5,d6,d7⟩:=rr.cells8;have HRR:=jJ rr;clear rr;by_cases hlt:j<nq
    ·obtain ⟨b,off,rfl,ck'⟩:=aW (H2.o.2.2.1.keepNil hkr) hlt;have hjl:j<N.kids.length:=by rw [H2.o.2.2.2.1];exact hlt
     have hkj:=HA.o.2.2.2.1 (N.kids.getD j 0) (cH 0 hjl);obtain ⟨m,hm⟩:∃m:Nat,N.kids.getD j 0=(m:Int):=⟨(N.kids.getD j 0).toNat,by omega⟩;have hsn:kidsT T 6 (N.kids.take (j+1)) false=(T (m:Int)).map fun b=>if (6:Int)=5 then out&&b else out||b:=by
      rw [take_snoc_getD hjl,kidsT_snoc,hkt,hm];rfl
     have hdr:kidsT T 6 N.kids false=kidsT T 6 (N.kids.take (j+1)++N.kids.drop (j+1)) false:=by rw [aZ3]
     rw [hm] at ck' hkj;have hmi:m<i:=by omega
     have j0:(0:Int)≤(j:Int):=by omega
     have j1:(j:Int)<(nq:Int):=by omega
     have hcall:=HA.o.r4 m hmi wr (HA.o.1.keep (H2.o.2.1.trans hkr) fun _ h=>h.elim) (HB.o.1.keepNil (H2.o.2.1.trans hkr)) (by have:=HA.o.2.1;omega);rw [HB.o.r4 m hmi] at hcall;obtain ⟨t,ht⟩:∃t,t=T (m:Int):=⟨_,rfl⟩;rw [←ht] at hcall hsn;have HC:=jJ (aI4 hcall hkr hsn hdr);clear hcall hkr hkt hm hkj hmi hsn hdr ht;cases t with
     | none=>
      go_wp2_with (go_at_call 13;refine HC.o.1.mono ?_;rintro e w5 ⟨rfl,hk5⟩;have H5:=jJ hk5;clear hk5;rw [show (none:Option Bool).getD false=false from rfl,show (none:Option Bool).isSome=false from rfl])
      go_ret2
      have hno:o=none:=by
       rw [HO5.o,HC.o.2.2.2];exact kidsT_none (by rw [HC.o.2.2.1];rfl) _
      rw [hno];exact⟨rfl,H2.o.2.1.trans (HC.o.2.1.trans H5.o)⟩
     | some bb=>
      cases out<;>cases bb
      ·go_wp2_with (go_at_call 13;refine HC.o.1.mono ?_;rintro e w5 ⟨rfl,hk5⟩;have rr:=HRR.o.keep hk5 id;obtain ⟨x0,x1,x2,x3,x4,x5,x6,x7⟩:=rr.cells8;have H5:=jJ hk5;clear hk5 rr;rw [show (some false:Option Bool).getD false=false from rfl,show (some false:Option Bool).isSome=true from rfl])
       go_roundw
       case rel=>exact⟨j+1,false,by omega,by go_num,rfl,by rw [HC.o.2.2.1];rfl,HC.o.2.1.trans H5.o⟩
       case measure=>simp [intOf];omega
      ·go_wp2_with (go_at_call 13;refine HC.o.1.mono ?_;rintro e w5 ⟨rfl,hk5⟩;have rr:=HRR.o.keep hk5 id;obtain ⟨x0,x1,x2,x3,x4,x5,x6,x7⟩:=rr.cells8;have H5:=jJ hk5;clear hk5 rr;rw [show (some true:Option Bool).getD false=true from rfl,show (some true:Option Bool).isSome=true from rfl])
       go_roundw
       case rel=>exact⟨j+1,true,by omega,by go_num,rfl,by rw [HC.o.2.2.1];rfl,HC.o.2.1.trans H5.o⟩
       case measure=>simp [intOf];omega
      ·go_wp2_with (go_at_call 13;refine HC.o.1.mono ?_;rintro e w5 ⟨rfl,hk5⟩;have rr:=HRR.o.keep hk5 id;obtain ⟨x0,x1,x2,x3,x4,x5,x6,x7⟩:=rr.cells8;have H5:=jJ hk5;clear hk5 rr;rw [show (some false:Option Bool).getD false=false from rfl,show (some false:Option Bool).isSome=true from rfl])
       go_roundw
       case rel=>exact⟨j+1,true,by omega,by go_num,rfl,by rw [HC.o.2.2.1];rfl,HC.o.2.1.trans H5.o⟩
       case measure=>simp [intOf];omega
      ·go_wp2_with (go_at_call 13;refine HC.o.1.mono ?_;rintro e w5 ⟨rfl,hk5⟩;have rr:=HRR.o.keep hk5 id;obtain ⟨x0,x1,x2,x3,x4,x5,x6,x7⟩:=rr.cells8;have H5:=jJ hk5;clear hk5 rr;rw [show (some true:Option Bool).getD false=true from rfl,show (some true:Option Bool).isSome=true from rfl])
       go_roundw
       case rel=>exact⟨j+1,true,by omega,by go_num,rfl,by rw [HC.o.2.2.1];rfl,HC.o.2.1.trans H5.o⟩
       case measure=>simp [intOf];omega
    ·have hjn:j=nq:=by omega
     subst hjn;have e0:decide ((j:Int)<(j:Int))=false:=by simp
     have hno:o=some out:=by rw [HO5.o,←hkt,eZ1 (by rw [H2.o.2.2.2.1];exact bZ2 _)]
     have HC:=jJ (aI hno hkr);clear hkr hkt hno hlt;go_wp2_with fail
     go_ret2
     rw [HC.o.1];exact⟨rfl,H2.o.2.1.trans HC.o.2⟩
end Go.Proofs.Q
