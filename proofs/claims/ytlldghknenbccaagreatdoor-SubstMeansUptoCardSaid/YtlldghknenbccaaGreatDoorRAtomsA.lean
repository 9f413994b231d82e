/- Plain atoms: comparisons and divisibilities, each in one form. -/
import Derived.Test.YtlldghknenbccaaGreatDoorRTermsB
import Derived.Test.YtlldghknenbccaaGreatDoorRGcds
set_option linter.unusedSimpArgs false
set_option linter.unusedVariables false
set_option maxRecDepth 100000
set_option maxHeartbeats 4000000
namespace Go.Proofs.Q
open Go.RowKit Tryz
structure aY where
 kind:Int
 d:Int
 t:aV
def bK:aV:=⟨[],0⟩
def eA (b:Bool):aY:=⟨if b then 1 else 0,0,bK⟩
def fG (f:Int→Int) (l:aM):aM:=l.map fun p=>(p.1,f p.2)
def jO (T:aV) (c k:Int→Int):aV:=bC ⟨fG c T.parts,k T.k⟩
def cH (T:aV):List Int:=T.parts.map (·.2)
def iG (T:aV):aY:=
 if T.parts=[] then eA (decide (T.k > 0)) else ⟨2,0,jO T (fun c=>c.fdiv (fH (cH T):Int)) fun k=>(k-1).fdiv (fH (cH T):Int)+1⟩
def dU (d:Int) (T:aV):aV:=jO T (fun c=>c.fmod d) fun k=>k.fmod d
def gB (d:Int) (T:aV):Nat:=fH (cH (dU d T)++[d])
def dE (d:Int) (T:aV):aV:=jO (dU d T) (fun c=>c.fdiv (gB d T:Int)) fun k=>k.fdiv (gB d T:Int)
def eC (d:Int) (T:aV):Int:=d.fdiv (gB d T:Int)
def iJ (d:Int) (T:aV):aV:=dU (eC d T) (gU (-1) (dE d T) 0 bK)
def cC (d:Int) (T:aV) (no:Bool):aY:=
 if (dU d T).parts=[] then eA ((decide ((dU d T).k=0)) != no)
 else if (dU d T).k.fmod (gB d T:Int)≠0 then eA no
 else if eC d T=1 then eA (!no)
 else ⟨if no then 4 else 3,eC d T,if kE (iJ d T) (dE d T)<0 then iJ d T else dE d T⟩
def ME (A:aY):Int ⊕ aY:=
 if A.kind=0∨A.kind=1 then .inr ⟨A.kind,0,bK⟩
 else if A.kind=2 then .inr (iG (bC A.t))
 else if A.kind=3∨A.kind=4 then (if A.d=0 then .inl 11 else .inr (cC (A.d.natAbs:Int) (bC A.t) (decide (A.kind=4))))
 else .inl 1
section
variable {w:World} {E:TypeId} {g L fn b:Nat} {f:Int→Int} {P:Program} {xs:List Value} {M:Nat→Prop}
structure Clo (P:Program) (w:World) (fn b:Nat) (f:Int→Int) (L:Nat):Prop where
 enters:∀args w,(callFunc fn args).run P w=.ok (.enter fn args) w
 call:∀(M:Nat→Prop) (W:World) (g:Bool) (a:Option Addr) (n c:Nat) (z:Int),aA Nil w W→MB M W→ZAt Nil W g a n c z→n≤L→Calls P fn #[.agg #[.bool g,.slice a n c],.pointer (some ⟨b,0,none⟩)] W fun e w'=>nI M W (f z) e w'
theorem Clo.mono {L':Nat} (h:Clo P w fn b f L) (hl:L'≤L):Clo P w fn b f L':=⟨h.enters,fun M W g a n c z q1 q2 q3 q4=>h.call M W g a n c z q1 q2 q3 (bZ1 q4 hl)⟩
theorem Clo.eO {w':World} (h:Clo P w fn b f L) (k:aA Nil w w'):Clo P w' fn b f L:=⟨h.enters,fun M W g a n c z q=>h.call M W g a n c z (k.trans q)⟩
def bCV (P:Program) (f:Int→Int) (L:Nat):Value→World→Prop:=fun v w=>∃fn b,v=.func (.func fn) #[] #[.pointer (some ⟨b,0,none⟩)]∧Clo P w fn b f L
instance {P:Program} {f:Int→Int} {L:Nat}:Stable (bCV P f L):=⟨fun _ _ _ k ⟨fn,b,e,h⟩=>⟨fn,b,e,h.eO k⟩⟩
def oD (fn:Nat) (E:TypeId) (xs:List Value) (B:Nat):Value→World→Prop:=fun v w=>∃b,v=.func (.func fn) #[] #[.pointer (some ⟨b,0,none⟩)]∧aF w b E xs∧B≤b
instance {fn:Nat} {E:TypeId} {xs:List Value} {B:Nat}:Stable (oD fn E xs B):=⟨fun _ _ _ k ⟨b,e,h,q⟩=>⟨b,e,h.keep k id,q⟩⟩
def jA (M:Nat→Prop) (w:World) (gd:Bool) (ad:Option Addr) (nd cd:Nat) (ap:Option Addr) (np cp:Nat) (gk:Bool) (ak:Option Addr) (nk ck:Nat) (A:aY):Prop:=ZN M w gd ad nd cd A.d∧eI M w ap np cp gk ak nk ck A.t
def AV (M:Nat→Prop) (A:aY):Value→World→Prop:=fun v w=>∃gd ad nd cd ap np cp gk ak nk ck,v=.agg #[.int .i64 A.kind,.bool gd,.slice ad nd cd,.slice ap np cp,.bool gk,.slice ak nk ck]∧jA M w gd ad nd cd ap np cp gk ak nk ck A
theorem jA.eO {M:Nat→Prop} {w w':World} {gd gk:Bool} {ad ap ak:Option Addr} {nd cd np cp nk ck:Nat} {A:aY} (h:jA M w gd ad nd cd ap np cp gk ak nk ck A) (k:aA Nil w w'):jA M w' gd ad nd cd ap np cp gk ak nk ck A:=⟨h.1.eO k,h.2.eO k⟩
instance {M:Nat→Prop} {A:aY}:Stable (AV M A):=⟨fun _ _ _ k ⟨gd,ad,nd,cd,ap,np,cp,gk,ak,nk,ck,e,h⟩=>⟨gd,ad,nd,cd,ap,np,cp,gk,ak,nk,ck,e,h.eO k⟩⟩
theorem eI.zero:eI M w none 0 0 false none 0 0 bK:=⟨eU.nil,nR _ _⟩
theorem aA.six (a b c d e f:Value):aA (One g) w ((((((w.setCell ⟨g,0,none⟩ a).setCell ⟨g,1,none⟩ b).setCell ⟨g,2,none⟩ c).setCell ⟨g,3,none⟩ d).setCell ⟨g,4,none⟩ e).setCell ⟨g,5,none⟩ f):=((((((aA.refl (One g) w).set1 0 a).set1 1 b).set1 2 c).set1 3 d).set1 4 e).set1 5 f
theorem aF.six {a b c d e f:Value} (h:aF w g E [a,b,c,d,e,f]) (a' b' c' d' e' f':Value):aF ((((((w.setCell ⟨g,0,none⟩ a').setCell ⟨g,1,none⟩ b').setCell ⟨g,2,none⟩ c').setCell ⟨g,3,none⟩ d').setCell ⟨g,4,none⟩ e').setCell ⟨g,5,none⟩ f') g E [a',b',c',d',e',f']:=(((((h.set 0 a').set 1 b').set 2 c').set 3 d').set 4 e').set 5 f'
theorem aF.eZ {a b c d e f:Value} (h:aF w g E [a,b,c,d,e,f]):w.cell? ⟨g,0,none⟩=some a∧w.cell? ⟨g,1,none⟩=some b∧w.cell? ⟨g,2,none⟩=some c∧w.cell? ⟨g,3,none⟩=some d∧w.cell? ⟨g,4,none⟩=some e∧w.cell? ⟨g,5,none⟩=some f:=⟨h.cell 0,h.cell 1,h.cell 2,h.cell 3,h.cell 4,h.cell 5⟩
theorem aF.iY (h:aF w g E xs):w.frozen? ⟨g,0,none⟩=false∧w.frozen? ⟨g,1,none⟩=false∧w.frozen? ⟨g,2,none⟩=false∧w.frozen? ⟨g,3,none⟩=false∧w.frozen? ⟨g,4,none⟩=false∧w.frozen? ⟨g,5,none⟩=false:=⟨h.frozen 0,h.frozen 1,h.frozen 2,h.frozen 3,h.frozen 4,h.frozen 5⟩
theorem jA.out {M:Nat→Prop} {w0 w w':World} {g:Nat} {gd gk:Bool} {ad ap ak:Option Addr} {nd cd np cp nk ck:Nat} {A:aY} (h:jA (Old w0) w gd ad nd cd ap np cp gk ak nk ck A) (hg:g<w0.heap.size) (hM:∀b,M b→b<w0.heap.size) (k:aA (One g) w w'):jA M w' gd ad nd cd ap np cp gk ak nk ck A:=
 ⟨h.1.move k (fun b _ (hm:b=g)=>qQ) (fun b _ hm=>hM b hm),h.2.out hg hM k⟩
theorem jA.zero {M:Nat→Prop} {w:World} {k:Int}:jA M w false none 0 0 none 0 0 false none 0 0 ⟨k,0,bK⟩:=⟨nR _ _,eI.zero⟩
end
section
variable {a:Option Addr} {w:World} {g:Bool} {n c b:Nat} {d:Int} {M:Nat→Prop}
theorem OJ (b:Bool):Calls prog 147 #[.bool b] w fun e w'=>Gives Nil (AV M (eA b)) w e w':=by
 have hk:aA Nil w (w.alloc (.cells #[.int .i64 0,.bool false,.slice none 0 0,.slice none 0 0,.bool false,.slice none 0 0] 82)):=kOf;go_enter func147,ntmps147
 cases b
 ·go_wp2_with fail
  have r:=aF.alloc (w:=w) (E:=82) (xs:=[.int .i64 0,.bool false,.slice none 0 0,.slice none 0 0,.bool false,.slice none 0 0]);exact bodyPost_ret (v:=.agg #[.int .i64 0,.bool false,.slice none 0 0,.slice none 0 0,.bool false,.slice none 0 0]) pE rfl ⟨_,rfl,⟨_,_,_,_,_,_,_,_,_,_,_,rfl,jA.zero⟩,hk⟩
 ·go_wp2_with fail
  have r:=aF.alloc (w:=w) (E:=82) (xs:=[.int .i64 1,.bool false,.slice none 0 0,.slice none 0 0,.bool false,.slice none 0 0]);exact bodyPost_ret (v:=.agg #[.int .i64 1,.bool false,.slice none 0 0,.slice none 0 0,.bool false,.slice none 0 0]) pE rfl ⟨_,rfl,⟨_,_,_,_,_,_,_,_,_,_,_,rfl,jA.zero⟩,kOf⟩
theorem KL (hr:aF w b 25 [.bool g,.slice a n c]) (hd:ZAt Nil w g a n c d) (h0:d≠0) (hn:n≤4294967296):Clo prog w 190 b (fun x=>x.fdiv d) 8589934592:=by
 refine ⟨enters_of func190 zX rfl,fun M W g2 a2 n2 c2 z hk hM hz hn2=>?_⟩;have hr':=hr.keep hk id;have HA:=jJ (aI6 (hd.eO hk) hz hn hn2 hr' h0);have HM:=jJ hM;clear hr hd h0 hn hk hz hM hn2 hr';go_enter func190,ntmps190
 go_upto_region 1 with (fail)
 obtain ⟨w0,e_1,k0,r0,r1⟩:=bx2 W 25 [.bool g2,.slice a2 n2 c2] 25 [.bool false,.slice none 0 0];rw [e_1];clear e_1;have rb:=HA.o.r4.1.keep k0 id;obtain ⟨c0,c1,-,-⟩:=r0.two;obtain ⟨d0,d1,-,-⟩:=rb.two;have H0:=jJ (aI k0 r1);have lr1:=r1.lt;clear k0 r0 r1 rb;go_wp2_with (go_at_call 56;refine (aAN (M:=Old w0) (UK (fun e=>HA.o.r5 (Int.natAbs_eq_zero.1 e))) (MB.old w0) (HA.o.2.1.eO H0.o.1) (HA.o.1.eO H0.o.1) HA.o.r5 (by have:=HA.o.2.2.2.1;omega) vB).mono ?_;rintro e w1 ⟨g3,a3,n3,c3,g4,a4,n4,c4,rfl,h3,h4,hk1⟩;have r1':=(H0.o.2.keep hk1 id).keep (M:=Nil) (w':=(w1.alloc (.cells #[.bool g3,.slice a3 n3 c3] 25)).alloc (.cells #[.bool g4,.slice a4 n4 c4] 25)) kOf id;obtain ⟨z0,z1,z2,z3⟩:=r1'.two;have H1:=jJ (aI4 h3 h4 hk1 r1');have ll:W.heap.size+1<w1.heap.size:=cZ1 lr1 hk1.size;clear h3 h4 hk1 r1')
 have kal:aA Nil w1 ((w1.alloc (.cells #[.bool g3,.slice a3 n3 c3] 25)).alloc (.cells #[.bool g4,.slice a4 n4 c4] 25)):=kOf;have r6:=H1.o.2.2.2.pair (u':=.bool g3) (v':=.slice a3 n3 c3);obtain ⟨y0,y1,-,-⟩:=r6.two;refine bodyPost_ret (v:=.agg #[.bool g3,.slice a3 n3 c3]) (by simp [results,results190,go_sem,y0,y1]) rfl ⟨_,_,_,_,rfl,?_,(((H0.o.1.trans H1.o.2.2.1).trans kal).own zZ (aA.pair _ _))⟩;exact (H1.o.1.eO kal).move (aA.pair _ _) (fun b _ (hm:b=W.heap.size+1)=>rF) (fun b _ hm=>wH)
theorem GA (hr:aF w b 25 [.bool g,.slice a n c]) (hd:ZAt Nil w g a n c d) (h0:d≠0) (hn:n≤4294967296):Clo prog w 176 b (fun x=>x.fmod d) 8589934592:=by
 refine ⟨enters_of func176 zX rfl,fun M W g2 a2 n2 c2 z hk hM hz hn2=>?_⟩;have hr':=hr.keep hk id;have HA:=jJ (aI6 (hd.eO hk) hz hn hn2 hr' h0);have HM:=jJ hM;clear hr hd h0 hn hk hz hM hn2 hr';go_enter func176,ntmps176
 go_upto_region 1 with (fail)
 obtain ⟨w0,e_2,k0,r0,r1⟩:=bx2 W 25 [.bool g2,.slice a2 n2 c2] 25 [.bool false,.slice none 0 0];rw [e_2];clear e_2;have rb:=HA.o.r4.1.keep k0 id;obtain ⟨c0,c1,-,-⟩:=r0.two;obtain ⟨d0,d1,-,-⟩:=rb.two;have H0:=jJ (aI k0 r1);have lr1:=r1.lt;clear k0 r0 r1 rb;go_wp2_with (go_at_call 56;refine (aAN (M:=Old w0) (UK (fun e=>HA.o.r5 (Int.natAbs_eq_zero.1 e))) (MB.old w0) (HA.o.2.1.eO H0.o.1) (HA.o.1.eO H0.o.1) HA.o.r5 (by have:=HA.o.2.2.2.1;omega) vB).mono ?_;rintro e w1 ⟨g3,a3,n3,c3,g4,a4,n4,c4,rfl,h3,h4,hk1⟩;have r1':=(H0.o.2.keep hk1 id).keep (M:=Nil) (w':=(w1.alloc (.cells #[.bool g3,.slice a3 n3 c3] 25)).alloc (.cells #[.bool g4,.slice a4 n4 c4] 25)) kOf id;obtain ⟨z0,z1,z2,z3⟩:=r1'.two;have H1:=jJ (aI4 h3 h4 hk1 r1');have ll:W.heap.size+1<w1.heap.size:=cZ1 lr1 hk1.size;clear h3 h4 hk1 r1')
 have kal:aA Nil w1 ((w1.alloc (.cells #[.bool g3,.slice a3 n3 c3] 25)).alloc (.cells #[.bool g4,.slice a4 n4 c4] 25)):=kOf;have r6:=H1.o.2.2.2.pair (u':=.bool g4) (v':=.slice a4 n4 c4);obtain ⟨y0,y1,-,-⟩:=r6.two;refine bodyPost_ret (v:=.agg #[.bool g4,.slice a4 n4 c4]) (by simp [results,results176,go_sem,y0,y1]) rfl ⟨_,_,_,_,rfl,?_,(((H0.o.1.trans H1.o.2.2.1).trans kal).own zZ (aA.pair _ _))⟩;exact (H1.o.2.1.eO kal).move (aA.pair _ _) (fun b _ (hm:b=W.heap.size+1)=>rF) (fun b _ hm=>wH)
theorem aID:Calls prog 146 #[.agg #[.bool g,.slice a n c]] w fun e w'=>Gives Nil (oD 190 25 [.bool g,.slice a n c] w.heap.size) w e w':=by
 have hk:aA Nil w (w.alloc (.cells #[.bool g,.slice a n c] 25)):=kOf;go_enter func146,ntmps146
 go_wp2_with fail
 go_ret
 exact⟨_,rfl,⟨_,rfl,aF.alloc (xs:=[.bool g,.slice a n c]),bZ2 _⟩,hk⟩
theorem KD:Calls prog 125 #[.agg #[.bool g,.slice a n c]] w fun e w'=>Gives Nil (oD 176 25 [.bool g,.slice a n c] w.heap.size) w e w':=by
 have hk:aA Nil w (w.alloc (.cells #[.bool g,.slice a n c] 25)):=kOf;go_enter func125,ntmps125
 go_wp2_with fail
 go_ret
 exact⟨_,rfl,⟨_,rfl,aF.alloc (xs:=[.bool g,.slice a n c]),bZ2 _⟩,hk⟩
end
theorem aA.newer {w w0 w':World} {M:Nat→Prop} (h:aA Nil w w0) (k:aA M w0 w') (hM:∀b,M b→w.heap.size≤b):aA Nil w w':=h.trans' k fun b hb=>.inr (hM b hb)
theorem aLS (f:Int→Int) {l:aM} {k:Nat} (h:k<l.length):fG f (l.take (k+1))=fG f (l.take k)++[((pth l k).1,f (pth l k).2)]:=by
 rw [List.take_succ_eq_append_getElem h,iR h];simp only [fG,cZ2,dZ2,List.map_nil]
theorem cV.raw {M1 M2:Nat→Prop} {w:World} {a:Option Addr} {n c:Nat} {l:aM} (h:eU M1 w 3 (dZ M2 w) (0,0) a n c l) (hl:∀p∈l,eP p.2.natAbs≤1073741824):bI M1 M2 w a n c l:=by
 obtain ⟨hlen,f,hs,hr⟩:=h;refine ⟨hlen,f,hs,fun i hi=>⟨(hr i hi).1,?_⟩⟩;obtain ⟨g,a',n',c',e,hz,h1,h2⟩:=(hr i hi).2;have hm:=hl (l.getD i (0,0)) (by simp [List.getD,show i<l.length by omega]);have hn:=hz.len;exact⟨g,a',n',c',e,hz.at' zZ,zZ,h1,h2⟩
section
variable {ap ak:Option Addr} {gk:Bool} {w:World} {M1 M2 M:Nat→Prop} {l:aM} {np cp nk ck:Nat} {T:aV}
theorem WW:(prog.info? 25).map (fun i=>(i.zero,i.size,i.bytes))=some (some (.agg #[.bool false,.slice none 0 0]),2,32):=zX
theorem aHI {wb:World} (hb:aA Nil wb w) (h:cV M1 M2 wb ap np cp l) (hn:np≤16777216) :
  Calls prog 145 #[.agg #[.slice ap np cp,.bool gk,.slice ak nk ck]] w fun e w'=>Gives Nil (LQ (RZ Nil wb) 0 25 2 w.heap.size np (l.map (·.2))) w e w':=by
 obtain ⟨i1,hi1⟩:=info_parts WW;have HI:=jJ hi1;have hlen:=eU.len h;have hcap:=eU.cap h;have hle:=eU.le h;have HA:=jJ (aI h hlen);have HB:=jJ hb;clear h hlen hi1 hb;go_enter func145,ntmps145
 go_upto_region 1 with (fail)
 have r0:=aF.alloc (w:=w) (E:=27) (xs:=[.slice ap np cp,.bool gk,.slice ak nk ck]);change aF (w.alloc (.cells #[.slice ap np cp,.bool gk,.slice ak nk ck] 27)) _ _ _ at r0;have k0:aA Nil w (w.alloc (.cells #[.slice ap np cp,.bool gk,.slice ak nk ck] 27)):=kOf;generalize w.alloc (.cells #[.slice ap np cp,.bool gk,.slice ak nk ck] 27)=w0 at *
 obtain ⟨d0,d1,d2⟩:=r0.three;have H0:=jJ k0;clear k0 r0;go_wp2_with fail
 go_loopw [3,9] (fun v iv wr=>∃(k:Nat) (va:Option Addr) (vc:Nat) (els:List (List Value)),k≤np∧iv=.int .i64 (k:Int)∧v=.slice va k vc∧els.length=k∧aL wr w.heap.size 25 2 (.slice va k vc) els∧(∀i,i<k→RZ Nil wb (els.getD i []) ((l.map (·.2)).getD i 0))∧aA Nil w wr∧(k=0→va=none)) (fun _ iv _=>np-(intOf iv).toNat)
 case atStart=>exact⟨0,none,0,[],aZ2 _,rfl,rfl,rfl,aL.nil _ _ _ _,(fun i hi=>zZ),H0.o,fun _=>rfl⟩
 case round=>
  obtain ⟨k,va,vc,els,hk,rfl,rfl,hel,hown,hr,hkr,hz0⟩:=hrel;by_cases hlt:k<np
  ·have j0:(0:Int)≤(k:Int):=zZ;have j1:(k:Int)<(np:Int):=zZ;obtain ⟨b,off,g,a',n',c',hae,hb,-,x0,x1,x2,hzz,i1',i2'⟩:=(HA.o.1.eO (HB.o.trans hkr)).at hlt;obtain ⟨b',off',g',a'',n'',c'',hae',hb',-,x0',x1',x2',hzz',-,-⟩:=HA.o.1.at hlt;rw [hae] at hae';simp only [Option.some.injEq,Addr.mk.injEq,and_true] at hae';obtain ⟨rfl,rfl⟩:=hae';have e1:=((HB.o.trans hkr).eY hb' id x1').symm.trans x1;have e2:=((HB.o.trans hkr).eY hb' id x2').symm.trans x2;simp only [Option.some.injEq,Value.bool.injEq,Value.slice.injEq] at e1 e2;obtain ⟨rfl,rfl,rfl⟩:=e2;subst e1;subst hae;have hget:(l.map (·.2)).getD k 0=(pth l k).2:=by
    have:k<l.length:=by have:=HA.o.2;omega
    simp [List.getD,pth,this]
   have hws:w.heap.size≤wr.heap.size:=hkr.size;have HC:=jJ (aI6 hel hown hr hkr hzz'.gK hget);clear hel hown hr hkr hz0 hzz hzz' hget x0' x1' x2';generalize (pth l k).1=v at *
   go_wp2_with (at_builtin;refine bY _ rfl (.tmp 13) (.tmp 16) 109 rfl w.heap.size 25 i1 (.agg #[.bool false,.slice none 0 0]) 2 32 underlying109 HI.o.1 HI.o.2.1 HI.o.2.2.1 HI.o.2.2.2 rfl zY (.slice va k vc) els rfl ((HC.o.2.1.eO (w':=wr.alloc (.cells #[.int .i64 v,.bool g',.slice a'' n'' c''] 96)) kOf).eO kOf) ⟨wr.heap.size+1,0,none⟩ 1 1 [[.bool g',.slice a'' n'' c'']] rfl rfl zW (TQ _ _ _ _) yO sH sH zV ?_;intro v' w2 ho hk2 hf2 _;obtain ⟨a7,c7,rfl⟩:=ho.isSlice;have e7:(els++[[Value.bool g',.slice a'' n'' c'']]).length=k+1:=pD;rw [e7] at ho⊢;have HO:=jJ (aI ho hk2);clear ho hk2 hf2 e7)
   go_roundw
   case rel=>
    refine ⟨k+1,a7,c7,_,zZ,zF,rfl,pD,HO.o.1,fun i hi=>?_,((HC.o.2.2.2.1.trans (c:=wr.alloc (.cells #[.int .i64 v,.bool g',.slice a'' n'' c''] 96)) kOf).trans kOf).newer HO.o.2 (fun b hb=>(HC.o.2.1.lt b hb).1),fun h=>zZ⟩;rcases Nat.lt_or_ge i k with hik|hik
    ·exact sX
    ·obtain rfl:i=k:=zZ;have e8:(els++[[Value.bool g',.slice a'' n'' c'']]).getD els.length []=[.bool g',.slice a'' n'' c'']:=DF _ _ _;rw [HC.o.1] at e8;rw [e8,HC.o.r5];exact⟨_,_,_,_,rfl,HC.o.r4.1⟩
   case measure=>exact zI
  ·have ekn:np=k:=zZ;subst ekn;have HC:=jJ (aI5 hel hown hr hkr hz0);clear hel hown hr hkr hz0;go_wp2_with fail
   go_ret
   exact⟨_,rfl,⟨va,vc,els,rfl,HC.o.2.1,HC.o.1,HC.o.2.2.1,HC.o.r4⟩,HC.o.2.2.2.1⟩
theorem aVO (h:cV M1 M2 w ap np cp l) (hn:np≤16777216) :
  Calls prog 145 #[.agg #[.slice ap np cp,.bool gk,.slice ak nk ck]] w fun e w'=>Gives Nil (nH (RZ Nil w) 0 25 2 w.heap.size np (l.map (·.2))) w e w':=(aHI (aA.refl _ _) h hn).mono fun e w' ⟨v,e1,⟨va,vc,els,q1,q2,q3,q4,_⟩,k⟩=>⟨v,e1,⟨va,vc,els,q1,q2,q3,q4⟩,k⟩
theorem NM {fc bc fk bk:Nat} {c f:Int→Int} (hM:MB M w) (h:eI Nil w ap np cp gk ak nk ck T) (hc:Clo prog w fc bc c 4294967296) (hk:Clo prog w fk bk f 4294967296) (hn:np≤16777216) (hp:∀p∈T.parts,eP p.2.natAbs≤1073741824∧eP (c p.2).natAbs≤1073741824) (hz:eP T.k.natAbs≤1073741824∧eP (f T.k).natAbs≤1073741824) :
  Calls prog 143 #[.agg #[.slice ap np cp,.bool gk,.slice ak nk ck],.func (.func fc) #[] #[.pointer (some ⟨bc,0,none⟩)],.func (.func fk) #[] #[.pointer (some ⟨bk,0,none⟩)]] w fun e w'=>Gives Nil (TV M (jO T c f)) w e w':=by
 obtain ⟨i1,hi1⟩:=info_parts VB;have HI:=jJ hi1;have hlen:=eU.len h.1;have hcap:=eU.cap h.1;have hle:=eU.le h.1;have hegc:=hc.enters;have hegk:=hk.enters;have HA:=jJ (aI6 h hc hk hp hz hlen);have HM:=jJ hM;clear h hc hk hp hz hlen hM hi1;go_enter func143,ntmps143
 go_upto_region 1 with (fail)
 obtain ⟨w0,e_1,k0,r0,r1⟩:=bx2 w 27 [.slice ap np cp,.bool gk,.slice ak nk ck] 27 [.slice none 0 0,.bool false,.slice none 0 0];rw [e_1];clear e_1;obtain ⟨d0,d1,d2⟩:=r0.three;have lr1:=r1.lt;have H0:=jJ (aI3 k0 r0 r1);clear k0 r0 r1;go_upto_region 2 with (refine (HA.o.2.2.1.call (Old w0) _ gk ak nk ck T.k H0.o.1 (MB.old w0) ((HA.o.1.2.zat (by have:=HA.o.r4.1.1;omega)).eO H0.o.1) (by have h1:=HA.o.r4.1.1;have h2:=HA.o.1.2.len;omega)).mono ?_;rintro e w1 ⟨g1,a1,n1,m1,rfl,h1,hk1⟩;have H1:=jJ (aI h1 hk1);clear h1 hk1)
 have rt:=aF.alloc (w:=w1) (E:=27) (xs:=[.slice none 0 0,.bool g1,.slice a1 n1 m1]);change aF (w1.alloc (.cells #[.slice none 0 0,.bool g1,.slice a1 n1 m1] 27)) _ _ _ at rt;have k2:aA Nil w1 (w1.alloc (.cells #[.slice none 0 0,.bool g1,.slice a1 n1 m1] 27)):=kOf;generalize w1.alloc (.cells #[.slice none 0 0,.bool g1,.slice a1 n1 m1] 27)=w2 at *
 have lt2:=rt.lt;obtain ⟨e0,e1,e2⟩:=((H0.o.2.1.keep H1.o.2 id).keep k2 id).three;have H2:=jJ (aI rt k2);clear rt k2 d0 d1 d2;go_wp2_with fail
 clear e0 e1 e2;go_loopw [18] (fun iv wr=>∃(k:Nat) (va:Option Addr) (vc:Nat) (els:List (List Value)),k≤np∧iv=.int .i64 (k:Int)∧els.length=k∧aF wr w1.heap.size 27 [.slice va k vc,.bool g1,.slice a1 n1 m1]∧Grown dZ (0,0) 96 3 (Old w2) wr w2.heap.size (.slice va k vc) els (fG c (T.parts.take k))∧w2.heap.size≤wr.heap.size∧aA Nil w1 wr) (fun iv _=>np-(intOf iv).toNat)
 case atStart=>exact⟨0,none,0,[],aZ2 _,rfl,rfl,H2.o.1,Grown.nil,bZ2 _,H2.o.2⟩
 case round=>
  obtain ⟨k,va,vc,els,hk,rfl,hel,hrow,hg,hsz,hkr⟩:=hrel;by_cases hlt:k<np
  ·have j0:(0:Int)≤(k:Int):=zZ;have j1:(k:Int)<(np:Int):=zZ;obtain ⟨b,off,g,a',n',c',hae,hb,-,x0,x1,x2,hzz,i1',i2'⟩:=(HA.o.1.1.eO (H0.o.1.trans (H1.o.2.trans hkr))).at hlt;subst hae;have hmem:=HA.o.2.2.2.1 (pth T.parts k) (by rw [iR xE];exact List.getElem_mem _);have hs:=aLS c (l:=T.parts) (k:=k) xE;obtain ⟨v,hv⟩:∃v,v=(pth T.parts k).1:=⟨_,rfl⟩;rw [←hv] at x0;have HC:=jJ (YG hel hrow hg hsz hkr hzz hmem hs hv i1' i2');clear hel hrow hg hsz hkr hzz hmem hs hv i1' i2';have hkb:aA Nil wr (wr.alloc (.cells #[.int .i64 v,.bool g,.slice a' n' c'] 96)):=kOf;have rp:=aF.alloc (w:=wr) (E:=96) (xs:=[.int .i64 v,.bool g,.slice a' n' c']);change aF (wr.alloc (.cells #[.int .i64 v,.bool g,.slice a' n' c'] 96)) _ _ _ at rp;go_upto_region 5 with (fail)
   generalize wr.alloc (.cells #[.int .i64 v,.bool g,.slice a' n' c'] 96)=wb at *
   have HD:=jJ (aI rp hkb);clear rp hkb x0 x1 x2;have hcl:=HA.o.2.1.eO (H0.o.1.trans (H1.o.2.trans (HC.o.r4.1.trans HD.o.2)));have HCL:=jJ hcl;clear hcl;refine aX 13 [10,11,12] [22,23,24,25,26,27,28,29,30,31,32,33,1045] [22,23,24,25,26,27,28,29,30,31] [Un (eT ?v2_0),Un (eT ?v2_1),Un (eT ?v2_2),Un (eT ?v2_3),Un (eT ?v2_4),Un (eT ?v2_5),Un (eT ?v2_6),Un (ZV (lI (Old w2) (.slice va k vc)) (c (pth T.parts k).2)),⟨[3,7],fun vs=>eT (lX [(vs.getD 0 undef),(vs.getD 1 undef)])⟩,⟨[8],fun vs=>IU ?b2_9 ?t2_9 (vs.getD 0 undef)⟩,nothing,nothing,nothing] (aB.sk (aB.sk (aB.sk (aB.nx ?r2_9 (aB.nx ?r2_8 (aB.nx ?r2_7 (aB.nx ?r2_6 (aB.nx ?r2_5 (aB.nx ?r2_4 (aB.nx ?r2_3 (aB.nx ?r2_2 (aB.nx ?r2_1 (aB.nx ?r2_0 aB.zero))))))))))))) ?rfn2
   case' r2_0|r2_1|r2_2|r2_3|r2_4|r2_5|r2_6|r2_7|r2_8|r2_9=>
    intro us wj hk hp K hK;try simp only [aQ,Act.put,sL] at hK⊢
    obtain ⟨d0,d1,d2⟩:=(HD.o.1.keep hk id).three;obtain ⟨e0',e1',e2'⟩:=((HC.o.2.1.keep HD.o.2 id).keep hk id).three
   case' r2_0|r2_2|r2_4|r2_5=>
    go_simp
    refine hK.out _ _ (aA.refl _ _) ?_;exact rfl
   case' r2_1=>
    have e0:us 22=_:=hp 0;rw [e0] at hK⊢;go_simp
    refine hK.out _ _ (aA.refl _ _) ?_;exact rfl
   case' r2_3=>
    have e2:us 24=_:=hp 2;rw [e2] at hK⊢;go_simp
    refine hK.out _ _ (aA.refl _ _) ?_;exact rfl
   case' r2_6=>
    have e5:us 27=_:=hp 5;rw [e5] at hK⊢;go_simp
    refine hK.out _ _ (aA.refl _ _) ?_;exact rfl
   case' r2_7=>
    have e4:us 26=_:=hp 4;have e6:us 28=_:=hp 6;rw [e4,e6] at hK⊢;go_simp
    refine (HCL.o.call (lI (Old w2) (.slice va k vc)) _ g a' n' c' (pth T.parts k).2 hk (MB.and (MB.gY (bZ1 HC.o.2.2.2.1 (HD.o.2.trans hk).size)) HC.o.2.2.1.own (HD.o.2.trans hk).size) ((HC.o.r5.1.zat (by have:=HC.o.r6.1.1;omega)).eO (HD.o.2.trans hk)) (by have h1:=HC.o.r6.1.1;have h2:=HC.o.r5.1.len;omega)).mono ?_;rintro e wk ⟨g,a,n,c,rfl,h,hk2⟩;exact hK.out _ _ hk2 (⟨g,a,n,c,rfl,h⟩)
   case' r2_8=>
    have e3:us 25=_:=hp 3;obtain ⟨g7,a7,n7,c7,e7,h7⟩:(ZV (lI (Old w2) (.slice va k vc)) (c (pth T.parts k).2)) (us 29) wj:=hp 7;rw [e3,e7] at hK⊢;go_simp
    refine hK.out _ _ ?_ ?_
    ·exact aA.refl _ _
    ·show _=lX [us 25,us 29]
     rw [e3,e7];exact rfl
   case' r2_9=>
    have e3:us 25=_:=hp 3;obtain ⟨g7,a7,n7,c7,e7,h7⟩:(ZV (lI (Old w2) (.slice va k vc)) (c (pth T.parts k).2)) (us 29) wj:=hp 7;have e8:us 30=lX [us 25,us 29]:=hp 8;simp only [e3,e7,e8,lX,cellsOf,eZ2,List.flatMap_nil,fZ2,hZ3,iZ3] at hK⊢;go_simp
    refine hK.out _ _ ?_ ?_
    ·exact uK
    ·refine ⟨wj.heap.size,rfl,?_,?_⟩
     ·show aF _ _ _ (cellsOf (us 30))
      rw [e8,e7,e3];exact aF.alloc
     ·exact hk.size
   case' rfn2=>
   intro us wz hkz hf;simp only [aQ,Act.put,sL];have e0:us 22=_:=hf 0;have e1:us 23=_:=hf 1;have e2:us 24=_:=hf 2;have e3:us 25=_:=hf 3;have e4:us 26=_:=hf 4;have e5:us 27=_:=hf 5;have e6:us 28=_:=hf 6;obtain ⟨g7,a7,n7,c7,e7,h7⟩:(ZV (lI (Old w2) (.slice va k vc)) (c (pth T.parts k).2)) (us 29) wz:=hf 7;have e8:us 30=lX [us 25,us 29]:=hf 8;rw [e3,e7] at e8;simp only [lX,cellsOf,eZ2,List.flatMap_nil,fZ2,hZ3,iZ3] at e8;obtain ⟨b9,e9,h9,q9⟩:(IU ?b2_9 ?t2_9 (us 30)) (us 31) wz:=hf 9;clear hf;simp only [e0,e1,e2,e3,e4,e5,e6,e7,e8,e9,cellsOf] at h9⊢;clear e0 e1 e2 e3 e4 e5 e6 e7 e8 e9 us;refine aK 10 fun K hK=>?_;rw [if_pos zU];refine DC wz (.tmp 23) (.tmp 31) 22 rfl w2.heap.size 96 i1 (.agg #[.int .i64 0,.bool false,.slice none 0 0]) 3 40 underlying22 HI.o.1 HI.o.2.1 HI.o.2.2.1 HI.o.2.2.2 rfl zY (.slice va k vc) els rfl (HC.o.2.2.1.own.eO (HD.o.2.trans hkz)) ⟨b9,0,none⟩ 1 1 [[.int .i64 v,.bool g7,.slice a7 n7 c7]] rfl rfl zW (EU h9) yO wV wV (bZ1 HC.o.2.2.2.1 (HD.o.2.trans hkz).size) (fun v' w9 ho hk9 hf9=>?_);obtain ⟨a8,c8,rfl⟩:=ho.isSlice;have e8:(els++[[Value.int .i64 v,.bool g7,.slice a7 n7 c7]]).length=k+1:=pD;rw [e8] at ho hf9⊢;have r9:=((HC.o.2.1.keep HD.o.2 id).keep hkz id).keep hk9 (fun hm=>by have:=(HC.o.2.2.1.own.lt _ hm).1;omega);obtain ⟨y0,y1,y2⟩:=r9.three;obtain ⟨y3,y4,y5⟩:=r9.iZ;refine mK ?_;clear hK K;refine aK 11 fun K hK=>?_;go_simp
   refine mK ?_;clear hK K;refine aK 12 fun K hK=>?_;go_simp
   refine mK ?_;clear hK K;refine aR zX ?_ _;skip
   have hg9:=Grown.snoc dZ.moves (HC.o.2.2.1.eO dZ.moves (HD.o.2.trans hkz)) (x:=(v,c (pth T.parts k).2)) ⟨g7,a7,n7,c7,rfl,h7,by rw [HC.o.r8.1];exact HC.o.r9.1,by rw [HC.o.r8.1];exact HC.o.r10⟩ ho hk9 hf9;have ks9:=(aA.refl (One w1.heap.size) w9).set1 0 (.slice a8 (k+1) c8);have hg10:=hg9.keep dZ.moves ks9 (fun b hb (hm:b=w1.heap.size)=>by have:=(ho.lt b hb).1;omega) (fun b _ (hm:b=w1.heap.size)=>rL);have kk9:aA Nil w1 w9:=(HC.o.r4.1.trans (HD.o.2.trans hkz)).newer hk9 (fun b hb=>by have:=(HC.o.2.2.1.own.lt b hb).1;omega);have hsz9:w2.heap.size≤w9.heap.size:=bZ1 HC.o.2.2.2.1 (bZ1 (HD.o.2.trans hkz).size hk9.size);have HE:=jJ (aI5 hg10 (r9.set 0 (.slice a8 (k+1) c8)) (kk9.own (bZ2 _) ks9) hsz9 e8);clear hg9 hg10 ks9 kk9 hsz9 e8 ho hk9 hf9 r9 h7 h9 hkz y0 y1 y2 y3 y4 y5;go_wp2_with fail
   go_roundw
   case rel=>exact⟨k+1,a8,c8,_,zZ,zF,HE.o.r4,HE.o.2.1,by rw [HC.o.r7.1,←HC.o.r8.1];exact HE.o.1,by have:=HE.o.2.2.2.1;simpa [World.setCell] using this,HE.o.2.2.1⟩
   case measure=>exact zI
  ·have ekn:np=k:=zZ;subst ekn;rw [eZ1 xE] at hg;obtain ⟨a5,c5,hv,hL⟩:=hg.sl dZ.moves (fun b hb=>hb);rw [hel] at hv hL;cases hv;obtain ⟨y0,y1,y2⟩:=hrow.three;have hmm:∀p∈fG c T.parts,eP p.2.natAbs≤1073741824:=fun p hp=>by
    obtain ⟨q,hq,rfl⟩:=iZ2.1 hp;exact (HA.o.2.2.2.1 q hq).2
   have hRP:=cV.raw (M1:=Old w2) hL hmm;have hZK:ZAt Nil wr g1 a1 n1 m1 (f T.k):=(H1.o.1.zat (by have:=HA.o.r4.1.2;omega)).eO hkr;have hn1:n1≤1073741824:=by have h1:=H1.o.1.len;have h2:=HA.o.r4.1.2;omega
   have HC:=jJ (aI5 hRP hZK hkr hn1 ((H0.o.2.2.keep H1.o.2 id).keep hkr id));clear hg hL hrow hkr hRP hZK hn1 hmm hel;go_wp2_with (go_at_call 83;refine (DN (M:=Old w0) (MB.gY (bZ1 H1.o.2.size HC.o.2.2.1.size)) HC.o.1 HC.o.2.1 hn HC.o.2.2.2.1).mono ?_;rintro e w5 ⟨v,rfl,⟨bp,mp,dp,gb,ab,nb,cb,rfl,ht⟩,hk5⟩;have r5:=HC.o.r4.keep hk5 id;obtain ⟨z0,z1,z2⟩:=r5.three;obtain ⟨z3,z4,z5⟩:=r5.iZ;have H5:=jJ (aI3 ht hk5 r5);clear ht hk5 r5)
   have r6:=H5.o.2.2.triple (.slice bp mp dp) (.bool gb) (.slice ab nb cb);obtain ⟨x0,x1,x2⟩:=r6.three;exact bodyPost_ret (v:=.agg #[.slice bp mp dp,.bool gb,.slice ab nb cb]) (by simp [results,results143,go_sem,x0,x1,x2]) rfl ⟨_,rfl,⟨_,_,_,_,_,_,_,rfl,H5.o.1.out lr1 (fun b hb=>yL) (aA.triple _ _ _)⟩,(H0.o.1.trans (H1.o.2.trans (HC.o.2.2.1.trans H5.o.2.1))).own zZ (aA.triple _ _ _)⟩
end
end Go.Proofs.Q
