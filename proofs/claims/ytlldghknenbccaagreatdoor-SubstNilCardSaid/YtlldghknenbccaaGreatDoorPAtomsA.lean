/- Plain atoms: comparisons and divisibilities, each in one form. -/
import Derived.Test.YtlldghknenbccaaGreatDoorPTermsB
import Derived.Test.YtlldghknenbccaaGreatDoorPGcds
set_option linter.unusedSimpArgs false
set_option linter.unusedVariables false
set_option maxRecDepth 100000
set_option maxHeartbeats 4000000
namespace Go.Proofs.Q
open Go.RowKit Tryz
structure bB where
 kind:Int
 d:Int
 t:aW
def bH:aW:=⟨[],0⟩
def eA (b:Bool):bB:=⟨if b then 1 else 0,0,bH⟩
def mapL (f:Int→Int) (l:aT):aT:=l.map fun p=>(p.1,f p.2)
def mappedV (T:aW) (c k:Int→Int):aW:=bR ⟨mapL c T.parts,k T.k⟩
def cE (T:aW):List Int:=T.parts.map (·.2)
def lessV (T:aW):bB:=
 if T.parts=[] then eA (decide (T.k > 0)) else ⟨2,0,mappedV T (fun c=>c.fdiv (gcdL (cE T):Int)) fun k=>(k-1).fdiv (gcdL (cE T):Int)+1⟩
def partT (d:Int) (T:aW):aW:=mappedV T (fun c=>c.fmod d) fun k=>k.fmod d
def partG (d:Int) (T:aW):Nat:=gcdL (cE (partT d T)++[d])
def dQ (d:Int) (T:aW):aW:=mappedV (partT d T) (fun c=>c.fdiv (partG d T:Int)) fun k=>k.fdiv (partG d T:Int)
def partD (d:Int) (T:aW):Int:=d.fdiv (partG d T:Int)
def partO (d:Int) (T:aW):aW:=partT (partD d T) (sumT (-1) (dQ d T) 0 bH)
def cH (d:Int) (T:aW) (no:Bool):bB:=
 if (partT d T).parts=[] then eA ((decide ((partT d T).k=0)) != no)
 else if (partT d T).k.fmod (partG d T:Int)≠0 then eA no
 else if partD d T=1 then eA (!no)
 else ⟨if no then 4 else 3,partD d T,if cmpT (partO d T) (dQ d T)<0 then partO d T else dQ d T⟩
def normA (A:bB):Int ⊕ bB:=
 if A.kind=0∨A.kind=1 then .inr ⟨A.kind,0,bH⟩
 else if A.kind=2 then .inr (lessV (bR A.t))
 else if A.kind=3∨A.kind=4 then (if A.d=0 then .inl 11 else .inr (cH (A.d.natAbs:Int) (bR A.t) (decide (A.kind=4))))
 else .inl 1
section
variable {w:World} {E:TypeId} {g L fn b:Nat} {f:Int→Int} {P:Program} {xs:List Value} {M:Nat→Prop}
structure Clo (P:Program) (w:World) (fn b:Nat) (f:Int→Int) (L:Nat):Prop where
 enters:∀args w,(callFunc fn args).run P w=.ok (.enter fn args) w
 call:∀(M:Nat→Prop) (W:World) (g:Bool) (a:Option Addr) (n c:Nat) (z:Int),aA Nil w W→MB M W→ZAt Nil W g a n c z→n≤L→Calls P fn #[.agg #[.bool g,.slice a n c],.pointer (some ⟨b,0,none⟩)] W fun e w'=>ZRet M W (f z) e w'
theorem Clo.mono {L':Nat} (h:Clo P w fn b f L) (hl:L'≤L):Clo P w fn b f L':=⟨h.enters,fun M W g a n c z q1 q2 q3 q4=>h.call M W g a n c z q1 q2 q3 (bZ1 q4 hl)⟩
theorem Clo.keepNil {w':World} (h:Clo P w fn b f L) (k:aA Nil w w'):Clo P w' fn b f L:=⟨h.enters,fun M W g a n c z q=>h.call M W g a n c z (k.trans q)⟩
def CloV (P:Program) (f:Int→Int) (L:Nat):Value→World→Prop:=fun v w=>∃fn b,v=.func (.func fn) #[] #[.pointer (some ⟨b,0,none⟩)]∧Clo P w fn b f L
instance {P:Program} {f:Int→Int} {L:Nat}:Stable (CloV P f L):=⟨fun _ _ _ k ⟨fn,b,e,h⟩=>⟨fn,b,e,h.keepNil k⟩⟩
def CapV (fn:Nat) (E:TypeId) (xs:List Value) (B:Nat):Value→World→Prop:=fun v w=>∃b,v=.func (.func fn) #[] #[.pointer (some ⟨b,0,none⟩)]∧aC w b E xs∧B≤b
instance {fn:Nat} {E:TypeId} {xs:List Value} {B:Nat}:Stable (CapV fn E xs B):=⟨fun _ _ _ k ⟨b,e,h,q⟩=>⟨b,e,h.keep k id,q⟩⟩
def AtomAt (M:Nat→Prop) (w:World) (gd:Bool) (ad:Option Addr) (nd cd:Nat) (ap:Option Addr) (np cp:Nat) (gk:Bool) (ak:Option Addr) (nk ck:Nat) (A:bB):Prop:=ZN M w gd ad nd cd A.d∧dZ M w ap np cp gk ak nk ck A.t
def AV (M:Nat→Prop) (A:bB):Value→World→Prop:=fun v w=>∃gd ad nd cd ap np cp gk ak nk ck,v=.agg #[.int .i64 A.kind,.bool gd,.slice ad nd cd,.slice ap np cp,.bool gk,.slice ak nk ck]∧AtomAt M w gd ad nd cd ap np cp gk ak nk ck A
theorem AtomAt.keepNil {M:Nat→Prop} {w w':World} {gd gk:Bool} {ad ap ak:Option Addr} {nd cd np cp nk ck:Nat} {A:bB} (h:AtomAt M w gd ad nd cd ap np cp gk ak nk ck A) (k:aA Nil w w'):AtomAt M w' gd ad nd cd ap np cp gk ak nk ck A:=⟨h.1.keepNil k,h.2.keepNil k⟩
instance {M:Nat→Prop} {A:bB}:Stable (AV M A):=⟨fun _ _ _ k ⟨gd,ad,nd,cd,ap,np,cp,gk,ak,nk,ck,e,h⟩=>⟨gd,ad,nd,cd,ap,np,cp,gk,ak,nk,ck,e,h.keepNil k⟩⟩
theorem dZ.zero:dZ M w none 0 0 false none 0 0 bH:=⟨SlOf.nil,zn_zero _ _⟩
theorem aA.six (a b c d e f:Value):aA (One g) w ((((((w.setCell ⟨g,0,none⟩ a).setCell ⟨g,1,none⟩ b).setCell ⟨g,2,none⟩ c).setCell ⟨g,3,none⟩ d).setCell ⟨g,4,none⟩ e).setCell ⟨g,5,none⟩ f):=((((((aA.refl (One g) w).set1 0 a).set1 1 b).set1 2 c).set1 3 d).set1 4 e).set1 5 f
theorem aC.six {a b c d e f:Value} (h:aC w g E [a,b,c,d,e,f]) (a' b' c' d' e' f':Value):aC ((((((w.setCell ⟨g,0,none⟩ a').setCell ⟨g,1,none⟩ b').setCell ⟨g,2,none⟩ c').setCell ⟨g,3,none⟩ d').setCell ⟨g,4,none⟩ e').setCell ⟨g,5,none⟩ f') g E [a',b',c',d',e',f']:=(((((h.set 0 a').set 1 b').set 2 c').set 3 d').set 4 e').set 5 f'
theorem aC.cells6 {a b c d e f:Value} (h:aC w g E [a,b,c,d,e,f]):w.cell? ⟨g,0,none⟩=some a∧w.cell? ⟨g,1,none⟩=some b∧w.cell? ⟨g,2,none⟩=some c∧w.cell? ⟨g,3,none⟩=some d∧w.cell? ⟨g,4,none⟩=some e∧w.cell? ⟨g,5,none⟩=some f:=⟨h.cell 0,h.cell 1,h.cell 2,h.cell 3,h.cell 4,h.cell 5⟩
theorem aC.marks6 (h:aC w g E xs):w.frozen? ⟨g,0,none⟩=false∧w.frozen? ⟨g,1,none⟩=false∧w.frozen? ⟨g,2,none⟩=false∧w.frozen? ⟨g,3,none⟩=false∧w.frozen? ⟨g,4,none⟩=false∧w.frozen? ⟨g,5,none⟩=false:=⟨h.frozen 0,h.frozen 1,h.frozen 2,h.frozen 3,h.frozen 4,h.frozen 5⟩
theorem AtomAt.out {M:Nat→Prop} {w0 w w':World} {g:Nat} {gd gk:Bool} {ad ap ak:Option Addr} {nd cd np cp nk ck:Nat} {A:bB} (h:AtomAt (Old w0) w gd ad nd cd ap np cp gk ak nk ck A) (hg:g<w0.heap.size) (hM:∀b,M b→b<w0.heap.size) (k:aA (One g) w w'):AtomAt M w' gd ad nd cd ap np cp gk ak nk ck A:=
 ⟨h.1.move k (fun b _ (hm:b=g)=>by rw [hm];exact hg) (fun b _ hm=>hM b hm),h.2.out hg hM k⟩
theorem AtomAt.zero {M:Nat→Prop} {w:World} {k:Int}:AtomAt M w false none 0 0 none 0 0 false none 0 0 ⟨k,0,bH⟩:=⟨zn_zero _ _,dZ.zero⟩
end
section
variable {a:Option Addr} {w:World} {g:Bool} {n c b:Nat} {d:Int} {M:Nat→Prop}
theorem truth_any (b:Bool):Calls prog 147 #[.bool b] w fun e w'=>Gives Nil (AV M (eA b)) w e w':=by
 have hk:aA Nil w (w.alloc (.cells #[.int .i64 0,.bool false,.slice none 0 0,.slice none 0 0,.bool false,.slice none 0 0] 82)):=kOf;go_enter func147,ntmps147
 cases b
 ·go_wp2_with fail
  have r:=aC.alloc (w:=w) (E:=82) (xs:=[.int .i64 0,.bool false,.slice none 0 0,.slice none 0 0,.bool false,.slice none 0 0]);exact bodyPost_ret (v:=.agg #[.int .i64 0,.bool false,.slice none 0 0,.slice none 0 0,.bool false,.slice none 0 0]) (by simp [results,results147,go_sem,r.cell]) rfl ⟨_,rfl,⟨_,_,_,_,_,_,_,_,_,_,_,rfl,AtomAt.zero⟩,hk⟩
 ·go_wp2_with fail
  have r:=aC.alloc (w:=w) (E:=82) (xs:=[.int .i64 1,.bool false,.slice none 0 0,.slice none 0 0,.bool false,.slice none 0 0]);exact bodyPost_ret (v:=.agg #[.int .i64 1,.bool false,.slice none 0 0,.slice none 0 0,.bool false,.slice none 0 0]) (by simp [results,results147,go_sem,r.cell]) rfl ⟨_,rfl,⟨_,_,_,_,_,_,_,_,_,_,_,rfl,AtomAt.zero⟩,kOf⟩
theorem over1_any (hr:aC w b 25 [.bool g,.slice a n c]) (hd:ZAt Nil w g a n c d) (h0:d≠0) (hn:n≤4294967296):Clo prog w 190 b (fun x=>x.fdiv d) 8589934592:=by
 refine ⟨enters_of func190 (by kernel_rfl) rfl,fun M W g2 a2 n2 c2 z hk hM hz hn2=>?_⟩;have hr':=hr.keep hk id;have HA:=jJ (aI6 (hd.keepNil hk) hz hn hn2 hr' h0);have HM:=jJ hM;clear hr hd h0 hn hk hz hM hn2 hr';go_enter func190,ntmps190
 go_upto_region 1 with (fail)
 obtain ⟨w0,e_1,k0,r0,r1⟩:=bx2 W 25 [.bool g2,.slice a2 n2 c2] 25 [.bool false,.slice none 0 0];rw [e_1];clear e_1;have rb:=HA.o.r4.1.keep k0 id;obtain ⟨c0,c1,-,-⟩:=r0.two;obtain ⟨d0,d1,-,-⟩:=rb.two;have H0:=jJ (aI k0 r1);have lr1:=r1.lt;clear k0 r0 r1 rb;go_wp2_with (go_at_call 56;refine (zdivmod_any (M:=Old w0) (natDiv_any (fun e=>HA.o.r5 (Int.natAbs_eq_zero.1 e))) (MB.old w0) (HA.o.2.1.keepNil H0.o.1) (HA.o.1.keepNil H0.o.1) HA.o.r5 (by have:=HA.o.2.2.2.1;omega) (by have:=HA.o.2.2.1;omega)).mono ?_;rintro e w1 ⟨g3,a3,n3,c3,g4,a4,n4,c4,rfl,h3,h4,hk1⟩;have r1':=(H0.o.2.keep hk1 id).keep (M:=Nil) (w':=(w1.alloc (.cells #[.bool g3,.slice a3 n3 c3] 25)).alloc (.cells #[.bool g4,.slice a4 n4 c4] 25)) kOf id;obtain ⟨z0,z1,z2,z3⟩:=r1'.two;have H1:=jJ (aI4 h3 h4 hk1 r1');have ll:W.heap.size+1<w1.heap.size:=cZ1 lr1 hk1.size;clear h3 h4 hk1 r1')
 have kal:aA Nil w1 ((w1.alloc (.cells #[.bool g3,.slice a3 n3 c3] 25)).alloc (.cells #[.bool g4,.slice a4 n4 c4] 25)):=kOf;have r6:=H1.o.2.2.2.pair (u':=.bool g3) (v':=.slice a3 n3 c3);obtain ⟨y0,y1,-,-⟩:=r6.two;refine bodyPost_ret (v:=.agg #[.bool g3,.slice a3 n3 c3]) (by simp [results,results190,go_sem,y0,y1]) rfl ⟨_,_,_,_,rfl,?_,(((H0.o.1.trans H1.o.2.2.1).trans kal).own (by omega) (aA.pair _ _))⟩;exact (H1.o.1.keepNil kal).move (aA.pair _ _) (fun b _ (hm:b=W.heap.size+1)=>by rw [hm];exact lr1) (fun b _ hm=>by show b<w0.heap.size;have:=HM.o b hm;omega)
theorem modulo1_any (hr:aC w b 25 [.bool g,.slice a n c]) (hd:ZAt Nil w g a n c d) (h0:d≠0) (hn:n≤4294967296):Clo prog w 176 b (fun x=>x.fmod d) 8589934592:=by
 refine ⟨enters_of func176 (by kernel_rfl) rfl,fun M W g2 a2 n2 c2 z hk hM hz hn2=>?_⟩;have hr':=hr.keep hk id;have HA:=jJ (aI6 (hd.keepNil hk) hz hn hn2 hr' h0);have HM:=jJ hM;clear hr hd h0 hn hk hz hM hn2 hr';go_enter func176,ntmps176
 go_upto_region 1 with (fail)
 obtain ⟨w0,e_2,k0,r0,r1⟩:=bx2 W 25 [.bool g2,.slice a2 n2 c2] 25 [.bool false,.slice none 0 0];rw [e_2];clear e_2;have rb:=HA.o.r4.1.keep k0 id;obtain ⟨c0,c1,-,-⟩:=r0.two;obtain ⟨d0,d1,-,-⟩:=rb.two;have H0:=jJ (aI k0 r1);have lr1:=r1.lt;clear k0 r0 r1 rb;go_wp2_with (go_at_call 56;refine (zdivmod_any (M:=Old w0) (natDiv_any (fun e=>HA.o.r5 (Int.natAbs_eq_zero.1 e))) (MB.old w0) (HA.o.2.1.keepNil H0.o.1) (HA.o.1.keepNil H0.o.1) HA.o.r5 (by have:=HA.o.2.2.2.1;omega) (by have:=HA.o.2.2.1;omega)).mono ?_;rintro e w1 ⟨g3,a3,n3,c3,g4,a4,n4,c4,rfl,h3,h4,hk1⟩;have r1':=(H0.o.2.keep hk1 id).keep (M:=Nil) (w':=(w1.alloc (.cells #[.bool g3,.slice a3 n3 c3] 25)).alloc (.cells #[.bool g4,.slice a4 n4 c4] 25)) kOf id;obtain ⟨z0,z1,z2,z3⟩:=r1'.two;have H1:=jJ (aI4 h3 h4 hk1 r1');have ll:W.heap.size+1<w1.heap.size:=cZ1 lr1 hk1.size;clear h3 h4 hk1 r1')
 have kal:aA Nil w1 ((w1.alloc (.cells #[.bool g3,.slice a3 n3 c3] 25)).alloc (.cells #[.bool g4,.slice a4 n4 c4] 25)):=kOf;have r6:=H1.o.2.2.2.pair (u':=.bool g4) (v':=.slice a4 n4 c4);obtain ⟨y0,y1,-,-⟩:=r6.two;refine bodyPost_ret (v:=.agg #[.bool g4,.slice a4 n4 c4]) (by simp [results,results176,go_sem,y0,y1]) rfl ⟨_,_,_,_,rfl,?_,(((H0.o.1.trans H1.o.2.2.1).trans kal).own (by omega) (aA.pair _ _))⟩;exact (H1.o.2.1.keepNil kal).move (aA.pair _ _) (fun b _ (hm:b=W.heap.size+1)=>by rw [hm];exact lr1) (fun b _ hm=>by show b<w0.heap.size;have:=HM.o b hm;omega)
theorem over_any:Calls prog 146 #[.agg #[.bool g,.slice a n c]] w fun e w'=>Gives Nil (CapV 190 25 [.bool g,.slice a n c] w.heap.size) w e w':=by
 have hk:aA Nil w (w.alloc (.cells #[.bool g,.slice a n c] 25)):=kOf;go_enter func146,ntmps146
 go_wp2_with fail
 go_ret
 exact⟨_,rfl,⟨_,rfl,aC.alloc (xs:=[.bool g,.slice a n c]),bZ2 _⟩,hk⟩
theorem modulo_any:Calls prog 125 #[.agg #[.bool g,.slice a n c]] w fun e w'=>Gives Nil (CapV 176 25 [.bool g,.slice a n c] w.heap.size) w e w':=by
 have hk:aA Nil w (w.alloc (.cells #[.bool g,.slice a n c] 25)):=kOf;go_enter func125,ntmps125
 go_wp2_with fail
 go_ret
 exact⟨_,rfl,⟨_,rfl,aC.alloc (xs:=[.bool g,.slice a n c]),bZ2 _⟩,hk⟩
end
theorem aA.newer {w w0 w':World} {M:Nat→Prop} (h:aA Nil w w0) (k:aA M w0 w') (hM:∀b,M b→w.heap.size≤b):aA Nil w w':=h.trans' k fun b hb=>.inr (hM b hb)
theorem mapL_take_succ (f:Int→Int) {l:aT} {k:Nat} (h:k<l.length):mapL f (l.take (k+1))=mapL f (l.take k)++[((pth l k).1,f (pth l k).2)]:=by
 rw [List.take_succ_eq_append_getElem h,pth_lt h];simp only [mapL,cZ2,dZ2,List.map_nil]
theorem cW.raw {M1 M2:Nat→Prop} {w:World} {a:Option Addr} {n c:Nat} {l:aT} (h:SlOf M1 w 3 (dN M2 w) (0,0) a n c l) (hl:∀p∈l,nlen p.2.natAbs≤1073741824):bU M1 M2 w a n c l:=by
 obtain ⟨hlen,f,hs,hr⟩:=h;refine ⟨hlen,f,hs,fun i hi=>⟨(hr i hi).1,?_⟩⟩;obtain ⟨g,a',n',c',e,hz,h1,h2⟩:=(hr i hi).2;have hm:=hl (l.getD i (0,0)) (by simp [List.getD,show i<l.length by omega]);have hn:=hz.len;exact⟨g,a',n',c',e,hz.at' (by omega),by omega,h1,h2⟩
section
variable {ap ak:Option Addr} {gk:Bool} {w:World} {M1 M2 M:Nat→Prop} {l:aT} {np cp nk ck:Nat} {T:aW}
theorem info_Int:(prog.info? 25).map (fun i=>(i.zero,i.size,i.bytes))=some (some (.agg #[.bool false,.slice none 0 0]),2,32):=by kernel_rfl
theorem coefs_at {wb:World} (hb:aA Nil wb w) (h:cW M1 M2 wb ap np cp l) (hn:np≤16777216) :
  Calls prog 145 #[.agg #[.slice ap np cp,.bool gk,.slice ak nk ck]] w fun e w'=>Gives Nil (OwnV0 (RZ Nil wb) 0 25 2 w.heap.size np (l.map (·.2))) w e w':=by
 obtain ⟨i1,hi1⟩:=info_parts info_Int;have HI:=jJ hi1;have hlen:=SlOf.len h;have hcap:=SlOf.cap h;have hle:=SlOf.le h;have HA:=jJ (aI h hlen);have HB:=jJ hb;clear h hlen hi1 hb;go_enter func145,ntmps145
 go_upto_region 1 with (fail)
 have r0:=aC.alloc (w:=w) (E:=27) (xs:=[.slice ap np cp,.bool gk,.slice ak nk ck]);change aC (w.alloc (.cells #[.slice ap np cp,.bool gk,.slice ak nk ck] 27)) _ _ _ at r0;have k0:aA Nil w (w.alloc (.cells #[.slice ap np cp,.bool gk,.slice ak nk ck] 27)):=kOf;generalize w.alloc (.cells #[.slice ap np cp,.bool gk,.slice ak nk ck] 27)=w0 at *
 obtain ⟨d0,d1,d2⟩:=r0.three;have H0:=jJ k0;clear k0 r0;go_wp2_with fail
 go_loopw [3,9] (fun v iv wr=>∃(k:Nat) (va:Option Addr) (vc:Nat) (els:List (List Value)),k≤np∧iv=.int .i64 (k:Int)∧v=.slice va k vc∧els.length=k∧aL wr w.heap.size 25 2 (.slice va k vc) els∧(∀i,i<k→RZ Nil wb (els.getD i []) ((l.map (·.2)).getD i 0))∧aA Nil w wr∧(k=0→va=none)) (fun _ iv _=>np-(intOf iv).toNat)
 case atStart=>exact⟨0,none,0,[],aZ2 _,rfl,rfl,rfl,aL.nil _ _ _ _,(fun i hi=>by omega),H0.o,fun _=>rfl⟩
 case round=>
  obtain ⟨k,va,vc,els,hk,rfl,rfl,hel,hown,hr,hkr,hz0⟩:=hrel;by_cases hlt:k<np
  ·have j0:(0:Int)≤(k:Int):=by omega
   have j1:(k:Int)<(np:Int):=by omega
   obtain ⟨b,off,g,a',n',c',hae,hb,-,x0,x1,x2,hzz,i1',i2'⟩:=(HA.o.1.keepNil (HB.o.trans hkr)).at hlt;obtain ⟨b',off',g',a'',n'',c'',hae',hb',-,x0',x1',x2',hzz',-,-⟩:=HA.o.1.at hlt;rw [hae] at hae';simp only [Option.some.injEq,Addr.mk.injEq,and_true] at hae';obtain ⟨rfl,rfl⟩:=hae';have e1:=((HB.o.trans hkr).cellE hb' id x1').symm.trans x1;have e2:=((HB.o.trans hkr).cellE hb' id x2').symm.trans x2;simp only [Option.some.injEq,Value.bool.injEq,Value.slice.injEq] at e1 e2;obtain ⟨rfl,rfl,rfl⟩:=e2;subst e1;subst hae;have hget:(l.map (·.2)).getD k 0=(pth l k).2:=by
    have:k<l.length:=by have:=HA.o.2;omega
    simp [List.getD,pth,this]
   have hws:w.heap.size≤wr.heap.size:=hkr.size;have HC:=jJ (aI6 hel hown hr hkr hzz'.toNil hget);clear hel hown hr hkr hz0 hzz hzz' hget x0' x1' x2';generalize (pth l k).1=v at *
   go_wp2_with (at_builtin;refine cC _ rfl (.tmp 13) (.tmp 16) 109 rfl w.heap.size 25 i1 (.agg #[.bool false,.slice none 0 0]) 2 32 underlying109 HI.o.1 HI.o.2.1 HI.o.2.2.1 HI.o.2.2.2 rfl (by decide) (.slice va k vc) els rfl ((HC.o.2.1.keepNil (w':=wr.alloc (.cells #[.int .i64 v,.bool g',.slice a'' n'' c''] 96)) kOf).keepNil kOf) ⟨wr.heap.size+1,0,none⟩ 1 1 [[.bool g',.slice a'' n'' c'']] rfl rfl (by simp) (alloc_news1 _ _ _ _) (by simp [Value.oneCell']) (by rw [HC.o.1];omega) (by rw [HC.o.1];omega) (by simp;omega) ?_;intro v' w2 ho hk2 hf2 _;obtain ⟨a7,c7,rfl⟩:=ho.isSlice;have e7:(els++[[Value.bool g',.slice a'' n'' c'']]).length=k+1:=(by rw [aZ1,HC.o.1];rfl);rw [e7] at ho⊢;have HO:=jJ (aI ho hk2);clear ho hk2 hf2 e7)
   go_roundw
   case rel=>
    refine ⟨k+1,a7,c7,_,by omega,by go_num,rfl,by rw [aZ1,HC.o.1];rfl,HO.o.1,fun i hi=>?_,((HC.o.2.2.2.1.trans (c:=wr.alloc (.cells #[.int .i64 v,.bool g',.slice a'' n'' c''] 96)) kOf).trans kOf).newer HO.o.2 (fun b hb=>(HC.o.2.1.lt b hb).1),fun h=>by omega⟩;rcases Nat.lt_or_ge i k with hik|hik
    ·rw [getD_snoc_lt _ _ _ (by rw [HC.o.1];exact hik)];exact HC.o.2.2.1 i hik
    ·obtain rfl:i=k:=by omega
     have e8:(els++[[Value.bool g',.slice a'' n'' c'']]).getD els.length []=[.bool g',.slice a'' n'' c'']:=getD_snoc_eq _ _ _;rw [HC.o.1] at e8;rw [e8,HC.o.r5];exact⟨_,_,_,_,rfl,HC.o.r4.1⟩
   case measure=>simp [intOf];omega
  ·have ekn:np=k:=by omega
   subst ekn;have HC:=jJ (aI5 hel hown hr hkr hz0);clear hel hown hr hkr hz0;go_wp2_with fail
   go_ret
   exact⟨_,rfl,⟨va,vc,els,rfl,HC.o.2.1,HC.o.1,HC.o.2.2.1,HC.o.r4⟩,HC.o.2.2.2.1⟩
theorem coefs_any (h:cW M1 M2 w ap np cp l) (hn:np≤16777216) :
  Calls prog 145 #[.agg #[.slice ap np cp,.bool gk,.slice ak nk ck]] w fun e w'=>Gives Nil (OwnV (RZ Nil w) 0 25 2 w.heap.size np (l.map (·.2))) w e w':=(coefs_at (aA.refl _ _) h hn).mono fun e w' ⟨v,e1,⟨va,vc,els,q1,q2,q3,q4,_⟩,k⟩=>⟨v,e1,⟨va,vc,els,q1,q2,q3,q4⟩,k⟩
theorem mapped_any {fc bc fk bk:Nat} {c f:Int→Int} (hM:MB M w) (h:dZ Nil w ap np cp gk ak nk ck T) (hc:Clo prog w fc bc c 4294967296) (hk:Clo prog w fk bk f 4294967296) (hn:np≤16777216) (hp:∀p∈T.parts,nlen p.2.natAbs≤1073741824∧nlen (c p.2).natAbs≤1073741824) (hz:nlen T.k.natAbs≤1073741824∧nlen (f T.k).natAbs≤1073741824) :
  Calls prog 143 #[.agg #[.slice ap np cp,.bool gk,.slice ak nk ck],.func (.func fc) #[] #[.pointer (some ⟨bc,0,none⟩)],.func (.func fk) #[] #[.pointer (some ⟨bk,0,none⟩)]] w fun e w'=>Gives Nil (TV M (mappedV T c f)) w e w':=by
 obtain ⟨i1,hi1⟩:=info_parts info_Part;have HI:=jJ hi1;have hlen:=SlOf.len h.1;have hcap:=SlOf.cap h.1;have hle:=SlOf.le h.1;have hegc:=hc.enters;have hegk:=hk.enters;have HA:=jJ (aI6 h hc hk hp hz hlen);have HM:=jJ hM;clear h hc hk hp hz hlen hM hi1;go_enter func143,ntmps143
 go_upto_region 1 with (fail)
 obtain ⟨w0,e_1,k0,r0,r1⟩:=bx2 w 27 [.slice ap np cp,.bool gk,.slice ak nk ck] 27 [.slice none 0 0,.bool false,.slice none 0 0];rw [e_1];clear e_1;obtain ⟨d0,d1,d2⟩:=r0.three;have lr1:=r1.lt;have H0:=jJ (aI3 k0 r0 r1);clear k0 r0 r1;go_upto_region 2 with (refine (HA.o.2.2.1.call (Old w0) _ gk ak nk ck T.k H0.o.1 (MB.old w0) ((HA.o.1.2.zat (by have:=HA.o.r4.1.1;omega)).keepNil H0.o.1) (by have h1:=HA.o.r4.1.1;have h2:=HA.o.1.2.len;omega)).mono ?_;rintro e w1 ⟨g1,a1,n1,m1,rfl,h1,hk1⟩;have H1:=jJ (aI h1 hk1);clear h1 hk1)
 have rt:=aC.alloc (w:=w1) (E:=27) (xs:=[.slice none 0 0,.bool g1,.slice a1 n1 m1]);change aC (w1.alloc (.cells #[.slice none 0 0,.bool g1,.slice a1 n1 m1] 27)) _ _ _ at rt;have k2:aA Nil w1 (w1.alloc (.cells #[.slice none 0 0,.bool g1,.slice a1 n1 m1] 27)):=kOf;generalize w1.alloc (.cells #[.slice none 0 0,.bool g1,.slice a1 n1 m1] 27)=w2 at *
 have lt2:=rt.lt;obtain ⟨e0,e1,e2⟩:=((H0.o.2.1.keep H1.o.2 id).keep k2 id).three;have H2:=jJ (aI rt k2);clear rt k2 d0 d1 d2;go_wp2_with fail
 clear e0 e1 e2;go_loopw [18] (fun iv wr=>∃(k:Nat) (va:Option Addr) (vc:Nat) (els:List (List Value)),k≤np∧iv=.int .i64 (k:Int)∧els.length=k∧aC wr w1.heap.size 27 [.slice va k vc,.bool g1,.slice a1 n1 m1]∧Grown dN (0,0) 96 3 (Old w2) wr w2.heap.size (.slice va k vc) els (mapL c (T.parts.take k))∧w2.heap.size≤wr.heap.size∧aA Nil w1 wr) (fun iv _=>np-(intOf iv).toNat)
 case atStart=>exact⟨0,none,0,[],aZ2 _,rfl,rfl,H2.o.1,Grown.nil,bZ2 _,H2.o.2⟩
 case round=>
  obtain ⟨k,va,vc,els,hk,rfl,hel,hrow,hg,hsz,hkr⟩:=hrel;by_cases hlt:k<np
  ·have j0:(0:Int)≤(k:Int):=by omega
   have j1:(k:Int)<(np:Int):=by omega
   obtain ⟨b,off,g,a',n',c',hae,hb,-,x0,x1,x2,hzz,i1',i2'⟩:=(HA.o.1.1.keepNil (H0.o.1.trans (H1.o.2.trans hkr))).at hlt;subst hae;have hmem:=HA.o.2.2.2.1 (pth T.parts k) (by rw [pth_lt (by have:=HA.o.r5;omega)];exact List.getElem_mem _);have hs:=mapL_take_succ c (l:=T.parts) (k:=k) (by have:=HA.o.r5;omega);obtain ⟨v,hv⟩:∃v,v=(pth T.parts k).1:=⟨_,rfl⟩;rw [←hv] at x0;have HC:=jJ (aI11 hel hrow hg hsz hkr hzz hmem hs hv i1' i2');clear hel hrow hg hsz hkr hzz hmem hs hv i1' i2';have hkb:aA Nil wr (wr.alloc (.cells #[.int .i64 v,.bool g,.slice a' n' c'] 96)):=kOf;have rp:=aC.alloc (w:=wr) (E:=96) (xs:=[.int .i64 v,.bool g,.slice a' n' c']);change aC (wr.alloc (.cells #[.int .i64 v,.bool g,.slice a' n' c'] 96)) _ _ _ at rp;go_upto_region 5 with (fail)
   generalize wr.alloc (.cells #[.int .i64 v,.bool g,.slice a' n' c'] 96)=wb at *
   have HD:=jJ (aI rp hkb);clear rp hkb x0 x1 x2;have hcl:=HA.o.2.1.keepNil (H0.o.1.trans (H1.o.2.trans (HC.o.r4.1.trans HD.o.2)));have HCL:=jJ hcl;clear hcl;refine aX 13 [10,11,12] [22,23,24,25,26,27,28,29,30,31,32,33,1045] [22,23,24,25,26,27,28,29,30,31] [Un (LitV ?v2_0),Un (LitV ?v2_1),Un (LitV ?v2_2),Un (LitV ?v2_3),Un (LitV ?v2_4),Un (LitV ?v2_5),Un (LitV ?v2_6),Un (ZV (And' (Old w2) (.slice va k vc)) (c (pth T.parts k).2)),⟨[3,7],fun vs=>LitV (buildV [(vs.getD 0 undef),(vs.getD 1 undef)])⟩,⟨[8],fun vs=>OneRow ?b2_9 ?t2_9 (vs.getD 0 undef)⟩,nothing,nothing,nothing] (aB.sk (aB.sk (aB.sk (aB.nx ?r2_9 (aB.nx ?r2_8 (aB.nx ?r2_7 (aB.nx ?r2_6 (aB.nx ?r2_5 (aB.nx ?r2_4 (aB.nx ?r2_3 (aB.nx ?r2_2 (aB.nx ?r2_1 (aB.nx ?r2_0 aB.zero))))))))))))) ?rfn2
   case' r2_0|r2_1|r2_2|r2_3|r2_4|r2_5|r2_6|r2_7|r2_8|r2_9=>
    intro us wj hk hp K hK;try simp only [aO,Act.put,sL] at hK⊢
    obtain ⟨d0,d1,d2⟩:=(HD.o.1.keep hk id).three;obtain ⟨e0',e1',e2'⟩:=((HC.o.2.1.keep HD.o.2 id).keep hk id).three
   case' r2_0|r2_2|r2_4|r2_5=>
    go_simp
    refine hK.out _ _ (aA.refl _ _) ?_;exact rfl
   case' r2_1=>
    have e0:us 22=_:=hp 0;rw [e0] at hK⊢;go_simp
    refine hK.out _ _ (aA.refl _ _) ?_;exact rfl
   case' r2_3=>
    have e2:us 24=_:=hp 2;rw [e2] at hK⊢;go_simp
    refine hK.out _ _ (aA.refl _ _) ?_;exact rfl
   case' r2_6=>
    have e5:us 27=_:=hp 5;rw [e5] at hK⊢;go_simp
    refine hK.out _ _ (aA.refl _ _) ?_;exact rfl
   case' r2_7=>
    have e4:us 26=_:=hp 4;have e6:us 28=_:=hp 6;rw [e4,e6] at hK⊢;go_simp
    refine (HCL.o.call (And' (Old w2) (.slice va k vc)) _ g a' n' c' (pth T.parts k).2 hk (MB.and (MB.oldLe (bZ1 HC.o.2.2.2.1 (HD.o.2.trans hk).size)) HC.o.2.2.1.own (HD.o.2.trans hk).size) ((HC.o.r5.1.zat (by have:=HC.o.r6.1.1;omega)).keepNil (HD.o.2.trans hk)) (by have h1:=HC.o.r6.1.1;have h2:=HC.o.r5.1.len;omega)).mono ?_;rintro e wk ⟨g,a,n,c,rfl,h,hk2⟩;exact hK.out _ _ hk2 (⟨g,a,n,c,rfl,h⟩)
   case' r2_8=>
    have e3:us 25=_:=hp 3;obtain ⟨g7,a7,n7,c7,e7,h7⟩:(ZV (And' (Old w2) (.slice va k vc)) (c (pth T.parts k).2)) (us 29) wj:=hp 7;rw [e3,e7] at hK⊢;go_simp
    refine hK.out _ _ ?_ ?_
    ·exact aA.refl _ _
    ·show _=buildV [us 25,us 29]
     rw [e3,e7];exact rfl
   case' r2_9=>
    have e3:us 25=_:=hp 3;obtain ⟨g7,a7,n7,c7,e7,h7⟩:(ZV (And' (Old w2) (.slice va k vc)) (c (pth T.parts k).2)) (us 29) wj:=hp 7;have e8:us 30=buildV [us 25,us 29]:=hp 8;simp only [e3,e7,e8,buildV,cellsOf,eZ2,List.flatMap_nil,fZ2,eZ3,fZ3] at hK⊢;go_simp
    refine hK.out _ _ ?_ ?_
    ·exact (aA.refl _ _).alloc _
    ·refine ⟨wj.heap.size,rfl,?_,?_⟩
     ·show aC _ _ _ (cellsOf (us 30))
      rw [e8,e7,e3];exact aC.alloc
     ·exact hk.size
   case' rfn2=>
   intro us wz hkz hf;simp only [aO,Act.put,sL];have e0:us 22=_:=hf 0;have e1:us 23=_:=hf 1;have e2:us 24=_:=hf 2;have e3:us 25=_:=hf 3;have e4:us 26=_:=hf 4;have e5:us 27=_:=hf 5;have e6:us 28=_:=hf 6;obtain ⟨g7,a7,n7,c7,e7,h7⟩:(ZV (And' (Old w2) (.slice va k vc)) (c (pth T.parts k).2)) (us 29) wz:=hf 7;have e8:us 30=buildV [us 25,us 29]:=hf 8;rw [e3,e7] at e8;simp only [buildV,cellsOf,eZ2,List.flatMap_nil,fZ2,eZ3,fZ3] at e8;obtain ⟨b9,e9,h9,q9⟩:(OneRow ?b2_9 ?t2_9 (us 30)) (us 31) wz:=hf 9;clear hf;simp only [e0,e1,e2,e3,e4,e5,e6,e7,e8,e9,cellsOf] at h9⊢;clear e0 e1 e2 e3 e4 e5 e6 e7 e8 e9 us;refine aK 10 fun K hK=>?_;rw [if_pos (by rfl)];refine oper_append_els wz (.tmp 23) (.tmp 31) 22 rfl w2.heap.size 96 i1 (.agg #[.int .i64 0,.bool false,.slice none 0 0]) 3 40 underlying22 HI.o.1 HI.o.2.1 HI.o.2.2.1 HI.o.2.2.2 rfl (by decide) (.slice va k vc) els rfl (HC.o.2.2.1.own.keepNil (HD.o.2.trans hkz)) ⟨b9,0,none⟩ 1 1 [[.int .i64 v,.bool g7,.slice a7 n7 c7]] rfl rfl (by simp) (row_news h9) (by simp [Value.oneCell']) (by have:=HC.o.1;omega) (by have:=HC.o.1;omega) (bZ1 HC.o.2.2.2.1 (HD.o.2.trans hkz).size) (fun v' w9 ho hk9 hf9=>?_);obtain ⟨a8,c8,rfl⟩:=ho.isSlice;have e8:(els++[[Value.int .i64 v,.bool g7,.slice a7 n7 c7]]).length=k+1:=(by rw [aZ1,HC.o.1];rfl);rw [e8] at ho hf9⊢;have r9:=((HC.o.2.1.keep HD.o.2 id).keep hkz id).keep hk9 (fun hm=>by have:=(HC.o.2.2.1.own.lt _ hm).1;omega);obtain ⟨y0,y1,y2⟩:=r9.three;obtain ⟨y3,y4,y5⟩:=r9.marks3;refine mK ?_;clear hK K;refine aK 11 fun K hK=>?_;go_simp
   refine mK ?_;clear hK K;refine aK 12 fun K hK=>?_;go_simp
   refine mK ?_;clear hK K;refine aP (by kernel_rfl) ?_ _;skip
   have hg9:=Grown.snoc dN.moves (HC.o.2.2.1.keepNil dN.moves (HD.o.2.trans hkz)) (x:=(v,c (pth T.parts k).2)) ⟨g7,a7,n7,c7,rfl,h7,by rw [HC.o.r8.1];exact HC.o.r9.1,by rw [HC.o.r8.1];exact HC.o.r10⟩ ho hk9 hf9;have ks9:=(aA.refl (One w1.heap.size) w9).set1 0 (.slice a8 (k+1) c8);have hg10:=hg9.keep dN.moves ks9 (fun b hb (hm:b=w1.heap.size)=>by have:=(ho.lt b hb).1;omega) (fun b _ (hm:b=w1.heap.size)=>by show b<w2.heap.size;omega);have kk9:aA Nil w1 w9:=(HC.o.r4.1.trans (HD.o.2.trans hkz)).newer hk9 (fun b hb=>by have:=(HC.o.2.2.1.own.lt b hb).1;omega);have hsz9:w2.heap.size≤w9.heap.size:=bZ1 HC.o.2.2.2.1 (bZ1 (HD.o.2.trans hkz).size hk9.size);have HE:=jJ (aI5 hg10 (r9.set 0 (.slice a8 (k+1) c8)) (kk9.own (bZ2 _) ks9) hsz9 e8);clear hg9 hg10 ks9 kk9 hsz9 e8 ho hk9 hf9 r9 h7 h9 hkz y0 y1 y2 y3 y4 y5;go_wp2_with fail
   go_roundw
   case rel=>exact⟨k+1,a8,c8,_,by omega,by go_num,HE.o.r4,HE.o.2.1,by rw [HC.o.r7.1,←HC.o.r8.1];exact HE.o.1,by have:=HE.o.2.2.2.1;simpa [World.setCell] using this,HE.o.2.2.1⟩
   case measure=>simp [intOf];omega
  ·have ekn:np=k:=by omega
   subst ekn;rw [eZ1 (by have:=HA.o.r5;omega)] at hg;obtain ⟨a5,c5,hv,hL⟩:=hg.sl dN.moves (fun b hb=>hb);rw [hel] at hv hL;cases hv;obtain ⟨y0,y1,y2⟩:=hrow.three;have hmm:∀p∈mapL c T.parts,nlen p.2.natAbs≤1073741824:=fun p hp=>by
    obtain ⟨q,hq,rfl⟩:=iZ2.1 hp;exact (HA.o.2.2.2.1 q hq).2
   have hRP:=cW.raw (M1:=Old w2) hL hmm;have hZK:ZAt Nil wr g1 a1 n1 m1 (f T.k):=(H1.o.1.zat (by have:=HA.o.r4.1.2;omega)).keepNil hkr;have hn1:n1≤1073741824:=by have h1:=H1.o.1.len;have h2:=HA.o.r4.1.2;omega
   have HC:=jJ (aI5 hRP hZK hkr hn1 ((H0.o.2.2.keep H1.o.2 id).keep hkr id));clear hg hL hrow hkr hRP hZK hn1 hmm hel;go_wp2_with (go_at_call 83;refine (tnorm_any (M:=Old w0) (MB.oldLe (bZ1 H1.o.2.size HC.o.2.2.1.size)) HC.o.1 HC.o.2.1 hn HC.o.2.2.2.1).mono ?_;rintro e w5 ⟨v,rfl,⟨bp,mp,dp,gb,ab,nb,cb,rfl,ht⟩,hk5⟩;have r5:=HC.o.r4.keep hk5 id;obtain ⟨z0,z1,z2⟩:=r5.three;obtain ⟨z3,z4,z5⟩:=r5.marks3;have H5:=jJ (aI3 ht hk5 r5);clear ht hk5 r5)
   have r6:=H5.o.2.2.triple (.slice bp mp dp) (.bool gb) (.slice ab nb cb);obtain ⟨x0,x1,x2⟩:=r6.three;exact bodyPost_ret (v:=.agg #[.slice bp mp dp,.bool gb,.slice ab nb cb]) (by simp [results,results143,go_sem,x0,x1,x2]) rfl ⟨_,rfl,⟨_,_,_,_,_,_,_,rfl,H5.o.1.out lr1 (fun b hb=>by have:=HM.o b hb;omega) (aA.triple _ _ _)⟩,(H0.o.1.trans (H1.o.2.trans (HC.o.2.2.1.trans H5.o.2.1))).own (by omega) (aA.triple _ _ _)⟩
end
end Go.Proofs.Q
