/- Plain atoms: comparisons and divisibilities, each in one form. Nothing of the program; no condition. -/
/- What package atom's helpers do: truth, closures that divide, coefficients, a term turned. Conditions: what is given reads; room. -/
import Derived.Test.YthjlmocbeoimaaaGreatDoorLTermOps
import Derived.Test.YthjlmocbeoimaaaGreatDoorLGcds
import Derived.Test.YthjlmocbeoimaaaGreatDoorLNatDiv
import Derived.Test.YthjlmocbeoimaaaGreatDoorLZDiv
set_option linter.unusedSimpArgs false
set_option linter.unusedVariables false
set_option maxHeartbeats 1000000
namespace Go.Rid
structure cM where
 kind:Int
 d:Int
 t:aY
def bX:aY:=⟨[],0⟩
def cV (b:Bool):cM:=⟨if b then 1 else 0,0,bX⟩
def mapL (f:Int→Int) (l:aX):aX:=l.map fun p=>(p.1,f p.2)
def mappedV (T:aY) (c k:Int→Int):aY:=bS ⟨mapL c T.parts,k T.k⟩
def bW (T:aY):List Int:=T.parts.map (·.2)
def lessV (T:aY):cM:=
 if T.parts=[] then cV (decide (T.k > 0)) else ⟨2,0,mappedV T (fun c=>c.fdiv (gcdL (bW T):Int)) fun k=>(k-1).fdiv (gcdL (bW T):Int)+1⟩
def partT (d:Int) (T:aY):aY:=mappedV T (fun c=>c.fmod d) fun k=>k.fmod d
def partG (d:Int) (T:aY):Nat:=gcdL (bW (partT d T)++[d])
def dB (d:Int) (T:aY):aY:=mappedV (partT d T) (fun c=>c.fdiv (partG d T:Int)) fun k=>k.fdiv (partG d T:Int)
def partD (d:Int) (T:aY):Int:=d.fdiv (partG d T:Int)
def partO (d:Int) (T:aY):aY:=partT (partD d T) (sumT (-1) (dB d T) 0 bX)
def cA (d:Int) (T:aY) (no:Bool):cM:=
 if (partT d T).parts=[] then cV ((decide ((partT d T).k=0)) != no)
 else if (partT d T).k.fmod (partG d T:Int)≠0 then cV no
 else if partD d T=1 then cV (!no)
 else ⟨if no then 4 else 3,partD d T,if cmpT (partO d T) (dB d T)<0 then partO d T else dB d T⟩
def normA (A:cM):Int ⊕ cM:=
 if A.kind=0∨A.kind=1 then .inr ⟨A.kind,0,bX⟩
 else if A.kind=2 then .inr (lessV (bS A.t))
 else if A.kind=3∨A.kind=4 then (if A.d=0 then .inl 11 else .inr (cA (A.d.natAbs:Int) (bS A.t) (decide (A.kind=4))))
 else .inl 1
end Go.Rid

namespace Go.Rid
open Go.RowKit
structure Clo (P:Program) (w:World) (fn b:Nat) (f:Int→Int) (L:Nat):Prop where
 enters:∀args w,(callFunc fn args).run P w=.ok (.enter fn args) w
 call:∀(M:Nat→Prop) (W:World) (g:Bool) (a:Option Addr) (n c:Nat) (z:Int),aA Nil w W→MB M W→ZAt Nil W g a n c z→n≤L→Calls P fn #[.agg #[.bool g,.slice a n c],.pointer (some ⟨b,0,none⟩)] W fun e w'=>ZRet M W (f z) e w'
theorem Clo.mono {P:Program} {w:World} {fn b:Nat} {f:Int→Int} {L L':Nat} (h:Clo P w fn b f L) (hl:L'≤L):Clo P w fn b f L':=⟨h.enters,fun M W g a n c z q1 q2 q3 q4=>h.call M W g a n c z q1 q2 q3 (Nat.le_trans q4 hl)⟩
theorem Clo.keepNil {P:Program} {w w':World} {fn b:Nat} {f:Int→Int} {L:Nat} (h:Clo P w fn b f L) (k:aA Nil w w'):Clo P w' fn b f L:=⟨h.enters,fun M W g a n c z q=>h.call M W g a n c z (k.trans q)⟩
def CloV (P:Program) (f:Int→Int) (L:Nat):Value→World→Prop:=fun v w=>∃fn b,v=.func (.func fn) #[] #[.pointer (some ⟨b,0,none⟩)]∧Clo P w fn b f L
instance {P:Program} {f:Int→Int} {L:Nat}:Stable (CloV P f L):=⟨fun _ _ _ k ⟨fn,b,e,h⟩=>⟨fn,b,e,h.keepNil k⟩⟩
def CapV (fn:Nat) (E:TypeId) (xs:List Value) (B:Nat):Value→World→Prop:=fun v w=>∃b,v=.func (.func fn) #[] #[.pointer (some ⟨b,0,none⟩)]∧aF w b E xs∧B≤b
instance {fn:Nat} {E:TypeId} {xs:List Value} {B:Nat}:Stable (CapV fn E xs B):=⟨fun _ _ _ k ⟨b,e,h,q⟩=>⟨b,e,h.keep k id,q⟩⟩
def AtomAt (M:Nat→Prop) (w:World) (gd:Bool) (ad:Option Addr) (nd cd:Nat) (ap:Option Addr) (np cp:Nat) (gk:Bool) (ak:Option Addr) (nk ck:Nat) (A:cM):Prop:=ZN M w gd ad nd cd A.d∧TermAt M w ap np cp gk ak nk ck A.t
def AV (M:Nat→Prop) (A:cM):Value→World→Prop:=fun v w=>∃gd ad nd cd ap np cp gk ak nk ck,v=.agg #[.int .i64 A.kind,.bool gd,.slice ad nd cd,.slice ap np cp,.bool gk,.slice ak nk ck]∧AtomAt M w gd ad nd cd ap np cp gk ak nk ck A
theorem AtomAt.keepNil {M:Nat→Prop} {w w':World} {gd gk:Bool} {ad ap ak:Option Addr} {nd cd np cp nk ck:Nat} {A:cM} (h:AtomAt M w gd ad nd cd ap np cp gk ak nk ck A) (k:aA Nil w w'):AtomAt M w' gd ad nd cd ap np cp gk ak nk ck A:=⟨h.1.keepNil k,h.2.keepNil k⟩
instance {M:Nat→Prop} {A:cM}:Stable (AV M A):=⟨fun _ _ _ k ⟨gd,ad,nd,cd,ap,np,cp,gk,ak,nk,ck,e,h⟩=>⟨gd,ad,nd,cd,ap,np,cp,gk,ak,nk,ck,e,h.keepNil k⟩⟩
theorem TermAt.zero {M:Nat→Prop} {w:World}:TermAt M w none 0 0 false none 0 0 bX:=⟨SlOf.nil,zn_zero _ _⟩
theorem aA.six {w:World} {g:Nat} (a b c d e f:Value):aA (One g) w ((((((w.setCell ⟨g,0,none⟩ a).setCell ⟨g,1,none⟩ b).setCell ⟨g,2,none⟩ c).setCell ⟨g,3,none⟩ d).setCell ⟨g,4,none⟩ e).setCell ⟨g,5,none⟩ f):=((((((aA.refl (One g) w).set1 0 a).set1 1 b).set1 2 c).set1 3 d).set1 4 e).set1 5 f
theorem aF.six {w:World} {g:Nat} {E:TypeId} {a b c d e f:Value} (h:aF w g E [a,b,c,d,e,f]) (a' b' c' d' e' f':Value):aF ((((((w.setCell ⟨g,0,none⟩ a').setCell ⟨g,1,none⟩ b').setCell ⟨g,2,none⟩ c').setCell ⟨g,3,none⟩ d').setCell ⟨g,4,none⟩ e').setCell ⟨g,5,none⟩ f') g E [a',b',c',d',e',f']:=(((((h.set 0 a').set 1 b').set 2 c').set 3 d').set 4 e').set 5 f'
theorem aF.cells6 {w:World} {g:Nat} {E:TypeId} {a b c d e f:Value} (h:aF w g E [a,b,c,d,e,f]):w.cell? ⟨g,0,none⟩=some a∧w.cell? ⟨g,1,none⟩=some b∧w.cell? ⟨g,2,none⟩=some c∧w.cell? ⟨g,3,none⟩=some d∧w.cell? ⟨g,4,none⟩=some e∧w.cell? ⟨g,5,none⟩=some f:=⟨h.cell 0,h.cell 1,h.cell 2,h.cell 3,h.cell 4,h.cell 5⟩
theorem aF.marks6 {w:World} {g:Nat} {E:TypeId} {xs:List Value} (h:aF w g E xs):w.frozen? ⟨g,0,none⟩=false∧w.frozen? ⟨g,1,none⟩=false∧w.frozen? ⟨g,2,none⟩=false∧w.frozen? ⟨g,3,none⟩=false∧w.frozen? ⟨g,4,none⟩=false∧w.frozen? ⟨g,5,none⟩=false:=⟨h.frozen 0,h.frozen 1,h.frozen 2,h.frozen 3,h.frozen 4,h.frozen 5⟩
theorem AtomAt.out {M:Nat→Prop} {w0 w w':World} {g:Nat} {gd gk:Bool} {ad ap ak:Option Addr} {nd cd np cp nk ck:Nat} {A:cM} (h:AtomAt (Old w0) w gd ad nd cd ap np cp gk ak nk ck A) (hg:g<w0.heap.size) (hM:∀b,M b→b<w0.heap.size) (k:aA (One g) w w'):AtomAt M w' gd ad nd cd ap np cp gk ak nk ck A:=
 ⟨h.1.move k (fun b _ (hm:b=g)=>by rw [hm];exact hg) (fun b _ hm=>hM b hm),h.2.out hg hM k⟩
theorem AtomAt.zero {M:Nat→Prop} {w:World} {k:Int}:AtomAt M w false none 0 0 none 0 0 false none 0 0 ⟨k,0,bX⟩:=⟨zn_zero _ _,TermAt.zero⟩
end Go.Rid
namespace Go.Proofs.YthjlmocbeoimaaaGreatDoor
open Go.RowKit Go.Rid
theorem truth_any {M:Nat→Prop} {w:World} (b:Bool):Calls Tryz.prog 49 #[.bool b] w fun e w'=>Gives Nil (AV M (cV b)) w e w':=by
 have hk:aA Nil w (w.alloc (.cells #[.int .i64 0,.bool false,.slice none 0 0,.slice none 0 0,.bool false,.slice none 0 0] 51)):=kOf
 go_enter Tryz.func49,Tryz.ntmps49
 cases b
 ·go_wp2_with fail
  have r:=aF.alloc (w:=w) (E:=51) (xs:=[.int .i64 0,.bool false,.slice none 0 0,.slice none 0 0,.bool false,.slice none 0 0])
  exact bodyPost_ret (v:=.agg #[.int .i64 0,.bool false,.slice none 0 0,.slice none 0 0,.bool false,.slice none 0 0]) (by simp [results,Tryz.results49,go_sem,r.cell]) rfl ⟨_,rfl,⟨_,_,_,_,_,_,_,_,_,_,_,rfl,AtomAt.zero⟩,hk⟩
 ·go_wp2_with fail
  have r:=aF.alloc (w:=w) (E:=51) (xs:=[.int .i64 1,.bool false,.slice none 0 0,.slice none 0 0,.bool false,.slice none 0 0])
  exact bodyPost_ret (v:=.agg #[.int .i64 1,.bool false,.slice none 0 0,.slice none 0 0,.bool false,.slice none 0 0]) (by simp [results,Tryz.results49,go_sem,r.cell]) rfl ⟨_,rfl,⟨_,_,_,_,_,_,_,_,_,_,_,rfl,AtomAt.zero⟩,kOf⟩
theorem over1_any {w:World} {b:Nat} {g:Bool} {a:Option Addr} {n c:Nat} {d:Int} (hr:aF w b 46 [.bool g,.slice a n c]) (hd:ZAt Nil w g a n c d) (h0:d≠0) (hn:n≤4294967296):Clo Tryz.prog w 117 b (fun x=>x.fdiv d) 8589934592:=by
 refine ⟨enters_of Tryz.func117 (by kernel_rfl) rfl,fun M W g2 a2 n2 c2 z hk hM hz hn2=>?_⟩
 have hr':=hr.keep hk id
 have HA:=jJ (aI (hd.keepNil hk) (aI hz (aI hn (aI hn2 (aI hr' h0)))))
 have HM:=jJ hM
 clear hr hd h0 hn hk hz hM hn2 hr'
 go_enter Tryz.func117,Tryz.ntmps117
 go_upto_region 1 with (fail)
 have r0:=(aF.alloc (w:=W) (E:=46) (xs:=[.bool g2,.slice a2 n2 c2])).keep (M:=Nil) (w':=((W.alloc (.cells #[.bool g2,.slice a2 n2 c2] 46)).alloc (.cells #[.bool false,.slice none 0 0] 46))) kOf id
 have r1:=aF.alloc (w:=(W.alloc (.cells #[.bool g2,.slice a2 n2 c2] 46))) (E:=46) (xs:=[.bool false,.slice none 0 0])
 change aF ((W.alloc (.cells #[.bool g2,.slice a2 n2 c2] 46)).alloc (.cells #[.bool false,.slice none 0 0] 46)) _ _ _ at r1
 rw [show (W.alloc (.cells #[.bool g2,.slice a2 n2 c2] 46)).heap.size=W.heap.size+1 by simp] at r1
 have k0:aA Nil W ((W.alloc (.cells #[.bool g2,.slice a2 n2 c2] 46)).alloc (.cells #[.bool false,.slice none 0 0] 46)):=kOf
 generalize ((W.alloc (.cells #[.bool g2,.slice a2 n2 c2] 46)).alloc (.cells #[.bool false,.slice none 0 0] 46))=w0 at *
 have rb:=HA.out.r4.1.keep k0 id
 obtain ⟨c0,c1,-,-⟩:=r0.two
 obtain ⟨d0,d1,-,-⟩:=rb.two
 have H0:=jJ (aI k0 r1)
 have lr1:=r1.lt
 clear k0 r0 r1 rb
 go_wp2_with (go_at_call 94;refine (zdivmod_any (M:=Old w0) (natDiv_any (fun e=>HA.out.r5 (Int.natAbs_eq_zero.1 e))) (MB.old w0) (HA.out.2.1.keepNil H0.out.1) (HA.out.1.keepNil H0.out.1) HA.out.r5 (by have:=HA.out.2.2.2.1;omega) (by have:=HA.out.2.2.1;omega)).mono ?_;rintro e w1 ⟨g3,a3,n3,c3,g4,a4,n4,c4,rfl,h3,h4,hk1⟩;have r1':=(H0.out.2.keep hk1 id).keep (M:=Nil) (w':=(w1.alloc (.cells #[.bool g3,.slice a3 n3 c3] 46)).alloc (.cells #[.bool g4,.slice a4 n4 c4] 46)) kOf id;obtain ⟨z0,z1,z2,z3⟩:=r1'.two;have H1:=jJ (aI h3 (aI h4 (aI hk1 r1')));have ll:W.heap.size+1<w1.heap.size:=Nat.lt_of_lt_of_le lr1 hk1.size;clear h3 h4 hk1 r1')
 have kal:aA Nil w1 ((w1.alloc (.cells #[.bool g3,.slice a3 n3 c3] 46)).alloc (.cells #[.bool g4,.slice a4 n4 c4] 46)):=kOf
 have r6:=H1.out.2.2.2.pair (u':=.bool g3) (v':=.slice a3 n3 c3)
 obtain ⟨y0,y1,-,-⟩:=r6.two
 refine bodyPost_ret (v:=.agg #[.bool g3,.slice a3 n3 c3]) (by simp [results,Tryz.results117,go_sem,y0,y1]) rfl ⟨_,_,_,_,rfl,?_,(((H0.out.1.trans H1.out.2.2.1).trans kal).own (by omega) (aA.pair _ _))⟩
 exact (H1.out.1.keepNil kal).move (aA.pair _ _) (fun b _ (hm:b=W.heap.size+1)=>by rw [hm];exact lr1) (fun b _ hm=>by show b<w0.heap.size;have:=HM.out b hm;omega)
theorem modulo1_any {w:World} {b:Nat} {g:Bool} {a:Option Addr} {n c:Nat} {d:Int} (hr:aF w b 46 [.bool g,.slice a n c]) (hd:ZAt Nil w g a n c d) (h0:d≠0) (hn:n≤4294967296):Clo Tryz.prog w 93 b (fun x=>x.fmod d) 8589934592:=by
 refine ⟨enters_of Tryz.func93 (by kernel_rfl) rfl,fun M W g2 a2 n2 c2 z hk hM hz hn2=>?_⟩
 have hr':=hr.keep hk id
 have HA:=jJ (aI (hd.keepNil hk) (aI hz (aI hn (aI hn2 (aI hr' h0)))))
 have HM:=jJ hM
 clear hr hd h0 hn hk hz hM hn2 hr'
 go_enter Tryz.func93,Tryz.ntmps93
 go_upto_region 1 with (fail)
 have r0:=(aF.alloc (w:=W) (E:=46) (xs:=[.bool g2,.slice a2 n2 c2])).keep (M:=Nil) (w':=((W.alloc (.cells #[.bool g2,.slice a2 n2 c2] 46)).alloc (.cells #[.bool false,.slice none 0 0] 46))) kOf id
 have r1:=aF.alloc (w:=(W.alloc (.cells #[.bool g2,.slice a2 n2 c2] 46))) (E:=46) (xs:=[.bool false,.slice none 0 0])
 change aF ((W.alloc (.cells #[.bool g2,.slice a2 n2 c2] 46)).alloc (.cells #[.bool false,.slice none 0 0] 46)) _ _ _ at r1
 rw [show (W.alloc (.cells #[.bool g2,.slice a2 n2 c2] 46)).heap.size=W.heap.size+1 by simp] at r1
 have k0:aA Nil W ((W.alloc (.cells #[.bool g2,.slice a2 n2 c2] 46)).alloc (.cells #[.bool false,.slice none 0 0] 46)):=kOf
 generalize ((W.alloc (.cells #[.bool g2,.slice a2 n2 c2] 46)).alloc (.cells #[.bool false,.slice none 0 0] 46))=w0 at *
 have rb:=HA.out.r4.1.keep k0 id
 obtain ⟨c0,c1,-,-⟩:=r0.two
 obtain ⟨d0,d1,-,-⟩:=rb.two
 have H0:=jJ (aI k0 r1)
 have lr1:=r1.lt
 clear k0 r0 r1 rb
 go_wp2_with (go_at_call 94;refine (zdivmod_any (M:=Old w0) (natDiv_any (fun e=>HA.out.r5 (Int.natAbs_eq_zero.1 e))) (MB.old w0) (HA.out.2.1.keepNil H0.out.1) (HA.out.1.keepNil H0.out.1) HA.out.r5 (by have:=HA.out.2.2.2.1;omega) (by have:=HA.out.2.2.1;omega)).mono ?_;rintro e w1 ⟨g3,a3,n3,c3,g4,a4,n4,c4,rfl,h3,h4,hk1⟩;have r1':=(H0.out.2.keep hk1 id).keep (M:=Nil) (w':=(w1.alloc (.cells #[.bool g3,.slice a3 n3 c3] 46)).alloc (.cells #[.bool g4,.slice a4 n4 c4] 46)) kOf id;obtain ⟨z0,z1,z2,z3⟩:=r1'.two;have H1:=jJ (aI h3 (aI h4 (aI hk1 r1')));have ll:W.heap.size+1<w1.heap.size:=Nat.lt_of_lt_of_le lr1 hk1.size;clear h3 h4 hk1 r1')
 have kal:aA Nil w1 ((w1.alloc (.cells #[.bool g3,.slice a3 n3 c3] 46)).alloc (.cells #[.bool g4,.slice a4 n4 c4] 46)):=kOf
 have r6:=H1.out.2.2.2.pair (u':=.bool g4) (v':=.slice a4 n4 c4)
 obtain ⟨y0,y1,-,-⟩:=r6.two
 refine bodyPost_ret (v:=.agg #[.bool g4,.slice a4 n4 c4]) (by simp [results,Tryz.results93,go_sem,y0,y1]) rfl ⟨_,_,_,_,rfl,?_,(((H0.out.1.trans H1.out.2.2.1).trans kal).own (by omega) (aA.pair _ _))⟩
 exact (H1.out.2.1.keepNil kal).move (aA.pair _ _) (fun b _ (hm:b=W.heap.size+1)=>by rw [hm];exact lr1) (fun b _ hm=>by show b<w0.heap.size;have:=HM.out b hm;omega)
theorem over_any {w:World} {g:Bool} {a:Option Addr} {n c:Nat}:Calls Tryz.prog 76 #[.agg #[.bool g,.slice a n c]] w fun e w'=>Gives Nil (CapV 117 46 [.bool g,.slice a n c] w.heap.size) w e w':=by
 have hk:aA Nil w (w.alloc (.cells #[.bool g,.slice a n c] 46)):=kOf
 go_enter Tryz.func76,Tryz.ntmps76
 go_wp2_with fail
 go_ret
 exact⟨_,rfl,⟨_,rfl,aF.alloc (xs:=[.bool g,.slice a n c]),Nat.le_refl _⟩,hk⟩
theorem modulo_any {w:World} {g:Bool} {a:Option Addr} {n c:Nat}:Calls Tryz.prog 61 #[.agg #[.bool g,.slice a n c]] w fun e w'=>Gives Nil (CapV 93 46 [.bool g,.slice a n c] w.heap.size) w e w':=by
 have hk:aA Nil w (w.alloc (.cells #[.bool g,.slice a n c] 46)):=kOf
 go_enter Tryz.func61,Tryz.ntmps61
 go_wp2_with fail
 go_ret
 exact⟨_,rfl,⟨_,rfl,aF.alloc (xs:=[.bool g,.slice a n c]),Nat.le_refl _⟩,hk⟩
end Go.Proofs.YthjlmocbeoimaaaGreatDoor
