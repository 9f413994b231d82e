/- What own and the arena's Node do: a node's copy in new memory. -/
import Derived.Test.YtlldghknenbccaaGreatDoorRMadesC
set_option linter.unusedSimpArgs false
set_option linter.unusedVariables false
set_option maxRecDepth 100000
set_option maxHeartbeats 4000000
namespace Go.Proofs.Q
open Go.RowKit Tryz
section
variable {w:World} {E:TypeId} {g n c:Nat} {a:Option Addr} {M:Nat→Prop} {xs:List Value} {z:Int}
def QX (M:Nat→Prop) (l:List Nat):Value→World→Prop:=fun v w=>∃a n c,v=.slice a n c∧aU M w a n c l
instance {M:Nat→Prop} {l:List Nat}:Stable (QX M l):=⟨fun _ _ _ k ⟨a,n,c,e,h⟩=>⟨a,n,c,e,h.move k (fun _ _ h=>h.elim) fun _ _=>id⟩⟩
def MF (B:Nat) (E:TypeId) (l:List Int):Value→World→Prop:=fun v w=>∃a c,v=.slice a l.length c∧aL w B E 1 (.slice a l.length c) (aO l)
instance {B:Nat} {E:TypeId} {l:List Int}:Stable (MF B E l):=⟨fun _ _ _ k ⟨a,c,e,h⟩=>⟨a,c,e,h.eO k⟩⟩
theorem aF.fV {a b c d e f x y:Value} (h:aF w g E [a,b,c,d,e,f,x,y]):w.cell? ⟨g,0,none⟩=some a∧w.cell? ⟨g,1,none⟩=some b∧w.cell? ⟨g,2,none⟩=some c∧w.cell? ⟨g,3,none⟩=some d∧w.cell? ⟨g,4,none⟩=some e∧w.cell? ⟨g,5,none⟩=some f∧w.cell? ⟨g,6,none⟩=some x∧w.cell? ⟨g,7,none⟩=some y:=⟨h.cell 0,h.cell 1,h.cell 2,h.cell 3,h.cell 4,h.cell 5,h.cell 6,h.cell 7⟩
theorem aF.QM (h:aF w g E xs):w.frozen? ⟨g,0,none⟩=false∧w.frozen? ⟨g,1,none⟩=false∧w.frozen? ⟨g,2,none⟩=false∧w.frozen? ⟨g,3,none⟩=false∧w.frozen? ⟨g,4,none⟩=false∧w.frozen? ⟨g,5,none⟩=false∧w.frozen? ⟨g,6,none⟩=false∧w.frozen? ⟨g,7,none⟩=false:=⟨h.frozen 0,h.frozen 1,h.frozen 2,h.frozen 3,h.frozen 4,h.frozen 5,h.frozen 6,h.frozen 7⟩
theorem aF.eight {a b c d e f x y:Value} (h:aF w g E [a,b,c,d,e,f,x,y]) (a' b' c' d' e' f' x' y':Value):aF ((((((((w.setCell ⟨g,0,none⟩ a').setCell ⟨g,1,none⟩ b').setCell ⟨g,2,none⟩ c').setCell ⟨g,3,none⟩ d').setCell ⟨g,4,none⟩ e').setCell ⟨g,5,none⟩ f').setCell ⟨g,6,none⟩ x').setCell ⟨g,7,none⟩ y') g E [a',b',c',d',e',f',x',y']:=(((((((h.set 0 a').set 1 b').set 2 c').set 3 d').set 4 e').set 5 f').set 6 x').set 7 y'
theorem aA.eight (a b c d e f x y:Value):aA (One g) w ((((((((w.setCell ⟨g,0,none⟩ a).setCell ⟨g,1,none⟩ b).setCell ⟨g,2,none⟩ c).setCell ⟨g,3,none⟩ d).setCell ⟨g,4,none⟩ e).setCell ⟨g,5,none⟩ f).setCell ⟨g,6,none⟩ x).setCell ⟨g,7,none⟩ y):=((((((((aA.refl (One g) w).set1 0 a).set1 1 b).set1 2 c).set1 3 d).set1 4 e).set1 5 f).set1 6 x).set1 7 y
theorem aL.bCZ {base base':Nat} {E':TypeId} {sz sz':Nat} {v v':Value} {els els':List (List Value)} (h:aL w base E sz v els) (h':aL w base' E' sz' v' els') (hne:E≠E'):∀b,v.ownBlock=some b→v'.ownBlock≠some b:=by
 intro b hb e;rcases h.form with ⟨rfl,_⟩|⟨g',cap,rest,_,h1,_,_,_,h2⟩
 ·simp [Value.ownBlock] at hb
 ·rw [h2] at hb;cases hb;exact h'.ne h1 (fun e=>hne e.symm) e
def QT (v:Value) (b:Nat):Prop:=∃g p n c,v=.agg #[.bool g,.slice (some p) (n+1) c]∧p.block=b
theorem ZN.aKE {g:Bool} {b:Nat} (h:ZN M w g a n c z) (hx:QT (.agg #[.bool g,.slice a n c]) b):b<w.heap.size:=by
 obtain ⟨g',p,n',c',e,rfl⟩:=hx;simp at e;obtain ⟨rfl,rfl,rfl,rfl⟩:=e;exact (h.2.sl.some p rfl zZ).2.1
theorem ZN.aJX {X:Nat→Prop} {g:Bool} (h:ZN M w g a n c z) (hX:∀b,X b→¬QT (.agg #[.bool g,.slice a n c]) b):ZN (fun b=>M b∨X b) w g a n c z:=by
 refine ⟨h.1,h.2.len,⟨h.2.sl.le,h.2.sl.cap,h.2.sl.none,fun p hp h0=>?_⟩,h.2.lt⟩;obtain ⟨q1,q2,q3,q4⟩:=h.2.sl.some p hp h0;refine ⟨q1,q2,fun hm=>?_,q4⟩;rcases hm with hm|hm
 ·exact q3 hm
 ·obtain ⟨k,rfl⟩:∃k,n=k+1:=⟨n-1,zZ⟩;exact hX _ hm ⟨g,p,k,c,by rw [hp],rfl⟩
def RL {α:Type} (R:List Value→α→Prop) (d:α) (E:TypeId) (sz B n:Nat) (xs:List α) (u v:Value):Value→World→Prop:=fun x w=>nH R d E sz B n xs x w∧∀b,x.ownBlock=some b→¬QT u b∧¬QT v b
instance {α:Type} {R:List Value→α→Prop} {d:α} {E:TypeId} {sz B n:Nat} {xs:List α} {u v:Value}:Stable (RL R d E sz B n xs u v):=⟨fun _ _ _ k ⟨⟨va,vc,els,e,o,n,r⟩,q⟩=>⟨⟨va,vc,els,e,o.eO k,n,r⟩,q⟩⟩
structure FQ (N:aS):Prop where
 parts:N.t.parts.length≤16777216
 nums:∀p∈N.t.parts,eP p.2.natAbs≤1073741824
 k:eP N.t.k.natAbs≤1073741824
 d:eP N.d.natAbs≤1073741824
 kids:N.kids.length≤1000000000
end
section
variable {a:Option Addr} {w:World} {M O:Nat→Prop} {l:List Int} {n c g:Nat} {z i:Int}
theorem WC {M':Nat→Prop} {g:Bool} (hM:MB M w) (h:ZN M' w g a n c z) (hr:eP z.natAbs≤1073741824) :
  Calls prog 73 #[.agg #[.bool g,.slice a n c]] w fun e w'=>nI M w z e w':=by
 have hn:n=eP z.natAbs:=by have:=h.2.len;unfold eP;omega
 have HH:=jJ (aI4 hM h hr hn);clear hM h hr hn;go_enter func73,ntmps73
 go_upto_region 1 with (fail)
 obtain ⟨w0,e_1,k0,r0,r1⟩:=bx2 w 25 [.bool g,.slice a n c] 25 [.bool false,.slice none 0 0];rw [e_1];clear e_1;have lr1:=r1.lt;have H0:=jJ (aI3 k0 r0 r1);clear k0 r0 r1;refine aX 7 [6] [3,4,5,6,7,8,1014] [3,4,5,6,7,8] [Un (eT ?v2_0),Un (eT ?v2_1),Un (eT ?v2_2),Un (eT ?v2_3),Un (QX (Old w0) (bH z.natAbs)),⟨[1,4],fun vs=>eT (lX [(vs.getD 0 undef),(vs.getD 1 undef)])⟩,nothing] (aB.sk (aB.nx ?r2_5 (aB.nx ?r2_4 (aB.nx ?r2_3 (aB.nx ?r2_2 (aB.nx ?r2_1 (aB.nx ?r2_0 aB.zero))))))) ?rfn2
 case' r2_0|r2_1|r2_2|r2_3|r2_4|r2_5=>
  intro us wj hk hp K hK;try simp only [aQ,Act.put,sL] at hK⊢
  obtain ⟨d0,d1,-,-⟩:=(H0.o.2.1.keep hk id).two
 case' r2_0|r2_2=>
  go_simp
  refine hK.out _ _ (aA.refl _ _) ?_;exact rfl
 case' r2_1=>
  have e0:us 3=_:=hp 0;rw [e0] at hK⊢;go_simp
  refine hK.out _ _ (aA.refl _ _) ?_;exact rfl
 case' r2_3=>
  have e2:us 5=_:=hp 2;rw [e2] at hK⊢;go_simp
  refine hK.out _ _ (aA.refl _ _) ?_;exact rfl
 case' r2_4=>
  have e3:us 6=_:=hp 3;rw [e3] at hK⊢;go_simp
  refine (OC (M:=Old w0) (MB.gY hk.size) (HH.o.2.1.2.move (H0.o.1.trans hk) (fun _ _ h=>h.elim) fun _ _=>id) (by have:=HH.o.2.2.1;have:=HH.o.2.2.2;omega)).mono ?_;rintro e wk ⟨a,c,rfl,h,hk2⟩;exact hK.out _ _ hk2 (⟨a,_,c,rfl,h⟩)
 case' r2_5=>
  have e1:us 4=_:=hp 1;obtain ⟨a4,n4,c4,e4,h4⟩:(QX (Old w0) (bH z.natAbs)) (us 7) wj:=hp 4;rw [e1,e4] at hK⊢;go_simp
  refine hK.out _ _ ?_ ?_
  ·exact aA.refl _ _
  ·show _=lX [us 4,us 7]
   rw [e1,e4];exact rfl
 case' rfn2=>
 intro us wz hkz hf;simp only [aQ,Act.put,sL];have e0:us 3=_:=hf 0;have e1:us 4=_:=hf 1;have e2:us 5=_:=hf 2;have e3:us 6=_:=hf 3;obtain ⟨a4,n4,c4,e4,h4⟩:(QX (Old w0) (bH z.natAbs)) (us 7) wz:=hf 4;have e5:us 8=lX [us 4,us 7]:=hf 5;rw [e1,e4] at e5;simp only [lX,cellsOf,eZ2,List.flatMap_nil,fZ2,hZ3,iZ3] at e5;clear hf;simp only [e0,e1,e2,e3,e4,e5];clear e0 e1 e2 e3 e4 e5 us;refine aK 6 fun K hK=>?_;obtain ⟨z0,z1,z2,z3⟩:=(H0.o.2.2.keep hkz id).two;go_simp
 refine mK ?_;clear hK K;refine aR zX ?_ _;skip
 have r6:=(H0.o.2.2.keep hkz id).pair (u':=.bool g) (v':=.slice a4 n4 c4);obtain ⟨y0,y1,-,-⟩:=r6.two;go_wp2_with fail
 exact bodyPost_ret (v:=.agg #[.bool g,.slice a4 n4 c4]) (by simp [results,results73,go_sem,y0,y1]) rfl ⟨_,_,_,_,rfl,⟨HH.o.2.1.1,h4.move (aA.pair _ _) (fun b _ (hm:b=w.heap.size+1)=>rF) (fun b _ hm=>by show b<w0.heap.size;have:=HH.o.1 b hm;have:=H0.o.1.size;omega)⟩,((H0.o.1.trans hkz).own zZ (aA.pair _ _))⟩
def aZS (w:World) (N:aS) (e:Ending) (w':World):Prop:=∃gd ad nd cd ap np cp gk ak nk ck aq nq cq els,e=.returned (.tuple #[.agg #[.int .i64 N.kind,.bool gd,.slice ad nd cd,.slice ap np cp,.bool gk,.slice ak nk ck,.int .i64 N.var,.slice aq nq cq],.bool true])∧jL (Old w) w' gd ad nd cd ap np cp gk ak nk ck aq nq cq N∧aL w' w.heap.size 96 3 (.slice ap np cp) els∧aL w' w.heap.size 3 1 (.slice aq nq cq) (aO N.kids)∧aA Nil w w'
theorem aRR (h:cE M w a n c l) (hl:l.length≤1000000000) :
  Calls prog 75 #[.slice a n c] w fun e w'=>∃a' c',e=.returned (.slice a' l.length c')∧aL w' w.heap.size 3 1 (.slice a' l.length c') (aO l)∧aA Nil w w':=by
 refine (aDU h hl).mono ?_;rintro e w' ⟨v,rfl,h1,hk⟩;obtain ⟨a',c',rfl⟩:=h1.isSlice;rw [aJ] at h1⊢;exact⟨_,_,rfl,h1,hk⟩
theorem kG {B:Nat} (h:aL w B 3 1 (.slice a n c) (aO l)) (hM:∀b,(Value.slice a n c).ownBlock=some b→¬M b) (hn:l.length=n):cE M w a n c l:=by
 obtain ⟨a',c',e,h'⟩:=aL.sl (M:=M) (R:=RI) (d:=0) (xs:=l) h hM vA (fun i hi=>yI);rw [aJ,hn] at e h';have e2:a=a'∧c=c':=by simpa using e
 obtain ⟨rfl,rfl⟩:=e2;exact h'
theorem WL {v1 v2 v3 v4:Value} (h:aF w g 118 [.slice a n c,v1,v2,v3,v4]) (hi:¬(0≤i∧i<n)) :
  Calls prog 23 #[.pointer (some ⟨g,0,none⟩),.int .i64 i] w fun e w'=>e=.returned (.tuple #[.agg #[.int .i64 0,.bool false,.slice none 0 0,.slice none 0 0,.bool false,.slice none 0 0,.int .i64 0,.slice none 0 0],.bool false])∧aA Nil w w':=by
 have HH:=jJ h;have e:decide (0≤i∧i<(n:Int))=false:=decide_eq_false hi;have HI:=jJ e;have hg:=h.lt;clear h hi e;go_enter func23,ntmps23
 go_upto_region 1 with (fail)
 obtain ⟨w0,e_3,k0,r0⟩:=bx1 w 59 [.int .i64 0,.bool false,.slice none 0 0,.slice none 0 0,.bool false,.slice none 0 0,.int .i64 0,.slice none 0 0];rw [e_3];clear e_3;have lr0:=r0.lt;have H0:=jJ (aI k0 r0);clear k0 r0;go_wp2_with (go_at_call 71;refine (DR (i:=i) (HH.o.keep H0.o.1 id)).mono ?_;rintro e w1 ⟨rfl,hk1⟩;rw [HI.o];have r1:=H0.o.2.keep hk1 id;obtain ⟨z0,z1,z2,z3,z4,z5,z6,z7⟩:=r1.fV;obtain ⟨y0,y1,y2,y3,y4,y5,y6,y7⟩:=r1.QM;have H1:=jJ (aI hk1 r1);clear hk1 r1)
 have r6:=H1.o.2.eight (.int .i64 0) (.bool false) (.slice none 0 0) (.slice none 0 0) (.bool false) (.slice none 0 0) (.int .i64 0) (.slice none 0 0);obtain ⟨x0,x1,x2,x3,x4,x5,x6,x7⟩:=r6.fV;exact bodyPost_ret (v:=.tuple #[.agg #[.int .i64 0,.bool false,.slice none 0 0,.slice none 0 0,.bool false,.slice none 0 0,.int .i64 0,.slice none 0 0],.bool false]) rY rfl ⟨rfl,(H0.o.1.trans H1.o.1).own (bZ2 _) (aA.eight _ _ _ _ _ _ _ _)⟩
theorem DL {gm:Nat} {A:aC} {i:Nat} (hA:bW O w g gm A) (hi:i<A.nodes.length) (hlen:A.nodes.length≤1000000) (hz:FQ (A.nodes.getD i aP)) :
  Calls prog 23 #[.pointer (some ⟨g,0,none⟩),.int .i64 i] w fun e w'=>aZS w (A.nodes.getD i aP) e w':=by
 obtain ⟨B,vn,vf,vp,bm,ne,fe,hW⟩:=hA;obtain ⟨gn,gf,gp,cn,cf,cpp,rfl,rfl,rfl,l1,l2,l3,m1,m2,m3,b1,b2,b3,cN,cF,cP⟩:=hW.lists zZ;obtain ⟨gd,ad,nd,cd,ap,np,cp,gk,ak,nk,ck,aq,nq,cq,ene,hN⟩:=hW.nr i hi;obtain ⟨N,hNe⟩:∃N,N=A.nodes.getD i aP:=⟨_,rfl⟩;rw [←hNe] at hN hz ene⊢;have c0:w.cell? ⟨gn,i*8,none⟩=some (.int .i64 N.kind):=by have:=cN i hi 0 zZ;rw [ene] at this;simpa using this
 have c1:w.cell? ⟨gn,i*8+1,none⟩=some (.bool gd):=by have:=cN i hi 1 zZ;rw [ene] at this;simpa using this
 have c2:w.cell? ⟨gn,i*8+2,none⟩=some (.slice ad nd cd):=by have:=cN i hi 2 zZ;rw [ene] at this;simpa using this
 have c3:w.cell? ⟨gn,i*8+3,none⟩=some (.slice ap np cp):=by have:=cN i hi 3 zZ;rw [ene] at this;simpa using this
 have c4:w.cell? ⟨gn,i*8+4,none⟩=some (.bool gk):=by have:=cN i hi 4 zZ;rw [ene] at this;simpa using this
 have c5:w.cell? ⟨gn,i*8+5,none⟩=some (.slice ak nk ck):=by have:=cN i hi 5 zZ;rw [ene] at this;simpa using this
 have c6:w.cell? ⟨gn,i*8+6,none⟩=some (.int .i64 N.var):=by have:=cN i hi 6 zZ;rw [ene] at this;simpa using this
 have c7:w.cell? ⟨gn,i*8+7,none⟩=some (.slice aq nq cq):=by have:=cN i hi 7 zZ;rw [ene] at this;simpa using this
 have hrow:=hW.row;obtain ⟨L,hL⟩:∃L,L=A.nodes.length:=⟨_,rfl⟩;rw [←hL] at hi hlen l1 hrow;have hg:=hrow.lt;have e:decide (0≤(i:Int)∧(i:Int)<(L:Int))=true:=decide_eq_true ⟨zZ,zZ⟩;have HI:=jJ e;have HA:=jJ (aI3 hrow hN hz);have HC:=jJ (aI8 c0 c1 c2 c3 c4 c5 c6 c7);clear hW cN cF cP l2 l3 m2 m3 b2 b3 ene hrow hN hz hNe hL e c0 c1 c2 c3 c4 c5 c6 c7;go_enter func23,ntmps23
 go_upto_region 1 with (fail)
 obtain ⟨w0,e_4,k0,r0⟩:=bx1 w 59 [.int .i64 0,.bool false,.slice none 0 0,.slice none 0 0,.bool false,.slice none 0 0,.int .i64 0,.slice none 0 0];rw [e_4];clear e_4;have lr0:=r0.lt;have H0:=jJ (aI k0 r0);clear k0 r0;go_upto_region 3 with (go_at_call 71;refine (DR (i:=(i:Int)) (HA.o.1.keep H0.o.1 id)).mono ?_;rintro e w1 ⟨rfl,hk1⟩;rw [HI.o];have r1:=H0.o.2.keep hk1 id;have H1:=jJ (aI (H0.o.1.trans hk1) r1);have lr1:=r1.lt;clear hk1 r1)
 have a0:w1.cell? ⟨g,0,none⟩=some (.slice (some ⟨gn,0,none⟩) L cn):=(HA.o.1.keep H1.o.1 id).cell 0;have c0:=H1.o.1.eY b1 id HC.o.1;have c1:=H1.o.1.eY b1 id HC.o.2.1;have c2:=H1.o.1.eY b1 id HC.o.2.2.1;have c3:=H1.o.1.eY b1 id HC.o.2.2.2.1;have c4:=H1.o.1.eY b1 id HC.o.r4.1;have c5:=H1.o.1.eY b1 id HC.o.r5.1;have c6:=H1.o.1.eY b1 id HC.o.r6.1;have c7:=H1.o.1.eY b1 id HC.o.r7;have g1:=cZ1 hg H1.o.1.size;have g2:=cZ1 b1 H1.o.1.size;go_upto_region 4 with (fail)
 have r6:=aF.alloc (w:=w1) (E:=59) (xs:=[.int .i64 N.kind,.bool gd,.slice ad nd cd,.slice ap np cp,.bool gk,.slice ak nk ck,.int .i64 N.var,.slice aq nq cq]);change aF (w1.alloc (.cells #[.int .i64 N.kind,.bool gd,.slice ad nd cd,.slice ap np cp,.bool gk,.slice ak nk ck,.int .i64 N.var,.slice aq nq cq] 59)) _ _ _ at r6;have k6:aA Nil w1 (w1.alloc (.cells #[.int .i64 N.kind,.bool gd,.slice ad nd cd,.slice ap np cp,.bool gk,.slice ak nk ck,.int .i64 N.var,.slice aq nq cq] 59)):=kOf;generalize w1.alloc (.cells #[.int .i64 N.kind,.bool gd,.slice ad nd cd,.slice ap np cp,.bool gk,.slice ak nk ck,.int .i64 N.var,.slice aq nq cq] 59)=w2 at *
 have r4:=H1.o.2.keep k6 id;have k02:=H1.o.1.trans k6;have hN2:=HA.o.2.1.move (M2:=Nil) k02 (fun _ _ h=>h.elim) fun _ _ h=>h.elim;have hN0:=HA.o.2.1.move (M2:=Nil) (aA.refl Nil w) (fun _ _ h=>h.elim) fun _ _ h=>h.elim;have H2:=jJ (aI4 r6 r4 k02 hN2);have HN0:=jJ hN0;clear hN0;have b6:w1.heap.size<w2.heap.size:=r6.lt;clear r6 r4 k02 hN2 k6 c0 c1 c2 c3 c4 c5 c6 c7 a0 g1 g2;refine aX 24 [15,16,17,18,19,20,21,22,23] [25,26,27,28,29,30,31,32,33,34,35,36,37,38,39,1059,40,41,1062,42,43,1065,44,1067] [25,26,27,28,29,30,31,32,33,34,35,36,37,38,39] [Un (eT ?v5_0),Un (eT ?v5_1),Un (ZV (Old w2) N.d),Un (eT ?v5_3),Un (eT ?v5_4),Un (eT ?v5_5),Un (ZV (Old w2) N.t.k),Un (eT ?v5_7),Un (eT ?v5_8),Un (eT ?v5_9),⟨[2,6],fun vs=>RL (dZ Nil w) (0,0) 96 3 w2.heap.size np N.t.parts (vs.getD 0 undef) (vs.getD 1 undef)⟩,Un (eT ?v5_11),Un (eT ?v5_12),Un (MF w2.heap.size 3 N.kids),Un (eT ?v5_14),nothing,nothing,nothing,nothing,nothing,nothing,nothing,nothing,nothing] (aB.sk (aB.sk (aB.sk (aB.sk (aB.sk (aB.sk (aB.sk (aB.sk (aB.sk (aB.nx ?r5_14 (aB.nx ?r5_13 (aB.nx ?r5_12 (aB.nx ?r5_11 (aB.nx ?r5_10 (aB.nx ?r5_9 (aB.nx ?r5_8 (aB.nx ?r5_7 (aB.nx ?r5_6 (aB.nx ?r5_5 (aB.nx ?r5_4 (aB.nx ?r5_3 (aB.nx ?r5_2 (aB.nx ?r5_1 (aB.nx ?r5_0 aB.zero)))))))))))))))))))))))) ?rfn5
 case' r5_0|r5_1|r5_2|r5_3|r5_4|r5_5|r5_6|r5_7|r5_8|r5_9|r5_10|r5_11|r5_12|r5_13|r5_14=>
  intro us wj hk hp K hK;try simp only [aQ,Act.put,sL] at hK⊢
  obtain ⟨d0,d1,d2,d3,d4,d5,d6,d7⟩:=(H2.o.1.keep hk id).fV
 case' r5_0|r5_3|r5_7|r5_11|r5_14=>
  go_simp
  refine hK.out _ _ (aA.refl _ _) ?_;exact rfl
 case' r5_1=>
  have e0:us 25=_:=hp 0;rw [e0] at hK⊢;go_simp
  refine hK.out _ _ (aA.refl _ _) ?_;exact rfl
 case' r5_2=>
  have e1:us 26=_:=hp 1;rw [e1] at hK⊢;go_simp
  refine (WC (M:=Old w2) (MB.gY hk.size) (H2.o.2.2.2.d.eO hk) HA.o.2.2.d).mono ?_;rintro e wk ⟨g,a,n,c,rfl,h,hk2⟩;exact hK.out _ _ hk2 (⟨g,a,n,c,rfl,h⟩)
 case' r5_4=>
  have e3:us 28=_:=hp 3;rw [e3] at hK⊢;go_simp
  refine hK.out _ _ (aA.refl _ _) ?_;exact rfl
 case' r5_5=>
  have e4:us 29=_:=hp 4;rw [e4] at hK⊢;go_simp
  refine hK.out _ _ (aA.refl _ _) ?_;exact rfl
 case' r5_6=>
  have e5:us 30=_:=hp 5;rw [e5] at hK⊢;go_simp
  refine (WC (M:=Old w2) (MB.gY hk.size) (H2.o.2.2.2.t.2.eO hk) HA.o.2.2.k).mono ?_;rintro e wk ⟨g,a,n,c,rfl,h,hk2⟩;exact hK.out _ _ hk2 (⟨g,a,n,c,rfl,h⟩)
 case' r5_8=>
  have e7:us 32=_:=hp 7;rw [e7] at hK⊢;go_simp
  refine hK.out _ _ (aA.refl _ _) ?_;exact rfl
 case' r5_9=>
  have e8:us 33=_:=hp 8;rw [e8] at hK⊢;go_simp
  refine hK.out _ _ (aA.refl _ _) ?_;exact rfl
 case' r5_10=>
  obtain ⟨g2,a2,n2,c2,e2,h2⟩:(ZV (Old w2) N.d) (us 27) wj:=hp 2;obtain ⟨g6,a6,n6,c6,e6,h6⟩:(ZV (Old w2) N.t.k) (us 31) wj:=hp 6;have e9:us 34=_:=hp 9;rw [e2,e6,e9] at hK⊢;go_simp
  refine (RV aUX (eU.move HN0.o.t.1 (H2.o.2.2.1.trans hk) (fun _ _ h=>h) (fun _ _ h=>h) fun _ _ h=>h) (by have h1:=HA.o.2.2.parts;have h2:=eU.len H2.o.2.2.2.t.1;omega)).mono ?_;rintro e wk ⟨va,vc,els,rfl,o,n,r,hk2⟩;have h:RL (dZ Nil w) (0,0) 96 3 w2.heap.size np N.t.parts (.agg #[.bool g2,.slice a2 n2 c2]) (.agg #[.bool g6,.slice a6 n6 c6]) (.slice va np vc) wk:=⟨⟨va,vc,els,rfl,o.base hk.size,n,r⟩,fun b hb=>⟨fun hx=>by have:=h2.aKE hx;have:=(o.lt b hb).1;omega,fun hx=>by have:=h6.aKE hx;have:=(o.lt b hb).1;omega⟩⟩;refine hK.out _ _ ?_ ?_
  ·exact hk2
  ·rw [←e2] at h;rw [←e6] at h;exact h
 case' r5_12=>
  have e11:us 36=_:=hp 11;rw [e11] at hK⊢;go_simp
  refine hK.out _ _ (aA.refl _ _) ?_;exact rfl
 case' r5_13=>
  have e12:us 37=_:=hp 12;rw [e12] at hK⊢;go_simp
  refine (aRR (H2.o.2.2.2.kids.eO hk) HA.o.2.2.kids).mono ?_;rintro e wk ⟨va,vc,rfl,o,hk2⟩;exact hK.out _ _ hk2 (⟨va,vc,rfl,o.base hk.size⟩)
 case' rfn5=>
 intro us wz hkz hf;simp only [aQ,Act.put,sL];have e0:us 25=_:=hf 0;have e1:us 26=_:=hf 1;obtain ⟨g2,a2,n2,c2,e2,h2⟩:(ZV (Old w2) N.d) (us 27) wz:=hf 2;have e3:us 28=_:=hf 3;have e4:us 29=_:=hf 4;have e5:us 30=_:=hf 5;obtain ⟨g6,a6,n6,c6,e6,h6⟩:(ZV (Old w2) N.t.k) (us 31) wz:=hf 6;have e7:us 32=_:=hf 7;have e8:us 33=_:=hf 8;have e9:us 34=_:=hf 9;obtain ⟨⟨va10,vc10,els10,e10,o10,n10,r10⟩,h10⟩:(RL (dZ Nil w) (0,0) 96 3 w2.heap.size np N.t.parts (us 27) (us 31)) (us 35) wz:=hf 10;have e11:us 36=_:=hf 11;have e12:us 37=_:=hf 12;obtain ⟨va13,vc13,e13,o13⟩:(MF w2.heap.size 3 N.kids) (us 38) wz:=hf 13;have e14:us 39=_:=hf 14;clear hf;simp only [e0,e1,e2,e3,e4,e5,e6,e7,e8,e9,e10,e11,e12,e13,e14] at h10⊢;clear e0 e1 e2 e3 e4 e5 e6 e7 e8 e9 e10 e11 e12 e13 e14 us;refine aK 15 fun K hK=>?_;obtain ⟨d0,d1,d2,d3,d4,d5,d6,d7⟩:=(H2.o.1.keep hkz id).fV;obtain ⟨y0,y1,y2,y3,y4,y5,y6,y7⟩:=(H2.o.1.keep hkz id).QM;go_simp
 refine mK ?_;clear hK K;refine aK 16 fun K hK=>?_;go_simp
 refine mK ?_;clear hK K;refine aK 17 fun K hK=>?_;go_simp
 refine mK ?_;clear hK K;refine aK 18 fun K hK=>?_;go_simp
 refine mK ?_;clear hK K;refine aK 19 fun K hK=>?_;go_simp
 refine mK ?_;clear hK K;refine aK 20 fun K hK=>?_;go_simp
 refine mK ?_;clear hK K;refine aK 21 fun K hK=>?_;go_simp
 refine mK ?_;clear hK K;refine aK 22 fun K hK=>?_;go_simp
 refine mK ?_;clear hK K;refine aK 23 fun K hK=>?_;go_simp
 refine mK ?_;clear hK K;refine aR zX ?_ _;skip
 have r7:=((((((H2.o.1.keep hkz id).set 1 (.bool g2)).set 2 (.slice a2 n2 c2)).set 4 (.bool g6)).set 5 (.slice a6 n6 c6)).set 3 (.slice va10 np vc10)).set 7 (.slice va13 N.kids.length vc13);change aF _ w1.heap.size 59 [.int .i64 N.kind,.bool g2,.slice a2 n2 c2,.slice va10 np vc10,.bool g6,.slice a6 n6 c6,.int .i64 N.var,.slice va13 N.kids.length vc13] at r7;have k7:aA (Go.Proofs.Q.One w1.heap.size) wz ((((((wz.setCell ⟨w1.heap.size,1,none⟩ (.bool g2)).setCell ⟨w1.heap.size,2,none⟩ (.slice a2 n2 c2)).setCell ⟨w1.heap.size,4,none⟩ (.bool g6)).setCell ⟨w1.heap.size,5,none⟩ (.slice a6 n6 c6)).setCell ⟨w1.heap.size,3,none⟩ (.slice va10 np vc10)).setCell ⟨w1.heap.size,7,none⟩ (.slice va13 N.kids.length vc13)):=((((((aA.refl (Go.Proofs.Q.One w1.heap.size) wz).set1 1 _).set1 2 _).set1 4 _).set1 5 _).set1 3 _).set1 7 _;have k7z:w2.heap.size≤((((((wz.setCell ⟨w1.heap.size,1,none⟩ (.bool g2)).setCell ⟨w1.heap.size,2,none⟩ (.slice a2 n2 c2)).setCell ⟨w1.heap.size,4,none⟩ (.bool g6)).setCell ⟨w1.heap.size,5,none⟩ (.slice a6 n6 c6)).setCell ⟨w1.heap.size,3,none⟩ (.slice va10 np vc10)).setCell ⟨w1.heap.size,7,none⟩ (.slice va13 N.kids.length vc13)).heap.size:=bZ1 hkz.size k7.size;have hd7:=(h2.aJX (X:=fun b=>(Value.slice va10 np vc10).ownBlock=some b) fun b hb=>(h10 b hb).1).move (M2:=fun b=>Old w2 b∨(Value.slice va10 np vc10).ownBlock=some b) k7 (fun b _ (hm:b=w1.heap.size)=>.inl (by rw [hm];exact b6)) fun _ _ h=>h;have hk7:=(h6.aJX (X:=fun b=>(Value.slice va10 np vc10).ownBlock=some b) fun b hb=>(h10 b hb).2).move (M2:=fun b=>Old w2 b∨(Value.slice va10 np vc10).ownBlock=some b) k7 (fun b _ (hm:b=w1.heap.size)=>.inl (by rw [hm];exact b6)) fun _ _ h=>h;have o7:=o10.keep k7 fun b hb (hm:b=w1.heap.size)=>by have:=(o10.lt b hb).1;omega
 have q7:=o13.keep k7 fun b hb (hm:b=w1.heap.size)=>by have:=(o13.lt b hb).1;omega
 have hneq:∀b,(Value.slice va13 N.kids.length vc13).ownBlock=some b→(Value.slice va10 np vc10).ownBlock≠some b:=aL.bCZ o13 o10 zY;have r47:=(H2.o.2.1.keep hkz id).keep k7 (fun (hm:w.heap.size=w1.heap.size)=>zZ);have k07:aA Nil w _:=(H2.o.2.2.1.trans hkz).own (bZ1 H1.o.1.size (bZ2 _)) k7;have hpl:=eU.len H2.o.2.2.2.t.1;clear d0 d1 d2 d3 d4 d5 d6 d7 y0 y1 y2 y3 y4 y5 y6 y7 h2 h6 o10 o13 h10 k7 hkz;generalize (((((wz.setCell ⟨w1.heap.size,1,none⟩ (.bool g2)).setCell ⟨w1.heap.size,2,none⟩ (.slice a2 n2 c2)).setCell ⟨w1.heap.size,4,none⟩ (.bool g6)).setCell ⟨w1.heap.size,5,none⟩ (.slice a6 n6 c6)).setCell ⟨w1.heap.size,3,none⟩ (.slice va10 np vc10)).setCell ⟨w1.heap.size,7,none⟩ (.slice va13 N.kids.length vc13)=wq at *
 have t3:wq.cell? ⟨w1.heap.size,3,none⟩=some (.slice va10 np vc10):=r7.cell 3;have HT:=jJ (MG r7 r47 hd7 hk7 o7 q7 hneq k07 n10 r10 hpl k7z);have lt7:=r7.lt;clear r7 r47 hd7 hk7 o7 q7 hneq k07 n10 r10 hpl k7z;go_wp2_with fail
 clear t3;go_loopw [49] (fun iv wr=>∃(k:Nat) (els:List (List Value)),k≤np∧iv=.int .i64 (k:Int)∧els.length=np∧aL wr w2.heap.size 96 3 (.slice va10 np vc10) els∧(∀i,i<k→dZ (Old wq) wr (els.getD i []) (pth N.t.parts i))∧(∀i,k≤i→i<np→els.getD i []=els10.getD i [])∧aA (Own (.slice va10 np vc10)) wq wr) (fun iv _=>np-(intOf iv).toNat)
 case atStart=>exact⟨0,els10,aZ2 _,rfl,HT.o.r8.1,HT.o.r4.1,(fun i hi=>zZ),(fun i _ _=>rfl),aA.refl _ _⟩
 case round=>
  obtain ⟨k,els,hk,rfl,hel,hown,hdone,hrest,hkr⟩:=hrel;have hnew:∀b,(Value.slice va10 np vc10).ownBlock=some b→w2.heap.size≤b:=fun b hb=>(HT.o.r4.1.lt b hb).1;have hr7:=HT.o.1.keep hkr (fun hb=>by have:=hnew _ hb;omega);have k0r:aA Nil w wr:=HT.o.r7.1.trans' hkr fun b hb=>.inr (by have:=hnew b hb;have:=H2.o.2.2.1.size;omega);by_cases hlt:k<np
  ·have j0:(0:Int)≤(k:Int):=zZ;have j1:(k:Int)<(np:Int):=zZ;obtain ⟨gq,rest,hva,hrow,hbg,hnc,hcm,hback⟩:=hown.opens hel zZ;subst hva;have hsz:=hown.sz;have hpart:=HT.o.r9.1 k hlt;rw [←hrest k (bZ2 _) hlt] at hpart;obtain ⟨gx,ax,nx,cx,hcs,hzx,i1,i2⟩:=hpart;have x0:=hrow.el hsz (i:=k) (j:=0) zZ zZ;have x1:=hrow.el hsz (i:=k) (j:=1) zZ zZ;have x2:=hrow.el hsz (i:=k) (j:=2) zZ zZ;rw [hcs] at x0 x1 x2;simp only [List.getD_cons_zero,List.getD_cons_succ,Nat.add_zero] at x0 x1 x2;change wr.cell? _=some (.int .i64 (pth N.t.parts k).1) at x0;have hnum:eP (pth N.t.parts k).2.natAbs≤1073741824:=HA.o.2.2.nums _ (by have hl:=HT.o.r10.1;rw [iR zZ];exact List.getElem_mem _);obtain ⟨v,hv⟩:∃v,v=(pth N.t.parts k).1:=⟨_,rfl⟩;rw [←hv] at x0;have lg:=Live.of hrow.lt;have hzx':ZN Nil w gx ax nx cx (pth N.t.parts k).2:=hzx;have HC:=jJ (bDE hel hown hdone hrest hkr hr7 hrow hback hsz hcs hzx' hnum hv k0r);have hkb:aA Nil wr (wr.alloc (.cells #[.int .i64 v,.bool gx,.slice ax nx cx] 96)):=kOf;have rp:=aF.alloc (w:=wr) (E:=96) (xs:=[.int .i64 v,.bool gx,.slice ax nx cx]);change aF (wr.alloc (.cells #[.int .i64 v,.bool gx,.slice ax nx cx] 96)) _ _ _ at rp;clear hel hown hdone hrest hkr hr7 hrow hback hsz hcs hzx hzx' hnum hv k0r;go_upto_region 8 with (fail)
   generalize wr.alloc (.cells #[.int .i64 v,.bool gx,.slice ax nx cx] 96)=wb at *
   have HB:=jJ (aI rp hkb);clear rp hkb x0 x1 x2 lg;refine aX 10 [9] [54,55,56,57,58,59,60,61,62,1071] [54,55,56,57,58,59,60,61,62] [Un (eT ?v6_0),Un (eT ?v6_1),Un (eT ?v6_2),Un (eT ?v6_3),Un (eT ?v6_4),Un (eT ?v6_5),Un (ZV (Old wq) (pth N.t.parts k).2),Un (eT ?v6_7),Un (eT ?v6_8),nothing] (aB.sk (aB.nx ?r6_8 (aB.nx ?r6_7 (aB.nx ?r6_6 (aB.nx ?r6_5 (aB.nx ?r6_4 (aB.nx ?r6_3 (aB.nx ?r6_2 (aB.nx ?r6_1 (aB.nx ?r6_0 aB.zero)))))))))) ?rfn6
   case' r6_0|r6_1|r6_2|r6_3|r6_4|r6_5|r6_6|r6_7|r6_8=>
    intro us wj hk hp K hK;try simp only [aQ,Act.put,sL] at hK⊢
    obtain ⟨d0,d1,d2,d3,d4,d5,d6,d7⟩:=((HC.o.r5.1.keep HB.o.2 id).keep hk id).fV;obtain ⟨f0,f1,f2⟩:=(HB.o.1.keep hk id).three
   case' r6_0|r6_3|r6_4=>
    go_simp
    refine hK.out _ _ (aA.refl _ _) ?_;exact rfl
   case' r6_1=>
    have e0:us 54=_:=hp 0;rw [e0] at hK⊢;go_simp
    refine hK.out _ _ (aA.refl _ _) ?_;exact rfl
   case' r6_2=>
    have e1:us 55=_:=hp 1;rw [e1] at hK⊢;go_simp
    refine hK.out _ _ (aA.refl _ _) ?_;exact rfl
   case' r6_5=>
    have e4:us 58=_:=hp 4;rw [e4] at hK⊢;go_simp
    refine hK.out _ _ (aA.refl _ _) ?_;exact rfl
   case' r6_6=>
    have e5:us 59=_:=hp 5;rw [e5] at hK⊢;go_simp
    refine (WC (M:=Old wq) (MB.gY (bZ1 HC.o.r4.1.size (HB.o.2.trans hk).size)) (HC.o.r10.1.eO (HC.o.r13.trans (HB.o.2.trans hk))) HC.o.r11.1).mono ?_;rintro e wk ⟨g,a,n,c,rfl,h,hk2⟩;exact hK.out _ _ hk2 (⟨g,a,n,c,rfl,h⟩)
   case' r6_7=>
    have e2:us 56=_:=hp 2;have e3:us 57=_:=hp 3;rw [e2,e3] at hK⊢;go_simp
    refine hK.out _ _ (aA.refl _ _) ?_;exact rfl
   case' r6_8=>
    have e7:us 61=_:=hp 7;rw [e7] at hK⊢;go_simp
    refine hK.out _ _ (aA.refl _ _) ?_;exact rfl
   case' rfn6=>
   intro us wz hkz hf;simp only [aQ,Act.put,sL];have e0:us 54=_:=hf 0;have e1:us 55=_:=hf 1;have e2:us 56=_:=hf 2;have e3:us 57=_:=hf 3;have e4:us 58=_:=hf 4;have e5:us 59=_:=hf 5;obtain ⟨g6,a6,n6,c6,e6,h6⟩:(ZV (Old wq) (pth N.t.parts k).2) (us 60) wz:=hf 6;have e7:us 61=_:=hf 7;have e8:us 62=_:=hf 8;clear hf;simp only [e0,e1,e2,e3,e4,e5,e6,e7,e8];clear e0 e1 e2 e3 e4 e5 e6 e7 e8 us;refine aK 9 fun K hK=>?_;have hrz:=(HC.o.r6.1.keep HB.o.2 id).keep hkz id;have x1:=hrz.el HC.o.r8.1 (i:=k) (j:=1) wV zZ;have x2:=hrz.el HC.o.r8.1 (i:=k) (j:=2) wV zZ;have x3:=hrz.frozen (k*3+1);have x4:=hrz.frozen (k*3+2);go_simp
   refine mK ?_;clear hK K;refine aR zX ?_ _;skip
   have hke:k<els.length:=wV;have hsz:=HC.o.r8.1;have hr1:=hrz.QV hsz (i:=k) (t:=1) hke zZ (.bool g6);have hsz1:=NR hsz (i:=k) (x:=(els.getD k []).set 1 (.bool g6)) (by rw [HC.o.r9.1];rfl);have hr2:=hr1.QV hsz1 (i:=k) (t:=2) (by simpa using hke) zZ (.slice a6 n6 c6);rw [MO _ _ _ hke,List.set_set,HC.o.r9.1] at hr2;simp only [List.set_cons_succ,List.set_cons_zero] at hr2;have hsz2:=NR hsz (i:=k) (x:=[.int .i64 (pth N.t.parts k).1,.bool g6,.slice a6 n6 c6]) rfl;have hown2:=HC.o.r7.1 _ (els.set k [.int .i64 (pth N.t.parts k).1,.bool g6,.slice a6 n6 c6]) vH hsz2 hr2;have hgq:gq<wq.heap.size:=(HT.o.r4.1.lt gq rfl).2;have kst:aA (Go.Proofs.Q.One gq) wz ((wz.setCell ⟨gq,k*3+1,none⟩ (.bool g6)).setCell ⟨gq,k*3+2,none⟩ (.slice a6 n6 c6)):=((aA.refl (Go.Proofs.Q.One gq) wz).set1 (k*3+1) _).set1 (k*3+2) _;have HF:=jJ (aI8 hown2 hgq kst hke h6 hkz i1 i2);clear hr1 hsz1 hr2 hsz2 hown2 kst hrz x1 x2 x3 x4 h6 hkz;go_wp2_with fail
   go_roundw
   case rel=>
    refine ⟨k+1,_,zZ,zF,vH,HF.o.1,fun i hi=>?_,fun i hi hi2=>?_,(HC.o.r4.1.WR (HB.o.2.trans HF.o.r5.1)).trans (HF.o.2.2.1.mono fun b hb=>by have hb':b=gq:=hb;subst hb';rfl)⟩
    ·rcases Nat.lt_or_ge i k with hik|hik
     ·rw [RS _ _ _ zZ];exact dZ.moves (dZ.moves (HC.o.2.2.1 i hik) (HB.o.2.trans HF.o.r5.1) (fun _ _ h=>h.elim) fun _ _=>id) HF.o.2.2.1 (fun b _ hb=>by have hb':b=gq:=hb;rw [hb'];exact hgq) fun _ _=>id
     ·obtain rfl:i=k:=zZ;rw [MO _ _ _ hke];exact⟨g6,a6,n6,c6,rfl,HF.o.r4.1.move HF.o.2.2.1 (fun b _ hb=>by have hb':b=gq:=hb;rw [hb'];exact hgq) fun _ _=>id,HF.o.r6.1,HF.o.r7⟩
    ·exact qF
   case measure=>exact zI
  ·have ekn:np=k:=zZ;subst ekn;obtain ⟨d0,d1,d2,d3,d4,d5,d6,d7⟩:=hr7.fV;have r47:=HT.o.2.1.keep hkr fun hb=>by have:=hnew _ hb;have:=H2.o.2.2.1.size;omega
   obtain ⟨z0,z1,z2,z3,z4,z5,z6,z7⟩:=r47.fV;obtain ⟨y0,y1,y2,y3,y4,y5,y6,y7⟩:=r47.QM;have HF:=jJ (aI7 hel hown hdone hkr r47 hnew k0r);clear hel hown hdone hkr hr7 hrest r47 hnew k0r;go_wp2_with fail
   have r6:=HF.o.r4.1.eight (.int .i64 N.kind) (.bool g2) (.slice a2 n2 c2) (.slice va10 np vc10) (.bool g6) (.slice a6 n6 c6) (.int .i64 N.var) (.slice va13 N.kids.length vc13);have ks:=aA.eight (w:=wr) (g:=w.heap.size) (.int .i64 N.kind) (.bool g2) (.slice a2 n2 c2) (.slice va10 np vc10) (.bool g6) (.slice a6 n6 c6) (.int .i64 N.var) (.slice va13 N.kids.length vc13);obtain ⟨x0,x1,x2,x3,x4,x5,x6,x7⟩:=r6.fV;have hsz2:=H2.o.2.2.1.size;have ho3:=HF.o.2.1.keep ks (fun b hb (hm:b=w.heap.size)=>by have:=HF.o.r5.1 b hb;omega);have hi3:=(HT.o.r5.1.keep HF.o.2.2.2.1 fun b hb hm=>HT.o.r6.1 b hb hm).keep ks (fun b hb (hm:b=w.heap.size)=>by have:=(HT.o.r5.1.lt b hb).1;omega);obtain ⟨a',c',e',hsl⟩:=ho3.sl (M:=Old w) (R:=dZ (Old w) _) (d:=(0,0)) (xs:=N.t.parts) (fun b hb hm=>by have:=HF.o.r5.1 b hb;have hm':b<w.heap.size:=hm;omega) (by rw [HF.o.1];exact HT.o.r10.1) (fun i hi=>dZ.moves (HF.o.2.2.1 i (by have:=HF.o.1;omega)) ks (fun b _ (hm:b=w.heap.size)=>by show b<wq.heap.size;have:=HT.o.r11;omega) fun b _ hm=>by show b<wq.heap.size;have hm':b<w.heap.size:=hm;have:=HT.o.r11;omega);rw [HF.o.1] at e' hsl;have e2:va10=a'∧vc10=c':=by simpa using e'
   obtain ⟨rfl,rfl⟩:=e2;have hd:=(HT.o.2.2.1.move (M2:=fun b=>Old w2 b∨(Value.slice va10 np vc10).ownBlock=some b) HF.o.2.2.2.1 (fun b _ hb=>.inr hb) fun _ _ h=>h).move (M2:=Old w) ks (fun b _ (hm:b=w.heap.size)=>.inl rL) (fun b _ hm=>.inl (by show b<w2.heap.size;have hm':b<w.heap.size:=hm;omega));have hkk:=(HT.o.2.2.2.1.move (M2:=fun b=>Old w2 b∨(Value.slice va10 np vc10).ownBlock=some b) HF.o.2.2.2.1 (fun b _ hb=>.inr hb) fun _ _ h=>h).move (M2:=Old w) ks (fun b _ (hm:b=w.heap.size)=>.inl rL) (fun b _ hm=>.inl (by show b<w2.heap.size;have hm':b<w.heap.size:=hm;omega));have hkids:=kG (M:=Old w) hi3 (fun b hb hm=>by have:=(hi3.lt b hb).1;have hm':b<w.heap.size:=hm;omega) rfl;exact bodyPost_ret (v:=.tuple #[.agg #[.int .i64 N.kind,.bool g2,.slice a2 n2 c2,.slice va10 np vc10,.bool g6,.slice a6 n6 c6,.int .i64 N.var,.slice va13 N.kids.length vc13],.bool true]) rY rfl ⟨_,_,_,_,_,_,_,_,_,_,_,_,_,_,els,rfl,⟨hd,⟨hsl,hkk⟩,hkids⟩,ho3.base zZ,hi3.base zZ,HF.o.r6.own (bZ2 _) ks⟩
end
end Go.Proofs.Q
