/- What simp's through makes of a formula, plainly. -/
import Derived.Test.YtlldghknenbccaaGreatDoorRJoined
set_option linter.unusedSimpArgs false
set_option linter.unusedVariables false
namespace Go.Proofs.Q
open Go.RowKit Go.Maps Tryz
section
variable {x:Int} {f j:Nat} {I:aC→Int→Int→Prop} {A':aC}
structure WSt where
 came:Int→Option Int
 A:aC
 sp:Int
 ov:Int
def kK:Type:=aC→Int→Int→Int→List Int→(Int × Int) × aC × (Int × Int)
def cW (W:WSt→Int→(Int × Int) × WSt):WSt→List Int→List Int→(List Int × Int) × WSt
 | s,out,[]=>((out,0),s)
 | s,out,k::l=>if (W s k).1.2=0 then cW W (W s k).2 (out++[(W s k).1.1]) l else ((out,(W s k).1.2),(W s k).2)
def iL (F:Int→Option Int) (x y:Int):Int→Option Int:=fun u=>if u=x then some y else F u
def cJ (T:kK):Nat→WSt→Int→(Int × Int) × WSt
 | 0,s,_=>((0,0),s)
 | f+1,s,x=>
  match s.came x with
  | some y=>((y,0),s)
  | none=>
   if (cW (cJ T f) s [] (ndA s.A x).kids).1.2=0 then
    let r:=cW (cJ T f) s [] (ndA s.A x).kids
    let q:=T r.2.A r.2.sp r.2.ov x r.1.1
    (q.1,⟨iL r.2.came x q.1.1,q.2.1,q.2.2.1,q.2.2.2⟩)
   else ((0,(cW (cJ T f) s [] (ndA s.A x).kids).1.2),(cW (cJ T f) s [] (ndA s.A x).kids).2)
theorem aDM (W:WSt→Int→(Int × Int) × WSt) (k:Int):∀(l:List Int) (s:WSt) (out:List Int),(cW W s out l).1.2=0→cW W s out (l++[k])=if (W (cW W s out l).2 k).1.2=0 then (((cW W s out l).1.1++[(W (cW W s out l).2 k).1.1],0),(W (cW W s out l).2 k).2) else (((cW W s out l).1.1,(W (cW W s out l).2 k).1.2),(W (cW W s out l).2 k).2)
 | [],s,out,_=>rfl
 | j::l,s,out,h=>by
  rw [hZ3,cW];unfold cW at h;rw [cW];by_cases h0:(W s j).1.2=0
  ·rw [if_pos h0] at h⊢;rw [if_pos h0];exact aDM W k l _ _ h
  ·rw [if_neg h0] at h;exact absurd h h0
theorem aCW (W:WSt→Int→(Int × Int) × WSt):∀(l:List Int) (s:WSt) (out m:List Int),(cW W s out l).1.2≠0→cW W s out (l++m)=cW W s out l
 | [],_,_,_,h=>absurd rfl h
 | j::l,s,out,m,h=>by
  unfold cW at h;by_cases h0:(W s j).1.2=0
  ·rw [if_pos h0] at h;simp only [hZ3,cW,if_pos h0];exact aCW W l _ _ m h
  ·simp only [hZ3,cW,if_neg h0]
theorem JQ {T:kK} {s:WSt} {y:Int} (h:s.came x=some y):cJ T (f+1) s x=((y,0),s):=by
 rw [cJ,h]
theorem OW {T:kK} {s:WSt} {r:(List Int × Int) × WSt} (h:s.came x=none) (hr:cW (cJ T f) s [] (ndA s.A x).kids=r) (he:r.1.2≠0):cJ T (f+1) s x=((0,r.1.2),r.2):=by
 subst hr;rw [cJ,h];simp only [];rw [if_neg he]
theorem KE {T:kK} {s t:WSt} {out:List Int} (h:s.came x=none) (hr:cW (cJ T f) s [] (ndA s.A x).kids=((out,0),t)):cJ T (f+1) s x=((T t.A t.sp t.ov x out).1,⟨iL t.came x (T t.A t.sp t.ov x out).1.1,(T t.A t.sp t.ov x out).2.1,(T t.A t.sp t.ov x out).2.2.1,(T t.A t.sp t.ov x out).2.2.2⟩):=by
 rw [cJ,h];simp only [];rw [hr];simp only [if_pos]
def Ext (A A':aC):Prop:=∃t,A'.nodes=A.nodes++t
theorem Ext.refl (A:aC):Ext A A:=⟨[],zW⟩
theorem Ext.trans {A B C:aC} (h:Ext A B) (k:Ext B C):Ext A C:=by
 obtain ⟨t,h⟩:=h;obtain ⟨u,k⟩:=k;exact⟨t++u,by rw [k,h,mZ2]⟩
theorem Ext.len {A:aC} (h:Ext A A'):A.nodes.length≤A'.nodes.length:=by obtain ⟨t,h⟩:=h;rw [h,aZ1];omega
theorem Ext.nd {A:aC} (h:Ext A A') (h0:0≤x) (h1:x<(A.nodes.length:Int)):ndA A' x=ndA A x:=by
 obtain ⟨t,h⟩:=h;unfold ndA;rw [h];simp [List.getD,List.getElem?_append_left (show x.toNat<A.nodes.length by omega)]
structure IQ (T:kK) (I:aC→Int→Int→Prop) (R:aC→Int→Prop):Prop where
 step:∀{A:aC} {sp ov x:Int} {ks:List Int},I A sp ov→0≤x→x<(A.nodes.length:Int)→(∀k∈ks,R A k)→ks.length=(ndA A x).kids.length→I (T A sp ov x ks).2.1 (T A sp ov x ks).2.2.1 (T A sp ov x ks).2.2.2∧Ext A (T A sp ov x ks).2.1∧((T A sp ov x ks).1.2=0→R (T A sp ov x ks).2.1 (T A sp ov x ks).1.1)
 mono:∀{A A':aC} {y:Int},R A y→Ext A A'→R A' y
 rng:∀{A:aC} {y:Int},R A y→0≤y∧y<(A.nodes.length:Int)
 below:∀{A:aC} {sp ov:Int},I A sp ov→Below A.nodes
def WOk (I:aC→Int→Int→Prop) (R:aC→Int→Prop) (s:WSt):Prop:=I s.A s.sp s.ov∧∀u y,s.came u=some y→R s.A y
def QW (I:aC→Int→Int→Prop) (R:aC→Int→Prop) (m:Int) (s:WSt) (e:Int) (t:WSt):Prop:=I t.A t.sp t.ov∧Ext s.A t.A∧(e=0→WOk I R t)∧∀u,m<u→t.came u=s.came u
theorem PW {I:aC→Int→Int→Prop} {R:aC→Int→Prop} {W:WSt→Int→(Int × Int) × WSt} {m:Int} {N:Nat} (hm:∀{A A':aC} {y:Int},R A y→Ext A A'→R A' y) (H:∀s k,WOk I R s→N≤s.A.nodes.length→0≤k→k<m→k<(N:Int)→QW I R k s (W s k).1.2 (W s k).2∧((W s k).1.2=0→R (W s k).2.A (W s k).1.1)) :
  ∀(l:List Int) (s:WSt) (out:List Int),WOk I R s→N≤s.A.nodes.length→(∀k∈l,0≤k∧k<m∧k<(N:Int))→(∀o∈out,R s.A o)→QW I R (m-1) s (cW W s out l).1.2 (cW W s out l).2∧((cW W s out l).1.2=0→(∀o∈(cW W s out l).1.1,R (cW W s out l).2.A o)∧(cW W s out l).1.1.length=out.length+l.length)
 | [],s,out,hs,_,_,ho=>⟨⟨hs.1,Ext.refl _,fun _=>hs,fun _ _=>rfl⟩,fun _=>⟨ho,rfl⟩⟩
 | k::l,s,out,hs,hN,hl,ho=>by
  have hk:=hl k (kZ1 ..);obtain ⟨⟨q1,q2,q3,q4⟩,q5⟩:=H s k hs hN hk.1 hk.2.1 hk.2.2;unfold cW;by_cases h0:(W s k).1.2=0
  ·rw [if_pos h0];obtain ⟨⟨r1,r2,r3,r4⟩,r5⟩:=PW (I:=I) (R:=R) (W:=W) (m:=m) (N:=N) hm H l (W s k).2 (out++[(W s k).1.1]) (q3 h0) (bZ1 hN q2.len) (fun j hj=>hl j (lZ1 _ hj)) fun o ho'=>by
    rcases jZ1.1 ho' with h|h
    ·exact hm (ho o h) q2
    ·rw [dZ1.1 h];exact q5 h0
   refine ⟨⟨r1,q2.trans r2,r3,fun u hu=>(r4 u hu).trans (q4 u zZ)⟩,fun he=>⟨(r5 he).1,?_⟩⟩;rw [(r5 he).2];simp only [aZ1,gZ1,gZ2];omega
  ·rw [if_neg h0];exact⟨⟨q1,q2,fun e=>absurd e h0,fun u hu=>q4 u zZ⟩,fun e=>absurd e h0⟩
theorem IC {T:kK} {I:aC→Int→Int→Prop} {R:aC→Int→Prop} (hT:IQ T I R):∀(f:Nat) (s:WSt) (x:Int),WOk I R s→x.toNat<f→0≤x→x<(s.A.nodes.length:Int)→QW I R x s (cJ T f s x).1.2 (cJ T f s x).2∧((cJ T f s x).1.2=0→R (cJ T f s x).2.A (cJ T f s x).1.1)
 | 0,_,_,_,h,_,_=>zZ
 | f+1,s,x,hs,hf,h0,h1=>by
  cases hc:s.came x with
  | some y=>
   rw [JQ hc];exact⟨⟨hs.1,Ext.refl _,fun _=>hs,fun _ _=>rfl⟩,fun _=>hs.2 x y hc⟩
  | none=>
   have hk:=PW (I:=I) (R:=R) (W:=cJ T f) (m:=x) (N:=s.A.nodes.length) hT.mono (fun s' k hs' hN hk0 hkx hkN=>IC hT f s' k hs' zZ hk0 zZ) (ndA s.A x).kids s [] hs (bZ2 _) (fun k hk=>by have:=(hT.below hs.1).kid h0 h1 hk;omega) (fun o ho=>by cases ho);obtain ⟨r,hr⟩:∃r,cW (cJ T f) s [] (ndA s.A x).kids=r:=⟨_,rfl⟩;rw [hr] at hk;obtain ⟨⟨q1,q2,q3,q4⟩,q5⟩:=hk;by_cases he:r.1.2=0
   ·obtain ⟨⟨out,e⟩,t⟩:=r;obtain rfl:e=0:=he;obtain ⟨q6,q7⟩:=q5 rfl;have hlen:x<(t.A.nodes.length:Int):=by have:=q2.len;simp only at this;omega
    obtain ⟨p1,p2,p3⟩:=hT.step (x:=x) (ks:=out) q1 h0 hlen q6 (by rw [q2.nd h0 h1];simpa using q7);rw [KE hc hr];refine ⟨⟨p1,q2.trans p2,fun e=>⟨p1,fun u y hu=>?_⟩,fun u hu=>?_⟩,p3⟩
    ·simp only [iL] at hu;by_cases hux:u=x
     ·rw [if_pos hux] at hu;cases hu;exact p3 e
     ·rw [if_neg hux] at hu;exact hT.mono ((q3 rfl).2 u y hu) p2
    ·show iL t.came x _ u=_
     unfold iL;rw [if_neg zZ];exact q4 u zZ
   ·rw [OW hc hr he];exact⟨⟨q1,q2,fun e=>absurd e he,fun u hu=>q4 u zZ⟩,fun e=>absurd e he⟩
theorem VK {T:kK} {R:aC→Int→Prop} (hT:IQ T I R) {s t:WSt} {out:List Int} (hs:WOk I R s) (hf:x.toNat<f+1) (h0:0≤x) (h1:x<(s.A.nodes.length:Int)) (hj:j≤(ndA s.A x).kids.length) (hr:cW (cJ T f) s [] ((ndA s.A x).kids.take j)=((out,0),t)):WOk I R t∧Ext s.A t.A∧(∀o∈out,R t.A o)∧out.length=j∧∀u,x≤u→t.came u=s.came u:=by
 have hk:=PW (I:=I) (R:=R) (W:=cJ T f) (m:=x) (N:=s.A.nodes.length) hT.mono (fun s' k hs' hN hk0 hkx hkN=>IC hT f s' k hs' zZ hk0 zZ) ((ndA s.A x).kids.take j) s [] hs (bZ2 _) (fun k hk=>by have:=(hT.below hs.1).kid h0 h1 (cZ3 hk);omega) (fun o ho=>by cases ho);rw [hr] at hk;obtain ⟨⟨q1,q2,q3,q4⟩,q5⟩:=hk;obtain ⟨q6,q7⟩:=q5 rfl;refine ⟨q3 rfl,q2,q6,?_,fun u hu=>q4 u zZ⟩;simp only [iZ1,gZ2] at q7;omega
end
section
def cntF (F:Int→Option Int) (N:Nat):Nat:=((List.range N).filter fun u:Nat=>(F (u:Int)).isSome).length
theorem aZO (F:Int→Option Int) (N:Nat):cntF F N≤N:=by
 have:=List.length_filter_le (fun u:Nat=>(F (u:Int)).isSome) (List.range N);simpa [cntF] using this
theorem aGE (F:Int→Option Int) (N:Nat):cntF F (N+1)=cntF F N+if (F (N:Int)).isSome then 1 else 0:=by
 unfold cntF;rw [List.range_succ,List.filter_append,aZ1];congr 1;by_cases h:(F (N:Int)).isSome<;>simp [h]
theorem aHM {F:Int→Option Int} {x y:Int} (h0:0≤x) (hF:F x=none):∀{N:Nat},cntF (fun u=>if u=x then some y else F u) N=cntF F N+if x<(N:Int) then 1 else 0
 | 0=>by rw [if_neg zZ];rfl
 | N+1=>by
  have ih:=aHM (y:=y) h0 hF (N:=N);rw [aGE,aGE,ih];by_cases hx:(N:Int)=x
  ·have h1:¬x<(N:Int):=zZ;have h2:x<((N+1:Nat):Int):=zZ;rw [if_neg h1,if_pos h2,if_pos hx,hx,hF];simp
  ·rw [if_neg hx];generalize (if (F (N:Int)).isSome=true then 1 else 0)=q;by_cases h1:x<(N:Int)
   ·have h2:x<((N+1:Nat):Int):=zZ;rw [if_pos h1,if_pos h2];omega
   ·have h2:¬x<((N+1:Nat):Int):=zZ;rw [if_neg h1,if_neg h2];omega
def kQ (P:Program) (kt et:TypeId) (w:World) (b N:Nat) (F:Int→Option Int):Prop:=
 ∃D:DataW Unit,w.ownsMap P kt (plainElem P et) b (cntF F N) D∧∀v,fI v→Maps.has D (.int .i64 v)=(F v).isSome∧∀i,F v=some i→D.atKey (.int .i64 v) (.lit (.int .i64 0))=.lit (.int .i64 i)
theorem kQ.keep {P:Program} {kt et:TypeId} {M:Nat→Prop} {w w':World} {b n:Nat} {F:Int→Option Int} (h:kQ P kt et w b n F) (k:aA M w w') (hn:¬M b):kQ P kt et w' b n F:=yM
theorem kQ.made {P:Program} {kt et:TypeId} (w:World) (N:Nat):kQ P kt et (w.alloc (.map #[] 0)) w.heap.size N fun _=>none:=by
 refine ⟨.map [],?_,fun t _=>⟨rfl,fun i h=>wZ⟩⟩;rw [show cntF (fun _=>none) N=0 by unfold cntF;simp];exact World.ownsMap_made _ _ _ _
theorem kQ.lt {P:Program} {kt et:TypeId} {w:World} {b n:Nat} {F:Int→Option Int} (h:kQ P kt et w b n F):b<w.heap.size:=by obtain ⟨D,q,_⟩:=h;exact q.lt
section
variable {P:Program} (w:World) {ops:Array Oper} {rest:List Oper} {o:Oper} {a:Act} {Q:Exit→Act→World→Prop}
theorem YS (hg:o.guard=none) (m x:Operand) (t:TypeId) (hop:o.op=Op.lookup t m x true) (kt et:TypeId) (hk:P.underlying kt=some (.int .i64)) (ht:P.underlying t=some (.map kt et)) (he:P.underlying et=some (.int .i64)) (hz:(zeroValue et).run P w=.ok (.int .i64 0) w)
  (b n:Nat) (F:Int→Option Int) (hm:a.eval m=.map (some b)) (hF:kQ P kt et w b n F) (s:Int) (hx:a.eval x=.int .i64 s) (hs:fI s)
  (hK:∀c:Int,(∀i,F s=some i→c=i)→wpList P ops Q rest (a.put o.dst (.tuple #[.int .i64 c,.bool (F s).isSome])) w):wpList P ops Q (o::rest) a w:=by
 obtain ⟨D,q1,q2⟩:=hF;obtain ⟨r1,r2⟩:=q2 s hs;refine wpList_lookup_own_ok_int w hg m x t hop kt et .i64 (int_keyed hk) ht he hz b _ D hm q1 _ (.int .i64 s) hx (CQ hk hs) ?_;intro c hc _;rw [r1];refine hK c fun i hi=>?_;have h:=hc.symm.trans (r2 i hi);simp only [DataW.lit.injEq,Lit.int.injEq,true_and] at h;exact h
theorem cZ (hg:o.guard=none) (m x v:Operand) (t:TypeId) (hop:o.op=Op.mapUpdate t m x v) (kt et:TypeId) (hk:P.underlying kt=some (.int .i64)) (ht:P.underlying t=some (.map kt et)) (he:P.underlying et=some (.int .i64))
  (b n:Nat) (F:Int→Option Int) (hm:a.eval m=.map (some b)) (hF:kQ P kt et w b n F) (hn:n<maxLen) (s i:Int) (hx:a.eval x=.int .i64 s) (hs:fI s) (hs0:0≤s) (hsn:s<(n:Int)) (hno:F s=none) (hv:a.eval v=.int .i64 i) (hi:fI i)
  (hK:∀w',kQ P kt et w' b n (fun t=>if t=s then some i else F t)→aA (One b) w w'→wpList P ops Q rest (a.put o.dst undef) w'):wpList P ops Q (o::rest) a w:=by
 obtain ⟨D,q1,q2⟩:=hF;have hc:=aZO F n;refine wpList_mapUpdate_own w hg m x v t hop kt et (int_keyed hk) ht (plainElem P et) b _ D hm q1 zZ _ _ (.int .i64 s) hx hv (CQ hk hs) (.lit (.int .i64 i)) [] (plainElem_int he (WalkArith.wf_i64 hi)) ?_;intro w' r1 r2;have hM:=(q1.tidy (int_keyed hk)).isMap;refine hK w' ⟨_,by rw [aHM hs0 hno,if_pos hsn];exact r1,fun u hu=>?_⟩ (aA.IL r2);by_cases hus:u=s
 ·subst hus;show _=(if u=u then some i else F u).isSome∧∀j,(if u=u then some i else F u)=some j→_
  rw [if_pos rfl];refine ⟨by rw [Maps.has_put_same hM (show WideAt.IsKeyLit (Lit.int .i64 u) from trivial)];rfl,fun j hj=>?_⟩;cases hj;exact atKey_put_same hM (show WideAt.IsKeyLit (Lit.int .i64 u) from trivial) _ _
 ·show _=(if u=s then some i else F u).isSome∧∀j,(if u=s then some i else F u)=some j→_
  rw [if_neg hus];have hne:(Lit.int .i64 u)≠(Lit.int .i64 s):=fun e=>hus (by simpa using e);rw [Maps.has_put_other hne];refine ⟨(q2 u hu).1,fun j hj=>?_⟩;rw [atKey_put_other hne];exact (q2 u hu).2 j hj
end
end
section
variable {cs:List Value} {nodes limbs:Int} {v:Value} {O M Oj:Nat→Prop} {N:aS} {wr W w' w2:World} {gm bm N0 pb g:Nat} {e:Ending}
def LY (O M:Nat→Prop) (w:World) (g gm bm N0:Nat) (nodes limbs:Int) (r:(Int × Int) × WSt) (e:Ending) (w':World):Prop:=
 e=.returned (.tuple #[.int .i64 r.1.1,.int .i64 r.1.2])∧(∃O':Nat→Prop,bW O' w' g gm r.2.A∧(∀b,O b→O' b)∧(∀b,O' b→O b∨w.heap.size≤b)∧bR (fun b=>M b∨O' b) w' gm nodes limbs r.2.sp r.2.ov∧kQ prog 3 3 w' bm N0 r.2.came)∧aA (fun b=>O b∨b=gm∨b=bm) w w'
structure lC (O M:Nat→Prop) (W:World) (g gm bm pb N0:Nat) (nodes limbs:Int) (cs:List Value) (N:aS) (Oj:Nat→Prop) (s:WSt) (v:Value) (out:List Int) (wr:World):Prop where
 own:aL wr W.heap.size 3 1 v (aO out)
 far:∀b,v.ownBlock=some b→¬Oj b
 arena:bW Oj wr g gm s.A
 up:∀b,O b→Oj b
 down:∀b,Oj b→O b∨W.heap.size≤b
 jC:bR (fun b=>M b∨Oj b∨v.ownBlock=some b) wr gm nodes limbs s.sp s.ov
 map:kQ prog 3 3 wr bm N0 s.came
 box:aF wr pb 59 cs
 MI:W.heap.size≤pb
 RB:¬Oj pb
 RG:v.ownBlock≠some pb
 node:iU (fun b=>b<W.heap.size∨Oj b∨v.ownBlock=some b) wr cs N
 keep:aA (fun b=>O b∨b=gm∨b=bm) W wr
theorem lC.step {s:WSt} {out:List Int} {r:(Int × Int) × WSt} (h:lC O M W g gm bm pb N0 nodes limbs cs N Oj s v out wr) (hg:gm<W.heap.size) (hb:bm<W.heap.size) (hst:LY Oj (fun b=>M b∨Oj b∨v.ownBlock=some b) wr g gm bm N0 nodes limbs r e w') :
  e=.returned (.tuple #[.int .i64 r.1.1,.int .i64 r.1.2])∧∃O2:Nat→Prop,lC O M W g gm bm pb N0 nodes limbs cs N O2 r.2 v out w':=by
 obtain ⟨h1,⟨O2,q1,q2,q3,q4,q5⟩,k⟩:=hst;have hs:=h.keep.size;refine ⟨h1,O2,h.own.keep k fun b hb' hm=>?_,fun b hb' ho=>?_,q1,fun b hb'=>q2 b (h.up b hb'),fun b hb'=>?_,q4.move (aA.refl Nil w') (fun _ _ h=>h.elim) fun b _ hb'=>?_,q5,h.box.keep k fun hm=>?_,h.MI,fun ho=>?_,h.RG,h.node.move k (fun b _ hm=>?_) fun b hlt hm=>?_,h.keep.trans' k fun b hm=>?_⟩
 ·have:=(h.own.lt b hb').1;rcases hm with hm|hm|hm
  ·exact h.far b hb' hm
  ·omega
  ·omega
 ·rcases q3 b ho with h2|h2
  ·exact h.far b hb' h2
  ·have:=(h.own.lt b hb').2;omega
 ·rcases q3 b hb' with h2|h2
  ·exact h.down b h2
  ·right;omega
 ·rcases hb' with hb'|hb'|hb'
  ·exact .inl (.inl hb')
  ·exact .inr hb'
  ·exact .inl (.inr (.inr hb'))
 ·have:=h.MI;rcases hm with hm|hm|hm
  ·exact h.RB hm
  ·omega
  ·omega
 ·rcases q3 pb ho with h2|h2
  ·exact h.RB h2
  ·have:=h.box.lt;omega
 ·rcases hm with hm|hm|hm
  ·exact .inr (.inl hm)
  ·left;omega
  ·left;omega
 ·rcases hm with hm|hm|hm
  ·exact .inl hm
  ·rcases q3 b hm with h2|h2
   ·exact .inr (.inl h2)
   ·omega
  ·exact .inr (.inr hm)
 ·rcases hm with hm|hm
  ·rcases h.down b hm with h2|h2
   ·exact .inl (.inl h2)
   ·exact .inr h2
  ·exact .inl (.inr hm)
theorem lC.aKI {s:WSt} {out:List Int} (h:lC O M W g gm bm pb N0 nodes limbs cs N Oj s v out wr) (hb:bm<W.heap.size) (hbO:¬O bm):¬Oj bm:=fun ho=>by
 rcases h.down bm ho with h2|h2
 ·exact hbO h2
 ·omega
theorem cO.walk {w:World} {q:(Int × Int) × aC × (Int × Int)} {F:Int→Option Int} (h:cO O M w g gm nodes limbs q e w') (hm:kQ prog 3 3 w bm N0 F) (hb:¬O bm) (hg:bm≠gm):LY O M w g gm bm N0 nodes limbs (q.1,⟨F,q.2.1,q.2.2.1,q.2.2.2⟩) e w':=by
 obtain ⟨h1,⟨O2,q1,q2,q3,q4⟩,k⟩:=h;exact⟨h1,⟨O2,q1,q2,q3,q4,hm.keep k fun hm=>hm.elim hb hg⟩,k.mono fun b hb=>hb.elim .inl fun h=>.inr (.inl h)⟩
theorem lC.push {w1:World} {s:WSt} {v':Value} {out out':List Int} (h:lC O M W g gm bm pb N0 nodes limbs cs N Oj s v out wr) (hg:gm<W.heap.size) (hb:bm<W.heap.size) (hbO:¬O bm) (k1:aA Nil wr w1) (ho:aL w2 W.heap.size 3 1 v' (aO out')) (k2:aA (Own v) w1 w2) (hf:DZ w1 v v'):lC O M W g gm bm pb N0 nodes limbs cs N Oj s v' out' w2:=by
 have hs:=h.keep.size;have hs1:=k1.size;have hfar:∀b,v'.ownBlock=some b→¬Oj b:=fun b hb' hO=>by
  rcases hf b hb' with h2|h2
  ·exact h.far b h2 hO
  ·have:=h.arena.lt b hO;omega
 refine ⟨ho,hfar,(h.arena.keep k1 fun _ h=>h.elim).keep k2 fun b hb'=>h.far b hb',h.up,h.down,(h.jC.eO k1).move k2 (fun b _ hb'=>.inr (.inr hb')) fun b hlt hb'=>?_,(h.map.keep k1 id).keep k2 fun hm=>?_,(h.box.keep k1 id).keep k2 h.RG,h.MI,h.RB,fun e=>?_,(h.node.move k1 (fun _ _ h=>h.elim) fun _ _=>id).move k2 (fun b _ hb'=>.inr (.inr hb')) fun b hlt hb'=>?_,(h.keep.trans k1.of_nil).trans' k2 fun b hb'=>.inr (h.own.lt b hb').1⟩
 ·exact wF
 ·have:=(h.own.lt bm hm).1;omega
 ·rcases hf pb e with h2|h2
  ·exact h.RG h2
  ·have:=h.box.lt;omega
 ·exact wF
theorem lC.done {s:WSt} {out:List Int} {i e:Int} (h:lC O M W g gm bm pb N0 nodes limbs cs N Oj s v out wr):LY O M W g gm bm N0 nodes limbs ((i,e),s) (.returned (.tuple #[.int .i64 i,.int .i64 e])) wr:=
 ⟨rfl,⟨Oj,h.arena,h.up,h.down,h.jC.move (aA.refl Nil _) (fun _ _ h=>h.elim) (fun b _ hb=>hb.elim .inl fun h=>.inr (.inl h)),h.map⟩,h.keep⟩
theorem lC.note {s t:WSt} {out:List Int} (h:lC O M W g gm bm pb N0 nodes limbs cs N Oj s v out wr) (hb:bm<W.heap.size) (hbO:¬O bm) (hbM:M bm) (k2:aA (One bm) wr w2) (hmap:kQ prog 3 3 w2 bm N0 t.came) (hA:t.A=s.A) (hsp:t.sp=s.sp) (hov:t.ov=s.ov):lC O M W g gm bm pb N0 nodes limbs cs N Oj t v out w2:=by
 have hno:=h.aKI hb hbO;refine ⟨h.own.keep k2 fun b hb' (e:b=bm)=>?_,h.far,by rw [hA];exact h.arena.keep k2 fun b (e:b=bm)=>by rw [e];exact hno,h.up,h.down,by rw [hsp,hov];exact h.jC.move k2 (fun b _ (e:b=bm)=>by rw [e];exact .inl hbM) fun _ _=>id,hmap,h.box.keep k2 fun (e:pb=bm)=>?_,h.MI,h.RB,h.RG,h.node.move k2 (fun b _ (e:b=bm)=>.inl zZ) fun _ _=>id,h.keep.trans' k2 fun b (e:b=bm)=>.inl (.inr (.inr e))⟩
 ·have:=(h.own.lt b hb').1;omega
 ·have:=h.MI;omega
end
end Go.Proofs.Q
