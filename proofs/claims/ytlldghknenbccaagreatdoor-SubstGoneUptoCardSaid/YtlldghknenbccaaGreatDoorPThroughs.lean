/- What simp's through makes of a formula, plainly. -/
import Derived.Test.YtlldghknenbccaaGreatDoorPJoined
set_option linter.unusedSimpArgs false
set_option linter.unusedVariables false
namespace Go.Proofs.Q
open Go.RowKit Go.Maps Tryz
section
variable {x:Int} {f j:Nat} {I:aF→Int→Int→Prop} {A':aF}
structure WSt where
 came:Int→Option Int
 A:aF
 sp:Int
 ov:Int
def TurnF:Type:=aF→Int→Int→Int→List Int→(Int × Int) × aF × (Int × Int)
def cR (W:WSt→Int→(Int × Int) × WSt):WSt→List Int→List Int→(List Int × Int) × WSt
 | s,out,[]=>((out,0),s)
 | s,out,k::l=>if (W s k).1.2=0 then cR W (W s k).2 (out++[(W s k).1.1]) l else ((out,(W s k).1.2),(W s k).2)
def putC (F:Int→Option Int) (x y:Int):Int→Option Int:=fun u=>if u=x then some y else F u
def cI (T:TurnF):Nat→WSt→Int→(Int × Int) × WSt
 | 0,s,_=>((0,0),s)
 | f+1,s,x=>
  match s.came x with
  | some y=>((y,0),s)
  | none=>
   if (cR (cI T f) s [] (ndA s.A x).kids).1.2=0 then
    let r:=cR (cI T f) s [] (ndA s.A x).kids
    let q:=T r.2.A r.2.sp r.2.ov x r.1.1
    (q.1,⟨putC r.2.came x q.1.1,q.2.1,q.2.2.1,q.2.2.2⟩)
   else ((0,(cR (cI T f) s [] (ndA s.A x).kids).1.2),(cR (cI T f) s [] (ndA s.A x).kids).2)
theorem kidsM_snoc (W:WSt→Int→(Int × Int) × WSt) (k:Int):∀(l:List Int) (s:WSt) (out:List Int),(cR W s out l).1.2=0→cR W s out (l++[k])=if (W (cR W s out l).2 k).1.2=0 then (((cR W s out l).1.1++[(W (cR W s out l).2 k).1.1],0),(W (cR W s out l).2 k).2) else (((cR W s out l).1.1,(W (cR W s out l).2 k).1.2),(W (cR W s out l).2 k).2)
 | [],s,out,_=>rfl
 | j::l,s,out,h=>by
  rw [eZ3,cR];unfold cR at h;rw [cR];by_cases h0:(W s j).1.2=0
  ·rw [if_pos h0] at h⊢;rw [if_pos h0];exact kidsM_snoc W k l _ _ h
  ·rw [if_neg h0] at h;exact absurd h h0
theorem kidsM_stop (W:WSt→Int→(Int × Int) × WSt):∀(l:List Int) (s:WSt) (out m:List Int),(cR W s out l).1.2≠0→cR W s out (l++m)=cR W s out l
 | [],_,_,_,h=>absurd rfl h
 | j::l,s,out,m,h=>by
  unfold cR at h;by_cases h0:(W s j).1.2=0
  ·rw [if_pos h0] at h;simp only [eZ3,cR,if_pos h0];exact kidsM_stop W l _ _ m h
  ·simp only [eZ3,cR,if_neg h0]
theorem walkM_there {T:TurnF} {s:WSt} {y:Int} (h:s.came x=some y):cI T (f+1) s x=((y,0),s):=by
 rw [cI,h]
theorem walkM_err {T:TurnF} {s:WSt} {r:(List Int × Int) × WSt} (h:s.came x=none) (hr:cR (cI T f) s [] (ndA s.A x).kids=r) (he:r.1.2≠0):cI T (f+1) s x=((0,r.1.2),r.2):=by
 subst hr;rw [cI,h];simp only [];rw [if_neg he]
theorem walkM_turn {T:TurnF} {s t:WSt} {out:List Int} (h:s.came x=none) (hr:cR (cI T f) s [] (ndA s.A x).kids=((out,0),t)):cI T (f+1) s x=((T t.A t.sp t.ov x out).1,⟨putC t.came x (T t.A t.sp t.ov x out).1.1,(T t.A t.sp t.ov x out).2.1,(T t.A t.sp t.ov x out).2.2.1,(T t.A t.sp t.ov x out).2.2.2⟩):=by
 rw [cI,h];simp only [];rw [hr];simp only [if_pos]
def Ext (A A':aF):Prop:=∃t,A'.nodes=A.nodes++t
theorem Ext.refl (A:aF):Ext A A:=⟨[],by simp⟩
theorem Ext.trans {A B C:aF} (h:Ext A B) (k:Ext B C):Ext A C:=by
 obtain ⟨t,h⟩:=h;obtain ⟨u,k⟩:=k;exact⟨t++u,by rw [k,h,mZ2]⟩
theorem Ext.len {A:aF} (h:Ext A A'):A.nodes.length≤A'.nodes.length:=by obtain ⟨t,h⟩:=h;rw [h,aZ1];omega
theorem Ext.nd {A:aF} (h:Ext A A') (h0:0≤x) (h1:x<(A.nodes.length:Int)):ndA A' x=ndA A x:=by
 obtain ⟨t,h⟩:=h;unfold ndA;rw [h];simp [List.getD,List.getElem?_append_left (show x.toNat<A.nodes.length by omega)]
structure TurnOk (T:TurnF) (I:aF→Int→Int→Prop) (R:aF→Int→Prop):Prop where
 step:∀{A:aF} {sp ov x:Int} {ks:List Int},I A sp ov→0≤x→x<(A.nodes.length:Int)→(∀k∈ks,R A k)→ks.length=(ndA A x).kids.length→I (T A sp ov x ks).2.1 (T A sp ov x ks).2.2.1 (T A sp ov x ks).2.2.2∧Ext A (T A sp ov x ks).2.1∧((T A sp ov x ks).1.2=0→R (T A sp ov x ks).2.1 (T A sp ov x ks).1.1)
 mono:∀{A A':aF} {y:Int},R A y→Ext A A'→R A' y
 rng:∀{A:aF} {y:Int},R A y→0≤y∧y<(A.nodes.length:Int)
 below:∀{A:aF} {sp ov:Int},I A sp ov→Below A.nodes
def WOk (I:aF→Int→Int→Prop) (R:aF→Int→Prop) (s:WSt):Prop:=I s.A s.sp s.ov∧∀u y,s.came u=some y→R s.A y
def WKeep (I:aF→Int→Int→Prop) (R:aF→Int→Prop) (m:Int) (s:WSt) (e:Int) (t:WSt):Prop:=I t.A t.sp t.ov∧Ext s.A t.A∧(e=0→WOk I R t)∧∀u,m<u→t.came u=s.came u
theorem kidsM_ok {I:aF→Int→Int→Prop} {R:aF→Int→Prop} {W:WSt→Int→(Int × Int) × WSt} {m:Int} {N:Nat} (hm:∀{A A':aF} {y:Int},R A y→Ext A A'→R A' y) (H:∀s k,WOk I R s→N≤s.A.nodes.length→0≤k→k<m→k<(N:Int)→WKeep I R k s (W s k).1.2 (W s k).2∧((W s k).1.2=0→R (W s k).2.A (W s k).1.1)) :
  ∀(l:List Int) (s:WSt) (out:List Int),WOk I R s→N≤s.A.nodes.length→(∀k∈l,0≤k∧k<m∧k<(N:Int))→(∀o∈out,R s.A o)→WKeep I R (m-1) s (cR W s out l).1.2 (cR W s out l).2∧((cR W s out l).1.2=0→(∀o∈(cR W s out l).1.1,R (cR W s out l).2.A o)∧(cR W s out l).1.1.length=out.length+l.length)
 | [],s,out,hs,_,_,ho=>⟨⟨hs.1,Ext.refl _,fun _=>hs,fun _ _=>rfl⟩,fun _=>⟨ho,rfl⟩⟩
 | k::l,s,out,hs,hN,hl,ho=>by
  have hk:=hl k (kZ1 ..);obtain ⟨⟨q1,q2,q3,q4⟩,q5⟩:=H s k hs hN hk.1 hk.2.1 hk.2.2;unfold cR;by_cases h0:(W s k).1.2=0
  ·rw [if_pos h0];obtain ⟨⟨r1,r2,r3,r4⟩,r5⟩:=kidsM_ok (I:=I) (R:=R) (W:=W) (m:=m) (N:=N) hm H l (W s k).2 (out++[(W s k).1.1]) (q3 h0) (bZ1 hN q2.len) (fun j hj=>hl j (lZ1 _ hj)) fun o ho'=>by
    rcases jZ1.1 ho' with h|h
    ·exact hm (ho o h) q2
    ·rw [dZ1.1 h];exact q5 h0
   refine ⟨⟨r1,q2.trans r2,r3,fun u hu=>(r4 u hu).trans (q4 u (by omega))⟩,fun he=>⟨(r5 he).1,?_⟩⟩;rw [(r5 he).2];simp only [aZ1,gZ1,gZ2];omega
  ·rw [if_neg h0];exact⟨⟨q1,q2,fun e=>absurd e h0,fun u hu=>q4 u (by omega)⟩,fun e=>absurd e h0⟩
theorem walkM_ok {T:TurnF} {I:aF→Int→Int→Prop} {R:aF→Int→Prop} (hT:TurnOk T I R):∀(f:Nat) (s:WSt) (x:Int),WOk I R s→x.toNat<f→0≤x→x<(s.A.nodes.length:Int)→WKeep I R x s (cI T f s x).1.2 (cI T f s x).2∧((cI T f s x).1.2=0→R (cI T f s x).2.A (cI T f s x).1.1)
 | 0,_,_,_,h,_,_=>by omega
 | f+1,s,x,hs,hf,h0,h1=>by
  cases hc:s.came x with
  | some y=>
   rw [walkM_there hc];exact⟨⟨hs.1,Ext.refl _,fun _=>hs,fun _ _=>rfl⟩,fun _=>hs.2 x y hc⟩
  | none=>
   have hk:=kidsM_ok (I:=I) (R:=R) (W:=cI T f) (m:=x) (N:=s.A.nodes.length) hT.mono (fun s' k hs' hN hk0 hkx hkN=>walkM_ok hT f s' k hs' (by omega) hk0 (by omega)) (ndA s.A x).kids s [] hs (bZ2 _) (fun k hk=>by have:=(hT.below hs.1).kid h0 h1 hk;omega) (fun o ho=>by cases ho);obtain ⟨r,hr⟩:∃r,cR (cI T f) s [] (ndA s.A x).kids=r:=⟨_,rfl⟩;rw [hr] at hk;obtain ⟨⟨q1,q2,q3,q4⟩,q5⟩:=hk;by_cases he:r.1.2=0
   ·obtain ⟨⟨out,e⟩,t⟩:=r;obtain rfl:e=0:=he;obtain ⟨q6,q7⟩:=q5 rfl;have hlen:x<(t.A.nodes.length:Int):=by have:=q2.len;simp only at this;omega
    obtain ⟨p1,p2,p3⟩:=hT.step (x:=x) (ks:=out) q1 h0 hlen q6 (by rw [q2.nd h0 h1];simpa using q7);rw [walkM_turn hc hr];refine ⟨⟨p1,q2.trans p2,fun e=>⟨p1,fun u y hu=>?_⟩,fun u hu=>?_⟩,p3⟩
    ·simp only [putC] at hu;by_cases hux:u=x
     ·rw [if_pos hux] at hu;cases hu;exact p3 e
     ·rw [if_neg hux] at hu;exact hT.mono ((q3 rfl).2 u y hu) p2
    ·show putC t.came x _ u=_
     unfold putC;rw [if_neg (by omega)];exact q4 u (by omega)
   ·rw [walkM_err hc hr he];exact⟨⟨q1,q2,fun e=>absurd e he,fun u hu=>q4 u (by omega)⟩,fun e=>absurd e he⟩
theorem kids_walk {T:TurnF} {R:aF→Int→Prop} (hT:TurnOk T I R) {s t:WSt} {out:List Int} (hs:WOk I R s) (hf:x.toNat<f+1) (h0:0≤x) (h1:x<(s.A.nodes.length:Int)) (hj:j≤(ndA s.A x).kids.length) (hr:cR (cI T f) s [] ((ndA s.A x).kids.take j)=((out,0),t)):WOk I R t∧Ext s.A t.A∧(∀o∈out,R t.A o)∧out.length=j∧∀u,x≤u→t.came u=s.came u:=by
 have hk:=kidsM_ok (I:=I) (R:=R) (W:=cI T f) (m:=x) (N:=s.A.nodes.length) hT.mono (fun s' k hs' hN hk0 hkx hkN=>walkM_ok hT f s' k hs' (by omega) hk0 (by omega)) ((ndA s.A x).kids.take j) s [] hs (bZ2 _) (fun k hk=>by have:=(hT.below hs.1).kid h0 h1 (bZ3 hk);omega) (fun o ho=>by cases ho);rw [hr] at hk;obtain ⟨⟨q1,q2,q3,q4⟩,q5⟩:=hk;obtain ⟨q6,q7⟩:=q5 rfl;refine ⟨q3 rfl,q2,q6,?_,fun u hu=>q4 u (by omega)⟩;simp only [iZ1,gZ2] at q7;omega
end
section
def cntF (F:Int→Option Int) (N:Nat):Nat:=((List.range N).filter fun u:Nat=>(F (u:Int)).isSome).length
theorem cntF_le (F:Int→Option Int) (N:Nat):cntF F N≤N:=by
 have:=List.length_filter_le (fun u:Nat=>(F (u:Int)).isSome) (List.range N);simpa [cntF] using this
theorem cntF_succ (F:Int→Option Int) (N:Nat):cntF F (N+1)=cntF F N+if (F (N:Int)).isSome then 1 else 0:=by
 unfold cntF;rw [List.range_succ,List.filter_append,aZ1];congr 1;by_cases h:(F (N:Int)).isSome<;>simp [h]
theorem cntF_put {F:Int→Option Int} {x y:Int} (h0:0≤x) (hF:F x=none):∀{N:Nat},cntF (fun u=>if u=x then some y else F u) N=cntF F N+if x<(N:Int) then 1 else 0
 | 0=>by rw [if_neg (by omega)];rfl
 | N+1=>by
  have ih:=cntF_put (y:=y) h0 hF (N:=N);rw [cntF_succ,cntF_succ,ih];by_cases hx:(N:Int)=x
  ·have h1:¬x<(N:Int):=by omega
   have h2:x<((N+1:Nat):Int):=by omega
   rw [if_neg h1,if_pos h2,if_pos hx,hx,hF];simp
  ·rw [if_neg hx];generalize (if (F (N:Int)).isSome=true then 1 else 0)=q;by_cases h1:x<(N:Int)
   ·have h2:x<((N+1:Nat):Int):=by omega
    rw [if_pos h1,if_pos h2];omega
   ·have h2:¬x<((N+1:Nat):Int):=by omega
    rw [if_neg h1,if_neg h2];omega
def OMap (P:Program) (kt et:TypeId) (w:World) (b N:Nat) (F:Int→Option Int):Prop:=
 ∃D:DataW Unit,w.ownsMap P kt (plainElem P et) b (cntF F N) D∧∀v,I64' v→Maps.has D (.int .i64 v)=(F v).isSome∧∀i,F v=some i→D.atKey (.int .i64 v) (.lit (.int .i64 0))=.lit (.int .i64 i)
theorem OMap.keep {P:Program} {kt et:TypeId} {M:Nat→Prop} {w w':World} {b n:Nat} {F:Int→Option Int} (h:OMap P kt et w b n F) (k:aA M w w') (hn:¬M b):OMap P kt et w' b n F:=by
 obtain ⟨D,q1,q2⟩:=h;refine ⟨D,?_,q2⟩;have hlt:=q1.lt;obtain ⟨es,clock,hb,F,hs,hD⟩:=q1;exact⟨es,clock,(k.block b hlt hn).trans hb,F,hs,hD⟩
theorem OMap.made {P:Program} {kt et:TypeId} (w:World) (N:Nat):OMap P kt et (w.alloc (.map #[] 0)) w.heap.size N fun _=>none:=by
 refine ⟨.map [],?_,fun t _=>⟨rfl,fun i h=>by cases h⟩⟩;rw [show cntF (fun _=>none) N=0 by unfold cntF;simp];exact World.ownsMap_made _ _ _ _
theorem OMap.lt {P:Program} {kt et:TypeId} {w:World} {b n:Nat} {F:Int→Option Int} (h:OMap P kt et w b n F):b<w.heap.size:=by obtain ⟨D,q,_⟩:=h;exact q.lt
section
variable {P:Program} (w:World) {ops:Array Oper} {rest:List Oper} {o:Oper} {a:Act} {Q:Exit→Act→World→Prop}
theorem wpList_omap_look (hg:o.guard=none) (m x:Operand) (t:TypeId) (hop:o.op=Op.lookup t m x true) (kt et:TypeId) (hk:P.underlying kt=some (.int .i64)) (ht:P.underlying t=some (.map kt et)) (he:P.underlying et=some (.int .i64)) (hz:(zeroValue et).run P w=.ok (.int .i64 0) w)
  (b n:Nat) (F:Int→Option Int) (hm:a.eval m=.map (some b)) (hF:OMap P kt et w b n F) (s:Int) (hx:a.eval x=.int .i64 s) (hs:I64' s)
  (hK:∀c:Int,(∀i,F s=some i→c=i)→wpList P ops Q rest (a.put o.dst (.tuple #[.int .i64 c,.bool (F s).isSome])) w):wpList P ops Q (o::rest) a w:=by
 obtain ⟨D,q1,q2⟩:=hF;obtain ⟨r1,r2⟩:=q2 s hs;refine wpList_lookup_own_ok_int w hg m x t hop kt et .i64 (int_keyed hk) ht he hz b _ D hm q1 _ (.int .i64 s) hx (key_i64 hk hs) ?_;intro c hc _;rw [r1];refine hK c fun i hi=>?_;have h:=hc.symm.trans (r2 i hi);simp only [DataW.lit.injEq,Lit.int.injEq,true_and] at h;exact h
theorem cM (hg:o.guard=none) (m x v:Operand) (t:TypeId) (hop:o.op=Op.mapUpdate t m x v) (kt et:TypeId) (hk:P.underlying kt=some (.int .i64)) (ht:P.underlying t=some (.map kt et)) (he:P.underlying et=some (.int .i64))
  (b n:Nat) (F:Int→Option Int) (hm:a.eval m=.map (some b)) (hF:OMap P kt et w b n F) (hn:n<maxLen) (s i:Int) (hx:a.eval x=.int .i64 s) (hs:I64' s) (hs0:0≤s) (hsn:s<(n:Int)) (hno:F s=none) (hv:a.eval v=.int .i64 i) (hi:I64' i)
  (hK:∀w',OMap P kt et w' b n (fun t=>if t=s then some i else F t)→aA (One b) w w'→wpList P ops Q rest (a.put o.dst undef) w'):wpList P ops Q (o::rest) a w:=by
 obtain ⟨D,q1,q2⟩:=hF;have hc:=cntF_le F n;refine wpList_mapUpdate_own w hg m x v t hop kt et (int_keyed hk) ht (plainElem P et) b _ D hm q1 (by omega) _ _ (.int .i64 s) hx hv (key_i64 hk hs) (.lit (.int .i64 i)) [] (plainElem_int he (WalkArith.wf_i64 hi)) ?_;intro w' r1 r2;have hM:=(q1.tidy (int_keyed hk)).isMap;refine hK w' ⟨_,by rw [cntF_put hs0 hno,if_pos hsn];exact r1,fun u hu=>?_⟩ (aA.ofGrown r2);by_cases hus:u=s
 ·subst hus;show _=(if u=u then some i else F u).isSome∧∀j,(if u=u then some i else F u)=some j→_
  rw [if_pos rfl];refine ⟨by rw [Maps.has_put_same hM (show WideAt.IsKeyLit (Lit.int .i64 u) from trivial)];rfl,fun j hj=>?_⟩;cases hj;exact atKey_put_same hM (show WideAt.IsKeyLit (Lit.int .i64 u) from trivial) _ _
 ·show _=(if u=s then some i else F u).isSome∧∀j,(if u=s then some i else F u)=some j→_
  rw [if_neg hus];have hne:(Lit.int .i64 u)≠(Lit.int .i64 s):=fun e=>hus (by simpa using e);rw [Maps.has_put_other hne];refine ⟨(q2 u hu).1,fun j hj=>?_⟩;rw [atKey_put_other hne];exact (q2 u hu).2 j hj
end
end
section
variable {cs:List Value} {nodes limbs:Int} {v:Value} {O M Oj:Nat→Prop} {N:aS} {wr W w' w2:World} {gm bm N0 pb g:Nat} {e:Ending}
def WStep (O M:Nat→Prop) (w:World) (g gm bm N0:Nat) (nodes limbs:Int) (r:(Int × Int) × WSt) (e:Ending) (w':World):Prop:=
 e=.returned (.tuple #[.int .i64 r.1.1,.int .i64 r.1.2])∧(∃O':Nat→Prop,bX O' w' g gm r.2.A∧(∀b,O b→O' b)∧(∀b,O' b→O b∨w.heap.size≤b)∧bK (fun b=>M b∨O' b) w' gm nodes limbs r.2.sp r.2.ov∧OMap prog 3 3 w' bm N0 r.2.came)∧aA (fun b=>O b∨b=gm∨b=bm) w w'
structure WalkAt (O M:Nat→Prop) (W:World) (g gm bm pb N0:Nat) (nodes limbs:Int) (cs:List Value) (N:aS) (Oj:Nat→Prop) (s:WSt) (v:Value) (out:List Int) (wr:World):Prop where
 own:aL wr W.heap.size 3 1 v (aM out)
 far:∀b,v.ownBlock=some b→¬Oj b
 arena:bX Oj wr g gm s.A
 up:∀b,O b→Oj b
 down:∀b,Oj b→O b∨W.heap.size≤b
 meter:bK (fun b=>M b∨Oj b∨v.ownBlock=some b) wr gm nodes limbs s.sp s.ov
 map:OMap prog 3 3 wr bm N0 s.came
 box:aC wr pb 59 cs
 boxN:W.heap.size≤pb
 boxO:¬Oj pb
 boxV:v.ownBlock≠some pb
 node:NodeR (fun b=>b<W.heap.size∨Oj b∨v.ownBlock=some b) wr cs N
 keep:aA (fun b=>O b∨b=gm∨b=bm) W wr
theorem WalkAt.step {s:WSt} {out:List Int} {r:(Int × Int) × WSt} (h:WalkAt O M W g gm bm pb N0 nodes limbs cs N Oj s v out wr) (hg:gm<W.heap.size) (hb:bm<W.heap.size) (hst:WStep Oj (fun b=>M b∨Oj b∨v.ownBlock=some b) wr g gm bm N0 nodes limbs r e w') :
  e=.returned (.tuple #[.int .i64 r.1.1,.int .i64 r.1.2])∧∃O2:Nat→Prop,WalkAt O M W g gm bm pb N0 nodes limbs cs N O2 r.2 v out w':=by
 obtain ⟨h1,⟨O2,q1,q2,q3,q4,q5⟩,k⟩:=hst;have hs:=h.keep.size;refine ⟨h1,O2,h.own.keep k fun b hb' hm=>?_,fun b hb' ho=>?_,q1,fun b hb'=>q2 b (h.up b hb'),fun b hb'=>?_,q4.move (aA.refl Nil w') (fun _ _ h=>h.elim) fun b _ hb'=>?_,q5,h.box.keep k fun hm=>?_,h.boxN,fun ho=>?_,h.boxV,h.node.move k (fun b _ hm=>?_) fun b hlt hm=>?_,h.keep.trans' k fun b hm=>?_⟩
 ·have:=(h.own.lt b hb').1;rcases hm with hm|hm|hm
  ·exact h.far b hb' hm
  ·omega
  ·omega
 ·rcases q3 b ho with h2|h2
  ·exact h.far b hb' h2
  ·have:=(h.own.lt b hb').2;omega
 ·rcases q3 b hb' with h2|h2
  ·exact h.down b h2
  ·right;omega
 ·rcases hb' with hb'|hb'|hb'
  ·exact .inl (.inl hb')
  ·exact .inr hb'
  ·exact .inl (.inr (.inr hb'))
 ·have:=h.boxN;rcases hm with hm|hm|hm
  ·exact h.boxO hm
  ·omega
  ·omega
 ·rcases q3 pb ho with h2|h2
  ·exact h.boxO h2
  ·have:=h.box.lt;omega
 ·rcases hm with hm|hm|hm
  ·exact .inr (.inl hm)
  ·left;omega
  ·left;omega
 ·rcases hm with hm|hm|hm
  ·exact .inl hm
  ·rcases q3 b hm with h2|h2
   ·exact .inr (.inl h2)
   ·omega
  ·exact .inr (.inr hm)
 ·rcases hm with hm|hm
  ·rcases h.down b hm with h2|h2
   ·exact .inl (.inl h2)
   ·exact .inr h2
  ·exact .inl (.inr hm)
theorem WalkAt.noMap {s:WSt} {out:List Int} (h:WalkAt O M W g gm bm pb N0 nodes limbs cs N Oj s v out wr) (hb:bm<W.heap.size) (hbO:¬O bm):¬Oj bm:=fun ho=>by
 rcases h.down bm ho with h2|h2
 ·exact hbO h2
 ·omega
theorem cK.walk {w:World} {q:(Int × Int) × aF × (Int × Int)} {F:Int→Option Int} (h:cK O M w g gm nodes limbs q e w') (hm:OMap prog 3 3 w bm N0 F) (hb:¬O bm) (hg:bm≠gm):WStep O M w g gm bm N0 nodes limbs (q.1,⟨F,q.2.1,q.2.2.1,q.2.2.2⟩) e w':=by
 obtain ⟨h1,⟨O2,q1,q2,q3,q4⟩,k⟩:=h;exact⟨h1,⟨O2,q1,q2,q3,q4,hm.keep k fun hm=>hm.elim hb hg⟩,k.mono fun b hb=>hb.elim .inl fun h=>.inr (.inl h)⟩
theorem WalkAt.push {w1:World} {s:WSt} {v':Value} {out out':List Int} (h:WalkAt O M W g gm bm pb N0 nodes limbs cs N Oj s v out wr) (hg:gm<W.heap.size) (hb:bm<W.heap.size) (hbO:¬O bm) (k1:aA Nil wr w1) (ho:aL w2 W.heap.size 3 1 v' (aM out')) (k2:aA (Own v) w1 w2) (hf:Fresh w1 v v'):WalkAt O M W g gm bm pb N0 nodes limbs cs N Oj s v' out' w2:=by
 have hs:=h.keep.size;have hs1:=k1.size;have hfar:∀b,v'.ownBlock=some b→¬Oj b:=fun b hb' hO=>by
  rcases hf b hb' with h2|h2
  ·exact h.far b h2 hO
  ·have:=h.arena.lt b hO;omega
 refine ⟨ho,hfar,(h.arena.keep k1 fun _ h=>h.elim).keep k2 fun b hb'=>h.far b hb',h.up,h.down,(h.meter.keepNil k1).move k2 (fun b _ hb'=>.inr (.inr hb')) fun b hlt hb'=>?_,(h.map.keep k1 id).keep k2 fun hm=>?_,(h.box.keep k1 id).keep k2 h.boxV,h.boxN,h.boxO,fun e=>?_,(h.node.move k1 (fun _ _ h=>h.elim) fun _ _=>id).move k2 (fun b _ hb'=>.inr (.inr hb')) fun b hlt hb'=>?_,(h.keep.trans k1.of_nil).trans' k2 fun b hb'=>.inr (h.own.lt b hb').1⟩
 ·rcases hb' with hb'|hb'|hb'
  ·exact .inl hb'
  ·exact .inr (.inl hb')
  ·rcases hf b hb' with h2|h2
   ·exact .inr (.inr h2)
   ·omega
 ·have:=(h.own.lt bm hm).1;omega
 ·rcases hf pb e with h2|h2
  ·exact h.boxV h2
  ·have:=h.box.lt;omega
 ·rcases hb' with hb'|hb'|hb'
  ·exact .inl hb'
  ·exact .inr (.inl hb')
  ·rcases hf b hb' with h2|h2
   ·exact .inr (.inr h2)
   ·omega
theorem WalkAt.done {s:WSt} {out:List Int} {i e:Int} (h:WalkAt O M W g gm bm pb N0 nodes limbs cs N Oj s v out wr):WStep O M W g gm bm N0 nodes limbs ((i,e),s) (.returned (.tuple #[.int .i64 i,.int .i64 e])) wr:=
 ⟨rfl,⟨Oj,h.arena,h.up,h.down,h.meter.move (aA.refl Nil _) (fun _ _ h=>h.elim) (fun b _ hb=>hb.elim .inl fun h=>.inr (.inl h)),h.map⟩,h.keep⟩
theorem WalkAt.note {s t:WSt} {out:List Int} (h:WalkAt O M W g gm bm pb N0 nodes limbs cs N Oj s v out wr) (hb:bm<W.heap.size) (hbO:¬O bm) (hbM:M bm) (k2:aA (One bm) wr w2) (hmap:OMap prog 3 3 w2 bm N0 t.came) (hA:t.A=s.A) (hsp:t.sp=s.sp) (hov:t.ov=s.ov):WalkAt O M W g gm bm pb N0 nodes limbs cs N Oj t v out w2:=by
 have hno:=h.noMap hb hbO;refine ⟨h.own.keep k2 fun b hb' (e:b=bm)=>?_,h.far,by rw [hA];exact h.arena.keep k2 fun b (e:b=bm)=>by rw [e];exact hno,h.up,h.down,by rw [hsp,hov];exact h.meter.move k2 (fun b _ (e:b=bm)=>by rw [e];exact .inl hbM) fun _ _=>id,hmap,h.box.keep k2 fun (e:pb=bm)=>?_,h.boxN,h.boxO,h.boxV,h.node.move k2 (fun b _ (e:b=bm)=>.inl (by omega)) fun _ _=>id,h.keep.trans' k2 fun b (e:b=bm)=>.inl (.inr (.inr e))⟩
 ·have:=(h.own.lt b hb').1;omega
 ·have:=h.boxN;omega
end
end Go.Proofs.Q
