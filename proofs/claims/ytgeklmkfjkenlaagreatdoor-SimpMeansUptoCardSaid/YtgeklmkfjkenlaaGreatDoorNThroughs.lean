/- What simp's through makes of a formula, plainly. -/
import Derived.Test.YtgeklmkfjkenlaaGreatDoorNJoined
set_option linter.unusedSimpArgs false
set_option linter.unusedVariables false
set_option maxRecDepth 100000
set_option maxHeartbeats 4000000
namespace Go.Proofs.Q
open Go.RowKit Go.Maps Tryz
section
variable {I:aF→Int→Int→Prop} {x:Int} {f j:Nat} {A':aF}
structure WSt where
 came:Int→Option Int
 A:aF
 sp:Int
 ov:Int
def TurnF:Type:=aF→Int→Int→Int→List Int→(Int × Int) × aF × (Int × Int)
def dI (W:WSt→Int→(Int × Int) × WSt):WSt→List Int→List Int→(List Int × Int) × WSt
 | s,out,[]=>((out,0),s)
 | s,out,k::l=>if (W s k).1.2=0 then dI W (W s k).2 (out++[(W s k).1.1]) l else ((out,(W s k).1.2),(W s k).2)
def putC (F:Int→Option Int) (x y:Int):Int→Option Int:=fun u=>if u=x then some y else F u
def cX (T:TurnF):Nat→WSt→Int→(Int × Int) × WSt
 | 0,s,_=>((0,0),s)
 | f+1,s,x=>
  match s.came x with
  | some y=>((y,0),s)
  | none=>
   if (dI (cX T f) s [] (ndA s.A x).kids).1.2=0 then
    let r:=dI (cX T f) s [] (ndA s.A x).kids
    let q:=T r.2.A r.2.sp r.2.ov x r.1.1
    (q.1,⟨putC r.2.came x q.1.1,q.2.1,q.2.2.1,q.2.2.2⟩)
   else ((0,(dI (cX T f) s [] (ndA s.A x).kids).1.2),(dI (cX T f) s [] (ndA s.A x).kids).2)
theorem kidsM_snoc (W:WSt→Int→(Int × Int) × WSt) (k:Int):∀(l:List Int) (s:WSt) (out:List Int),(dI W s out l).1.2=0→dI W s out (l++[k])=if (W (dI W s out l).2 k).1.2=0 then (((dI W s out l).1.1++[(W (dI W s out l).2 k).1.1],0),(W (dI W s out l).2 k).2) else (((dI W s out l).1.1,(W (dI W s out l).2 k).1.2),(W (dI W s out l).2 k).2)
 | [],s,out,_=>rfl
 | j::l,s,out,h=>by
  rw [fZ3,dI];unfold dI at h;rw [dI];by_cases h0:(W s j).1.2=0
  ·rw [if_pos h0] at h⊢;rw [if_pos h0];exact kidsM_snoc W k l _ _ h
  ·rw [if_neg h0] at h;exact absurd h h0
theorem kidsM_stop (W:WSt→Int→(Int × Int) × WSt):∀(l:List Int) (s:WSt) (out m:List Int),(dI W s out l).1.2≠0→dI W s out (l++m)=dI W s out l
 | [],_,_,_,h=>absurd rfl h
 | j::l,s,out,m,h=>by
  unfold dI at h;by_cases h0:(W s j).1.2=0
  ·rw [if_pos h0] at h;simp only [fZ3,dI,if_pos h0];exact kidsM_stop W l _ _ m h
  ·simp only [fZ3,dI,if_neg h0]
theorem walkM_there {T:TurnF} {s:WSt} {y:Int} (h:s.came x=some y):cX T (f+1) s x=((y,0),s):=by
 rw [cX,h]
theorem walkM_err {T:TurnF} {s:WSt} {r:(List Int × Int) × WSt} (h:s.came x=none) (hr:dI (cX T f) s [] (ndA s.A x).kids=r) (he:r.1.2≠0):cX T (f+1) s x=((0,r.1.2),r.2):=by
 subst hr;rw [cX,h];simp only [];rw [if_neg he]
theorem walkM_turn {T:TurnF} {s t:WSt} {out:List Int} (h:s.came x=none) (hr:dI (cX T f) s [] (ndA s.A x).kids=((out,0),t)):cX T (f+1) s x=((T t.A t.sp t.ov x out).1,⟨putC t.came x (T t.A t.sp t.ov x out).1.1,(T t.A t.sp t.ov x out).2.1,(T t.A t.sp t.ov x out).2.2.1,(T t.A t.sp t.ov x out).2.2.2⟩):=by
 rw [cX,h];simp only [];rw [hr];simp only [if_pos]
def cA (T:TurnF) (A:aF) (sp ov id:Int):(Int × Int) × aF × (Int × Int):=
 if hasK A id=false then ((0,80),A,(sp,ov))
 else ((cX T (id.toNat+1) ⟨fun _=>none,A,sp,ov⟩ id).1,(cX T (id.toNat+1) ⟨fun _=>none,A,sp,ov⟩ id).2.A,((cX T (id.toNat+1) ⟨fun _=>none,A,sp,ov⟩ id).2.sp,(cX T (id.toNat+1) ⟨fun _=>none,A,sp,ov⟩ id).2.ov))
def Ext (A A':aF):Prop:=∃t,A'.nodes=A.nodes++t
theorem Ext.refl (A:aF):Ext A A:=⟨[],by simp⟩
theorem Ext.trans {A B C:aF} (h:Ext A B) (k:Ext B C):Ext A C:=by
 obtain ⟨t,h⟩:=h;obtain ⟨u,k⟩:=k;exact⟨t++u,by rw [k,h,mZ2]⟩
theorem Ext.len {A:aF} (h:Ext A A'):A.nodes.length≤A'.nodes.length:=by obtain ⟨t,h⟩:=h;rw [h,aZ1];omega
theorem Ext.nd {A:aF} (h:Ext A A') (h0:0≤x) (h1:x<(A.nodes.length:Int)):ndA A' x=ndA A x:=by
 obtain ⟨t,h⟩:=h;unfold ndA;rw [h];simp [List.getD,List.getElem?_append_left (show x.toNat<A.nodes.length by omega)]
structure TurnOk (T:TurnF) (I:aF→Int→Int→Prop) (R:aF→Int→Prop):Prop where
 step:∀{A:aF} {sp ov x:Int} {ks:List Int},I A sp ov→0≤x→x<(A.nodes.length:Int)→(∀k∈ks,R A k)→ks.length=(ndA A x).kids.length→I (T A sp ov x ks).2.1 (T A sp ov x ks).2.2.1 (T A sp ov x ks).2.2.2∧Ext A (T A sp ov x ks).2.1∧((T A sp ov x ks).1.2=0→R (T A sp ov x ks).2.1 (T A sp ov x ks).1.1)
 mono:∀{A A':aF} {y:Int},R A y→Ext A A'→R A' y
 rng:∀{A:aF} {y:Int},R A y→0≤y∧y<(A.nodes.length:Int)
 below:∀{A:aF} {sp ov:Int},I A sp ov→Below A.nodes
def WOk (I:aF→Int→Int→Prop) (R:aF→Int→Prop) (s:WSt):Prop:=I s.A s.sp s.ov∧∀u y,s.came u=some y→R s.A y
def WKeep (I:aF→Int→Int→Prop) (R:aF→Int→Prop) (m:Int) (s:WSt) (e:Int) (t:WSt):Prop:=I t.A t.sp t.ov∧Ext s.A t.A∧(e=0→WOk I R t)∧∀u,m<u→t.came u=s.came u
theorem kidsM_ok {I:aF→Int→Int→Prop} {R:aF→Int→Prop} {W:WSt→Int→(Int × Int) × WSt} {m:Int} {N:Nat} (hm:∀{A A':aF} {y:Int},R A y→Ext A A'→R A' y) (H:∀s k,WOk I R s→N≤s.A.nodes.length→0≤k→k<m→k<(N:Int)→WKeep I R k s (W s k).1.2 (W s k).2∧((W s k).1.2=0→R (W s k).2.A (W s k).1.1)) :
  ∀(l:List Int) (s:WSt) (out:List Int),WOk I R s→N≤s.A.nodes.length→(∀k∈l,0≤k∧k<m∧k<(N:Int))→(∀o∈out,R s.A o)→WKeep I R (m-1) s (dI W s out l).1.2 (dI W s out l).2∧((dI W s out l).1.2=0→(∀o∈(dI W s out l).1.1,R (dI W s out l).2.A o)∧(dI W s out l).1.1.length=out.length+l.length)
 | [],s,out,hs,_,_,ho=>⟨⟨hs.1,Ext.refl _,fun _=>hs,fun _ _=>rfl⟩,fun _=>⟨ho,rfl⟩⟩
 | k::l,s,out,hs,hN,hl,ho=>by
  have hk:=hl k (kZ1 ..);obtain ⟨⟨q1,q2,q3,q4⟩,q5⟩:=H s k hs hN hk.1 hk.2.1 hk.2.2;unfold dI;by_cases h0:(W s k).1.2=0
  ·rw [if_pos h0];obtain ⟨⟨r1,r2,r3,r4⟩,r5⟩:=kidsM_ok (I:=I) (R:=R) (W:=W) (m:=m) (N:=N) hm H l (W s k).2 (out++[(W s k).1.1]) (q3 h0) (bZ1 hN q2.len) (fun j hj=>hl j (lZ1 _ hj)) fun o ho'=>by
    rcases jZ1.1 ho' with h|h
    ·exact hm (ho o h) q2
    ·rw [dZ1.1 h];exact q5 h0
   refine ⟨⟨r1,q2.trans r2,r3,fun u hu=>(r4 u hu).trans (q4 u (by omega))⟩,fun he=>⟨(r5 he).1,?_⟩⟩;rw [(r5 he).2];simp only [aZ1,gZ1,gZ2];omega
  ·rw [if_neg h0];exact⟨⟨q1,q2,fun e=>absurd e h0,fun u hu=>q4 u (by omega)⟩,fun e=>absurd e h0⟩
theorem walkM_ok {T:TurnF} {I:aF→Int→Int→Prop} {R:aF→Int→Prop} (hT:TurnOk T I R):∀(f:Nat) (s:WSt) (x:Int),WOk I R s→x.toNat<f→0≤x→x<(s.A.nodes.length:Int)→WKeep I R x s (cX T f s x).1.2 (cX T f s x).2∧((cX T f s x).1.2=0→R (cX T f s x).2.A (cX T f s x).1.1)
 | 0,_,_,_,h,_,_=>by omega
 | f+1,s,x,hs,hf,h0,h1=>by
  cases hc:s.came x with
  | some y=>
   rw [walkM_there hc];exact⟨⟨hs.1,Ext.refl _,fun _=>hs,fun _ _=>rfl⟩,fun _=>hs.2 x y hc⟩
  | none=>
   have hk:=kidsM_ok (I:=I) (R:=R) (W:=cX T f) (m:=x) (N:=s.A.nodes.length) hT.mono (fun s' k hs' hN hk0 hkx hkN=>walkM_ok hT f s' k hs' (by omega) hk0 (by omega)) (ndA s.A x).kids s [] hs (bZ2 _) (fun k hk=>by have:=(hT.below hs.1).kid h0 h1 hk;omega) (fun o ho=>by cases ho);obtain ⟨r,hr⟩:∃r,dI (cX T f) s [] (ndA s.A x).kids=r:=⟨_,rfl⟩;rw [hr] at hk;obtain ⟨⟨q1,q2,q3,q4⟩,q5⟩:=hk;by_cases he:r.1.2=0
   ·obtain ⟨⟨out,e⟩,t⟩:=r;obtain rfl:e=0:=he;obtain ⟨q6,q7⟩:=q5 rfl;have hlen:x<(t.A.nodes.length:Int):=by have:=q2.len;simp only at this;omega
    obtain ⟨p1,p2,p3⟩:=hT.step (x:=x) (ks:=out) q1 h0 hlen q6 (by rw [q2.nd h0 h1];simpa using q7);rw [walkM_turn hc hr];refine ⟨⟨p1,q2.trans p2,fun e=>⟨p1,fun u y hu=>?_⟩,fun u hu=>?_⟩,p3⟩
    ·simp only [putC] at hu;by_cases hux:u=x
     ·rw [if_pos hux] at hu;cases hu;exact p3 e
     ·rw [if_neg hux] at hu;exact hT.mono ((q3 rfl).2 u y hu) p2
    ·show putC t.came x _ u=_
     unfold putC;rw [if_neg (by omega)];exact q4 u (by omega)
   ·rw [walkM_err hc hr he];exact⟨⟨q1,q2,fun e=>absurd e he,fun u hu=>q4 u (by omega)⟩,fun e=>absurd e he⟩
theorem kids_walk {T:TurnF} {R:aF→Int→Prop} (hT:TurnOk T I R) {s t:WSt} {out:List Int} (hs:WOk I R s) (hf:x.toNat<f+1) (h0:0≤x) (h1:x<(s.A.nodes.length:Int)) (hj:j≤(ndA s.A x).kids.length) (hr:dI (cX T f) s [] ((ndA s.A x).kids.take j)=((out,0),t)):WOk I R t∧Ext s.A t.A∧(∀o∈out,R t.A o)∧out.length=j∧∀u,x≤u→t.came u=s.came u:=by
 have hk:=kidsM_ok (I:=I) (R:=R) (W:=cX T f) (m:=x) (N:=s.A.nodes.length) hT.mono (fun s' k hs' hN hk0 hkx hkN=>walkM_ok hT f s' k hs' (by omega) hk0 (by omega)) ((ndA s.A x).kids.take j) s [] hs (bZ2 _) (fun k hk=>by have:=(hT.below hs.1).kid h0 h1 (bZ3 hk);omega) (fun o ho=>by cases ho);rw [hr] at hk;obtain ⟨⟨q1,q2,q3,q4⟩,q5⟩:=hk;obtain ⟨q6,q7⟩:=q5 rfl;refine ⟨q3 rfl,q2,q6,?_,fun u hu=>q4 u (by omega)⟩;simp only [iZ1,gZ2] at q7;omega
theorem throughM_ok {T:TurnF} {R:aF→Int→Prop} (hT:TurnOk T I R) {A:aF} {sp ov id:Int} (h:I A sp ov):I (cA T A sp ov id).2.1 (cA T A sp ov id).2.2.1 (cA T A sp ov id).2.2.2∧Ext A (cA T A sp ov id).2.1∧((cA T A sp ov id).1.2=0→R (cA T A sp ov id).2.1 (cA T A sp ov id).1.1):=by
 unfold cA;cases hk:hasK A id
 ·exact⟨h,Ext.refl _,fun e=>by simp at e⟩
 ·have hk':0≤id∧id<(A.nodes.length:Int):=by unfold hasK at hk;exact of_decide_eq_true hk
  obtain ⟨⟨q1,q2,-,-⟩,q5⟩:=walkM_ok hT (id.toNat+1) ⟨fun _=>none,A,sp,ov⟩ id ⟨h,fun u y hu=>by cases hu⟩ (by omega) hk'.1 hk'.2;exact⟨q1,q2,q5⟩
end
section
def cntF (F:Int→Option Int) (N:Nat):Nat:=((List.range N).filter fun u:Nat=>(F (u:Int)).isSome).length
theorem cntF_le (F:Int→Option Int) (N:Nat):cntF F N≤N:=by
 have:=List.length_filter_le (fun u:Nat=>(F (u:Int)).isSome) (List.range N);simpa [cntF] using this
theorem cntF_succ (F:Int→Option Int) (N:Nat):cntF F (N+1)=cntF F N+if (F (N:Int)).isSome then 1 else 0:=by
 unfold cntF;rw [List.range_succ,List.filter_append,aZ1];congr 1;by_cases h:(F (N:Int)).isSome<;>simp [h]
theorem cntF_put {F:Int→Option Int} {x y:Int} (h0:0≤x) (hF:F x=none):∀{N:Nat},cntF (fun u=>if u=x then some y else F u) N=cntF F N+if x<(N:Int) then 1 else 0
 | 0=>by rw [if_neg (by omega)];rfl
 | N+1=>by
  have ih:=cntF_put (y:=y) h0 hF (N:=N);rw [cntF_succ,cntF_succ,ih];by_cases hx:(N:Int)=x
  ·have h1:¬x<(N:Int):=by omega
   have h2:x<((N+1:Nat):Int):=by omega
   rw [if_neg h1,if_pos h2,if_pos hx,hx,hF];simp
  ·rw [if_neg hx];generalize (if (F (N:Int)).isSome=true then 1 else 0)=q;by_cases h1:x<(N:Int)
   ·have h2:x<((N+1:Nat):Int):=by omega
    rw [if_pos h1,if_pos h2];omega
   ·have h2:¬x<((N+1:Nat):Int):=by omega
    rw [if_neg h1,if_neg h2];omega
def OMap (P:Program) (kt et:TypeId) (w:World) (b N:Nat) (F:Int→Option Int):Prop:=
 ∃D:DataW Unit,w.ownsMap P kt (plainElem P et) b (cntF F N) D∧∀v,I64' v→Maps.has D (.int .i64 v)=(F v).isSome∧∀i,F v=some i→D.atKey (.int .i64 v) (.lit (.int .i64 0))=.lit (.int .i64 i)
theorem OMap.keep {P:Program} {kt et:TypeId} {M:Nat→Prop} {w w':World} {b n:Nat} {F:Int→Option Int} (h:OMap P kt et w b n F) (k:aA M w w') (hn:¬M b):OMap P kt et w' b n F:=by
 obtain ⟨D,q1,q2⟩:=h;refine ⟨D,?_,q2⟩;have hlt:=q1.lt;obtain ⟨es,clock,hb,F,hs,hD⟩:=q1;exact⟨es,clock,(k.block b hlt hn).trans hb,F,hs,hD⟩
theorem OMap.made {P:Program} {kt et:TypeId} (w:World) (N:Nat):OMap P kt et (w.alloc (.map #[] 0)) w.heap.size N fun _=>none:=by
 refine ⟨.map [],?_,fun t _=>⟨rfl,fun i h=>by cases h⟩⟩;rw [show cntF (fun _=>none) N=0 by unfold cntF;simp];exact World.ownsMap_made _ _ _ _
theorem OMap.lt {P:Program} {kt et:TypeId} {w:World} {b n:Nat} {F:Int→Option Int} (h:OMap P kt et w b n F):b<w.heap.size:=by obtain ⟨D,q,_⟩:=h;exact q.lt
section
variable {P:Program} (w:World) {ops:Array Oper} {rest:List Oper} {o:Oper} {a:Act} {Q:Exit→Act→World→Prop}
theorem wpList_omap_look (hg:o.guard=none) (m x:Operand) (t:TypeId) (hop:o.op=Op.lookup t m x true) (kt et:TypeId) (hk:P.underlying kt=some (.int .i64)) (ht:P.underlying t=some (.map kt et)) (he:P.underlying et=some (.int .i64)) (hz:(zeroValue et).run P w=.ok (.int .i64 0) w)
  (b n:Nat) (F:Int→Option Int) (hm:a.eval m=.map (some b)) (hF:OMap P kt et w b n F) (s:Int) (hx:a.eval x=.int .i64 s) (hs:I64' s)
  (hK:∀c:Int,(∀i,F s=some i→c=i)→wpList P ops Q rest (a.put o.dst (.tuple #[.int .i64 c,.bool (F s).isSome])) w):wpList P ops Q (o::rest) a w:=by
 obtain ⟨D,q1,q2⟩:=hF;obtain ⟨r1,r2⟩:=q2 s hs;refine wpList_lookup_own_ok_int w hg m x t hop kt et .i64 (int_keyed hk) ht he hz b _ D hm q1 _ (.int .i64 s) hx (key_i64 hk hs) ?_;intro c hc _;rw [r1];refine hK c fun i hi=>?_;have h:=hc.symm.trans (r2 i hi);simp only [DataW.lit.injEq,Lit.int.injEq,true_and] at h;exact h
theorem wpList_omap_put (hg:o.guard=none) (m x v:Operand) (t:TypeId) (hop:o.op=Op.mapUpdate t m x v) (kt et:TypeId) (hk:P.underlying kt=some (.int .i64)) (ht:P.underlying t=some (.map kt et)) (he:P.underlying et=some (.int .i64))
  (b n:Nat) (F:Int→Option Int) (hm:a.eval m=.map (some b)) (hF:OMap P kt et w b n F) (hn:n<maxLen) (s i:Int) (hx:a.eval x=.int .i64 s) (hs:I64' s) (hs0:0≤s) (hsn:s<(n:Int)) (hno:F s=none) (hv:a.eval v=.int .i64 i) (hi:I64' i)
  (hK:∀w',OMap P kt et w' b n (fun t=>if t=s then some i else F t)→aA (One b) w w'→wpList P ops Q rest (a.put o.dst undef) w'):wpList P ops Q (o::rest) a w:=by
 obtain ⟨D,q1,q2⟩:=hF;have hc:=cntF_le F n;refine wpList_mapUpdate_own w hg m x v t hop kt et (int_keyed hk) ht (plainElem P et) b _ D hm q1 (by omega) _ _ (.int .i64 s) hx hv (key_i64 hk hs) (.lit (.int .i64 i)) [] (plainElem_int he (WalkArith.wf_i64 hi)) ?_;intro w' r1 r2;have hM:=(q1.tidy (int_keyed hk)).isMap;refine hK w' ⟨_,by rw [cntF_put hs0 hno,if_pos hsn];exact r1,fun u hu=>?_⟩ (aA.ofGrown r2);by_cases hus:u=s
 ·subst hus;show _=(if u=u then some i else F u).isSome∧∀j,(if u=u then some i else F u)=some j→_
  rw [if_pos rfl];refine ⟨by rw [Maps.has_put_same hM (show WideAt.IsKeyLit (Lit.int .i64 u) from trivial)];rfl,fun j hj=>?_⟩;cases hj;exact atKey_put_same hM (show WideAt.IsKeyLit (Lit.int .i64 u) from trivial) _ _
 ·show _=(if u=s then some i else F u).isSome∧∀j,(if u=s then some i else F u)=some j→_
  rw [if_neg hus];have hne:(Lit.int .i64 u)≠(Lit.int .i64 s):=fun e=>hus (by simpa using e);rw [Maps.has_put_other hne];refine ⟨(q2 u hu).1,fun j hj=>?_⟩;rw [atKey_put_other hne];exact (q2 u hu).2 j hj
end
end
def HoldR (L:List (Nat × TypeId × List Value)) (w:World):Prop:=∀r∈L,aC w r.1 r.2.1 r.2.2
def FarR (L:List (Nat × TypeId × List Value)) (X:Nat→Prop):Prop:=∀r∈L,¬X r.1
theorem HoldR.keep {L:List (Nat × TypeId × List Value)} {w w':World} {X:Nat→Prop} (h:HoldR L w) (k:aA X w w') (hf:FarR L X):HoldR L w':=fun r hr=>(h r hr).keep k (hf r hr)
theorem HoldR.lt {L:List (Nat × TypeId × List Value)} {w:World} (h:HoldR L w):∀r∈L,r.1<w.heap.size:=fun r hr=>(h r hr).lt
theorem FarR.grow {L:List (Nat × TypeId × List Value)} {w:World} {X Y:Nat→Prop} (h:FarR L X) (hw:HoldR L w) (hY:∀b,Y b→X b∨w.heap.size≤b):FarR L Y:=fun r hr hy=>by
 rcases hY _ hy with h1|h1
 ·exact h r hr h1
 ·have:=hw.lt r hr;omega
section
variable {cs:List Value} {L:List (Nat × TypeId × List Value)} {nodes limbs:Int} {I:aF→Int→Int→Prop} {v:Value} {O M Oj:Nat→Prop} {N:aT} {gm bm N0 g pb:Nat} {wr W w' w2:World} {e:Ending}
structure TurnC (B0 g gm fn:Nat) (cap:Array Value) (L:List (Nat × TypeId × List Value)) (nodes limbs:Int) (T:TurnF) (I:aF→Int→Int→Prop) (R:aF→Int→Prop):Prop where
 enters:∀args w,(callFunc fn args).run prog w=.ok (.enter fn args) w
 call:∀(W:World) (O M:Nat→Prop) (A:aF) (sp ov x:Int) (cs:List Value) (ks:List Int) (a:Option Addr) (n c:Nat),cD O W g gm A→Tab B0 W→(∀b,O b→M b)→MB M W→bK M W gm nodes limbs sp ov→HoldR L W→FarR L O→NodeR Nil W cs (ndA A x)→bP Nil W a n c ks→I A sp ov→0≤x→x<(A.nodes.length:Int)→(∀k∈ks,R A k)→ks.length=(ndA A x).kids.length →
  Calls prog fn (#[.int .i64 x,.agg cs.toArray,.slice a n c]++cap) W fun e w'=>cJ O M W g gm nodes limbs (T A sp ov x ks) e w'
 i64:∀{A:aF} {sp ov x:Int} {ks:List Int},I A sp ov→0≤x→x<(A.nodes.length:Int)→(∀k∈ks,R A k)→ks.length=(ndA A x).kids.length→I64' (T A sp ov x ks).1.1
def WStep (O M:Nat→Prop) (w:World) (g gm bm N0:Nat) (nodes limbs:Int) (r:(Int × Int) × WSt) (e:Ending) (w':World):Prop:=
 e=.returned (.tuple #[.int .i64 r.1.1,.int .i64 r.1.2])∧(∃O':Nat→Prop,cD O' w' g gm r.2.A∧(∀b,O b→O' b)∧(∀b,O' b→O b∨w.heap.size≤b)∧bK (fun b=>M b∨O' b) w' gm nodes limbs r.2.sp r.2.ov∧OMap prog 3 3 w' bm N0 r.2.came)∧aA (fun b=>O b∨b=gm∨b=bm) w w'
structure WalkAt (O M:Nat→Prop) (W:World) (g gm bm pb N0:Nat) (nodes limbs:Int) (cs:List Value) (N:aT) (Oj:Nat→Prop) (s:WSt) (v:Value) (out:List Int) (wr:World):Prop where
 own:aL wr W.heap.size 3 1 v (aO out)
 far:∀b,v.ownBlock=some b→¬Oj b
 arena:cD Oj wr g gm s.A
 up:∀b,O b→Oj b
 down:∀b,Oj b→O b∨W.heap.size≤b
 meter:bK (fun b=>M b∨Oj b∨v.ownBlock=some b) wr gm nodes limbs s.sp s.ov
 map:OMap prog 3 3 wr bm N0 s.came
 box:aC wr pb 68 cs
 boxN:W.heap.size≤pb
 boxO:¬Oj pb
 boxV:v.ownBlock≠some pb
 node:NodeR (fun b=>b<W.heap.size∨Oj b∨v.ownBlock=some b) wr cs N
 keep:aA (fun b=>O b∨b=gm∨b=bm) W wr
theorem WalkAt.step {s:WSt} {out:List Int} {r:(Int × Int) × WSt} (h:WalkAt O M W g gm bm pb N0 nodes limbs cs N Oj s v out wr) (hg:gm<W.heap.size) (hb:bm<W.heap.size) (hst:WStep Oj (fun b=>M b∨Oj b∨v.ownBlock=some b) wr g gm bm N0 nodes limbs r e w') :
  e=.returned (.tuple #[.int .i64 r.1.1,.int .i64 r.1.2])∧∃O2:Nat→Prop,WalkAt O M W g gm bm pb N0 nodes limbs cs N O2 r.2 v out w':=by
 obtain ⟨h1,⟨O2,q1,q2,q3,q4,q5⟩,k⟩:=hst;have hs:=h.keep.size;refine ⟨h1,O2,h.own.keep k fun b hb' hm=>?_,fun b hb' ho=>?_,q1,fun b hb'=>q2 b (h.up b hb'),fun b hb'=>?_,q4.move (aA.refl Nil w') (fun _ _ h=>h.elim) fun b _ hb'=>?_,q5,h.box.keep k fun hm=>?_,h.boxN,fun ho=>?_,h.boxV,h.node.move k (fun b _ hm=>?_) fun b hlt hm=>?_,h.keep.trans' k fun b hm=>?_⟩
 ·have:=(h.own.lt b hb').1;rcases hm with hm|hm|hm
  ·exact h.far b hb' hm
  ·omega
  ·omega
 ·rcases q3 b ho with h2|h2
  ·exact h.far b hb' h2
  ·have:=(h.own.lt b hb').2;omega
 ·rcases q3 b hb' with h2|h2
  ·exact h.down b h2
  ·right;omega
 ·rcases hb' with hb'|hb'|hb'
  ·exact .inl (.inl hb')
  ·exact .inr hb'
  ·exact .inl (.inr (.inr hb'))
 ·have:=h.boxN;rcases hm with hm|hm|hm
  ·exact h.boxO hm
  ·omega
  ·omega
 ·rcases q3 pb ho with h2|h2
  ·exact h.boxO h2
  ·have:=h.box.lt;omega
 ·rcases hm with hm|hm|hm
  ·exact .inr (.inl hm)
  ·left;omega
  ·left;omega
 ·rcases hm with hm|hm|hm
  ·exact .inl hm
  ·rcases q3 b hm with h2|h2
   ·exact .inr (.inl h2)
   ·omega
  ·exact .inr (.inr hm)
 ·rcases hm with hm|hm
  ·rcases h.down b hm with h2|h2
   ·exact .inl (.inl h2)
   ·exact .inr h2
  ·exact .inl (.inr hm)
theorem WalkAt.noMap {s:WSt} {out:List Int} (h:WalkAt O M W g gm bm pb N0 nodes limbs cs N Oj s v out wr) (hb:bm<W.heap.size) (hbO:¬O bm):¬Oj bm:=fun ho=>by
 rcases h.down bm ho with h2|h2
 ·exact hbO h2
 ·omega
theorem cJ.walk {w:World} {q:(Int × Int) × aF × (Int × Int)} {F:Int→Option Int} (h:cJ O M w g gm nodes limbs q e w') (hm:OMap prog 3 3 w bm N0 F) (hb:¬O bm) (hg:bm≠gm):WStep O M w g gm bm N0 nodes limbs (q.1,⟨F,q.2.1,q.2.2.1,q.2.2.2⟩) e w':=by
 obtain ⟨h1,⟨O2,q1,q2,q3,q4⟩,k⟩:=h;exact⟨h1,⟨O2,q1,q2,q3,q4,hm.keep k fun hm=>hm.elim hb hg⟩,k.mono fun b hb=>hb.elim .inl fun h=>.inr (.inl h)⟩
theorem WalkAt.push {w1:World} {s:WSt} {v':Value} {out out':List Int} (h:WalkAt O M W g gm bm pb N0 nodes limbs cs N Oj s v out wr) (hg:gm<W.heap.size) (hb:bm<W.heap.size) (hbO:¬O bm) (k1:aA Nil wr w1) (ho:aL w2 W.heap.size 3 1 v' (aO out')) (k2:aA (Own v) w1 w2) (hf:Fresh w1 v v'):WalkAt O M W g gm bm pb N0 nodes limbs cs N Oj s v' out' w2:=by
 have hs:=h.keep.size;have hs1:=k1.size;have hfar:∀b,v'.ownBlock=some b→¬Oj b:=fun b hb' hO=>by
  rcases hf b hb' with h2|h2
  ·exact h.far b h2 hO
  ·have:=h.arena.lt b hO;omega
 refine ⟨ho,hfar,(h.arena.keep k1 fun _ h=>h.elim).keep k2 fun b hb'=>h.far b hb',h.up,h.down,(h.meter.keepNil k1).move k2 (fun b _ hb'=>.inr (.inr hb')) fun b hlt hb'=>?_,(h.map.keep k1 id).keep k2 fun hm=>?_,(h.box.keep k1 id).keep k2 h.boxV,h.boxN,h.boxO,fun e=>?_,(h.node.move k1 (fun _ _ h=>h.elim) fun _ _=>id).move k2 (fun b _ hb'=>.inr (.inr hb')) fun b hlt hb'=>?_,(h.keep.trans k1.of_nil).trans' k2 fun b hb'=>.inr (h.own.lt b hb').1⟩
 ·rcases hb' with hb'|hb'|hb'
  ·exact .inl hb'
  ·exact .inr (.inl hb')
  ·rcases hf b hb' with h2|h2
   ·exact .inr (.inr h2)
   ·omega
 ·have:=(h.own.lt bm hm).1;omega
 ·rcases hf pb e with h2|h2
  ·exact h.boxV h2
  ·have:=h.box.lt;omega
 ·rcases hb' with hb'|hb'|hb'
  ·exact .inl hb'
  ·exact .inr (.inl hb')
  ·rcases hf b hb' with h2|h2
   ·exact .inr (.inr h2)
   ·omega
theorem WalkAt.done {s:WSt} {out:List Int} {i e:Int} (h:WalkAt O M W g gm bm pb N0 nodes limbs cs N Oj s v out wr):WStep O M W g gm bm N0 nodes limbs ((i,e),s) (.returned (.tuple #[.int .i64 i,.int .i64 e])) wr:=
 ⟨rfl,⟨Oj,h.arena,h.up,h.down,h.meter.move (aA.refl Nil _) (fun _ _ h=>h.elim) (fun b _ hb=>hb.elim .inl fun h=>.inr (.inl h)),h.map⟩,h.keep⟩
theorem WalkAt.note {s t:WSt} {out:List Int} (h:WalkAt O M W g gm bm pb N0 nodes limbs cs N Oj s v out wr) (hb:bm<W.heap.size) (hbO:¬O bm) (hbM:M bm) (k2:aA (One bm) wr w2) (hmap:OMap prog 3 3 w2 bm N0 t.came) (hA:t.A=s.A) (hsp:t.sp=s.sp) (hov:t.ov=s.ov):WalkAt O M W g gm bm pb N0 nodes limbs cs N Oj t v out w2:=by
 have hno:=h.noMap hb hbO;refine ⟨h.own.keep k2 fun b hb' (e:b=bm)=>?_,h.far,by rw [hA];exact h.arena.keep k2 fun b (e:b=bm)=>by rw [e];exact hno,h.up,h.down,by rw [hsp,hov];exact h.meter.move k2 (fun b _ (e:b=bm)=>by rw [e];exact .inl hbM) fun _ _=>id,hmap,h.box.keep k2 fun (e:pb=bm)=>?_,h.boxN,h.boxO,h.boxV,h.node.move k2 (fun b _ (e:b=bm)=>.inl (by omega)) fun _ _=>id,h.keep.trans' k2 fun b (e:b=bm)=>.inl (.inr (.inr e))⟩
 ·have:=(h.own.lt b hb').1;omega
 ·have:=h.boxN;omega
theorem walk_any {B0 pc pa pw pt fn:Nat} {cap:Array Value} {T:TurnF} {R:aF→Int→Prop} (hT:TurnOk T I R) (hC:TurnC B0 g gm fn cap L nodes limbs T I R) (hI:∀A sp ov,I A sp ov→FineA A)
  (hL:∀W,HoldR L W→aC W pc 107 [.map (some bm)]∧aC W pa 26 [.pointer (some ⟨g,0,none⟩)]∧aC W pw 115 [.func (.func 102) #[] #[.pointer (some ⟨pc,0,none⟩),.pointer (some ⟨pa,0,none⟩),.pointer (some ⟨pw,0,none⟩),.pointer (some ⟨pt,0,none⟩)]]∧aC W pt 101 [.func (.func fn) #[] cap]) (hLm:FarR L fun b=>b=gm∨b=bm) (hbg:bm≠gm) (hN0:N0≤1000000) :
  ∀(f:Nat) (x:Int),x.toNat<f→0≤x→x<(N0:Int)→∀(W:World) (O M:Nat→Prop) (s:WSt),cD O W g gm s.A→Tab B0 W→(∀b,O b→M b)→MB M W→bK M W gm nodes limbs s.sp s.ov→OMap prog 3 3 W bm N0 s.came→M bm→¬O bm→HoldR L W→FarR L O→WOk I R s→N0≤s.A.nodes.length→(∀b,O b∨b=gm∨b=bm→B0≤b) →
  Calls prog 102 #[.int .i64 x,.pointer (some ⟨pc,0,none⟩),.pointer (some ⟨pa,0,none⟩),.pointer (some ⟨pw,0,none⟩),.pointer (some ⟨pt,0,none⟩)] W fun e w'=>WStep O M W g gm bm N0 nodes limbs (cX T f s x) e w':=by
 intro f;induction f with
 | zero=>intro x hx;omega
 | succ f ih=>
  intro x hxf hx0 hxN W O M s hA hTb hO hM hm hcm hbM hbO hR hRf hs hN hB0;have hxn:x.toNat<s.A.nodes.length:=by omega
  have hFine:=hI _ _ _ hs.1;obtain ⟨hr1,hr2,hr3,hr4⟩:=hL W hR;obtain ⟨d1,-⟩:=hr1.one;obtain ⟨d2,-⟩:=hr2.one;obtain ⟨d3,-⟩:=hr3.one;obtain ⟨d4,-⟩:=hr4.one;have lt1:=hr1.lt;have lt2:=hr2.lt;have lt3:=hr3.lt;have lt4:=hr4.lt;have hx64:I64' x:=⟨by omega,by omega⟩;have HS:=jJ (aI12 hA hTb hO hM hm hcm hbM hbO hR hRf hs hB0);have HC:=jJ hC;have HIH:=jJ ih;have HL:=jJ hL;have HX:=jJ (aI3 hFine hT hx64);clear hA hTb hO hM hm hcm hbM hbO hR hRf hs hB0 hr1 hr2 hr3 hr4 hC ih hL hI hT hFine hx64;go_enter func102,ntmps102
  cases hcx:s.came x with
  | some y=>
   have HY:=jJ hcx;go_wp2_with (at_lookup;refine wpList_omap_look _ rfl _ _ 107 rfl 3 3 underlying3 underlying107 underlying3 (zeroValue3 _) bm N0 s.came rfl HS.o.r5.1 x rfl HX.o.2.2 ?_;intro c hc;rw [HY.o];obtain rfl:=hc y HY.o;clear hc)
   go_ret2
   rw [walkM_there HY.o];exact⟨rfl,⟨O,HS.o.1,fun _ h=>h,fun _ h=>.inl h,HS.o.r4.1.move (aA.refl Nil W) (fun _ _ h=>h.elim) (fun b _ h=>h.elim id (HS.o.2.2.1 b)),HS.o.r5.1⟩,aA.refl _ _⟩
  | none=>
   have HY:=jJ hcx;clear hcx;go_upto_region 4 with (at_lookup;refine wpList_omap_look _ rfl _ _ 107 rfl 3 3 underlying3 underlying107 underlying3 (zeroValue3 _) bm N0 s.came rfl HS.o.r5.1 x rfl HX.o.2.2 ?_;intro c hc;rw [HY.o];clear hc)
   have hx1:(((x.toNat:Nat)):Int)=x:=by omega
   have hcall:=snode_any HS.o.1 hxn HX.o.1.len (HX.o.1.sound _ hxn).size;rw [hx1] at hcall;obtain ⟨N,hN'⟩:∃N,ndA s.A x=N:=⟨_,rfl⟩;rw [show s.A.nodes.getD x.toNat aV=N from hN'] at hcall;have HN:=jJ (aI hcall hN');clear hcall hN';go_upto_region 5 with (go_at_call 103;refine HN.o.1.mono ?_;rintro e wn ⟨gd,ad,nd,cd,ap,np,cp,gk,ak,nk,ck,aq,nq,cq,rfl,hn,hkn⟩;have HNN:=jJ (aI hn hkn);clear hn hkn)
   have rp:=aC.alloc (w:=wn) (E:=68) (xs:=[.int .i64 N.kind,.bool gd,.slice ad nd cd,.slice ap np cp,.bool gk,.slice ak nk ck,.int .i64 N.var,.slice aq nq cq]);change aC (wn.alloc (.cells #[.int .i64 N.kind,.bool gd,.slice ad nd cd,.slice ap np cp,.bool gk,.slice ak nk ck,.int .i64 N.var,.slice aq nq cq] 68)) _ _ _ at rp;have kb:aA Nil wn (wn.alloc (.cells #[.int .i64 N.kind,.bool gd,.slice ad nd cd,.slice ap np cp,.bool gk,.slice ak nk ck,.int .i64 N.var,.slice aq nq cq] 68)):=kOf;generalize wn.alloc (.cells #[.int .i64 N.kind,.bool gd,.slice ad nd cd,.slice ap np cp,.bool gk,.slice ak nk ck,.int .i64 N.var,.slice aq nq cq] 68)=wb at *
   have hpbn:W.heap.size≤wn.heap.size:=HNN.o.2.size;obtain ⟨pb,hpb⟩:∃b,wn.heap.size=b:=⟨_,rfl⟩;rw [hpb] at rp hpbn⊢;have krb:=HNN.o.2.trans kb;have hgm:gm<W.heap.size:=HS.o.r4.1.lt;have hbm:bm<W.heap.size:=HS.o.r5.1.lt;have hstart:WalkAt O M W g gm bm pb N0 nodes limbs [.int .i64 N.kind,.bool gd,.slice ad nd cd,.slice ap np cp,.bool gk,.slice ak nk ck,.int .i64 N.var,.slice aq nq cq] N O s (.slice none 0 0) [] wb:=
    ⟨aL.nil _ _ _ _,(fun b h=>by cases h),HS.o.1.keep krb fun _ h=>h.elim,fun _ h=>h,fun _ h=>.inl h,HS.o.r4.1.move krb (fun _ _ h=>h.elim) (fun b _ h=>by rcases h with h|h|h;exact h;exact HS.o.2.2.1 b h;cases h),HS.o.r5.1.keep krb id,rp,hpbn,(fun h=>by have:=HS.o.1.lt pb h;omega),(fun h=>by cases h),⟨_,_,_,_,_,_,_,_,_,_,_,_,_,_,rfl,HNN.o.1.move kb (fun _ _ h=>h.elim) (fun b _ h=>by rcases h with h|h|h;exact h;exact HS.o.1.lt b h;cases h)⟩,krb.of_nil⟩
   obtain ⟨d10,d11,d12,d13,d14,d15,d16,d17⟩:=rp.cells8;have hkl:N.kids.length=nq:=SlOf.len HNN.o.1.kids;have HP:=jJ (aI3 hstart hkl krb);clear hstart krb kb rp hpb hpbn hkl;obtain ⟨i1,hi1⟩:=info_parts info_int;have HI1:=jJ hi1;clear hi1;go_wp2_with fail
   go_loopg [11,32] nq (fun g1 v iv wr=>∃(j:Nat) (va:Option Addr) (vc:Nat) (Oj:Nat→Prop) (t:WSt) (out:List Int),j+g1=nq∧iv=.int .i64 (j:Int)∧v=.slice va j vc∧dI (cX T f) s [] (N.kids.take j)=((out,0),t)∧WalkAt O M W g gm bm pb N0 nodes limbs [.int .i64 N.kind,.bool gd,.slice ad nd cd,.slice ap np cp,.bool gk,.slice ak nk ck,.int .i64 N.var,.slice aq nq cq] N Oj t (.slice va j vc) out wr)
   case atStart=>exact⟨0,none,0,O,s,[],by omega,rfl,rfl,rfl,HP.o.1⟩
   case round=>
    obtain ⟨j,va,vc,Oj,t,out,hjg,rfl,rfl,hkm,hwa⟩:=hrel;have hx2:x<(s.A.nodes.length:Int):=by omega
    have hjn:j≤(ndA s.A x).kids.length:=by rw [HN.o.2,HP.o.2.1];omega
    have hplain:=kids_walk HX.o.2.1 HS.o.r10.1 hxf hx0 hx2 hjn (by rw [HN.o.2];exact hkm);have hhold:HoldR L wr:=(HS.o.r8.1).keep hwa.keep fun r hr hm=>hm.elim (fun h=>HS.o.r9.1 r hr h) fun h=>hLm r hr h;have hfarj:FarR L Oj:=HS.o.r9.1.grow HS.o.r8.1 hwa.down;have hno:¬Oj bm:=hwa.noMap hbm HS.o.r7.1;have hB0j:∀b,Oj b∨b=gm∨b=bm→B0≤b:=fun b hb=>by
     rcases hb with hb|hb
     ·rcases hwa.down b hb with h2|h2
      ·exact HS.o.r11 b (.inl h2)
      ·have:=HS.o.2.1.1;omega
     ·exact HS.o.r11 b (.inr hb)
    have htab:Tab B0 wr:=HS.o.2.1.keep hwa.keep HS.o.r11;have hMB:MB (fun b=>M b∨Oj b∨(Value.slice va j vc).ownBlock=some b) wr:=fun b hb=>by
     rcases hb with hb|hb|hb
     ·exact cZ1 (HS.o.2.2.2.1 b hb) hwa.keep.size
     ·exact hwa.arena.lt b hb
     ·exact (hwa.own.lt b hb).2
    obtain ⟨hr1,hr2,hr3,hr4⟩:=HL.o wr hhold;obtain ⟨e1,-⟩:=hr1.one;obtain ⟨e2,-⟩:=hr2.one;obtain ⟨e3,-⟩:=hr3.one;obtain ⟨e4,-⟩:=hr4.one;have HW:=jJ (aI9 hkm hwa hplain hhold hfarj hno hB0j htab hMB);have hws:W.heap.size≤wr.heap.size:=hwa.keep.size;clear hkm hwa hplain hhold hfarj hno hB0j htab hMB hr1 hr2 hr3 hr4;have heg:∀args w,(callFunc 102 args).run prog w=.ok (.enter 102 args) w:=enters_of func102 (by kernel_rfl) rfl;cases gk with
    | succ g1=>
     have hlt:j<nq:=by omega
     have j0:(0:Int)≤(j:Int):=by omega
     have j1:(j:Int)<(nq:Int):=by omega
     have hnode:=HW.o.2.1.node;obtain ⟨_,_,_,_,_,_,_,_,_,_,_,_,_,_,hcs,hnat⟩:=hnode;cases hcs;obtain ⟨b,off,hae,ck⟩:=aW hnat.kids hlt;subst hae;have hlN:j<N.kids.length:=by rw [HP.o.2.1];exact hlt
     have htk:=takeI_snoc hlN;have hkm:=HX.o.1.below.kid hx0 (by omega) (show N.kids.getD j 0∈(s.A.nodes.getD x.toNat aV).kids by rw [show s.A.nodes.getD x.toNat aV=N from HN.o.2];exact cH 0 hlN);generalize N.kids.getD j 0=k at *
     have hcall:=HIH.o k (by omega) hkm.1 (by omega) wr Oj (fun b=>M b∨Oj b∨(Value.slice va j vc).ownBlock=some b) t HW.o.2.1.arena HW.o.r7.1 (fun b hb=>.inr (.inl hb)) HW.o.r8 HW.o.2.1.meter HW.o.2.1.map (.inl HS.o.r6.1) HW.o.r5.1 HW.o.2.2.2.1 HW.o.r4.1 HW.o.2.2.1.1 (bZ1 hN HW.o.2.2.1.2.1.len) HW.o.r6.1;obtain ⟨r,hr⟩:∃r,cX T f t k=r:=⟨_,rfl⟩;rw [hr] at hcall;have hsn:=kidsM_snoc (cX T f) k (N.kids.take j) s [] (congrArg (fun q=>q.1.2) HW.o.1);rw [HW.o.1,←htk] at hsn;simp only [hr] at hsn;have HK:=jJ (aI3 hcall hsn htk);clear hcall hsn htk hr hnat hkm hlN;obtain ⟨⟨y,er⟩,t2⟩:=r;have hjb:j≤1000000000:=by have h1:=(HX.o.1.sound _ hxn).size.kids;rw [show s.A.nodes.getD x.toNat aV=N from HN.o.2,HP.o.2.1] at h1;omega
     by_cases he:er=0
     ·subst he;simp only [if_pos] at HK;have hol:=HW.o.2.2.1.2.2.2.1;go_wp2_with (first|(go_at_call 102;refine HK.o.1.mono ?_;rintro e w2 hst;obtain ⟨he,O2,hwa2⟩:=HW.o.2.1.step hgm hbm hst;subst he;have H2:=jJ hwa2;have hws2:=hwa2.keep.size;clear hwa2 hst)|(at_builtin;go_loud (refine bV _ rfl (.tmp 45) (.tmp 47) 23 rfl W.heap.size 3 i1 (.int .i64 0) 1 8 underlying23 HI1.o.1 HI1.o.2.1 HI1.o.2.2.1 HI1.o.2.2.2 rfl (by decide) (.slice va j vc) _ rfl (H2.o.own.keepNil kOf) ⟨w2.heap.size,0,none⟩ 1 1 [[.int .i64 y]] rfl rfl (by simp) (alloc_news _ _ _) (by simp [Value.oneCell']) (by rw [aH];omega) (by rw [aH];omega) (by simp;omega) ?_);intro v' w3 ho hk2 hf2 _;obtain ⟨a7,c7,rfl⟩:=ho.isSlice;have e7:(aO out++[[Value.int .i64 y]]).length=j+1:=(by rw [aZ1,aH,hol];rfl);rw [e7] at ho hf2⊢;rw [←cells1_snoc] at ho;clear e7;have HO:=jJ (aI3 ho hk2 hf2);clear ho hk2 hf2))
      go_roundg g1
      case measure=>omega
      case rel=>exact⟨j+1,a7,c7,O2,t2,out++[y],by omega,by go_num,rfl,HK.o.2.1,H2.o.push hgm hbm HS.o.r7.1 ((aA.refl Nil w2).alloc _) HO.o.1 HO.o.2.1 HO.o.2.2⟩
     ·have hkall:dI (cX T f) s [] N.kids=((out,er),t2):=by
       have h1:=HK.o.2.1;rw [if_neg he] at h1;have h2:=kidsM_stop (cX T f) (N.kids.take (j+1)) s [] (N.kids.drop (j+1)) (by rw [h1];exact he);rw [aZ3,h1] at h2;exact h2
      have HKA:=jJ hkall;clear hkall;go_wp2_with (go_at_call 102;refine HK.o.1.mono ?_;rintro e w2 hst;obtain ⟨he,O2,hwa2⟩:=HW.o.2.1.step hgm hbm hst;subst he;have H2:=jJ hwa2;clear hwa2 hst)
      go_ret2
      rw [walkM_err (r:=((out,er),t2)) HY.o (by rw [HN.o.2];exact HKA.o) he];exact H2.o.done
    | zero=>
     obtain rfl:j=nq:=by omega
     have hkall:dI (cX T f) s [] (ndA s.A x).kids=((out,0),t):=by
      rw [HN.o.2];have h1:=HW.o.1;rw [eZ1 (by rw [HP.o.2.1];omega)] at h1;exact h1
     have hext:=HW.o.2.2.1.2.1;have hxt:x<(t.A.nodes.length:Int):=by have:=hext.len;omega
     have hnd:ndA t.A x=N:=(hext.nd hx0 (by omega)).trans HN.o.2;have hol:=HW.o.2.2.1.2.2.2.1;have hlen:out.length=(ndA t.A x).kids.length:=by rw [hnd,hol,HP.o.2.1]
     have hcall:=HC.o.call wr Oj (fun b=>M b∨Oj b∨(Value.slice va j vc).ownBlock=some b) t.A t.sp t.ov x _ out va j vc HW.o.2.1.arena HW.o.r7.1 (fun b hb=>.inr (.inl hb)) HW.o.r8 HW.o.2.1.meter HW.o.2.2.2.1 HW.o.r4.1 (by rw [hnd];exact HW.o.2.1.node.move (aA.refl Nil wr) (fun _ _ h=>h.elim) fun _ _ h=>h.elim) (nums_own HW.o.2.1.own (fun _ _ h=>h) hol) HW.o.2.2.1.1.1 hx0 hxt HW.o.2.2.1.2.2.1 hlen;have hy64:=HC.o.i64 HW.o.2.2.1.1.1 hx0 hxt HW.o.2.2.1.2.2.1 hlen;have hnone:t.came x=none:=by rw [HW.o.2.2.1.r4 x (Int.le_refl _)];exact HY.o
     have hres:=walkM_turn (T:=T) HY.o hkall;obtain ⟨q,hq⟩:∃q,T t.A t.sp t.ov x out=q:=⟨_,rfl⟩;rw [hq] at hcall hres hy64;obtain ⟨⟨y,er⟩,A2,sp2,ov2⟩:=q;have henters:=HC.o.enters;have hc8:=HW.o.2.1.box;obtain ⟨f10,f11,f12,f13,f14,f15,f16,f17⟩:=hc8.cells8;have HK:=jJ (aI4 hcall hy64 hnone hres);clear hcall hy64 hnone hres hq hkall hext hnd hlen hc8;go_upto_region 15 with (refine HK.o.1.mono ?_;rintro e w2 hst;obtain ⟨he,O2,hwa2⟩:=HW.o.2.1.step hgm hbm (hst.walk HW.o.2.1.map HW.o.r5.1 hbg);subst he;have H2:=jJ hwa2;clear hwa2 hst)
     have hhold2:HoldR L w2:=(HS.o.r8.1).keep H2.o.keep fun r hr hm=>hm.elim (fun h=>HS.o.r9.1 r hr h) fun h=>hLm r hr h;obtain ⟨g1,-⟩:=(HL.o w2 hhold2).1.one;clear hhold2;go_wp2_with (at_mapUpdate;go_loud (refine wpList_omap_put _ rfl _ _ _ 107 rfl 3 3 underlying3 underlying107 underlying3 bm N0 t.came rfl H2.o.map (by unfold maxLen;omega) x y rfl HX.o.2.2 hx0 hxN HK.o.2.2.1 rfl HK.o.2.1 ?_);intro w3 hm3 hk3;have H3:=jJ (aI hm3 hk3);clear hm3 hk3)
     go_ret2
     rw [HK.o.2.2.2];exact (H2.o.note (t:=⟨putC t.came x y,A2,sp2,ov2⟩) hbm HS.o.r7.1 HS.o.r6.1 H3.o.2 H3.o.1 rfl rfl rfl).done
theorem through_pre {B0 fn:Nat} {cap:Array Value} {T:TurnF} {R:aF→Int→Prop} (hC:TurnC B0 g gm fn cap L nodes limbs T I R) (L2:List (Nat × TypeId × List Value)):TurnC B0 g gm fn cap (L2++L) nodes limbs T I R:=
 ⟨hC.enters,fun W O M A sp ov x cs ks a n c h1 h2 h3 h4 h5 h6 h7=>hC.call W O M A sp ov x cs ks a n c h1 h2 h3 h4 h5 (fun r hr=>h6 r (List.mem_append_right _ hr)) (fun r hr=>h7 r (List.mem_append_right _ hr)),hC.i64⟩
end
section
variable {L:List (Nat × TypeId × List Value)} {r:Nat × TypeId × List Value} {w:World} {X:Nat→Prop}
theorem HoldR.cons (h:aC w r.1 r.2.1 r.2.2) (hL:HoldR L w):HoldR (r::L) w:=fun q hq=>by
 rcases mZ1.1 hq with rfl|hq
 ·exact h
 ·exact hL q hq
theorem FarR.cons (h:¬X r.1) (hL:FarR L X):FarR (r::L) X:=fun q hq=>by
 rcases mZ1.1 hq with rfl|hq
 ·exact h
 ·exact hL q hq
theorem HoldR.head (h:HoldR (r::L) w):aC w r.1 r.2.1 r.2.2:=h r (kZ1 ..)
theorem HoldR.tail (h:HoldR (r::L) w):HoldR L w:=fun q hq=>h q (lZ1 _ hq)
end
theorem through_any {B0 g gm fn:Nat} {cap:Array Value} {L:List (Nat × TypeId × List Value)} {nodes limbs sp ov nid:Int} {T:TurnF} {I:aF→Int→Int→Prop} {R:aF→Int→Prop} {O M0:Nat→Prop} {w:World} {A:aF} (hT:TurnOk T I R) (hC:TurnC B0 g gm fn cap L nodes limbs T I R) (hI:∀A sp ov,I A sp ov→FineA A)
  (hA:cD O w g gm A) (hTb:Tab B0 w) (hO:∀b,O b→M0 b) (hM0:MB M0 w) (hm:bK M0 w gm nodes limbs sp ov) (h:I A sp ov) (hR:HoldR L w) (hf:FarR L O) (hfg:FarR L fun b=>b=gm) (hB:∀b,O b∨b=gm→B0≤b) :
  Calls prog 53 #[.pointer (some ⟨g,0,none⟩),.int .i64 nid,.func (.func fn) #[] cap] w fun e w'=>cJ O M0 w g gm nodes limbs (cA T A sp ov nid) e w':=by
 obtain ⟨av,cv,v1,v2,v3,hbox⟩:=hA.box;have hgA:=hbox.lt;have hFine:=hI _ _ _ h;have HA:=jJ (aI12 hA hTb hO hM0 hm h hR hf hfg hB hbox hFine);have HT:=jJ (aI3 hT hC hI);clear hA hTb hO hM0 hm h hR hf hfg hB hbox hFine hT hC hI;go_enter func53,ntmps53
 go_upto_region 1 with (fail)
 obtain ⟨w0,e_1,k0,r0,r1⟩:=bx2 w 26 [.pointer (some ⟨g,0,none⟩)] 101 [.func (.func fn) #[] cap];rw [e_1];clear e_1;obtain ⟨d0,-⟩:=r0.one;have H0:=jJ (aI3 r0 r1 k0);clear r0 r1 k0;cases hk:hasK A nid
 ·have hno:¬(0≤nid∧nid<(A.nodes.length:Int)):=fun h=>by rw [hasK_iff.2 h] at hk;cases hk
  have HX:=jJ (aI hno hk);clear hno hk;go_wp2_with (go_at_call 33;refine (anode_no (HA.o.r10.1.keep H0.o.2.2 id) HX.o.1).mono ?_;rintro e w1 ⟨rfl,hk1⟩;have H1:=jJ hk1;clear hk1)
  go_ret2
  rw [show cA T A sp ov nid=((0,80),A,(sp,ov)) by unfold cA;rw [if_pos HX.o.2]];exact cJ.none HA.o.1 HA.o.2.2.1 HA.o.r4.1 ((H0.o.2.2.trans H1.o).trans kOf)
 ·have hyes:=hasK_iff.1 hk;have hxn:nid.toNat<A.nodes.length:=by omega
  have hr:=anode_any (HA.o.1.keep H0.o.2.2 fun _ h=>h.elim) hxn HA.o.r11.len (HA.o.r11.sound _ hxn).size;rw [show ((nid.toNat:Nat):Int)=nid by omega] at hr;obtain ⟨N,hN⟩:∃N,A.nodes.getD nid.toNat aV=N:=⟨_,rfl⟩;rw [hN] at hr;have HX:=jJ (aI3 hr hk hyes);clear hr hk hyes hxn hN;have hmm:=@run_makeMap prog;have hsf:∀(a:Addr) (m:Mode) (W:World) (f:Fn) (cb:Array Value),(store a (.func f #[] cb) m).run prog W=stored prog W a (.func f #[] cb) m:=fun a m W f cb=>run_store prog W a _ m rfl;go_upto_region 7 with (go_at_call 33;refine HX.o.1.mono ?_;rintro e w1 ⟨gd,ad,nd,cd,ap,np,cp,gk,ak,nk,ck',aq,nq,cq,els,rfl,-,-,-,hk1⟩;have H1:=jJ hk1;clear hk1)
  have k2:aA Nil w1 (((w1.alloc (.cells #[.int .i64 N.kind,.bool gd,.slice ad nd cd,.slice ap np cp,.bool gk,.slice ak nk ck',.int .i64 N.var,.slice aq nq cq] 68)).alloc (.map #[] 0)).alloc (.cells #[.map (some (w1.heap.size+1))] 107)):=kOf;have hmap:=(OMap.made (P:=prog) (kt:=3) (et:=3) (w1.alloc (.cells #[.int .i64 N.kind,.bool gd,.slice ad nd cd,.slice ap np cp,.bool gk,.slice ak nk ck',.int .i64 N.var,.slice aq nq cq] 68)) A.nodes.length).keep (M:=Nil) (w':=((w1.alloc (.cells #[.int .i64 N.kind,.bool gd,.slice ad nd cd,.slice ap np cp,.bool gk,.slice ak nk ck',.int .i64 N.var,.slice aq nq cq] 68)).alloc (.map #[] 0)).alloc (.cells #[.map (some (w1.heap.size+1))] 107)) kOf id;have rc:=aC.alloc (w:=(w1.alloc (.cells #[.int .i64 N.kind,.bool gd,.slice ad nd cd,.slice ap np cp,.bool gk,.slice ak nk ck',.int .i64 N.var,.slice aq nq cq] 68)).alloc (.map #[] 0)) (E:=107) (xs:=[.map (some (w1.heap.size+1))]);change aC (((w1.alloc (.cells #[.int .i64 N.kind,.bool gd,.slice ad nd cd,.slice ap np cp,.bool gk,.slice ak nk ck',.int .i64 N.var,.slice aq nq cq] 68)).alloc (.map #[] 0)).alloc (.cells #[.map (some (w1.heap.size+1))] 107)) _ _ _ at rc;rw [show ((w1.alloc (.cells #[.int .i64 N.kind,.bool gd,.slice ad nd cd,.slice ap np cp,.bool gk,.slice ak nk ck',.int .i64 N.var,.slice aq nq cq] 68)).alloc (.map #[] 0)).heap.size=w1.heap.size+1+1 by simp] at rc;rw [show (w1.alloc (.cells #[.int .i64 N.kind,.bool gd,.slice ad nd cd,.slice ap np cp,.bool gk,.slice ak nk ck',.int .i64 N.var,.slice aq nq cq] 68)).heap.size=w1.heap.size+1 by simp] at hmap;generalize ((w1.alloc (.cells #[.int .i64 N.kind,.bool gd,.slice ad nd cd,.slice ap np cp,.bool gk,.slice ak nk ck',.int .i64 N.var,.slice aq nq cq] 68)).alloc (.map #[] 0)).alloc (.cells #[.map (some (w1.heap.size+1))] 107)=w2 at *
  obtain ⟨bm,hbm⟩:∃b,w1.heap.size+1=b:=⟨_,rfl⟩;rw [hbm] at hmap rc⊢;have hs01:w0.heap.size≤w1.heap.size:=H1.o.size;have hl1:=H0.o.2.1.lt;have H2:=jJ (aI4 hmap rc (H1.o.trans k2) hbm);have hl2:=rc.lt;clear hmap rc k2 hmm;go_upto_region 9 with (fail)
  have r3:=aC.alloc (w:=w2) (E:=115) (xs:=[.func (.func 102) #[] #[.pointer (some ⟨bm+1,0,none⟩),.pointer (some ⟨w.heap.size,0,none⟩),.pointer (some ⟨w2.heap.size,0,none⟩),.pointer (some ⟨w.heap.size+1,0,none⟩)]]);change aC (w2.alloc (.cells #[.func (.func 102) #[] #[.pointer (some ⟨bm+1,0,none⟩),.pointer (some ⟨w.heap.size,0,none⟩),.pointer (some ⟨w2.heap.size,0,none⟩),.pointer (some ⟨w.heap.size+1,0,none⟩)]] 115)) _ _ _ at r3;have k3:aA Nil w2 (w2.alloc (.cells #[.func (.func 102) #[] #[.pointer (some ⟨bm+1,0,none⟩),.pointer (some ⟨w.heap.size,0,none⟩),.pointer (some ⟨w2.heap.size,0,none⟩),.pointer (some ⟨w.heap.size+1,0,none⟩)]] 115)):=kOf;generalize w2.alloc (.cells #[.func (.func 102) #[] #[.pointer (some ⟨bm+1,0,none⟩),.pointer (some ⟨w.heap.size,0,none⟩),.pointer (some ⟨w2.heap.size,0,none⟩),.pointer (some ⟨w.heap.size+1,0,none⟩)]] 115)=w3 at *
  obtain ⟨pw,hpw⟩:∃b,w2.heap.size=b:=⟨_,rfl⟩;rw [hpw] at r3 hl2⊢;obtain ⟨d3,-⟩:=r3.one;have kw:aA Nil w w3:=(H0.o.2.2.trans H2.o.2.2.1).trans k3;have hbw:w.heap.size+1<bm:=by have:=H2.o.2.2.2;omega
  have hlt3:pw<w3.heap.size:=r3.lt;have hgm:gm<w.heap.size:=HA.o.r4.1.lt;have hw:=walk_any (L:=[(bm+1,107,[.map (some bm)]),(w.heap.size,26,[.pointer (some ⟨g,0,none⟩)]),(pw,115,[.func (.func 102) #[] #[.pointer (some ⟨bm+1,0,none⟩),.pointer (some ⟨w.heap.size,0,none⟩),.pointer (some ⟨pw,0,none⟩),.pointer (some ⟨w.heap.size+1,0,none⟩)]]),(w.heap.size+1,101,[.func (.func fn) #[] cap])]++L) HT.o.1 (through_pre HT.o.2.1 _) HT.o.2.2 (fun W h=>⟨HoldR.head h,HoldR.head (HoldR.tail h),HoldR.head (HoldR.tail (HoldR.tail h)),HoldR.head (HoldR.tail (HoldR.tail (HoldR.tail h)))⟩)
   (FarR.cons (fun h=>h.elim (fun h=>by simp only at h;omega) fun h=>by simp only at h;omega) (FarR.cons (fun h=>h.elim (fun h=>by simp only at h;omega) fun h=>by simp only at h;omega) (FarR.cons (fun h=>h.elim (fun h=>by simp only at h;omega) fun h=>by simp only at h;omega) (FarR.cons (fun h=>h.elim (fun h=>by simp only at h;omega) fun h=>by simp only at h;omega) fun r hr hm=>hm.elim (fun h=>HA.o.r8.1 r hr h) fun h=>by have:=HA.o.r6.1.lt r hr;omega))))
   (show bm≠gm by omega) HA.o.r11.len (nid.toNat+1) nid (by omega) HX.o.2.2.1 HX.o.2.2.2 w3 O (fun b=>M0 b∨b=bm) ⟨fun _=>none,A,sp,ov⟩ (HA.o.1.keep kw fun _ h=>h.elim) (HA.o.2.1.keepNil kw) (fun b hb=>.inl (HA.o.2.2.1 b hb)) (fun b hb=>hb.elim (fun h=>cZ1 (HA.o.2.2.2.1 b h) kw.size) fun h=>by omega) (HA.o.r4.1.move kw (fun _ _ h=>h.elim) fun b hlt hb=>hb.elim id fun h=>by omega) (H2.o.1.keep k3 id) (.inr rfl) (fun h=>by have:=HA.o.1.lt bm h;omega)
   (HoldR.cons (H2.o.2.1.keep k3 id) (HoldR.cons (H0.o.1.keep (H2.o.2.2.1.trans k3) id) (HoldR.cons r3 (HoldR.cons (H0.o.2.1.keep (H2.o.2.2.1.trans k3) id) fun r hr=>(HA.o.r6.1 r hr).keep kw id))))
   (FarR.cons (fun h=>by have:=HA.o.1.lt _ h;simp only at this;omega) (FarR.cons (fun h=>by have:=HA.o.1.lt _ h;simp only at this;omega) (FarR.cons (fun h=>by have:=HA.o.1.lt _ h;simp only at this;omega) (FarR.cons (fun h=>by have:=HA.o.1.lt _ h;simp only at this;omega) HA.o.r7.1))))
   ⟨HA.o.r5.1,fun u y hu=>by cases hu⟩ (bZ2 _) (fun b hb=>hb.elim (fun h=>HA.o.r9.1 b (.inl h)) fun h=>h.elim (fun h=>HA.o.r9.1 b (.inr h)) fun h=>by have:=HA.o.2.1.1;omega)
  have heg:∀args w,(callFunc 102 args).run prog w=.ok (.enter 102 args) w:=enters_of func102 (by kernel_rfl) rfl;obtain ⟨r,hr⟩:∃r,cX T (nid.toNat+1) ⟨fun _=>none,A,sp,ov⟩ nid=r:=⟨_,rfl⟩;rw [hr] at hw;have HW:=jJ (aI4 hw kw hbw hr);clear hw kw hr r3 k3;go_wp2_with (go_at_call 102;refine HW.o.1.mono ?_;rintro e w4 ⟨rfl,hst⟩;have H4:=jJ hst;clear hst)
  go_ret2
  rw [show cA T A sp ov nid=(r.1,r.2.A,(r.2.sp,r.2.ov)) by unfold cA;rw [if_neg (by rw [HX.o.2.1];simp),HW.o.2.2.2]];obtain ⟨⟨O',q1,q2,q3,q4,-⟩,kk⟩:=H4.o;have hsz:=HW.o.2.1.size;exact⟨rfl,⟨O',q1,q2,fun b hb=>(q3 b hb).imp id fun h=>bZ1 hsz h,q4.move (aA.refl Nil w4) (fun _ _ h=>h.elim) fun b _ hb=>hb.elim (fun h=>.inl (.inl h)) .inr⟩,(HW.o.2.1.of_nil).trans' kk fun b hb=>hb.elim (fun h=>.inl (.inl h)) fun h=>h.elim (fun h=>.inl (.inr h)) fun h=>.inr (by omega)⟩
end Go.Proofs.Q
