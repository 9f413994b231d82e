/- What each operation of the last statement of the arena's made yields and turns; what an arena holds behind it. -/
import Derived.Test.YthjlmocbeoimaaaGreatDoorMArenasA
set_option linter.unusedSimpArgs false
set_option linter.unusedVariables false
set_option maxRecDepth 100000
set_option maxHeartbeats 4000000
namespace Go.Rid
open Go.RowKit
variable {G:(Nat→Value)→Act} {w:World} {v:Value} {xs:List Value} {n sz:Nat} {E' E:TypeId} {o:Oper} {a:Act}
theorem aP.tyE {base g:Nat} {els:List (List Value)} (h:aP w base E sz v els) (hr:aF w g E' xs) (hne:E≠E'):v.ownBlock≠some g:=by
 intro e;rcases h.form with ⟨rfl,_⟩|⟨g',cap,rest,_,h1,_,_,_,h2⟩
 ·simp [Value.ownBlock] at e
 ·rw [h2] at e;cases e;have:=h1.out.symm.trans hr.out;simp at this;exact hne this.2
theorem aP.tyE2 {base base':Nat} {sz':Nat} {v':Value} {els els':List (List Value)} (h:aP w base E sz v els) (h':aP w base' E' sz' v' els') (hne:E≠E'):∀b,v.ownBlock=some b→v'.ownBlock≠some b:=by
 intro b hb e;rcases h.form with ⟨rfl,_⟩|⟨g',cap,rest,_,h1,_,_,_,h2⟩
 ·simp [Value.ownBlock] at hb
 ·rw [h2] at hb;cases hb;exact h'.tyE h1 (fun e=>hne e.symm) e
def aV (P:Program) (ops:Array Oper) (Q:Exit→Act→World→Prop) (w0:World) (G:(Nat→Value)→Act) (ds:List Nat) (F:Nat→Value→World→Prop) (A:Nat→Prop) (Pre:Nat→World→Prop) (R:Nat→World→World→Prop) (n:Nat):Prop:=
 ∀j,j<n→∀o,ops[j]?=some o→∀(us:Nat→Value) (w:World),aA A w0 w→Pre j w→(∀i,(preds o).elem i=true→F i (us (ds.getD i 0)) w)→∀K:Act→World→Prop,Shut (∀v w',R j w w'→aA A w0 w'→F j v w'→K ((G us).put o.dst v) w') →
  if Region.wanted o (yielded ops (G us).tmps)=true then Oper.wp P o (G us) w K Q else K ((G us).put o.dst undef) w
section
variable {P:Program} {ops:Array Oper} {Q:Exit→Act→World→Prop} {w0:World} {ds:List Nat} {F:Nat→Value→World→Prop} {A:Nat→Prop} {Pre:Nat→World→Prop} {R:Nat→World→World→Prop}
theorem aV.zero:aV P ops Q w0 G ds F A Pre R 0:=fun _ h=>by omega
theorem aV.succ (ho:ops[n]?=some o)
  (h:∀(us:Nat→Value) (w:World),aA A w0 w→Pre n w→(∀i,(preds o).elem i=true→F i (us (ds.getD i 0)) w)→∀K:Act→World→Prop,Shut (∀v w',R n w w'→aA A w0 w'→F n v w'→K ((G us).put o.dst v) w') →
   if Region.wanted o (yielded ops (G us).tmps)=true then Oper.wp P o (G us) w K Q else K ((G us).put o.dst undef) w)
  (hs:aV P ops Q w0 G ds F A Pre R n):aV P ops Q w0 G ds F A Pre R (n+1):=fun j hj=>by
 rcases Nat.lt_succ_iff_lt_or_eq.1 hj with h'|rfl
 ·exact hs j h'
 ·intro o' ho';obtain rfl:o=o':=by rw [ho] at ho';exact Option.some.inj ho'
  exact h
theorem OrderSteps.byG (hG:∀us,aM a us ds=G us) (h:aV P ops Q w0 G ds F A Pre R n):OrderSteps P ops Q w0 a ds F A Pre R n:=fun j hj o ho us w hk hp hf K hK=>by
 rw [hG us] at hK⊢;exact h j hj o ho us w hk hp hf K hK
end
end Go.Rid
namespace Go.Proofs.Q
open Go.RowKit Go.Rid
variable {j b:Nat} {w w':World} {x:Value} {xs:List Value} {E:TypeId}
structure MC where
 B:Nat
 sz:Nat
 g:Nat
 bn:Nat
 vn:Value
 vf:Value
 vp:Value
 vm:Value
 vt:Value
 ne:List (List Value)
 fe:List (List Value)
 pe:List (List Value)
 cn:List Value
 fv:Value
 q:Int
def MC.far (J:MC) (b:Nat):Prop:=J.vn.ownBlock≠some b∧J.vf.ownBlock≠some b∧J.vp.ownBlock≠some b∧b≠J.g
def MC.New (J:MC) (v v':Value):Prop:=∀k,v'.ownBlock=some k→v.ownBlock=some k∨J.sz≤k
def MC.A (J:MC):Nat→Prop:=fun b=>J.vn.ownBlock=some b∨J.vf.ownBlock=some b∨J.vp.ownBlock=some b∨b=J.g
def MC.row (J:MC) (w:World) (x y z:Value):Prop:=aF w J.g 66 [x,y,z,J.vm,J.vt]
def MC.F (J:MC):Nat→Value→World→Prop
 | 5,v,_=>v=.pointer (some ⟨J.g,0,none⟩)
 | 6,v,_=>v=J.vn
 | 7,v,_=>v=.agg J.cn.toArray
 | 8,v,w=>∃b,v=.slice (some ⟨b,0,none⟩) 1 1∧aF w b 55 J.cn∧J.far b
 | 9,v,w=>∃a c,v=.slice a (J.ne.length+1) c∧aP w J.B 55 8 v (J.ne++[J.cn])∧J.New J.vn v
 | 12,v,_=>v=.pointer (some ⟨J.g,1,none⟩)
 | 13,v,_=>v=J.vf
 | 14,v,_=>v=J.fv
 | 15,v,w=>∃b,v=.slice (some ⟨b,0,none⟩) 1 1∧aF w b 22 [J.fv]∧J.far b
 | 16,v,w=>∃a c,v=.slice a (J.fe.length+1) c∧aP w J.B 22 1 v (J.fe++[[J.fv]])∧J.New J.vf v
 | 19,v,_=>v=.pointer (some ⟨J.g,2,none⟩)
 | 20,v,_=>v=J.vp
 | 21,v,_=>v=.int .i64 J.q
 | 22,v,w=>∃b,v=.slice (some ⟨b,0,none⟩) 1 1∧aF w b 3 [.int .i64 J.q]∧J.far b
 | 23,v,w=>∃a c,v=.slice a (J.pe.length+1) c∧aP w J.B 3 1 v (J.pe++[[.int .i64 J.q]])∧J.New J.vp v
 | 25,v,_=>v=.pointer (some ⟨J.g,0,none⟩)
 | 26,_,w=>∃a c y z,aP w J.B 55 8 (.slice a (J.ne.length+1) c) (J.ne++[J.cn])∧J.New J.vn (.slice a (J.ne.length+1) c)∧J.row w (.slice a (J.ne.length+1) c) y z
 | 28,v,_=>v=.pointer (some ⟨J.g,1,none⟩)
 | 29,_,w=>∃a c x z,aP w J.B 22 1 (.slice a (J.fe.length+1) c) (J.fe++[[J.fv]])∧J.New J.vf (.slice a (J.fe.length+1) c)∧J.row w x (.slice a (J.fe.length+1) c) z
 | 31,v,_=>v=.pointer (some ⟨J.g,2,none⟩)
 | 32,_,w=>∃a c x y,aP w J.B 3 1 (.slice a (J.pe.length+1) c) (J.pe++[[.int .i64 J.q]])∧J.New J.vp (.slice a (J.pe.length+1) c)∧J.row w x y (.slice a (J.pe.length+1) c)
 | _,v,_=>v=.pointer (some ⟨J.g,0,none⟩)
def MC.Pre (J:MC):Nat→World→Prop
 | 6,w=>∃y z,J.row w J.vn y z
 | 7,w=>aF w J.bn 55 J.cn
 | 9,w=>aP w J.B 55 8 J.vn J.ne
 | 13,w=>∃x z,J.row w x J.vf z
 | 16,w=>aP w J.B 22 1 J.vf J.fe
 | 20,w=>∃x y,J.row w x y J.vp
 | 23,w=>aP w J.B 3 1 J.vp J.pe
 | 26,w=>∃x y z,J.row w x y z
 | 29,w=>∃x y z,J.row w x y z
 | 32,w=>∃x y z,J.row w x y z
 | _,_=>True
def MC.R (J:MC):Nat→World→World→Prop
 | 8,w,w'=>aA Nil w w'
 | 9,w,w'=>aP w J.B 55 8 J.vn J.ne∧aA (Own J.vn) w w'
 | 15,w,w'=>aA Nil w w'
 | 16,w,w'=>aP w J.B 22 1 J.vf J.fe∧aA (Own J.vf) w w'
 | 22,w,w'=>aA Nil w w'
 | 23,w,w'=>aP w J.B 3 1 J.vp J.pe∧aA (Own J.vp) w w'
 | 26,w,w'=>(∃x y z,J.row w x y z)∧∃u,w'=w.setCell ⟨J.g,0,none⟩ u
 | 29,w,w'=>(∃x y z,J.row w x y z)∧∃u,w'=w.setCell ⟨J.g,1,none⟩ u
 | 32,w,w'=>(∃x y z,J.row w x y z)∧∃u,w'=w.setCell ⟨J.g,2,none⟩ u
 | _,w,w'=>w=w'
theorem MC.R_keeps (J:MC) (h:J.R j w w'):w=w'∨aA Nil w w'∨(j=9∧aP w J.B 55 8 J.vn J.ne∧aA (Own J.vn) w w')∨(j=16∧aP w J.B 22 1 J.vf J.fe∧aA (Own J.vf) w w')∨(j=23∧aP w J.B 3 1 J.vp J.pe∧aA (Own J.vp) w w')∨((∃x y z,J.row w x y z)∧aA (One J.g) w w'):=by
 unfold MC.R at h;split at h
 ·exact .inr (.inl h)
 ·exact .inr (.inr (.inl ⟨rfl,h⟩))
 ·exact .inr (.inl h)
 ·exact .inr (.inr (.inr (.inl ⟨rfl,h⟩)))
 ·exact .inr (.inl h)
 ·exact .inr (.inr (.inr (.inr (.inl ⟨rfl,h⟩))))
 ·obtain ⟨hr,u,rfl⟩:=h;exact .inr (.inr (.inr (.inr (.inr ⟨hr,(aA.refl (One J.g) w).set1 0 u⟩))))
 ·obtain ⟨hr,u,rfl⟩:=h;exact .inr (.inr (.inr (.inr (.inr ⟨hr,(aA.refl (One J.g) w).set1 1 u⟩))))
 ·obtain ⟨hr,u,rfl⟩:=h;exact .inr (.inr (.inr (.inr (.inr ⟨hr,(aA.refl (One J.g) w).set1 2 u⟩))))
 ·exact .inl h
theorem MC.far_keep (J:MC) (hb:J.far b) (h:J.R j w w') (hr:aF w b E xs):aF w' b E xs:=by
 rcases J.R_keeps h with rfl|k|⟨_,_,k⟩|⟨_,_,k⟩|⟨_,_,k⟩|⟨_,k⟩
 ·exact hr
 ·exact hr.keep k id
 ·exact hr.keep k hb.1
 ·exact hr.keep k hb.2.1
 ·exact hr.keep k hb.2.2.1
 ·exact hr.keep k hb.2.2.2
theorem MC.nodes_keep (J:MC) {els:List (List Value)} (hj:j≠9) (h:J.R j w w') (ho:aP w J.B 55 8 x els):aP w' J.B 55 8 x els:=by
 rcases J.R_keeps h with rfl|k|⟨e,_⟩|⟨_,hR,k⟩|⟨_,hR,k⟩|⟨⟨x',y,z,hr⟩,k⟩
 ·exact ho
 ·exact ho.keepNil k
 ·exact absurd e hj
 ·exact ho.keep k fun b hb hm=>ho.tyE2 hR (by decide) b hb hm
 ·exact ho.keep k fun b hb hm=>ho.tyE2 hR (by decide) b hb hm
 ·exact ho.keep k fun b hb hm=>ho.tyE hr (by decide) (by rw [hb];exact congrArg some hm)
theorem MC.free_keep (J:MC) {els:List (List Value)} (hj:j≠16) (h:J.R j w w') (ho:aP w J.B 22 1 x els):aP w' J.B 22 1 x els:=by
 rcases J.R_keeps h with rfl|k|⟨_,hR,k⟩|⟨e,_⟩|⟨_,hR,k⟩|⟨⟨x',y,z,hr⟩,k⟩
 ·exact ho
 ·exact ho.keepNil k
 ·exact ho.keep k fun b hb hm=>ho.tyE2 hR (by decide) b hb hm
 ·exact absurd e hj
 ·exact ho.keep k fun b hb hm=>ho.tyE2 hR (by decide) b hb hm
 ·exact ho.keep k fun b hb hm=>ho.tyE hr (by decide) (by rw [hb];exact congrArg some hm)
theorem MC.plain_keep (J:MC) {els:List (List Value)} (hj:j≠23) (h:J.R j w w') (ho:aP w J.B 3 1 x els):aP w' J.B 3 1 x els:=by
 rcases J.R_keeps h with rfl|k|⟨_,hR,k⟩|⟨_,hR,k⟩|⟨e,_⟩|⟨⟨x',y,z,hr⟩,k⟩
 ·exact ho
 ·exact ho.keepNil k
 ·exact ho.keep k fun b hb hm=>ho.tyE2 hR (by decide) b hb hm
 ·exact ho.keep k fun b hb hm=>ho.tyE2 hR (by decide) b hb hm
 ·exact absurd e hj
 ·exact ho.keep k fun b hb hm=>ho.tyE hr (by decide) (by rw [hb];exact congrArg some hm)
theorem MC.box_keep (J:MC) {y z:Value} (h:J.R j w w') (hr:J.row w x y z):∃x' y' z',J.row w' x' y' z'∧(j≠26→x'=x)∧(j≠29→y'=y)∧(j≠32→z'=z):=by
 unfold MC.row at *
 unfold MC.R MC.row at h;split at h
 ·exact⟨x,y,z,hr.keep h id,fun _=>rfl,fun _=>rfl,fun _=>rfl⟩
 ·exact⟨x,y,z,hr.keep h.2 (fun hm=>h.1.tyE hr (by decide) hm),fun _=>rfl,fun _=>rfl,fun _=>rfl⟩
 ·exact⟨x,y,z,hr.keep h id,fun _=>rfl,fun _=>rfl,fun _=>rfl⟩
 ·exact⟨x,y,z,hr.keep h.2 (fun hm=>h.1.tyE hr (by decide) hm),fun _=>rfl,fun _=>rfl,fun _=>rfl⟩
 ·exact⟨x,y,z,hr.keep h id,fun _=>rfl,fun _=>rfl,fun _=>rfl⟩
 ·exact⟨x,y,z,hr.keep h.2 (fun hm=>h.1.tyE hr (by decide) hm),fun _=>rfl,fun _=>rfl,fun _=>rfl⟩
 ·obtain ⟨_,u,rfl⟩:=h;exact⟨u,y,z,hr.set 0 u,fun h=>absurd rfl h,fun _=>rfl,fun _=>rfl⟩
 ·obtain ⟨_,u,rfl⟩:=h;exact⟨x,u,z,hr.set 1 u,fun _=>rfl,fun h=>absurd rfl h,fun _=>rfl⟩
 ·obtain ⟨_,u,rfl⟩:=h;exact⟨x,y,u,hr.set 2 u,fun _=>rfl,fun _=>rfl,fun h=>absurd rfl h⟩
 ·subst h;exact⟨x,y,z,hr,fun _=>rfl,fun _=>rfl,fun _=>rfl⟩
theorem MC.hF (J:MC) (A:Nat→Nat→Bool) (a1:A 26 9=true) (a2:A 29 16=true) (a3:A 32 23=true):∀i j v w w',i≠j→A i j=false→J.R j w w'→J.F i v w→J.F i v w':=by
 intro i j v w w' hij hA hR hf;unfold MC.F at hf⊢;split at hf
 ·exact hf
 ·exact hf
 ·exact hf
 ·obtain ⟨b,rfl,hr,hb⟩:=hf;exact⟨b,rfl,J.far_keep hb hR hr,hb⟩
 ·obtain ⟨a,c,rfl,ho,hn⟩:=hf;exact⟨a,c,rfl,J.nodes_keep (fun e=>hij e.symm) hR ho,hn⟩
 ·exact hf
 ·exact hf
 ·exact hf
 ·obtain ⟨b,rfl,hr,hb⟩:=hf;exact⟨b,rfl,J.far_keep hb hR hr,hb⟩
 ·obtain ⟨a,c,rfl,ho,hn⟩:=hf;exact⟨a,c,rfl,J.free_keep (fun e=>hij e.symm) hR ho,hn⟩
 ·exact hf
 ·exact hf
 ·exact hf
 ·obtain ⟨b,rfl,hr,hb⟩:=hf;exact⟨b,rfl,J.far_keep hb hR hr,hb⟩
 ·obtain ⟨a,c,rfl,ho,hn⟩:=hf;exact⟨a,c,rfl,J.plain_keep (fun e=>hij e.symm) hR ho,hn⟩
 ·exact hf
 ·obtain ⟨a,c,y,z,ho,hn,hr⟩:=hf;obtain ⟨x',y',z',hr',e1,_⟩:=J.box_keep hR hr;rw [e1 (fun e=>hij e.symm)] at hr';exact⟨a,c,y',z',J.nodes_keep (fun e=>by subst e;rw [a1] at hA;cases hA) hR ho,hn,hr'⟩
 ·exact hf
 ·obtain ⟨a,c,x,z,ho,hn,hr⟩:=hf;obtain ⟨x',y',z',hr',_,e1,_⟩:=J.box_keep hR hr;rw [e1 (fun e=>hij e.symm)] at hr';exact⟨a,c,x',z',J.free_keep (fun e=>by subst e;rw [a2] at hA;cases hA) hR ho,hn,hr'⟩
 ·exact hf
 ·obtain ⟨a,c,x,y,ho,hn,hr⟩:=hf;obtain ⟨x',y',z',hr',_,_,e1⟩:=J.box_keep hR hr;rw [e1 (fun e=>hij e.symm)] at hr';exact⟨a,c,x',y',J.plain_keep (fun e=>by subst e;rw [a3] at hA;cases hA) hR ho,hn,hr'⟩
 ·exact hf
theorem MC.hP (J:MC) (A:Nat→Nat→Bool) (b1:A 26 6=true) (b2:A 29 13=true) (b3:A 32 20=true) (hbt:J.far J.bn):∀i j w w',i≠j→A j i=false→J.R j w w'→J.Pre i w→J.Pre i w':=by
 intro i j w w' hij hA hR hp;unfold MC.Pre at hp⊢;split at hp
 ·obtain ⟨y,z,hr⟩:=hp;obtain ⟨x',y',z',hr',e1,_⟩:=J.box_keep hR hr;rw [e1 (fun e=>by subst e;rw [b1] at hA;cases hA)] at hr';exact⟨y',z',hr'⟩
 ·exact J.far_keep hbt hR hp
 ·exact J.nodes_keep (fun e=>hij e.symm) hR hp
 ·obtain ⟨x,z,hr⟩:=hp;obtain ⟨x',y',z',hr',_,e1,_⟩:=J.box_keep hR hr;rw [e1 (fun e=>by subst e;rw [b2] at hA;cases hA)] at hr';exact⟨x',z',hr'⟩
 ·exact J.free_keep (fun e=>hij e.symm) hR hp
 ·obtain ⟨x,y,hr⟩:=hp;obtain ⟨x',y',z',hr',_,_,e1⟩:=J.box_keep hR hr;rw [e1 (fun e=>by subst e;rw [b3] at hA;cases hA)] at hr';exact⟨x',y',hr'⟩
 ·exact J.plain_keep (fun e=>hij e.symm) hR hp
 ·obtain ⟨x,y,z,hr⟩:=hp;obtain ⟨x',y',z',hr',_⟩:=J.box_keep hR hr;exact⟨x',y',z',hr'⟩
 ·obtain ⟨x,y,z,hr⟩:=hp;obtain ⟨x',y',z',hr',_⟩:=J.box_keep hR hr;exact⟨x',y',z',hr'⟩
 ·obtain ⟨x,y,z,hr⟩:=hp;obtain ⟨x',y',z',hr',_⟩:=J.box_keep hR hr;exact⟨x',y',z',hr'⟩
 ·exact hp
theorem MC.pre (J:MC) (hrow:J.row w J.vn J.vf J.vp) (hn:aP w J.B 55 8 J.vn J.ne) (hf:aP w J.B 22 1 J.vf J.fe) (hp:aP w J.B 3 1 J.vp J.pe) (hb:aF w J.bn 55 J.cn):∀j,J.Pre j w.drew:=by
 intro j;have k:aA Nil w w.drew:=(aA.refl Nil w).drew;have hrow':J.row w.drew J.vn J.vf J.vp:=hrow.keep k id;unfold MC.Pre;split
 ·exact⟨_,_,hrow'⟩
 ·exact hb.keep k id
 ·exact hn.keepNil k
 ·exact⟨_,_,hrow'⟩
 ·exact hf.keepNil k
 ·exact⟨_,_,hrow'⟩
 ·exact hp.keepNil k
 ·exact⟨_,_,_,hrow'⟩
 ·exact⟨_,_,_,hrow'⟩
 ·exact⟨_,_,_,hrow'⟩
 ·trivial
end Go.Proofs.Q

namespace Go.Rid
open Go.RowKit
variable {j i:Nat} {l:List Int} {N:aW}
theorem dL {α:Type} (l:List α) (x d:α) (h:i<l.length):(l++[x]).getD i d=l.getD i d:=by simp [List.getD,List.getElem?_append_left h]
theorem dM {α:Type} (l:List α) (x d:α):(l++[x]).getD l.length d=x:=by simp [List.getD]
theorem keyF_snoc {l:List aW} (h2:2≤l.length) (hn:keyF l (bA N)=none):keyF (l++[N])=fun t=>if t=bA N then some l.length else keyF l t:=by
 funext t;unfold keyF at *
 rw [aZ1,List.length_singleton,List.range_succ,List.find?_append];have e:((List.range l.length).find? fun i=>decide (2≤i)&&decide (bA ((l++[N]).getD i aZ)=t))=(List.range l.length).find? fun i=>decide (2≤i)&&decide (bA (l.getD i aZ)=t):=by
  have:∀m,m≤l.length→((List.range m).find? fun i=>decide (2≤i)&&decide (bA ((l++[N]).getD i aZ)=t))=(List.range m).find? fun i=>decide (2≤i)&&decide (bA (l.getD i aZ)=t):=by
   intro m hm;induction m with
   | zero=>rfl
   | succ m ih=>
    rw [List.range_succ,List.find?_append,List.find?_append,ih (by omega)];congr 1;simp only [List.find?_singleton];rw [dL l N aZ (by omega)]
  exact this _ (bZ2 _)
 rw [e];simp only [List.find?_singleton,dM];by_cases ht:t=bA N
 ·subst ht;rw [hn,if_pos rfl];simp [h2]
 ·rw [if_neg ht,if_neg (by simp [Ne.symm ht])];simp
def freeUp (A:aO) (N:aW) (j:Nat):List Int:=(neatL N.t.parts).map (·.1)++(N.kids.take j).flatMap fun k=>A.free.getD k.toNat []
def freeRaw (A:aO) (N:aW):List Int:=(neatL N.t.parts).map (·.1)++N.kids.flatMap fun k=>A.free.getD k.toNat []
def cI (l:List Int):List Int:=Lib.compact (Go.Proofs.Q.sortI l)
def freeOf (A:aO) (N:aW):List Int:=if 7≤N.kind then without N.var (cI (freeRaw A N)) else cI (freeRaw A N)
def plainUp (A:aO) (N:aW) (j:Nat):Int:=(N.kids.take j).foldl (fun q k=>max q (A.plain.getD k.toNat 0)) 0
def plainOf (A:aO) (N:aW):Int:=if 7≤N.kind then 1 else plainUp A N N.kids.length
def addA (A:aO) (N:aW):aO:=⟨A.nodes++[N],A.free++[freeOf A N],A.plain++[plainOf A N],A.cnt+1⟩
theorem take_snoc_getD (h:j<l.length):l.take (j+1)=l.take j++[l.getD j 0]:=by
 rw [List.take_succ_eq_append_getElem h];simp [List.getD,h]
theorem freeUp_zero (A:aO) (N:aW):freeUp A N 0=(neatL N.t.parts).map (·.1):=by simp [freeUp]
theorem freeUp_succ (A:aO) (N:aW) (h:j<N.kids.length):freeUp A N (j+1)=freeUp A N j++A.free.getD (N.kids.getD j 0).toNat []:=by
 unfold freeUp;rw [take_snoc_getD h,List.flatMap_append,←lZ2];simp
theorem plainUp_succ (A:aO) (N:aW) (h:j<N.kids.length):plainUp A N (j+1)=max (plainUp A N j) (A.plain.getD (N.kids.getD j 0).toNat 0):=by
 unfold plainUp;rw [take_snoc_getD h,List.foldl_append];rfl
theorem freeUp_le (A:aO) (N:aW) (h:j≤N.kids.length):(freeUp A N j).length≤(freeRaw A N).length:=by
 unfold freeUp freeRaw;conv=>rhs;rw [←mZ2 j N.kids,List.flatMap_append]
 simp
theorem freeUp_all (A:aO) (N:aW):freeUp A N N.kids.length=freeRaw A N:=by unfold freeUp freeRaw;rw [eZ1 (bZ2 _)]
end Go.Rid
namespace Go.Proofs.Q
open Go.RowKit Go.Rid
theorem ArenaW.add {B:Nat} {O O':Nat→Prop} {w w':World} {g gm:Nat} {vn vf vp vn' vf' vp':Value} {bm:Nat} {ne fe:List (List Value)} {A:aO} (h:ArenaW B O w g gm vn vf vp bm ne fe A) {N:aW} {f:List Int} {q:Int} {cn:List Value} {fv:Value} (k:aA (Mut g vn vf vp bm) w w')
  (row:aF w' g 66 [vn',vf',vp',.map (some bm),.pointer (some ⟨gm,0,none⟩)])
  (oN:aP w' B 55 8 vn' (ne++[cn])) (oF:aP w' B 22 1 vf' (fe++[[fv]])) (oP:aP w' B 3 1 vp' (aQ (A.plain++[q])))
  (map:KMap Tryz.prog 9 3 w' bm (A.cnt+1) (keyF (A.nodes++[N])))
  (nN:∀b,vn'.ownBlock=some b→vn.ownBlock=some b∨w.heap.size≤b) (nF:∀b,vf'.ownBlock=some b→vf.ownBlock=some b∨w.heap.size≤b) (nP:∀b,vp'.ownBlock=some b→vp.ownBlock=some b∨w.heap.size≤b)
  (hO1:∀b,O b→O' b) (hO3:∀b,w.heap.size≤b→b<w'.heap.size→O' b) (hin:∀b,O' b→B≤b∧b<w'.heap.size) (hgm:¬O' gm)
  (hN:NodeR (Off O' g vn' vf' vp' bm) w' cn N) (hf:NumsR (Off O' g vn' vf' vp' bm) w' [fv] f) :
  ArenaW B O' w' g gm vn' vf' vp' bm (ne++[cn]) (fe++[[fv]]) ⟨A.nodes++[N],A.free++[f],A.plain++[q],A.cnt+1⟩:=by
 have hl1:=h.nl;have hl2:=h.fl;have hl3:=h.fl2;have hl4:=h.pl;have hoff:∀b,b<w.heap.size→Off O' g vn' vf' vp' bm b→Off O g vn vf vp bm b:=fun b hb ho=>by
  rcases ho with ho|ho
  ·left;rcases ho with ho|ho|ho|ho|ho
   ·exact .inl ho
   ·rcases nN b ho with h1|h1
    ·exact .inr (.inl h1)
    ·omega
   ·rcases nF b ho with h1|h1
    ·exact .inr (.inr (.inl h1))
    ·omega
   ·rcases nP b ho with h1|h1
    ·exact .inr (.inr (.inr (.inl h1)))
    ·omega
   ·exact .inr (.inr (.inr (.inr ho)))
  ·exact .inr fun h1=>ho (hO1 b h1)
 refine ⟨row,oN,oF,oP,map,by simp [hl1],by simp [hl2],by simp [hl3],by simp [hl4],fun i hi=>?_,fun i hi=>?_,fun b hb=>?_,hin,hgm⟩
 ·rcases Nat.lt_or_ge i A.nodes.length with hi'|hi'
  ·rw [dL _ _ _ (by omega),dL _ _ _ hi'];exact (h.nr i hi').move k (fun b _ hb=>.inl hb) hoff
  ·obtain rfl:i=A.nodes.length:=by simp at hi;omega
   rw [dM,←hl1,dM];exact hN
 ·rcases Nat.lt_or_ge i A.nodes.length with hi'|hi'
  ·rw [dL _ _ _ (by omega),dL _ _ _ (by omega)];exact (h.fr i hi').move k (fun b _ hb=>.inl hb) hoff
  ·obtain rfl:i=A.nodes.length:=by simp at hi;omega
   rw [←hl2,dM,hl2,←hl3,dM];exact hf
 ·rcases hb with hb|hb|hb|hb|hb
  ·rw [hb];exact hO1 _ (h.mine _ (.inl rfl))
  ·rcases nN b hb with h1|h1
   ·exact hO1 b (h.mine b (.inr (.inl h1)))
   ·exact hO3 b h1 (oN.lt b hb).2
  ·rcases nF b hb with h1|h1
   ·exact hO1 b (h.mine b (.inr (.inr (.inl h1))))
   ·exact hO3 b h1 (oF.lt b hb).2
  ·rcases nP b hb with h1|h1
   ·exact hO1 b (h.mine b (.inr (.inr (.inr (.inl h1)))))
   ·exact hO3 b h1 (oP.lt b hb).2
  ·rw [hb];exact hO1 _ (h.mine _ (.inr (.inr (.inr (.inr rfl)))))
end Go.Proofs.Q

namespace Go.Rid
theorem byt_keyTxt (N:aW):Byt (bA N):=by
 unfold bA;refine ((byt_itoaN _).append (fun b hb=>by rw [dZ1.1 hb];omega)).append ?_;split
 ·exact ((byt_numTxt _).append (byt_numTxt _)).append (byt_partsTxt _)
 ·refine Byt.append ?_ fun b hb=>?_
  ·split
   ·exact (byt_itoaN _).append fun b hb=>by rw [dZ1.1 hb];omega
   ·intro b hb;cases hb
  ·obtain ⟨k,_,h⟩:=cZ3.1 hb;exact ((byt_itoaN k).append fun b hb=>by rw [dZ1.1 hb];omega) b h
end Go.Rid
namespace Go.Proofs.Q
open Go.RowKit Go.Rid
variable {xs:List (Bool × List Nat)} {fe:List (List Value)} {O:Nat→Prop} {w:World} {bm B0 gm B g i:Nat} {N:aW} {gd gk:Bool} {vn vf vp:Value}
theorem made_there {ne:List (List Value)} {A:aO} {ad ap ak aq al:Option Addr} {nd cd np cp nk ck nq cq nl cl:Nat} (hA:ArenaW B O w g gm vn vf vp bm ne fe A) (hT:Tab B0 w) (h:NodeAt Nil w gd ad nd cd ap np cp gk ak nk ck aq nq cq N) (hN:OkNode N) (hl:(bA N).length≤maxLen) (hi:keyF A.nodes (bA N)=some i) :
  Calls Tryz.prog 35 #[.pointer (some ⟨g,0,none⟩),.agg #[.int .i64 N.kind,.bool gd,.slice ad nd cd,.slice ap np cp,.bool gk,.slice ak nk ck,.int .i64 N.var,.slice aq nq cq],.slice al nl cl] w fun e w'=>e=.returned (.tuple #[.int .i64 i,.int .i64 0])∧aA Nil w w':=by
 have HA:=jJ (aI6 hA hT h hN hl hi);clear hA hT h hN hl hi;go_enter Tryz.func35,Tryz.ntmps35
 go_upto_region 1 with (fail)
 have r0:=aF.alloc (w:=w) (E:=55) (xs:=[.int .i64 N.kind,.bool gd,.slice ad nd cd,.slice ap np cp,.bool gk,.slice ak nk ck,.int .i64 N.var,.slice aq nq cq]);change aF (w.alloc (.cells #[.int .i64 N.kind,.bool gd,.slice ad nd cd,.slice ap np cp,.bool gk,.slice ak nk ck,.int .i64 N.var,.slice aq nq cq] 55)) _ _ _ at r0;have k0:aA Nil w (w.alloc (.cells #[.int .i64 N.kind,.bool gd,.slice ad nd cd,.slice ap np cp,.bool gk,.slice ak nk ck,.int .i64 N.var,.slice aq nq cq] 55)):=kOf;generalize (w.alloc (.cells #[.int .i64 N.kind,.bool gd,.slice ad nd cd,.slice ap np cp,.bool gk,.slice ak nk ck,.int .i64 N.var,.slice aq nq cq] 55))=w0 at *
 have c0:w0.cell? ⟨w.heap.size,0,none⟩=some (.int .i64 N.kind):=r0.cell 0;have c1:w0.cell? ⟨w.heap.size,1,none⟩=some (.bool gd):=r0.cell 1;have c2:w0.cell? ⟨w.heap.size,2,none⟩=some (.slice ad nd cd):=r0.cell 2;have c3:w0.cell? ⟨w.heap.size,3,none⟩=some (.slice ap np cp):=r0.cell 3;have c4:w0.cell? ⟨w.heap.size,4,none⟩=some (.bool gk):=r0.cell 4;have c5:w0.cell? ⟨w.heap.size,5,none⟩=some (.slice ak nk ck):=r0.cell 5;have c6:w0.cell? ⟨w.heap.size,6,none⟩=some (.int .i64 N.var):=r0.cell 6;have c7:w0.cell? ⟨w.heap.size,7,none⟩=some (.slice aq nq cq):=r0.cell 7;have H0:=jJ (aI k0 r0);clear k0 r0;go_upto_region 2 with (go_at_call 62;refine (key_any (HA.o.2.1.keepNil H0.o.1) (HA.o.2.2.1.move H0.o.1 (fun _ _ h=>h) fun _ _ h=>h) HA.o.2.2.2.1).mono ?_;rintro e w1 ⟨rfl,hk1⟩;have hA1:=HA.o.1.keep (H0.o.1.trans hk1) (fun _ h=>h.elim);have H1:=jJ (aI hk1 hA1);clear hk1 hA1)
 have d3:w1.cell? ⟨g,3,none⟩=some (.map (some bm)):=H1.o.2.row.cell 3;clear c0 c1 c2 c3 c4 c5 c6 c7;go_wp2_with (at_lookup;refine wpList_kmap_look _ rfl _ _ 64 rfl 9 3 Tryz.underlying9 Tryz.underlying64 Tryz.underlying3 (Tryz.zeroValue3 _) bm A.cnt (keyF A.nodes) rfl H1.o.2.map (bA N) rfl (byt_keyTxt N) HA.o.r4.1 ?_;intro c hc;have hci:=hc i HA.o.r5;subst hci;rw [HA.o.r5];clear hc)
 go_ret2
 exact⟨rfl,H0.o.1.trans H1.o.1⟩
theorem made_no {M M0:Nat→Prop} {ne:List (List Value)} {A:aO} {ad ap ak aq al:Option Addr} {nd cd np cp nk ck nq cq nl cl:Nat} {nodes limbs sp ov:Int} (hA:ArenaW B O w g gm vn vf vp bm ne fe A) (hT:Tab B0 w) (h:NodeAt Nil w gd ad nd cd ap np cp gk ak nk ck aq nq cq N) (hN:OkNode N) (hl:(bA N).length≤maxLen) (hi:keyF A.nodes (bA N)=none) (hM:MB M w) (hM0:MB M0 w) (hm:bQ M0 w gm nodes limbs sp ov) (hx:Ints M w al nl cl xs) (hs0:0≤sp) (hs:sp≤nodes) (hn:nodes≤2000) (he:(dG nodes limbs sp ov xs).2.2≠0) :
  Calls Tryz.prog 35 #[.pointer (some ⟨g,0,none⟩),.agg #[.int .i64 N.kind,.bool gd,.slice ad nd cd,.slice ap np cp,.bool gk,.slice ak nk ck,.int .i64 N.var,.slice aq nq cq],.slice al nl cl] w fun e w'=>e=.returned (.tuple #[.int .i64 0,.int .i64 (dG nodes limbs sp ov xs).2.2])∧bQ M0 w' gm nodes limbs (dG nodes limbs sp ov xs).1 (dG nodes limbs sp ov xs).2.1∧aA (Rid.One gm) w w':=by
 have HA:=jJ (aI10 hA hT h hN hl hi hM hm hx hM0);clear hA hT h hN hl hi hM hm hx hM0;go_enter Tryz.func35,Tryz.ntmps35
 go_upto_region 1 with (fail)
 have r0:=aF.alloc (w:=w) (E:=55) (xs:=[.int .i64 N.kind,.bool gd,.slice ad nd cd,.slice ap np cp,.bool gk,.slice ak nk ck,.int .i64 N.var,.slice aq nq cq]);change aF (w.alloc (.cells #[.int .i64 N.kind,.bool gd,.slice ad nd cd,.slice ap np cp,.bool gk,.slice ak nk ck,.int .i64 N.var,.slice aq nq cq] 55)) _ _ _ at r0;have k0:aA Nil w (w.alloc (.cells #[.int .i64 N.kind,.bool gd,.slice ad nd cd,.slice ap np cp,.bool gk,.slice ak nk ck,.int .i64 N.var,.slice aq nq cq] 55)):=kOf;generalize (w.alloc (.cells #[.int .i64 N.kind,.bool gd,.slice ad nd cd,.slice ap np cp,.bool gk,.slice ak nk ck,.int .i64 N.var,.slice aq nq cq] 55))=w0 at *
 have c0:w0.cell? ⟨w.heap.size,0,none⟩=some (.int .i64 N.kind):=r0.cell 0;have c1:w0.cell? ⟨w.heap.size,1,none⟩=some (.bool gd):=r0.cell 1;have c2:w0.cell? ⟨w.heap.size,2,none⟩=some (.slice ad nd cd):=r0.cell 2;have c3:w0.cell? ⟨w.heap.size,3,none⟩=some (.slice ap np cp):=r0.cell 3;have c4:w0.cell? ⟨w.heap.size,4,none⟩=some (.bool gk):=r0.cell 4;have c5:w0.cell? ⟨w.heap.size,5,none⟩=some (.slice ak nk ck):=r0.cell 5;have c6:w0.cell? ⟨w.heap.size,6,none⟩=some (.int .i64 N.var):=r0.cell 6;have c7:w0.cell? ⟨w.heap.size,7,none⟩=some (.slice aq nq cq):=r0.cell 7;have H0:=jJ (aI k0 r0);clear k0 r0;go_upto_region 2 with (go_at_call 62;refine (key_any (HA.o.2.1.keepNil H0.o.1) (HA.o.2.2.1.move H0.o.1 (fun _ _ h=>h) fun _ _ h=>h) HA.o.2.2.2.1).mono ?_;rintro e w1 ⟨rfl,hk1⟩;have hA1:=HA.o.1.keep (H0.o.1.trans hk1) (fun _ h=>h.elim);have H1:=jJ (aI hk1 hA1);clear hk1 hA1)
 have d4:w1.cell? ⟨g,4,none⟩=some (.pointer (some ⟨gm,0,none⟩)):=H1.o.2.row.cell 4;have k01:=H0.o.1.trans H1.o.1;have hnode:=mnode_any (HA.o.r6.1.keep k01) (HA.o.r9.keep k01) (HA.o.r7.1.keepNil k01) (HA.o.r8.1.keepNil k01) hs0 hs hn;obtain ⟨err,herr⟩:∃err,err=(dG nodes limbs sp ov xs).2.2:=⟨_,rfl⟩;rw [←herr] at hnode he;have HE:=jJ herr;have HN:=jJ (aI hnode k01);clear hnode k01 herr;have heb:(err != 0)=true:=by simpa using he
 have d3:w1.cell? ⟨g,3,none⟩=some (.map (some bm)):=H1.o.2.row.cell 3;clear c0 c1 c2 c3 c4 c5 c6 c7;go_wp2_with (first|(at_lookup;refine wpList_kmap_look _ rfl _ _ 64 rfl 9 3 Tryz.underlying9 Tryz.underlying64 Tryz.underlying3 (Tryz.zeroValue3 _) bm A.cnt (keyF A.nodes) rfl H1.o.2.map (bA N) rfl (byt_keyTxt N) HA.o.r4.1 ?_;intro c _;rw [HA.o.r5.1])|(go_at_call 63;refine HN.o.1.mono ?_;rintro e w2 ⟨rfl,hm2,hk2⟩))
 go_ret2
 rw [←HE.o];exact⟨rfl,hm2,HN.o.2.of_nil.trans hk2⟩
end Go.Proofs.Q

namespace Go.Rid
open Go.RowKit
variable {l:List Int} {x:Int} {P:Program} {E kt et:TypeId} {w:World} {n b:Nat} {xs:List Value} {v:Value}
theorem mem_sortI:x∈Go.Proofs.Q.sortI l↔x∈l:=by unfold Go.Proofs.Q.sortI;exact List.mem_mergeSort
theorem mem_compact_sub (h:x∈Lib.compact l):x∈l:=by
 unfold Lib.compact Lib.compactUpTo at h;obtain ⟨i,hi,rfl⟩:=iZ2.1 h;have:=(hZ3.1 hi).1;have h2:i<l.length:=by
  simp at this;omega
 simp [List.getD,h2]
theorem mem_neatF_sub (h:x∈cI l):x∈l:=mem_sortI.1 (mem_compact_sub h)
theorem length_neatF_le (l:List Int):(cI l).length≤l.length:=by
 unfold cI;have:=Go.Proofs.Q.length_compact_le (Go.Proofs.Q.sortI l);rw [Go.Proofs.Q.length_sortI] at this;exact this
theorem els_cells1 {els:List (List Value)} (h:els.length=n) (hl:l.length=n) (hr:∀i,i<n→RI (els.getD i []) (l.getD i 0)):els=aQ l:=by
 refine List.ext_getElem (by rw [aL,h,hl]) fun i h1 h2=>?_;have h3:=hr i (by omega);unfold RI at h3;simp only [List.getD,jZ2 h1,jZ2 (show i<l.length by omega),Option.getD_some] at h3;rw [h3];simp [aQ]
theorem cells1_append (l m:List Int):aQ (l++m)=aQ l++aQ m:=by simp [aQ]
theorem aP.neMap {base:Nat} {sz:Nat} {els:List (List Value)} {F:List Nat→Option Nat} (h:aP w base E sz v els) (hm:KMap P kt et w b n F):v.ownBlock≠some b:=by
 intro e;rcases h.form with ⟨rfl,_⟩|⟨g',cap,rest,_,h1,_,_,_,h2⟩
 ·simp [Value.ownBlock] at e
 ·rw [h2] at e;cases e;obtain ⟨D,⟨es,clock,hb,_⟩,_⟩:=hm;have:=hb.symm.trans h1.out;cases this
theorem aF.neMap {g:Nat} {F:List Nat→Option Nat} (h:aF w g E xs) (hm:KMap P kt et w b n F):g≠b:=by
 intro e;subst e;obtain ⟨D,⟨es,clock,hb,_⟩,_⟩:=hm;have:=hb.symm.trans h.out;cases this
end Go.Rid
namespace Go.Proofs.Q
open Go.RowKit Go.Rid
variable {Q:Exit→Act→World→Prop} {ad:Option Addr} {w:World} {M O:Nat→Prop} {l:List Int} {K:Act→World→Prop} {o:Oper} {ops:Array Oper} {a:Act} {n c B:Nat}
theorem ArenaW.lists {g gm:Nat} {vn vf vp:Value} {bm:Nat} {ne fe:List (List Value)} {A:aO} (h:ArenaW B O w g gm vn vf vp bm ne fe A) (h0:0<A.nodes.length) :
  ∃gn gf gp cn cf cp,vn=.slice (some ⟨gn,0,none⟩) A.nodes.length cn∧vf=.slice (some ⟨gf,0,none⟩) A.nodes.length cf∧vp=.slice (some ⟨gp,0,none⟩) A.nodes.length cp∧A.nodes.length≤cn∧A.nodes.length≤cf∧A.nodes.length≤cp∧cn≤9223372036854775807∧cf≤9223372036854775807∧cp≤9223372036854775807∧gn<w.heap.size∧gf<w.heap.size∧gp<w.heap.size ∧
   (∀i,i<A.nodes.length→∀j,j<8→w.cell? ⟨gn,i*8+j,none⟩=some ((ne.getD i []).getD j undef))∧(∀i,i<A.nodes.length→w.cell? ⟨gf,i,none⟩=some ((fe.getD i []).getD 0 undef))∧∀i,i<A.nodes.length→w.cell? ⟨gp,i,none⟩=some (.int .i64 (A.plain.getD i 0)):=by
 have hn:=h.nodes;have hf:=h.free;have hp:=h.plain;obtain ⟨an,cn,en⟩:=hn.isSlice;obtain ⟨af,cf,ef⟩:=hf.isSlice;obtain ⟨ap,cp,ep⟩:=hp.isSlice;rw [en] at hn;rw [ef] at hf;rw [ep] at hp;have l1:=h.nl;have l2:=h.fl;have l3:=h.pl;have l4:(aQ A.plain).length=A.nodes.length:=by rw [aL,l3]
 rw [l1] at hn en;rw [l2] at hf ef;rw [l4] at hp ep;obtain ⟨gn,rn,rfl,hrn,_,n1,n2,_⟩:=hn.opens l1 h0;obtain ⟨gf,rf,rfl,hrf,_,f1,f2,_⟩:=hf.opens l2 h0;obtain ⟨gp,rp,rfl,hrp,_,p1,p2,_⟩:=hp.opens l4 h0;refine ⟨gn,gf,gp,cn,cf,cp,en,ef,ep,n1,f1,p1,n2,f2,p2,hrn.lt,hrf.lt,hrp.lt,fun i hi j hj=>hrn.el hn.sz (by omega) hj,fun i hi=>?_,fun i hi=>?_⟩
 ·have:=hrf.el hf.sz (i:=i) (j:=0) (by omega) (by omega);simpa using this
 ·have:=hrp.el hp.sz (i:=i) (j:=0) (by omega) (by omega);simp only [Nat.mul_one,Nat.add_zero] at this;rw [this];simp [aQ,List.getD,show i<A.plain.length by omega]
theorem wpList_append_nums {rest:List Oper} (hgd:o.guard=none) (s x:Operand)
  (ho:o.op=.call { callee:=.builtin .append,args:=#[s,x],argTypes:=#[22,22] }) (B:Nat) (v:Value) (zs:List Int) (hs:a.eval s=v) (hown:aP w B 3 1 v (aQ zs)) (hx:a.eval x=.slice ad n c) (hl:bH M w ad n c l)
  (hlen:zs.length+l.length≤1000000000) (hB:B≤w.heap.size) (h:∀v' w',aP w' B 3 1 v' (aQ (zs++l))→aA (Own v) w w'→wpList Tryz.prog ops Q rest (a.put o.dst v') w'):wpList Tryz.prog ops Q (o::rest) a w:=by
 obtain ⟨i1,hi1⟩:=info_parts info_int;have hln:l.length=n:=SlOf.len hl;cases ad with
 | none=>
  obtain ⟨rfl,rfl⟩:=SlOf.none hl;obtain rfl:l=[]:=fZ1 hln;rw [fZ2] at h;exact wpList_append_ownR_none w hgd s x 22 ho B 3 i1 1 Tryz.underlying22 hi1.1 v _ _ hs hown.row hx (h v w hown (aA.refl _ _))
 | some p=>
  obtain ⟨els,q1,q2,q3,q4⟩:=SlOf.els hl;have e:=els_cells1 q1 hln q3;subst e;refine bI w hgd s x 22 ho B 3 i1 (.int .i64 0) 1 8 Tryz.underlying22 hi1.1 hi1.2.1 hi1.2.2.1 hi1.2.2.2 rfl (by decide) v (aQ zs) hs hown p c n (aQ l) hx q1 q2 (q4 p rfl) ?_ (by rw [aL];omega) (by rw [aL];omega) hB ?_
  ·intro u hu;rw [bS] at hu;obtain ⟨z,_,rfl⟩:=iZ2.1 hu;rfl
  ·intro v' w' ho' hk _ _;exact h v' w' (by rw [cells1_append];exact ho') hk
theorem oper_append_nums (s x:Operand)
  (ho:o.op=.call { callee:=.builtin .append,args:=#[s,x],argTypes:=#[22,22] }) (B:Nat) (v:Value) (zs:List Int) (hs:a.eval s=v) (hown:aP w B 3 1 v (aQ zs)) (hx:a.eval x=.slice ad n c) (hl:bH M w ad n c l)
  (hlen:zs.length+l.length≤1000000000) (hB:B≤w.heap.size) (h:∀v' w',aP w' B 3 1 v' (aQ (zs++l))→aA (Own v) w w'→K (a.put o.dst v') w'):Oper.wp Tryz.prog o a w K Q:=by
 obtain ⟨i1,hi1⟩:=info_parts info_int;have hln:l.length=n:=SlOf.len hl;cases ad with
 | none=>
  obtain ⟨rfl,rfl⟩:=SlOf.none hl;obtain rfl:l=[]:=fZ1 hln;rw [fZ2] at h;have hrun:=run_append_ownR_none (P:=Tryz.prog) w B 22 o.type 3 i1 1 Tryz.underlying22 hi1.1 v _ _ hown.row;unfold Oper.wp;simp [execOp,ho,resolve,invoke,builtin,hs,hx,hrun,Result.andThen];exact h v w hown (aA.refl _ _)
 | some p=>
  obtain ⟨els,q1,q2,q3,q4⟩:=SlOf.els hl;have e:=els_cells1 q1 hln q3;subst e;refine oper_append_els w s x 22 ho B 3 i1 (.int .i64 0) 1 8 Tryz.underlying22 hi1.1 hi1.2.1 hi1.2.2.1 hi1.2.2.2 rfl (by decide) v (aQ zs) hs hown p c n (aQ l) hx q1 q2 (q4 p rfl) ?_ (by rw [aL];omega) (by rw [aL];omega) hB ?_
  ·intro u hu;rw [bS] at hu;obtain ⟨z,_,rfl⟩:=iZ2.1 hu;rfl
  ·intro v' w' ho' hk _;exact h v' w' (by rw [cells1_append];exact ho') hk
end Go.Proofs.Q
