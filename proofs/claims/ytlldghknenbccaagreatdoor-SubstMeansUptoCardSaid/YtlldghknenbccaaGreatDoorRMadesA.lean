/- What each operation of the last statement of the arena's made yields and turns; what an arena holds behind it. -/
import Derived.Test.YtlldghknenbccaaGreatDoorRArenasA
set_option linter.unusedSimpArgs false
set_option linter.unusedVariables false
set_option maxRecDepth 100000
set_option maxHeartbeats 4000000
namespace Go.Proofs.Q
open Go.RowKit Tryz
section
variable {G:(Nat→Value)→Act} {w:World} {v:Value} {xs:List Value} {n sz:Nat} {E' E:TypeId} {o:Oper} {a:Act}
theorem aL.tyE {base g:Nat} {els:List (List Value)} (h:aL w base E sz v els) (hr:aF w g E' xs) (hne:E≠E'):v.ownBlock≠some g:=by
 intro e;rcases h.form with ⟨rfl,_⟩|⟨g',cap,rest,_,h1,_,_,_,h2⟩
 ·simp [Value.ownBlock] at e
 ·rw [h2] at e;cases e;have:=h1.out.symm.trans hr.out;simp at this;exact hne this.2
theorem aL.bDF {base base':Nat} {sz':Nat} {v':Value} {els els':List (List Value)} (h:aL w base E sz v els) (h':aL w base' E' sz' v' els') (hne:E≠E'):∀b,v.ownBlock=some b→v'.ownBlock≠some b:=by
 intro b hb e;rcases h.form with ⟨rfl,_⟩|⟨g',cap,rest,_,h1,_,_,_,h2⟩
 ·simp [Value.ownBlock] at hb
 ·rw [h2] at hb;cases hb;exact h'.tyE h1 (fun e=>hne e.symm) e
def aW (P:Program) (ops:Array Oper) (Q:Exit→Act→World→Prop) (w0:World) (G:(Nat→Value)→Act) (ds:List Nat) (F:Nat→Value→World→Prop) (A:Nat→Prop) (Pre:Nat→World→Prop) (R:Nat→World→World→Prop) (n:Nat):Prop:=
 ∀j,j<n→∀o,ops[j]?=some o→∀(us:Nat→Value) (w:World),aA A w0 w→Pre j w→(∀i,(jF o).elem i=true→F i (us (ds.getD i 0)) w)→∀K:Act→World→Prop,Shut (∀v w',R j w w'→aA A w0 w'→F j v w'→K ((G us).put o.dst v) w') →
  if Region.wanted o (yielded ops (G us).tmps)=true then Oper.wp P o (G us) w K Q else K ((G us).put o.dst undef) w
section
variable {P:Program} {ops:Array Oper} {Q:Exit→Act→World→Prop} {w0:World} {ds:List Nat} {F:Nat→Value→World→Prop} {A:Nat→Prop} {Pre:Nat→World→Prop} {R:Nat→World→World→Prop}
theorem aW.zero:aW P ops Q w0 G ds F A Pre R 0:=fun _ h=>zZ
theorem aW.succ (ho:ops[n]?=some o)
  (h:∀(us:Nat→Value) (w:World),aA A w0 w→Pre n w→(∀i,(jF o).elem i=true→F i (us (ds.getD i 0)) w)→∀K:Act→World→Prop,Shut (∀v w',R n w w'→aA A w0 w'→F n v w'→K ((G us).put o.dst v) w') →
   if Region.wanted o (yielded ops (G us).tmps)=true then Oper.wp P o (G us) w K Q else K ((G us).put o.dst undef) w)
  (hs:aW P ops Q w0 G ds F A Pre R n):aW P ops Q w0 G ds F A Pre R (n+1):=fun j hj=>by
 rcases Nat.lt_succ_iff_lt_or_eq.1 hj with h'|rfl
 ·exact hs j h'
 ·intro o' ho';obtain rfl:o=o':=by rw [ho] at ho';exact lZ2 ho'
  exact h
theorem GH.byG (hG:∀us,aQ a us ds=G us) (h:aW P ops Q w0 G ds F A Pre R n):GH P ops Q w0 a ds F A Pre R n:=fun j hj o ho us w hk hp hf K hK=>by
 rw [hG us] at hK⊢;exact h j hj o ho us w hk hp hf K hK
end
end
section
variable {j b:Nat} {w w':World} {x:Value} {xs:List Value} {E:TypeId}
structure MC where
 B:Nat
 sz:Nat
 g:Nat
 bn:Nat
 vn:Value
 vf:Value
 vp:Value
 vm:Value
 vt:Value
 ne:List (List Value)
 fe:List (List Value)
 pe:List (List Value)
 cn:List Value
 fv:Value
 q:Int
def MC.far (J:MC) (b:Nat):Prop:=J.vn.ownBlock≠some b∧J.vf.ownBlock≠some b∧J.vp.ownBlock≠some b∧b≠J.g
def MC.New (J:MC) (v v':Value):Prop:=∀k,v'.ownBlock=some k→v.ownBlock=some k∨J.sz≤k
def MC.A (J:MC):Nat→Prop:=fun b=>J.vn.ownBlock=some b∨J.vf.ownBlock=some b∨J.vp.ownBlock=some b∨b=J.g
def MC.row (J:MC) (w:World) (x y z:Value):Prop:=aF w J.g 118 [x,y,z,J.vm,J.vt]
def MC.F (J:MC):Nat→Value→World→Prop
 | 5,v,_=>v=.pointer (some ⟨J.g,0,none⟩)
 | 6,v,_=>v=J.vn
 | 7,v,_=>v=.agg J.cn.toArray
 | 8,v,w=>∃b,v=.slice (some ⟨b,0,none⟩) 1 1∧aF w b 59 J.cn∧J.far b
 | 9,v,w=>∃a c,v=.slice a (J.ne.length+1) c∧aL w J.B 59 8 v (J.ne++[J.cn])∧J.New J.vn v
 | 12,v,_=>v=.pointer (some ⟨J.g,1,none⟩)
 | 13,v,_=>v=J.vf
 | 14,v,_=>v=J.fv
 | 15,v,w=>∃b,v=.slice (some ⟨b,0,none⟩) 1 1∧aF w b 56 [J.fv]∧J.far b
 | 16,v,w=>∃a c,v=.slice a (J.fe.length+1) c∧aL w J.B 56 1 v (J.fe++[[J.fv]])∧J.New J.vf v
 | 19,v,_=>v=.pointer (some ⟨J.g,2,none⟩)
 | 20,v,_=>v=J.vp
 | 21,v,_=>v=.int .i64 J.q
 | 22,v,w=>∃b,v=.slice (some ⟨b,0,none⟩) 1 1∧aF w b 3 [.int .i64 J.q]∧J.far b
 | 23,v,w=>∃a c,v=.slice a (J.pe.length+1) c∧aL w J.B 3 1 v (J.pe++[[.int .i64 J.q]])∧J.New J.vp v
 | 25,v,_=>v=.pointer (some ⟨J.g,0,none⟩)
 | 26,_,w=>∃a c y z,aL w J.B 59 8 (.slice a (J.ne.length+1) c) (J.ne++[J.cn])∧J.New J.vn (.slice a (J.ne.length+1) c)∧J.row w (.slice a (J.ne.length+1) c) y z
 | 28,v,_=>v=.pointer (some ⟨J.g,1,none⟩)
 | 29,_,w=>∃a c x z,aL w J.B 56 1 (.slice a (J.fe.length+1) c) (J.fe++[[J.fv]])∧J.New J.vf (.slice a (J.fe.length+1) c)∧J.row w x (.slice a (J.fe.length+1) c) z
 | 31,v,_=>v=.pointer (some ⟨J.g,2,none⟩)
 | 32,_,w=>∃a c x y,aL w J.B 3 1 (.slice a (J.pe.length+1) c) (J.pe++[[.int .i64 J.q]])∧J.New J.vp (.slice a (J.pe.length+1) c)∧J.row w x y (.slice a (J.pe.length+1) c)
 | _,v,_=>v=.pointer (some ⟨J.g,0,none⟩)
def MC.Pre (J:MC):Nat→World→Prop
 | 6,w=>∃y z,J.row w J.vn y z
 | 7,w=>aF w J.bn 59 J.cn
 | 9,w=>aL w J.B 59 8 J.vn J.ne
 | 13,w=>∃x z,J.row w x J.vf z
 | 16,w=>aL w J.B 56 1 J.vf J.fe
 | 20,w=>∃x y,J.row w x y J.vp
 | 23,w=>aL w J.B 3 1 J.vp J.pe
 | 26,w=>∃x y z,J.row w x y z
 | 29,w=>∃x y z,J.row w x y z
 | 32,w=>∃x y z,J.row w x y z
 | _,_=>True
def MC.R (J:MC):Nat→World→World→Prop
 | 8,w,w'=>aA Nil w w'
 | 9,w,w'=>aL w J.B 59 8 J.vn J.ne∧aA (Own J.vn) w w'
 | 15,w,w'=>aA Nil w w'
 | 16,w,w'=>aL w J.B 56 1 J.vf J.fe∧aA (Own J.vf) w w'
 | 22,w,w'=>aA Nil w w'
 | 23,w,w'=>aL w J.B 3 1 J.vp J.pe∧aA (Own J.vp) w w'
 | 26,w,w'=>(∃x y z,J.row w x y z)∧∃u,w'=w.setCell ⟨J.g,0,none⟩ u
 | 29,w,w'=>(∃x y z,J.row w x y z)∧∃u,w'=w.setCell ⟨J.g,1,none⟩ u
 | 32,w,w'=>(∃x y z,J.row w x y z)∧∃u,w'=w.setCell ⟨J.g,2,none⟩ u
 | _,w,w'=>w=w'
theorem MC.QF (J:MC) (h:J.R j w w'):w=w'∨aA Nil w w'∨(j=9∧aL w J.B 59 8 J.vn J.ne∧aA (Own J.vn) w w')∨(j=16∧aL w J.B 56 1 J.vf J.fe∧aA (Own J.vf) w w')∨(j=23∧aL w J.B 3 1 J.vp J.pe∧aA (Own J.vp) w w')∨((∃x y z,J.row w x y z)∧aA (One J.g) w w'):=by
 unfold MC.R at h;split at h
 ·exact .inr (.inl h)
 ·exact .inr (.inr (.inl ⟨rfl,h⟩))
 ·exact .inr (.inl h)
 ·exact .inr (.inr (.inr (.inl ⟨rfl,h⟩)))
 ·exact .inr (.inl h)
 ·exact .inr (.inr (.inr (.inr (.inl ⟨rfl,h⟩))))
 ·obtain ⟨hr,u,rfl⟩:=h;exact .inr (.inr (.inr (.inr (.inr ⟨hr,(aA.refl (One J.g) w).set1 0 u⟩))))
 ·obtain ⟨hr,u,rfl⟩:=h;exact .inr (.inr (.inr (.inr (.inr ⟨hr,(aA.refl (One J.g) w).set1 1 u⟩))))
 ·obtain ⟨hr,u,rfl⟩:=h;exact .inr (.inr (.inr (.inr (.inr ⟨hr,(aA.refl (One J.g) w).set1 2 u⟩))))
 ·exact .inl h
theorem MC.aHA (J:MC) (hb:J.far b) (h:J.R j w w') (hr:aF w b E xs):aF w' b E xs:=by
 rcases J.QF h with rfl|k|⟨_,_,k⟩|⟨_,_,k⟩|⟨_,_,k⟩|⟨_,k⟩
 ·exact hr
 ·exact hr.keep k id
 ·exact hr.keep k hb.1
 ·exact hr.keep k hb.2.1
 ·exact hr.keep k hb.2.2.1
 ·exact hr.keep k hb.2.2.2
theorem MC.UG (J:MC) {els:List (List Value)} (hj:j≠9) (h:J.R j w w') (ho:aL w J.B 59 8 x els):aL w' J.B 59 8 x els:=by
 rcases J.QF h with rfl|k|⟨e,_⟩|⟨_,hR,k⟩|⟨_,hR,k⟩|⟨⟨x',y,z,hr⟩,k⟩
 ·exact ho
 ·exact ho.eO k
 ·exact absurd e hj
 ·exact xS
 ·exact xS
 ·exact oR
theorem MC.UZ (J:MC) {els:List (List Value)} (hj:j≠16) (h:J.R j w w') (ho:aL w J.B 56 1 x els):aL w' J.B 56 1 x els:=by
 rcases J.QF h with rfl|k|⟨_,hR,k⟩|⟨e,_⟩|⟨_,hR,k⟩|⟨⟨x',y,z,hr⟩,k⟩
 ·exact ho
 ·exact ho.eO k
 ·exact xS
 ·exact absurd e hj
 ·exact xS
 ·exact oR
theorem MC.UC (J:MC) {els:List (List Value)} (hj:j≠23) (h:J.R j w w') (ho:aL w J.B 3 1 x els):aL w' J.B 3 1 x els:=by
 rcases J.QF h with rfl|k|⟨_,hR,k⟩|⟨_,hR,k⟩|⟨e,_⟩|⟨⟨x',y,z,hr⟩,k⟩
 ·exact ho
 ·exact ho.eO k
 ·exact xS
 ·exact xS
 ·exact absurd e hj
 ·exact oR
theorem MC.ES (J:MC) {y z:Value} (h:J.R j w w') (hr:J.row w x y z):∃x' y' z',J.row w' x' y' z'∧(j≠26→x'=x)∧(j≠29→y'=y)∧(j≠32→z'=z):=by
 unfold MC.row at *
 unfold MC.R MC.row at h;split at h
 ·exact uY
 ·exact xA
 ·exact uY
 ·exact xA
 ·exact uY
 ·exact xA
 ·obtain ⟨_,u,rfl⟩:=h;exact⟨u,y,z,hr.set 0 u,fun h=>absurd rfl h,fun _=>rfl,fun _=>rfl⟩
 ·obtain ⟨_,u,rfl⟩:=h;exact⟨x,u,z,hr.set 1 u,fun _=>rfl,fun h=>absurd rfl h,fun _=>rfl⟩
 ·obtain ⟨_,u,rfl⟩:=h;exact⟨x,y,u,hr.set 2 u,fun _=>rfl,fun _=>rfl,fun h=>absurd rfl h⟩
 ·subst h;exact⟨x,y,z,hr,fun _=>rfl,fun _=>rfl,fun _=>rfl⟩
theorem MC.hF (J:MC) (A:Nat→Nat→Bool) (a1:A 26 9=true) (a2:A 29 16=true) (a3:A 32 23=true):∀i j v w w',i≠j→A i j=false→J.R j w w'→J.F i v w→J.F i v w':=by
 intro i j v w w' hij hA hR hf;unfold MC.F at hf⊢;split at hf
 ·exact hf
 ·exact hf
 ·exact hf
 ·exact vP
 ·obtain ⟨a,c,rfl,ho,hn⟩:=hf;exact⟨a,c,rfl,J.UG (fun e=>hij e.symm) hR ho,hn⟩
 ·exact hf
 ·exact hf
 ·exact hf
 ·exact vP
 ·obtain ⟨a,c,rfl,ho,hn⟩:=hf;exact⟨a,c,rfl,J.UZ (fun e=>hij e.symm) hR ho,hn⟩
 ·exact hf
 ·exact hf
 ·exact hf
 ·exact vP
 ·obtain ⟨a,c,rfl,ho,hn⟩:=hf;exact⟨a,c,rfl,J.UC (fun e=>hij e.symm) hR ho,hn⟩
 ·exact hf
 ·obtain ⟨a,c,y,z,ho,hn,hr⟩:=hf;obtain ⟨x',y',z',hr',e1,_⟩:=J.ES hR hr;rw [e1 (fun e=>hij e.symm)] at hr';exact⟨a,c,y',z',J.UG (fun e=>by subst e;rw [a1] at hA;cases hA) hR ho,hn,hr'⟩
 ·exact hf
 ·obtain ⟨a,c,x,z,ho,hn,hr⟩:=hf;obtain ⟨x',y',z',hr',_,e1,_⟩:=J.ES hR hr;rw [e1 (fun e=>hij e.symm)] at hr';exact⟨a,c,x',z',J.UZ (fun e=>by subst e;rw [a2] at hA;cases hA) hR ho,hn,hr'⟩
 ·exact hf
 ·obtain ⟨a,c,x,y,ho,hn,hr⟩:=hf;obtain ⟨x',y',z',hr',_,_,e1⟩:=J.ES hR hr;rw [e1 (fun e=>hij e.symm)] at hr';exact⟨a,c,x',y',J.UC (fun e=>by subst e;rw [a3] at hA;cases hA) hR ho,hn,hr'⟩
 ·exact hf
theorem MC.hP (J:MC) (A:Nat→Nat→Bool) (b1:A 26 6=true) (b2:A 29 13=true) (b3:A 32 20=true) (hbt:J.far J.bn):∀i j w w',i≠j→A j i=false→J.R j w w'→J.Pre i w→J.Pre i w':=by
 intro i j w w' hij hA hR hp;unfold MC.Pre at hp⊢;split at hp
 ·obtain ⟨y,z,hr⟩:=hp;obtain ⟨x',y',z',hr',e1,_⟩:=J.ES hR hr;rw [e1 (fun e=>by subst e;rw [b1] at hA;cases hA)] at hr';exact⟨y',z',hr'⟩
 ·exact J.aHA hbt hR hp
 ·exact J.UG (fun e=>hij e.symm) hR hp
 ·obtain ⟨x,z,hr⟩:=hp;obtain ⟨x',y',z',hr',_,e1,_⟩:=J.ES hR hr;rw [e1 (fun e=>by subst e;rw [b2] at hA;cases hA)] at hr';exact⟨x',z',hr'⟩
 ·exact J.UZ (fun e=>hij e.symm) hR hp
 ·obtain ⟨x,y,hr⟩:=hp;obtain ⟨x',y',z',hr',_,_,e1⟩:=J.ES hR hr;rw [e1 (fun e=>by subst e;rw [b3] at hA;cases hA)] at hr';exact⟨x',y',hr'⟩
 ·exact J.UC (fun e=>hij e.symm) hR hp
 ·exact xK
 ·exact xK
 ·exact xK
 ·exact hp
theorem MC.pre (J:MC) (hrow:J.row w J.vn J.vf J.vp) (hn:aL w J.B 59 8 J.vn J.ne) (hf:aL w J.B 56 1 J.vf J.fe) (hp:aL w J.B 3 1 J.vp J.pe) (hb:aF w J.bn 59 J.cn):∀j,J.Pre j w.drew:=by
 intro j;have k:aA Nil w w.drew:=(aA.refl Nil w).drew;have hrow':J.row w.drew J.vn J.vf J.vp:=hrow.keep k id;unfold MC.Pre;split
 ·exact⟨_,_,hrow'⟩
 ·exact hb.keep k id
 ·exact hn.eO k
 ·exact⟨_,_,hrow'⟩
 ·exact hf.eO k
 ·exact⟨_,_,hrow'⟩
 ·exact hp.eO k
 ·exact⟨_,_,_,hrow'⟩
 ·exact⟨_,_,_,hrow'⟩
 ·exact⟨_,_,_,hrow'⟩
 ·trivial
end
section
variable {j i:Nat} {l:List Int} {N:aS}
theorem eB {α:Type} (l:List α) (x d:α) (h:i<l.length):(l++[x]).getD i d=l.getD i d:=wP
theorem dM {α:Type} (l:List α) (x d:α):(l++[x]).getD l.length d=x:=by simp [List.getD]
theorem aWJ {l:List aS} (h2:2≤l.length) (hn:fK l (bB N)=none):fK (l++[N])=fun t=>if t=bB N then some l.length else fK l t:=by
 funext t;unfold fK at *
 rw [aZ1,List.length_singleton,List.range_succ,List.find?_append];have e:((List.range l.length).find? fun i=>decide (2≤i)&&decide (bB ((l++[N]).getD i aP)=t))=(List.range l.length).find? fun i=>decide (2≤i)&&decide (bB (l.getD i aP)=t):=by
  have:∀m,m≤l.length→((List.range m).find? fun i=>decide (2≤i)&&decide (bB ((l++[N]).getD i aP)=t))=(List.range m).find? fun i=>decide (2≤i)&&decide (bB (l.getD i aP)=t):=by
   intro m hm;induction m with
   | zero=>rfl
   | succ m ih=>
    rw [List.range_succ,List.find?_append,List.find?_append,ih zZ];congr 1;simp only [List.find?_singleton];rw [eB l N aP zZ]
  exact this _ (bZ2 _)
 rw [e];simp only [List.find?_singleton,dM];by_cases ht:t=bB N
 ·subst ht;rw [hn,if_pos rfl];simp [h2]
 ·rw [if_neg ht,if_neg (by simp [Ne.symm ht])];simp
def kI (A:aC) (N:aS) (j:Nat):List Int:=(dR N.t.parts).map (·.1)++(N.kids.take j).flatMap fun k=>A.free.getD k.toNat []
def dB (A:aC) (N:aS):List Int:=(dR N.t.parts).map (·.1)++N.kids.flatMap fun k=>A.free.getD k.toNat []
def cM (l:List Int):List Int:=Lib.compact (Go.Proofs.Q.iO l)
def eF (A:aC) (N:aS):List Int:=if 7≤N.kind then without N.var (cM (dB A N)) else cM (dB A N)
def BN (A:aC) (N:aS) (j:Nat):Int:=(N.kids.take j).foldl (fun q k=>max q (A.plain.getD k.toNat 0)) 0
def AJ (A:aC) (N:aS):Int:=if 7≤N.kind then 1 else BN A N N.kids.length
def fQ (A:aC) (N:aS):aC:=⟨A.nodes++[N],A.free++[eF A N],A.plain++[AJ A N],A.cnt+1⟩
theorem JG (h:j<l.length):l.take (j+1)=l.take j++[l.getD j 0]:=rZ
theorem aAV (A:aC) (N:aS):kI A N 0=(dR N.t.parts).map (·.1):=by simp [kI]
theorem aOZ (A:aC) (N:aS) (h:j<N.kids.length):kI A N (j+1)=kI A N j++A.free.getD (N.kids.getD j 0).toNat []:=by
 unfold kI;rw [JG h,List.flatMap_append,←mZ2];simp
theorem aMY (A:aC) (N:aS) (h:j<N.kids.length):BN A N (j+1)=max (BN A N j) (A.plain.getD (N.kids.getD j 0).toNat 0):=by
 unfold BN;rw [JG h,List.foldl_append];rfl
theorem aUM (A:aC) (N:aS) (h:j≤N.kids.length):(kI A N j).length≤(dB A N).length:=by
 unfold kI dB;conv=>rhs;rw [←aZ3 j N.kids,List.flatMap_append]
 simp
theorem aSZ (A:aC) (N:aS):kI A N N.kids.length=dB A N:=by unfold kI dB;rw [eZ1 (bZ2 _)]
end
theorem kJ.add {B:Nat} {O O':Nat→Prop} {w w':World} {g gm:Nat} {vn vf vp vn' vf' vp':Value} {bm:Nat} {ne fe:List (List Value)} {A:aC} (h:kJ B O w g gm vn vf vp bm ne fe A) {N:aS} {f:List Int} {q:Int} {cn:List Value} {fv:Value} (k:aA (Mut g vn vf vp bm) w w')
  (row:aF w' g 118 [vn',vf',vp',.map (some bm),.pointer (some ⟨gm,0,none⟩)])
  (oN:aL w' B 59 8 vn' (ne++[cn])) (oF:aL w' B 56 1 vf' (fe++[[fv]])) (oP:aL w' B 3 1 vp' (aO (A.plain++[q])))
  (map:mO prog 9 3 w' bm (A.cnt+1) (fK (A.nodes++[N])))
  (nN:∀b,vn'.ownBlock=some b→vn.ownBlock=some b∨w.heap.size≤b) (nF:∀b,vf'.ownBlock=some b→vf.ownBlock=some b∨w.heap.size≤b) (nP:∀b,vp'.ownBlock=some b→vp.ownBlock=some b∨w.heap.size≤b)
  (hO1:∀b,O b→O' b) (hO3:∀b,w.heap.size≤b→b<w'.heap.size→O' b) (hin:∀b,O' b→B≤b∧b<w'.heap.size) (hgm:¬O' gm)
  (hN:iU (Off O' g vn' vf' vp' bm) w' cn N) (hf:FN (Off O' g vn' vf' vp' bm) w' [fv] f) :
  kJ B O' w' g gm vn' vf' vp' bm (ne++[cn]) (fe++[[fv]]) ⟨A.nodes++[N],A.free++[f],A.plain++[q],A.cnt+1⟩:=by
 have hl1:=h.nl;have hl2:=h.fl;have hl3:=h.fl2;have hl4:=h.pl;have hoff:∀b,b<w.heap.size→Off O' g vn' vf' vp' bm b→Off O g vn vf vp bm b:=fun b hb ho=>by
  rcases ho with ho|ho
  ·left;rcases ho with ho|ho|ho|ho|ho
   ·exact .inl ho
   ·rcases nN b ho with h1|h1
    ·exact .inr (.inl h1)
    ·omega
   ·rcases nF b ho with h1|h1
    ·exact .inr (.inr (.inl h1))
    ·omega
   ·rcases nP b ho with h1|h1
    ·exact .inr (.inr (.inr (.inl h1)))
    ·omega
   ·exact .inr (.inr (.inr (.inr ho)))
  ·exact .inr fun h1=>ho (hO1 b h1)
 refine ⟨row,oN,oF,oP,map,by simp [hl1],by simp [hl2],by simp [hl3],by simp [hl4],fun i hi=>?_,fun i hi=>?_,fun b hb=>?_,hin,hgm⟩
 ·rcases Nat.lt_or_ge i A.nodes.length with hi'|hi'
  ·rw [eB _ _ _ zZ,eB _ _ _ hi'];exact (h.nr i hi').move k (fun b _ hb=>.inl hb) hoff
  ·obtain rfl:i=A.nodes.length:=by simp at hi;omega
   rw [dM,←hl1,dM];exact hN
 ·rcases Nat.lt_or_ge i A.nodes.length with hi'|hi'
  ·rw [eB _ _ _ zZ,eB _ _ _ zZ];exact (h.fr i hi').move k (fun b _ hb=>.inl hb) hoff
  ·obtain rfl:i=A.nodes.length:=by simp at hi;omega
   rw [←hl2,dM,hl2,←hl3,dM];exact hf
 ·rcases hb with hb|hb|hb|hb|hb
  ·rw [hb];exact hO1 _ (h.mine _ (.inl rfl))
  ·rcases nN b hb with h1|h1
   ·exact hO1 b (h.mine b (.inr (.inl h1)))
   ·exact hO3 b h1 (oN.lt b hb).2
  ·rcases nF b hb with h1|h1
   ·exact hO1 b (h.mine b (.inr (.inr (.inl h1))))
   ·exact hO3 b h1 (oF.lt b hb).2
  ·rcases nP b hb with h1|h1
   ·exact hO1 b (h.mine b (.inr (.inr (.inr (.inl h1)))))
   ·exact hO3 b h1 (oP.lt b hb).2
  ·rw [hb];exact hO1 _ (h.mine _ (.inr (.inr (.inr (.inr rfl)))))
theorem NZ (N:aS):Byt (bB N):=by
 unfold bB;refine ((KG _).append (fun b hb=>vT)).append ?_;split
 ·exact ((KA _).append (KA _)).append (aAB _)
 ·refine Byt.append ?_ fun b hb=>?_
  ·split
   ·exact (KG _).append fun b hb=>vT
   ·intro b hb;cases hb
  ·obtain ⟨k,_,h⟩:=fZ3.1 hb;exact ((KG k).append fun b hb=>vT) b h
section
variable {xs:List (Bool × List Nat)} {fe:List (List Value)} {O:Nat→Prop} {w:World} {bm B0 gm B g i:Nat} {N:aS} {gd gk:Bool} {vn vf vp:Value}
theorem aSD {ne:List (List Value)} {A:aC} {ad ap ak aq al:Option Addr} {nd cd np cp nk ck nq cq nl cl:Nat} (hA:kJ B O w g gm vn vf vp bm ne fe A) (hT:Tab B0 w) (h:jL Nil w gd ad nd cd ap np cp gk ak nk ck aq nq cq N) (hN:FL N) (hl:(bB N).length≤maxLen) (hi:fK A.nodes (bB N)=some i) :
  Calls prog 89 #[.pointer (some ⟨g,0,none⟩),.agg #[.int .i64 N.kind,.bool gd,.slice ad nd cd,.slice ap np cp,.bool gk,.slice ak nk ck,.int .i64 N.var,.slice aq nq cq],.slice al nl cl] w fun e w'=>e=.returned (.tuple #[.int .i64 i,.int .i64 0])∧aA Nil w w':=by
 have HA:=jJ (aI6 hA hT h hN hl hi);clear hA hT h hN hl hi;go_enter func89,ntmps89
 go_upto_region 1 with (fail)
 obtain ⟨w0,e_1,k0,r0⟩:=bx1 w 59 [.int .i64 N.kind,.bool gd,.slice ad nd cd,.slice ap np cp,.bool gk,.slice ak nk ck,.int .i64 N.var,.slice aq nq cq];rw [e_1];clear e_1;have c0:w0.cell? ⟨w.heap.size,0,none⟩=some (.int .i64 N.kind):=r0.cell 0;have c1:w0.cell? ⟨w.heap.size,1,none⟩=some (.bool gd):=r0.cell 1;have c2:w0.cell? ⟨w.heap.size,2,none⟩=some (.slice ad nd cd):=r0.cell 2;have c3:w0.cell? ⟨w.heap.size,3,none⟩=some (.slice ap np cp):=r0.cell 3;have c4:w0.cell? ⟨w.heap.size,4,none⟩=some (.bool gk):=r0.cell 4;have c5:w0.cell? ⟨w.heap.size,5,none⟩=some (.slice ak nk ck):=r0.cell 5;have c6:w0.cell? ⟨w.heap.size,6,none⟩=some (.int .i64 N.var):=r0.cell 6;have c7:w0.cell? ⟨w.heap.size,7,none⟩=some (.slice aq nq cq):=r0.cell 7;have H0:=jJ (aI k0 r0);clear k0 r0;go_upto_region 2 with (go_at_call 127;refine (XG (HA.o.2.1.eO H0.o.1) (HA.o.2.2.1.move H0.o.1 (fun _ _ h=>h) fun _ _ h=>h) HA.o.2.2.2.1).mono ?_;rintro e w1 ⟨rfl,hk1⟩;have hA1:=HA.o.1.keep (H0.o.1.trans hk1) (fun _ h=>h.elim);have H1:=jJ (aI hk1 hA1);clear hk1 hA1)
 have d3:w1.cell? ⟨g,3,none⟩=some (.map (some bm)):=H1.o.2.row.cell 3;clear c0 c1 c2 c3 c4 c5 c6 c7;go_wp2_with (at_lookup;refine RN _ rfl _ _ 116 rfl 9 3 underlying9 underlying116 underlying3 (zeroValue3 _) bm A.cnt (fK A.nodes) rfl H1.o.2.map (bB N) rfl (NZ N) HA.o.r4.1 ?_;intro c hc;have hci:=hc i HA.o.r5;subst hci;rw [HA.o.r5];clear hc)
 go_ret2
 exact⟨rfl,H0.o.1.trans H1.o.1⟩
theorem bBH {M M0:Nat→Prop} {ne:List (List Value)} {A:aC} {ad ap ak aq al:Option Addr} {nd cd np cp nk ck nq cq nl cl:Nat} {nodes limbs sp ov:Int} (hA:kJ B O w g gm vn vf vp bm ne fe A) (hT:Tab B0 w) (h:jL Nil w gd ad nd cd ap np cp gk ak nk ck aq nq cq N) (hN:FL N) (hl:(bB N).length≤maxLen) (hi:fK A.nodes (bB N)=none) (hM:MB M w) (hM0:MB M0 w) (hm:bR M0 w gm nodes limbs sp ov) (hx:Ints M w al nl cl xs) (hs0:0≤sp) (hs:sp≤nodes) (hn:nodes≤2000) (he:(dN nodes limbs sp ov xs).2.2≠0) :
  Calls prog 89 #[.pointer (some ⟨g,0,none⟩),.agg #[.int .i64 N.kind,.bool gd,.slice ad nd cd,.slice ap np cp,.bool gk,.slice ak nk ck,.int .i64 N.var,.slice aq nq cq],.slice al nl cl] w fun e w'=>e=.returned (.tuple #[.int .i64 0,.int .i64 (dN nodes limbs sp ov xs).2.2])∧bR M0 w' gm nodes limbs (dN nodes limbs sp ov xs).1 (dN nodes limbs sp ov xs).2.1∧aA (Go.Proofs.Q.One gm) w w':=by
 have HA:=jJ (FU hA hT h hN hl hi hM hm hx hM0);clear hA hT h hN hl hi hM hm hx hM0;go_enter func89,ntmps89
 go_upto_region 1 with (fail)
 obtain ⟨w0,e_2,k0,r0⟩:=bx1 w 59 [.int .i64 N.kind,.bool gd,.slice ad nd cd,.slice ap np cp,.bool gk,.slice ak nk ck,.int .i64 N.var,.slice aq nq cq];rw [e_2];clear e_2;have c0:w0.cell? ⟨w.heap.size,0,none⟩=some (.int .i64 N.kind):=r0.cell 0;have c1:w0.cell? ⟨w.heap.size,1,none⟩=some (.bool gd):=r0.cell 1;have c2:w0.cell? ⟨w.heap.size,2,none⟩=some (.slice ad nd cd):=r0.cell 2;have c3:w0.cell? ⟨w.heap.size,3,none⟩=some (.slice ap np cp):=r0.cell 3;have c4:w0.cell? ⟨w.heap.size,4,none⟩=some (.bool gk):=r0.cell 4;have c5:w0.cell? ⟨w.heap.size,5,none⟩=some (.slice ak nk ck):=r0.cell 5;have c6:w0.cell? ⟨w.heap.size,6,none⟩=some (.int .i64 N.var):=r0.cell 6;have c7:w0.cell? ⟨w.heap.size,7,none⟩=some (.slice aq nq cq):=r0.cell 7;have H0:=jJ (aI k0 r0);clear k0 r0;go_upto_region 2 with (go_at_call 127;refine (XG (HA.o.2.1.eO H0.o.1) (HA.o.2.2.1.move H0.o.1 (fun _ _ h=>h) fun _ _ h=>h) HA.o.2.2.2.1).mono ?_;rintro e w1 ⟨rfl,hk1⟩;have hA1:=HA.o.1.keep (H0.o.1.trans hk1) (fun _ h=>h.elim);have H1:=jJ (aI hk1 hA1);clear hk1 hA1)
 have d4:w1.cell? ⟨g,4,none⟩=some (.pointer (some ⟨gm,0,none⟩)):=H1.o.2.row.cell 4;have k01:=H0.o.1.trans H1.o.1;have hnode:=aEP (HA.o.r6.1.keep k01) (HA.o.r9.keep k01) (HA.o.r7.1.eO k01) (HA.o.r8.1.eO k01) hs0 hs hn;obtain ⟨err,herr⟩:∃err,err=(dN nodes limbs sp ov xs).2.2:=⟨_,rfl⟩;rw [←herr] at hnode he;have HE:=jJ herr;have HN:=jJ (aI hnode k01);clear hnode k01 herr;have heb:(err != 0)=true:=sI;have d3:w1.cell? ⟨g,3,none⟩=some (.map (some bm)):=H1.o.2.row.cell 3;clear c0 c1 c2 c3 c4 c5 c6 c7;go_wp2_with (first|(at_lookup;refine RN _ rfl _ _ 116 rfl 9 3 underlying9 underlying116 underlying3 (zeroValue3 _) bm A.cnt (fK A.nodes) rfl H1.o.2.map (bB N) rfl (NZ N) HA.o.r4.1 ?_;intro c _;rw [HA.o.r5.1])|(go_at_call 128;refine HN.o.1.mono ?_;rintro e w2 ⟨rfl,hm2,hk2⟩))
 go_ret2
 rw [←HE.o];exact⟨rfl,hm2,HN.o.2.of_nil.trans hk2⟩
end
section
variable {l:List Int} {x:Int} {P:Program} {E kt et:TypeId} {w:World} {n b:Nat} {xs:List Value} {v:Value}
theorem aES:x∈Go.Proofs.Q.iO l↔x∈l:=by unfold Go.Proofs.Q.iO;exact List.mem_mergeSort
theorem aLG (h:x∈Lib.compact l):x∈l:=by
 unfold Lib.compact Lib.compactUpTo at h;obtain ⟨i,hi,rfl⟩:=iZ2.1 h;have:=(kZ3.1 hi).1;have h2:i<l.length:=by
  simp at this;omega
 simp [List.getD,h2]
theorem aMP (h:x∈cM l):x∈l:=aES.1 (aLG h)
theorem YU (l:List Int):(cM l).length≤l.length:=by
 unfold cM;have:=Go.Proofs.Q.YM (Go.Proofs.Q.iO l);rw [Go.Proofs.Q.FX] at this;exact this
theorem aBP {els:List (List Value)} (h:els.length=n) (hl:l.length=n) (hr:∀i,i<n→RI (els.getD i []) (l.getD i 0)):els=aO l:=by
 refine List.ext_getElem (by rw [aJ,h,hl]) fun i h1 h2=>?_;have h3:=hr i zZ;unfold RI at h3;simp only [List.getD,jZ2 h1,jZ2 (show i<l.length by omega),Option.getD_some] at h3;rw [h3];simp [aO]
theorem ZQ (l m:List Int):aO (l++m)=aO l++aO m:=tR
theorem aL.nV {base:Nat} {sz:Nat} {els:List (List Value)} {F:List Nat→Option Nat} (h:aL w base E sz v els) (hm:mO P kt et w b n F):v.ownBlock≠some b:=by
 intro e;rcases h.form with ⟨rfl,_⟩|⟨g',cap,rest,_,h1,_,_,_,h2⟩
 ·simp [Value.ownBlock] at e
 ·rw [h2] at e;cases e;obtain ⟨D,⟨es,clock,hb,_⟩,_⟩:=hm;have:=hb.symm.trans h1.out;cases this
theorem aF.nV {g:Nat} {F:List Nat→Option Nat} (h:aF w g E xs) (hm:mO P kt et w b n F):g≠b:=by
 intro e;subst e;obtain ⟨D,⟨es,clock,hb,_⟩,_⟩:=hm;have:=hb.symm.trans h.out;cases this
end
section
variable {Q:Exit→Act→World→Prop} {ad:Option Addr} {w:World} {M O:Nat→Prop} {l:List Int} {K:Act→World→Prop} {o:Oper} {ops:Array Oper} {a:Act} {n c B:Nat}
theorem kJ.lists {g gm:Nat} {vn vf vp:Value} {bm:Nat} {ne fe:List (List Value)} {A:aC} (h:kJ B O w g gm vn vf vp bm ne fe A) (h0:0<A.nodes.length) :
  ∃gn gf gp cn cf cp,vn=.slice (some ⟨gn,0,none⟩) A.nodes.length cn∧vf=.slice (some ⟨gf,0,none⟩) A.nodes.length cf∧vp=.slice (some ⟨gp,0,none⟩) A.nodes.length cp∧A.nodes.length≤cn∧A.nodes.length≤cf∧A.nodes.length≤cp∧cn≤9223372036854775807∧cf≤9223372036854775807∧cp≤9223372036854775807∧gn<w.heap.size∧gf<w.heap.size∧gp<w.heap.size ∧
   (∀i,i<A.nodes.length→∀j,j<8→w.cell? ⟨gn,i*8+j,none⟩=some ((ne.getD i []).getD j undef))∧(∀i,i<A.nodes.length→w.cell? ⟨gf,i,none⟩=some ((fe.getD i []).getD 0 undef))∧∀i,i<A.nodes.length→w.cell? ⟨gp,i,none⟩=some (.int .i64 (A.plain.getD i 0)):=by
 have hn:=h.nodes;have hf:=h.free;have hp:=h.plain;obtain ⟨an,cn,en⟩:=hn.isSlice;obtain ⟨af,cf,ef⟩:=hf.isSlice;obtain ⟨ap,cp,ep⟩:=hp.isSlice;rw [en] at hn;rw [ef] at hf;rw [ep] at hp;have l1:=h.nl;have l2:=h.fl;have l3:=h.pl;have l4:(aO A.plain).length=A.nodes.length:=by rw [aJ,l3]
 rw [l1] at hn en;rw [l2] at hf ef;rw [l4] at hp ep;obtain ⟨gn,rn,rfl,hrn,_,n1,n2,_⟩:=hn.opens l1 h0;obtain ⟨gf,rf,rfl,hrf,_,f1,f2,_⟩:=hf.opens l2 h0;obtain ⟨gp,rp,rfl,hrp,_,p1,p2,_⟩:=hp.opens l4 h0;refine ⟨gn,gf,gp,cn,cf,cp,en,ef,ep,n1,f1,p1,n2,f2,p2,hrn.lt,hrf.lt,hrp.lt,fun i hi j hj=>hrn.el hn.sz zZ hj,fun i hi=>?_,fun i hi=>?_⟩
 ·have:=hrf.el hf.sz (i:=i) (j:=0) zZ zZ;simpa using this
 ·have:=hrp.el hp.sz (i:=i) (j:=0) zZ zZ;simp only [Nat.mul_one,Nat.add_zero] at this;rw [this];simp [aO,List.getD,show i<A.plain.length by omega]
theorem bDK {rest:List Oper} (hgd:o.guard=none) (s x:Operand)
  (ho:o.op=.call { callee:=.builtin .append,args:=#[s,x],argTypes:=#[56,56] }) (B:Nat) (v:Value) (zs:List Int) (hs:a.eval s=v) (hown:aL w B 3 1 v (aO zs)) (hx:a.eval x=.slice ad n c) (hl:cE M w ad n c l)
  (hlen:zs.length+l.length≤1000000000) (hB:B≤w.heap.size) (h:∀v' w',aL w' B 3 1 v' (aO (zs++l))→aA (Own v) w w'→wpList prog ops Q rest (a.put o.dst v') w'):wpList prog ops Q (o::rest) a w:=by
 obtain ⟨i1,hi1⟩:=info_parts BI;have hln:l.length=n:=eU.len hl;cases ad with
 | none=>
  obtain ⟨rfl,rfl⟩:=eU.none hl;obtain rfl:l=[]:=fZ1 hln;rw [fZ2] at h;exact YJ w hgd s x 56 ho B 3 i1 1 underlying56 hi1.1 v _ _ hs hown.row hx (h v w hown (aA.refl _ _))
 | some p=>
  obtain ⟨els,q1,q2,q3,q4⟩:=eU.els hl;have e:=aBP q1 hln q3;subst e;refine bY w hgd s x 56 ho B 3 i1 (.int .i64 0) 1 8 underlying56 hi1.1 hi1.2.1 hi1.2.2.1 hi1.2.2.2 rfl zY v (aO zs) hs hown p c n (aO l) hx q1 q2 (q4 p rfl) ?_ wX wX hB ?_
  ·exact rR
  ·intro v' w' ho' hk _ _;exact h v' w' (by rw [ZQ];exact ho') hk
theorem aKV (s x:Operand)
  (ho:o.op=.call { callee:=.builtin .append,args:=#[s,x],argTypes:=#[56,56] }) (B:Nat) (v:Value) (zs:List Int) (hs:a.eval s=v) (hown:aL w B 3 1 v (aO zs)) (hx:a.eval x=.slice ad n c) (hl:cE M w ad n c l)
  (hlen:zs.length+l.length≤1000000000) (hB:B≤w.heap.size) (h:∀v' w',aL w' B 3 1 v' (aO (zs++l))→aA (Own v) w w'→K (a.put o.dst v') w'):Oper.wp prog o a w K Q:=by
 obtain ⟨i1,hi1⟩:=info_parts BI;have hln:l.length=n:=eU.len hl;cases ad with
 | none=>
  obtain ⟨rfl,rfl⟩:=eU.none hl;obtain rfl:l=[]:=fZ1 hln;rw [fZ2] at h;have hrun:=YK (P:=prog) w B 56 o.type 3 i1 1 underlying56 hi1.1 v _ _ hown.row;unfold Oper.wp;simp [execOp,ho,resolve,invoke,builtin,hs,hx,hrun,Result.andThen];exact h v w hown (aA.refl _ _)
 | some p=>
  obtain ⟨els,q1,q2,q3,q4⟩:=eU.els hl;have e:=aBP q1 hln q3;subst e;refine DC w s x 56 ho B 3 i1 (.int .i64 0) 1 8 underlying56 hi1.1 hi1.2.1 hi1.2.2.1 hi1.2.2.2 rfl zY v (aO zs) hs hown p c n (aO l) hx q1 q2 (q4 p rfl) ?_ wX wX hB ?_
  ·exact rR
  ·intro v' w' ho' hk _;exact h v' w' (by rw [ZQ];exact ho') hk
end
end Go.Proofs.Q
