/- A relation between a node and what comes of it, through a walk; an atom that stands in an arena: plain laws. -/
import Derived.Test.YtlldghknenbccaaGreatDoorRHoldsB
import Derived.Test.YtlldghknenbccaaGreatDoorRSubsB
set_option linter.unusedSimpArgs false
set_option linter.unusedVariables false
namespace Go.Proofs.Q
open Go.RowKit
section
variable {I Q:aC→Int→Int→Prop} {x:Int} {V:List Int} {T:kK}
theorem bE.LX {nodes limbs sp:Int} {A:aC} (h:bE V nodes limbs A sp) (hx:0≤x∧x<(A.nodes.length:Int)) (h4:(ndA A x).kind≤4):bJ ⟨(ndA A x).kind,(ndA A x).d,(ndA A x).t⟩=(0,⟨(ndA A x).kind,(ndA A x).d,(ndA A x).t⟩)∧fF (ndA A x).t.parts∧((ndA A x).kind=3∨(ndA A x).kind=4→0<(ndA A x).d):=by
 rcases Nat.lt_or_ge x.toNat 2 with h2|h2
 ·have e:ndA A x=⟨(x.toNat:Int),0,bK,0,[]⟩:=h.low h2;rw [e];refine ⟨eH yT,BL,fun h3=>by simp only at h3;omega⟩
 ·have hK:kC V limbs (ndA A x):=h.all x.toNat h2 zZ;have h1:=(hK.again.atom h4).2.1;refine ⟨h1,hK.fZ,fun h3=>?_⟩;have h5:=h1;rw [oJ h3] at h5;unfold jN at h5;simp only at h5;by_cases hd:(ndA A x).d=0
  ·rw [if_pos hd] at h5;simp at h5
  ·rw [if_neg hd] at h5;have h6:cC ((ndA A x).d.natAbs:Int) (bC (ndA A x).t) (decide ((ndA A x).kind=4))=⟨(ndA A x).kind,(ndA A x).d,(ndA A x).t⟩:=congrArg Prod.snd h5;have h7:=(aAG (d:=((ndA A x).d.natAbs:Int)) (T:=bC (ndA A x).t) (no:=decide ((ndA A x).kind=4)) zZ (mP _) (by rw [h6];simp only;omega)).1;rw [h6] at h7;exact h7
def Cov (Q:Int→Int→Prop) (l m:List Int):Prop:=(∀y∈m,∃x∈l,Q x y)∧∀x∈l,∃y∈m,Q x y
def kN (Q:Int→Int→Prop):List Int→List Int→Prop
 | [],[]=>True
 | x::l,y::m=>Q x y∧kN Q l m
 | [],_::_=>False
 | _::_,[]=>False
theorem kN.snoc {Q:Int→Int→Prop} {x y:Int} (hq:Q x y):∀{l m:List Int},kN Q l m→kN Q (l++[x]) (m++[y])
 | [],[],_=>⟨hq,trivial⟩
 | _::_,_::_,h=>⟨h.1,kN.snoc hq h.2⟩
 | [],_::_,h=>h.elim
 | _::_,[],h=>h.elim
theorem kN.imp {Q Q2:Int→Int→Prop} (hq:∀x y,Q x y→Q2 x y):∀{l m:List Int},kN Q l m→kN Q2 l m
 | [],[],_=>trivial
 | _::_,_::_,h=>⟨hq _ _ h.1,kN.imp hq h.2⟩
 | [],_::_,h=>h.elim
 | _::_,[],h=>h.elim
theorem kN.cov {Q:Int→Int→Prop}:∀{l m:List Int},kN Q l m→Cov Q l m
 | [],[],_=>⟨fun y hy=>(by cases hy),fun y hy=>by cases hy⟩
 | x::l,y::m,h=>by
  have ih:=kN.cov h.2;refine ⟨fun z hz=>?_,fun z hz=>?_⟩
  ·rcases mZ1.1 hz with rfl|hz
   ·exact⟨x,kZ1 ..,h.1⟩
   ·obtain ⟨u,hu,q⟩:=ih.1 z hz;exact⟨u,lZ1 _ hu,q⟩
  ·rcases mZ1.1 hz with rfl|hz
   ·exact⟨y,kZ1 ..,h.1⟩
   ·obtain ⟨u,hu,q⟩:=ih.2 z hz;exact⟨u,lZ1 _ hu,q⟩
 | [],_::_,h=>h.elim
 | _::_,[],h=>h.elim
structure LV (T:kK) (I:aC→Int→Int→Prop) (R:aC→Int→Prop) (Q:aC→Int→Int→Prop):Prop where
 ok:IQ T I R
 q:∀{A:aC} {sp ov x:Int} {ks:List Int},I A sp ov→0≤x∧x<(A.nodes.length:Int)→kN (Q A) (ndA A x).kids ks→(T A sp ov x ks).1.2=0→Below (T A sp ov x ks).2.1.nodes→Ext A (T A sp ov x ks).2.1→Q (T A sp ov x ks).2.1 x (T A sp ov x ks).1.1
 mono:∀{A A':aC} {x y:Int},Q A x y→Below A.nodes→Ext A A'→Q A' x y
def WQ (I:aC→Int→Int→Prop) (R:aC→Int→Prop) (Q:aC→Int→Int→Prop) (s:WSt):Prop:=WOk I R s∧∀u y,s.came u=some y→Q s.A u y
theorem XM {T:kK} {I:aC→Int→Int→Prop} {R:aC→Int→Prop} {Q:aC→Int→Int→Prop} (hT:LV T I R Q) {W:WSt→Int→(Int × Int) × WSt} {m:Int} {N:Nat} (H:∀s k,WQ I R Q s→N≤s.A.nodes.length→0≤k→k<m→k<(N:Int)→(W s k).1.2=0→WQ I R Q (W s k).2∧Ext s.A (W s k).2.A∧Q (W s k).2.A k (W s k).1.1) :
  ∀(l:List Int) (s:WSt) (out done:List Int),WQ I R Q s→N≤s.A.nodes.length→(∀k∈l,0≤k∧k<m∧k<(N:Int))→kN (Q s.A) done out→(cW W s out l).1.2=0→WQ I R Q (cW W s out l).2∧kN (Q (cW W s out l).2.A) (done++l) (cW W s out l).1.1
 | [],s,out,done,hs,_,_,ho,_=>by rw [fZ2];exact⟨hs,ho⟩
 | k::l,s,out,done,hs,hN,hl,ho,he=>by
  have hk:=hl k (kZ1 ..);unfold cW at he⊢;by_cases h0:(W s k).1.2=0
  ·rw [if_pos h0] at he⊢;obtain ⟨q1,q2,q3⟩:=H s k hs hN hk.1 hk.2.1 hk.2.2 h0;have:=XM hT (W:=W) (m:=m) (N:=N) H l (W s k).2 (out++[(W s k).1.1]) (done++[k]) q1 (bZ1 hN q2.len) (fun j hj=>hl j (lZ1 _ hj)) ((ho.imp fun x y q=>hT.mono q (hT.ok.below hs.1.1) q2).snoc q3) he;rw [mZ2] at this;exact this
  ·rw [if_neg h0] at he;exact absurd he h0
theorem XF {T:kK} {I:aC→Int→Int→Prop} {R:aC→Int→Prop} {Q:aC→Int→Int→Prop} (hT:LV T I R Q):∀(f:Nat) (s:WSt) (x:Int),WQ I R Q s→x.toNat<f→0≤x→x<(s.A.nodes.length:Int)→(cJ T f s x).1.2=0→WQ I R Q (cJ T f s x).2∧Ext s.A (cJ T f s x).2.A∧Q (cJ T f s x).2.A x (cJ T f s x).1.1
 | 0,_,_,_,h,_,_,_=>zZ
 | f+1,s,x,hs,hf,h0,h1,he=>by
  have hok:=IC hT.ok (f+1) s x hs.1 hf h0 h1;refine (fun q=>⟨⟨hok.1.2.2.1 he,q.1⟩,hok.1.2.1,q.2⟩:((∀u y,(cJ T (f+1) s x).2.came u=some y→Q (cJ T (f+1) s x).2.A u y)∧Q (cJ T (f+1) s x).2.A x (cJ T (f+1) s x).1.1)→_) ?_;have hB:=hT.ok.below hok.1.1;cases hc:s.came x with
  | some y=>
   rw [JQ hc];exact⟨hs.2,hs.2 x y hc⟩
  | none=>
   obtain ⟨r,hr⟩:∃r,cW (cJ T f) s [] (ndA s.A x).kids=r:=⟨_,rfl⟩;by_cases hre:r.1.2=0
   ·have hk:=XM hT (W:=cJ T f) (m:=x) (N:=s.A.nodes.length) (fun s' k hs' hN hk0 hkx hkN hke=>XF hT f s' k hs' zZ hk0 zZ hke) (ndA s.A x).kids s [] [] hs (bZ2 _) (fun k hk=>by have:=(hT.ok.below hs.1.1).kid h0 h1 hk;omega) trivial (by rw [hr];exact hre);rw [hr,iZ3] at hk;obtain ⟨⟨out,e⟩,t⟩:=r;obtain rfl:e=0:=hre;obtain ⟨q1,q2,q3,q4,-⟩:=VK hT.ok (f:=f) (j:=(ndA s.A x).kids.length) hs.1 hf h0 h1 (bZ2 _) (by rw [List.take_length];exact hr);have hlen:x<(t.A.nodes.length:Int):=by have:=q2.len;omega
    have hst:=hT.ok.step (x:=x) (ks:=out) q1.1 h0 hlen q3 (by rw [q2.nd h0 h1];exact q4);rw [KE hc hr] at he hB⊢;simp only at he hB;have hqx:=hT.q (x:=x) (ks:=out) q1.1 ⟨h0,hlen⟩ (by rw [q2.nd h0 h1];exact hk.2) he hB hst.2.1;refine ⟨fun u y hu=>?_,hqx⟩;simp only [iL] at hu;by_cases hux:u=x
    ·rw [if_pos hux] at hu;cases hu;rw [hux];exact hqx
    ·rw [if_neg hux] at hu;exact hT.mono (hk.1.2 u y hu) (hT.ok.below q1.1) hst.2.1
   ·rw [OW hc hr hre] at he;exact absurd he hre
theorem aKG {R:aC→Int→Prop} (hT:LV T I R Q) {n j:Nat} {s t:WSt} {out:List Int} (hs:WQ I R Q s) (hx:x.toNat<n+1) (h0:0≤x) (h1:x<(s.A.nodes.length:Int)) (hk:cW (cJ T n) s [] ((ndA s.A x).kids.take j)=((out,0),t)):WQ I R Q t∧kN (Q t.A) ((ndA s.A x).kids.take j) out:=by
 have h:=XM hT (W:=cJ T n) (m:=x) (N:=s.A.nodes.length) (fun s' k hs' hN hk0 hkx hkN hke=>XF hT n s' k hs' zZ hk0 zZ hke) ((ndA s.A x).kids.take j) s [] [] hs (bZ2 _) (fun k hk=>by have:=(hT.ok.below hs.1.1).kid h0 h1 (cZ3 hk);omega) trivial (by rw [hk]);rw [hk,iZ3] at h;exact h
end
section
variable {vals l:aM} {T:aV} {d x y:Int} {p:Int × Int} {X:aY}
def fD (f:Int→Int):aM→Int
 | []=>0
 | p::l=>p.2*f p.1+fD f l
def lG (C f:Int→Int):List Int→Int
 | []=>0
 | v::l=>C v*f v+lG C f l
def bZ (f:Int→Int) (T:aV):Int:=fD f T.parts+T.k
theorem aBA (f:Int→Int) (b:aM):∀a:aM,fD f (a++b)=fD f a+fD f b
 | []=>by simp [fD]
 | p::a=>by simp only [hZ3,fD,aBA f b a];omega
theorem KY (f:Int→Int) (x:Int):∀l:aM,fD f (mulL x l)=x*fD f l
 | []=>by simp [fD,mulL]
 | p::l=>by
  have ih:=KY f x l;simp only [mulL,dZ2,fD] at ih⊢;rw [ih,Int.mul_add,Int.mul_assoc]
theorem ZG (C f:Int→Int):∀vs:List Int,fD f (vs.filterMap fun v=>if C v=0 then none else some (v,C v))=lG C f vs
 | []=>rfl
 | v::vs=>by
  have ih:=ZG C f vs;simp only [List.filterMap_cons,lG];by_cases h:C v=0
  ·rw [if_pos h,h];simp only;omega
  ·rw [if_neg h];simp only [fD];omega
theorem aHU (A B f:Int→Int):∀vs:List Int,lG (fun v=>A v+B v) f vs=lG A f vs+lG B f vs
 | []=>rfl
 | v::vs=>by
  have ih:=aHU A B f vs;simp only [lG] at ih⊢;rw [ih,Int.add_mul];omega
theorem aGK {a c:Int} {f:Int→Int}:∀{vs:List Int},a ∉ vs→lG (fun v=>if a=v then c else 0) f vs=0
 | [],_=>rfl
 | v::vs,h=>by
  have ih:=aGK (a:=a) (c:=c) (f:=f) (vs:=vs) fun hm=>h (lZ1 _ hm);simp only [lG] at ih⊢;rw [ih,if_neg fun e=>h (by rw [e];exact kZ1 ..)];omega
theorem aHC {a c:Int} {f:Int→Int}:∀{vs:List Int},vs.Pairwise (·<·)→a∈vs→lG (fun v=>if a=v then c else 0) f vs=c*f a
 | [],_,h=>wZ
 | v::vs,hs,h=>by
  have hs':=List.pairwise_cons.1 hs;by_cases e:a=v
  ·subst e;have:=aGK (a:=a) (c:=c) (f:=f) (vs:=vs) fun hm=>by have:=hs'.1 a hm;omega
   simp only [lG] at this⊢;rw [this];simp
  ·have ih:=aHC (c:=c) (f:=f) hs'.2 ((mZ1.1 h).resolve_left e);simp only [lG] at ih⊢;rw [ih,if_neg e];omega
theorem aFZ (f:Int→Int):∀vs:List Int,lG (bD []) f vs=0
 | []=>rfl
 | v::vs=>by
  have ih:=aFZ f vs;simp only [lG,bD] at ih⊢;rw [ih];omega
theorem aEF {f:Int→Int} {vs:List Int} (hs:vs.Pairwise (·<·)):∀{l:aM},(∀p∈l,p.1∈vs)→lG (bD l) f vs=fD f l
 | [],_=>aFZ f vs
 | p::l,h=>by
  have ih:=aEF (f:=f) hs (l:=l) fun q hq=>h q (lZ1 _ hq);have e:bD (p::l)=fun v=>(if p.1=v then p.2 else 0)+bD l v:=rfl;rw [e,aHU,aHC hs (h p (kZ1 ..)),ih];rfl
theorem aFA (f:Int→Int) (l:aM):fD f (dR l)=fD f l:=by
 unfold dR;rw [ZG];exact aEF (NJ _).1 fun p hp=>((NJ _).2 _).2 (iZ2.2 ⟨p,hp,rfl⟩)
theorem EG (f:Int→Int) (T:aV):bZ f (bC T)=bZ f T:=by
 unfold bZ bC;rw [aFA]
theorem aDZ (f:Int→Int) (x y:Int) (a b:aV):bZ f (gU x a y b)=x*bZ f a+y*bZ f b:=by
 unfold bZ gU;simp only;rw [aFA,aBA,KY,KY,Int.mul_add,Int.mul_add];omega
theorem aDX (h:p∈dR l):∃q∈l,q.1=p.1:=by
 have h1:=((CF l).mem p).1 h;exact CO (by rw [←h1.1];exact h1.2)
def dA (vals l:aM):Prop:=∀p∈l,valueOf vals p.1≠none
def gM (vals:aM) (v:Int):Int:=(valueOf vals v).getD 0
theorem dA.fZ (h:dA vals l):dA vals (dR l):=fun p hp=>by
 obtain ⟨q,hq,e⟩:=aDX hp;rw [←e];exact h q hq
theorem dA.map (h:dA vals l) (c:Int→Int):dA vals (fG c l):=fun p hp=>by
 obtain ⟨q,hq,rfl⟩:=II.1 hp;exact h q hq
theorem UJ (vals:aM):∀(l:aM) (s x:Int),iC vals l s=some x↔dA vals l∧x=s+fD (gM vals) l
 | [],s,x=>by simp [iC,dA,fD,eq_comm]
 | p::l,s,x=>by
  simp only [iC,fD];cases hv:valueOf vals p.1 with
  | none=>
   simp only;constructor
   ·intro h;cases h
   ·rintro ⟨h,-⟩;exact absurd hv (h p (kZ1 ..))
  | some y=>
   simp only;rw [UJ vals l,show gM vals p.1=y by unfold gM;rw [hv];rfl];constructor
   ·rintro ⟨h1,h2⟩;refine ⟨fun q hq=>?_,zZ⟩;rcases mZ1.1 hq with rfl|hq
    ·rw [hv];simp
    ·exact h1 q hq
   ·rintro ⟨h1,h2⟩;exact⟨fun q hq=>h1 q (lZ1 _ hq),zZ⟩
theorem WB {f:Int→Int} {g:Nat} (h0:0<g):∀{l:aM},(∀p∈l,(g:Int)∣p.2)→fD f l=(g:Int)*fD f (fG (fun c=>c.fdiv (g:Int)) l)
 | [],_=>by simp [fD,fG]
 | p::l,h=>by
  have ih:=WB (f:=f) h0 (l:=l) fun q hq=>h q (lZ1 _ hq);obtain ⟨t,ht⟩:=h p (kZ1 ..);simp only [fG,dZ2,fD] at ih⊢;rw [ih,ht,Int.mul_fdiv_cancel_left t zZ,Int.mul_add,Int.mul_assoc]
theorem aHN {f:Int→Int} {d:Int}:∀(l:aM),d∣fD f (fG (fun c=>c.fmod d) l)-fD f l
 | []=>⟨0,by simp [fD,fG]⟩
 | p::l=>by
  obtain ⟨t,ht⟩:=aHN (f:=f) (d:=d) l;have h1:=Int.mul_fdiv_add_fmod p.2 d;refine ⟨t-p.2.fdiv d*f p.1,?_⟩;simp only [fG,dZ2,fD] at ht⊢;have h2:p.2*f p.1=d*(p.2.fdiv d*f p.1)+p.2.fmod d*f p.1:=by rw [←Int.mul_assoc,←Int.add_mul,h1]
  rw [Int.mul_sub];omega
theorem aNG (x d:Int):d∣x.fmod d-x:=⟨-(x.fdiv d),by have:=Int.mul_fdiv_add_fmod x d;rw [Int.mul_neg];omega⟩
theorem aAA (f:Int→Int) (d:Int) (T:aV):d∣bZ f (dU d T)-bZ f T:=by
 unfold dU jO;rw [EG];unfold bZ;simp only;have h1:=Int.dvd_add (aHN (f:=f) (d:=d) T.parts) (aNG T.k d);rw [show fD f (fG (fun c=>c.fmod d) T.parts)+T.k.fmod d-(fD f T.parts+T.k)=fD f (fG (fun c=>c.fmod d) T.parts)-fD f T.parts+(T.k.fmod d-T.k) by omega];exact h1
theorem aGT (h:d∣x-y):d∣x↔d∣y:=by
 constructor
 ·intro hx;have:=Int.dvd_sub hx h;rwa [show x-(x-y)=y by omega] at this
 ·intro hy;have:=Int.dvd_add h hy;rwa [show x-y+y=x by omega] at this
theorem aHS (h0:0<d):(x.fmod d==0)=decide (d∣x):=by
 rw [Bool.eq_iff_iff,beq_iff_eq,decide_eq_true_iff,Int.fmod_eq_emod_of_nonneg _ zZ];exact⟨Int.dvd_of_emod_eq_zero,Int.emod_eq_zero_of_dvd⟩
def soA (f:Int→Int) (X:aY):Bool:=isR X (bZ f X.t)
theorem OT (f:Int→Int) (b:Bool):soA f (eA b)=b:=by cases b<;>rfl
theorem aXX (f:Int→Int) (hT:fF T.parts):soA f (iG T)=decide (0<bZ f T):=by
 unfold iG;by_cases hn:T.parts=[]
 ·rw [if_pos hn,OT];unfold bZ;rw [hn];simp [fD]
 rw [if_neg hn];obtain ⟨g,hg⟩:∃g,g=fH (cH T):=⟨_,rfl⟩;rw [←hg];obtain ⟨p0,hp0⟩:=List.exists_mem_of_ne_nil _ hn;have h0:0<g:=hg ▸ PS ⟨p0.2,iZ2.2 ⟨p0,hp0,rfl⟩,hT.some p0 hp0⟩;have hdv:∀p∈T.parts,(g:Int)∣p.2:=fun p hp=>hg ▸ DT _ _ (iZ2.2 ⟨p,hp,rfl⟩);show isR ⟨2,0,_⟩ (bZ f (jO T _ _))=_
 unfold isR jO;rw [if_pos rfl,EG];unfold bZ;rw [WB h0 hdv];simp only;obtain ⟨S,hS⟩:∃S,S=fD f (fG (fun c=>c.fdiv (g:Int)) T.parts):=⟨_,rfl⟩;rw [←hS];have h1:=Int.mul_fdiv_add_fmod (T.k-1) g;have h2:=Int.fmod_nonneg_of_pos (T.k-1) (show (0:Int)<g by omega);have h3:=Int.fmod_lt_of_pos (T.k-1) (show (0:Int)<g by omega);obtain ⟨q,hq⟩:∃q,q=(T.k-1).fdiv (g:Int):=⟨_,rfl⟩;refine decide_eq_decide.2 ?_;rw [←hq] at h1⊢;have h4:(g:Int)*(S+q)=g*S+g*q:=Int.mul_add _ _ _;refine ⟨fun h=>?_,fun h=>?_⟩
 ·have h5:=Int.mul_nonneg (show (0:Int)≤g by omega) (show 0≤S+q by omega);omega
 ·by_cases h6:0≤S+q
  ·omega
  ·have h5:=Int.mul_le_mul_of_nonneg_left (show S+q≤-1 by omega) (show (0:Int)≤g by omega);omega
theorem bAG (f:Int→Int) (h0:0<d) (X:aV) (no:Bool):soA f ⟨if no then 4 else 3,d,X⟩=(decide (d∣bZ f X) != no):=by
 have hb:=aHS (x:=bZ f X) h0;cases no
 ·show isR ⟨3,d,X⟩ (bZ f X)=_
  unfold isR;simp only;rw [if_neg zY,if_pos zY,hb];simp
 ·show isR ⟨4,d,X⟩ (bZ f X)=_
  unfold isR;simp only;rw [if_neg zY,if_pos zY,hb];simp
theorem aQN (f:Int→Int) {no:Bool} (h0:0<d) (hT:fF T.parts):soA f (cC d T no)=(decide (d∣bZ f T) != no):=by
 have hw:=aAA f d T;have hP:decide (d∣bZ f T)=decide (d∣bZ f (dU d T)):=decide_eq_decide.2 (aGT hw).symm;rw [hP];clear hw hP;have hg:=GZ (T:=T) h0;have hPk:0≤(dU d T).k∧(dU d T).k<d:=⟨Int.fmod_nonneg_of_pos _ h0,Int.fmod_lt_of_pos _ h0⟩;obtain ⟨m,hm⟩:=VA d T;have hD:eC d T=m:=tH;have hdv:∀p∈(dU d T).parts,(gB d T:Int)∣p.2:=fun p hp=>DT _ _ (jZ1.2 (.inl (iZ2.2 ⟨p,hp,rfl⟩)));have hdot:=WB (f:=f) hg hdv;unfold cC;by_cases h1:(dU d T).parts=[]
 ·rw [if_pos h1,OT];congr 1;unfold bZ;rw [h1];simp only [fD];refine decide_eq_decide.2 ⟨fun h=>by rw [h];exact⟨0,zZ⟩,fun h=>?_⟩;have:=Int.emod_eq_zero_of_dvd h;rw [Int.emod_eq_of_lt zZ zZ] at this;omega
 rw [if_neg h1];by_cases h2:(dU d T).k.fmod (gB d T:Int)≠0
 ·rw [if_pos h2,OT];rw [decide_eq_false fun h=>h2 ?_]
  ·simp
  have h3:=Int.dvd_trans (show (gB d T:Int)∣d from ⟨m,hm⟩) h;unfold bZ at h3;rw [hdot] at h3;have h4:=Int.dvd_sub h3 (Int.dvd_mul_right (gB d T:Int) (fD f (fG (fun c=>c.fdiv (gB d T:Int)) (dU d T).parts)));rw [show ∀x y:Int,x+y-x=y from fun x y=>zZ] at h4;rw [Int.fmod_eq_emod_of_nonneg _ zZ];exact Int.emod_eq_zero_of_dvd h4
 rw [if_neg h2];have h2':=Decidable.not_not.1 h2;have hk:=Int.mul_fdiv_add_fmod (dU d T).k (gB d T);rw [h2'] at hk;have hC:bZ f (dU d T)=(gB d T:Int)*bZ f (dE d T):=by
  unfold dE jO;rw [EG];unfold bZ;simp only;rw [hdot,Int.mul_add];omega
 have hdC:decide (d∣bZ f (dU d T))=decide (eC d T∣bZ f (dE d T)):=by
  rw [hC,hD];refine decide_eq_decide.2 ⟨fun h=>?_,fun h=>?_⟩
  ·rw (occs:=.pos [1]) [hm] at h;exact Int.dvd_of_mul_dvd_mul_left zZ h
  ·rw (occs:=.pos [1]) [hm];exact Int.mul_dvd_mul_left _ h
 rw [hdC];have hm0:=GV (T:=T) h0;by_cases h3:eC d T=1
 ·rw [if_pos h3,OT,h3,decide_eq_true (Int.one_dvd _)];cases no<;>rfl
 rw [if_neg h3];have hO:decide (eC d T∣bZ f (iJ d T))=decide (eC d T∣bZ f (dE d T)):=by
  refine decide_eq_decide.2 ((aGT (aAA f _ _)).trans ?_);rw [aDZ,show (-1:Int)*bZ f (dE d T)+0*bZ f bK=-bZ f (dE d T) by omega];exact Int.dvd_neg
 rw [bAG f hm0];by_cases hc:kE (iJ d T) (dE d T)<0
 ·rw [if_pos hc,hO]
 ·rw [if_neg hc]
theorem SY {c k:Int→Int} (h:dA vals T.parts):dA vals (jO T c k).parts:=dA.fZ (h.map c)
theorem aRZ (h:dA vals T.parts):dA vals (iG T).t.parts:=by
 unfold iG;split
 ·exact fun p hp=>xC
 ·exact SY h
theorem aBB (h:dA vals T.parts):dA vals (dU d T).parts:=SY h
theorem aTR {a b:aV} (h:dA vals a.parts) (h2:dA vals b.parts):dA vals (gU x a y b).parts:=dA.fZ fun p hp=>by
 rcases jZ1.1 hp with hp|hp
 ·exact h.map (fun c=>x*c) p hp
 ·exact h2.map (fun c=>y*c) p hp
theorem aOB {no:Bool} (h:dA vals T.parts):dA vals (cC d T no).t.parts:=by
 have h0:dA vals bK.parts:=fun p hp=>xC;have hC:dA vals (dE d T).parts:=SY (aBB h);unfold cC;split
 ·exact h0
 split
 ·exact h0
 split
 ·exact h0
 simp only;split
 ·exact aBB (aTR hC h0)
 ·exact hC
theorem aHO (h:(bJ X).1=0) (hd:X.kind=3∨X.kind=4→0<X.d) (hk:dA vals X.t.parts):dA vals (bJ X).2.t.parts∧soA (gM vals) (bJ X).2=soA (gM vals) X:=by
 by_cases h0:X.kind=0∨X.kind=1
 ·rw [eH h0];refine ⟨fun p hp=>xC,?_⟩;unfold soA isR;simp only;rw [if_neg zZ,if_neg zZ,if_neg zZ,if_neg zZ]
 by_cases h2:X.kind=2
 ·rw [CG h2];refine ⟨aRZ hk.fZ,?_⟩;rw [aXX _ (mP _),EG];unfold soA isR;rw [if_pos h2]
 by_cases h3:X.kind=3∨X.kind=4
 ·have hd0:=hd h3;rw [oJ h3] at h⊢;unfold jN at h⊢;rw [if_neg zZ];refine ⟨aOB hk.fZ,?_⟩;simp only;rw [show (X.d.natAbs:Int)=X.d by omega,aQN _ hd0 (mP _),EG];unfold soA isR;rw [if_neg h2,if_pos h3,aHS hd0];rcases h3 with h3|h3
  ·rw [h3];simp
  ·rw [h3];simp
 ·rw [DK zZ zZ h2 zZ zZ] at h;simp at h
end
section
variable {vals:aM} {V l ids ks:List Int} {x nodes limbs kind sp:Int} {turned b c:Bool} {p:Int × Int} {X Y:aS} {n:Nat}
def Tr (vals:aM) (A:aC) (x:Int) (b:Bool):Prop:=iT vals A.nodes (x.toNat+1) x=some b
def Kn (vals:aM) (A:aC) (x:Int):Prop:=∃b,Tr vals A x b
theorem Tr.kn {A:aC} (h:Tr vals A x b):Kn vals A x:=⟨b,h⟩
theorem Tr.same {A:aC} (h:Tr vals A x b) (k:Tr vals A x c):b=c:=lZ2 (h.symm.trans k)
theorem aYG (h:¬b=c):b=!c:=by cases b<;>cases c<;>simp_all
theorem Kn.or {A:aC} (h:Kn vals A x) (c:Bool):¬Tr vals A x (!c)→Tr vals A x c:=fun hn=>by
 obtain ⟨b,hb⟩:=h;by_cases e:b=c
 ·rw [←e];exact hb
 ·exact absurd (by rw [show (!c)=b by cases b<;>cases c<;>simp_all];exact hb) hn
theorem aDR {vals:aM} {L t:List aS} (hB:Below L):∀(f:Nat) (x:Int),0≤x→x<(L.length:Int)→iT vals (L++t) f x=iT vals L f x
 | 0,_,_,_=>rfl
 | f+1,x,h0,h1=>by
  have e:(L++t).getD x.toNat aP=L.getD x.toNat aP:=FW L t aP zZ;simp only [iT,e];split
  ·rfl
  split
  ·refine JU fun k hk=>?_;have:=hB.kid h0 h1 hk;exact aDR hB f k this.1 zZ
  ·rfl
theorem Tr.ext {A A':aC} (he:Ext A A') (hB:Below A.nodes) (h:0≤x∧x<(A.nodes.length:Int)) (b:Bool):Tr vals A' x b↔Tr vals A x b:=by
 obtain ⟨t,e⟩:=he;unfold Tr;rw [e,aDR hB _ _ h.1 h.2]
theorem Kn.ext {vals:aM} {A A':aC} (he:Ext A A') (hB:Below A.nodes) {x:Int} (h:0≤x∧x<(A.nodes.length:Int)):Kn vals A' x↔Kn vals A x:=exists_congr fun b=>Tr.ext he hB h b
theorem aGI {f:Int→Option Bool} {kind:Int}:∀{l:List Int} {out:Bool},(∀k∈l,∃b,f k=some b)→∃b,kD f kind l out=some b∧(b=decide (kind=5)↔out=decide (kind=5)∧∀k∈l,f k=some (decide (kind=5)))
 | [],out,_=>⟨out,rfl,zW⟩
 | x::l,out,h=>by
  obtain ⟨y,hy⟩:=h x (kZ1 ..);obtain ⟨b,h1,h2⟩:=aGI (f:=f) (kind:=kind) (l:=l) (out:=if kind=5 then out&&y else out||y) fun k hk=>h k (lZ1 _ hk);refine ⟨b,by simp only [kD];rw [hy];exact h1,h2.trans ?_⟩;have e:(if kind=5 then out&&y else out||y)=decide (kind=5)↔out=decide (kind=5)∧y=decide (kind=5):=by
   by_cases h5:kind=5
   ·rw [if_pos h5,decide_eq_true h5];simp
   ·rw [if_neg h5,decide_eq_false h5];simp
  rw [e];constructor
  ·rintro ⟨⟨q1,q2⟩,q3⟩;refine ⟨q1,fun k hk=>?_⟩;rcases mZ1.1 hk with rfl|hk
   ·rw [hy,q2]
   ·exact q3 k hk
  ·rintro ⟨q1,q2⟩;have q3:=q2 x (kZ1 ..);rw [hy] at q3;exact⟨⟨q1,lZ2 q3⟩,fun k hk=>q2 k (lZ1 _ hk)⟩
theorem aBE {f:Int→Option Bool} {kind:Int}:∀{l:List Int} {out b:Bool},kD f kind l out=some b→∀k∈l,∃b,f k=some b
 | [],_,_,_=>fun k hk=>by cases hk
 | x::l,out,b,h=>fun k hk=>by
  simp only [kD] at h;cases hv:f x with
  | none=>rw [hv] at h;cases h
  | some y=>
   rw [hv] at h;rcases mZ1.1 hk with rfl|hk
   ·exact⟨y,hv⟩
   ·exact aBE h k hk
theorem aCS {A:aC} (hB:Below A.nodes) (hx:0≤x∧x<(A.nodes.length:Int)) (h5:(ndA A x).kind=5∨(ndA A x).kind=6):iT vals A.nodes (x.toNat+1) x=kD (fun k=>iT vals A.nodes (k.toNat+1) k) (ndA A x).kind (ndA A x).kids (decide ((ndA A x).kind=5)):=by
 have e:iT vals A.nodes (x.toNat+1) x=if (ndA A x).kind=7∨(ndA A x).kind=8 then none else if (ndA A x).kind=5∨(ndA A x).kind=6 then kD (iT vals A.nodes x.toNat) (ndA A x).kind (ndA A x).kids (decide ((ndA A x).kind=5)) else if (iH vals ⟨(ndA A x).kind,(ndA A x).d,(ndA A x).t⟩).2=0 then some (iH vals ⟨(ndA A x).kind,(ndA A x).d,(ndA A x).t⟩).1 else none:=rfl
 rw [e,if_neg zZ,if_pos h5];refine JU fun k hk=>?_;have:=hB.kid hx.1 hx.2 hk;exact aBC hB _ _ k this.1 zZ zZ zZ
theorem QJ {A:aC} (hB:Below A.nodes) (hx:0≤x∧x<(A.nodes.length:Int)) (h5:(ndA A x).kind=5∨(ndA A x).kind=6) (hk:∀k∈(ndA A x).kids,Kn vals A k):Kn vals A x∧(Tr vals A x (decide ((ndA A x).kind=5))↔∀k∈(ndA A x).kids,Tr vals A k (decide ((ndA A x).kind=5))):=by
 obtain ⟨b,h1,h2⟩:=aGI (f:=fun k=>iT vals A.nodes (k.toNat+1) k) (kind:=(ndA A x).kind) (out:=decide ((ndA A x).kind=5)) hk;have e:=(aCS (vals:=vals) hB hx h5).trans h1;refine ⟨⟨b,e⟩,?_⟩;constructor
 ·intro h;have:=Tr.same h e;exact (h2.1 this.symm).2
 ·intro h;have:=h2.2 ⟨rfl,h⟩;rw [←this];exact e
theorem QE {A:aC} (hB:Below A.nodes) (hx:0≤x∧x<(A.nodes.length:Int)) (h5:(ndA A x).kind=5∨(ndA A x).kind=6) (h:Kn vals A x):∀k∈(ndA A x).kids,Kn vals A k:=by
 obtain ⟨b,hb⟩:=h;have e:=(aCS (vals:=vals) hB hx h5).symm.trans hb;exact aBE e
theorem aGQ {vals:aM} {A:aC} (hB:Below A.nodes) {kind:Int} (h5:kind=5∨kind=6):∀(f:Nat) (x:Int),0≤x∧x<(A.nodes.length:Int)→Kn vals A x→(∀y∈gQ A.nodes kind f x,Kn vals A y)∧(Tr vals A x (decide (kind=5))↔∀y∈gQ A.nodes kind f x,Tr vals A y (decide (kind=5)))
 | 0,x,_,hk=>by
  rw [gQ];exact⟨fun y hy=>by rw [dZ1.1 hy];exact hk,zW⟩
 | f+1,x,hx,hk=>by
  unfold gQ;split
  ·rename_i he;have he':(ndA A x).kind=kind:=he;have hkk:=QE hB hx (by rw [he'];exact h5) hk;have ht:=(QJ hB hx (by rw [he'];exact h5) hkk).2;rw [he'] at ht;have ih:∀k∈(ndA A x).kids,(∀y∈gQ A.nodes kind f k,Kn vals A y)∧(Tr vals A k (decide (kind=5))↔∀y∈gQ A.nodes kind f k,Tr vals A y (decide (kind=5))):=fun k hkm=>by
    have:=hB.kid hx.1 hx.2 hkm;exact aGQ hB h5 f k ⟨this.1,zZ⟩ (hkk k hkm)
   refine ⟨fun y hy=>?_,ht.trans ⟨fun h y hy=>?_,fun h k hkm=>(ih k hkm).2.2 fun y hy=>h y (fZ3.2 ⟨k,hkm,hy⟩)⟩⟩
   ·obtain ⟨k,hkm,hy⟩:=fZ3.1 hy;exact (ih k hkm).1 y hy
   ·obtain ⟨k,hkm,hy⟩:=fZ3.1 hy;exact (ih k hkm).2.1 (h k hkm) y hy
  ·exact⟨fun y hy=>by rw [dZ1.1 hy];exact hk,zW⟩
def soN (vals:aM) (N:aS):Bool:=soA (gM vals) ⟨N.kind,N.d,N.t⟩
theorem QC {A:aC} (h:bE V nodes limbs A sp) (hx:0≤x∧x<(A.nodes.length:Int)) (h4:(ndA A x).kind≤4):(Kn vals A x↔dA vals (ndA A x).t.parts)∧(Kn vals A x→Tr vals A x (soN vals (ndA A x))):=by
 obtain ⟨q1,q2,q3⟩:=h.LX hx h4;have hev:=UJ vals (ndA A x).t.parts (ndA A x).t.k;have e:iT vals A.nodes (x.toNat+1) x=if (ndA A x).kind=7∨(ndA A x).kind=8 then none else if (ndA A x).kind=5∨(ndA A x).kind=6 then kD (iT vals A.nodes x.toNat) (ndA A x).kind (ndA A x).kids (decide ((ndA A x).kind=5)) else if (iH vals ⟨(ndA A x).kind,(ndA A x).d,(ndA A x).t⟩).2=0 then some (iH vals ⟨(ndA A x).kind,(ndA A x).d,(ndA A x).t⟩).1 else none:=rfl
 rw [if_neg zZ,if_neg zZ] at e;have hh:iH vals ⟨(ndA A x).kind,(ndA A x).d,(ndA A x).t⟩=match iC vals (ndA A x).t.parts (ndA A x).t.k with|none=>(false,170)|some v=>(isR ⟨(ndA A x).kind,(ndA A x).d,(ndA A x).t⟩ v,0):=by
  unfold iH;rw [q1,if_pos rfl];simp only;rw [eE q2];cases iC vals (ndA A x).t.parts (ndA A x).t.k<;>rfl
 cases ho:iC vals (ndA A x).t.parts (ndA A x).t.k with
 | none=>
  rw [ho] at hh;rw [hh] at e;have hk:¬dA vals (ndA A x).t.parts:=fun hk=>by
   have:=(hev _).2 ⟨hk,rfl⟩;rw [ho] at this;cases this
  have hn:¬Kn vals A x:=by
   rintro ⟨b,hb⟩;unfold Tr at hb;rw [e] at hb;simp at hb
  exact⟨⟨fun q=>absurd q hn,fun q=>absurd q hk⟩,fun q=>absurd q hn⟩
 | some v=>
  rw [ho] at hh;obtain ⟨hk,hv⟩:=(hev v).1 ho;have ht:Tr vals A x (soN vals (ndA A x)):=by
   unfold Tr soN soA bZ;rw [e,hh];simp only;rw [if_pos trivial,hv,Int.add_comm]
  exact⟨⟨fun _=>hk,fun _=>ht.kn⟩,fun _=>ht⟩
theorem PN (vals:aM) {A:aC} (h:bE V nodes limbs A sp) (hx:x=0∨x=1):Tr vals A x (decide (x=1)):=by
 have e:ndA A x=⟨(x.toNat:Int),0,bK,0,[]⟩:=h.low zZ;have h2:=h.inv.once.two;have h1:=QC (vals:=vals) h (x:=x) zZ (by rw [e];simp only;omega);have h3:=h1.2 (h1.1.2 (by rw [e];exact fun p hp=>xC));rw [e] at h3;rcases hx with rfl|rfl
 ·exact h3
 ·exact h3
theorem aYU {q:Int × Int} (h:EA p q turned=true):p=(q.1,(if turned then -1 else 1)*q.2):=by
 unfold EA at h;simp only [Bool.and_eq_true,decide_eq_true_eq,beq_iff_eq] at h;obtain ⟨h1,h2,h3⟩:=h;have h4:=congrArg nval h3;rw [cS,cS] at h4;refine Prod.ext h1 ?_;simp only;unfold neg at h2;cases turned
 ·simp only [Bool.bne_false,decide_eq_decide] at h2;rw [if_neg zY];omega
 ·rw [if_pos rfl];by_cases h5:p.2<0<;>by_cases h6:q.2<0<;>simp [h5,h6] at h2<;>omega
theorem aIK {s t:aM} (h:kH s t turned=true):s=mulL (if turned then -1 else 1) t:=by
 unfold kH BO at h;simp only [Bool.and_eq_true,decide_eq_true_eq,kZ2,List.mem_range] at h;obtain ⟨h1,h2⟩:=h;refine List.ext_getElem (by simp [mulL,h1]) fun i hi hj=>?_;have h3:=aYU (h2 i hi);rw [iR hi,iR zZ] at h3;simpa [mulL] using h3
theorem aTS {q:Int × Int} (h:AY p q=0):p=q:=by
 unfold AY at h;split at h
 ·omega
 split at h
 ·omega
 ·exact Prod.ext zZ (UY.1 h)
theorem aEC:∀{a b:aM},cmpL a b=0→a=b
 | [],[],_=>rfl
 | [],_::_,h=>by simp [cmpL] at h
 | _::_,[],h=>by simp [cmpL] at h
 | p::a,q::b,h=>by
  rw [aFF] at h;by_cases h1:AY p q=0
  ·rw [if_neg zZ] at h;rw [aTS h1,aEC h]
  ·rw [if_pos h1] at h;exact absurd h h1
theorem aVZ {a b:aV} (h:kE a b=0):a=b:=by
 obtain ⟨l,k⟩:=a;obtain ⟨m,j⟩:=b;unfold kE at h;simp only at h;by_cases h1:cmpL l m=0
 ·rw [if_neg zZ] at h;rw [aEC h1,UY.1 h]
 ·rw [if_pos h1] at h;exact absurd h h1
theorem aVR (h5:kind=5∨kind=6) (h:nS kind X Y=true) (hy:soN vals Y=decide (kind=5)):X.kind=2∧Y.kind=2∧soN vals X=decide (kind=5):=by
 unfold nS at h;split at h
 ·exact wZ
 rename_i hn;have hx2:X.kind=2:=Decidable.not_not.1 fun e=>hn (.inl e);have hy2:Y.kind=2:=Decidable.not_not.1 fun e=>hn (.inr (.inl e));have ha:kH X.t.parts Y.t.parts false=true:=by
  cases e:kH X.t.parts Y.t.parts false
  ·exact absurd (.inr (.inr e)) hn
  ·rfl
 have hp:=aIK ha;have hd:fD (gM vals) X.t.parts=fD (gM vals) Y.t.parts:=by rw [hp,KY,if_neg zY,Int.one_mul]
 refine ⟨hx2,hy2,?_⟩;unfold soN soA isR bZ at hy⊢;simp only at hy⊢;rw [if_pos hy2] at hy;rw [if_pos hx2,hd];simp only [Bool.or_eq_true,decide_eq_true_eq] at h;rcases h5 with rfl|rfl
 ·rw [decide_eq_true rfl,decide_eq_true_eq] at hy⊢;rcases h with h|h
  ·omega
  ·omega
 ·rw [show decide ((6:Int)=5)=false from rfl,decide_eq_false_iff_not] at hy⊢;rcases h with h|h
  ·omega
  ·omega
theorem aZC (h5:kind=5∨kind=6) (h:AU kind X Y=true) (hd:(X.kind=3∨X.kind=4)→0<X.d):X.kind≤4∧Y.kind≤4∧¬(soN vals X=decide (kind=5)∧soN vals Y=decide (kind=5)):=by
 unfold AU at h;split at h
 ·rename_i h22;split at h
  ·exact wZ
  rename_i hn;have ha:kH X.t.parts Y.t.parts true=true:=by
   cases e:kH X.t.parts Y.t.parts true
   ·exact absurd e hn
   ·rfl
  have hp:=aIK ha;have hdd:fD (gM vals) X.t.parts=-1*fD (gM vals) Y.t.parts:=by rw [hp,KY,if_pos rfl]
  refine ⟨zZ,zZ,?_⟩;unfold soN soA isR bZ;simp only;rw [if_pos h22.1,if_pos h22.2,hdd];simp only [Bool.or_eq_true,decide_eq_true_eq] at h;rintro ⟨q1,q2⟩;rcases h5 with rfl|rfl
  ·rw [decide_eq_true rfl,decide_eq_true_eq] at q1 q2;omega
  ·rw [show decide ((6:Int)=5)=false from rfl,decide_eq_false_iff_not] at q1 q2;omega
 split at h
 ·rename_i h34;simp only [Bool.and_eq_true,decide_eq_true_eq] at h;have ht:=aVZ h.2;have hd0:=hd zZ;refine ⟨zZ,zZ,?_⟩;obtain ⟨b,hb⟩:∃b,b=((bZ (gM vals) X.t).fmod X.d==0):=⟨_,rfl⟩;have key:∀Z:aS,Z.kind=3∨Z.kind=4→Z.d=X.d→Z.t=X.t→soN vals Z=(b==decide (Z.kind=3)):=fun Z hZ hd ht=>by
   unfold soN soA isR;simp only;rw [if_neg zZ,if_pos hZ,hd,ht,←hb]
  rw [key X zZ rfl rfl,key Y zZ h.1.symm ht.symm];rcases h34 with ⟨e1,e2⟩|⟨e1,e2⟩
  ·rw [e1,e2];cases b<;>cases decide (kind=5)<;>simp
  ·rw [e1,e2];cases b<;>cases decide (kind=5)<;>simp
 ·exact wZ
theorem aKC (f:Int→Int):∀l:List Int,∃m,∀x∈l,m≤f x
 | []=>⟨0,fun _ h=>wZ⟩
 | x::l=>by
  obtain ⟨m,hm⟩:=aKC f l;refine ⟨min m (f x),fun y hy=>?_⟩;rcases mZ1.1 hy with rfl|hy
  ·omega
  ·have:=hm y hy;omega
def oC (vals:aM) (A:aC) (kind:Int) (l:List Int):Prop:=∀x∈l,Tr vals A x (decide (kind=5))
def KnL (vals:aM) (A:aC) (l:List Int):Prop:=∀x∈l,(0≤x∧x<(A.nodes.length:Int))∧Kn vals A x
theorem KnL.so {A:aC} (h:bE V nodes limbs A sp) (hl:KnL vals A l) (hx:x∈l) (h4:(ndA A x).kind≤4) (b:Bool):Tr vals A x b↔soN vals (ndA A x)=b:=by
 have h1:=(QC h (hl x hx).1 h4).2 (hl x hx).2;exact⟨fun q=>Tr.same h1 q,fun q=>q ▸ h1⟩
theorem aYV {A:aC} (h:bE V nodes limbs A sp) (h5:kind=5∨kind=6) (hl:KnL vals A l):oC vals A kind (gL A kind l)↔oC vals A kind l:=by
 constructor;rotate_left
 ·exact pB
 intro q;obtain ⟨f,hf⟩:∃f:Int→Int,f=fun x=>if kind=5 then (ndA A x).t.k else -(ndA A x).t.k:=⟨_,rfl⟩
 obtain ⟨m,hm⟩:=aKC f l;have key:∀(n:Nat) (x:Int),x∈l→(f x-m).toNat≤n→Tr vals A x (decide (kind=5)):=by
  intro n;induction n with
  | zero=>
   intro x hx hn;cases hw:AO A kind l x
   ·exact q x (kZ3.2 ⟨hx,by rw [hw];rfl⟩)
   ·exfalso;unfold AO at hw;obtain ⟨y,hy,hxy⟩:=eZ3.1 hw;have h1:=hm y hy;have h2:=hm x hx;unfold nS at hxy;split at hxy
    ·cases hxy
    simp only [Bool.or_eq_true,decide_eq_true_eq] at hxy;rw [hf] at h1 h2 hn;simp only at h1 h2 hn;rcases hxy with ⟨e,hxy⟩|⟨e,hxy⟩
    ·rw [if_pos e] at h1 h2 hn;omega
    ·rw [if_neg zZ] at h1 h2 hn;omega
  | succ n ih=>
   intro x hx hn;cases hw:AO A kind l x
   ·exact q x (kZ3.2 ⟨hx,by rw [hw];rfl⟩)
   ·unfold AO at hw;obtain ⟨y,hy,hxy⟩:=eZ3.1 hw;have hlt:f y<f x:=by
     have hxy':=hxy;unfold nS at hxy';split at hxy'
     ·cases hxy'
     simp only [Bool.or_eq_true,decide_eq_true_eq] at hxy';rw [hf];simp only;rcases hxy' with ⟨e,hxy'⟩|⟨e,hxy'⟩
     ·rw [if_pos e,if_pos e];exact hxy'
     ·rw [if_neg zZ,if_neg zZ];omega
    have hty:=ih y hy (by have:=hm y hy;omega);have h2:(ndA A y).kind=2:=by
     have hxy':=hxy;unfold nS at hxy';split at hxy'
     ·cases hxy'
     rename_i hn';exact Decidable.not_not.1 fun e=>hn' (.inr (.inl e))
    obtain ⟨k1,-,k3⟩:=aVR h5 hxy ((hl.so h hy zZ _).1 hty);exact (hl.so h hx zZ _).2 k3
 exact fun x hx=>key _ x hx (bZ2 _)
theorem aUP {A:aC} (h:bE V nodes limbs A sp) (h5:kind=5∨kind=6) (hl:KnL vals A l) (hn:n≤l.length) (hc:jU A kind l n=true):¬oC vals A kind l:=fun q=>by
 unfold jU at hc;obtain ⟨j,hj,hc⟩:=eZ3.1 hc;obtain ⟨y,hy,hc⟩:=eZ3.1 hc;have hx:l.getD j 0∈l:=cK 0 (by have:=List.mem_range.1 hj;omega);have hy':y∈l:=cZ3 hy;have hd:(ndA A (l.getD j 0)).kind=3∨(ndA A (l.getD j 0)).kind=4→0<(ndA A (l.getD j 0)).d:=fun h3=>(h.LX (hl _ hx).1 zZ).2.2 h3;obtain ⟨k1,k2,k3⟩:=aZC (vals:=vals) h5 hc hd;exact k3 ⟨(hl.so h hx k1 _).1 (q _ hx),(hl.so h hy' k2 _).1 (q _ hy')⟩
theorem aYQ {A:aC} (h:bE V nodes limbs A sp) (h5:kind=5∨kind=6) (hl:KnL vals A l):oC vals A kind (AX A kind l)↔oC vals A kind l:=by
 constructor;rotate_left
 ·exact pB
 intro q;have key:∀(n:Nat) (x:Int),x∈l→x.toNat≤n→Tr vals A x (decide (kind=5)):=by
  intro n;induction n with
  | zero=>
   intro x hx hn;cases hg:CW A kind l x
   ·exact q x (kZ3.2 ⟨hx,by simp [hg]⟩)
   ·exfalso;unfold CW at hg;simp only [Bool.and_eq_true,eZ3,decide_eq_true_eq] at hg;obtain ⟨-,k,hk,-⟩:=hg;have:=h.below.kid (hl x hx).1.1 (hl x hx).1.2 hk;omega
  | succ n ih=>
   intro x hx hn;cases hg:CW A kind l x
   ·exact q x (kZ3.2 ⟨hx,by simp [hg]⟩)
   ·unfold CW at hg;simp only [Bool.and_eq_true,eZ3,decide_eq_true_eq] at hg;obtain ⟨ho,k,hk,hkl⟩:=hg;have hb:=h.below.kid (hl x hx).1.1 (hl x hx).1.2 hk;have htk:=ih k hkl zZ;have hc:decide ((ndA A x).kind=5)=!decide (kind=5):=by
     rw [ho];unfold DY;rcases h5 with rfl|rfl<;>rfl
    have hx5:(ndA A x).kind=5∨(ndA A x).kind=6:=by
     rw [ho];unfold DY;split
     ·exact .inl rfl
     ·exact .inr rfl
    have hkk:=QE h.below (hl x hx).1 hx5 (hl x hx).2;have ht:=(QJ h.below (hl x hx).1 hx5 hkk).2;rw [hc] at ht;refine (hl x hx).2.or _ fun hn=>?_;have:=Tr.same htk (ht.1 hn k hk);cases hb2:decide (kind=5)<;>rw [hb2] at this<;>cases this
 exact fun x hx=>key _ x hx (bZ2 _)
theorem aXP {A:aC} (h:bE V nodes limbs A sp) (h5:kind=5∨kind=6) (hl:KnL vals A ids):KnL vals A (jV A kind ids)∧(oC vals A kind (jV A kind ids)↔oC vals A kind ids):=by
 have hm:∀y,y∈jV A kind ids↔∃x∈ids,y∈kL A.nodes kind x:=fun y=>by
  unfold jV iB;rw [cL,fZ3]
 have hf:=fun x hx=>aGQ (vals:=vals) h.below h5 A.nodes.length x (hl x hx).1 (hl x hx).2;refine ⟨fun y hy=>?_,fun q x hx=>(hf x hx).2.2 fun y hy=>q y ((hm y).2 ⟨x,hx,hy⟩),fun q y hy=>?_⟩
 ·obtain ⟨x,hx,hxy⟩:=(hm y).1 hy;have:=KJ h.below (hl x hx).1.1 (hl x hx).1.2 hxy;have:=(hl x hx).1;exact⟨zZ,(hf x hx).1 y hxy⟩
 ·obtain ⟨x,hx,hxy⟩:=(hm y).1 hy;exact (hf x hx).2.1 (q x hx) y hxy
theorem aXQ {A:aC} (h:bE V nodes limbs A sp) (h5:kind=5∨kind=6):oC vals A kind (fU A kind ids)↔oC vals A kind (jV A kind ids):=by
 constructor;rotate_left
 ·exact pB
 intro q x hx;by_cases e:x=EW kind
 ·have:=PN vals h (x:=x) (by rw [e];unfold EW;split<;>simp);rw [show decide (kind=5)=decide (x=1) by rw [e];unfold EW;rcases h5 with rfl|rfl<;>rfl];exact this
 ·exact q x (kZ3.2 ⟨hx,rJ⟩)
theorem aYB {A:aC} (h:bE V nodes limbs A sp) (h5:kind=5∨kind=6):Kn vals A (gP kind)∧¬Tr vals A (gP kind) (decide (kind=5)):=by
 have h1:=PN vals h (x:=gP kind) (by unfold gP;split<;>simp);refine ⟨h1.kn,fun q=>?_⟩;have:=Tr.same h1 q;unfold gP at this;rcases h5 with rfl|rfl<;>cases this
def aKH (vals:aM) (A:aC) (kind:Int) (ids:List Int) (r:(Int × Int) × aC × (Int × Int)):Prop:=r.1.2=0→(0≤r.1.1∧r.1.1<(r.2.1.nodes.length:Int))∧Kn vals r.2.1 r.1.1∧(Tr vals r.2.1 r.1.1 (decide (kind=5))↔oC vals A kind ids)
theorem aSR {ov:Int} {A:aC} (h0:0≤limbs) (h:bE V nodes limbs A sp) (h5:kind=5∨kind=6) (hl:KnL vals A ks):aKH vals A kind ks (dW A nodes limbs sp ov kind ks):=by
 intro he;have hc:=TT (ov:=ov) (kind:=kind) (ks:=ks) h0 h;have ha:ks.all (fE A)=true:=kZ2.2 fun k hk=>dH.2 (hl k hk).1;have h2:=h.inv.once.two;rcases Nat.lt_trichotomy (cM ks).length 1 with hn|hn|hn
 ·rw [EJ h5 ha zZ];have hks:ks=[]:=by
   cases ks with
   | nil=>rfl
   | cons k l=>
    have h3:k∈cM (k::l):=cL.2 (kZ1 ..);have:=List.length_pos_of_mem h3;omega
  have h1:=PN vals h (x:=if kind=5 then 1 else 0) (by split<;>simp);refine ⟨by simp only;split<;>omega,h1.kn,?_⟩;rw [hks];refine ⟨fun _ x hx=>(by cases hx),fun _=>?_⟩;rcases h5 with rfl|rfl
  ·exact h1
  ·exact h1
 ·rw [EM h5 ha hn];obtain ⟨y,hy⟩:∃y,cM ks=[y]:=List.length_eq_one_iff.1 hn;have hm:∀x,x∈ks↔x=y:=fun x=>by rw [←cL,hy,dZ1]
  rw [hy];have:=hl y ((hm y).2 rfl);refine ⟨this.1,this.2,fun q x hx=>?_,fun q=>q y ((hm y).2 rfl)⟩;rw [(hm x).1 hx];exact q
 ·rw [EH h5 ha hn] at he hc⊢;obtain ⟨q1,q2,q3⟩:=DJ h.inv ⟨yT,yT,fun h4=>xL,fun _=>⟨rfl,rfl⟩,fun _=>rfl⟩ he;obtain ⟨A',hA'⟩:∃A',A'=(cU A nodes limbs sp ov ⟨kind,0,bK,0,cM ks⟩ []).2.1:=⟨_,rfl⟩;obtain ⟨r,hr⟩:∃r,r=(cU A nodes limbs sp ov ⟨kind,0,bK,0,cM ks⟩ []).1.1:=⟨_,rfl⟩;have hB:=hc.ok.below;have hx:=hc.ext;rw [←hA'] at q2 q3 hB hx⊢;rw [←hr] at q1 q2 q3⊢;have q4:ndA A' r=⟨kind,0,bK,0,cM ks⟩:=q3;have hk:∀k∈cM ks,Kn vals A' k:=fun k hk=>by
   have:=hl k (cL.1 hk);exact (Kn.ext hx h.below this.1).2 this.2
  have h3:=QJ (vals:=vals) hB ⟨q1,q2⟩ (by rw [q4];exact h5) (by rw [q4];exact hk);rw [q4] at h3;refine ⟨⟨q1,q2⟩,h3.1,h3.2.trans ⟨fun q x hxm=>?_,fun q k hkm=>?_⟩⟩
  ·exact (Tr.ext hx h.below (hl x hxm).1 _).1 (q x (cL.2 hxm))
  ·have hkk:=cL.1 hkm;exact (Tr.ext hx h.below (hl k hkk).1 _).2 (q k hkk)
theorem aQC {ov:Int} {A:aC} (h0:0≤limbs) (h:bE V nodes limbs A sp) (h5:kind=5∨kind=6) (hl:KnL vals A ids):aKH vals A kind ids (cR A nodes limbs sp ov kind ids):=by
 intro he;have ha:ids.all (fE A)=true:=kZ2.2 fun k hk=>dH.2 (hl k hk).1;have h2:=h.inv.once.two;obtain ⟨ho,hoa⟩:=aXP h h5 hl;have hra:=aXQ (vals:=vals) (ids:=ids) h h5;have hall:=aYB (vals:=vals) h h5;have hlr:KnL vals A (fU A kind ids):=fun x hx=>ho x (kZ3.1 hx).1;have hka:=aYV h h5 hlr;have hlk:KnL vals A (gL A kind (fU A kind ids)):=fun x hx=>hlr x (kZ3.1 hx).1;have hrg:0≤gP kind∧gP kind<(A.nodes.length:Int):=by unfold gP;split<;>omega
 by_cases hm:gP kind∈jV A kind ids
 ·rw [KC ha hm];exact⟨hrg,hall.1,fun q=>absurd q hall.2,fun q=>absurd (hoa.2 q _ hm) hall.2⟩
 cases hcl:jU A kind (gL A kind (fU A kind ids)) (gL A kind (fU A kind ids)).length
 ·rw [JW ha hm hcl] at he⊢;have hj:=aSR (nodes:=nodes) (sp:=sp) (ov:=ov) h0 h h5 (ks:=AX A kind (gL A kind (fU A kind ids))) (fun x hx=>hlk x (kZ3.1 hx).1) he;refine ⟨hj.1,hj.2.1,hj.2.2.trans ?_⟩;rw [aYQ h h5 hlk,hka,hra,hoa]
 ·rw [JN ha hm hcl];refine ⟨hrg,hall.1,fun q=>absurd q hall.2,fun q=>?_⟩;rw [←hoa,←hra,←hka] at q;exact absurd q (aUP h h5 hlk (bZ2 _) hcl)
end
def QN (vals:aM) (f:Bool→Bool) (A:aC) (x y:Int):Prop:=(0≤x∧x<(A.nodes.length:Int))∧(0≤y∧y<(A.nodes.length:Int))∧∀b,Tr vals A x b→Tr vals A y (f b)
theorem QN.mono {vals:aM} {f:Bool→Bool} {A A':aC} {x y:Int} (h:QN vals f A x y) (hB:Below A.nodes) (he:Ext A A'):QN vals f A' x y:=by
 obtain ⟨h1,h2,h3⟩:=h;have:=he.len;exact⟨⟨h1.1,zZ⟩,⟨h2.1,zZ⟩,fun b hb=>(Tr.ext he hB h2 _).2 (h3 b ((Tr.ext he hB h1 _).1 hb))⟩
theorem aHF {vals:aM} {A:aC} {x:Int} {b:Bool} (h7:(ndA A x).kind=7∨(ndA A x).kind=8):¬Tr vals A x b:=fun h=>by
 have e:iT vals A.nodes (x.toNat+1) x=if (ndA A x).kind=7∨(ndA A x).kind=8 then none else if (ndA A x).kind=5∨(ndA A x).kind=6 then kD (iT vals A.nodes x.toNat) (ndA A x).kind (ndA A x).kids (decide ((ndA A x).kind=5)) else if (iH vals ⟨(ndA A x).kind,(ndA A x).d,(ndA A x).t⟩).2=0 then some (iH vals ⟨(ndA A x).kind,(ndA A x).d,(ndA A x).t⟩).1 else none:=rfl
 rw [if_pos h7] at e;unfold Tr at h;rw [e] at h;cases h
theorem aRW {V:List Int} {nodes limbs sp ov:Int} {vals:aM} {A:aC} {X:aY} (h:bE V nodes limbs A sp) (hX:jM V X) (hd:X.kind=3∨X.kind=4→0<X.d) (hk:dA vals X.t.parts) (he:(cX A nodes limbs sp ov X).1.2=0):Tr vals (cX A nodes limbs sp ov X).2.1 (cX A nodes limbs sp ov X).1.1 (soA (gM vals) X):=by
 have hc:=GI (ov:=ov) hX h;have hb:=nJ (k:=X.kind) hX.1 hX.2 zY;unfold cX at he hc⊢;obtain ⟨k,d,⟨l,z⟩⟩:=X;simp only at hb hd he hc⊢;have hs:=fun (h0:(bJ ⟨k,d,⟨l,z⟩⟩).1=0)=>aHO (vals:=vals) (X:=⟨k,d,⟨l,z⟩⟩) h0 hd hk;obtain ⟨⟨e,B⟩,hr⟩:∃r,r=bJ ⟨k,d,⟨l,z⟩⟩:=⟨_,rfl⟩;rw [←hr] at hb he hc hs⊢;simp only at hb hs;by_cases h0:e=0
 ·subst h0;obtain ⟨hs1,hs2⟩:=hs rfl;rw [←hs2];by_cases hkd:B.kind≤1
  ·rw [BD hkd];have hB0:=hb.kind;have:=PN vals h (x:=B.kind) zZ;have e1:soA (gM vals) B=decide (B.kind=1):=by
    unfold soA isR;rw [if_neg zZ,if_neg zZ]
   rw [e1];exact this
  ·rw [AA hkd] at he hc⊢;have hf:=(JJ (A:=A) hb zZ).form;obtain ⟨q1,q2,q3⟩:=DJ h.inv hf he;have q4:ndA (cU A nodes limbs sp ov (gH B) ((jD B).map lH)).2.1 (cU A nodes limbs sp ov (gH B) ((jD B).map lH)).1.1=gH B:=q3;have h4:(gH B).kind≤4:=by have:=hb.kind;simp only [gH];omega
   have ht:=QC (vals:=vals) hc.ok ⟨q1,q2⟩ (by rw [q4];exact h4);rw [q4] at ht;exact ht.2 (ht.1.2 hs1)
 ·exact sO
section
variable {ks V:List Int} {x kind nodes limbs sp:Int}
def kP (L:List aS):Nat→Int→Nat
 | 0,_=>1
 | f+1,x=>if (L.getD x.toNat aP).kind=5∨(L.getD x.toNat aP).kind=6 then ((L.getD x.toNat aP).kids.map fun k=>1+kP L f k).sum else 1
def dI (A:aC) (x:Int):Nat:=kP A.nodes (x.toNat+1) x
theorem KX {f g:Int→Nat}:∀{l:List Int},(∀k∈l,f k=g k)→l.map f=l.map g
 | [],_=>rfl
 | k::l,h=>by rw [dZ2,dZ2,h k (kZ1 ..),KX fun j hj=>h j (lZ1 _ hj)]
theorem aCY {L:List aS} (hB:Below L):∀(f g:Nat) (x:Int),0≤x→x<(L.length:Int)→x.toNat<f→x.toNat<g→kP L f x=kP L g x
 | 0,_,_,_,_,h,_=>zZ
 | _,0,_,_,_,_,h=>zZ
 | f+1,g+1,x,h0,h1,hf,hg=>by
  simp only [kP];split
  ·refine congrArg List.sum (KX fun k hk=>?_);have:=hB.kid h0 h1 hk;rw [aCY hB f g k this.1 zZ zZ zZ]
  ·rfl
theorem aEO {L t:List aS} (hB:Below L):∀(f:Nat) (x:Int),0≤x→x<(L.length:Int)→kP (L++t) f x=kP L f x
 | 0,_,_,_=>rfl
 | f+1,x,h0,h1=>by
  have e:(L++t).getD x.toNat aP=L.getD x.toNat aP:=FW L t aP zZ;simp only [kP,e];split
  ·refine congrArg List.sum (KX fun k hk=>?_);have:=hB.kid h0 h1 hk;rw [aEO hB f k this.1 zZ]
  ·rfl
theorem oK {A A':aC} (he:Ext A A') (hB:Below A.nodes) (h:0≤x∧x<(A.nodes.length:Int)):dI A' x=dI A x:=by
 obtain ⟨t,e⟩:=he;unfold dI;rw [e,aEO hB _ _ h.1 h.2]
theorem GR {A:aC} (hB:Below A.nodes) (hx:0≤x∧x<(A.nodes.length:Int)) (h5:(ndA A x).kind=5∨(ndA A x).kind=6):dI A x=((ndA A x).kids.map fun k=>1+dI A k).sum:=by
 have e:dI A x=((ndA A x).kids.map fun k=>1+kP A.nodes x.toNat k).sum:=by
  unfold dI;simp only [kP];exact if_pos h5
 rw [e];refine congrArg List.sum (KX fun k hk=>?_);have:=hB.kid hx.1 hx.2 hk;unfold dI;rw [aCY hB _ (k.toNat+1) k this.1 zZ zZ zZ]
theorem KI {A:aC} (h5:¬((ndA A x).kind=5∨(ndA A x).kind=6)):dI A x=1:=by
 unfold dI;simp only [kP];exact if_neg h5
theorem IW {f:Int→Nat}:∀{l:List Int} {k:Int},k∈l→f k≤(l.map f).sum
 | [],_,h=>wZ
 | x::l,k,h=>by
  rw [dZ2,dZ3];rcases mZ1.1 h with rfl|h
  ·omega
  ·have:=IW (f:=f) h;omega
theorem WO {f g:Int→Nat}:∀{l:List Int},(∀k∈l,f k≤g k)→(l.map f).sum≤(l.map g).sum
 | [],_=>bZ2 _
 | x::l,h=>by
  rw [dZ2,dZ2,dZ3,dZ3];have h1:=h x (kZ1 ..);have h2:=WO (f:=f) (g:=g) (l:=l) fun k hk=>h k (lZ1 _ hk);omega
theorem aJK {f:Int→Nat}:∀{K L:List Int},K.Nodup→(∀y∈K,y∈L)→(K.map f).sum≤(L.map f).sum
 | [],_,_,_=>aZ2 _
 | y::K,L,hn,h=>by
  obtain ⟨l1,l2,rfl⟩:=List.append_of_mem (h y (kZ1 ..));have hn':=List.nodup_cons.1 hn;have ih:=aJK (f:=f) (K:=K) (L:=l1++l2) hn'.2 fun z hz=>by
   have h1:=h z (lZ1 _ hz);rcases jZ1.1 h1 with h1|h1
   ·exact jZ1.2 (.inl h1)
   ·rcases mZ1.1 h1 with rfl|h1
    ·exact absurd hz hn'.1
    ·exact jZ1.2 (.inr h1)
  simp only [cZ2,List.sum_append,dZ2,dZ3] at ih⊢;omega
theorem WM {f:Int→Nat} {F:Int→List Int}:∀l:List Int,((l.flatMap F).map f).sum=(l.map fun k=>((F k).map f).sum).sum
 | []=>rfl
 | x::l=>by
  rw [eZ2,cZ2,List.sum_append,dZ2,dZ3,WM l]
theorem bE.XL {A:aC} (h:bE V nodes limbs A sp) (hx:0≤x∧x<(A.nodes.length:Int)) (h5:(ndA A x).kind=5∨(ndA A x).kind=6):2≤(ndA A x).kids.length:=by
 rcases Nat.lt_or_ge x.toNat 2 with h2|h2
 ·have e:ndA A x=⟨(x.toNat:Int),0,bK,0,[]⟩:=h.low h2;rw [e] at h5;simp only at h5;omega
 ·have hK:kC V limbs (ndA A x):=h.all x.toNat h2 zZ;exact (hK.again.join h5).1
theorem aGS {A:aC} (h:bE V nodes limbs A sp) (hx:0≤x∧x<(A.nodes.length:Int)):1≤dI A x:=by
 by_cases h5:(ndA A x).kind=5∨(ndA A x).kind=6
 ·rw [GR h.below hx h5];have h2:=h.XL hx h5;have:=IW (f:=fun k=>1+dI A k) (cK 0 (show 0<(ndA A x).kids.length by omega));omega
 ·rw [KI h5];exact bZ2 _
theorem aGB {A:aC} (hB:Below A.nodes) {kind:Int} (h5:kind=5∨kind=6):∀(f:Nat) (x:Int),0≤x∧x<(A.nodes.length:Int)→((gQ A.nodes kind f x).map fun y=>1+dI A y).sum≤1+dI A x
 | 0,x,_=>by rw [gQ];simp
 | f+1,x,hx=>by
  unfold gQ;split
  ·rename_i he;have he':(ndA A x).kind=kind:=he;rw [WM,GR hB hx (by rw [he'];exact h5)];have:=WO (f:=fun k=>((gQ A.nodes kind f k).map fun y=>1+dI A y).sum) (g:=fun k=>1+dI A k) (l:=(ndA A x).kids) fun k hk=>by
    have:=hB.kid hx.1 hx.2 hk;exact aGB hB h5 f k ⟨this.1,zZ⟩
   exact bZ1 this (Nat.le_add_left _ _)
  ·simp
theorem ZP {f:Int→Nat}:∀l:List Int,l.length≤(l.map fun y=>1+f y).sum
 | []=>bZ2 _
 | x::l=>by
  rw [dZ2,dZ3,gZ1];have:=ZP (f:=f) l;omega
theorem aCE {A:aC} (hB:Below A.nodes) (h5:kind=5∨kind=6) (hk:∀k∈ks,0≤k∧k<(A.nodes.length:Int)):((iB A.nodes kind ks).map fun y=>1+dI A y).sum≤(ks.map fun k=>1+dI A k).sum:=by
 unfold iB;rw [WM];exact WO fun k hkm=>aGB hB h5 _ k (hk k hkm)
theorem aPD {A:aC} (hB:Below A.nodes) (h5:kind=5∨kind=6) (hk:∀k∈ks,0≤k∧k<(A.nodes.length:Int)):(iB A.nodes kind ks).length≤(ks.map fun k=>1+dI A k).sum:=bZ1 (ZP (f:=dI A) _) (aCE hB h5 hk)
theorem aTD {ov:Int} {A:aC} (h0:0≤limbs) (h:bE V nodes limbs A sp) (h5:kind=5∨kind=6) (hs:1≤(ks.map fun k=>1+dI A k).sum) (he:(cR A nodes limbs sp ov kind ks).1.2=0):dI (cR A nodes limbs sp ov kind ks).2.1 (cR A nodes limbs sp ov kind ks).1.1≤(ks.map fun k=>1+dI A k).sum:=by
 have hc:=aAM (ov:=ov) (kind:=kind) (ks:=ks) h0 h;have hcon:∀y:Int,y=0∨y=1→dI A y≤(ks.map fun k=>1+dI A k).sum:=fun y hy=>by
  have hl:=h.low (i:=y.toNat) zZ;rw [KI (by rw [show ndA A y=A.nodes.getD y.toNat aP from rfl,hl];simp only;omega)];exact hs
 have hall:gP kind=0∨gP kind=1:=by unfold gP;split<;>simp
 cases ha:ks.all (fE A)
 ·rw [VL ha] at he;exact absurd he zW
 have hks:∀k∈ks,0≤k∧k<(A.nodes.length:Int):=fun k hk=>dH.1 (kZ2.1 ha k hk);by_cases hm:gP kind∈jV A kind ks
 ·rw [KC ha hm];exact hcon _ hall
 cases hcl:jU A kind (gL A kind (fU A kind ks)) (gL A kind (fU A kind ks)).length
 ·rw [JW ha hm hcl] at he hc⊢;have hL:=aPE h.below hks hm hcl;obtain ⟨K,hK⟩:∃K,AX A kind (gL A kind (fU A kind ks))=K:=⟨_,rfl⟩;have hKm:∀y∈K,y∈iB A.nodes kind ks:=fun y hy=>by
   rw [←hK] at hy;obtain ⟨k,hk,q⟩:=KO hy;exact fZ3.2 ⟨k,hk,q⟩
  rw [hK] at he hc hL⊢;have hsum:((cM K).map fun y=>1+dI A y).sum≤(ks.map fun k=>1+dI A k).sum:=bZ1 (aJK (KF (oI K)) fun y hy=>hKm y (cL.1 hy)) (aCE h.below h5 hks);have hKa:K.all (fE A)=true:=kZ2.2 fun k hk=>dH.2 (hL.range k hk);rcases Nat.lt_trichotomy (cM K).length 1 with hl|hl|hl
  ·rw [EJ h5 hKa zZ];exact hcon _ (by simp only;split<;>simp)
  ·rw [EM h5 hKa hl];have:=IW (f:=fun y=>1+dI A y) (cK 0 (show 0<(cM K).length by omega));simp only at this⊢;omega
  ·have e:=EH (nodes:=nodes) (limbs:=limbs) (sp:=sp) (ov:=ov) h5 hKa hl;rw [e] at he hc⊢;obtain ⟨q1,q2,q3⟩:=DJ h.inv (N:=⟨kind,0,bK,0,cM K⟩) ⟨yT,yT,fun h4=>xL,fun _=>⟨rfl,rfl⟩,fun _=>rfl⟩ he;have q4:ndA (cU A nodes limbs sp ov ⟨kind,0,bK,0,cM K⟩ []).2.1 (cU A nodes limbs sp ov ⟨kind,0,bK,0,cM K⟩ []).1.1=⟨kind,0,bK,0,cM K⟩:=q3;rw [GR hc.ok.below ⟨q1,q2⟩ (by rw [q4];exact h5),q4];refine bZ1 (Nat.le_of_eq (congrArg List.sum (KX fun k hk=>?_))) hsum;rw [oK hc.ext h.below (hL.range k (cL.1 hk))]
 ·rw [JN ha hm hcl];exact hcon _ hall
end
theorem bE.aZP {V:List Int} {nodes limbs sp:Int} {A:aC} (h:bE V nodes limbs A sp) (hl:limbs≤8) (hV:V.length≤262144) {i:Nat} (hi:i<A.nodes.length):aJS (A.nodes.getD i aP):=by
 have hs:=h.small hl hV (x:=(i:Int)) zZ zZ;have hk:=h.kinds (x:=(i:Int)) zZ zZ;have hf:=h.LX (x:=(i:Int)) zZ;have e:ndA A (i:Int)=A.nodes.getD i aP:=rfl;rw [e] at hs hk hf;have hw:=hs.1.wee zY zY;have hn:=eE hs.2.2;refine ⟨by rw [hn];exact hw,zZ,?_⟩;by_cases h4:(A.nodes.getD i aP).kind≤4
 ·obtain ⟨f1,f2,f3⟩:=hf h4;rw [f1];exact⟨hw,by rw [hn];exact hw,yT,f3⟩
 ·rw [DK yT yT yT yT yT];exact⟨PX,PX,wB,fun h3=>by simp only at h3;omega⟩
end Go.Proofs.Q
