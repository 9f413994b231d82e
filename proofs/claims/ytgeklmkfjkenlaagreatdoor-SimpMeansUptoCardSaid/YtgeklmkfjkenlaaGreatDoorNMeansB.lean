/- What terms and atoms are worth under values; their one forms are worth the same: plain laws. -/
import Derived.Test.YtgeklmkfjkenlaaGreatDoorNHoldsB
import Derived.Test.YtgeklmkfjkenlaaGreatDoorNSimpB
set_option linter.unusedSimpArgs false
set_option linter.unusedVariables false
namespace Go.Proofs.Q
open Go.RowKit
section
variable {vals l:aM} {T:aY} {d x y:Int} {p:Int × Int} {X:cI}
def dotP (f:Int→Int):aM→Int
 | []=>0
 | p::l=>p.2*f p.1+dotP f l
def sumV (C f:Int→Int):List Int→Int
 | []=>0
 | v::l=>C v*f v+sumV C f l
def cO (f:Int→Int) (T:aY):Int:=dotP f T.parts+T.k
theorem dotP_append (f:Int→Int) (b:aM):∀a:aM,dotP f (a++b)=dotP f a+dotP f b
 | []=>by simp [dotP]
 | p::a=>by simp only [fZ3,dotP,dotP_append f b a];omega
theorem dotP_mul (f:Int→Int) (x:Int):∀l:aM,dotP f (mulL x l)=x*dotP f l
 | []=>by simp [dotP,mulL]
 | p::l=>by
  have ih:=dotP_mul f x l;simp only [mulL,dZ2,dotP] at ih⊢;rw [ih,Int.mul_add,Int.mul_assoc]
theorem dotP_filterMap (C f:Int→Int):∀vs:List Int,dotP f (vs.filterMap fun v=>if C v=0 then none else some (v,C v))=sumV C f vs
 | []=>rfl
 | v::vs=>by
  have ih:=dotP_filterMap C f vs;simp only [List.filterMap_cons,sumV];by_cases h:C v=0
  ·rw [if_pos h,h];simp only;omega
  ·rw [if_neg h];simp only [dotP];omega
theorem sumV_add (A B f:Int→Int):∀vs:List Int,sumV (fun v=>A v+B v) f vs=sumV A f vs+sumV B f vs
 | []=>rfl
 | v::vs=>by
  have ih:=sumV_add A B f vs;simp only [sumV] at ih⊢;rw [ih,Int.add_mul];omega
theorem sumV_none {a c:Int} {f:Int→Int}:∀{vs:List Int},a ∉ vs→sumV (fun v=>if a=v then c else 0) f vs=0
 | [],_=>rfl
 | v::vs,h=>by
  have ih:=sumV_none (a:=a) (c:=c) (f:=f) (vs:=vs) fun hm=>h (lZ1 _ hm);simp only [sumV] at ih⊢;rw [ih,if_neg fun e=>h (by rw [e];exact kZ1 ..)];omega
theorem sumV_one {a c:Int} {f:Int→Int}:∀{vs:List Int},vs.Pairwise (·<·)→a∈vs→sumV (fun v=>if a=v then c else 0) f vs=c*f a
 | [],_,h=>by cases h
 | v::vs,hs,h=>by
  have hs':=List.pairwise_cons.1 hs;by_cases e:a=v
  ·subst e;have:=sumV_none (a:=a) (c:=c) (f:=f) (vs:=vs) fun hm=>by have:=hs'.1 a hm;omega
   simp only [sumV] at this⊢;rw [this];simp
  ·have ih:=sumV_one (c:=c) (f:=f) hs'.2 ((mZ1.1 h).resolve_left e);simp only [sumV] at ih⊢;rw [ih,if_neg e];omega
theorem sumV_zero (f:Int→Int):∀vs:List Int,sumV (bX []) f vs=0
 | []=>rfl
 | v::vs=>by
  have ih:=sumV_zero f vs;simp only [sumV,bX] at ih⊢;rw [ih];omega
theorem sumV_coef {f:Int→Int} {vs:List Int} (hs:vs.Pairwise (·<·)):∀{l:aM},(∀p∈l,p.1∈vs)→sumV (bX l) f vs=dotP f l
 | [],_=>sumV_zero f vs
 | p::l,h=>by
  have ih:=sumV_coef (f:=f) hs (l:=l) fun q hq=>h q (lZ1 _ hq);have e:bX (p::l)=fun v=>(if p.1=v then p.2 else 0)+bX l v:=rfl;rw [e,sumV_add,sumV_one hs (h p (kZ1 ..)),ih];rfl
theorem dotP_neat (f:Int→Int) (l:aM):dotP f (neatL l)=dotP f l:=by
 unfold neatL;rw [dotP_filterMap];exact sumV_coef (sorted_vars _).1 fun p hp=>((sorted_vars _).2 _).2 (iZ2.2 ⟨p,hp,rfl⟩)
theorem worthT_norm (f:Int→Int) (T:aY):cO f (bE T)=cO f T:=by
 unfold cO bE;rw [dotP_neat]
theorem worthT_sum (f:Int→Int) (x y:Int) (a b:aY):cO f (sumT x a y b)=x*cO f a+y*cO f b:=by
 unfold cO sumT;simp only;rw [dotP_neat,dotP_append,dotP_mul,dotP_mul,Int.mul_add,Int.mul_add];omega
theorem neatL_from (h:p∈neatL l):∃q∈l,q.1=p.1:=by
 have h1:=((neatL_form l).mem p).1 h;exact coefL_mem (by rw [←h1.1];exact h1.2)
def dR (vals l:aM):Prop:=∀p∈l,valueOf vals p.1≠none
def valF (vals:aM) (v:Int):Int:=(valueOf vals v).getD 0
theorem dR.neat (h:dR vals l):dR vals (neatL l):=fun p hp=>by
 obtain ⟨q,hq,e⟩:=neatL_from hp;rw [←e];exact h q hq
theorem dR.map (h:dR vals l) (c:Int→Int):dR vals (mapL c l):=fun p hp=>by
 obtain ⟨q,hq,rfl⟩:=mem_mapL.1 hp;exact h q hq
theorem evalP_some (vals:aM):∀(l:aM) (s x:Int),evalP vals l s=some x↔dR vals l∧x=s+dotP (valF vals) l
 | [],s,x=>by simp [evalP,dR,dotP,eq_comm]
 | p::l,s,x=>by
  simp only [evalP,dotP];cases hv:valueOf vals p.1 with
  | none=>
   simp only;constructor
   ·intro h;cases h
   ·rintro ⟨h,-⟩;exact absurd hv (h p (kZ1 ..))
  | some y=>
   simp only;rw [evalP_some vals l,show valF vals p.1=y by unfold valF;rw [hv];rfl];constructor
   ·rintro ⟨h1,h2⟩;refine ⟨fun q hq=>?_,by omega⟩;rcases mZ1.1 hq with rfl|hq
    ·rw [hv];simp
    ·exact h1 q hq
   ·rintro ⟨h1,h2⟩;exact⟨fun q hq=>h1 q (lZ1 _ hq),by omega⟩
theorem dotP_div {f:Int→Int} {g:Nat} (h0:0<g):∀{l:aM},(∀p∈l,(g:Int)∣p.2)→dotP f l=(g:Int)*dotP f (mapL (fun c=>c.fdiv (g:Int)) l)
 | [],_=>by simp [dotP,mapL]
 | p::l,h=>by
  have ih:=dotP_div (f:=f) h0 (l:=l) fun q hq=>h q (lZ1 _ hq);obtain ⟨t,ht⟩:=h p (kZ1 ..);simp only [mapL,dZ2,dotP] at ih⊢;rw [ih,ht,Int.mul_fdiv_cancel_left t (by omega),Int.mul_add,Int.mul_assoc]
theorem dotP_mod {f:Int→Int} {d:Int}:∀(l:aM),d∣dotP f (mapL (fun c=>c.fmod d) l)-dotP f l
 | []=>⟨0,by simp [dotP,mapL]⟩
 | p::l=>by
  obtain ⟨t,ht⟩:=dotP_mod (f:=f) (d:=d) l;have h1:=Int.mul_fdiv_add_fmod p.2 d;refine ⟨t-p.2.fdiv d*f p.1,?_⟩;simp only [mapL,dZ2,dotP] at ht⊢;have h2:p.2*f p.1=d*(p.2.fdiv d*f p.1)+p.2.fmod d*f p.1:=by rw [←Int.mul_assoc,←Int.add_mul,h1]
  rw [Int.mul_sub];omega
theorem fmod_sub_dvd (x d:Int):d∣x.fmod d-x:=⟨-(x.fdiv d),by have:=Int.mul_fdiv_add_fmod x d;rw [Int.mul_neg];omega⟩
theorem worthT_partT (f:Int→Int) (d:Int) (T:aY):d∣cO f (dG d T)-cO f T:=by
 unfold dG mappedV;rw [worthT_norm];unfold cO;simp only;have h1:=Int.dvd_add (dotP_mod (f:=f) (d:=d) T.parts) (fmod_sub_dvd T.k d);rw [show dotP f (mapL (fun c=>c.fmod d) T.parts)+T.k.fmod d-(dotP f T.parts+T.k)=dotP f (mapL (fun c=>c.fmod d) T.parts)-dotP f T.parts+(T.k.fmod d-T.k) by omega];exact h1
theorem dvd_same (h:d∣x-y):d∣x↔d∣y:=by
 constructor
 ·intro hx;have:=Int.dvd_sub hx h;rwa [show x-(x-y)=y by omega] at this
 ·intro hy;have:=Int.dvd_add h hy;rwa [show x-y+y=x by omega] at this
theorem fmod_beq (h0:0<d):(x.fmod d==0)=decide (d∣x):=by
 rw [Bool.eq_iff_iff,beq_iff_eq,decide_eq_true_iff,Int.fmod_eq_emod_of_nonneg _ (by omega)];exact⟨Int.dvd_of_emod_eq_zero,Int.emod_eq_zero_of_dvd⟩
def soA (f:Int→Int) (X:cI):Bool:=isR X (cO f X.t)
theorem soA_truth (f:Int→Int) (b:Bool):soA f (cV b)=b:=by cases b<;>rfl
theorem soA_less (f:Int→Int) (hT:Neat T.parts):soA f (lessV T)=decide (0<cO f T):=by
 unfold lessV;by_cases hn:T.parts=[]
 ·rw [if_pos hn,soA_truth];unfold cO;rw [hn];simp [dotP]
 rw [if_neg hn];obtain ⟨g,hg⟩:∃g,g=gcdL (cB T):=⟨_,rfl⟩;rw [←hg];obtain ⟨p0,hp0⟩:=List.exists_mem_of_ne_nil _ hn;have h0:0<g:=hg ▸ gcdL_pos ⟨p0.2,iZ2.2 ⟨p0,hp0,rfl⟩,hT.some p0 hp0⟩;have hdv:∀p∈T.parts,(g:Int)∣p.2:=fun p hp=>hg ▸ gcdL_dvd _ _ (iZ2.2 ⟨p,hp,rfl⟩);show isR ⟨2,0,_⟩ (cO f (mappedV T _ _))=_
 unfold isR mappedV;rw [if_pos rfl,worthT_norm];unfold cO;rw [dotP_div h0 hdv];simp only;obtain ⟨S,hS⟩:∃S,S=dotP f (mapL (fun c=>c.fdiv (g:Int)) T.parts):=⟨_,rfl⟩;rw [←hS];have h1:=Int.mul_fdiv_add_fmod (T.k-1) g;have h2:=Int.fmod_nonneg_of_pos (T.k-1) (show (0:Int)<g by omega);have h3:=Int.fmod_lt_of_pos (T.k-1) (show (0:Int)<g by omega);obtain ⟨q,hq⟩:∃q,q=(T.k-1).fdiv (g:Int):=⟨_,rfl⟩;refine decide_eq_decide.2 ?_;rw [←hq] at h1⊢;have h4:(g:Int)*(S+q)=g*S+g*q:=Int.mul_add _ _ _;refine ⟨fun h=>?_,fun h=>?_⟩
 ·have h5:=Int.mul_nonneg (show (0:Int)≤g by omega) (show 0≤S+q by omega);omega
 ·by_cases h6:0≤S+q
  ·omega
  ·have h5:=Int.mul_le_mul_of_nonneg_left (show S+q≤-1 by omega) (show (0:Int)≤g by omega);omega
theorem soA_div (f:Int→Int) (h0:0<d) (X:aY) (no:Bool):soA f ⟨if no then 4 else 3,d,X⟩=(decide (d∣cO f X) != no):=by
 have hb:=fmod_beq (x:=cO f X) h0;cases no
 ·show isR ⟨3,d,X⟩ (cO f X)=_
  unfold isR;simp only;rw [if_neg (by decide),if_pos (by decide),hb];simp
 ·show isR ⟨4,d,X⟩ (cO f X)=_
  unfold isR;simp only;rw [if_neg (by decide),if_pos (by decide),hb];simp
theorem soA_parted (f:Int→Int) {no:Bool} (h0:0<d) (hT:Neat T.parts):soA f (bY d T no)=(decide (d∣cO f T) != no):=by
 have hw:=worthT_partT f d T;have hP:decide (d∣cO f T)=decide (d∣cO f (dG d T)):=decide_eq_decide.2 (dvd_same hw).symm;rw [hP];clear hw hP;have hg:=partG_pos (T:=T) h0;have hPk:0≤(dG d T).k∧(dG d T).k<d:=⟨Int.fmod_nonneg_of_pos _ h0,Int.fmod_lt_of_pos _ h0⟩;obtain ⟨m,hm⟩:=partG_dvd d T;have hD:dO d T=m:=by unfold dO;rw (occs:=.pos [1]) [hm];exact Int.mul_fdiv_cancel_left m (by omega)
 have hdv:∀p∈(dG d T).parts,(partG d T:Int)∣p.2:=fun p hp=>gcdL_dvd _ _ (jZ1.2 (.inl (iZ2.2 ⟨p,hp,rfl⟩)));have hdot:=dotP_div (f:=f) hg hdv;unfold bY;by_cases h1:(dG d T).parts=[]
 ·rw [if_pos h1,soA_truth];congr 1;unfold cO;rw [h1];simp only [dotP];refine decide_eq_decide.2 ⟨fun h=>by rw [h];exact⟨0,by omega⟩,fun h=>?_⟩;have:=Int.emod_eq_zero_of_dvd h;rw [Int.emod_eq_of_lt (by omega) (by omega)] at this;omega
 rw [if_neg h1];by_cases h2:(dG d T).k.fmod (partG d T:Int)≠0
 ·rw [if_pos h2,soA_truth];rw [decide_eq_false fun h=>h2 ?_]
  ·simp
  have h3:=Int.dvd_trans (show (partG d T:Int)∣d from ⟨m,hm⟩) h;unfold cO at h3;rw [hdot] at h3;have h4:=Int.dvd_sub h3 (Int.dvd_mul_right (partG d T:Int) (dotP f (mapL (fun c=>c.fdiv (partG d T:Int)) (dG d T).parts)));rw [show ∀x y:Int,x+y-x=y from fun x y=>by omega] at h4;rw [Int.fmod_eq_emod_of_nonneg _ (by omega)];exact Int.emod_eq_zero_of_dvd h4
 rw [if_neg h2];have h2':=Decidable.not_not.1 h2;have hk:=Int.mul_fdiv_add_fmod (dG d T).k (partG d T);rw [h2'] at hk;have hC:cO f (dG d T)=(partG d T:Int)*cO f (cT d T):=by
  unfold cT mappedV;rw [worthT_norm];unfold cO;simp only;rw [hdot,Int.mul_add];omega
 have hdC:decide (d∣cO f (dG d T))=decide (dO d T∣cO f (cT d T)):=by
  rw [hC,hD];refine decide_eq_decide.2 ⟨fun h=>?_,fun h=>?_⟩
  ·rw (occs:=.pos [1]) [hm] at h;exact Int.dvd_of_mul_dvd_mul_left (by omega) h
  ·rw (occs:=.pos [1]) [hm];exact Int.mul_dvd_mul_left _ h
 rw [hdC];have hm0:=partD_pos (T:=T) h0;by_cases h3:dO d T=1
 ·rw [if_pos h3,soA_truth,h3,decide_eq_true (Int.one_dvd _)];cases no<;>rfl
 rw [if_neg h3];have hO:decide (dO d T∣cO f (partO d T))=decide (dO d T∣cO f (cT d T)):=by
  refine decide_eq_decide.2 ((dvd_same (worthT_partT f _ _)).trans ?_);rw [worthT_sum,show (-1:Int)*cO f (cT d T)+0*cO f bS=-cO f (cT d T) by omega];exact Int.dvd_neg
 rw [soA_div f hm0];by_cases hc:cmpT (partO d T) (cT d T)<0
 ·rw [if_pos hc,hO]
 ·rw [if_neg hc]
theorem known_mapped {c k:Int→Int} (h:dR vals T.parts):dR vals (mappedV T c k).parts:=dR.neat (h.map c)
theorem known_less (h:dR vals T.parts):dR vals (lessV T).t.parts:=by
 unfold lessV;split
 ·exact fun p hp=>by cases hp
 ·exact known_mapped h
theorem known_partT (h:dR vals T.parts):dR vals (dG d T).parts:=known_mapped h
theorem known_sum {a b:aY} (h:dR vals a.parts) (h2:dR vals b.parts):dR vals (sumT x a y b).parts:=dR.neat fun p hp=>by
 rcases jZ1.1 hp with hp|hp
 ·exact h.map (fun c=>x*c) p hp
 ·exact h2.map (fun c=>y*c) p hp
theorem known_parted {no:Bool} (h:dR vals T.parts):dR vals (bY d T no).t.parts:=by
 have h0:dR vals bS.parts:=fun p hp=>by cases hp
 have hC:dR vals (cT d T).parts:=known_mapped (known_partT h);unfold bY;split
 ·exact h0
 split
 ·exact h0
 split
 ·exact h0
 simp only;split
 ·exact known_partT (known_sum hC h0)
 ·exact hC
theorem soA_norm (h:(bT X).1=0) (hd:X.kind=3∨X.kind=4→0<X.d) (hk:dR vals X.t.parts):dR vals (bT X).2.t.parts∧soA (valF vals) (bT X).2=soA (valF vals) X:=by
 by_cases h0:X.kind=0∨X.kind=1
 ·rw [normR_const h0];refine ⟨fun p hp=>(by cases hp),?_⟩;unfold soA isR;simp only;rw [if_neg (by omega),if_neg (by omega),if_neg (by omega),if_neg (by omega)]
 by_cases h2:X.kind=2
 ·rw [normR_less h2];refine ⟨known_less hk.neat,?_⟩;rw [soA_less _ (dQ _),worthT_norm];unfold soA isR;rw [if_pos h2]
 by_cases h3:X.kind=3∨X.kind=4
 ·have hd0:=hd h3;rw [normR_div h3] at h⊢;unfold dV at h⊢;rw [if_neg (by omega)];refine ⟨known_parted hk.neat,?_⟩;simp only;rw [show (X.d.natAbs:Int)=X.d by omega,soA_parted _ hd0 (dQ _),worthT_norm];unfold soA isR;rw [if_neg h2,if_pos h3,fmod_beq hd0];rcases h3 with h3|h3
  ·rw [h3];simp
  ·rw [h3];simp
 ·rw [normR_bad (by omega) (by omega) h2 (by omega) (by omega)] at h;simp at h
theorem soA_neg (h:bT X=(0,X)) (hn:Neat X.t.parts) (hd:X.kind=3∨X.kind=4→0<X.d) (hk:dR vals X.t.parts) (hkd:0≤X.kind∧X.kind≤4):dR vals (negV X).t.parts∧soA (valF vals) (negV X)=!(soA (valF vals) X):=by
 unfold negV;rw [h,if_neg (by simp)];simp only;by_cases h0:X.kind=0∨X.kind=1
 ·rw [if_pos h0];refine ⟨fun p hp=>(by cases hp),?_⟩;rw [soA_truth];unfold soA isR;rw [if_neg (by omega),if_neg (by omega)];rcases h0 with h0|h0<;>rw [h0]<;>rfl
 rw [if_neg h0];by_cases h2:X.kind=2
 ·rw [if_pos h2];have h1:dR vals (⟨[],1⟩:aY).parts:=fun p hp=>by cases hp
  refine ⟨known_less (known_sum h1 hk).neat,?_⟩;rw [soA_less _ (dQ _),worthT_norm,worthT_sum];unfold soA isR;rw [if_pos h2];have e:cO (valF vals) ⟨[],1⟩=1:=rfl;rw [e];by_cases hx:0<cO (valF vals) X.t
  ·rw [decide_eq_true hx,decide_eq_false (by omega)];rfl
  ·rw [decide_eq_false hx,decide_eq_true (by omega)];rfl
 ·rw [if_neg h2];have h3:X.kind=3∨X.kind=4:=by omega
  have hd0:=hd h3;unfold dV;rw [if_neg (by omega)];refine ⟨known_parted hk.neat,?_⟩;simp only;rw [show (X.d.natAbs:Int)=X.d by omega,soA_parted _ hd0 (dQ _),worthT_norm];unfold soA isR;rw [if_neg h2,if_pos h3,fmod_beq hd0];rcases h3 with h3|h3
  ·rw [h3];simp
  ·rw [h3];simp
end
section
variable {vals:aM} {V l ids ks:List Int} {x nodes limbs sp:Int} {turned b c:Bool} {p:Int × Int} {X Y:aT} {n:Nat}
def Tr (vals:aM) (A:aF) (x:Int) (b:Bool):Prop:=truthN vals A.nodes (x.toNat+1) x=some b
def Kn (vals:aM) (A:aF) (x:Int):Prop:=∃b,Tr vals A x b
theorem Tr.kn {A:aF} (h:Tr vals A x b):Kn vals A x:=⟨b,h⟩
theorem Tr.same {A:aF} (h:Tr vals A x b) (k:Tr vals A x c):b=c:=lZ2 (h.symm.trans k)
theorem bool_not (h:¬b=c):b=!c:=by cases b<;>cases c<;>simp_all
theorem Kn.or {A:aF} (h:Kn vals A x) (c:Bool):¬Tr vals A x (!c)→Tr vals A x c:=fun hn=>by
 obtain ⟨b,hb⟩:=h;by_cases e:b=c
 ·rw [←e];exact hb
 ·exact absurd (by rw [show (!c)=b by cases b<;>cases c<;>simp_all];exact hb) hn
theorem truthN_ext {vals:aM} {L t:List aT} (hB:Below L):∀(f:Nat) (x:Int),0≤x→x<(L.length:Int)→truthN vals (L++t) f x=truthN vals L f x
 | 0,_,_,_=>rfl
 | f+1,x,h0,h1=>by
  have e:(L++t).getD x.toNat aV=L.getD x.toNat aV:=getD_append_lt L t aV (by omega);simp only [truthN,e];split
  ·rfl
  split
  ·refine kidsT_congr fun k hk=>?_;have:=hB.kid h0 h1 hk;exact truthN_ext hB f k this.1 (by omega)
  ·rfl
theorem Tr.ext {A A':aF} (he:Ext A A') (hB:Below A.nodes) (h:0≤x∧x<(A.nodes.length:Int)) (b:Bool):Tr vals A' x b↔Tr vals A x b:=by
 obtain ⟨t,e⟩:=he;unfold Tr;rw [e,truthN_ext hB _ _ h.1 h.2]
theorem Kn.ext {vals:aM} {A A':aF} (he:Ext A A') (hB:Below A.nodes) {x:Int} (h:0≤x∧x<(A.nodes.length:Int)):Kn vals A' x↔Kn vals A x:=exists_congr fun b=>Tr.ext he hB h b
theorem kidsT_all {f:Int→Option Bool} {kind:Int}:∀{l:List Int} {out:Bool},(∀k∈l,∃b,f k=some b)→∃b,kidsT f kind l out=some b∧(b=decide (kind=5)↔out=decide (kind=5)∧∀k∈l,f k=some (decide (kind=5)))
 | [],out,_=>⟨out,rfl,by simp⟩
 | x::l,out,h=>by
  obtain ⟨y,hy⟩:=h x (kZ1 ..);obtain ⟨b,h1,h2⟩:=kidsT_all (f:=f) (kind:=kind) (l:=l) (out:=if kind=5 then out&&y else out||y) fun k hk=>h k (lZ1 _ hk);refine ⟨b,by simp only [kidsT];rw [hy];exact h1,h2.trans ?_⟩;have e:(if kind=5 then out&&y else out||y)=decide (kind=5)↔out=decide (kind=5)∧y=decide (kind=5):=by
   by_cases h5:kind=5
   ·rw [if_pos h5,decide_eq_true h5];simp
   ·rw [if_neg h5,decide_eq_false h5];simp
  rw [e];constructor
  ·rintro ⟨⟨q1,q2⟩,q3⟩;refine ⟨q1,fun k hk=>?_⟩;rcases mZ1.1 hk with rfl|hk
   ·rw [hy,q2]
   ·exact q3 k hk
  ·rintro ⟨q1,q2⟩;have q3:=q2 x (kZ1 ..);rw [hy] at q3;exact⟨⟨q1,lZ2 q3⟩,fun k hk=>q2 k (lZ1 _ hk)⟩
theorem kidsT_known {f:Int→Option Bool} {kind:Int}:∀{l:List Int} {out b:Bool},kidsT f kind l out=some b→∀k∈l,∃b,f k=some b
 | [],_,_,_=>fun k hk=>by cases hk
 | x::l,out,b,h=>fun k hk=>by
  simp only [kidsT] at h;cases hv:f x with
  | none=>rw [hv] at h;cases h
  | some y=>
   rw [hv] at h;rcases mZ1.1 hk with rfl|hk
   ·exact⟨y,hv⟩
   ·exact kidsT_known h k hk
theorem truth_join {A:aF} (hB:Below A.nodes) (hx:0≤x∧x<(A.nodes.length:Int)) (h5:(ndA A x).kind=5∨(ndA A x).kind=6):truthN vals A.nodes (x.toNat+1) x=kidsT (fun k=>truthN vals A.nodes (k.toNat+1) k) (ndA A x).kind (ndA A x).kids (decide ((ndA A x).kind=5)):=by
 have e:truthN vals A.nodes (x.toNat+1) x=if (ndA A x).kind=7∨(ndA A x).kind=8 then none else if (ndA A x).kind=5∨(ndA A x).kind=6 then kidsT (truthN vals A.nodes x.toNat) (ndA A x).kind (ndA A x).kids (decide ((ndA A x).kind=5)) else if (holdsR vals ⟨(ndA A x).kind,(ndA A x).d,(ndA A x).t⟩).2=0 then some (holdsR vals ⟨(ndA A x).kind,(ndA A x).d,(ndA A x).t⟩).1 else none:=rfl
 rw [e,if_neg (by omega),if_pos h5];refine kidsT_congr fun k hk=>?_;have:=hB.kid hx.1 hx.2 hk;exact truthN_fuel hB _ _ k this.1 (by omega) (by omega) (by omega)
theorem tr_kids {A:aF} (hB:Below A.nodes) (hx:0≤x∧x<(A.nodes.length:Int)) (h5:(ndA A x).kind=5∨(ndA A x).kind=6) (hk:∀k∈(ndA A x).kids,Kn vals A k):Kn vals A x∧(Tr vals A x (decide ((ndA A x).kind=5))↔∀k∈(ndA A x).kids,Tr vals A k (decide ((ndA A x).kind=5))):=by
 obtain ⟨b,h1,h2⟩:=kidsT_all (f:=fun k=>truthN vals A.nodes (k.toNat+1) k) (kind:=(ndA A x).kind) (out:=decide ((ndA A x).kind=5)) hk;have e:=(truth_join (vals:=vals) hB hx h5).trans h1;refine ⟨⟨b,e⟩,?_⟩;constructor
 ·intro h;have:=Tr.same h e;exact (h2.1 this.symm).2
 ·intro h;have:=h2.2 ⟨rfl,h⟩;rw [←this];exact e
theorem kn_kids {A:aF} (hB:Below A.nodes) (hx:0≤x∧x<(A.nodes.length:Int)) (h5:(ndA A x).kind=5∨(ndA A x).kind=6) (h:Kn vals A x):∀k∈(ndA A x).kids,Kn vals A k:=by
 obtain ⟨b,hb⟩:=h;have e:=(truth_join (vals:=vals) hB hx h5).symm.trans hb;exact kidsT_known e
theorem flatN_tr {vals:aM} {A:aF} (hB:Below A.nodes) {kind:Int} (h5:kind=5∨kind=6):∀(f:Nat) (x:Int),0≤x∧x<(A.nodes.length:Int)→Kn vals A x→(∀y∈flatN A.nodes kind f x,Kn vals A y)∧(Tr vals A x (decide (kind=5))↔∀y∈flatN A.nodes kind f x,Tr vals A y (decide (kind=5)))
 | 0,x,_,hk=>by
  rw [flatN];exact⟨fun y hy=>by rw [dZ1.1 hy];exact hk,by simp⟩
 | f+1,x,hx,hk=>by
  unfold flatN;split
  ·rename_i he;have he':(ndA A x).kind=kind:=he;have hkk:=kn_kids hB hx (by rw [he'];exact h5) hk;have ht:=(tr_kids hB hx (by rw [he'];exact h5) hkk).2;rw [he'] at ht;have ih:∀k∈(ndA A x).kids,(∀y∈flatN A.nodes kind f k,Kn vals A y)∧(Tr vals A k (decide (kind=5))↔∀y∈flatN A.nodes kind f k,Tr vals A y (decide (kind=5))):=fun k hkm=>by
    have:=hB.kid hx.1 hx.2 hkm;exact flatN_tr hB h5 f k ⟨this.1,by omega⟩ (hkk k hkm)
   refine ⟨fun y hy=>?_,ht.trans ⟨fun h y hy=>?_,fun h k hkm=>(ih k hkm).2.2 fun y hy=>h y (dZ3.2 ⟨k,hkm,hy⟩)⟩⟩
   ·obtain ⟨k,hkm,hy⟩:=dZ3.1 hy;exact (ih k hkm).1 y hy
   ·obtain ⟨k,hkm,hy⟩:=dZ3.1 hy;exact (ih k hkm).2.1 (h k hkm) y hy
  ·exact⟨fun y hy=>by rw [dZ1.1 hy];exact hk,by simp⟩
theorem aZ.formA {A:aF} (h:aZ V nodes limbs A sp) (hx:0≤x∧x<(A.nodes.length:Int)) (h4:(ndA A x).kind≤4):bT ⟨(ndA A x).kind,(ndA A x).d,(ndA A x).t⟩=(0,⟨(ndA A x).kind,(ndA A x).d,(ndA A x).t⟩)∧Neat (ndA A x).t.parts∧((ndA A x).kind=3∨(ndA A x).kind=4→0<(ndA A x).d):=by
 rcases Nat.lt_or_ge x.toNat 2 with h2|h2
 ·have e:ndA A x=⟨(x.toNat:Int),0,bS,0,[]⟩:=h.low h2;rw [e];refine ⟨normR_const (by simp only;omega),neat_nil,fun h3=>by simp only at h3;omega⟩
 ·have hK:NodeK V limbs (ndA A x):=h.all x.toNat h2 (by omega);have h1:=(hK.again.atom h4).2.1;refine ⟨h1,hK.neat,fun h3=>?_⟩;have h5:=h1;rw [normR_div h3] at h5;unfold dV at h5;simp only at h5;by_cases hd:(ndA A x).d=0
  ·rw [if_pos hd] at h5;simp at h5
  ·rw [if_neg hd] at h5;have h6:bY ((ndA A x).d.natAbs:Int) (bE (ndA A x).t) (decide ((ndA A x).kind=4))=⟨(ndA A x).kind,(ndA A x).d,(ndA A x).t⟩:=congrArg Prod.snd h5;have h7:=(partedV_idem (d:=((ndA A x).d.natAbs:Int)) (T:=bE (ndA A x).t) (no:=decide ((ndA A x).kind=4)) (by omega) (dQ _) (by rw [h6];simp only;omega)).1;rw [h6] at h7;exact h7
def soN (vals:aM) (N:aT):Bool:=soA (valF vals) ⟨N.kind,N.d,N.t⟩
theorem tr_atom {A:aF} (h:aZ V nodes limbs A sp) (hx:0≤x∧x<(A.nodes.length:Int)) (h4:(ndA A x).kind≤4):(Kn vals A x↔dR vals (ndA A x).t.parts)∧(Kn vals A x→Tr vals A x (soN vals (ndA A x))):=by
 obtain ⟨q1,q2,q3⟩:=h.formA hx h4;have hev:=evalP_some vals (ndA A x).t.parts (ndA A x).t.k;have e:truthN vals A.nodes (x.toNat+1) x=if (ndA A x).kind=7∨(ndA A x).kind=8 then none else if (ndA A x).kind=5∨(ndA A x).kind=6 then kidsT (truthN vals A.nodes x.toNat) (ndA A x).kind (ndA A x).kids (decide ((ndA A x).kind=5)) else if (holdsR vals ⟨(ndA A x).kind,(ndA A x).d,(ndA A x).t⟩).2=0 then some (holdsR vals ⟨(ndA A x).kind,(ndA A x).d,(ndA A x).t⟩).1 else none:=rfl
 rw [if_neg (by omega),if_neg (by omega)] at e;have hh:holdsR vals ⟨(ndA A x).kind,(ndA A x).d,(ndA A x).t⟩=match evalP vals (ndA A x).t.parts (ndA A x).t.k with|none=>(false,170)|some v=>(isR ⟨(ndA A x).kind,(ndA A x).d,(ndA A x).t⟩ v,0):=by
  unfold holdsR;rw [q1,if_pos rfl];simp only;rw [cW q2];cases evalP vals (ndA A x).t.parts (ndA A x).t.k<;>rfl
 cases ho:evalP vals (ndA A x).t.parts (ndA A x).t.k with
 | none=>
  rw [ho] at hh;rw [hh] at e;have hk:¬dR vals (ndA A x).t.parts:=fun hk=>by
   have:=(hev _).2 ⟨hk,rfl⟩;rw [ho] at this;cases this
  have hn:¬Kn vals A x:=by
   rintro ⟨b,hb⟩;unfold Tr at hb;rw [e] at hb;simp at hb
  exact⟨⟨fun q=>absurd q hn,fun q=>absurd q hk⟩,fun q=>absurd q hn⟩
 | some v=>
  rw [ho] at hh;obtain ⟨hk,hv⟩:=(hev v).1 ho;have ht:Tr vals A x (soN vals (ndA A x)):=by
   unfold Tr soN soA cO;rw [e,hh];simp only;rw [if_pos trivial,hv,Int.add_comm]
  exact⟨⟨fun _=>hk,fun _=>ht.kn⟩,fun _=>ht⟩
theorem tr_const (vals:aM) {A:aF} (h:aZ V nodes limbs A sp) (hx:x=0∨x=1):Tr vals A x (decide (x=1)):=by
 have e:ndA A x=⟨(x.toNat:Int),0,bS,0,[]⟩:=h.low (by omega);have h2:=h.inv.once.two;have h1:=tr_atom (vals:=vals) h (x:=x) (by omega) (by rw [e];simp only;omega);have h3:=h1.2 (h1.1.2 (by rw [e];exact fun p hp=>by cases hp));rw [e] at h3;rcases hx with rfl|rfl
 ·exact h3
 ·exact h3
theorem likeP_eq {q:Int × Int} (h:likeP p q turned=true):p=(q.1,(if turned then -1 else 1)*q.2):=by
 unfold likeP at h;simp only [Bool.and_eq_true,decide_eq_true_eq,beq_iff_eq] at h;obtain ⟨h1,h2,h3⟩:=h;have h4:=congrArg nval h3;rw [cL,cL] at h4;refine Prod.ext h1 ?_;simp only;unfold neg at h2;cases turned
 ·simp only [Bool.bne_false,decide_eq_decide] at h2;rw [if_neg (by decide)];omega
 ·rw [if_pos rfl];by_cases h5:p.2<0<;>by_cases h6:q.2<0<;>simp [h5,h6] at h2<;>omega
theorem alike_eq {s t:aM} (h:alikeM s t turned=true):s=mulL (if turned then -1 else 1) t:=by
 unfold alikeM likesTo at h;simp only [Bool.and_eq_true,decide_eq_true_eq,kZ2,List.mem_range] at h;obtain ⟨h1,h2⟩:=h;refine List.ext_getElem (by simp [mulL,h1]) fun i hi hj=>?_;have h3:=likeP_eq (h2 i hi);rw [pth_lt hi,pth_lt (by omega)] at h3;simpa [mulL] using h3
theorem cmpP_zero {q:Int × Int} (h:cmpP p q=0):p=q:=by
 unfold cmpP at h;split at h
 ·omega
 split at h
 ·omega
 ·exact Prod.ext (by omega) (cmpZ_zero.1 h)
theorem cmpL_zero:∀{a b:aM},cmpL a b=0→a=b
 | [],[],_=>rfl
 | [],_::_,h=>by simp [cmpL] at h
 | _::_,[],h=>by simp [cmpL] at h
 | p::a,q::b,h=>by
  rw [cmpL_cons] at h;by_cases h1:cmpP p q=0
  ·rw [if_neg (by omega)] at h;rw [cmpP_zero h1,cmpL_zero h]
  ·rw [if_pos h1] at h;exact absurd h h1
theorem cmpT_zero {a b:aY} (h:cmpT a b=0):a=b:=by
 obtain ⟨l,k⟩:=a;obtain ⟨m,j⟩:=b;unfold cmpT at h;simp only at h;by_cases h1:cmpL l m=0
 ·rw [if_neg (by omega)] at h;rw [cmpL_zero h1,cmpZ_zero.1 h]
 ·rw [if_pos h1] at h;exact absurd h h1
theorem weaker_so {kind:Int} (h5:kind=5∨kind=6) (h:weakerM kind X Y=true) (hy:soN vals Y=decide (kind=5)):X.kind=2∧Y.kind=2∧soN vals X=decide (kind=5):=by
 unfold weakerM at h;split at h
 ·cases h
 rename_i hn;have hx2:X.kind=2:=Decidable.not_not.1 fun e=>hn (.inl e);have hy2:Y.kind=2:=Decidable.not_not.1 fun e=>hn (.inr (.inl e));have ha:alikeM X.t.parts Y.t.parts false=true:=by
  cases e:alikeM X.t.parts Y.t.parts false
  ·exact absurd (.inr (.inr e)) hn
  ·rfl
 have hp:=alike_eq ha;have hd:dotP (valF vals) X.t.parts=dotP (valF vals) Y.t.parts:=by rw [hp,dotP_mul,if_neg (by decide),Int.one_mul]
 refine ⟨hx2,hy2,?_⟩;unfold soN soA isR cO at hy⊢;simp only at hy⊢;rw [if_pos hy2] at hy;rw [if_pos hx2,hd];simp only [Bool.or_eq_true,decide_eq_true_eq] at h;rcases h5 with rfl|rfl
 ·rw [decide_eq_true rfl,decide_eq_true_eq] at hy⊢;rcases h with h|h
  ·omega
  ·omega
 ·rw [show decide ((6:Int)=5)=false from rfl,decide_eq_false_iff_not] at hy⊢;rcases h with h|h
  ·omega
  ·omega
theorem clash_so {kind:Int} (h5:kind=5∨kind=6) (h:clashM kind X Y=true) (hd:(X.kind=3∨X.kind=4)→0<X.d):X.kind≤4∧Y.kind≤4∧¬(soN vals X=decide (kind=5)∧soN vals Y=decide (kind=5)):=by
 unfold clashM at h;split at h
 ·rename_i h22;split at h
  ·cases h
  rename_i hn;have ha:alikeM X.t.parts Y.t.parts true=true:=by
   cases e:alikeM X.t.parts Y.t.parts true
   ·exact absurd e hn
   ·rfl
  have hp:=alike_eq ha;have hdd:dotP (valF vals) X.t.parts=-1*dotP (valF vals) Y.t.parts:=by rw [hp,dotP_mul,if_pos rfl]
  refine ⟨by omega,by omega,?_⟩;unfold soN soA isR cO;simp only;rw [if_pos h22.1,if_pos h22.2,hdd];simp only [Bool.or_eq_true,decide_eq_true_eq] at h;rintro ⟨q1,q2⟩;rcases h5 with rfl|rfl
  ·rw [decide_eq_true rfl,decide_eq_true_eq] at q1 q2;omega
  ·rw [show decide ((6:Int)=5)=false from rfl,decide_eq_false_iff_not] at q1 q2;omega
 split at h
 ·rename_i h34;simp only [Bool.and_eq_true,decide_eq_true_eq] at h;have ht:=cmpT_zero h.2;have hd0:=hd (by omega);refine ⟨by omega,by omega,?_⟩;obtain ⟨b,hb⟩:∃b,b=((cO (valF vals) X.t).fmod X.d==0):=⟨_,rfl⟩;have key:∀Z:aT,Z.kind=3∨Z.kind=4→Z.d=X.d→Z.t=X.t→soN vals Z=(b==decide (Z.kind=3)):=fun Z hZ hd ht=>by
   unfold soN soA isR;simp only;rw [if_neg (by omega),if_pos hZ,hd,ht,←hb]
  rw [key X (by omega) rfl rfl,key Y (by omega) h.1.symm ht.symm];rcases h34 with ⟨e1,e2⟩|⟨e1,e2⟩
  ·rw [e1,e2];cases b<;>cases decide (kind=5)<;>simp
  ·rw [e1,e2];cases b<;>cases decide (kind=5)<;>simp
 ·cases h
theorem low_of (f:Int→Int):∀l:List Int,∃m,∀x∈l,m≤f x
 | []=>⟨0,fun _ h=>by cases h⟩
 | x::l=>by
  obtain ⟨m,hm⟩:=low_of f l;refine ⟨min m (f x),fun y hy=>?_⟩;rcases mZ1.1 hy with rfl|hy
  ·omega
  ·have:=hm y hy;omega
def AllC (vals:aM) (A:aF) (kind:Int) (l:List Int):Prop:=∀x∈l,Tr vals A x (decide (kind=5))
def KnL (vals:aM) (A:aF) (l:List Int):Prop:=∀x∈l,(0≤x∧x<(A.nodes.length:Int))∧Kn vals A x
theorem KnL.so {A:aF} (h:aZ V nodes limbs A sp) (hl:KnL vals A l) (hx:x∈l) (h4:(ndA A x).kind≤4) (b:Bool):Tr vals A x b↔soN vals (ndA A x)=b:=by
 have h1:=(tr_atom h (hl x hx).1 h4).2 (hl x hx).2;exact⟨fun q=>Tr.same h1 q,fun q=>q ▸ h1⟩
theorem kept_all {kind:Int} {A:aF} (h:aZ V nodes limbs A sp) (h5:kind=5∨kind=6) (hl:KnL vals A l):AllC vals A kind (keptM A kind l)↔AllC vals A kind l:=by
 constructor;rotate_left
 ·exact fun q x hx=>q x (iZ3.1 hx).1
 intro q;obtain ⟨f,hf⟩:∃f:Int→Int,f=fun x=>if kind=5 then (ndA A x).t.k else -(ndA A x).t.k:=⟨_,rfl⟩
 obtain ⟨m,hm⟩:=low_of f l;have key:∀(n:Nat) (x:Int),x∈l→(f x-m).toNat≤n→Tr vals A x (decide (kind=5)):=by
  intro n;induction n with
  | zero=>
   intro x hx hn;cases hw:weakIn A kind l x
   ·exact q x (iZ3.2 ⟨hx,by rw [hw];rfl⟩)
   ·exfalso;unfold weakIn at hw;obtain ⟨y,hy,hxy⟩:=cZ3.1 hw;have h1:=hm y hy;have h2:=hm x hx;unfold weakerM at hxy;split at hxy
    ·cases hxy
    simp only [Bool.or_eq_true,decide_eq_true_eq] at hxy;rw [hf] at h1 h2 hn;simp only at h1 h2 hn;rcases hxy with ⟨e,hxy⟩|⟨e,hxy⟩
    ·rw [if_pos e] at h1 h2 hn;omega
    ·rw [if_neg (by omega)] at h1 h2 hn;omega
  | succ n ih=>
   intro x hx hn;cases hw:weakIn A kind l x
   ·exact q x (iZ3.2 ⟨hx,by rw [hw];rfl⟩)
   ·unfold weakIn at hw;obtain ⟨y,hy,hxy⟩:=cZ3.1 hw;have hlt:f y<f x:=by
     have hxy':=hxy;unfold weakerM at hxy';split at hxy'
     ·cases hxy'
     simp only [Bool.or_eq_true,decide_eq_true_eq] at hxy';rw [hf];simp only;rcases hxy' with ⟨e,hxy'⟩|⟨e,hxy'⟩
     ·rw [if_pos e,if_pos e];exact hxy'
     ·rw [if_neg (by omega),if_neg (by omega)];omega
    have hty:=ih y hy (by have:=hm y hy;omega);have h2:(ndA A y).kind=2:=by
     have hxy':=hxy;unfold weakerM at hxy';split at hxy'
     ·cases hxy'
     rename_i hn';exact Decidable.not_not.1 fun e=>hn' (.inr (.inl e))
    obtain ⟨k1,-,k3⟩:=weaker_so h5 hxy ((hl.so h hy (by omega) _).1 hty);exact (hl.so h hx (by omega) _).2 k3
 exact fun x hx=>key _ x hx (bZ2 _)
theorem clash_all {kind:Int} {A:aF} (h:aZ V nodes limbs A sp) (h5:kind=5∨kind=6) (hl:KnL vals A l) (hn:n≤l.length) (hc:clashTo A kind l n=true):¬AllC vals A kind l:=fun q=>by
 unfold clashTo at hc;obtain ⟨j,hj,hc⟩:=cZ3.1 hc;obtain ⟨y,hy,hc⟩:=cZ3.1 hc;have hx:l.getD j 0∈l:=cH 0 (by have:=List.mem_range.1 hj;omega);have hy':y∈l:=bZ3 hy;have hd:(ndA A (l.getD j 0)).kind=3∨(ndA A (l.getD j 0)).kind=4→0<(ndA A (l.getD j 0)).d:=fun h3=>(h.formA (hl _ hx).1 (by omega)).2.2 h3;obtain ⟨k1,k2,k3⟩:=clash_so (vals:=vals) h5 hc hd;exact k3 ⟨(hl.so h hx k1 _).1 (q _ hx),(hl.so h hy' k2 _).1 (q _ hy')⟩
theorem left_all {kind:Int} {A:aF} (h:aZ V nodes limbs A sp) (h5:kind=5∨kind=6) (hl:KnL vals A l):AllC vals A kind (leftM A kind l)↔AllC vals A kind l:=by
 constructor;rotate_left
 ·exact fun q x hx=>q x (iZ3.1 hx).1
 intro q;have key:∀(n:Nat) (x:Int),x∈l→x.toNat≤n→Tr vals A x (decide (kind=5)):=by
  intro n;induction n with
  | zero=>
   intro x hx hn;cases hg:goesM A kind l x
   ·exact q x (iZ3.2 ⟨hx,by simp [hg]⟩)
   ·exfalso;unfold goesM at hg;simp only [Bool.and_eq_true,cZ3,decide_eq_true_eq] at hg;obtain ⟨-,k,hk,-⟩:=hg;have:=h.below.kid (hl x hx).1.1 (hl x hx).1.2 hk;omega
  | succ n ih=>
   intro x hx hn;cases hg:goesM A kind l x
   ·exact q x (iZ3.2 ⟨hx,by simp [hg]⟩)
   ·unfold goesM at hg;simp only [Bool.and_eq_true,cZ3,decide_eq_true_eq] at hg;obtain ⟨ho,k,hk,hkl⟩:=hg;have hb:=h.below.kid (hl x hx).1.1 (hl x hx).1.2 hk;have htk:=ih k hkl (by omega);have hc:decide ((ndA A x).kind=5)=!decide (kind=5):=by
     rw [ho];unfold otherV;rcases h5 with rfl|rfl<;>rfl
    have hx5:(ndA A x).kind=5∨(ndA A x).kind=6:=by
     rw [ho];unfold otherV;split
     ·exact .inl rfl
     ·exact .inr rfl
    have hkk:=kn_kids h.below (hl x hx).1 hx5 (hl x hx).2;have ht:=(tr_kids h.below (hl x hx).1 hx5 hkk).2;rw [hc] at ht;refine (hl x hx).2.or _ fun hn=>?_;have:=Tr.same htk (ht.1 hn k hk);cases hb2:decide (kind=5)<;>rw [hb2] at this<;>cases this
 exact fun x hx=>key _ x hx (bZ2 _)
theorem open_all {kind:Int} {A:aF} (h:aZ V nodes limbs A sp) (h5:kind=5∨kind=6) (hl:KnL vals A ids):KnL vals A (openM A kind ids)∧(AllC vals A kind (openM A kind ids)↔AllC vals A kind ids):=by
 have hm:∀y,y∈openM A kind ids↔∃x∈ids,y∈flatX A.nodes kind x:=fun y=>by
  unfold openM flatL;rw [dE,dZ3]
 have hf:=fun x hx=>flatN_tr (vals:=vals) h.below h5 A.nodes.length x (hl x hx).1 (hl x hx).2;refine ⟨fun y hy=>?_,fun q x hx=>(hf x hx).2.2 fun y hy=>q y ((hm y).2 ⟨x,hx,hy⟩),fun q y hy=>?_⟩
 ·obtain ⟨x,hx,hxy⟩:=(hm y).1 hy;have:=flatX_mem h.below (hl x hx).1.1 (hl x hx).1.2 hxy;have:=(hl x hx).1;exact⟨by omega,(hf x hx).1 y hxy⟩
 ·obtain ⟨x,hx,hxy⟩:=(hm y).1 hy;exact (hf x hx).2.1 (q x hx) y hxy
theorem rest_all {kind:Int} {A:aF} (h:aZ V nodes limbs A sp) (h5:kind=5∨kind=6):AllC vals A kind (restM A kind ids)↔AllC vals A kind (openM A kind ids):=by
 constructor;rotate_left
 ·exact fun q x hx=>q x (iZ3.1 hx).1
 intro q x hx;by_cases e:x=nothingV kind
 ·have:=tr_const vals h (x:=x) (by rw [e];unfold nothingV;split<;>simp);rw [show decide (kind=5)=decide (x=1) by rw [e];unfold nothingV;rcases h5 with rfl|rfl<;>rfl];exact this
 ·exact q x (iZ3.2 ⟨hx,by simp [e]⟩)
theorem not_allV {kind:Int} {A:aF} (h:aZ V nodes limbs A sp) (h5:kind=5∨kind=6):Kn vals A (allV kind)∧¬Tr vals A (allV kind) (decide (kind=5)):=by
 have h1:=tr_const vals h (x:=allV kind) (by unfold allV;split<;>simp);refine ⟨h1.kn,fun q=>?_⟩;have:=Tr.same h1 q;unfold allV at this;rcases h5 with rfl|rfl<;>cases this
def SaysC (vals:aM) (A:aF) (kind:Int) (ids:List Int) (r:(Int × Int) × aF × (Int × Int)):Prop:=r.1.2=0→(0≤r.1.1∧r.1.1<(r.2.1.nodes.length:Int))∧Kn vals r.2.1 r.1.1∧(Tr vals r.2.1 r.1.1 (decide (kind=5))↔AllC vals A kind ids)
theorem joinM_says {ov kind:Int} {A:aF} (h0:0≤limbs) (h:aZ V nodes limbs A sp) (h5:kind=5∨kind=6) (hl:KnL vals A ks):SaysC vals A kind ks (joinM A nodes limbs sp ov kind ks):=by
 intro he;have hc:=joinM_came (ov:=ov) (kind:=kind) (ks:=ks) h0 h;have ha:ks.all (hasK A)=true:=kZ2.2 fun k hk=>hasK_iff.2 (hl k hk).1;have h2:=h.inv.once.two;rcases Nat.lt_trichotomy (cU ks).length 1 with hn|hn|hn
 ·rw [joinM_nil h5 ha (by omega)];have hks:ks=[]:=by
   cases ks with
   | nil=>rfl
   | cons k l=>
    have h3:k∈cU (k::l):=dE.2 (kZ1 ..);have:=List.length_pos_of_mem h3;omega
  have h1:=tr_const vals h (x:=if kind=5 then 1 else 0) (by split<;>simp);refine ⟨by simp only;split<;>omega,h1.kn,?_⟩;rw [hks];refine ⟨fun _ x hx=>(by cases hx),fun _=>?_⟩;rcases h5 with rfl|rfl
  ·exact h1
  ·exact h1
 ·rw [joinM_one h5 ha hn];obtain ⟨y,hy⟩:∃y,cU ks=[y]:=List.length_eq_one_iff.1 hn;have hm:∀x,x∈ks↔x=y:=fun x=>by rw [←dE,hy,dZ1]
  rw [hy];have:=hl y ((hm y).2 rfl);refine ⟨this.1,this.2,fun q x hx=>?_,fun q=>q y ((hm y).2 rfl)⟩;rw [(hm x).1 hx];exact q
 ·rw [joinM_many h5 ha hn] at he hc⊢;obtain ⟨q1,q2,q3⟩:=madeM_node h.inv ⟨by simp only;omega,by simp only;omega,fun h4=>by simp only at h4;omega,fun _=>⟨rfl,rfl⟩,fun _=>rfl⟩ he;obtain ⟨A',hA'⟩:∃A',A'=(madeM A nodes limbs sp ov ⟨kind,0,bS,0,cU ks⟩ []).2.1:=⟨_,rfl⟩;obtain ⟨r,hr⟩:∃r,r=(madeM A nodes limbs sp ov ⟨kind,0,bS,0,cU ks⟩ []).1.1:=⟨_,rfl⟩;have hB:=hc.ok.below;have hx:=hc.ext;rw [←hA'] at q2 q3 hB hx⊢;rw [←hr] at q1 q2 q3⊢;have q4:ndA A' r=⟨kind,0,bS,0,cU ks⟩:=q3;have hk:∀k∈cU ks,Kn vals A' k:=fun k hk=>by
   have:=hl k (dE.1 hk);exact (Kn.ext hx h.below this.1).2 this.2
  have h3:=tr_kids (vals:=vals) hB ⟨q1,q2⟩ (by rw [q4];exact h5) (by rw [q4];exact hk);rw [q4] at h3;refine ⟨⟨q1,q2⟩,h3.1,h3.2.trans ⟨fun q x hxm=>?_,fun q k hkm=>?_⟩⟩
  ·exact (Tr.ext hx h.below (hl x hxm).1 _).1 (q x (dE.2 hxm))
  ·have hkk:=dE.1 hkm;exact (Tr.ext hx h.below (hl k hkk).1 _).2 (q k hkk)
theorem sjoinM_says {ov kind:Int} {A:aF} (h0:0≤limbs) (h:aZ V nodes limbs A sp) (h5:kind=5∨kind=6) (hl:KnL vals A ids):SaysC vals A kind ids (cK A nodes limbs sp ov kind ids):=by
 intro he;have ha:ids.all (hasK A)=true:=kZ2.2 fun k hk=>hasK_iff.2 (hl k hk).1;have h2:=h.inv.once.two;obtain ⟨ho,hoa⟩:=open_all h h5 hl;have hra:=rest_all (vals:=vals) (ids:=ids) h h5;have hall:=not_allV (vals:=vals) h h5;have hlr:KnL vals A (restM A kind ids):=fun x hx=>ho x (iZ3.1 hx).1;have hka:=kept_all h h5 hlr;have hlk:KnL vals A (keptM A kind (restM A kind ids)):=fun x hx=>hlr x (iZ3.1 hx).1;have hrg:0≤allV kind∧allV kind<(A.nodes.length:Int):=by unfold allV;split<;>omega
 by_cases hm:allV kind∈openM A kind ids
 ·rw [sjoinM_all ha hm];exact⟨hrg,hall.1,fun q=>absurd q hall.2,fun q=>absurd (hoa.2 q _ hm) hall.2⟩
 cases hcl:clashTo A kind (keptM A kind (restM A kind ids)) (keptM A kind (restM A kind ids)).length
 ·rw [sjoinM_join ha hm hcl] at he⊢;have hj:=joinM_says (nodes:=nodes) (sp:=sp) (ov:=ov) h0 h h5 (ks:=leftM A kind (keptM A kind (restM A kind ids))) (fun x hx=>hlk x (iZ3.1 hx).1) he;refine ⟨hj.1,hj.2.1,hj.2.2.trans ?_⟩;rw [left_all h h5 hlk,hka,hra,hoa]
 ·rw [sjoinM_clash ha hm hcl];refine ⟨hrg,hall.1,fun q=>absurd q hall.2,fun q=>?_⟩;rw [←hoa,←hra,←hka] at q;exact absurd q (clash_all h h5 hlk (bZ2 _) hcl)
end
section
variable {V ks l m:List Int} {nodes limbs sp ov x y:Int} {vals:aM} {Q:Int→Int→Prop} {f:Bool→Bool} {I:aF→Int→Int→Prop} {X:cI} {T:TurnF} {b:Bool}
def Cov (Q:Int→Int→Prop) (l m:List Int):Prop:=(∀y∈m,∃x∈l,Q x y)∧∀x∈l,∃y∈m,Q x y
theorem Cov.snoc (h:Cov Q l m) (hq:Q x y):Cov Q (l++[x]) (m++[y]):=by
 refine ⟨fun z hz=>?_,fun z hz=>?_⟩
 ·rcases jZ1.1 hz with hz|hz
  ·obtain ⟨u,hu,q⟩:=h.1 z hz;exact⟨u,jZ1.2 (.inl hu),q⟩
  ·rw [dZ1.1 hz];exact⟨x,by simp,hq⟩
 ·rcases jZ1.1 hz with hz|hz
  ·obtain ⟨u,hu,q⟩:=h.2 z hz;exact⟨u,jZ1.2 (.inl hu),q⟩
  ·rw [dZ1.1 hz];exact⟨y,by simp,hq⟩
theorem Cov.imp {Q2:Int→Int→Prop} (h:Cov Q l m) (hq:∀x y,Q x y→Q2 x y):Cov Q2 l m:=
 ⟨fun z hz=>by obtain ⟨u,hu,q⟩:=h.1 z hz;exact⟨u,hu,hq _ _ q⟩,fun z hz=>by obtain ⟨u,hu,q⟩:=h.2 z hz;exact⟨u,hu,hq _ _ q⟩⟩
structure TurnQ (T:TurnF) (I:aF→Int→Int→Prop) (R:aF→Int→Prop) (Q:aF→Int→Int→Prop):Prop where
 ok:TurnOk T I R
 q:∀{A:aF} {sp ov x:Int} {ks:List Int},I A sp ov→0≤x∧x<(A.nodes.length:Int)→Cov (Q A) (ndA A x).kids ks→(T A sp ov x ks).1.2=0→Below (T A sp ov x ks).2.1.nodes→Ext A (T A sp ov x ks).2.1→Q (T A sp ov x ks).2.1 x (T A sp ov x ks).1.1
 mono:∀{A A':aF} {x y:Int},Q A x y→Below A.nodes→Ext A A'→Q A' x y
def WQ (I:aF→Int→Int→Prop) (R:aF→Int→Prop) (Q:aF→Int→Int→Prop) (s:WSt):Prop:=WOk I R s∧∀u y,s.came u=some y→Q s.A u y
theorem kidsM_q {T:TurnF} {I:aF→Int→Int→Prop} {R:aF→Int→Prop} {Q:aF→Int→Int→Prop} (hT:TurnQ T I R Q) {W:WSt→Int→(Int × Int) × WSt} {m:Int} {N:Nat} (H:∀s k,WQ I R Q s→N≤s.A.nodes.length→0≤k→k<m→k<(N:Int)→(W s k).1.2=0→WQ I R Q (W s k).2∧Ext s.A (W s k).2.A∧Q (W s k).2.A k (W s k).1.1) :
  ∀(l:List Int) (s:WSt) (out done:List Int),WQ I R Q s→N≤s.A.nodes.length→(∀k∈l,0≤k∧k<m∧k<(N:Int))→Cov (Q s.A) done out→(dI W s out l).1.2=0→WQ I R Q (dI W s out l).2∧Cov (Q (dI W s out l).2.A) (done++l) (dI W s out l).1.1
 | [],s,out,done,hs,_,_,ho,_=>by rw [fZ2];exact⟨hs,ho⟩
 | k::l,s,out,done,hs,hN,hl,ho,he=>by
  have hk:=hl k (kZ1 ..);unfold dI at he⊢;by_cases h0:(W s k).1.2=0
  ·rw [if_pos h0] at he⊢;obtain ⟨q1,q2,q3⟩:=H s k hs hN hk.1 hk.2.1 hk.2.2 h0;have:=kidsM_q hT (W:=W) (m:=m) (N:=N) H l (W s k).2 (out++[(W s k).1.1]) (done++[k]) q1 (bZ1 hN q2.len) (fun j hj=>hl j (lZ1 _ hj)) ((ho.imp fun x y q=>hT.mono q (hT.ok.below hs.1.1) q2).snoc q3) he;rw [mZ2] at this;exact this
  ·rw [if_neg h0] at he;exact absurd he h0
theorem walkM_q {T:TurnF} {I:aF→Int→Int→Prop} {R:aF→Int→Prop} {Q:aF→Int→Int→Prop} (hT:TurnQ T I R Q):∀(f:Nat) (s:WSt) (x:Int),WQ I R Q s→x.toNat<f→0≤x→x<(s.A.nodes.length:Int)→(cX T f s x).1.2=0→WQ I R Q (cX T f s x).2∧Ext s.A (cX T f s x).2.A∧Q (cX T f s x).2.A x (cX T f s x).1.1
 | 0,_,_,_,h,_,_,_=>by omega
 | f+1,s,x,hs,hf,h0,h1,he=>by
  have hok:=walkM_ok hT.ok (f+1) s x hs.1 hf h0 h1;refine (fun q=>⟨⟨hok.1.2.2.1 he,q.1⟩,hok.1.2.1,q.2⟩:((∀u y,(cX T (f+1) s x).2.came u=some y→Q (cX T (f+1) s x).2.A u y)∧Q (cX T (f+1) s x).2.A x (cX T (f+1) s x).1.1)→_) ?_;have hB:=hT.ok.below hok.1.1;cases hc:s.came x with
  | some y=>
   rw [walkM_there hc];exact⟨hs.2,hs.2 x y hc⟩
  | none=>
   obtain ⟨r,hr⟩:∃r,dI (cX T f) s [] (ndA s.A x).kids=r:=⟨_,rfl⟩;by_cases hre:r.1.2=0
   ·have hk:=kidsM_q hT (W:=cX T f) (m:=x) (N:=s.A.nodes.length) (fun s' k hs' hN hk0 hkx hkN hke=>walkM_q hT f s' k hs' (by omega) hk0 (by omega) hke) (ndA s.A x).kids s [] [] hs (bZ2 _) (fun k hk=>by have:=(hT.ok.below hs.1.1).kid h0 h1 hk;omega) ⟨fun y hy=>(by cases hy),fun y hy=>by cases hy⟩ (by rw [hr];exact hre);rw [hr,gZ3] at hk;obtain ⟨⟨out,e⟩,t⟩:=r;obtain rfl:e=0:=hre;obtain ⟨q1,q2,q3,q4,-⟩:=kids_walk hT.ok (f:=f) (j:=(ndA s.A x).kids.length) hs.1 hf h0 h1 (bZ2 _) (by rw [List.take_length];exact hr);have hlen:x<(t.A.nodes.length:Int):=by have:=q2.len;omega
    have hst:=hT.ok.step (x:=x) (ks:=out) q1.1 h0 hlen q3 (by rw [q2.nd h0 h1];exact q4);rw [walkM_turn hc hr] at he hB⊢;simp only at he hB;have hqx:=hT.q (x:=x) (ks:=out) q1.1 ⟨h0,hlen⟩ (by rw [q2.nd h0 h1];exact hk.2) he hB hst.2.1;refine ⟨fun u y hu=>?_,hqx⟩;simp only [putC] at hu;by_cases hux:u=x
    ·rw [if_pos hux] at hu;cases hu;rw [hux];exact hqx
    ·rw [if_neg hux] at hu;exact hT.mono (hk.1.2 u y hu) (hT.ok.below q1.1) hst.2.1
   ·rw [walkM_err hc hr hre] at he;exact absurd he hre
theorem throughM_q {R:aF→Int→Prop} {Q:aF→Int→Int→Prop} (hT:TurnQ T I R Q) {A:aF} {id:Int} (h:I A sp ov) (he:(cA T A sp ov id).1.2=0):Q (cA T A sp ov id).2.1 id (cA T A sp ov id).1.1:=by
 unfold cA at he⊢;cases hk:hasK A id
 ·rw [hk] at he;simp at he
 ·have hk':=hasK_iff.1 hk;rw [hk] at he;exact (walkM_q hT (id.toNat+1) ⟨fun _=>none,A,sp,ov⟩ id ⟨⟨h,fun u y hu=>by cases hu⟩,fun u y hu=>by cases hu⟩ (by omega) hk'.1 hk'.2 he).2.2
def QN (vals:aM) (f:Bool→Bool) (A:aF) (x y:Int):Prop:=(0≤x∧x<(A.nodes.length:Int))∧(0≤y∧y<(A.nodes.length:Int))∧∀b,Tr vals A x b→Tr vals A y (f b)
theorem QN.mono {A A':aF} (h:QN vals f A x y) (hB:Below A.nodes) (he:Ext A A'):QN vals f A' x y:=by
 obtain ⟨h1,h2,h3⟩:=h;have:=he.len;exact⟨⟨h1.1,by omega⟩,⟨h2.1,by omega⟩,fun b hb=>(Tr.ext he hB h2 _).2 (h3 b ((Tr.ext he hB h1 _).1 hb))⟩
theorem joinM_rng {kind:Int} {A:aF} (h:aZ V nodes limbs A sp) (h5:kind=5∨kind=6) (he:(joinM A nodes limbs sp ov kind ks).1.2=0):0≤(joinM A nodes limbs sp ov kind ks).1.1∧(joinM A nodes limbs sp ov kind ks).1.1<((joinM A nodes limbs sp ov kind ks).2.1.nodes.length:Int):=by
 have h2:=h.inv.once.two;cases ha:ks.all (hasK A)
 ·rw [joinM_no h5 ha] at he;exact absurd he (by simp)
 rcases Nat.lt_trichotomy (cU ks).length 1 with hl|hl|hl
 ·rw [joinM_nil h5 ha (by omega)];simp only;split<;>omega
 ·rw [joinM_one h5 ha hl];exact hasK_iff.1 (kZ2.1 ha _ (dE.1 (cH 0 (by omega))))
 ·rw [joinM_many h5 ha hl] at he⊢;obtain ⟨q1,q2,q3⟩:=madeM_node h.inv ⟨by simp only;omega,by simp only;omega,fun h4=>by simp only at h4;omega,fun _=>⟨rfl,rfl⟩,fun _=>rfl⟩ he;exact⟨q1,q2⟩
theorem sjoinM_rng {kind:Int} {A:aF} (h:aZ V nodes limbs A sp) (h5:kind=5∨kind=6) (he:(cK A nodes limbs sp ov kind ks).1.2=0):0≤(cK A nodes limbs sp ov kind ks).1.1∧(cK A nodes limbs sp ov kind ks).1.1<((cK A nodes limbs sp ov kind ks).2.1.nodes.length:Int):=by
 have h2:=h.inv.once.two;have hrg:0≤allV kind∧allV kind<(A.nodes.length:Int):=by unfold allV;split<;>omega
 unfold cK at he⊢;split at he
 ·exact absurd he (by simp)
 rename_i ha;rw [if_neg ha];split at he
 ·rw [if_pos (by assumption)];exact hrg
 rename_i hm;rw [if_neg hm];split at he
 ·rw [if_pos (by assumption)];exact hrg
 rename_i hc;rw [if_neg hc];exact joinM_rng h h5 he
theorem bindM_rng {kind v k:Int} {A:aF} (h:aZ V nodes limbs A sp) (he:(dU A nodes limbs sp ov kind v k).1.2=0):0≤(dU A nodes limbs sp ov kind v k).1.1∧(dU A nodes limbs sp ov kind v k).1.1<((dU A nodes limbs sp ov kind v k).2.1.nodes.length:Int):=by
 by_cases h7:kind≠7∧kind≠8
 ·rw [bindM_bad h7] at he;exact absurd he (by simp)
 have h78:kind=7∨kind=8:=by omega
 cases ha:hasK A k
 ·rw [bindM_no h78 ha] at he;exact absurd he (by simp)
 rw [bindM_go h78 ha] at he⊢;obtain ⟨q1,q2,q3⟩:=madeM_node h.inv ⟨by simp only;omega,by simp only;omega,fun h4=>by simp only at h4;omega,fun _=>⟨rfl,rfl⟩,fun h5=>by simp only at h5;omega⟩ he;exact⟨q1,q2⟩
theorem turn_join {K:Int} {A:aF} (h0:0≤limbs) (h:aZ V nodes limbs A sp) (hx:0≤x∧x<(A.nodes.length:Int)) (h5:(ndA A x).kind=5∨(ndA A x).kind=6) (hK:K=5∨K=6) (hf:∀b c,f b=f c→b=c) (hc:decide (K=5)=f (decide ((ndA A x).kind=5))) (hn:∀b,f (!b)=!(f b)) (hks:Cov (QN vals f A) (ndA A x).kids ks) (he:(cK A nodes limbs sp ov K ks).1.2=0):QN vals f (cK A nodes limbs sp ov K ks).2.1 x (cK A nodes limbs sp ov K ks).1.1:=by
 have hcm:=sjoinM_came (ov:=ov) (kind:=K) (ks:=ks) h0 h;have hr:=sjoinM_rng h hK he;refine ⟨⟨hx.1,by have:=hcm.ext.len;omega⟩,hr,fun b hb=>?_⟩;have hb':=(Tr.ext hcm.ext h.below hx b).1 hb;have hkk:=kn_kids h.below hx h5 hb'.kn;have htk:=(tr_kids h.below hx h5 hkk).2;have hkl:KnL vals A ks:=fun y hy=>by
  obtain ⟨k,hk,q⟩:=hks.1 y hy;obtain ⟨d,hd⟩:=hkk k hk;exact⟨q.2.1,_,q.2.2 d hd⟩
 have hs:=sjoinM_says (ov:=ov) h0 h hK hkl he;have hall:AllC vals A K ks↔Tr vals A x (decide ((ndA A x).kind=5)):=by
  rw [htk];unfold AllC;rw [hc];constructor
  ·intro q k hk;obtain ⟨y,hy,hq⟩:=hks.2 k hk;obtain ⟨d,hd⟩:=hkk k hk;have:=hf _ _ (Tr.same (hq.2.2 d hd) (q y hy));rw [←this];exact hd
  ·intro q y hy;obtain ⟨k,hk,hq⟩:=hks.1 y hy;exact hq.2.2 _ (q k hk)
 have hs2:=hs.2.2.trans hall;rw [hc] at hs2;by_cases e:b=decide ((ndA A x).kind=5)
 ·rw [e] at hb'⊢;exact hs2.2 hb'
 ·have e2:b=!decide ((ndA A x).kind=5):=bool_not e;rw [e2,hn];refine hs.2.1.or _ fun q=>?_;rw [Bool.not_not] at q;exact e (Tr.same hb' (hs2.1 q))
theorem no_quant {A:aF} (h7:(ndA A x).kind=7∨(ndA A x).kind=8):¬Tr vals A x b:=fun h=>by
 have e:truthN vals A.nodes (x.toNat+1) x=if (ndA A x).kind=7∨(ndA A x).kind=8 then none else if (ndA A x).kind=5∨(ndA A x).kind=6 then kidsT (truthN vals A.nodes x.toNat) (ndA A x).kind (ndA A x).kids (decide ((ndA A x).kind=5)) else if (holdsR vals ⟨(ndA A x).kind,(ndA A x).d,(ndA A x).t⟩).2=0 then some (holdsR vals ⟨(ndA A x).kind,(ndA A x).d,(ndA A x).t⟩).1 else none:=rfl
 rw [if_pos h7] at e;unfold Tr at h;rw [e] at h;cases h
theorem atomM_says {A:aF} (h:aZ V nodes limbs A sp) (hX:SmallX V X) (hd:X.kind=3∨X.kind=4→0<X.d) (hk:dR vals X.t.parts) (he:(atomM A nodes limbs sp ov X).1.2=0):Tr vals (atomM A nodes limbs sp ov X).2.1 (atomM A nodes limbs sp ov X).1.1 (soA (valF vals) X):=by
 have hc:=atomM_came (ov:=ov) hX h;have hb:=small_normR (k:=X.kind) hX.1 hX.2 (by decide);unfold atomM at he hc⊢;obtain ⟨k,d,⟨l,z⟩⟩:=X;simp only at hb hd he hc⊢;have hs:=fun (h0:(bT ⟨k,d,⟨l,z⟩⟩).1=0)=>soA_norm (vals:=vals) (X:=⟨k,d,⟨l,z⟩⟩) h0 hd hk;obtain ⟨⟨e,B⟩,hr⟩:∃r,r=bT ⟨k,d,⟨l,z⟩⟩:=⟨_,rfl⟩;rw [←hr] at hb he hc hs⊢;simp only at hb hs;by_cases h0:e=0
 ·subst h0;obtain ⟨hs1,hs2⟩:=hs rfl;rw [←hs2];by_cases hkd:B.kind≤1
  ·rw [atomR_const hkd];have hB0:=hb.kind;have:=tr_const vals h (x:=B.kind) (by omega);have e1:soA (valF vals) B=decide (B.kind=1):=by
    unfold soA isR;rw [if_neg (by omega),if_neg (by omega)]
   rw [e1];exact this
  ·rw [atomR_go hkd] at he hc⊢;have hf:=(fine_of_small (A:=A) hb (by omega)).form;obtain ⟨q1,q2,q3⟩:=madeM_node h.inv hf he;have q4:ndA (madeM A nodes limbs sp ov (nodeB B) ((numsB B).map intX)).2.1 (madeM A nodes limbs sp ov (nodeB B) ((numsB B).map intX)).1.1=nodeB B:=q3;have h4:(nodeB B).kind≤4:=by have:=hb.kind;simp only [nodeB];omega
   have ht:=tr_atom (vals:=vals) hc.ok ⟨q1,q2⟩ (by rw [q4];exact h4);rw [q4] at ht;exact ht.2 (ht.1.2 hs1)
 ·rw [atomR_err h0] at he;exact absurd he h0
theorem negV_d (h:bT X=(0,X)) (hd:X.kind=3∨X.kind=4→0<X.d) (hkd:0≤X.kind∧X.kind≤4):(negV X).kind=3∨(negV X).kind=4→0<(negV X).d:=by
 have htr:∀b,¬((cV b).kind=3∨(cV b).kind=4):=fun b=>by unfold cV;simp only;split<;>omega
 unfold negV;rw [h,if_neg (by simp)];simp only;by_cases h0:X.kind=0∨X.kind=1
 ·rw [if_pos h0];exact fun q=>absurd q (htr _)
 rw [if_neg h0];by_cases h2:X.kind=2
 ·rw [if_pos h2];unfold lessV;split
  ·exact fun q=>absurd q (htr _)
  ·intro q;simp only at q;omega
 ·rw [if_neg h2];have hd0:=hd (by omega);unfold dV;rw [if_neg (by omega)];simp only;unfold bY;split
  ·exact fun q=>absurd q (htr _)
  split
  ·exact fun q=>absurd q (htr _)
  split
  ·exact fun q=>absurd q (htr _)
  ·exact fun _=>partD_pos (by omega)
theorem neg_q (vals:aM) (h0:0≤limbs) (hl:limbs≤8) (hV:V.length≤262144):TurnQ (negT nodes limbs) (SimpJ V nodes limbs) AltR (QN vals (!·)):=by
 refine ⟨negT_ok h0 hl hV,fun {A sp ov x ks} hI hx hks he hB hext=>?_,fun q hB k=>q.mono hB k⟩;have h:aZ V nodes limbs A sp:=hI;unfold negT at he hB hext⊢;by_cases h5:(ndA A x).kind=5
 ·rw [if_pos h5] at he⊢;exact turn_join h0 h hx (.inl h5) (.inr rfl) (fun b c q=>by cases b<;>cases c<;>simp_all) (by rw [h5];rfl) (fun b=>rfl) hks he
 rw [if_neg h5] at he hB hext⊢;by_cases h6:(ndA A x).kind=6
 ·rw [if_pos h6] at he⊢;exact turn_join h0 h hx (.inr h6) (.inl rfl) (fun b c q=>by cases b<;>cases c<;>simp_all) (by rw [h6];rfl) (fun b=>rfl) hks he
 rw [if_neg h6] at he hB hext⊢;have hkd:=h.kinds hx.1 hx.2;by_cases h7:(ndA A x).kind=7
 ·rw [if_pos h7] at he hext⊢;obtain ⟨q1,q2⟩:=h.one hx.1 hx.2 (.inl h7);have hr:=bindM_rng h he;exact⟨⟨hx.1,by have:=hext.len;omega⟩,hr,fun b hb=>absurd ((Tr.ext hext h.below hx b).1 hb) (no_quant (.inl h7))⟩
 rw [if_neg h7] at he hB hext⊢;by_cases h8:(ndA A x).kind=8
 ·rw [if_pos h8] at he hext⊢;have hr:=bindM_rng h he;exact⟨⟨hx.1,by have:=hext.len;omega⟩,hr,fun b hb=>absurd ((Tr.ext hext h.below hx b).1 hb) (no_quant (.inr h8))⟩
 rw [if_neg h8] at he hB hext⊢;have h4:(ndA A x).kind≤4:=by omega
 have hX:=(h.negX hl hV hx.1 hx.2).toX (by decide) (bZ2 _);obtain ⟨f1,f2,f3⟩:=h.formA hx h4;have hc:=atomM_alt h hX (atomM_came (ov:=ov) hX h) he;refine ⟨⟨hx.1,by have:=hext.len;omega⟩,hc.1,fun b hb=>?_⟩;have hb':=(Tr.ext hext h.below hx b).1 hb;have ha:=tr_atom (vals:=vals) h hx h4;have hb2:=Tr.same hb' (ha.2 hb'.kn);have hn:=soA_neg (vals:=vals) f1 f2 f3 (ha.1.1 hb'.kn) ⟨hkd.1,h4⟩;have:=atomM_says (vals:=vals) h hX (negV_d f1 f3 ⟨hkd.1,h4⟩) hn.1 he;rw [hn.2] at this;rw [hb2];exact this
theorem again_q (vals:aM) (h0:0≤limbs):TurnQ (cY nodes limbs) (SimpJ V nodes limbs) AltR (QN vals id):=by
 refine ⟨againT_ok h0,fun {A sp ov x ks} hI hx hks he hB hext=>?_,fun q hB k=>q.mono hB k⟩;have h:aZ V nodes limbs A sp:=hI;unfold cY at he hB hext⊢;by_cases h5:(ndA A x).kind=5∨(ndA A x).kind=6
 ·rw [if_pos h5] at he⊢;exact turn_join h0 h hx h5 h5 (fun b c q=>q) rfl (fun b=>rfl) hks he
 rw [if_neg h5] at he hB hext⊢;by_cases h7:(ndA A x).kind=7∨(ndA A x).kind=8
 ·rw [if_pos h7] at he hext⊢;have hr:=bindM_rng h he;exact⟨⟨hx.1,by have:=hext.len;omega⟩,hr,fun b hb=>absurd ((Tr.ext hext h.below hx b).1 hb) (no_quant h7)⟩
 ·rw [if_neg h7];exact⟨hx,hx,fun b hb=>hb⟩
end
end Go.Proofs.Q
