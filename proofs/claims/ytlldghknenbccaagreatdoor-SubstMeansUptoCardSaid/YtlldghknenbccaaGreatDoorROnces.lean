/- An atom that stands as it should stays as it is: plain laws. -/
import Derived.Test.YtlldghknenbccaaGreatDoorRBuiltsB
set_option linter.unusedSimpArgs false
set_option linter.unusedVariables false
namespace Go.Proofs.Q
section
variable {m d:Int} {c f:Int→Int} {X T:aV} {zs:List Int} {l:aM} {g:Nat} {p:Int × Int}
theorem aEY (a b:Int):fT b a=- fT a b:=by
 unfold fT;by_cases h1:a<b
 ·rw [if_neg (show ¬b<a by omega),if_pos h1,if_pos h1];rfl
 ·by_cases h2:b<a
  ·rw [if_pos h2,if_neg h1,if_pos h2]
  ·rw [if_neg h2,if_neg h1,if_neg h1,if_neg h2];rfl
theorem aFP:∀a b:aM,cmpL b a=- cmpL a b
 | [],[]=>rfl
 | [],_::_=>rfl
 | _::_,[]=>rfl
 | p::a,q::b=>by
  have ih:=aFP a b;have hz:=aEY p.2 q.2;simp only [cmpL];rw [hz,ih];by_cases h1:p.1<q.1
  ·rw [if_neg (show ¬q.1<p.1 by omega),if_pos h1,if_pos h1];rfl
  ·by_cases h2:q.1<p.1
   ·rw [if_pos h2,if_neg h1,if_pos h2]
   ·rw [if_neg h2,if_neg h1,if_neg h1,if_neg h2];by_cases h3:fT p.2 q.2=0
    ·rw [if_neg (show ¬(-fT p.2 q.2≠0) by omega),if_neg (show ¬(fT p.2 q.2≠0) by omega)]
    ·rw [if_pos (show -fT p.2 q.2≠0 by omega),if_pos h3]
theorem aUW (a b:aV):kE b a=- kE a b:=by
 unfold kE;rw [aFP a.parts b.parts,aEY a.k b.k];by_cases h:cmpL a.parts b.parts=0
 ·rw [if_neg (show ¬(-cmpL a.parts b.parts≠0) by omega),if_neg (show ¬(cmpL a.parts b.parts≠0) by omega)]
 ·rw [if_pos (show -cmpL a.parts b.parts≠0 by omega),if_pos h]
theorem aGR {d:Nat} (h:∀z∈zs,(d:Int)∣z):d∣fH zs:=by
 have hd:∀(l:List Int) (a:Nat),d∣a→(∀z∈l,(d:Int)∣z)→d∣l.foldl (fun a z=>Nat.gcd a z.natAbs) a:=by
  intro l;induction l with
  | nil=>intro a ha _;exact ha
  | cons y l ih=>
   intro a ha hl;rw [List.foldl_cons];exact ih _ (Nat.dvd_gcd ha (Int.ofNat_dvd_left.1 (hl y (kZ1 ..)))) fun z hz=>hl z (lZ1 _ hz)
 exact hd zs 0 (Nat.dvd_zero d) h
theorem aFU (hg:g=fH zs) (h0:0<g):fH (zs.map fun z=>z.fdiv (g:Int))=1:=by
 obtain ⟨h,hh⟩:∃h,h=fH (zs.map fun z=>z.fdiv (g:Int)):=⟨_,rfl⟩;have h1:h*g∣fH zs:=aGR fun z hz=>by
  have q1:=DT _ _ (iZ2.2 ⟨z,hz,rfl⟩:z.fdiv (g:Int)∈zs.map fun z=>z.fdiv (g:Int));rw [←hh] at q1;obtain ⟨k,hk⟩:=q1;have q2:(g:Int)∣z:=hg ▸ DT zs z hz;obtain ⟨t,ht⟩:=q2;have e:z.fdiv (g:Int)=t:=by rw [ht];exact Int.mul_fdiv_cancel_left t zZ
  refine ⟨k,?_⟩;rw [ht,←e,hk,Int.natCast_mul,Int.mul_comm (h:Int) (g:Int),Int.mul_assoc]
 rw [←hg] at h1;rw [←hh];have h2:h*g≤g:=Nat.le_of_dvd h0 h1;have h3:h≤1:=Nat.le_of_mul_le_mul_right (show h*g≤1*g by omega) h0;have h4:h≠0:=fun e=>by rw [e,Nat.zero_mul] at h1;have:=Nat.eq_zero_of_zero_dvd h1;omega
 omega
theorem QD (h:∀p∈l,c p.2=p.2):fG c l=l:=wG
theorem aFH (c f:Int→Int) (l:aM):fG c (fG f l)=fG (fun x=>c (f x)) l:=by simp [fG]
theorem aTI (h:∀p∈l,c p.2=f p.2):fG c l=fG f l:=wG
theorem aVD (x:Int) (l:aM):mulL x l=fG (fun c=>x*c) l:=rfl
theorem II:p∈fG c l↔∃q∈l,(q.1,c q.2)=p:=by simp [fG]
theorem OG (h:l.Pairwise (fun a b=>a.1<b.1)) (hc:∀p∈l,c p.2≠0):fF (fG c l):=⟨NA h c,fun p hp=>by obtain ⟨q,hq,rfl⟩:=II.1 hp;exact hc q hq⟩
theorem FY (h:T.parts.Pairwise (fun a b=>a.1<b.1)) (hc:∀p∈T.parts,c p.2≠0):jO T c f=⟨fG c T.parts,f T.k⟩:=eE (T:=⟨fG c T.parts,f T.k⟩) (OG h hc)
theorem aBV (c:Int→Int) (l:aM) (k:Int):cH ⟨fG c l,k⟩=(cH ⟨l,k⟩).map c:=by simp [cH,fG]
theorem aIR {c:Int} (h0:0<g) (hd:(g:Int)∣c) (hc:c≠0):c.fdiv (g:Int)≠0:=by
 obtain ⟨t,rfl⟩:=hd;rw [Int.mul_fdiv_cancel_left t zZ];rintro rfl;exact hc (Int.mul_zero _)
theorem aSH (h:fF T.parts) (hk:2≤(iG T).kind):iG (bC (iG T).t)=iG T:=by
 unfold iG at hk⊢;by_cases hn:T.parts=[]
 ·rw [if_pos hn] at hk;unfold eA at hk;simp only at hk;split at hk<;>omega
 rw [if_neg hn] at hk⊢;obtain ⟨g,hg⟩:∃g,g=fH (cH T):=⟨_,rfl⟩;rw [←hg];obtain ⟨p0,hp0⟩:=List.exists_mem_of_ne_nil _ hn;have h0:0<g:=hg ▸ PS ⟨p0.2,iZ2.2 ⟨p0,hp0,rfl⟩,h.some p0 hp0⟩;have hdv:∀p∈T.parts,(g:Int)∣p.2:=fun p hp=>hg ▸ DT _ _ (iZ2.2 ⟨p,hp,rfl⟩);have hne:∀p∈T.parts,p.2.fdiv (g:Int)≠0:=fun p hp=>aIR h0 (hdv p hp) (h.some p hp);rw [FY h.rising hne];have hN:=OG (c:=fun c=>c.fdiv (g:Int)) h.rising hne;simp only;rw [eE (T:=⟨fG (fun c=>c.fdiv (g:Int)) T.parts,(T.k-1).fdiv (g:Int)+1⟩) hN];have h1:fH (cH ⟨fG (fun c=>c.fdiv (g:Int)) T.parts,(T.k-1).fdiv (g:Int)+1⟩)=1:=by
  rw [aBV];exact aFU (zs:=cH ⟨T.parts,_⟩) hg h0
 rw [if_neg (by simp only;intro e;exact hn (by simpa [fG] using e)),h1];rw [FY hN.rising fun p hp=>by rw [show ((1:Nat):Int)=1 from rfl,Int.fdiv_one];exact hN.some p hp];rw [QD fun p _=>by rw [show ((1:Nat):Int)=1 from rfl,Int.fdiv_one]];simp only [show ((1:Nat):Int)=1 from rfl,Int.fdiv_one];congr 2;omega
structure oG (m:Int) (X:aV):Prop where
 fZ:fF X.parts
 mid:∀p∈X.parts,0<p.2∧p.2<m
 k:0≤X.k∧X.k<m
 some:X.parts≠[]
 gcd:fH (cH X++[m])=1
def kR (m:Int) (X:aV):aV:=⟨fG (fun c=>m-c) X.parts,if X.k=0 then 0 else m-X.k⟩
theorem fmod_neg {x:Int} (h0:0<x) (h1:x<m):(-x).fmod m=m-x:=by
 rw [Int.fmod_eq_emod_of_nonneg _ zZ,show -x=(m-x)+m*(-1) by omega,Int.add_mul_emod_self_left];exact Int.emod_eq_of_lt zZ zZ
theorem oG.neg (h:oG m X):oG m (kR m X):=by
 have hm:∀p∈X.parts,m-p.2≠0:=fun p hp=>by have:=h.mid p hp;omega
 refine ⟨OG h.fZ.rising hm,fun p hp=>?_,?_,fun e=>h.some (by simpa [kR,fG] using e),?_⟩
 ·obtain ⟨q,hq,rfl⟩:=II.1 hp;have:=h.mid q hq;simp only;omega
 ·have:=h.k;unfold kR;simp only;split<;>omega
 ·obtain ⟨g,hg⟩:∃g,g=fH (cH (kR m X)++[m]):=⟨_,rfl⟩;rw [←hg];have hd:=DT (cH (kR m X)++[m]);rw [←hg] at hd;have hgm:(g:Int)∣m:=hd m zW;have h1:g∣fH (cH X++[m]):=aGR fun z hz=>by
   rcases jZ1.1 hz with hz|hz
   ·obtain ⟨p,hp,rfl⟩:=iZ2.1 hz;have h2:=hd (m-p.2) (jZ1.2 (.inl (iZ2.2 ⟨(p.1,m-p.2),II.2 ⟨p,hp,rfl⟩,rfl⟩)));have h3:=Int.dvd_sub hgm h2;rwa [show m-(m-p.2)=p.2 by omega] at h3
   ·rw [dZ1.1 hz];exact hgm
  rw [h.gcd] at h1;exact Nat.dvd_one.1 h1
theorem aUN (h:oG m X):kR m (kR m X)=X:=by
 obtain ⟨l,k⟩:=X;unfold kR;simp only;rw [aFH,QD fun p _=>zZ];have:=h.k;simp only at this;congr 1;by_cases hk:k=0
 ·rw [if_pos hk,if_pos rfl,hk]
 ·rw [if_neg hk,if_neg zZ];omega
theorem VR (h:oG m X):dU m X=X:=by
 have e:∀p∈X.parts,p.2.fmod m=p.2:=fun p hp=>Int.fmod_eq_of_lt (by have:=h.mid p hp;omega) (h.mid p hp).2;unfold dU;rw [FY h.fZ.rising fun p hp=>by rw [e p hp];exact h.fZ.some p hp,QD e,Int.fmod_eq_of_lt h.k.1 h.k.2]
theorem VQ (h:oG m X):gB m X=1:=by unfold gB;rw [VR h];exact h.gcd
theorem aEI (h:oG m X):dE m X=X:=by
 unfold dE;rw [VR h,VQ h];have e:∀p∈X.parts,p.2.fdiv ((1:Nat):Int)=p.2:=fun p _=>Int.fdiv_one _;rw [FY h.fZ.rising fun p hp=>by rw [e p hp];exact h.fZ.some p hp,QD e,show X.k.fdiv ((1:Nat):Int)=X.k from Int.fdiv_one _]
theorem aEU (h:oG m X):eC m X=m:=by unfold eC;rw [VQ h];exact Int.fdiv_one _
theorem aGH (h:oG m X):dU m (gU (-1) X 0 bK)=kR m X:=by
 rw [aHQ X h.fZ,aVD];have e:∀p∈X.parts,((-1)*p.2).fmod m=m-p.2:=fun p hp=>by rw [show (-1)*p.2=-p.2 by omega];exact fmod_neg (h.mid p hp).1 (h.mid p hp).2
 unfold dU;rw [FY (NA h.fZ.rising _) fun p hp=>by
  obtain ⟨q,hq,rfl⟩:=II.1 hp;have h1:=e q hq;have h2:=h.mid q hq;simp only at h1⊢;omega]
 simp only;rw [aFH,aTI (f:=fun c=>m-c) e];unfold kR;congr 1;have hk:=h.k;by_cases h0:X.k=0
 ·rw [if_pos h0,h0];exact Int.zero_fmod m
 ·rw [if_neg h0];exact fmod_neg zZ hk.2
theorem aTZ (h:oG m X):iJ m X=kR m X:=by unfold iJ;rw [aEI h,aEU h];exact aGH h
theorem aVQ (h0:0<d) (hT:fF T.parts) (h1:(dU d T).parts≠[]) (h2:(dU d T).k.fmod (gB d T:Int)=0):oG (eC d T) (dE d T):=by
 have hg:=GZ (T:=T) h0;obtain ⟨m,hm⟩:=VA d T;have hD:eC d T=m:=tH;have hPn:fF (dU d T).parts:=mP _;have hmid:∀p∈(dU d T).parts,0<p.2∧p.2<d:=fun p hp=>by
  have hne:=hPn.some p hp;obtain ⟨q,hq,rfl⟩:=aDD hT p hp;have h3:=Int.fmod_nonneg_of_pos q.2 h0;have h4:=Int.fmod_lt_of_pos q.2 h0;simp only at hne⊢;omega
 have hPk:0≤(dU d T).k∧(dU d T).k<d:=⟨Int.fmod_nonneg_of_pos _ h0,Int.fmod_lt_of_pos _ h0⟩;have hdv:∀p∈(dU d T).parts,(gB d T:Int)∣p.2:=fun p hp=>DT _ _ (jZ1.2 (.inl (iZ2.2 ⟨p,hp,rfl⟩)));have hdk:(gB d T:Int)∣(dU d T).k:=by
  rw [Int.fmod_eq_emod_of_nonneg _ zZ] at h2;exact Int.dvd_of_emod_eq_zero h2
 have hne:∀p∈(dU d T).parts,p.2.fdiv (gB d T:Int)≠0:=fun p hp=>aIR hg (hdv p hp) (hPn.some p hp);have hC:dE d T=⟨fG (fun c=>c.fdiv (gB d T:Int)) (dU d T).parts,(dU d T).k.fdiv (gB d T:Int)⟩:=FY hPn.rising hne;have hcut:∀x:Int,(gB d T:Int)∣x→x<d→x.fdiv (gB d T:Int)<m∧(0≤x→0≤x.fdiv (gB d T:Int)):=fun x hx hlt=>by
  obtain ⟨t,rfl⟩:=hx;rw [Int.mul_fdiv_cancel_left t zZ];have hlt2:(gB d T:Int)*t<(gB d T:Int)*m:=by rw [←hm];exact hlt
  refine ⟨Int.lt_of_mul_lt_mul_left hlt2 zZ,fun hp=>?_⟩;rcases Int.lt_or_le t 0 with h|h
  ·have:=Int.mul_neg_of_pos_of_neg (show (0:Int)<(gB d T:Int) by omega) h;omega
  ·exact h
 rw [hC,hD];refine ⟨OG (c:=fun c=>c.fdiv (gB d T:Int)) hPn.rising hne,fun p hp=>?_,?_,fun e=>h1 (by simpa [fG] using e),?_⟩
 ·obtain ⟨q,hq,rfl⟩:=(II (c:=fun c=>c.fdiv (gB d T:Int))).1 hp;have q1:=hcut q.2 (hdv q hq) (hmid q hq).2;have q2:=hne q hq;have q3:=q1.2 (by have:=hmid q hq;omega);simp only;omega
 ·have q1:=hcut _ hdk hPk.2;exact⟨q1.2 hPk.1,q1.1⟩
 ·rw [aBV,←hD];have:=aFU (zs:=cH (dU d T)++[d]) (g:=gB d T) rfl hg;rw [cZ2] at this;exact this
theorem aAG {no:Bool} (h0:0<d) (hT:fF T.parts) (hk:2≤(cC d T no).kind):0<(cC d T no).d∧(cC d T no).kind=(if no then 4 else 3)∧bC (cC d T no).t=(cC d T no).t∧cC (cC d T no).d (cC d T no).t no=cC d T no:=by
 have htr:∀b,¬(2≤(eA b).kind):=fun b=>by unfold eA;simp only;split<;>omega
 by_cases h1:(dU d T).parts=[]
 ·unfold cC at hk;rw [if_pos h1] at hk;exact absurd hk (htr _)
 by_cases h2':(dU d T).k.fmod (gB d T:Int)≠0
 ·unfold cC at hk;rw [if_neg h1,if_pos h2'] at hk;exact absurd hk (htr _)
 have h2:(dU d T).k.fmod (gB d T:Int)=0:=Decidable.not_not.1 h2';by_cases h3:eC d T=1
 ·unfold cC at hk;rw [if_neg h1,if_neg h2',if_pos h3] at hk;exact absurd hk (htr _)
 have hC:=aVQ h0 hT h1 h2;have hO:iJ d T=kR (eC d T) (dE d T):=aGH hC;have e:cC d T no=⟨if no then 4 else 3,eC d T,if kE (iJ d T) (dE d T)<0 then iJ d T else dE d T⟩:=by unfold cC;rw [if_neg h1,if_neg h2',if_neg h3]
 have hm:=GV (T:=T) h0;obtain ⟨m,hm2⟩:∃m,m=eC d T:=⟨_,rfl⟩;obtain ⟨C,hC2⟩:∃C,C=dE d T:=⟨_,rfl⟩;rw [←hm2,←hC2] at hO hC;rw [←hm2] at hm h3;rw [e,hO,←hm2,←hC2];clear e hO hC2 hm2 h1 h2 h2' hT hk;obtain ⟨X,hX⟩:∃X,X=if kE (kR m C) C<0 then kR m C else C:=⟨_,rfl⟩
 have hSX:oG m X∧¬kE (kR m X) X<0:=by
  rw [hX];by_cases hc:kE (kR m C) C<0
  ·rw [if_pos hc];refine ⟨hC.neg,?_⟩;rw [aUN hC];have:=aUW (kR m C) C;omega
  ·rw [if_neg hc];exact⟨hC,hc⟩
 rw [←hX];clear hX hC;refine ⟨hm,rfl,eE hSX.1.fZ,?_⟩;simp only;unfold cC;rw [VR hSX.1,VQ hSX.1,aEU hSX.1,aTZ hSX.1,aEI hSX.1,if_neg hSX.1.some,if_neg (by rw [show ((1:Nat):Int)=1 from rfl];simp),if_neg h3,if_neg hSX.2]
theorem aBS {A:aY} (h:(bJ A).1=0) (hk:2≤(bJ A).2.kind):bJ (bJ A).2=bJ A:=by
 by_cases h0:A.kind=0∨A.kind=1
 ·rw [eH h0] at hk;simp only at hk;omega
 by_cases h2:A.kind=2
 ·rw [CG h2] at hk⊢;simp only at hk⊢;have e2:(iG (bC A.t)).kind=2:=by
   unfold iG at hk⊢;split at hk
   ·unfold eA at hk;simp only at hk;split at hk<;>omega
   ·rw [if_neg sW]
  rw [CG e2,aSH (mP _) hk]
 by_cases h3:A.kind=3∨A.kind=4
 ·rw [oJ h3] at h hk⊢;unfold jN at h hk⊢;by_cases hd:A.d=0
  ·rw [if_pos hd] at h;simp at h
  rw [if_neg hd] at hk⊢;simp only at hk⊢;obtain ⟨q1,q2,q3,q4⟩:=aAG (d:=(A.d.natAbs:Int)) (T:=bC A.t) (no:=decide (A.kind=4)) zZ (mP _) hk;obtain ⟨B,hB⟩:∃B,B=cC (A.d.natAbs:Int) (bC A.t) (decide (A.kind=4)):=⟨_,rfl⟩;rw [←hB] at q1 q2 q3 q4⊢;have e4:decide (B.kind=4)=decide (A.kind=4):=by
   rw [q2];by_cases h4:A.kind=4
   ·simp [h4]
   ·simp [h4]
  rw [oJ (by rw [q2];split;exact .inr rfl;exact .inl rfl)];unfold jN;rw [if_neg zZ,e4,q3,show ((B.d.natAbs:Nat):Int)=B.d by omega,q4]
 ·rw [DK zZ zZ h2 zZ zZ] at h;simp at h
end
theorem FW {α:Type} (l t:List α) (d:α) {i:Nat} (h:i<l.length):(l++t).getD i d=l.getD i d:=wP
structure LP (N:aS):Prop where
 atom:N.kind≤4→2≤N.kind∧bJ ⟨N.kind,N.d,N.t⟩=(0,⟨N.kind,N.d,N.t⟩)∧N=gH ⟨N.kind,N.d,N.t⟩
 join:N.kind=5∨N.kind=6→2≤N.kids.length∧N=⟨N.kind,0,bK,0,N.kids⟩
 bind:N.kind=7∨N.kind=8→N=⟨N.kind,0,bK,N.var,[N.kids.getD 0 0]⟩
def fM (P:aS→Prop) (A:aC):Prop:=∀i,2≤i→i<A.nodes.length→P (A.nodes.getD i aP)
theorem fM.add {P:aS→Prop} {A:aC} {N:aS} (h:fM P A) (hN:P N):fM P (fQ A N):=fun i h2 hi=>by
 simp only [fQ,aZ1,gZ1,gZ2] at hi⊢;rcases Nat.lt_or_ge i A.nodes.length with h1|h1
 ·rw [eB _ _ _ h1];exact h i h2 h1
 ·obtain rfl:i=A.nodes.length:=zZ;rw [dM];exact hN
theorem LP.bBJ {X B:aY} (h:bJ X=(0,B)) (hk:2≤B.kind) (h4:B.kind≤4):LP (gH B):=by
 have h1:=aBS (A:=X) (by rw [h]) (by rw [h];exact hk);rw [h] at h1;exact⟨fun _=>⟨hk,h1,rfl⟩,fun h5=>by simp only [gH] at h5;omega,fun h5=>by simp only [gH] at h5;omega⟩
structure kC (V:List Int) (limbs:Int) (N:aS):Prop where
 again:LP N
 fZ:fF N.t.parts
 vars:∀p∈N.t.parts,p.1∈V
 nums:∀p∈N.t.parts,(eP p.2.natAbs:Int)≤limbs
 k:(eP N.t.k.natAbs:Int)≤limbs
 d:(eP N.d.natAbs:Int)≤limbs
 var:I64 N.var
theorem BL:fF []:=⟨List.Pairwise.nil,fun p hp=>absurd hp hZ2⟩
theorem aNP {d:Int} {T:aV} {no:Bool}:fF (cC d T no).t.parts:=by
 unfold cC;split
 ·exact BL
 split
 ·exact BL
 split
 ·exact BL
 ·simp only;split
  ·exact mP _
  ·exact mP _
theorem aRT (X:aY):fF (bJ X).2.t.parts:=by
 by_cases h0:X.kind=0∨X.kind=1
 ·rw [eH h0];exact BL
 by_cases h2:X.kind=2
 ·rw [CG h2];simp only;unfold iG;split
  ·exact BL
  ·exact mP _
 by_cases h3:X.kind=3∨X.kind=4
 ·rw [oJ h3];unfold jN;split
  ·exact BL
  ·exact aNP
 ·rw [DK zZ zZ h2 zZ zZ];exact BL
theorem MK {V:List Int} {l:aM} (h:fF l) (hv:∀p∈l,p.1∈V):l.length≤V.length:=by
 have:=PY (V:=V) (l:=l.map (·.1)) (KF (List.pairwise_map.2 h.rising)) fun x hx=>by obtain ⟨p,hp,rfl⟩:=iZ2.1 hx;exact hv p hp
 simpa using this
section
variable {V ids ks:List Int} {limbs nodes sp ov kind:Int} {xs:List (Bool × List Nat)} {P:aS→Prop} {N:aS} {m:dO} {X:aY}
theorem IB {A:aC}:∃t,(cU A nodes limbs sp ov N xs).2.1.nodes=A.nodes++t:=by
 unfold cU;cases fK A.nodes (bB N) with
 | some i=>exact⟨[],zW⟩
 | none=>
  simp only [];split
  ·exact⟨[N],rfl⟩
  ·exact rI
theorem aTU {A:aC}:∃t,(jQ A nodes limbs sp ov ids m).2.1.nodes=A.nodes++t:=by
 have hj:∀kind ks,∃t,(dW A nodes limbs sp ov kind ks).2.1.nodes=A.nodes++t:=fun kind ks=>by
  unfold dW;split
  ·exact rI
  split
  ·exact rI
  split
  ·exact rI
  split
  ·exact IB
  ·exact rI
 have hb:∀kind v k,∃t,(dY A nodes limbs sp ov kind v k).2.1.nodes=A.nodes++t:=fun kind v k=>by
  unfold dY;split
  ·exact rI
  split
  ·exact rI
  ·exact IB
 unfold jQ;split
 ·unfold cX mY;split
  ·exact rI
  split
  ·exact rI
  ·exact IB
 split
 ·exact hj ..
 split
 ·exact hj ..
 split
 ·exact hb ..
 ·exact hb ..
theorem aCT {nodes limbs:Int}:∀{l:List dO} {s:St},∃t,(jY nodes limbs s l).A.nodes=s.A.nodes++t
 | [],s=>⟨[],by simp [jY]⟩
 | m::l,s=>by
  obtain ⟨t,ht⟩:=aCT (nodes:=nodes) (limbs:=limbs) (l:=l) (s:=kS nodes limbs s m);obtain ⟨t2,ht2⟩:=aTU (A:=s.A) (nodes:=nodes) (limbs:=limbs) (sp:=s.sp) (ov:=s.ov) (ids:=s.ids) (m:=m);refine ⟨t2++t,?_⟩;rw [show jY nodes limbs s (m::l)=jY nodes limbs (kS nodes limbs s m) l from rfl,ht,show (kS nodes limbs s m).A=(jQ s.A nodes limbs s.sp s.ov s.ids m).2.1 from rfl,ht2,mZ2]
theorem OO {A:aC} (h:fM P A) (hN:great limbs xs=false→P N):fM P (cU A nodes limbs sp ov N xs).2.1:=by
 unfold cU;cases fK A.nodes (bB N) with
 | some i=>exact h
 | none=>
  simp only [];by_cases he:(dN nodes limbs sp ov xs).2.2=0
  ·rw [if_pos he];exact h.add (hN (aHY he).2.2.1)
  ·rw [if_neg he];exact h
theorem aSO {L n:Nat} {B:aY} (h:bJ X=(0,B)) (hb:FH L n V B) (hk:2≤B.kind) (hg:great limbs ((jD B).map lH)=false):kC V limbs (gH B):=by
 have hn:=aRT X;rw [h] at hn;rw [aDE,List.any_eq_false] at hg;have hg2:∀z∈jD B,(eP z.natAbs:Int)≤limbs:=fun z hz=>by have:=hg z hz;simp at this;exact this
 refine ⟨LP.bBJ h hk hb.kind.2,hn,hb.t.vars,fun p hp=>hg2 _ ?_,hg2 _ ?_,hg2 _ ?_,?_⟩
 ·exact jZ1.2 (.inr (iZ2.2 ⟨p,hp,rfl⟩))
 ·simp [jD,gH]
 ·simp [jD,gH]
 ·show I64 0
  unfold I64;omega
theorem aCR {v:Int} (h0:0≤limbs) (hv:I64 v) (h:LP ⟨kind,0,bK,v,ks⟩):kC V limbs ⟨kind,0,bK,v,ks⟩:=
 ⟨h,⟨List.Pairwise.nil,fun p hp=>absurd hp hZ2⟩,fun p hp=>absurd hp hZ2,fun p hp=>absurd hp hZ2,by simp [bK,nY];exact h0,by simp [nY];exact h0,hv⟩
theorem aFR {A:aC} (h:fM (kC V limbs) A) (hX:jM V X):fM (kC V limbs) (cX A nodes limbs sp ov X).2.1:=by
 have hb:=nJ (k:=X.kind) hX.1 hX.2 zY;unfold cX;obtain ⟨k,d,⟨l,z⟩⟩:=X;simp only at hb⊢;obtain ⟨⟨e,B⟩,hr⟩:∃r,r=bJ ⟨k,d,⟨l,z⟩⟩:=⟨_,rfl⟩;rw [←hr] at hb⊢;simp only at hb;by_cases he:e=0
 ·subst he;by_cases hk:B.kind≤1
  ·rw [BD hk];exact h
  ·rw [AA hk];exact OO h fun hg=>aSO hr.symm hb zZ hg
 ·rw [KM he];exact h
theorem VD {A:aC} (h0:0≤limbs) (h:fM (kC V limbs) A):fM (kC V limbs) (dW A nodes limbs sp ov kind ks).2.1:=by
 unfold dW;split
 ·exact h
 rename_i h5;split
 ·exact h
 split
 ·exact h
 split
 ·rename_i hl;exact OO h fun _=>aCR h0 vS ⟨fun h4=>xL,fun _=>⟨hl,rfl⟩,fun h7=>by simp only at h7;omega⟩
 ·exact h
theorem UR {A:aC} {v k:Int} (h0:0≤limbs) (hv:I64 v) (h:fM (kC V limbs) A):fM (kC V limbs) (dY A nodes limbs sp ov kind v k).2.1:=by
 unfold dY;split
 ·exact h
 rename_i h7;split
 ·exact h
 ·exact OO h fun _=>aCR h0 hv ⟨fun h4=>xL,fun h5=>sV,fun _=>rfl⟩
theorem aWA {A:aC} (h0:0≤limbs) (h:fM (kC V limbs) A) (hX:jM V m.x):fM (kC V limbs) (jQ A nodes limbs sp ov ids m).2.1:=by
 have hv:I64 (BX m):=sM;unfold jQ;split
 ·exact aFR h hX
 split
 ·exact VD h0 h
 split
 ·exact VD h0 h
 split
 ·exact UR h0 hv h
 ·exact UR h0 hv h
theorem aCX {V:List Int} {nodes limbs:Int} (h0:0≤limbs):∀{l:List dO} {s:St},fM (kC V limbs) s.A→(∀m∈l,jM V m.x)→fM (kC V limbs) (jY nodes limbs s l).A
 | [],_,h,_=>h
 | m::l,s,h,hl=>by
  have h1:fM (kC V limbs) (kS nodes limbs s m).A:=aWA h0 h (hl m (kZ1 ..));exact aCX h0 (l:=l) (s:=kS nodes limbs s m) h1 fun x hx=>hl x (lZ1 _ hx)
theorem fM.start:fM P gJ:=fun i h2 hi=>by simp [gJ] at hi;omega
end
end Go.Proofs.Q
