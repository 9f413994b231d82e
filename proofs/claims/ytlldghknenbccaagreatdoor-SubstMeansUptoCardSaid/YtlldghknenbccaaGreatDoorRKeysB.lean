/- Two nodes of the form that the arena makes have different texts. -/
import Derived.Test.YtlldghknenbccaaGreatDoorRMadesA
set_option linter.unusedSimpArgs false
set_option linter.unusedVariables false
namespace Go.Proofs.Q
section
variable {d u:Nat} {z y:Int}
def FM (b:Nat) (u:Nat→Nat) (l:List Nat):Nat:=l.foldl (fun a x=>a*b+u x) 0
theorem aCL (b:Nat) (u:Nat→Nat) (l:List Nat) (x:Nat):FM b u (l++[x])=FM b u l*b+u x:=by simp [FM]
def u36 (x:Nat):Nat:=if x<58 then x-48 else x-87
theorem aKA (h:d<36):u36 (jH d)=d:=by unfold u36 jH;split<;>split<;>omega
theorem aIX (h:d<36):jH d≠32∧jH d≠59∧jH d≠45:=by unfold jH;split<;>omega
theorem aGZ (u:Nat):FM 36 u36 (d36 u)=u:=by
 induction u using Nat.strongRecOn with
 | _ u ih=>
  by_cases h:u<36
  ·rw [GY h];simp [FM,aKA h]
  ·rw [LG h,aCL,ih (u / 36) zZ,aKA zZ];omega
theorem aJZ (u:Nat):∀x∈d36 u,x≠32∧x≠59∧x≠45:=by
 induction u using Nat.strongRecOn with
 | _ u ih=>
  by_cases h:u<36
  ·rw [GY h];intro x hx;rw [dZ1.1 hx];exact aIX h
  ·rw [LG h];intro x hx;rcases jZ1.1 hx with hx|hx
   ·exact ih _ zZ x hx
   ·rw [dZ1.1 hx];exact aIX zZ
def nW (u:Nat):List Nat:=kU (Lib.decDigits u)
theorem TL (h:u<10):nW u=[48+u]:=by
 unfold nW;rw [Lib.decDigits,dif_pos h];simp [kU];omega
theorem VY (h:¬u<10):nW u=nW (u / 10)++[48+u % 10]:=by
 unfold nW;rw [Lib.decDigits,dif_neg h];simp [kU];omega
theorem PO (u:Nat):FM 10 (fun x=>x-48) (nW u)=u:=by
 induction u using Nat.strongRecOn with
 | _ u ih=>
  by_cases h:u<10
  ·rw [TL h];simp [FM]
  ·rw [VY h,aCL,ih (u / 10) zZ];simp;omega
theorem PG (u:Nat):∀x∈nW u,48≤x∧x≤57:=by
 induction u using Nat.strongRecOn with
 | _ u ih=>
  by_cases h:u<10
  ·rw [TL h];intro x hx;rw [dZ1.1 hx];omega
  ·rw [VY h];intro x hx;rcases jZ1.1 hx with hx|hx
   ·exact ih _ zZ x hx
   ·rw [dZ1.1 hx];omega
theorem PV (i:Int):bF i=if i<0 then 45::nW i.natAbs else nW i.toNat:=by
 unfold bF Lib.itoa nW;split<;>rfl
theorem OV {i j:Int} (h:bF i=bF j):i=j:=by
 rw [PV,PV] at h;split at h<;>split at h
 ·have h1:nW i.natAbs=nW j.natAbs:=by injection h
  have h2:=PO i.natAbs;rw [h1,PO] at h2;omega
 ·exfalso;have:=PG j.toNat 45 (by rw [←h];exact kZ1 ..);omega
 ·exfalso;have:=PG i.toNat 45 (by rw [h];exact kZ1 ..);omega
 ·have h2:=PO i.toNat;rw [h,PO] at h2;omega
theorem aXB (i:Int):∀x∈bF i,x=45∨(48≤x∧x≤57):=by
 intro x hx;rw [PV] at hx;split at hx
 ·rcases mZ1.1 hx with rfl|hx
  ·exact .inl rfl
  ·exact .inr (PG _ x hx)
 ·exact .inr (PG _ x hx)
theorem PL (i:Int):bF i≠[]:=by
 rw [PV];split
 ·simp
 ·intro h;by_cases h0:i.toNat<10
  ·rw [TL h0] at h;simp at h
  ·rw [VY h0] at h;simp at h
theorem LH {c:Nat}:∀{a a' r r':List Nat},c ∉ a→c ∉ a'→a++c::r=a'++c::r'→a=a'∧r=r'
 | [],[],_,_,_,_,h=>⟨rfl,wD⟩
 | [],y::a',_,_,_,h2,h=>by simp at h;exact absurd h.1 (fun e=>h2 rJ)
 | x::a,[],_,_,h1,_,h=>by simp at h;exact absurd h.1.symm (fun e=>h1 rJ)
 | x::a,y::a',r,r',h1,h2,h=>by
  simp at h;obtain ⟨e,h⟩:=h;obtain ⟨q1,q2⟩:=LH (a:=a) (a':=a') (fun hm=>h1 (lZ1 _ hm)) (fun hm=>h2 (lZ1 _ hm)) h;exact⟨by rw [e,q1],q2⟩
theorem JO (x:Nat) (l:List Nat):iF (x::l)=32::(d36 x++iF l):=by simp [iF]
theorem aIY:∀{l m:List Nat} {r s:List Nat},iF l++59::r=iF m++59::s→l=m∧r=s
 | [],[],_,_,h=>⟨rfl,by simpa [iF] using h⟩
 | [],y::m,_,_,h=>by rw [JO] at h;simp [iF] at h
 | x::l,[],_,_,h=>by rw [JO] at h;simp [iF] at h
 | x::l,y::m,r,s,h=>by
  rw [JO,JO,hZ3,hZ3] at h;have h1:(d36 x++iF l)++59::r=(d36 y++iF m)++59::s:=by injection h
  rw [mZ2,mZ2] at h1;have hd:∀(l:List Nat) (r:List Nat),∃c t,iF l++59::r=c::t∧(c=32∨c=59):=fun l r=>vW;have hx:∀(a b u v:List Nat),(∀z∈a,z≠32∧z≠59∧z≠45)→(∀z∈b,z≠32∧z≠59∧z≠45)→(∃c t,u=c::t∧(c=32∨c=59))→(∃c t,v=c::t∧(c=32∨c=59))→a++u=b++v→a=b∧u=v:=by
   intro a;induction a with
   | nil=>
    intro b u v _ hb hu _ h;cases b with
    | nil=>exact⟨rfl,h⟩
    | cons z b=>
     obtain ⟨c,t,rfl,hc⟩:=hu;have e:c=z:=by simp at h;exact h.1
     have:=hb z (kZ1 ..);omega
   | cons y a ih=>
    intro b u v ha hb hu hv h;cases b with
    | nil=>
     obtain ⟨c,t,rfl,hc⟩:=hv;have e:y=c:=by simp at h;exact h.1
     have:=ha y (kZ1 ..);omega
    | cons z b=>
     simp at h;obtain ⟨q1,q2⟩:=ih b u v (fun z hz=>ha z (lZ1 _ hz)) (fun z hz=>hb z (lZ1 _ hz)) hu hv h.2;exact⟨by rw [h.1,q1],q2⟩
  obtain ⟨q1,q2⟩:=hx _ _ _ _ (aJZ x) (aJZ y) (hd l r) (hd m s) h1;have h3:=aGZ x;rw [q1,aGZ] at h3;obtain ⟨q3,q4⟩:=aIY (l:=l) (m:=m) q2;exact⟨by rw [h3,q3],q4⟩
theorem ZE (h1:neg z=neg y) (h2:z.natAbs=y.natAbs):z=y:=by
 unfold neg at h1;simp only [decide_eq_decide] at h1;omega
theorem XD {r s:List Nat} (h:eD z++r=eD y++s):z=y∧r=s:=by
 unfold eD at h;rw [hZ3,hZ3] at h;have h0:=List.tail_eq_of_cons_eq h;simp only [mZ2] at h0;have key:∀(z y:Int) (r s:List Nat),iF (bH z.natAbs)++([59]++r)=iF (bH y.natAbs)++([59]++s)→z.natAbs=y.natAbs∧r=s:=fun z y r s h=>by
  obtain ⟨q1,q2⟩:=aIY h;have:=cS z.natAbs;rw [q1,cS] at this;exact⟨this.symm,q2⟩
 have hfirst:∀(l r:List Nat),∃c t,iF l++([59]++r)=c::t∧(c=32∨c=59):=fun l r=>vW;cases hz:neg z<;>cases hy:neg y
 ·simp only [hz,hy,Bool.false_eq_true,if_false,iZ3] at h0;obtain ⟨q1,q2⟩:=key z y r s h0;exact⟨ZE (hz.trans hy.symm) q1,q2⟩
 ·exfalso;simp only [hz,hy,Bool.false_eq_true,if_false,if_true,iZ3] at h0;obtain ⟨c,t,e,hc⟩:=hfirst (bH z.natAbs) r;rw [e] at h0;have:c=45:=by injection h0
  omega
 ·exfalso;simp only [hz,hy,Bool.false_eq_true,if_false,if_true,iZ3] at h0;obtain ⟨c,t,e,hc⟩:=hfirst (bH y.natAbs) s;rw [e] at h0;have:45=c:=by injection h0
  omega
 ·simp only [hz,hy,if_true] at h0;have h1:=List.tail_eq_of_cons_eq h0;obtain ⟨q1,q2⟩:=key z y r s h1;exact⟨ZE (hz.trans hy.symm) q1,q2⟩
theorem MP (p:Int × Int) (l:aM):cD (p::l)=bF p.1++(eD p.2++cD l):=by simp [cD]
theorem aGA:∀{l m:aM},cD l=cD m→l=m
 | [],[],_=>rfl
 | [],p::m,h=>by rw [MP] at h;exact absurd (List.append_eq_nil_iff.1 h.symm).1 (PL _)
 | p::l,[],h=>by rw [MP] at h;exact absurd (List.append_eq_nil_iff.1 h).1 (PL _)
 | p::l,q::m,h=>by
  rw [MP,MP] at h;have hn:∀z r,eD z++r=58::((if neg z then [45] else [])++(iF (bH z.natAbs)++[59])++r):=fun z r=>rfl;rw [hn,hn] at h;obtain ⟨q1,q2⟩:=LH (c:=58) (fun hm=>yJ) (fun hm=>yJ) h;have q3:eD p.2++cD l=eD q.2++cD m:=by rw [hn,hn];exact congrArg (58::·) q2
  obtain ⟨q4,q5⟩:=XD q3;have q6:=OV q1;rw [aGA q5];congr 1;exact Prod.ext q6 q4
theorem MR (k:Int) (l:List Int):cT (k::l)=bF k++44::cT l:=by simp [cT]
theorem WX:∀{l m:List Int},cT l=cT m→l=m
 | [],[],_=>rfl
 | [],p::m,h=>by rw [MR] at h;exact absurd (List.append_eq_nil_iff.1 h.symm).1 (PL _)
 | p::l,[],h=>by rw [MR] at h;exact absurd (List.append_eq_nil_iff.1 h).1 (PL _)
 | p::l,q::m,h=>by
  rw [MR,MR] at h;obtain ⟨q1,q2⟩:=LH (c:=44) (fun hm=>yJ) (fun hm=>yJ) h;rw [OV q1,WX q2]
def CU (N:aS):Prop:=2≤N.kind∧N.kind≤8∧(N.kind≤4→N.var=0∧N.kids=[])∧(5≤N.kind→N.d=0∧N.t=bK)∧(N.kind=5∨N.kind=6→N.var=0)
theorem UH {N K:aS} (hN:CU N) (hK:CU K) (h:bB N=bB K):N=K:=by
 obtain ⟨k,d,⟨l,z⟩,v,q⟩:=N;obtain ⟨k',d',⟨l',z'⟩,v',q'⟩:=K;unfold bB at h;simp only [mZ2] at h;obtain ⟨h1,h2⟩:=LH (c:=32) (fun hm=>yJ) (fun hm=>yJ) h;obtain rfl:k=k':=OV h1;obtain ⟨n1,n2,n3,n4,n5⟩:=hN;obtain ⟨m1,m2,m3,m4,m5⟩:=hK;simp only at n1 n2 n3 n4 n5 m3 m4 m5 h2;by_cases hk:k≤4
 ·have hk':k=2∨k=3∨k=4:=zZ;rw [if_pos hk',if_pos hk'] at h2;obtain ⟨e1,h3⟩:=XD h2;obtain ⟨e2,h4⟩:=XD h3;rw [e1,e2,aGA h4,(n3 hk).1,(n3 hk).2,(m3 hk).1,(m3 hk).2]
 ·have hk':¬(k=2∨k=3∨k=4):=zZ;rw [if_neg hk',if_neg hk'] at h2;obtain ⟨a1,a2⟩:=n4 zZ;obtain ⟨b1,b2⟩:=m4 zZ;have a2':aV.mk l z=aV.mk l' z':=a2.trans b2.symm;by_cases h7:k=7∨k=8
  ·rw [if_pos h7,if_pos h7] at h2;simp only [mZ2] at h2;obtain ⟨e1,e2⟩:=LH (c:=58) (fun hm=>yJ) (fun hm=>yJ) h2;rw [OV e1,WX e2,a1,b1,a2']
  ·rw [if_neg h7,if_neg h7] at h2;simp only [iZ3] at h2;rw [WX h2,n5 zZ,m5 zZ,a1,b1,a2']
end
section
variable {N:aS} {t:List Nat} {l:List aS} {i:Nat}
theorem VI (h:fK l t=some i):2≤i∧i<l.length∧bB (l.getD i aP)=t:=by
 unfold fK at h;have h1:=List.find?_some h;have h2:=List.mem_of_find?_eq_some h;simp only [Bool.and_eq_true,decide_eq_true_eq] at h1;exact⟨h1.1,List.mem_range.1 h2,h1.2⟩
theorem aFB:fK l t=none↔∀i,2≤i→i<l.length→bB (l.getD i aP)≠t:=by
 unfold fK;rw [List.find?_eq_none];constructor
 ·intro h i h2 hi he;have:=h i (List.mem_range.2 hi);simp only [Bool.and_eq_true,decide_eq_true_eq] at this;exact this ⟨h2,he⟩
 ·intro h i hi he;simp only [Bool.and_eq_true,decide_eq_true_eq] at he;exact h i he.1 (List.mem_range.1 hi) he.2
structure nA (A:aC):Prop where
 two:2≤A.nodes.length
 form:∀i,2≤i→i<A.nodes.length→CU (A.nodes.getD i aP)
 one:∀i j,2≤i→i<j→j<A.nodes.length→A.nodes.getD i aP≠A.nodes.getD j aP
theorem nA.find {A:aC} (h:nA A) (hi:2≤i) (hl:i<A.nodes.length) (e:A.nodes.getD i aP=N):fK A.nodes (bB N)=some i:=by
 cases hk:fK A.nodes (bB N) with
 | none=>exact absurd (by rw [e]) (aFB.1 hk i hi hl)
 | some j=>
  obtain ⟨q1,q2,q3⟩:=VI hk;have q4:=UH (h.form j q1 q2) (by rw [←e];exact h.form i hi hl) q3;rcases Nat.lt_trichotomy i j with hij|hij|hij
  ·exact absurd (e.trans q4.symm) (h.one i j hi hij q2)
  ·rw [hij]
  ·exact absurd (q4.trans e.symm) (h.one j i q1 hij hl)
theorem nA.aUO {A:aC} (h:nA A) (hN:CU N) (hk:fK A.nodes (bB N)=some i):2≤i∧i<A.nodes.length∧A.nodes.getD i aP=N:=by
 obtain ⟨q1,q2,q3⟩:=VI hk;exact⟨q1,q2,UH (h.form i q1 q2) hN q3⟩
theorem nA.aFE {A:aC} (h:nA A) (hN:CU N):fK A.nodes (bB N)=none↔∀i,2≤i→i<A.nodes.length→A.nodes.getD i aP≠N:=by
 rw [aFB];constructor
 ·intro q i h2 hi e;exact q i h2 hi (by rw [e])
 ·intro q i h2 hi e;exact q i h2 hi (UH (h.form i h2 hi) hN e)
theorem nA.add {A:aC} (h:nA A) (hN:CU N) (hk:fK A.nodes (bB N)=none):nA (fQ A N):=by
 have hn:=(h.aFE hN).1 hk;refine ⟨by simp only [fQ,aZ1,gZ1,gZ2];have:=h.two;omega,fun i h2 hi=>?_,fun i j h2 hij hj=>?_⟩
 ·simp only [fQ,aZ1,gZ1,gZ2] at hi⊢;rcases Nat.lt_or_ge i A.nodes.length with hi'|hi'
  ·rw [eB _ _ _ hi'];exact h.form i h2 hi'
  ·obtain rfl:i=A.nodes.length:=zZ;rw [dM];exact hN
 ·simp only [fQ,aZ1,gZ1,gZ2] at hj⊢;rw [eB _ _ _ (show i<A.nodes.length by omega)];rcases Nat.lt_or_ge j A.nodes.length with hj'|hj'
  ·rw [eB _ _ _ hj'];exact h.one i j h2 hij hj'
  ·obtain rfl:j=A.nodes.length:=zZ;rw [dM];exact hn i h2 zZ
theorem nA.start:nA Go.Proofs.Q.gJ:=⟨zY,fun i h2 hi=>by simp [Go.Proofs.Q.gJ] at hi;omega,fun i j h2 hij hj=>by simp [Go.Proofs.Q.gJ] at hj;omega⟩
end
end Go.Proofs.Q
