/- Two nodes of the form that the arena makes have different texts. -/
import Derived.Test.YtlldghknenbccaaGreatDoorPMadesA
set_option linter.unusedSimpArgs false
set_option linter.unusedVariables false
namespace Go.Proofs.Q
section
variable {d u:Nat} {z y:Int}
def readN (b:Nat) (u:Nat→Nat) (l:List Nat):Nat:=l.foldl (fun a x=>a*b+u x) 0
theorem readN_snoc (b:Nat) (u:Nat→Nat) (l:List Nat) (x:Nat):readN b u (l++[x])=readN b u l*b+u x:=by simp [readN]
def u36 (x:Nat):Nat:=if x<58 then x-48 else x-87
theorem u36_dg (h:d<36):u36 (dg36 d)=d:=by unfold u36 dg36;split<;>split<;>omega
theorem dg36_ok (h:d<36):dg36 d≠32∧dg36 d≠59∧dg36 d≠45:=by unfold dg36;split<;>omega
theorem read_d36 (u:Nat):readN 36 u36 (d36 u)=u:=by
 induction u using Nat.strongRecOn with
 | _ u ih=>
  by_cases h:u<36
  ·rw [d36_small h];simp [readN,u36_dg h]
  ·rw [d36_big h,readN_snoc,ih (u / 36) (by omega),u36_dg (by omega)];omega
theorem d36_ok (u:Nat):∀x∈d36 u,x≠32∧x≠59∧x≠45:=by
 induction u using Nat.strongRecOn with
 | _ u ih=>
  by_cases h:u<36
  ·rw [d36_small h];intro x hx;rw [dZ1.1 hx];exact dg36_ok h
  ·rw [d36_big h];intro x hx;rcases jZ1.1 hx with hx|hx
   ·exact ih _ (by omega) x hx
   ·rw [dZ1.1 hx];exact dg36_ok (by omega)
def decN' (u:Nat):List Nat:=nats (Lib.decDigits u)
theorem decN'_small (h:u<10):decN' u=[48+u]:=by
 unfold decN';rw [Lib.decDigits,dif_pos h];simp [nats];omega
theorem decN'_big (h:¬u<10):decN' u=decN' (u / 10)++[48+u % 10]:=by
 unfold decN';rw [Lib.decDigits,dif_neg h];simp [nats];omega
theorem read_dec (u:Nat):readN 10 (fun x=>x-48) (decN' u)=u:=by
 induction u using Nat.strongRecOn with
 | _ u ih=>
  by_cases h:u<10
  ·rw [decN'_small h];simp [readN]
  ·rw [decN'_big h,readN_snoc,ih (u / 10) (by omega)];simp;omega
theorem decN'_ok (u:Nat):∀x∈decN' u,48≤x∧x≤57:=by
 induction u using Nat.strongRecOn with
 | _ u ih=>
  by_cases h:u<10
  ·rw [decN'_small h];intro x hx;rw [dZ1.1 hx];omega
  ·rw [decN'_big h];intro x hx;rcases jZ1.1 hx with hx|hx
   ·exact ih _ (by omega) x hx
   ·rw [dZ1.1 hx];omega
theorem itoaN_eq (i:Int):bC i=if i<0 then 45::decN' i.natAbs else decN' i.toNat:=by
 unfold bC Lib.itoa decN';split<;>rfl
theorem itoaN_inj {i j:Int} (h:bC i=bC j):i=j:=by
 rw [itoaN_eq,itoaN_eq] at h;split at h<;>split at h
 ·have h1:decN' i.natAbs=decN' j.natAbs:=by injection h
  have h2:=read_dec i.natAbs;rw [h1,read_dec] at h2;omega
 ·exfalso;have:=decN'_ok j.toNat 45 (by rw [←h];exact kZ1 ..);omega
 ·exfalso;have:=decN'_ok i.toNat 45 (by rw [h];exact kZ1 ..);omega
 ·have h2:=read_dec i.toNat;rw [h,read_dec] at h2;omega
theorem itoaN_ok (i:Int):∀x∈bC i,x=45∨(48≤x∧x≤57):=by
 intro x hx;rw [itoaN_eq] at hx;split at hx
 ·rcases mZ1.1 hx with rfl|hx
  ·exact .inl rfl
  ·exact .inr (decN'_ok _ x hx)
 ·exact .inr (decN'_ok _ x hx)
theorem itoaN_ne (i:Int):bC i≠[]:=by
 rw [itoaN_eq];split
 ·simp
 ·intro h;by_cases h0:i.toNat<10
  ·rw [decN'_small h0] at h;simp at h
  ·rw [decN'_big h0] at h;simp at h
theorem cut_at {c:Nat}:∀{a a' r r':List Nat},c ∉ a→c ∉ a'→a++c::r=a'++c::r'→a=a'∧r=r'
 | [],[],_,_,_,_,h=>⟨rfl,by simpa using h⟩
 | [],y::a',_,_,_,h2,h=>by simp at h;exact absurd h.1 (fun e=>h2 (by simp [e]))
 | x::a,[],_,_,h1,_,h=>by simp at h;exact absurd h.1.symm (fun e=>h1 (by simp [e]))
 | x::a,y::a',r,r',h1,h2,h=>by
  simp at h;obtain ⟨e,h⟩:=h;obtain ⟨q1,q2⟩:=cut_at (a:=a) (a':=a') (fun hm=>h1 (lZ1 _ hm)) (fun hm=>h2 (lZ1 _ hm)) h;exact⟨by rw [e,q1],q2⟩
theorem magTxt_cons (x:Nat) (l:List Nat):magTxt (x::l)=32::(d36 x++magTxt l):=by simp [magTxt]
theorem mag_cut:∀{l m:List Nat} {r s:List Nat},magTxt l++59::r=magTxt m++59::s→l=m∧r=s
 | [],[],_,_,h=>⟨rfl,by simpa [magTxt] using h⟩
 | [],y::m,_,_,h=>by rw [magTxt_cons] at h;simp [magTxt] at h
 | x::l,[],_,_,h=>by rw [magTxt_cons] at h;simp [magTxt] at h
 | x::l,y::m,r,s,h=>by
  rw [magTxt_cons,magTxt_cons,eZ3,eZ3] at h;have h1:(d36 x++magTxt l)++59::r=(d36 y++magTxt m)++59::s:=by injection h
  rw [mZ2,mZ2] at h1;have hd:∀(l:List Nat) (r:List Nat),∃c t,magTxt l++59::r=c::t∧(c=32∨c=59):=fun l r=>by
   cases l with
   | nil=>exact⟨59,r,rfl,.inr rfl⟩
   | cons z l=>exact⟨32,_,by rw [magTxt_cons];rfl,.inl rfl⟩
  have hx:∀(a b u v:List Nat),(∀z∈a,z≠32∧z≠59∧z≠45)→(∀z∈b,z≠32∧z≠59∧z≠45)→(∃c t,u=c::t∧(c=32∨c=59))→(∃c t,v=c::t∧(c=32∨c=59))→a++u=b++v→a=b∧u=v:=by
   intro a;induction a with
   | nil=>
    intro b u v _ hb hu _ h;cases b with
    | nil=>exact⟨rfl,h⟩
    | cons z b=>
     obtain ⟨c,t,rfl,hc⟩:=hu;have e:c=z:=by simp at h;exact h.1
     have:=hb z (kZ1 ..);omega
   | cons y a ih=>
    intro b u v ha hb hu hv h;cases b with
    | nil=>
     obtain ⟨c,t,rfl,hc⟩:=hv;have e:y=c:=by simp at h;exact h.1
     have:=ha y (kZ1 ..);omega
    | cons z b=>
     simp at h;obtain ⟨q1,q2⟩:=ih b u v (fun z hz=>ha z (lZ1 _ hz)) (fun z hz=>hb z (lZ1 _ hz)) hu hv h.2;exact⟨by rw [h.1,q1],q2⟩
  obtain ⟨q1,q2⟩:=hx _ _ _ _ (d36_ok x) (d36_ok y) (hd l r) (hd m s) h1;have h3:=read_d36 x;rw [q1,read_d36] at h3;obtain ⟨q3,q4⟩:=mag_cut (l:=l) (m:=m) q2;exact⟨by rw [h3,q3],q4⟩
theorem neg_natAbs_inj (h1:neg z=neg y) (h2:z.natAbs=y.natAbs):z=y:=by
 unfold neg at h1;simp only [decide_eq_decide] at h1;omega
theorem num_cut {r s:List Nat} (h:dS z++r=dS y++s):z=y∧r=s:=by
 unfold dS at h;rw [eZ3,eZ3] at h;have h0:=List.tail_eq_of_cons_eq h;simp only [mZ2] at h0;have key:∀(z y:Int) (r s:List Nat),magTxt (bD z.natAbs)++([59]++r)=magTxt (bD y.natAbs)++([59]++s)→z.natAbs=y.natAbs∧r=s:=fun z y r s h=>by
  obtain ⟨q1,q2⟩:=mag_cut h;have:=cT z.natAbs;rw [q1,cT] at this;exact⟨this.symm,q2⟩
 have hfirst:∀(l r:List Nat),∃c t,magTxt l++([59]++r)=c::t∧(c=32∨c=59):=fun l r=>by
  cases l with
  | nil=>exact⟨59,r,rfl,.inr rfl⟩
  | cons z l=>exact⟨32,_,by rw [magTxt_cons];rfl,.inl rfl⟩
 cases hz:neg z<;>cases hy:neg y
 ·simp only [hz,hy,Bool.false_eq_true,if_false,fZ3] at h0;obtain ⟨q1,q2⟩:=key z y r s h0;exact⟨neg_natAbs_inj (hz.trans hy.symm) q1,q2⟩
 ·exfalso;simp only [hz,hy,Bool.false_eq_true,if_false,if_true,fZ3] at h0;obtain ⟨c,t,e,hc⟩:=hfirst (bD z.natAbs) r;rw [e] at h0;have:c=45:=by injection h0
  omega
 ·exfalso;simp only [hz,hy,Bool.false_eq_true,if_false,if_true,fZ3] at h0;obtain ⟨c,t,e,hc⟩:=hfirst (bD y.natAbs) s;rw [e] at h0;have:45=c:=by injection h0
  omega
 ·simp only [hz,hy,if_true] at h0;have h1:=List.tail_eq_of_cons_eq h0;obtain ⟨q1,q2⟩:=key z y r s h1;exact⟨neg_natAbs_inj (hz.trans hy.symm) q1,q2⟩
theorem partsTxt_cons (p:Int × Int) (l:aT):cA (p::l)=bC p.1++(dS p.2++cA l):=by simp [cA]
theorem parts_inj:∀{l m:aT},cA l=cA m→l=m
 | [],[],_=>rfl
 | [],p::m,h=>by rw [partsTxt_cons] at h;exact absurd (List.append_eq_nil_iff.1 h.symm).1 (itoaN_ne _)
 | p::l,[],h=>by rw [partsTxt_cons] at h;exact absurd (List.append_eq_nil_iff.1 h).1 (itoaN_ne _)
 | p::l,q::m,h=>by
  rw [partsTxt_cons,partsTxt_cons] at h;have hn:∀z r,dS z++r=58::((if neg z then [45] else [])++(magTxt (bD z.natAbs)++[59])++r):=fun z r=>rfl;rw [hn,hn] at h;obtain ⟨q1,q2⟩:=cut_at (c:=58) (fun hm=>by rcases itoaN_ok _ _ hm with h|h<;>omega) (fun hm=>by rcases itoaN_ok _ _ hm with h|h<;>omega) h;have q3:dS p.2++cA l=dS q.2++cA m:=by rw [hn,hn];exact congrArg (58::·) q2
  obtain ⟨q4,q5⟩:=num_cut q3;have q6:=itoaN_inj q1;rw [parts_inj q5];congr 1;exact Prod.ext q6 q4
theorem kidsTxt_cons (k:Int) (l:List Int):cJ (k::l)=bC k++44::cJ l:=by simp [cJ]
theorem kids_inj:∀{l m:List Int},cJ l=cJ m→l=m
 | [],[],_=>rfl
 | [],p::m,h=>by rw [kidsTxt_cons] at h;exact absurd (List.append_eq_nil_iff.1 h.symm).1 (itoaN_ne _)
 | p::l,[],h=>by rw [kidsTxt_cons] at h;exact absurd (List.append_eq_nil_iff.1 h).1 (itoaN_ne _)
 | p::l,q::m,h=>by
  rw [kidsTxt_cons,kidsTxt_cons] at h;obtain ⟨q1,q2⟩:=cut_at (c:=44) (fun hm=>by rcases itoaN_ok _ _ hm with h|h<;>omega) (fun hm=>by rcases itoaN_ok _ _ hm with h|h<;>omega) h;rw [itoaN_inj q1,kids_inj q2]
def FormN (N:aS):Prop:=2≤N.kind∧N.kind≤8∧(N.kind≤4→N.var=0∧N.kids=[])∧(5≤N.kind→N.d=0∧N.t=bH)∧(N.kind=5∨N.kind=6→N.var=0)
theorem keyTxt_inj {N K:aS} (hN:FormN N) (hK:FormN K) (h:bA N=bA K):N=K:=by
 obtain ⟨k,d,⟨l,z⟩,v,q⟩:=N;obtain ⟨k',d',⟨l',z'⟩,v',q'⟩:=K;unfold bA at h;simp only [mZ2] at h;obtain ⟨h1,h2⟩:=cut_at (c:=32) (fun hm=>by rcases itoaN_ok _ _ hm with h|h<;>omega) (fun hm=>by rcases itoaN_ok _ _ hm with h|h<;>omega) h;obtain rfl:k=k':=itoaN_inj h1;obtain ⟨n1,n2,n3,n4,n5⟩:=hN;obtain ⟨m1,m2,m3,m4,m5⟩:=hK;simp only at n1 n2 n3 n4 n5 m3 m4 m5 h2;by_cases hk:k≤4
 ·have hk':k=2∨k=3∨k=4:=by omega
  rw [if_pos hk',if_pos hk'] at h2;obtain ⟨e1,h3⟩:=num_cut h2;obtain ⟨e2,h4⟩:=num_cut h3;rw [e1,e2,parts_inj h4,(n3 hk).1,(n3 hk).2,(m3 hk).1,(m3 hk).2]
 ·have hk':¬(k=2∨k=3∨k=4):=by omega
  rw [if_neg hk',if_neg hk'] at h2;obtain ⟨a1,a2⟩:=n4 (by omega);obtain ⟨b1,b2⟩:=m4 (by omega);have a2':aW.mk l z=aW.mk l' z':=a2.trans b2.symm;by_cases h7:k=7∨k=8
  ·rw [if_pos h7,if_pos h7] at h2;simp only [mZ2] at h2;obtain ⟨e1,e2⟩:=cut_at (c:=58) (fun hm=>by rcases itoaN_ok _ _ hm with h|h<;>omega) (fun hm=>by rcases itoaN_ok _ _ hm with h|h<;>omega) h2;rw [itoaN_inj e1,kids_inj e2,a1,b1,a2']
  ·rw [if_neg h7,if_neg h7] at h2;simp only [fZ3] at h2;rw [kids_inj h2,n5 (by omega),m5 (by omega),a1,b1,a2']
end
section
variable {N:aS} {t:List Nat} {l:List aS} {i:Nat}
theorem keyF_some (h:keyF l t=some i):2≤i∧i<l.length∧bA (l.getD i aV)=t:=by
 unfold keyF at h;have h1:=List.find?_some h;have h2:=List.mem_of_find?_eq_some h;simp only [Bool.and_eq_true,decide_eq_true_eq] at h1;exact⟨h1.1,List.mem_range.1 h2,h1.2⟩
theorem keyF_none:keyF l t=none↔∀i,2≤i→i<l.length→bA (l.getD i aV)≠t:=by
 unfold keyF;rw [List.find?_eq_none];constructor
 ·intro h i h2 hi he;have:=h i (List.mem_range.2 hi);simp only [Bool.and_eq_true,decide_eq_true_eq] at this;exact this ⟨h2,he⟩
 ·intro h i hi he;simp only [Bool.and_eq_true,decide_eq_true_eq] at he;exact h i he.1 (List.mem_range.1 hi) he.2
structure OnceA (A:aF):Prop where
 two:2≤A.nodes.length
 form:∀i,2≤i→i<A.nodes.length→FormN (A.nodes.getD i aV)
 one:∀i j,2≤i→i<j→j<A.nodes.length→A.nodes.getD i aV≠A.nodes.getD j aV
theorem OnceA.find {A:aF} (h:OnceA A) (hi:2≤i) (hl:i<A.nodes.length) (e:A.nodes.getD i aV=N):keyF A.nodes (bA N)=some i:=by
 cases hk:keyF A.nodes (bA N) with
 | none=>exact absurd (by rw [e]) (keyF_none.1 hk i hi hl)
 | some j=>
  obtain ⟨q1,q2,q3⟩:=keyF_some hk;have q4:=keyTxt_inj (h.form j q1 q2) (by rw [←e];exact h.form i hi hl) q3;rcases Nat.lt_trichotomy i j with hij|hij|hij
  ·exact absurd (e.trans q4.symm) (h.one i j hi hij q2)
  ·rw [hij]
  ·exact absurd (q4.trans e.symm) (h.one j i q1 hij hl)
theorem OnceA.find_some {A:aF} (h:OnceA A) (hN:FormN N) (hk:keyF A.nodes (bA N)=some i):2≤i∧i<A.nodes.length∧A.nodes.getD i aV=N:=by
 obtain ⟨q1,q2,q3⟩:=keyF_some hk;exact⟨q1,q2,keyTxt_inj (h.form i q1 q2) hN q3⟩
theorem OnceA.find_none {A:aF} (h:OnceA A) (hN:FormN N):keyF A.nodes (bA N)=none↔∀i,2≤i→i<A.nodes.length→A.nodes.getD i aV≠N:=by
 rw [keyF_none];constructor
 ·intro q i h2 hi e;exact q i h2 hi (by rw [e])
 ·intro q i h2 hi e;exact q i h2 hi (keyTxt_inj (h.form i h2 hi) hN e)
theorem OnceA.add {A:aF} (h:OnceA A) (hN:FormN N) (hk:keyF A.nodes (bA N)=none):OnceA (addA A N):=by
 have hn:=(h.find_none hN).1 hk;refine ⟨by simp only [addA,aZ1,gZ1,gZ2];have:=h.two;omega,fun i h2 hi=>?_,fun i j h2 hij hj=>?_⟩
 ·simp only [addA,aZ1,gZ1,gZ2] at hi⊢;rcases Nat.lt_or_ge i A.nodes.length with hi'|hi'
  ·rw [dO _ _ _ hi'];exact h.form i h2 hi'
  ·obtain rfl:i=A.nodes.length:=by omega
   rw [dD];exact hN
 ·simp only [addA,aZ1,gZ1,gZ2] at hj⊢;rw [dO _ _ _ (show i<A.nodes.length by omega)];rcases Nat.lt_or_ge j A.nodes.length with hj'|hj'
  ·rw [dO _ _ _ hj'];exact h.one i j h2 hij hj'
  ·obtain rfl:j=A.nodes.length:=by omega
   rw [dD];exact hn i h2 (by omega)
theorem OnceA.start:OnceA Go.Proofs.Q.startA:=⟨by decide,fun i h2 hi=>by simp [Go.Proofs.Q.startA] at hi;omega,fun i j h2 hij hj=>by simp [Go.Proofs.Q.startA] at hj;omega⟩
end
end Go.Proofs.Q
