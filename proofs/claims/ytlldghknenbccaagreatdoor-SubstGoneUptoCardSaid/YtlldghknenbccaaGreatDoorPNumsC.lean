/- Plain arithmetic: one limb of a quotient, guessed by the upper limbs, and put right. -/
import Derived.Test.YtlldghknenbccaaGreatDoorPWords
set_option linter.unusedSimpArgs false
set_option linter.unusedVariables false
namespace Go.Proofs.Q
section
variable {v u o:List Nat} {m i:Nat}
theorem nval_top2 (h:v.length=m+2):nval v=nval (v.take m)+Bs ^ m*(lim v m+Bs*lim v (m+1)):=by
 have h1:=bL v (m+1);have h2:=bL v m;rw [eZ1 (by omega)] at h1;rw [h1,h2,Nat.pow_succ,Nat.mul_add,Nat.mul_assoc];omega
theorem nval_top3 (h:u.length=m+3):nval u=nval (u.take m)+Bs ^ m*(lim u m+Bs*(lim u (m+1)+Bs*lim u (m+2))):=by
 have h1:=bL u (m+2);have h2:=bL u (m+1);have h3:=bL u m;rw [eZ1 (by omega)] at h1;have e1:∀X,Bs ^ (m+1)*X=Bs ^ m*(Bs*X):=fun X=>by rw [Nat.pow_succ,Nat.mul_assoc]
 have e2:∀X,Bs ^ (m+2)*X=Bs ^ m*(Bs*(Bs*X)):=fun X=>by rw [Nat.pow_succ,Nat.pow_succ,Nat.mul_assoc,Nat.mul_assoc]
 rw [h1,h2,h3,e1,e2,Nat.mul_add,Nat.mul_add Bs,Nat.mul_add];omega
theorem take_lt_pow (hs:Small u) (m:Nat):nval (u.take m)<Bs ^ m:=
 cZ1 (nval_lt (hs.take m)) (Nat.pow_le_pow_right Bs_pos (by rw [iZ1];exact Nat.min_le_left _ _))
section
variable {P U Ul u0 u1 u2 V Vl v1 v2 q:Nat}
theorem guess_first (hU:U=Ul+P*(u2+Bs*(u1+Bs*u0))) (hul:Ul<P) (hu2:u2<Bs) (hV:V=Vl+P*(v2+Bs*v1)) (hv1:0<v1):U / V≤(u1+Bs*u0) / v1:=by
 rw [Nat.le_div_iff_mul_le hv1];have h1:U / V*V≤U:=Nat.div_mul_le_self U V;generalize U / V=Q at *
 have h2:Q*(P*(Bs*v1))≤Q*V:=Nat.mul_le_mul_left _ (by rw [hV,Nat.mul_add];omega);have h3:U<P*(Bs*(u1+Bs*u0+1)):=by
  have:P*(u2+Bs*(u1+Bs*u0))+P≤P*(Bs*(u1+Bs*u0+1)):=by
   rw [←Nat.mul_succ];exact Nat.mul_le_mul_left _ (by rw [Nat.mul_succ];omega)
  omega
 have h4:P*Bs*(Q*v1)<P*Bs*(u1+Bs*u0+1):=by
  have e1:P*Bs*(Q*v1)=Q*(P*(Bs*v1)):=by rw [Nat.mul_left_comm Q P,Nat.mul_left_comm Q Bs,Nat.mul_assoc]
  have e2:P*Bs*(u1+Bs*u0+1)=P*(Bs*(u1+Bs*u0+1)):=by rw [Nat.mul_assoc]
  omega
 have h5:=Nat.lt_of_mul_lt_mul_left h4;omega
theorem guess_step (hU:U=Ul+P*(u2+Bs*(u1+Bs*u0))) (hul:Ul<P) (hV:V=Vl+P*(v2+Bs*v1)) (hq:U / V≤q) (hle:q*v1≤u1+Bs*u0) (hgt:(u1+Bs*u0-q*v1)*Bs+u2<q*v2):U / V≤q-1:=by
 rcases Nat.lt_or_ge (U / V) q with h|h
 ·omega
 ·exfalso;have e:U / V=q:=by omega
  have h1:q*V≤U:=by rw [←e];exact Nat.div_mul_le_self U V
  have h2:(u1+Bs*u0)*Bs+u2+1≤q*(v2+Bs*v1):=by
   have e1:(u1+Bs*u0-q*v1)*Bs+q*v1*Bs=(u1+Bs*u0)*Bs:=by rw [←Nat.add_mul,Nat.sub_add_cancel hle]
   have e2:q*(v2+Bs*v1)=q*v2+q*v1*Bs:=by rw [Nat.mul_add,Nat.mul_comm Bs v1,Nat.mul_assoc]
   omega
  have h3:P*((u1+Bs*u0)*Bs+u2+1)≤q*V:=by
   refine bZ1 (Nat.mul_le_mul_left P h2) ?_;rw [hV,Nat.mul_add q Vl,Nat.mul_left_comm q P];omega
  have h4:P*((u1+Bs*u0)*Bs+u2+1)=P*(u2+Bs*(u1+Bs*u0))+P:=by
   rw [Nat.mul_succ,Nat.mul_comm (u1+Bs*u0) Bs,Nat.add_comm (Bs*_) u2]
  omega
theorem guess_last (hU:U=Ul+P*(u2+Bs*(u1+Bs*u0))) (hV:V=Vl+P*(v2+Bs*v1)) (hvl:Vl<P) (hv1:0<v1) (hB:q<Bs) (hle:q*v1≤u1+Bs*u0) (hno:q*v2≤(u1+Bs*u0-q*v1)*Bs+u2):q*V<U+V:=by
 have h2:q*(v2+Bs*v1)≤(u1+Bs*u0)*Bs+u2:=by
  have e1:(u1+Bs*u0-q*v1)*Bs+q*v1*Bs=(u1+Bs*u0)*Bs:=by rw [←Nat.add_mul,Nat.sub_add_cancel hle]
  have e2:q*(v2+Bs*v1)=q*v2+q*v1*Bs:=by rw [Nat.mul_add,Nat.mul_comm Bs v1,Nat.mul_assoc]
  omega
 have h3:q*(P*(v2+Bs*v1))≤U:=by
  rw [Nat.mul_left_comm q P];refine bZ1 (Nat.mul_le_mul_left P h2) ?_;rw [hU,Nat.mul_comm (u1+Bs*u0) Bs,Nat.add_comm (Bs*_) u2];omega
 have h4:q*Vl<P*Bs:=by
  rcases Nat.eq_zero_or_pos q with h0|h0
  ·subst h0;rw [Nat.zero_mul];exact Nat.mul_pos (by omega) Bs_pos
  ·calc q*Vl<q*P:=Nat.mul_lt_mul_of_pos_left hvl h0
    _≤P*Bs:=by rw [Nat.mul_comm];exact Nat.mul_le_mul_left _ (Nat.le_of_lt hB)
 have h5:P*Bs≤V:=by
  rw [hV,Nat.mul_add,←Nat.mul_assoc];have:P*Bs*1≤P*Bs*v1:=Nat.mul_le_mul_left _ hv1;omega
 calc q*V=q*Vl+q*(P*(v2+Bs*v1)):=by rw [hV,Nat.mul_add]
  _<U+V:=by omega
end
theorem quo_near {U V q:Nat} (hV:0<V) (h1:U / V≤q) (h2:q*V<U+V):q=U / V∨(q=U / V+1∧U<q*V):=by
 have hd:=Nat.div_add_mod U V;have hm:=Nat.mod_lt U hV;have h3:q<U / V+2:=by
  apply Nat.lt_of_mul_lt_mul_right (a:=V);rw [Nat.add_mul];rw [Nat.mul_comm] at hd;omega
 rcases Nat.lt_or_ge (U / V) q with h|h
 ·right;refine ⟨by omega,?_⟩;have e:q=U / V+1:=by omega
  rw [e,Nat.add_mul,Nat.one_mul,Nat.mul_comm];omega
 ·left;omega
theorem digit_right {U V q R N b:Nat} (hV:0<V) (h1:U / V≤q) (h2:q*V<U+V) (hR:R+q*V=U+N*b) (hRN:R<N) (hb:b=0):q=U / V∧R=U % V:=by
 subst hb;rw [Nat.mul_zero,Nat.add_zero] at hR;rcases quo_near hV h1 h2 with h|⟨_,h⟩
 ·subst h;have hd:=Nat.div_add_mod U V;rw [Nat.mul_comm] at hd;exact⟨rfl,by omega⟩
 ·omega
theorem digit_back {U V q R R' N b c:Nat} (hV:0<V) (hVN:V≤N) (h1:U / V≤q) (h2:q*V<U+V) (hR:R+q*V=U+N*b) (hRN:R<N) (hb0:0<b) (hb:b≤1) (hR':R'+N*c=R+V) (hRN':R'<N):q=U / V+1∧R'=U % V:=by
 obtain rfl:b=1:=by omega
 rw [Nat.mul_one] at hR;have hd:=Nat.div_add_mod U V;have hm:=Nat.mod_lt U hV;rcases quo_near hV h1 h2 with h|⟨h,_⟩
 ·subst h;rw [Nat.mul_comm] at hd;omega
 ·refine ⟨h,?_⟩;subst h;rw [Nat.add_mul,Nat.one_mul,Nat.mul_comm] at hR;have hc:c=1:=by
   rcases Nat.lt_or_ge c 1 with h|h
   ·obtain rfl:c=0:=by omega
    omega
   ·rcases Nat.lt_or_ge c 2 with h'|h'
    ·omega
    ·have:=Nat.mul_le_mul_left N h';omega
  subst hc;omega
theorem lim_snoc_eq (o:List Nat) (x:Nat):lim (o++[x]) o.length=x:=by simp [lim,List.getD]
theorem lim_snoc_lt {x:Nat} (h:i<o.length):lim (o++[x]) i=lim o i:=by simp [lim,List.getD,List.getElem?_append_left h]
theorem lim_timesK {a:List Nat} {n more:Nat}:∀(j i:Nat),i<j→lim (bY a n more j).1 i=(lim a i*n+(bY a n more i).2) % Bs
 | 0,_,h=>by omega
 | j+1,i,h=>by
  have hl:∀j,(bY a n more j).1.length=j:=fun j=>by
   induction j with
   | zero=>rfl
   | succ j ih=>simp [bY,ih]
  rcases Nat.lt_or_ge i j with h'|h'
  ·show lim ((bY a n more j).1++[_]) i=_
   rw [lim_snoc_lt (by rw [hl];exact h'),lim_timesK j i h']
  ·obtain rfl:i=j:=by omega
   show lim ((bY a n more i).1++[_]) i=_
   have:=lim_snoc_eq (bY a n more i).1 ((lim a i*n+(bY a n more i).2) % Bs);rwa [hl] at this
def timesL (v:List Nat) (q:Nat):List Nat:=(bY v q 0 v.length).1++[(bY v q 0 v.length).2]
theorem timesL_spec {q:Nat} (hv:Small v) (hq:q<4294967296):(timesL v q).length=v.length+1∧Small (timesL v q)∧nval (timesL v q)=q*nval v:=by
 obtain ⟨h1,h2,h3,h4⟩:=timesK_spec (more:=0) hv hq (by decide) v.length;refine ⟨by simp [timesL,h1],small_snoc h2 h3,?_⟩;unfold timesL;rw [nval_snoc,h1,h4,List.take_length,Nat.mul_comm];rfl
theorem lim_timesL {q:Nat} (h:i<v.length):lim (timesL v q) i=(lim v i*q+(bY v q 0 i).2) % Bs:=by
 unfold timesL;have hl:∀j,(bY v q 0 j).1.length=j:=fun j=>by
  induction j with
  | zero=>rfl
  | succ j ih=>simp [bY,ih]
 rw [lim_snoc_lt (by rw [hl];exact h),lim_timesK _ _ h]
theorem lim_timesL_last {q:Nat}:lim (timesL v q) v.length=(bY v q 0 v.length).2:=by
 unfold timesL;have hl:∀j,(bY v q 0 j).1.length=j:=fun j=>by
  induction j with
  | zero=>rfl
  | succ j ih=>simp [bY,ih]
 have:=lim_snoc_eq (bY v q 0 v.length).1 (bY v q 0 v.length).2;rwa [hl] at this
theorem digit_ends {q:Nat} (hu:Small u) (hv:Small v) (hl:u.length=v.length+1) (hV:0<nval v) (hq:q<4294967296) (h1:nval u / nval v≤q) (h2:q*nval v<nval u+nval v) :
  ((subK u (timesL v q) u.length).2=0→q=nval u / nval v∧nval (subK u (timesL v q) u.length).1=nval u % nval v) ∧
  (0<(subK u (timesL v q) u.length).2→q=nval u / nval v+1∧nval (addK (subK u (timesL v q) u.length).1 v u.length).1=nval u % nval v):=by
 obtain ⟨t1,t2,t3⟩:=timesL_spec hv hq;obtain ⟨s1,s2,s3,s4⟩:=subK_spec hu t2 u.length;rw [List.take_length,eZ1 (by omega),t3] at s4;have hn:=nval_lt s2;rw [s1] at hn;obtain ⟨a1,a2,a3,a4⟩:=addK_spec s2 hv u.length;rw [eZ1 (by omega),eZ1 (by omega)] at a4;have hn2:=nval_lt a2;rw [a1] at hn2;have hVN:nval v≤Bs ^ u.length:=bZ1 (Nat.le_of_lt (nval_lt hv)) (Nat.pow_le_pow_right Bs_pos (by omega));exact⟨fun h=>digit_right hV h1 h2 s4 hn h,fun h=>digit_back hV hVN h1 h2 s4 hn h s3 a4 hn2⟩
end
section
variable {l r u:List Nat} {k:Nat}
theorem drop_cons {i:Nat} (h:i<l.length):l.drop i=lim l i::l.drop (i+1):=by rw [List.drop_eq_getElem_cons h,lim_lt h]
theorem nval_drop {i:Nat} (h:i<l.length):nval (l.drop i)=lim l i+Bs*nval (l.drop (i+1)):=by rw [drop_cons h];rfl
theorem Small.drop {l:List Nat} (h:Small l) (k:Nat):Small (l.drop k):=fun y hy=>h y (List.mem_of_mem_drop hy)
theorem lim_of_take {a b:List Nat} {i:Nat} (h:a.take (i+1)=b.take (i+1)):lim a i=lim b i:=by
 have h1:lim (a.take (i+1)) i=lim a i:=lim_take (Nat.lt_succ_self i);have h2:lim (b.take (i+1)) i=lim b i:=lim_take (Nat.lt_succ_self i);rw [←h1,←h2,h]
structure DivAt (o ul qs:List Nat) (V j L:Nat):Prop where
 len:ul.length=o.length
 small:Small ul
 low:ul.take j=o.take j
 rem:nval (ul.drop j)<V
 val:nval (o.drop j)=nval qs*V+nval (ul.drop j)
 sq:Small qs
 ql:qs.length+j=L
theorem DivAt.start {o:List Nat} {V L:Nat} (hs:Small o) (hl:L≤o.length) (h:nval o<V*Bs ^ L):DivAt o o [] V L L:=by
 refine ⟨rfl,hs,rfl,?_,by simp [nval],Small.nil,by simp⟩;have h1:=nval_split o L hl;have h2:Bs ^ L*nval (o.drop L)<Bs ^ L*V:=by rw [Nat.mul_comm _ V];omega
 exact Nat.lt_of_mul_lt_mul_left h2
section
variable {o ul qs:List Nat} {V i L nb:Nat}
def win (ul:List Nat) (i nb:Nat):List Nat:=(ul.drop i).take (nb+1)
theorem DivAt.high (h:DivAt o ul qs V (i+1) L) (hV:V≤Bs ^ nb) (hi:i+nb+1≤ul.length):nval (ul.drop (i+nb+1))=0:=by
 have h1:=nval_split (ul.drop (i+1)) nb (by rw [dZ3];omega);rw [List.drop_drop,show i+1+nb=i+nb+1 by omega] at h1;have h2:=h.rem;rcases Nat.eq_zero_or_pos (nval (ul.drop (i+nb+1))) with h3|h3
 ·exact h3
 ·have:=Nat.mul_le_mul_left (Bs ^ nb) h3;omega
theorem DivAt.win (h:DivAt o ul qs V (i+1) L) (hV:V≤Bs ^ nb) (hi:i+nb+1≤ul.length):(Go.Proofs.Q.win ul i nb).length=nb+1∧Small (Go.Proofs.Q.win ul i nb)∧nval (ul.drop i)=nval (Go.Proofs.Q.win ul i nb)∧nval (Go.Proofs.Q.win ul i nb)<V*Bs:=by
 have hz:=h.high hV hi;have h1:=nval_split (ul.drop i) (nb+1) (by rw [dZ3];omega);rw [List.drop_drop,show i+(nb+1)=i+nb+1 by omega,hz,Nat.mul_zero,Nat.add_zero] at h1;have h2:=nval_drop (l:=ul) (i:=i) (by omega);have h3:=bT h.small i;have h4:=h.rem;refine ⟨by unfold Go.Proofs.Q.win;rw [iZ1,dZ3];omega,(h.small.drop i).take _,h1,?_⟩;show nval ((ul.drop i).take (nb+1))<V*Bs
 rw [←h1,h2,cL];omega
theorem DivAt.step (h:DivAt o ul qs V (i+1) L) (hV:V≤Bs ^ nb) (hV0:0<V) (hi:i+nb+1≤ul.length) (hl:r.length=nb+1) (hs:Small r) (hr:nval r=nval (Go.Proofs.Q.win ul i nb) % V) :
  DivAt o (ul.take i++(r++ul.drop (i+nb+1))) (nval (Go.Proofs.Q.win ul i nb) / V::qs) V i L:=by
 have hz:=h.high hV hi;obtain ⟨w1,w2,w3,w4⟩:=h.win hV hi;have hti:(ul.take i).length=i:=by rw [iZ1];omega
 have hdr:(ul.take i++(r++ul.drop (i+nb+1))).drop i=r++ul.drop (i+nb+1):=List.drop_left' hti;have hvd:nval (r++ul.drop (i+nb+1))=nval r:=by rw [nval_append,hz,Nat.mul_zero,Nat.add_zero]
 have hlo:=congrArg (List.take i) h.low;rw [List.take_take,List.take_take,Nat.min_eq_left (by omega)] at hlo;have hq:nval (Go.Proofs.Q.win ul i nb) / V<Bs:=by rw [Nat.div_lt_iff_lt_mul hV0,Nat.mul_comm];exact w4
 refine ⟨?_,(h.small.take i).append (hs.append (h.small.drop _)),by rw [List.take_left' hti];exact hlo,?_,?_,Small.cons (by rw [cL] at hq;exact hq) h.sq,?_⟩
 ·rw [←h.len,aZ1,aZ1,hti,hl,dZ3];omega
 ·rw [hdr,hvd,hr];exact Nat.mod_lt _ hV0
 ·rw [hdr,hvd,hr];have e1:=nval_drop (l:=o) (i:=i) (by rw [←h.len];omega);have e2:=nval_drop (l:=ul) (i:=i) (by omega);have e3:=lim_of_take h.low;have e4:=h.val;have e5:=Nat.div_add_mod (nval (Go.Proofs.Q.win ul i nb)) V;have e6:nval (nval (Go.Proofs.Q.win ul i nb) / V::qs)*V=nval (Go.Proofs.Q.win ul i nb) / V*V+Bs*(nval qs*V):=by rw [nval,Nat.add_mul,Nat.mul_assoc]
  rw [e6,e1,e4,←e3,Nat.mul_add];rw [w3] at e2;rw [Nat.mul_comm V] at e5;omega
 ·have:=h.ql;simp only [gZ1];omega
end
theorem DivAt.last {o ul qs:List Nat} {V L:Nat} (h:DivAt o ul qs V 0 L) (hV0:0<V):nval qs=nval o / V∧nval ul=nval o % V:=by
 have h1:=h.val;have h2:=h.rem;simp only [List.drop_zero] at h1 h2;constructor
 ·rw [h1,Nat.mul_comm,Nat.mul_add_div hV0,Nat.div_eq_of_lt h2,Nat.add_zero]
 ·rw [h1,Nat.mul_comm,Nat.mul_add_mod,Nat.mod_eq_of_lt h2]
def shrK (u:List Nat) (k:Nat):Nat→List Nat
 | 0=>[]
 | i+1=>shrK u k i++[lim u i / 2 ^ k+lim u (i+1) % 2 ^ k*2 ^ (32-k)]
theorem shr_limb {x y:Nat} (hx:x<4294967296) (hk:k<32):x / 2 ^ k<2 ^ (32-k)∧x / 2 ^ k+y % 2 ^ k*2 ^ (32-k)<4294967296:=by
 have hp:2 ^ k*2 ^ (32-k)=4294967296:=by rw [←Nat.pow_add,show k+(32-k)=32 by omega]
 have h1:x / 2 ^ k<2 ^ (32-k):=by rw [Nat.div_lt_iff_lt_mul (Nat.two_pow_pos _),Nat.mul_comm,hp];exact hx
 refine ⟨h1,?_⟩;have h2:(y % 2 ^ k+1)*2 ^ (32-k)≤2 ^ k*2 ^ (32-k):=Nat.mul_le_mul_right _ (Nat.mod_lt _ (Nat.two_pow_pos _));rw [hp,Nat.add_mul,Nat.one_mul] at h2;omega
theorem shrK_spec {u:List Nat} {k:Nat} (hs:Small u) (hk:k<32):∀i,(shrK u k i).length=i∧Small (shrK u k i)∧2 ^ k*nval (shrK u k i)+lim u 0 % 2 ^ k=nval (u.take i)+Bs ^ i*(lim u i % 2 ^ k)
 | 0=>⟨rfl,Small.nil,by simp [shrK,nval]⟩
 | i+1=>by
  obtain ⟨h1,h2,h3⟩:=shrK_spec hs hk i;have hp:2 ^ k*2 ^ (32-k)=4294967296:=by rw [←Nat.pow_add,show k+(32-k)=32 by omega]
  refine ⟨by simp [shrK,h1],small_snoc h2 (shr_limb (bT hs i) hk).2,?_⟩;have e1:2 ^ k*(lim u i / 2 ^ k+lim u (i+1) % 2 ^ k*2 ^ (32-k))+lim u i % 2 ^ k=lim u i+Bs*(lim u (i+1) % 2 ^ k):=by
   have:=Nat.div_add_mod (lim u i) (2 ^ k);rw [Nat.mul_add,Nat.mul_left_comm,hp,cL,Nat.mul_comm (lim u (i+1) % 2 ^ k)];omega
  simp only [shrK];rw [nval_snoc,h1,bL,Nat.mul_add,Nat.pow_succ,Nat.mul_assoc (Bs ^ i) Bs];generalize hX:lim u i / 2 ^ k+lim u (i+1) % 2 ^ k*2 ^ (32-k)=X at *
  generalize lim u (i+1) % 2 ^ k=Y at *
  generalize lim u i % 2 ^ k=Z at *
  have e2:=congrArg (Bs ^ i*·) e1;simp only [Nat.mul_add] at e2;rw [Nat.mul_left_comm (2 ^ k)];omega
theorem shrK_all {nb R:Nat} (hs:Small u) (hk:k<32) (h0:lim u nb=0) (hv:nval (u.take nb)=R*2 ^ k):nval (shrK u k nb)=R:=by
 have h:=(shrK_spec hs hk nb).2.2;rw [h0,Nat.zero_mod,Nat.mul_zero,Nat.add_zero,hv,Nat.mul_comm R] at h;have hm:=Nat.mod_lt (lim u 0) (Nat.two_pow_pos k);generalize lim u 0 % 2 ^ k=z at *
 have hd:2 ^ k*nval (shrK u k nb)≤2 ^ k*R:=by omega
 have hle:=Nat.le_of_mul_le_mul_left hd (Nat.two_pow_pos k);rcases Nat.lt_or_ge (nval (shrK u k nb)) R with hlt|hge
 ·have:=Nat.mul_le_mul_left (2 ^ k) hlt;rw [Nat.mul_succ] at this;omega
 ·omega
end
end Go.Proofs.Q
