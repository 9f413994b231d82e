/- Plain arithmetic: one limb of a quotient, guessed by the upper limbs, and put right. -/
import Derived.Test.YtlldghknenbccaaGreatDoorRNats
import Derived.Deep.DeepCutAuto
import Derived.Deep.RegionHeld3
import Derived.Deep.CutBlock
set_option linter.unusedSimpArgs false
set_option linter.unusedVariables false
set_option maxRecDepth 100000
set_option maxHeartbeats 4000000
namespace Go.Proofs.Q
open Go.RowKit Tryz
section
variable {v u o:List Nat} {m i:Nat}
theorem aUR (h:v.length=m+2):nval v=nval (v.take m)+Bs ^ m*(lim v m+Bs*lim v (m+1)):=by
 have h1:=bS v (m+1);have h2:=bS v m;rw [eZ1 zZ] at h1;rw [h1,h2,Nat.pow_succ,Nat.mul_add,Nat.mul_assoc];omega
theorem aUB (h:u.length=m+3):nval u=nval (u.take m)+Bs ^ m*(lim u m+Bs*(lim u (m+1)+Bs*lim u (m+2))):=by
 have h1:=bS u (m+2);have h2:=bS u (m+1);have h3:=bS u m;rw [eZ1 zZ] at h1;have e1:∀X,Bs ^ (m+1)*X=Bs ^ m*(Bs*X):=fun X=>by rw [Nat.pow_succ,Nat.mul_assoc]
 have e2:∀X,Bs ^ (m+2)*X=Bs ^ m*(Bs*(Bs*X)):=fun X=>by rw [Nat.pow_succ,Nat.pow_succ,Nat.mul_assoc,Nat.mul_assoc]
 rw [h1,h2,h3,e1,e2,Nat.mul_add,Nat.mul_add Bs,Nat.mul_add];omega
theorem aBD (hs:Small u) (m:Nat):nval (u.take m)<Bs ^ m:=
 cZ1 (nM (hs.take m)) (Nat.pow_le_pow_right iI oU)
section
variable {P U Ul u0 u1 u2 V Vl v1 v2 q:Nat}
theorem aPQ (hU:U=Ul+P*(u2+Bs*(u1+Bs*u0))) (hul:Ul<P) (hu2:u2<Bs) (hV:V=Vl+P*(v2+Bs*v1)) (hv1:0<v1):U / V≤(u1+Bs*u0) / v1:=by
 rw [Nat.le_div_iff_mul_le hv1];have h1:U / V*V≤U:=Nat.div_mul_le_self U V;generalize U / V=Q at *
 have h2:Q*(P*(Bs*v1))≤Q*V:=Nat.mul_le_mul_left _ (by rw [hV,Nat.mul_add];omega);have h3:U<P*(Bs*(u1+Bs*u0+1)):=by
  have:P*(u2+Bs*(u1+Bs*u0))+P≤P*(Bs*(u1+Bs*u0+1)):=by
   rw [←Nat.mul_succ];exact Nat.mul_le_mul_left _ (by rw [Nat.mul_succ];omega)
  omega
 have h4:P*Bs*(Q*v1)<P*Bs*(u1+Bs*u0+1):=by
  have e1:P*Bs*(Q*v1)=Q*(P*(Bs*v1)):=by rw [Nat.mul_left_comm Q P,Nat.mul_left_comm Q Bs,Nat.mul_assoc]
  have e2:P*Bs*(u1+Bs*u0+1)=P*(Bs*(u1+Bs*u0+1)):=by rw [Nat.mul_assoc]
  omega
 have h5:=Nat.lt_of_mul_lt_mul_left h4;omega
theorem aTK (hU:U=Ul+P*(u2+Bs*(u1+Bs*u0))) (hul:Ul<P) (hV:V=Vl+P*(v2+Bs*v1)) (hq:U / V≤q) (hle:q*v1≤u1+Bs*u0) (hgt:(u1+Bs*u0-q*v1)*Bs+u2<q*v2):U / V≤q-1:=by
 rcases Nat.lt_or_ge (U / V) q with h|h
 ·omega
 ·exfalso;have e:U / V=q:=zZ;have h1:q*V≤U:=by rw [←e];exact Nat.div_mul_le_self U V
  have h2:(u1+Bs*u0)*Bs+u2+1≤q*(v2+Bs*v1):=xT;have h3:P*((u1+Bs*u0)*Bs+u2+1)≤q*V:=by
   refine bZ1 (Nat.mul_le_mul_left P h2) ?_;rw [hV,Nat.mul_add q Vl,Nat.mul_left_comm q P];omega
  have h4:P*((u1+Bs*u0)*Bs+u2+1)=P*(u2+Bs*(u1+Bs*u0))+P:=by
   rw [Nat.mul_succ,Nat.mul_comm (u1+Bs*u0) Bs,Nat.add_comm (Bs*_) u2]
  omega
theorem aRM (hU:U=Ul+P*(u2+Bs*(u1+Bs*u0))) (hV:V=Vl+P*(v2+Bs*v1)) (hvl:Vl<P) (hv1:0<v1) (hB:q<Bs) (hle:q*v1≤u1+Bs*u0) (hno:q*v2≤(u1+Bs*u0-q*v1)*Bs+u2):q*V<U+V:=by
 have h2:q*(v2+Bs*v1)≤(u1+Bs*u0)*Bs+u2:=xT;have h3:q*(P*(v2+Bs*v1))≤U:=by
  rw [Nat.mul_left_comm q P];refine bZ1 (Nat.mul_le_mul_left P h2) ?_;rw [hU,Nat.mul_comm (u1+Bs*u0) Bs,Nat.add_comm (Bs*_) u2];omega
 have h4:q*Vl<P*Bs:=by
  rcases Nat.eq_zero_or_pos q with h0|h0
  ·subst h0;rw [Nat.zero_mul];exact Nat.mul_pos zZ iI
  ·calc q*Vl<q*P:=Nat.mul_lt_mul_of_pos_left hvl h0
    _≤P*Bs:=by rw [Nat.mul_comm];exact Nat.mul_le_mul_left _ (Nat.le_of_lt hB)
 have h5:P*Bs≤V:=by
  rw [hV,Nat.mul_add,←Nat.mul_assoc];have:P*Bs*1≤P*Bs*v1:=Nat.mul_le_mul_left _ hv1;omega
 calc q*V=q*Vl+q*(P*(v2+Bs*v1)):=by rw [hV,Nat.mul_add]
  _<U+V:=zZ
end
theorem aIO {U V q:Nat} (hV:0<V) (h1:U / V≤q) (h2:q*V<U+V):q=U / V∨(q=U / V+1∧U<q*V):=by
 have hd:=Nat.div_add_mod U V;have hm:=Nat.mod_lt U hV;have h3:q<U / V+2:=by
  apply Nat.lt_of_mul_lt_mul_right (a:=V);rw [Nat.add_mul];rw [Nat.mul_comm] at hd;omega
 rcases Nat.lt_or_ge (U / V) q with h|h
 ·right;refine ⟨zZ,?_⟩;have e:q=U / V+1:=zZ;rw [e,Nat.add_mul,Nat.one_mul,Nat.mul_comm];omega
 ·left;omega
theorem aPG {U V q R N b:Nat} (hV:0<V) (h1:U / V≤q) (h2:q*V<U+V) (hR:R+q*V=U+N*b) (hRN:R<N) (hb:b=0):q=U / V∧R=U % V:=by
 subst hb;rw [Nat.mul_zero,Nat.add_zero] at hR;rcases aIO hV h1 h2 with h|⟨_,h⟩
 ·subst h;have hd:=Nat.div_add_mod U V;rw [Nat.mul_comm] at hd;exact⟨rfl,zZ⟩
 ·omega
theorem aST {U V q R R' N b c:Nat} (hV:0<V) (hVN:V≤N) (h1:U / V≤q) (h2:q*V<U+V) (hR:R+q*V=U+N*b) (hRN:R<N) (hb0:0<b) (hb:b≤1) (hR':R'+N*c=R+V) (hRN':R'<N):q=U / V+1∧R'=U % V:=by
 obtain rfl:b=1:=zZ;rw [Nat.mul_one] at hR;have hd:=Nat.div_add_mod U V;have hm:=Nat.mod_lt U hV;rcases aIO hV h1 h2 with h|⟨h,_⟩
 ·subst h;rw [Nat.mul_comm] at hd;omega
 ·refine ⟨h,?_⟩;subst h;rw [Nat.add_mul,Nat.one_mul,Nat.mul_comm] at hR;have hc:c=1:=by
   rcases Nat.lt_or_ge c 1 with h|h
   ·obtain rfl:c=0:=zZ;omega
   ·rcases Nat.lt_or_ge c 2 with h'|h'
    ·omega
    ·have:=Nat.mul_le_mul_left N h';omega
  subst hc;omega
theorem TP (o:List Nat) (x:Nat):lim (o++[x]) o.length=x:=by simp [lim,List.getD]
theorem aBI {x:Nat} (h:i<o.length):lim (o++[x]) i=lim o i:=by simp [lim,List.getD,List.getElem?_append_left h]
theorem aBO {a:List Nat} {n more:Nat}:∀(j i:Nat),i<j→lim (cA a n more j).1 i=(lim a i*n+(cA a n more i).2) % Bs
 | 0,_,h=>zZ
 | j+1,i,h=>by
  have hl:∀j,(cA a n more j).1.length=j:=fun j=>wI;rcases Nat.lt_or_ge i j with h'|h'
  ·show lim ((cA a n more j).1++[_]) i=_
   rw [aBI (by rw [hl];exact h'),aBO j i h']
  ·obtain rfl:i=j:=zZ;show lim ((cA a n more i).1++[_]) i=_
   have:=TP (cA a n more i).1 ((lim a i*n+(cA a n more i).2) % Bs);rwa [hl] at this
def iQ (v:List Nat) (q:Nat):List Nat:=(cA v q 0 v.length).1++[(cA v q 0 v.length).2]
theorem GD {q:Nat} (hv:Small v) (hq:q<4294967296):(iQ v q).length=v.length+1∧Small (iQ v q)∧nval (iQ v q)=q*nval v:=by
 obtain ⟨h1,h2,h3,h4⟩:=MZ (more:=0) hv hq zY v.length;refine ⟨by simp [iQ,h1],CB h2 h3,?_⟩;unfold iQ;rw [CK,h1,h4,List.take_length,Nat.mul_comm];rfl
theorem aQO {q:Nat} (h:i<v.length):lim (iQ v q) i=(lim v i*q+(cA v q 0 i).2) % Bs:=by
 unfold iQ;have hl:∀j,(cA v q 0 j).1.length=j:=fun j=>wI;rw [aBI (by rw [hl];exact h),aBO _ _ h]
theorem aLL {q:Nat}:lim (iQ v q) v.length=(cA v q 0 v.length).2:=by
 unfold iQ;have hl:∀j,(cA v q 0 j).1.length=j:=fun j=>wI;have:=TP (cA v q 0 v.length).1 (cA v q 0 v.length).2;rwa [hl] at this
theorem aTH {q:Nat} (hu:Small u) (hv:Small v) (hl:u.length=v.length+1) (hV:0<nval v) (hq:q<4294967296) (h1:nval u / nval v≤q) (h2:q*nval v<nval u+nval v) :
  ((fA u (iQ v q) u.length).2=0→q=nval u / nval v∧nval (fA u (iQ v q) u.length).1=nval u % nval v) ∧
  (0<(fA u (iQ v q) u.length).2→q=nval u / nval v+1∧nval (fB (fA u (iQ v q) u.length).1 v u.length).1=nval u % nval v):=by
 obtain ⟨t1,t2,t3⟩:=GD hv hq;obtain ⟨s1,s2,s3,s4⟩:=BG hu t2 u.length;rw [List.take_length,eZ1 zZ,t3] at s4;have hn:=nM s2;rw [s1] at hn;obtain ⟨a1,a2,a3,a4⟩:=GU s2 hv u.length;rw [eZ1 zZ,eZ1 zZ] at a4;have hn2:=nM a2;rw [a1] at hn2;have hVN:nval v≤Bs ^ u.length:=bZ1 (Nat.le_of_lt (nM hv)) (Nat.pow_le_pow_right iI zZ);exact⟨fun h=>aPG hV h1 h2 s4 hn h,fun h=>aST hV hVN h1 h2 s4 hn h s3 a4 hn2⟩
end
section
variable {rest:List Value} {E:TypeId} {w:World} {g x i k:Nat} {v:Value}
theorem IK {pre o t:List Nat} {y:Nat} (h:aF w g E (eX pre++(eX o++(eX (y::t)++rest)))) (hi:pre.length=i) (hk:o.length=k) (hv:v=u32 x) :
  aF (w.setCell ⟨g,i+k,none⟩ v) g E (eX pre++(eX (o++[x])++(eX t++rest))):=by
 have h':aF w g E (eX (pre++o)++(eX (y::t)++rest)):=by simpa [eX] using h
 have:=EN (x:=x) (k:=i+k) h' (by simp [hi,hk]) hv;simpa [eX] using this
theorem KT {pre l:List Nat} (h:aF w g E (eX pre++(eX l++rest))) (hi:pre.length=i) (hk:k<l.length):w.cell? ⟨g,i+k,none⟩=some (.int .u32 (lim l k:Int)):=by
 have h':aF w g E (eX (pre++l)++rest):=by simpa [eX] using h
 rw [h'.cell,List.getElem?_append_left (by simp [eX];omega)];simp only [eX,List.getElem?_map];rw [List.getElem?_append_right zZ,show i+k-pre.length=k by omega,jZ2 hk,jB hk];rfl
theorem cI (h:x<18446744073709551616):IntKind.u64.wrap (x:Int)=(x:Int):=by simp [IntKind.wrap,IntKind.bits,IntKind.signed];omega
end
section
variable {rest:List Value} {w:World} {a2:Option Addr} {b' g r i:Nat} {E:TypeId}
theorem aVI (x y b:Nat) (hx:x<4294967296) (hy:y<4294967296) (hb:b≤1) (w:World) :
  Calls prog 188 #[.int .u32 (x:Int),.int .u32 (y:Int),.int .u32 (b:Int)] w fun e w'=>e=.returned (.tuple #[.int .u32 (((x+y+b) % 4294967296:Nat):Int),.int .u32 (((x+y+b) / 4294967296:Nat):Int)])∧w=w':=by
 have h1:=cI (x:=x+y) zZ;have h2:=cI (x:=x+y+b) zZ;simp only [Int.natCast_add] at h1 h2;go_enter func188,ntmps188
 go_wp2_with fail
 go_ret2
 have e:∀u v u' v':Int,u=u'→v=v'→Ending.returned (.tuple #[.int .u32 u,.int .u32 v])=Ending.returned (.tuple #[.int .u32 u',.int .u32 v']):=by rintro u v u' v' rfl rfl;rfl
 exact⟨e _ _ _ _ zZ zZ,rfl⟩
theorem aHH (x y b:Nat) (hr:r=(x+4294967296-y-b) % 4294967296) (hb':b'=1-(x+4294967296-y-b) / 4294967296) (hx:x<4294967296) (hy:y<4294967296) (hb:b≤1) (w:World) :
  Calls prog 187 #[.int .u32 (x:Int),.int .u32 (y:Int),.int .u32 (b:Int)] w fun e w'=>e=.returned (.tuple #[.int .u32 (r:Int),.int .u32 (b':Int)])∧w=w':=by
 subst hr hb';exact OE x y b hx hy hb w
theorem aZI (x y b:Nat) (hr:r=(b+x+y) % 4294967296) (hb':b'=(b+x+y) / 4294967296) (hx:x<4294967296) (hy:y<4294967296) (hb:b≤1) (w:World) :
  Calls prog 188 #[.int .u32 (x:Int),.int .u32 (y:Int),.int .u32 (b:Int)] w fun e w'=>e=.returned (.tuple #[.int .u32 (r:Int),.int .u32 (b':Int)])∧w=w':=by
 subst hr hb';rw [show b+x+y=x+y+b by omega];exact aVI x y b hx hy hb w
theorem KU {pre o l:List Nat} {k:Nat} (h:aF w g E (eX pre++(eX o++(eX (l.drop k)++rest)))) (hi:pre.length=i) (ho:o.length=k) (hk:k<l.length):w.cell? ⟨g,i+k,none⟩=some (.int .u32 (lim l k:Int)):=by
 have h':aF w g E (eX pre++(eX (o++l.drop k)++rest)):=by simpa [eX] using h
 have hdrop:l.drop k=lim l k::l.drop (k+1):=by rw [List.drop_eq_getElem_cons hk,jB hk]
 have:=KT (k:=k) h' hi (by rw [aZ1,ho,hdrop];simp);have e:lim (o++l.drop k) k=lim l k:=by
  rw [hdrop];unfold lim List.getD;rw [List.getElem?_append_right zZ,ho,Nat.sub_self];rfl
 rw [this,e]
def aZD (g:Nat) (pre u v:List Nat) (rest:List Value) (w:World) (e:Ending) (w':World):Prop:=
 ∃r,e=.returned (.int .u32 ((nval u / nval v:Nat):Int))∧r.length=u.length∧Small r∧nval r=nval u % nval v∧aF w' g 112 (eX pre++(eX r++rest))∧aA (One g) w w'
theorem aWQ {n N c m:Nat} {c2:Nat} {pre u v:List Nat} (h:aF w g 112 (eX pre++(eX u++rest))) (hi:pre.length=i) (hu:Small u) (hn:n=m+2) (hN:N=m+3) (hul:u.length=N) (hc:N≤c) (hc2:c≤9223372036854775807) (h2:aU (One g) w a2 n c2 v) (hv1:lim v (m+1)≠0) (hlt:nval u<nval v*Bs) :
  Calls prog 140 #[.slice (some ⟨g,i,none⟩) N c,.slice a2 n c2] w fun e w'=>aZD g pre u v rest w e w':=by
 have hvl:v.length=m+2:=by rw [h2.len,hn]
 have hU:=aUB (u:=u) (m:=m) zZ;have hV:=aUR (v:=v) (m:=m) hvl;have hUl:=aBD hu m;have hVl:=aBD h2.lt m;obtain ⟨m1,hm1⟩:∃m1,m1=m+1:=⟨_,rfl⟩;rw [←hm1] at hU hV hv1;rw [←hn] at hU;have x0:=KT (k:=m) h hi zZ;have x1:=KT (k:=m1) h hi zZ;have x2:=KT (k:=n) h hi zZ;have hg:=h.lt;obtain ⟨b2,off2,hae,hb2,hng,y0⟩:=h2.cell (k:=m) zZ;obtain ⟨b2',off2',hae',_,_,y1⟩:=h2.cell (k:=m1) zZ;subst hae;cases hae';have l0:=bX hu m;have l1:=bX hu m1;have l2:=bX hu n;have k0:=bX h2.lt m;have k1:=bX h2.lt m1;have i1:IntKind.i64.wrap ((n:Int)-1)=(m1:Int):=by rw [show (n:Int)-1=(m1:Int) by omega];exact IntWalk.i64_in _ zZ
 have i2:IntKind.i64.wrap ((n:Int)-2)=(m:Int):=by rw [show (n:Int)-2=(m:Int) by omega];exact IntWalk.i64_in _ zZ
 have j0:(0:Int)≤(m:Int):=zZ;have j1:(0:Int)≤(m1:Int):=zZ;have j2:(0:Int)≤(n:Int):=zZ;have j3:(m:Int)<(n:Int):=zZ;have j4:(m1:Int)<(n:Int):=zZ;have j5:(m:Int)<(N:Int):=zZ;have j6:(m1:Int)<(N:Int):=zZ;have j7:(n:Int)<(N:Int):=zZ;have HR:=jJ (aI7 h hi hu hul h2 hvl hlt);have HN:=jJ (aI3 hn hN hm1);clear h hi hu h2 hvl hlt hul hn hN hm1;generalize hu0:lim u m=p0 at *
 generalize hu1:lim u m1=p1 at *
 generalize hu2:lim u n=p2 at *
 generalize hv0:lim v m=r0 at *
 generalize hv2:lim v m1=r1 at *
 have HP:=jJ (aI5 hU hV hUl hVl hv1);clear hU hV hUl hVl hu0 hu1 hu2 hv0 hv2 hv1;have hbs:=beside p2 p1 l2 l1;obtain ⟨tp,htp⟩:∃tp,tp=p2*4294967296+p1:=⟨_,rfl⟩;rw [←htp] at hbs;have htl:tp<18446744073709551616:=zZ;have HTP:=jJ htp;clear htp;go_enter func140,ntmps140
 go_upto_region 2 with (fail)
 go_quiet (fail)
 all_goals
  obtain ⟨q0,hq0⟩:∃q0,q0=min (tp / r1) 4294967295:=⟨_,rfl⟩;have hr1:¬(r1:Int)=0:=pK;have hd0:IntKind.u64.wrap ((tp:Int) / (r1:Int))=((tp / r1:Nat):Int):=by rw [←Int.natCast_ediv];exact cI (Nat.lt_of_le_of_lt (Nat.div_le_self _ _) htl)
  have hd2:IntKind.u64.wrap ((tp / r1:Nat):Int)=((tp / r1:Nat):Int):=cI (Nat.lt_of_le_of_lt (Nat.div_le_self _ _) htl);have hd1:(tp:Int) / (r1:Int)=((tp / r1:Nat):Int):=(Int.natCast_ediv _ _).symm;generalize hd:tp / r1=d0 at *
  have hqd:q0=min d0 4294967295:=hq0;have HD:=jJ (aI hqd hd);clear hqd hd hq0;go_upto_region 3 with (fail)
  go_cut [7] (fun v wy=>v=.int .u64 (q0:Int)∧aA Nil w wy)
  case first=>
   by_cases hdl:d0≤4294967295
   ·have hdl':(d0:Int)≤4294967295:=zZ;have hdl2:¬4294967295<(d0:Int):=zZ;go_wp2_with fail
    go_meet
    case rel=>exact⟨by rw [HD.o.1,Nat.min_eq_left hdl],kOf⟩
   ·have hdl':¬(d0:Int)≤4294967295:=zZ;have hdl2:4294967295<(d0:Int):=zZ;go_wp2_with fail
    go_meet
    case rel=>exact⟨by rw [HD.o.1,Nat.min_eq_right zZ];rfl,kOf⟩
  case rest=>
   rename World=>wy;obtain ⟨rfl,hk0⟩:=hcut;obtain ⟨s0,hs0⟩:∃s0,s0=q0*r1:=⟨_,rfl⟩;have hs1:s0≤tp:=by
    rw [hs0,HD.o.1]
    calc min d0 4294967295*r1≤d0*r1:=Nat.mul_le_mul_right _ (Nat.min_le_left _ _)
     _≤tp:=by rw [←HD.o.2];exact Nat.div_mul_le_self _ _
   obtain ⟨e0,he0⟩:∃e0,e0=tp-s0:=⟨_,rfl⟩;have a1:(q0:Int)*(r1:Int)=(s0:Int):=by rw [hs0,Int.natCast_mul]
   have a2:IntKind.u64.wrap (s0:Int)=(s0:Int):=cI zZ;have a3:(tp:Int)-(s0:Int)=(e0:Int):=zZ;have a4:IntKind.u64.wrap (e0:Int)=(e0:Int):=cI zZ;have z1:=hk0.eY hb2 id y1;have hql0:q0<4294967296:=by rw [HD.o.1];have:=Nat.min_le_right d0 4294967295;omega
   have hqe0:q0*r1+e0=tp:=zZ;have hge0:nval u / nval v≤q0:=by
    rw [HD.o.1];refine Nat.le_min.2 ⟨?_,?_⟩
    ·rw [←HD.o.2,HTP.o];have:=aPQ (V:=nval v) HP.o.1 HP.o.2.2.1 (by rw [cY];exact l0) HP.o.2.1 pK;rwa [show p1+Bs*p2=p2*4294967296+p1 by rw [cY];omega] at this
    ·have:nval u / nval v<Bs:=by
      rw [Nat.div_lt_iff_lt_mul (by have h:=HR.o.r6;rcases Nat.eq_zero_or_pos (nval v) with h0|h0;(rw [h0] at h;omega);exact h0)];rw [Nat.mul_comm];exact HR.o.r6
     rw [cY] at this;omega
   have HQ0:=jJ (aI4 hge0 hql0 hqe0 hk0);clear hge0 hqe0 hs0 he0 hk0 hd0 hd1 hd2;go_wp2_with fail
   go_loopw [7,8] (fun q e wr=>∃Q E:Nat,q=.int .u64 Q∧e=.int .u64 E∧nval u / nval v≤Q∧Q<4294967296∧Q*r1+E=tp∧aA Nil w wr) (fun q _ _=>(intOf q).toNat)
   case atStart=>exact⟨q0,e0,rfl,rfl,HQ0.o.1,HQ0.o.2.1,HQ0.o.2.2.1,HQ0.o.2.2.2⟩
   case round=>
    clear HQ0 a1 a2 a3 a4 z1 hql0;obtain ⟨Q,F,rfl,rfl,hge,hql,hqe,hkr⟩:=hrel;have z0:=hkr.eY hg id x0;have z1:=hkr.eY hb2 id y0;have z2:=hkr.eY hb2 id y1;obtain ⟨t,ht⟩:∃t,t=Q*r0:=⟨_,rfl⟩;have htl:t<18446744073709551616:=by
     have:Q*r0≤4294967295*4294967295:=Nat.mul_le_mul zZ zZ;omega
    have b1:(Q:Int)*(r0:Int)=(t:Int):=by rw [ht,Int.natCast_mul]
    have b2':IntKind.u64.wrap (t:Int)=(t:Int):=cI htl;obtain ⟨f,hf⟩:∃f,f=F*4294967296+p0:=⟨_,rfl⟩;have HQ:=jJ (aI6 hge hql hqe hkr ht hf);clear hge hqe hkr ht;by_cases hst:F<4294967296∧f<t
    ·obtain ⟨hF,hgt⟩:=hst;have hF':(F:Int)<4294967296:=zZ;have hb5:=beside F p0 hF l0;rw [←hf] at hb5;clear hf;have hgt':(f:Int)<(t:Int):=zZ;obtain ⟨Q1,hQ1⟩:∃Q1,Q=Q1+1:=⟨Q-1,by
      rcases Nat.eq_zero_or_pos Q with h|h
      ·have:=HQ.o.r4.1;rw [h,Nat.zero_mul] at this;omega
      ·omega⟩
     obtain ⟨F1,hF1⟩:∃F1,F1=F+r1:=⟨_,rfl⟩;have c1:(Q:Int)-1=(Q1:Int):=zZ;have c2':IntKind.u64.wrap (Q1:Int)=(Q1:Int):=cI zZ;have c3:(F:Int)+(r1:Int)=(F1:Int):=zZ;have c4:IntKind.u64.wrap (F1:Int)=(F1:Int):=cI zZ;have hstep:nval u / nval v≤Q1:=by
      have e1:p1+Bs*p2=tp:=by have:=HTP.o;rw [cY];omega
      have:=aTK (q:=Q) HP.o.1 HP.o.2.2.1 HP.o.2.1 HQ.o.1 (by rw [e1];have:=HQ.o.2.2.1;omega) (by
       have h5:=HQ.o.2.2.1;have h6:=HQ.o.r5;have h7:=HQ.o.r4.1;rw [e1,show tp-Q*r1=F by omega,cY];omega)
      omega
     have hnew:Q1*r1+F1=tp:=by have:=HQ.o.2.2.1;rw [hQ1,Nat.add_mul,Nat.one_mul] at this;omega
     have HS:=jJ (aI3 hstep hnew hQ1);clear hstep hnew hQ1 hF1 hgt;go_wp2_with fail
     go_quiet (fail)
     go_wp2_with fail
     all_goals go_roundw
     all_goals first|exact⟨Q1,F1,rfl,rfl,HS.o.1,by have:=HS.o.2.2;omega,HS.o.2.1,HQ.o.2.2.2.1.trans kOf⟩|(have:=HS.o.2.2;simp [intOf];omega)
    ·have hno:Q*r0≤F*4294967296+p0:=by
      have h1:=HQ.o.r4.1;have h2:=HQ.o.r5;rcases Nat.lt_or_ge F 4294967296 with h|h
      ·have:¬f<t:=fun h'=>hst ⟨h,h'⟩;omega
      ·have:4294967296*4294967296≤F*4294967296:=Nat.mul_le_mul_right _ h;omega
     have hlast:Q*nval v<nval u+nval v:=by
      have e1:p1+Bs*p2=tp:=by have:=HTP.o;rw [cY];omega
      refine aRM HP.o.1 HP.o.2.1 HP.o.2.2.2.1 pK (by rw [cY];exact HQ.o.2.1) (by rw [e1];have:=HQ.o.2.2.1;omega) ?_;have h5:=HQ.o.2.2.1;rw [e1,show tp-Q*r1=F by omega,cY];exact hno
     have HL:=jJ (aI4 HQ.o.1 HQ.o.2.1 hlast HQ.o.2.2.2.1);rcases Nat.lt_or_ge F 4294967296 with hF|hF
     case' inl=>
      have hFd:True:=trivial;have hgn:¬f<t:=fun h=>hst ⟨hF,h⟩;have hgtd:decide ((f:Int)<(t:Int))=false:=decide_eq_false fun h=>hst ⟨hF,zZ⟩;have hb5:=beside F p0 hF l0;rw [←hf] at hb5;have hF':(F:Int)<4294967296:=zZ
     case' inr=>
      have hgn:True:=trivial;have hgtd:True:=trivial;have hb5:True:=trivial;have hF':True:=trivial;have hFd:decide ((F:Int)<4294967296)=false:=decide_eq_false fun h=>zZ
     all_goals
      clear hst hno hlast hF hql hf;go_wp2_with fail
      go_quiet (fail)
      clear b1 b2' htl hr1 hbs HQ HTP HP hFd hgtd hb5 hF';have hkz:aA Nil w (wr.drewN nq):=HL.o.2.2.2.trans kOf;generalize wr.drewN nq=wz at *
      have HZ:=jJ hkz;obtain ⟨t1,t2,t3⟩:=GD HR.o.r4.1.lt HL.o.2.1;have HT:=jJ (aI3 t1 t2 t3);obtain ⟨T,hT⟩:∃T,T=iQ v Q:=⟨_,rfl⟩;have HTT:=jJ hT;clear hkz t1 t2 t3 hT x0 x1 x2 y0 y1 z0 z1 z2 l0 l1 l2 k0 k1 i2 j0 j1 j3 j4 j5 j6;go_wp2_with fail
      go_loopw [9,10,84] (fun cv bv kv wr=>∃K:Nat,K≤n∧kv=.int .i64 K∧cv=.int .u64 ((cA v Q 0 K).2:Int)∧bv=.int .u32 ((fA u T K).2:Int)∧aF wr g 112 (eX pre++(eX (fA u T K).1++(eX (u.drop K)++rest)))∧aA (One g) w wr) (fun _ _ kv _=>n-(intOf kv).toNat)
      case atStart=>exact⟨0,aZ2 _,rfl,rfl,rfl,HR.o.1.keep HZ.o id,HZ.o.of_nil⟩
      case round=>
       rename World=>wk;obtain ⟨K,hK,rfl,rfl,rfl,hrow,hkk⟩:=hrel;obtain ⟨q1,q2,q3,q4⟩:=MZ (more:=0) HR.o.r4.1.lt HL.o.2.1 zY K;obtain ⟨r1',r2',r3',r4'⟩:=BG HR.o.2.2.1 (b:=T) rV K;have hul:=HR.o.2.2.2.1;have hgk:=hrow.lt;by_cases hKn:K<n
       ·have hdrop:u.drop K=lim u K::u.drop (K+1):=by rw [List.drop_eq_getElem_cons zZ,jB zZ]
        have hx:=KU hrow HR.o.2.1 r1' (show K<u.length by omega);have hfz:=hrow.frozen (i+K);obtain ⟨b3,o3,hae,hb3,hng3,hy⟩:=(HR.o.r4.1.keep' hkk).cell hKn;cases hae;have lx:=bX HR.o.2.2.1 K;have ly:=bX HR.o.r4.1.lt K;have j3:(0:Int)≤(K:Int):=zZ;have j4:(K:Int)<(n:Int):=zZ;have j5:(K:Int)<(N:Int):=by have:=HN.o;omega
        have e1:(cA v Q 0 (K+1)).2=(lim v K*Q+(cA v Q 0 K).2) / Bs:=rfl;have e2:(fA u T (K+1)).2=1-(lim u K+Bs-lim T K-(fA u T K).2) / Bs:=rfl;have e3:(fA u T (K+1)).1=(fA u T K).1++[(lim u K+Bs-lim T K-(fA u T K).2) % Bs]:=rfl;have e4:lim T K=(lim v K*Q+(cA v Q 0 K).2) % Bs:=by rw [HTT.o];exact aQO (by rw [HR.o.r5.1];have:=HN.o;omega)
        rw [hdrop] at hrow;have HROW:=jJ (aI3 hrow hkk r1');rw [e4] at e2 e3;rw [cY] at e1 e2 e3;have HE:=jJ (aI3 e1 e2 e3);clear hrow hkk r1' r2' r4' q1 q2 q4 e1 e2 e3 e4 hdrop hgk hul;generalize hcc:(cA v Q 0 K).2=cc at *
        generalize hbb:(fA u T K).2=bb at *
        generalize hxx:lim u K=x at *
        generalize hyy:lim v K=y at *
        obtain ⟨pr,hpr⟩:∃pr,pr=y*Q:=⟨_,rfl⟩;have hprl:pr≤4294967295*4294967295:=by rw [hpr];exact Nat.mul_le_mul zZ sY
        obtain ⟨cn,hcn⟩:∃cn,cn=pr+cc:=⟨_,rfl⟩;obtain ⟨cl,hcl⟩:∃cl,cl=cn % 4294967296:=⟨_,rfl⟩;obtain ⟨ch,hch⟩:∃ch,ch=cn / 4294967296:=⟨_,rfl⟩;have b1:(Q:Int)*(y:Int)=(pr:Int):=by rw [hpr,Nat.mul_comm,Int.natCast_mul]
        have b2':IntKind.u64.wrap (pr:Int)=(pr:Int):=cI zZ;have b3':(cc:Int)+(pr:Int)=(cn:Int):=zZ;have b4:IntKind.u64.wrap (cn:Int)=(cn:Int):=cI zZ;have b5:(cn:Int) % 4294967296=(cl:Int):=zZ;have b6:(cn:Int) / 4294967296=(ch:Int):=zZ;have lcl:cl<4294967296:=zZ;rw [←hpr,←hcn] at HE;rw [←hcl,←hch] at HE;have HC:=jJ (aI4 hcc hbb hxx hyy);clear hcc hbb hxx hyy hpr hcn hcl hch hprl;go_wp2_with (go_at_call 187;refine (OE x cl bb lx lcl r3' _).mono ?_;rintro e w' ⟨rfl,rfl⟩)
        go_roundw
        case rel=>exact⟨K+1,zZ,zF,congrArg (Value.int .u64) (by rw [HE.o.1]),congrArg (Value.int .u32) (by rw [HE.o.2.1]),by rw [HE.o.2.2];exact IK HROW.o.1 HR.o.2.1 HROW.o.2.2 (congrArg (Value.int .u32) zZ),HROW.o.2.1.setCell (p:=⟨g,i+K,none⟩) (.inl rfl) _⟩
        case measure=>exact zI
       ·obtain rfl:K=n:=zZ;have hNn:N=K+1:=by have:=HN.o;omega
        have hdrop:u.drop K=lim u K::u.drop (K+1):=uM;have hx:=KU hrow HR.o.2.1 r1' (show K<u.length by omega);have hfz:=hrow.frozen (i+K);have lx:=bX HR.o.2.2.1 K;have e4:lim T K=(cA v Q 0 K).2:=by
         have h:=aLL (v:=v) (q:=Q);rw [←HTT.o,HR.o.r5.1] at h;rw [show K=m+2 by have:=HN.o;omega];exact h
        have e2:(fA u T N).2=1-(lim u K+Bs-lim T K-(fA u T K).2) / Bs:=by rw [hNn];rfl
        have e3:(fA u T N).1=(fA u T K).1++[(lim u K+Bs-lim T K-(fA u T K).2) % Bs]:=by rw [hNn];rfl
        rw [hdrop] at hrow;rw [e4,cY] at e2 e3;have hd2:u.drop (K+1)=[]:=List.drop_eq_nil_of_le zZ;rw [hd2] at hrow;have hRl:(fA u T N).1.length=N:=(BG HR.o.2.2.1 (b:=T) rV N).1;have hRs:Small (fA u T N).1:=(BG HR.o.2.2.1 (b:=T) rV N).2.1;have hV0:0<nval v:=by
         have h:=HR.o.r6;rcases Nat.eq_zero_or_pos (nval v) with h0|h0
         ·rw [h0] at h;omega
         ·exact h0
        have hends:=aTH HR.o.2.2.1 HR.o.r4.1.lt (by rw [HR.o.2.2.2.1,HR.o.r5.1];have:=HN.o;omega) hV0 HL.o.2.1 HL.o.1 HL.o.2.2.1;rw [HR.o.2.2.2.1,←HTT.o] at hends;generalize hcc:(cA v Q 0 K).2=cc at *
        generalize hbb:(fA u T K).2=bb at *
        generalize hxx:lim u K=x at *
        obtain ⟨rv,hrv⟩:∃rv,rv=(x+4294967296-cc-bb) % 4294967296:=⟨_,rfl⟩;obtain ⟨bv,hbv⟩:∃bv,bv=1-(x+4294967296-cc-bb) / 4294967296:=⟨_,rfl⟩;rw [←hbv] at e2;rw [←hrv] at e3;rw [e2] at hends;obtain ⟨R,hR⟩:∃R,R=(fA u T N).1:=⟨_,rfl⟩;rw [←hR] at e3 hRl hRs hends;have HROW:=jJ (aI8 hrow hkk r1' e3 hRl hRs hends hV0);have HV:=jJ (aI hrv hbv);have b5:(cc:Int) % 4294967296=(cc:Int):=zZ;have b6:(Q:Int) % 4294967296=(Q:Int):=sY;have HC:=jJ (aI3 hcc hbb hxx);have hbv1:bv≤1:=zZ;have j3:(K:Int)<(N:Int):=zZ;clear hrow hkk r1' r2' r4' q1 q2 q4 e2 e3 e4 hdrop hd2 hul hrv hbv hR hRl hRs hends hV0 hcc hbb hxx hNn;have hsw:IntKind.u32.wrap (rv:Int)=(rv:Int):=by
         have:=HV.o.1;have:rv<4294967296:=zZ;simp [IntKind.wrap,IntKind.bits,IntKind.signed];omega
        have HW2:aF (wk.setCell ⟨g,i+K,none⟩ (.int .u32 (rv:Int))) g 112 (eX pre++(eX R++rest)):=by
         have:=IK (v:=.int .u32 (rv:Int)) HROW.o.1 HR.o.2.1 HROW.o.2.2.1 rfl;rw [←HROW.o.2.2.2.1] at this;simpa [eX] using this
        have HK2:aA (One g) w (wk.setCell ⟨g,i+K,none⟩ (.int .u32 (rv:Int))):=HROW.o.2.1.setCell (p:=⟨g,i+K,none⟩) (.inl rfl) _;by_cases hB:bv=0
        ·have hB1:¬(0:Int)<(bv:Int):=zZ;have hB2:¬0<bv:=zZ;have HF:=jJ (aI3 (HROW.o.r6.1.1 hB) HW2 HK2);clear HW2 HK2 hB;go_wp2_with (go_at_call 187;refine (aHH x cc bb HV.o.1 HV.o.2 lx q3 r3' _).mono ?_;rintro e w' ⟨rfl,rfl⟩)
         go_ret
         exact⟨R,by rw [HF.o.1.1];rfl,by rw [HROW.o.r4.1,HR.o.2.2.2.1],HROW.o.r5.1,HF.o.1.2,HF.o.2.1,HF.o.2.2⟩
        ·have hB1:(0:Int)<(bv:Int):=zZ;have hB2:0<bv:=zZ;have HF:=jJ (aI3 (HROW.o.r6.1.2 hB2) HW2 HK2);obtain ⟨Q1,hQ0,hQ1⟩:∃Q1,Q1=nval u / nval v∧Q=Q1+1:=⟨_,rfl,HF.o.1.1⟩;have c1:(Q:Int)-1=(Q1:Int):=zZ;have c2':IntKind.u64.wrap (Q1:Int)=(Q1:Int):=cI sY;have c3:(Q1:Int) % 4294967296=(Q1:Int):=sY;have HQ1:=jJ hQ0;clear HW2 HK2 hB hQ1 hQ0;go_upto_region 17 with (go_at_call 187;refine (aHH x cc bb HV.o.1 HV.o.2 lx q3 r3' _).mono ?_;rintro e w' ⟨rfl,rfl⟩)
         generalize wk.setCell ⟨g,i+K,none⟩ (.int .u32 (rv:Int))=wb at *
         clear hx hfz hgk lx q3 r3' b5 b6 hsw;go_wp2_with fail
         go_loopw [13,132] (fun cv kv wr=>∃J:Nat,J≤K∧kv=.int .i64 J∧cv=.int .u32 ((fB R v J).2:Int)∧aF wr g 112 (eX pre++(eX (fB R v J).1++(eX (R.drop J)++rest)))∧aA (One g) w wr) (fun _ kv _=>K-(intOf kv).toNat)
         case atStart=>exact⟨0,aZ2 _,rfl,rfl,HF.o.2.1,HF.o.2.2⟩
         case round=>
          rename World=>wd;obtain ⟨J,hJ,rfl,rfl,hrow,hkk⟩:=hrel;have hRl:=HROW.o.r4.1;have hRs:=HROW.o.r5.1;have hNK:=HN.o;obtain ⟨r1',r2',r3',-⟩:=GU hRs HR.o.r4.1.lt J;have hgk:=hrow.lt;have hx:=KU hrow HR.o.2.1 r1' (show J<R.length by omega);have hfz:=hrow.frozen (i+J);have lx:=bX hRs J;have hdrop:R.drop J=lim R J::R.drop (J+1):=uM;have e2:(fB R v (J+1)).2=((fB R v J).2+lim R J+lim v J) / Bs:=rfl;have e3:(fB R v (J+1)).1=(fB R v J).1++[((fB R v J).2+lim R J+lim v J) % Bs]:=rfl;rw [cY] at e2 e3;rw [hdrop] at hrow;by_cases hJK:J<K
          ·obtain ⟨b3,o3,hae,hb3,hng3,hy⟩:=(HR.o.r4.1.keep' hkk).cell hJK;cases hae;have ly:=bX HR.o.r4.1.lt J;have j3:(0:Int)≤(J:Int):=zZ;have j4:(J:Int)<(K:Int):=zZ;have j5:(J:Int)<(N:Int):=zZ;generalize hbb:(fB R v J).2=bb at *
           generalize hxx:lim R J=x at *
           generalize hyy:lim v J=y at *
           obtain ⟨rv,hrv⟩:∃rv,rv=(bb+x+y) % 4294967296:=⟨_,rfl⟩;obtain ⟨bv,hbv⟩:∃bv,bv=(bb+x+y) / 4294967296:=⟨_,rfl⟩;rw [←hbv] at e2;rw [←hrv] at e3;have HRR:=jJ (aI5 hrow hkk r1' e2 e3);have HV:=jJ (aI hrv hbv);have HC:=jJ (aI3 hbb hxx hyy);clear hrow hkk r1' r2' e2 e3 hdrop hRl hRs hNK hrv hbv hbb hxx hyy;go_wp2_with (go_at_call 188;refine (aZI x y bb HV.o.1 HV.o.2 lx ly r3' _).mono ?_;rintro e w' ⟨rfl,rfl⟩)
           go_roundw
           case rel=>exact⟨J+1,zZ,zF,congrArg (Value.int .u32) (by rw [HRR.o.2.2.2.1]),by rw [HRR.o.r4];exact IK HRR.o.1 HR.o.2.1 HRR.o.2.2.1 rfl,HRR.o.2.1.setCell (p:=⟨g,i+J,none⟩) (.inl rfl) _⟩
           case measure=>exact zI
          ·obtain rfl:J=K:=zZ;have hz:lim v J=0:=FK (by rw [HR.o.r5.1];omega);have hd2:R.drop (J+1)=[]:=List.drop_eq_nil_of_le zZ;have j3:(0:Int)≤(J:Int):=zZ;have j5:(J:Int)<(N:Int):=zZ;rw [hz] at e3;rw [hd2] at hrow;generalize hbb:(fB R v J).2=bb at *
           generalize hxx:lim R J=x at *
           have hall:(fB R v N).1=(fB R v (J+1)).1:=by rw [show N=J+1 by omega]
           have hsp:=GU hRs HR.o.r4.1.lt N;have HRR:=jJ (aI6 hrow hkk r1' e3 hall hsp);obtain ⟨rv,hrv⟩:∃rv,rv=(bb+x) % 4294967296:=⟨_,rfl⟩;have b7:((x:Int)+(bb:Int)) % 4294967296=(rv:Int):=zZ;have HRV:=jJ hrv;clear hrow hkk r1' r2' r3' e2 e3 hdrop hRl hRs hNK hbb hxx hz hd2 hall hsp hrv hJK hJ;go_wp2_with fail
           go_ret
           refine ⟨(fB R v N).1,by rw [←HQ1.o];rfl,by rw [HRR.o.r5.1,HR.o.2.2.2.1],HRR.o.r6.1,HF.o.1.2,?_,HRR.o.2.1.setCell (p:=⟨g,i+J,none⟩) (.inl rfl) _⟩;rw [HRR.o.r4.1,HRR.o.2.2.2.1,Nat.add_zero,←HRV.o];have:=IK (v:=.int .u32 (rv:Int)) HRR.o.1 HR.o.2.1 HRR.o.2.2.1 rfl;simpa [eX] using this
end
section
variable {l r u:List Nat} {k:Nat}
theorem drop_cons {i:Nat} (h:i<l.length):l.drop i=lim l i::l.drop (i+1):=by rw [List.drop_eq_getElem_cons h,jB h]
theorem OI {i:Nat} (h:i<l.length):nval (l.drop i)=lim l i+Bs*nval (l.drop (i+1)):=by rw [drop_cons h];rfl
theorem Small.drop {l:List Nat} (h:Small l) (k:Nat):Small (l.drop k):=fun y hy=>h y (List.mem_of_mem_drop hy)
theorem aOE {a b:List Nat} {i:Nat} (h:a.take (i+1)=b.take (i+1)):lim a i=lim b i:=by
 have h1:lim (a.take (i+1)) i=lim a i:=QA (Nat.lt_succ_self i);have h2:lim (b.take (i+1)) i=lim b i:=QA (Nat.lt_succ_self i);rw [←h1,←h2,h]
structure mI (o ul qs:List Nat) (V j L:Nat):Prop where
 len:ul.length=o.length
 small:Small ul
 low:ul.take j=o.take j
 rem:nval (ul.drop j)<V
 val:nval (o.drop j)=nval qs*V+nval (ul.drop j)
 sq:Small qs
 ql:qs.length+j=L
theorem mI.start {o:List Nat} {V L:Nat} (hs:Small o) (hl:L≤o.length) (h:nval o<V*Bs ^ L):mI o o [] V L L:=by
 refine ⟨rfl,hs,rfl,?_,by simp [nval],Small.nil,zW⟩;have h1:=GN o L hl;have h2:Bs ^ L*nval (o.drop L)<Bs ^ L*V:=by rw [Nat.mul_comm _ V];omega
 exact Nat.lt_of_mul_lt_mul_left h2
section
variable {o ul qs:List Nat} {V i L nb:Nat}
def win (ul:List Nat) (i nb:Nat):List Nat:=(ul.drop i).take (nb+1)
theorem mI.high (h:mI o ul qs V (i+1) L) (hV:V≤Bs ^ nb) (hi:i+nb+1≤ul.length):nval (ul.drop (i+nb+1))=0:=by
 have h1:=GN (ul.drop (i+1)) nb qR;rw [List.drop_drop,show i+1+nb=i+nb+1 by omega] at h1;have h2:=h.rem;rcases Nat.eq_zero_or_pos (nval (ul.drop (i+nb+1))) with h3|h3
 ·exact h3
 ·have:=Nat.mul_le_mul_left (Bs ^ nb) h3;omega
theorem mI.win (h:mI o ul qs V (i+1) L) (hV:V≤Bs ^ nb) (hi:i+nb+1≤ul.length):(Go.Proofs.Q.win ul i nb).length=nb+1∧Small (Go.Proofs.Q.win ul i nb)∧nval (ul.drop i)=nval (Go.Proofs.Q.win ul i nb)∧nval (Go.Proofs.Q.win ul i nb)<V*Bs:=by
 have hz:=h.high hV hi;have h1:=GN (ul.drop i) (nb+1) qR;rw [List.drop_drop,show i+(nb+1)=i+nb+1 by omega,hz,Nat.mul_zero,Nat.add_zero] at h1;have h2:=OI (l:=ul) (i:=i) zZ;have h3:=bX h.small i;have h4:=h.rem;refine ⟨by unfold Go.Proofs.Q.win;rw [iZ1,gZ3];omega,(h.small.drop i).take _,h1,?_⟩;show nval ((ul.drop i).take (nb+1))<V*Bs
 rw [←h1,h2,cY];omega
theorem mI.step (h:mI o ul qs V (i+1) L) (hV:V≤Bs ^ nb) (hV0:0<V) (hi:i+nb+1≤ul.length) (hl:r.length=nb+1) (hs:Small r) (hr:nval r=nval (Go.Proofs.Q.win ul i nb) % V) :
  mI o (ul.take i++(r++ul.drop (i+nb+1))) (nval (Go.Proofs.Q.win ul i nb) / V::qs) V i L:=by
 have hz:=h.high hV hi;obtain ⟨w1,w2,w3,w4⟩:=h.win hV hi;have hti:(ul.take i).length=i:=xV;have hdr:(ul.take i++(r++ul.drop (i+nb+1))).drop i=r++ul.drop (i+nb+1):=List.drop_left' hti;have hvd:nval (r++ul.drop (i+nb+1))=nval r:=by rw [JY,hz,Nat.mul_zero,Nat.add_zero]
 have hlo:=congrArg (List.take i) h.low;rw [List.take_take,List.take_take,Nat.min_eq_left zZ] at hlo;have hq:nval (Go.Proofs.Q.win ul i nb) / V<Bs:=by rw [Nat.div_lt_iff_lt_mul hV0,Nat.mul_comm];exact w4
 refine ⟨?_,(h.small.take i).append (hs.append (h.small.drop _)),by rw [List.take_left' hti];exact hlo,?_,?_,Small.cons (by rw [cY] at hq;exact hq) h.sq,?_⟩
 ·rw [←h.len,aZ1,aZ1,hti,hl,gZ3];omega
 ·rw [hdr,hvd,hr];exact Nat.mod_lt _ hV0
 ·rw [hdr,hvd,hr];have e1:=OI (l:=o) (i:=i) (by rw [←h.len];omega);have e2:=OI (l:=ul) (i:=i) zZ;have e3:=aOE h.low;have e4:=h.val;have e5:=Nat.div_add_mod (nval (Go.Proofs.Q.win ul i nb)) V;have e6:nval (nval (Go.Proofs.Q.win ul i nb) / V::qs)*V=nval (Go.Proofs.Q.win ul i nb) / V*V+Bs*(nval qs*V):=by rw [nval,Nat.add_mul,Nat.mul_assoc]
  rw [e6,e1,e4,←e3,Nat.mul_add];rw [w3] at e2;rw [Nat.mul_comm V] at e5;omega
 ·have:=h.ql;simp only [gZ1];omega
end
theorem mI.last {o ul qs:List Nat} {V L:Nat} (h:mI o ul qs V 0 L) (hV0:0<V):nval qs=nval o / V∧nval ul=nval o % V:=by
 have h1:=h.val;have h2:=h.rem;simp only [List.drop_zero] at h1 h2;constructor
 ·rw [h1,Nat.mul_comm,Nat.mul_add_div hV0,Nat.div_eq_of_lt h2,Nat.add_zero]
 ·rw [h1,Nat.mul_comm,Nat.mul_add_mod,Nat.mod_eq_of_lt h2]
def jT (u:List Nat) (k:Nat):Nat→List Nat
 | 0=>[]
 | i+1=>jT u k i++[lim u i / 2 ^ k+lim u (i+1) % 2 ^ k*2 ^ (32-k)]
theorem aGY {x y:Nat} (hx:x<4294967296) (hk:k<32):x / 2 ^ k<2 ^ (32-k)∧x / 2 ^ k+y % 2 ^ k*2 ^ (32-k)<4294967296:=by
 have hp:2 ^ k*2 ^ (32-k)=4294967296:=uT;have h1:x / 2 ^ k<2 ^ (32-k):=by rw [Nat.div_lt_iff_lt_mul (Nat.two_pow_pos _),Nat.mul_comm,hp];exact hx
 refine ⟨h1,?_⟩;have h2:(y % 2 ^ k+1)*2 ^ (32-k)≤2 ^ k*2 ^ (32-k):=Nat.mul_le_mul_right _ (Nat.mod_lt _ (Nat.two_pow_pos _));rw [hp,Nat.add_mul,Nat.one_mul] at h2;omega
theorem VN {u:List Nat} {k:Nat} (hs:Small u) (hk:k<32):∀i,(jT u k i).length=i∧Small (jT u k i)∧2 ^ k*nval (jT u k i)+lim u 0 % 2 ^ k=nval (u.take i)+Bs ^ i*(lim u i % 2 ^ k)
 | 0=>⟨rfl,Small.nil,by simp [jT,nval]⟩
 | i+1=>by
  obtain ⟨h1,h2,h3⟩:=VN hs hk i;have hp:2 ^ k*2 ^ (32-k)=4294967296:=uT;refine ⟨by simp [jT,h1],CB h2 (aGY (bX hs i) hk).2,?_⟩;have e1:2 ^ k*(lim u i / 2 ^ k+lim u (i+1) % 2 ^ k*2 ^ (32-k))+lim u i % 2 ^ k=lim u i+Bs*(lim u (i+1) % 2 ^ k):=by
   have:=Nat.div_add_mod (lim u i) (2 ^ k);rw [Nat.mul_add,Nat.mul_left_comm,hp,cY,Nat.mul_comm (lim u (i+1) % 2 ^ k)];omega
  simp only [jT];rw [CK,h1,bS,Nat.mul_add,Nat.pow_succ,Nat.mul_assoc (Bs ^ i) Bs];generalize hX:lim u i / 2 ^ k+lim u (i+1) % 2 ^ k*2 ^ (32-k)=X at *
  generalize lim u (i+1) % 2 ^ k=Y at *
  generalize lim u i % 2 ^ k=Z at *
  have e2:=congrArg (Bs ^ i*·) e1;simp only [Nat.mul_add] at e2;rw [Nat.mul_left_comm (2 ^ k)];omega
theorem aYR {nb R:Nat} (hs:Small u) (hk:k<32) (h0:lim u nb=0) (hv:nval (u.take nb)=R*2 ^ k):nval (jT u k nb)=R:=by
 have h:=(VN hs hk nb).2.2;rw [h0,Nat.zero_mod,Nat.mul_zero,Nat.add_zero,hv,Nat.mul_comm R] at h;have hm:=Nat.mod_lt (lim u 0) (Nat.two_pow_pos k);generalize lim u 0 % 2 ^ k=z at *
 have hd:2 ^ k*nval (jT u k nb)≤2 ^ k*R:=zZ;have hle:=Nat.le_of_mul_le_mul_left hd (Nat.two_pow_pos k);rcases Nat.lt_or_ge (nval (jT u k nb)) R with hlt|hge
 ·have:=Nat.mul_le_mul_left (2 ^ k) hlt;rw [Nat.mul_succ] at this;omega
 ·omega
end
end Go.Proofs.Q
