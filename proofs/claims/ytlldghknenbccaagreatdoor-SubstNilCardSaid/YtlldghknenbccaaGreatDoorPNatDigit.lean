/- What bits.Add32 and nat.digit do. -/
import Derived.Test.YtlldghknenbccaaGreatDoorPNats
import Derived.Test.YtlldghknenbccaaGreatDoorPNumsC
import Derived.Deep.DeepCutAuto
import Derived.Deep.RegionHeld3
import Derived.Deep.CutBlock
set_option linter.unusedSimpArgs false
set_option linter.unusedVariables false
set_option maxRecDepth 100000
set_option maxHeartbeats 4000000
namespace Go.Proofs.Q
open Go.RowKit Tryz
section
variable {rest:List Value} {E:TypeId} {w:World} {g x i k:Nat} {v:Value}
theorem row_win {pre o t:List Nat} {y:Nat} (h:aC w g E (u32s pre++(u32s o++(u32s (y::t)++rest)))) (hi:pre.length=i) (hk:o.length=k) (hv:v=u32 x) :
  aC (w.setCell ⟨g,i+k,none⟩ v) g E (u32s pre++(u32s (o++[x])++(u32s t++rest))):=by
 have h':aC w g E (u32s (pre++o)++(u32s (y::t)++rest)):=by simpa [u32s] using h
 have:=row_over (x:=x) (k:=i+k) h' (by simp [hi,hk]) hv;simpa [u32s] using this
theorem win_cell {pre l:List Nat} (h:aC w g E (u32s pre++(u32s l++rest))) (hi:pre.length=i) (hk:k<l.length):w.cell? ⟨g,i+k,none⟩=some (.int .u32 (lim l k:Int)):=by
 have h':aC w g E (u32s (pre++l)++rest):=by simpa [u32s] using h
 rw [h'.cell,List.getElem?_append_left (by simp [u32s];omega)];simp only [u32s,List.getElem?_map];rw [List.getElem?_append_right (by omega),show i+k-pre.length=k by omega,jZ2 hk,lim_lt hk];rfl
theorem cD (h:x<18446744073709551616):IntKind.u64.wrap (x:Int)=(x:Int):=by simp [IntKind.wrap,IntKind.bits,IntKind.signed];omega
end
section
variable {rest:List Value} {w:World} {a2:Option Addr} {b' g r i:Nat} {E:TypeId}
theorem add32_any (x y b:Nat) (hx:x<4294967296) (hy:y<4294967296) (hb:b≤1) (w:World) :
  Calls prog 188 #[.int .u32 (x:Int),.int .u32 (y:Int),.int .u32 (b:Int)] w fun e w'=>e=.returned (.tuple #[.int .u32 (((x+y+b) % 4294967296:Nat):Int),.int .u32 (((x+y+b) / 4294967296:Nat):Int)])∧w=w':=by
 have h1:=cD (x:=x+y) (by omega);have h2:=cD (x:=x+y+b) (by omega);simp only [Int.natCast_add] at h1 h2;go_enter func188,ntmps188
 go_wp2_with fail
 go_ret2
 have e:∀u v u' v':Int,u=u'→v=v'→Ending.returned (.tuple #[.int .u32 u,.int .u32 v])=Ending.returned (.tuple #[.int .u32 u',.int .u32 v']):=by rintro u v u' v' rfl rfl;rfl
 exact⟨e _ _ _ _ (by omega) (by omega),rfl⟩
theorem sub32_to (x y b:Nat) (hr:r=(x+4294967296-y-b) % 4294967296) (hb':b'=1-(x+4294967296-y-b) / 4294967296) (hx:x<4294967296) (hy:y<4294967296) (hb:b≤1) (w:World) :
  Calls prog 187 #[.int .u32 (x:Int),.int .u32 (y:Int),.int .u32 (b:Int)] w fun e w'=>e=.returned (.tuple #[.int .u32 (r:Int),.int .u32 (b':Int)])∧w=w':=by
 subst hr hb';exact sub32_any x y b hx hy hb w
theorem add32_to (x y b:Nat) (hr:r=(b+x+y) % 4294967296) (hb':b'=(b+x+y) / 4294967296) (hx:x<4294967296) (hy:y<4294967296) (hb:b≤1) (w:World) :
  Calls prog 188 #[.int .u32 (x:Int),.int .u32 (y:Int),.int .u32 (b:Int)] w fun e w'=>e=.returned (.tuple #[.int .u32 (r:Int),.int .u32 (b':Int)])∧w=w':=by
 subst hr hb';rw [show b+x+y=x+y+b by omega];exact add32_any x y b hx hy hb w
theorem win_next {pre o l:List Nat} {k:Nat} (h:aC w g E (u32s pre++(u32s o++(u32s (l.drop k)++rest)))) (hi:pre.length=i) (ho:o.length=k) (hk:k<l.length):w.cell? ⟨g,i+k,none⟩=some (.int .u32 (lim l k:Int)):=by
 have h':aC w g E (u32s pre++(u32s (o++l.drop k)++rest)):=by simpa [u32s] using h
 have hdrop:l.drop k=lim l k::l.drop (k+1):=by rw [List.drop_eq_getElem_cons hk,lim_lt hk]
 have:=win_cell (k:=k) h' hi (by rw [aZ1,ho,hdrop];simp);have e:lim (o++l.drop k) k=lim l k:=by
  rw [hdrop];unfold lim List.getD;rw [List.getElem?_append_right (by omega),ho,Nat.sub_self];rfl
 rw [this,e]
def DigitRet (g:Nat) (pre u v:List Nat) (rest:List Value) (w:World) (e:Ending) (w':World):Prop:=
 ∃r,e=.returned (.int .u32 ((nval u / nval v:Nat):Int))∧r.length=u.length∧Small r∧nval r=nval u % nval v∧aC w' g 112 (u32s pre++(u32s r++rest))∧aA (One g) w w'
theorem digit_any {n N c m:Nat} {c2:Nat} {pre u v:List Nat} (h:aC w g 112 (u32s pre++(u32s u++rest))) (hi:pre.length=i) (hu:Small u) (hn:n=m+2) (hN:N=m+3) (hul:u.length=N) (hc:N≤c) (hc2:c≤9223372036854775807) (h2:aR (One g) w a2 n c2 v) (hv1:lim v (m+1)≠0) (hlt:nval u<nval v*Bs) :
  Calls prog 140 #[.slice (some ⟨g,i,none⟩) N c,.slice a2 n c2] w fun e w'=>DigitRet g pre u v rest w e w':=by
 have hvl:v.length=m+2:=by rw [h2.len,hn]
 have hU:=nval_top3 (u:=u) (m:=m) (by omega);have hV:=nval_top2 (v:=v) (m:=m) hvl;have hUl:=take_lt_pow hu m;have hVl:=take_lt_pow h2.lt m;obtain ⟨m1,hm1⟩:∃m1,m1=m+1:=⟨_,rfl⟩;rw [←hm1] at hU hV hv1;rw [←hn] at hU;have x0:=win_cell (k:=m) h hi (by omega);have x1:=win_cell (k:=m1) h hi (by omega);have x2:=win_cell (k:=n) h hi (by omega);have hg:=h.lt;obtain ⟨b2,off2,hae,hb2,hng,y0⟩:=h2.cell (k:=m) (by omega);obtain ⟨b2',off2',hae',_,_,y1⟩:=h2.cell (k:=m1) (by omega);subst hae;cases hae';have l0:=bT hu m;have l1:=bT hu m1;have l2:=bT hu n;have k0:=bT h2.lt m;have k1:=bT h2.lt m1;have i1:IntKind.i64.wrap ((n:Int)-1)=(m1:Int):=by rw [show (n:Int)-1=(m1:Int) by omega];exact IntWalk.i64_in _ (by omega)
 have i2:IntKind.i64.wrap ((n:Int)-2)=(m:Int):=by rw [show (n:Int)-2=(m:Int) by omega];exact IntWalk.i64_in _ (by omega)
 have j0:(0:Int)≤(m:Int):=by omega
 have j1:(0:Int)≤(m1:Int):=by omega
 have j2:(0:Int)≤(n:Int):=by omega
 have j3:(m:Int)<(n:Int):=by omega
 have j4:(m1:Int)<(n:Int):=by omega
 have j5:(m:Int)<(N:Int):=by omega
 have j6:(m1:Int)<(N:Int):=by omega
 have j7:(n:Int)<(N:Int):=by omega
 have HR:=jJ (aI7 h hi hu hul h2 hvl hlt);have HN:=jJ (aI3 hn hN hm1);clear h hi hu h2 hvl hlt hul hn hN hm1;generalize hu0:lim u m=p0 at *
 generalize hu1:lim u m1=p1 at *
 generalize hu2:lim u n=p2 at *
 generalize hv0:lim v m=r0 at *
 generalize hv2:lim v m1=r1 at *
 have HP:=jJ (aI5 hU hV hUl hVl hv1);clear hU hV hUl hVl hu0 hu1 hu2 hv0 hv2 hv1;have hbs:=beside p2 p1 l2 l1;obtain ⟨tp,htp⟩:∃tp,tp=p2*4294967296+p1:=⟨_,rfl⟩;rw [←htp] at hbs;have htl:tp<18446744073709551616:=by omega
 have HTP:=jJ htp;clear htp;go_enter func140,ntmps140
 go_upto_region 2 with (fail)
 go_quiet (fail)
 all_goals
  obtain ⟨q0,hq0⟩:∃q0,q0=min (tp / r1) 4294967295:=⟨_,rfl⟩;have hr1:¬(r1:Int)=0:=by have:=HP.o.r4;omega
  have hd0:IntKind.u64.wrap ((tp:Int) / (r1:Int))=((tp / r1:Nat):Int):=by rw [←Int.natCast_ediv];exact cD (Nat.lt_of_le_of_lt (Nat.div_le_self _ _) htl)
  have hd2:IntKind.u64.wrap ((tp / r1:Nat):Int)=((tp / r1:Nat):Int):=cD (Nat.lt_of_le_of_lt (Nat.div_le_self _ _) htl);have hd1:(tp:Int) / (r1:Int)=((tp / r1:Nat):Int):=(Int.natCast_ediv _ _).symm;generalize hd:tp / r1=d0 at *
  have hqd:q0=min d0 4294967295:=hq0;have HD:=jJ (aI hqd hd);clear hqd hd hq0;go_upto_region 3 with (fail)
  go_cut [7] (fun v wy=>v=.int .u64 (q0:Int)∧aA Nil w wy)
  case first=>
   by_cases hdl:d0≤4294967295
   ·have hdl':(d0:Int)≤4294967295:=by omega
    have hdl2:¬4294967295<(d0:Int):=by omega
    go_wp2_with fail
    go_meet
    case rel=>exact⟨by rw [HD.o.1,Nat.min_eq_left hdl],kOf⟩
   ·have hdl':¬(d0:Int)≤4294967295:=by omega
    have hdl2:4294967295<(d0:Int):=by omega
    go_wp2_with fail
    go_meet
    case rel=>exact⟨by rw [HD.o.1,Nat.min_eq_right (by omega)];rfl,kOf⟩
  case rest=>
   rename World=>wy;obtain ⟨rfl,hk0⟩:=hcut;obtain ⟨s0,hs0⟩:∃s0,s0=q0*r1:=⟨_,rfl⟩;have hs1:s0≤tp:=by
    rw [hs0,HD.o.1]
    calc min d0 4294967295*r1≤d0*r1:=Nat.mul_le_mul_right _ (Nat.min_le_left _ _)
     _≤tp:=by rw [←HD.o.2];exact Nat.div_mul_le_self _ _
   obtain ⟨e0,he0⟩:∃e0,e0=tp-s0:=⟨_,rfl⟩;have a1:(q0:Int)*(r1:Int)=(s0:Int):=by rw [hs0,Int.natCast_mul]
   have a2:IntKind.u64.wrap (s0:Int)=(s0:Int):=cD (by omega);have a3:(tp:Int)-(s0:Int)=(e0:Int):=by omega
   have a4:IntKind.u64.wrap (e0:Int)=(e0:Int):=cD (by omega);have z1:=hk0.cellE hb2 id y1;have hql0:q0<4294967296:=by rw [HD.o.1];have:=Nat.min_le_right d0 4294967295;omega
   have hqe0:q0*r1+e0=tp:=by omega
   have hge0:nval u / nval v≤q0:=by
    rw [HD.o.1];refine Nat.le_min.2 ⟨?_,?_⟩
    ·rw [←HD.o.2,HTP.o];have:=guess_first (V:=nval v) HP.o.1 HP.o.2.2.1 (by rw [cL];exact l0) HP.o.2.1 (by have:=HP.o.r4;omega);rwa [show p1+Bs*p2=p2*4294967296+p1 by rw [cL];omega] at this
    ·have:nval u / nval v<Bs:=by
      rw [Nat.div_lt_iff_lt_mul (by have h:=HR.o.r6;rcases Nat.eq_zero_or_pos (nval v) with h0|h0;(rw [h0] at h;omega);exact h0)];rw [Nat.mul_comm];exact HR.o.r6
     rw [cL] at this;omega
   have HQ0:=jJ (aI4 hge0 hql0 hqe0 hk0);clear hge0 hqe0 hs0 he0 hk0 hd0 hd1 hd2;go_wp2_with fail
   go_loopw [7,8] (fun q e wr=>∃Q E:Nat,q=.int .u64 Q∧e=.int .u64 E∧nval u / nval v≤Q∧Q<4294967296∧Q*r1+E=tp∧aA Nil w wr) (fun q _ _=>(intOf q).toNat)
   case atStart=>exact⟨q0,e0,rfl,rfl,HQ0.o.1,HQ0.o.2.1,HQ0.o.2.2.1,HQ0.o.2.2.2⟩
   case round=>
    clear HQ0 a1 a2 a3 a4 z1 hql0;obtain ⟨Q,F,rfl,rfl,hge,hql,hqe,hkr⟩:=hrel;have z0:=hkr.cellE hg id x0;have z1:=hkr.cellE hb2 id y0;have z2:=hkr.cellE hb2 id y1;obtain ⟨t,ht⟩:∃t,t=Q*r0:=⟨_,rfl⟩;have htl:t<18446744073709551616:=by
     have:Q*r0≤4294967295*4294967295:=Nat.mul_le_mul (by omega) (by omega);omega
    have b1:(Q:Int)*(r0:Int)=(t:Int):=by rw [ht,Int.natCast_mul]
    have b2':IntKind.u64.wrap (t:Int)=(t:Int):=cD htl;obtain ⟨f,hf⟩:∃f,f=F*4294967296+p0:=⟨_,rfl⟩;have HQ:=jJ (aI6 hge hql hqe hkr ht hf);clear hge hqe hkr ht;by_cases hst:F<4294967296∧f<t
    ·obtain ⟨hF,hgt⟩:=hst;have hF':(F:Int)<4294967296:=by omega
     have hb5:=beside F p0 hF l0;rw [←hf] at hb5;clear hf;have hgt':(f:Int)<(t:Int):=by omega
     obtain ⟨Q1,hQ1⟩:∃Q1,Q=Q1+1:=⟨Q-1,by
      rcases Nat.eq_zero_or_pos Q with h|h
      ·have:=HQ.o.r4.1;rw [h,Nat.zero_mul] at this;omega
      ·omega⟩
     obtain ⟨F1,hF1⟩:∃F1,F1=F+r1:=⟨_,rfl⟩;have c1:(Q:Int)-1=(Q1:Int):=by omega
     have c2':IntKind.u64.wrap (Q1:Int)=(Q1:Int):=cD (by omega);have c3:(F:Int)+(r1:Int)=(F1:Int):=by omega
     have c4:IntKind.u64.wrap (F1:Int)=(F1:Int):=cD (by omega);have hstep:nval u / nval v≤Q1:=by
      have e1:p1+Bs*p2=tp:=by have:=HTP.o;rw [cL];omega
      have:=guess_step (q:=Q) HP.o.1 HP.o.2.2.1 HP.o.2.1 HQ.o.1 (by rw [e1];have:=HQ.o.2.2.1;omega) (by
       have h5:=HQ.o.2.2.1;have h6:=HQ.o.r5;have h7:=HQ.o.r4.1;rw [e1,show tp-Q*r1=F by omega,cL];omega)
      omega
     have hnew:Q1*r1+F1=tp:=by have:=HQ.o.2.2.1;rw [hQ1,Nat.add_mul,Nat.one_mul] at this;omega
     have HS:=jJ (aI3 hstep hnew hQ1);clear hstep hnew hQ1 hF1 hgt;go_wp2_with fail
     go_quiet (fail)
     go_wp2_with fail
     all_goals go_roundw
     all_goals first|exact⟨Q1,F1,rfl,rfl,HS.o.1,by have:=HS.o.2.2;omega,HS.o.2.1,HQ.o.2.2.2.1.trans kOf⟩|(have:=HS.o.2.2;simp [intOf];omega)
    ·have hno:Q*r0≤F*4294967296+p0:=by
      have h1:=HQ.o.r4.1;have h2:=HQ.o.r5;rcases Nat.lt_or_ge F 4294967296 with h|h
      ·have:¬f<t:=fun h'=>hst ⟨h,h'⟩;omega
      ·have:4294967296*4294967296≤F*4294967296:=Nat.mul_le_mul_right _ h;omega
     have hlast:Q*nval v<nval u+nval v:=by
      have e1:p1+Bs*p2=tp:=by have:=HTP.o;rw [cL];omega
      refine guess_last HP.o.1 HP.o.2.1 HP.o.2.2.2.1 (by have:=HP.o.r4;omega) (by rw [cL];exact HQ.o.2.1) (by rw [e1];have:=HQ.o.2.2.1;omega) ?_;have h5:=HQ.o.2.2.1;rw [e1,show tp-Q*r1=F by omega,cL];exact hno
     have HL:=jJ (aI4 HQ.o.1 HQ.o.2.1 hlast HQ.o.2.2.2.1);rcases Nat.lt_or_ge F 4294967296 with hF|hF
     case' inl=>
      have hFd:True:=trivial;have hgn:¬f<t:=fun h=>hst ⟨hF,h⟩;have hgtd:decide ((f:Int)<(t:Int))=false:=decide_eq_false fun h=>hst ⟨hF,by omega⟩;have hb5:=beside F p0 hF l0;rw [←hf] at hb5;have hF':(F:Int)<4294967296:=by omega
     case' inr=>
      have hgn:True:=trivial;have hgtd:True:=trivial;have hb5:True:=trivial;have hF':True:=trivial;have hFd:decide ((F:Int)<4294967296)=false:=decide_eq_false fun h=>by omega
     all_goals
      clear hst hno hlast hF hql hf;go_wp2_with fail
      go_quiet (fail)
      clear b1 b2' htl hr1 hbs HQ HTP HP hFd hgtd hb5 hF';have hkz:aA Nil w (wr.drewN nq):=HL.o.2.2.2.trans kOf;generalize wr.drewN nq=wz at *
      have HZ:=jJ hkz;obtain ⟨t1,t2,t3⟩:=timesL_spec HR.o.r4.1.lt HL.o.2.1;have HT:=jJ (aI3 t1 t2 t3);obtain ⟨T,hT⟩:∃T,T=timesL v Q:=⟨_,rfl⟩;have HTT:=jJ hT;clear hkz t1 t2 t3 hT x0 x1 x2 y0 y1 z0 z1 z2 l0 l1 l2 k0 k1 i2 j0 j1 j3 j4 j5 j6;go_wp2_with fail
      go_loopw [9,10,84] (fun cv bv kv wr=>∃K:Nat,K≤n∧kv=.int .i64 K∧cv=.int .u64 ((bY v Q 0 K).2:Int)∧bv=.int .u32 ((subK u T K).2:Int)∧aC wr g 112 (u32s pre++(u32s (subK u T K).1++(u32s (u.drop K)++rest)))∧aA (One g) w wr) (fun _ _ kv _=>n-(intOf kv).toNat)
      case atStart=>exact⟨0,aZ2 _,rfl,rfl,rfl,HR.o.1.keep HZ.o id,HZ.o.of_nil⟩
      case round=>
       rename World=>wk;obtain ⟨K,hK,rfl,rfl,rfl,hrow,hkk⟩:=hrel;obtain ⟨q1,q2,q3,q4⟩:=timesK_spec (more:=0) HR.o.r4.1.lt HL.o.2.1 (by decide) K;obtain ⟨r1',r2',r3',r4'⟩:=subK_spec HR.o.2.2.1 (b:=T) (by rw [HTT.o];exact HT.o.2.1) K;have hul:=HR.o.2.2.2.1;have hgk:=hrow.lt;by_cases hKn:K<n
       ·have hdrop:u.drop K=lim u K::u.drop (K+1):=by rw [List.drop_eq_getElem_cons (by omega),lim_lt (by omega)]
        have hx:=win_next hrow HR.o.2.1 r1' (show K<u.length by omega);have hfz:=hrow.frozen (i+K);obtain ⟨b3,o3,hae,hb3,hng3,hy⟩:=(HR.o.r4.1.keep' hkk).cell hKn;cases hae;have lx:=bT HR.o.2.2.1 K;have ly:=bT HR.o.r4.1.lt K;have j3:(0:Int)≤(K:Int):=by omega
        have j4:(K:Int)<(n:Int):=by omega
        have j5:(K:Int)<(N:Int):=by have:=HN.o;omega
        have e1:(bY v Q 0 (K+1)).2=(lim v K*Q+(bY v Q 0 K).2) / Bs:=rfl;have e2:(subK u T (K+1)).2=1-(lim u K+Bs-lim T K-(subK u T K).2) / Bs:=rfl;have e3:(subK u T (K+1)).1=(subK u T K).1++[(lim u K+Bs-lim T K-(subK u T K).2) % Bs]:=rfl;have e4:lim T K=(lim v K*Q+(bY v Q 0 K).2) % Bs:=by rw [HTT.o];exact lim_timesL (by rw [HR.o.r5.1];have:=HN.o;omega)
        rw [hdrop] at hrow;have HROW:=jJ (aI3 hrow hkk r1');rw [e4] at e2 e3;rw [cL] at e1 e2 e3;have HE:=jJ (aI3 e1 e2 e3);clear hrow hkk r1' r2' r4' q1 q2 q4 e1 e2 e3 e4 hdrop hgk hul;generalize hcc:(bY v Q 0 K).2=cc at *
        generalize hbb:(subK u T K).2=bb at *
        generalize hxx:lim u K=x at *
        generalize hyy:lim v K=y at *
        obtain ⟨pr,hpr⟩:∃pr,pr=y*Q:=⟨_,rfl⟩;have hprl:pr≤4294967295*4294967295:=by rw [hpr];exact Nat.mul_le_mul (by omega) (by have:=HL.o.2.1;omega)
        obtain ⟨cn,hcn⟩:∃cn,cn=pr+cc:=⟨_,rfl⟩;obtain ⟨cl,hcl⟩:∃cl,cl=cn % 4294967296:=⟨_,rfl⟩;obtain ⟨ch,hch⟩:∃ch,ch=cn / 4294967296:=⟨_,rfl⟩;have b1:(Q:Int)*(y:Int)=(pr:Int):=by rw [hpr,Nat.mul_comm,Int.natCast_mul]
        have b2':IntKind.u64.wrap (pr:Int)=(pr:Int):=cD (by omega);have b3':(cc:Int)+(pr:Int)=(cn:Int):=by omega
        have b4:IntKind.u64.wrap (cn:Int)=(cn:Int):=cD (by omega);have b5:(cn:Int) % 4294967296=(cl:Int):=by omega
        have b6:(cn:Int) / 4294967296=(ch:Int):=by omega
        have lcl:cl<4294967296:=by omega
        rw [←hpr,←hcn] at HE;rw [←hcl,←hch] at HE;have HC:=jJ (aI4 hcc hbb hxx hyy);clear hcc hbb hxx hyy hpr hcn hcl hch hprl;go_wp2_with (go_at_call 187;refine (sub32_any x cl bb lx lcl r3' _).mono ?_;rintro e w' ⟨rfl,rfl⟩)
        go_roundw
        case rel=>exact⟨K+1,by omega,by go_num,congrArg (Value.int .u64) (by rw [HE.o.1]),congrArg (Value.int .u32) (by rw [HE.o.2.1]),by rw [HE.o.2.2];exact row_win HROW.o.1 HR.o.2.1 HROW.o.2.2 (congrArg (Value.int .u32) (by omega)),HROW.o.2.1.setCell (p:=⟨g,i+K,none⟩) (.inl rfl) _⟩
        case measure=>simp [intOf];omega
       ·obtain rfl:K=n:=by omega
        have hNn:N=K+1:=by have:=HN.o;omega
        have hdrop:u.drop K=lim u K::u.drop (K+1):=by rw [List.drop_eq_getElem_cons (by omega),lim_lt (by omega)]
        have hx:=win_next hrow HR.o.2.1 r1' (show K<u.length by omega);have hfz:=hrow.frozen (i+K);have lx:=bT HR.o.2.2.1 K;have e4:lim T K=(bY v Q 0 K).2:=by
         have h:=lim_timesL_last (v:=v) (q:=Q);rw [←HTT.o,HR.o.r5.1] at h;rw [show K=m+2 by have:=HN.o;omega];exact h
        have e2:(subK u T N).2=1-(lim u K+Bs-lim T K-(subK u T K).2) / Bs:=by rw [hNn];rfl
        have e3:(subK u T N).1=(subK u T K).1++[(lim u K+Bs-lim T K-(subK u T K).2) % Bs]:=by rw [hNn];rfl
        rw [hdrop] at hrow;rw [e4,cL] at e2 e3;have hd2:u.drop (K+1)=[]:=List.drop_eq_nil_of_le (by omega);rw [hd2] at hrow;have hRl:(subK u T N).1.length=N:=(subK_spec HR.o.2.2.1 (b:=T) (by rw [HTT.o];exact HT.o.2.1) N).1;have hRs:Small (subK u T N).1:=(subK_spec HR.o.2.2.1 (b:=T) (by rw [HTT.o];exact HT.o.2.1) N).2.1;have hV0:0<nval v:=by
         have h:=HR.o.r6;rcases Nat.eq_zero_or_pos (nval v) with h0|h0
         ·rw [h0] at h;omega
         ·exact h0
        have hends:=digit_ends HR.o.2.2.1 HR.o.r4.1.lt (by rw [HR.o.2.2.2.1,HR.o.r5.1];have:=HN.o;omega) hV0 HL.o.2.1 HL.o.1 HL.o.2.2.1;rw [HR.o.2.2.2.1,←HTT.o] at hends;generalize hcc:(bY v Q 0 K).2=cc at *
        generalize hbb:(subK u T K).2=bb at *
        generalize hxx:lim u K=x at *
        obtain ⟨rv,hrv⟩:∃rv,rv=(x+4294967296-cc-bb) % 4294967296:=⟨_,rfl⟩;obtain ⟨bv,hbv⟩:∃bv,bv=1-(x+4294967296-cc-bb) / 4294967296:=⟨_,rfl⟩;rw [←hbv] at e2;rw [←hrv] at e3;rw [e2] at hends;obtain ⟨R,hR⟩:∃R,R=(subK u T N).1:=⟨_,rfl⟩;rw [←hR] at e3 hRl hRs hends;have HROW:=jJ (aI8 hrow hkk r1' e3 hRl hRs hends hV0);have HV:=jJ (aI hrv hbv);have b5:(cc:Int) % 4294967296=(cc:Int):=by omega
        have b6:(Q:Int) % 4294967296=(Q:Int):=by have:=HL.o.2.1;omega
        have HC:=jJ (aI3 hcc hbb hxx);have hbv1:bv≤1:=by omega
        have j3:(K:Int)<(N:Int):=by omega
        clear hrow hkk r1' r2' r4' q1 q2 q4 e2 e3 e4 hdrop hd2 hul hrv hbv hR hRl hRs hends hV0 hcc hbb hxx hNn;have hsw:IntKind.u32.wrap (rv:Int)=(rv:Int):=by
         have:=HV.o.1;have:rv<4294967296:=by omega
         simp [IntKind.wrap,IntKind.bits,IntKind.signed];omega
        have HW2:aC (wk.setCell ⟨g,i+K,none⟩ (.int .u32 (rv:Int))) g 112 (u32s pre++(u32s R++rest)):=by
         have:=row_win (v:=.int .u32 (rv:Int)) HROW.o.1 HR.o.2.1 HROW.o.2.2.1 rfl;rw [←HROW.o.2.2.2.1] at this;simpa [u32s] using this
        have HK2:aA (One g) w (wk.setCell ⟨g,i+K,none⟩ (.int .u32 (rv:Int))):=HROW.o.2.1.setCell (p:=⟨g,i+K,none⟩) (.inl rfl) _;by_cases hB:bv=0
        ·have hB1:¬(0:Int)<(bv:Int):=by omega
         have hB2:¬0<bv:=by omega
         have HF:=jJ (aI3 (HROW.o.r6.1.1 hB) HW2 HK2);clear HW2 HK2 hB;go_wp2_with (go_at_call 187;refine (sub32_to x cc bb HV.o.1 HV.o.2 lx q3 r3' _).mono ?_;rintro e w' ⟨rfl,rfl⟩)
         go_ret
         exact⟨R,by rw [HF.o.1.1];rfl,by rw [HROW.o.r4.1,HR.o.2.2.2.1],HROW.o.r5.1,HF.o.1.2,HF.o.2.1,HF.o.2.2⟩
        ·have hB1:(0:Int)<(bv:Int):=by omega
         have hB2:0<bv:=by omega
         have HF:=jJ (aI3 (HROW.o.r6.1.2 hB2) HW2 HK2);obtain ⟨Q1,hQ0,hQ1⟩:∃Q1,Q1=nval u / nval v∧Q=Q1+1:=⟨_,rfl,HF.o.1.1⟩;have c1:(Q:Int)-1=(Q1:Int):=by omega
         have c2':IntKind.u64.wrap (Q1:Int)=(Q1:Int):=cD (by have:=HL.o.2.1;omega);have c3:(Q1:Int) % 4294967296=(Q1:Int):=by have:=HL.o.2.1;omega
         have HQ1:=jJ hQ0;clear HW2 HK2 hB hQ1 hQ0;go_upto_region 17 with (go_at_call 187;refine (sub32_to x cc bb HV.o.1 HV.o.2 lx q3 r3' _).mono ?_;rintro e w' ⟨rfl,rfl⟩)
         generalize wk.setCell ⟨g,i+K,none⟩ (.int .u32 (rv:Int))=wb at *
         clear hx hfz hgk lx q3 r3' b5 b6 hsw;go_wp2_with fail
         go_loopw [13,132] (fun cv kv wr=>∃J:Nat,J≤K∧kv=.int .i64 J∧cv=.int .u32 ((addK R v J).2:Int)∧aC wr g 112 (u32s pre++(u32s (addK R v J).1++(u32s (R.drop J)++rest)))∧aA (One g) w wr) (fun _ kv _=>K-(intOf kv).toNat)
         case atStart=>exact⟨0,aZ2 _,rfl,rfl,HF.o.2.1,HF.o.2.2⟩
         case round=>
          rename World=>wd;obtain ⟨J,hJ,rfl,rfl,hrow,hkk⟩:=hrel;have hRl:=HROW.o.r4.1;have hRs:=HROW.o.r5.1;have hNK:=HN.o;obtain ⟨r1',r2',r3',-⟩:=addK_spec hRs HR.o.r4.1.lt J;have hgk:=hrow.lt;have hx:=win_next hrow HR.o.2.1 r1' (show J<R.length by omega);have hfz:=hrow.frozen (i+J);have lx:=bT hRs J;have hdrop:R.drop J=lim R J::R.drop (J+1):=by rw [List.drop_eq_getElem_cons (by omega),lim_lt (by omega)]
          have e2:(addK R v (J+1)).2=((addK R v J).2+lim R J+lim v J) / Bs:=rfl;have e3:(addK R v (J+1)).1=(addK R v J).1++[((addK R v J).2+lim R J+lim v J) % Bs]:=rfl;rw [cL] at e2 e3;rw [hdrop] at hrow;by_cases hJK:J<K
          ·obtain ⟨b3,o3,hae,hb3,hng3,hy⟩:=(HR.o.r4.1.keep' hkk).cell hJK;cases hae;have ly:=bT HR.o.r4.1.lt J;have j3:(0:Int)≤(J:Int):=by omega
           have j4:(J:Int)<(K:Int):=by omega
           have j5:(J:Int)<(N:Int):=by omega
           generalize hbb:(addK R v J).2=bb at *
           generalize hxx:lim R J=x at *
           generalize hyy:lim v J=y at *
           obtain ⟨rv,hrv⟩:∃rv,rv=(bb+x+y) % 4294967296:=⟨_,rfl⟩;obtain ⟨bv,hbv⟩:∃bv,bv=(bb+x+y) / 4294967296:=⟨_,rfl⟩;rw [←hbv] at e2;rw [←hrv] at e3;have HRR:=jJ (aI5 hrow hkk r1' e2 e3);have HV:=jJ (aI hrv hbv);have HC:=jJ (aI3 hbb hxx hyy);clear hrow hkk r1' r2' e2 e3 hdrop hRl hRs hNK hrv hbv hbb hxx hyy;go_wp2_with (go_at_call 188;refine (add32_to x y bb HV.o.1 HV.o.2 lx ly r3' _).mono ?_;rintro e w' ⟨rfl,rfl⟩)
           go_roundw
           case rel=>exact⟨J+1,by omega,by go_num,congrArg (Value.int .u32) (by rw [HRR.o.2.2.2.1]),by rw [HRR.o.r4];exact row_win HRR.o.1 HR.o.2.1 HRR.o.2.2.1 rfl,HRR.o.2.1.setCell (p:=⟨g,i+J,none⟩) (.inl rfl) _⟩
           case measure=>simp [intOf];omega
          ·obtain rfl:J=K:=by omega
           have hz:lim v J=0:=lim_ge (by rw [HR.o.r5.1];omega);have hd2:R.drop (J+1)=[]:=List.drop_eq_nil_of_le (by omega);have j3:(0:Int)≤(J:Int):=by omega
           have j5:(J:Int)<(N:Int):=by omega
           rw [hz] at e3;rw [hd2] at hrow;generalize hbb:(addK R v J).2=bb at *
           generalize hxx:lim R J=x at *
           have hall:(addK R v N).1=(addK R v (J+1)).1:=by rw [show N=J+1 by omega]
           have hsp:=addK_spec hRs HR.o.r4.1.lt N;have HRR:=jJ (aI6 hrow hkk r1' e3 hall hsp);obtain ⟨rv,hrv⟩:∃rv,rv=(bb+x) % 4294967296:=⟨_,rfl⟩;have b7:((x:Int)+(bb:Int)) % 4294967296=(rv:Int):=by omega
           have HRV:=jJ hrv;clear hrow hkk r1' r2' r3' e2 e3 hdrop hRl hRs hNK hbb hxx hz hd2 hall hsp hrv hJK hJ;go_wp2_with fail
           go_ret
           refine ⟨(addK R v N).1,by rw [←HQ1.o];rfl,by rw [HRR.o.r5.1,HR.o.2.2.2.1],HRR.o.r6.1,HF.o.1.2,?_,HRR.o.2.1.setCell (p:=⟨g,i+J,none⟩) (.inl rfl) _⟩;rw [HRR.o.r4.1,HRR.o.2.2.2.1,Nat.add_zero,←HRV.o];have:=row_win (v:=.int .u32 (rv:Int)) HRR.o.1 HR.o.2.1 HRR.o.2.2.1 rfl;simpa [u32s] using this
end
end Go.Proofs.Q
