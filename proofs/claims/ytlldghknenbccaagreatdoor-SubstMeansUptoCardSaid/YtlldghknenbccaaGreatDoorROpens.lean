/- try. -/
import Derived.Test.YtlldghknenbccaaGreatDoorRANode
import Derived.Test.YtlldghknenbccaaGreatDoorRRepls
set_option linter.unusedSimpArgs false
set_option linter.unusedVariables false
set_option maxRecDepth 100000
set_option maxHeartbeats 4000000
namespace Go.Proofs.Q
open Go.RowKit Tryz
section
variable {w:World} {zs l:List Int} {v:Value} {B:Nat} {a:Option Addr} {M:Nat→Prop}
theorem aQS (h:aL w B 3 1 v (aO zs)) (hl:zs.length≤17592186044415) :
  Calls prog 72 #[v] w fun e w'=>e=.returned (.tuple #[])∧aL w' B 3 1 v (aO (iO zs))∧aA (Own v) w w':=by
 obtain ⟨a,c,rfl⟩:=h.isSlice;have hn:(aO zs).length=zs.length:=aJ zs;rw [hn] at h⊢;rcases Nat.eq_zero_or_pos zs.length with h0|h0
 ·exact xH
 ·exact yZ
theorem aMM (h:aL w B 3 1 v (aO zs)) (hl:zs.length≤17592186044415) :
  Calls prog 99 #[v] w fun e w'=>∃v',e=.returned v'∧aL w' B 3 1 v' (aO (Lib.compact zs))∧v'.ownBlock=v.ownBlock∧aA (Own v) w w':=by
 obtain ⟨a,c,rfl⟩:=h.isSlice;have hn:(aO zs).length=zs.length:=aJ zs;rw [hn] at h⊢;rcases Nat.eq_zero_or_pos zs.length with h0|h0
 ·exact wK
 ·exact zQ
theorem TB {n c:Nat} (h:cE M w a n c l) (hl:l.length≤17592186044415) :
  Calls prog 75 #[.slice a n c] w fun e w'=>∃v',e=.returned v'∧aL w' w.heap.size 3 1 v' (aO l)∧aA Nil w w':=by
 have hln:l.length=n:=eU.len h;rcases Nat.eq_zero_or_pos n with h0|h0
 ·exact yN
 ·exact yP
end
section
variable {L:List aS} {kind x y k:Int}
def gQ (L:List aS) (kind:Int):Nat→Int→List Int
 | 0,x=>[x]
 | f+1,x=>if (L.getD x.toNat aP).kind=kind then (L.getD x.toNat aP).kids.flatMap (gQ L kind f) else [x]
def Below (L:List aS):Prop:=∀i,i<L.length→∀k∈(L.getD i aP).kids,0≤k∧k<(i:Int)
def kL (L:List aS) (kind x:Int):List Int:=gQ L kind L.length x
theorem MS {α β:Type} {f g:α→List β} {l:List α} (h:∀x∈l,f x=g x):l.flatMap f=l.flatMap g:=by
 rw [List.flatMap_def,List.flatMap_def,List.map_congr_left h]
theorem Below.kid (hk:Below L) (h0:0≤x) (h1:x<L.length) (h:k∈(L.getD x.toNat aP).kids):0≤k∧k<x:=by
 have h2:=hk x.toNat zZ k h;omega
theorem UL {L:List aS} {kind:Int} (hk:Below L):∀(f g:Nat) (x:Int),0≤x→x<L.length→x.toNat<f→x.toNat<g→gQ L kind f x=gQ L kind g x
 | 0,_,_,_,_,h,_=>zZ
 | _+1,0,_,_,_,_,h=>zZ
 | f+1,g+1,x,h0,h1,h2,h3=>by
  unfold gQ;split
  ·refine MS fun k hkm=>?_;have h4:=hk.kid h0 h1 hkm;exact UL hk f g k h4.1 zZ zZ zZ
  ·rfl
theorem UA (hk:Below L) (h0:0≤x) (h1:x<L.length) (h:(L.getD x.toNat aP).kind=kind):kL L kind x=(L.getD x.toNat aP).kids.flatMap (kL L kind):=by
 obtain ⟨n,hn⟩:∃n,L.length=n+1:=⟨L.length-1,zZ⟩;have e:kL L kind x=(L.getD x.toNat aP).kids.flatMap (gQ L kind n):=by
  show gQ L kind L.length x=_
  rw [hn,gQ,if_pos h]
 rw [e];refine MS fun k hkm=>?_;have h4:=hk.kid h0 h1 hkm;exact UL hk _ _ k h4.1 zZ zZ zZ
theorem NT (h:(L.getD x.toNat aP).kind≠kind):kL L kind x=[x]:=by
 show gQ L kind L.length x=_
 cases L.length with
 | zero=>rfl
 | succ n=>rw [gQ,if_neg h]
theorem JE {f:Int→List Int}:∀{l:List Int},(∀x∈l,1≤(f x).length)→l.length≤(l.flatMap f).length
 | [],_=>bZ2 _
 | x::l,h=>by
  have h1:=h x zW;have h2:=JE (l:=l) fun y hy=>h y (lZ1 _ hy);rw [eZ2,aZ1,gZ1];omega
theorem aED {L:List aS} {kind:Int} (hk:Below L) (h2:∀i,i<L.length→(L.getD i aP).kind=kind→2≤(L.getD i aP).kids.length):∀(f:Nat) (x:Int),0≤x→x<L.length→1≤(gQ L kind f x).length
 | 0,_,_,_=>bZ2 _
 | f+1,x,h0,h1=>by
  unfold gQ;split
  ·rename_i he;have h3:=h2 x.toNat zZ he;refine bZ1 ?_ (JE fun k hkm=>aED hk h2 f k (hk.kid h0 h1 hkm).1 (by have:=hk.kid h0 h1 hkm;omega));omega
  ·exact bZ2 _
theorem VP (hk:Below L) (h2:∀i,i<L.length→(L.getD i aP).kind=kind→2≤(L.getD i aP).kids.length) (h0:0≤x) (h1:x<L.length):1≤(kL L kind x).length:=aED hk h2 _ x h0 h1
theorem aGD {L:List aS} {kind:Int} (hk:Below L):∀(f:Nat) (x:Int),0≤x→x<L.length→∀y∈gQ L kind f x,0≤y∧y≤x
 | 0,x,h0,_,y,hy=>by
  rw [gQ,dZ1] at hy;omega
 | f+1,x,h0,h1,y,hy=>by
  unfold gQ at hy;split at hy
  ·obtain ⟨k,hkm,hy⟩:=fZ3.1 hy;have h4:=hk.kid h0 h1 hkm;have h5:=aGD hk f k h4.1 zZ y hy;omega
  ·rw [dZ1] at hy;omega
theorem KJ (hk:Below L) (h0:0≤x) (h1:x<L.length) (hy:y∈kL L kind x):0≤y∧y≤x:=aGD hk _ x h0 h1 y hy
theorem aDV {L:List aS} {kind:Int} (hk:Below L):∀(f:Nat) (x:Int),0≤x→x<L.length→x.toNat<f→∀y∈gQ L kind f x,(L.getD y.toNat aP).kind≠kind
 | 0,_,_,_,h,_,_=>zZ
 | f+1,x,h0,h1,h2,y,hy=>by
  unfold gQ at hy;split at hy
  ·obtain ⟨k,hkm,hy⟩:=fZ3.1 hy;have h4:=hk.kid h0 h1 hkm;exact aDV hk f k h4.1 zZ zZ y hy
  ·rename_i he;rw [dZ1] at hy;rw [hy];exact he
theorem aAK (hk:Below L) (h0:0≤x) (h1:x<L.length) (hy:y∈kL L kind x):(L.getD y.toNat aP).kind≠kind:=aDV hk _ x h0 h1 zZ y hy
def iB (L:List aS) (kind:Int) (l:List Int):List Int:=l.flatMap (kL L kind)
end
def aZZ (w:World) (N:aS) (e:Ending) (w':World):Prop:=∃gd ad nd cd ap np cp gk ak nk ck aq nq cq,e=.returned (.agg #[.int .i64 N.kind,.bool gd,.slice ad nd cd,.slice ap np cp,.bool gk,.slice ak nk ck,.int .i64 N.var,.slice aq nq cq])∧jL (Old w) w' gd ad nd cd ap np cp gk ak nk ck aq nq cq N∧aA Nil w w'
theorem aFC {O:Nat→Prop} {w:World} {g gm:Nat} {A:aC} {i:Nat} (hA:bW O w g gm A) (hi:i<A.nodes.length) (hlen:A.nodes.length≤1000000) (hz:FQ (A.nodes.getD i aP)) :
  Calls prog 151 #[.pointer (some ⟨g,0,none⟩),.int .i64 i] w fun e w'=>aZZ w (A.nodes.getD i aP) e w':=by
 have HA:=jJ (aI4 hA hi hlen hz);clear hA hi hlen hz;obtain ⟨N,hN⟩:∃N,A.nodes.getD i aP=N:=⟨_,rfl⟩;rw [hN];have HN:=jJ hN;clear hN;go_enter func151,ntmps151
 go_upto_region 1 with (fail)
 obtain ⟨w0,e_1,k0,r0⟩:=bx1 w 59 [.int .i64 0,.bool false,.slice none 0 0,.slice none 0 0,.bool false,.slice none 0 0,.int .i64 0,.slice none 0 0];rw [e_1];clear e_1;have H0:=jJ (aI k0 r0);have hr:=DL (HA.o.1.keep k0 fun _ h=>h.elim) HA.o.2.1 HA.o.2.2.1 HA.o.2.2.2;rw [HN.o] at hr;have HR:=jJ hr;clear k0 r0 hr;go_upto_region 2 with (go_at_call 23;refine HR.o.mono ?_;rintro e wn ⟨gd,ad,nd,cd,ap,np,cp,gk,ak,nk,ck,aq,nq,cq,els,rfl,hn,-,-,hkn⟩;have HNN:=jJ (aI hn hkn);clear hn hkn)
 have rp:=aF.alloc (w:=wn) (E:=59) (xs:=[.int .i64 N.kind,.bool gd,.slice ad nd cd,.slice ap np cp,.bool gk,.slice ak nk ck,.int .i64 N.var,.slice aq nq cq]);change aF (wn.alloc (.cells #[.int .i64 N.kind,.bool gd,.slice ad nd cd,.slice ap np cp,.bool gk,.slice ak nk ck,.int .i64 N.var,.slice aq nq cq] 59)) _ _ _ at rp;have kb:aA Nil wn (wn.alloc (.cells #[.int .i64 N.kind,.bool gd,.slice ad nd cd,.slice ap np cp,.bool gk,.slice ak nk ck,.int .i64 N.var,.slice aq nq cq] 59)):=kOf;generalize wn.alloc (.cells #[.int .i64 N.kind,.bool gd,.slice ad nd cd,.slice ap np cp,.bool gk,.slice ak nk ck,.int .i64 N.var,.slice aq nq cq] 59)=wb at *
 have krb:=HNN.o.2.trans kb;have r4:=H0.o.2.keep krb id;obtain ⟨d0,d1,d2,d3,d4,d5,d6,d7⟩:=rp.fV;obtain ⟨z0,z1,z2,z3,z4,z5,z6,z7⟩:=r4.fV;obtain ⟨y0,y1,y2,y3,y4,y5,y6,y7⟩:=r4.QM;have lt4:w.heap.size<w0.heap.size:=H0.o.2.lt;have HF:=jJ (aI4 krb r4 kb lt4);clear krb r4 kb rp lt4;go_wp2_with fail
 have r6:=HF.o.2.1.eight (.int .i64 N.kind) (.bool gd) (.slice ad nd cd) (.slice ap np cp) (.bool gk) (.slice ak nk ck) (.int .i64 N.var) (.slice aq nq cq);have ks:=aA.eight (w:=wb) (g:=w.heap.size) (.int .i64 N.kind) (.bool gd) (.slice ad nd cd) (.slice ap np cp) (.bool gk) (.slice ak nk ck) (.int .i64 N.var) (.slice aq nq cq);obtain ⟨x0,x1,x2,x3,x4,x5,x6,x7⟩:=r6.fV;have hn:=(HNN.o.1.move (M2:=Old w0) HF.o.2.2.1 (fun _ _ h=>h.elim) fun _ _=>id).move (M2:=Old w) ks (fun b _ (hm:b=w.heap.size)=>by show b<w0.heap.size;have:=HF.o.2.2.2;omega) (fun b _ hm=>by show b<w0.heap.size;have hm':b<w.heap.size:=hm;have:=HF.o.2.2.2;omega);exact bodyPost_ret (v:=.agg #[.int .i64 N.kind,.bool gd,.slice ad nd cd,.slice ap np cp,.bool gk,.slice ak nk ck,.int .i64 N.var,.slice aq nq cq]) (by simp [results,results151,go_sem,x0,x1,x2,x3,x4,x5,x6,x7]) rfl ⟨_,_,_,_,_,_,_,_,_,_,_,_,_,_,rfl,hn,(H0.o.1.trans HF.o.1).own (bZ2 _) ks⟩
def YB:Value→Nat
 | .slice _ n _=>n
 | _=>0
theorem aRI {O M:Nat→Prop} {w:World} {g gm:Nat} {A:aC} {a:Option Addr} {n c:Nat} {ids:List Int} {kind:Int} (hA:bW O w g gm A) (h:cE M w a n c ids) (hin:∀x∈ids,0≤x∧x<(A.nodes.length:Int)) (hlen:A.nodes.length≤1000000) (hsz:∀i,i<A.nodes.length→FQ (A.nodes.getD i aP)) (hB:Below A.nodes) (h2:∀i,i<A.nodes.length→(A.nodes.getD i aP).kind=kind→2≤(A.nodes.getD i aP).kids.length) (hbig:(iB A.nodes kind ids).length≤17592186044000) :
  Calls prog 149 #[.pointer (some ⟨g,0,none⟩),.int .i64 kind,.slice a n c] w fun e w'=>∃v,e=.returned v∧aL w' w.heap.size 3 1 v (aO (cM (iB A.nodes kind ids)))∧aA Nil w w':=by
 have hT:ids.length≤(iB A.nodes kind ids).length:=JE fun x hx=>VP hB h2 (hin x hx).1 (hin x hx).2;obtain ⟨T,hTe⟩:∃T,T=(iB A.nodes kind ids).length:=⟨_,rfl⟩;have HA:=jJ (aI8 hA h hin hlen hsz hB h2 hTe);rw [←hTe] at hT hbig;have HT:=jJ (aI hT hbig);clear hA h hin hlen hsz hB h2 hTe hT hbig;go_enter func149,ntmps149
 go_upto_region 2 with (go_at_call 75;refine (TB HA.o.2.1 (by have:=HT.o.1;have:=HT.o.2;omega)).mono ?_;rintro e w1 ⟨v1,rfl,ho1,hk1⟩;obtain ⟨a1,c1,rfl⟩:=ho1.isSlice;rw [aJ] at ho1⊢;have H1:=jJ (aI ho1 hk1);clear ho1 hk1)
 go_wp2_with fail
 go_loopw [7,8] (fun v iv wr=>∃(done rest:List Int) (va:Option Addr) (vc k:Nat),k=done.length∧v=.slice va (done.length+rest.length) vc∧iv=.int .i64 (k:Int)∧aL wr w.heap.size 3 1 v (aO (done++rest))∧iB A.nodes kind ids=done++iB A.nodes kind rest∧(∀x∈rest,0≤x∧x<(A.nodes.length:Int))∧aA Nil w wr) (fun v iv _=>2*T-(YB v+(intOf iv).toNat))
 case atStart=>exact⟨[],ids,a1,c1,0,rfl,zW,rfl,H1.o.1,rfl,HA.o.2.2.1,H1.o.2⟩
 case round=>
  obtain ⟨done,rest,va,vc,k,hk,rfl,rfl,hown,hfl,hr,hkr⟩:=hrel;cases rest with
  | nil=>
   subst hk;simp only [gZ2,Nat.add_zero] at hown⊢;rw [fZ2] at hown;have hfl':iB A.nodes kind ids=done:=by rw [hfl,show iB A.nodes kind []=[] from rfl,fZ2]
   have hdl:done.length≤17592186044000:=by have h1:=HA.o.r7;have h2:=HT.o.2;rw [hfl'] at h1;omega
   have HK:=jJ (aI3 hown hfl' hkr);have HDL:=jJ hdl;clear hown hfl hfl' hr hkr hdl;go_upto_region 9 with (go_at_call 72;refine (aQS HK.o.1 (by have:=HDL.o;omega)).mono ?_;rintro e w2 ⟨rfl,ho2,hk2⟩;have H2:=jJ (aI ho2 (HK.o.2.2.newer hk2 fun b hb=>(HK.o.1.lt b hb).1));clear ho2 hk2)
   go_wp2_with (go_at_call 99;refine (aMM H2.o.1 (by rw [FX];have:=HDL.o;omega)).mono ?_;rintro e w3 ⟨v3,rfl,ho3,-,hk3⟩;have H3:=jJ (aI ho3 (H2.o.2.newer hk3 fun b hb=>(H2.o.1.lt b hb).1));clear ho3 hk3)
   go_ret
   exact⟨_,rfl,by rw [HK.o.2.1];exact H3.o.1,H3.o.2⟩
  | cons x tl=>
   have hx:=hr x zW;have hxi:x.toNat<A.nodes.length:=zZ;have hcall:=aFC (HA.o.1.keep hkr fun _ h=>h.elim) hxi HA.o.2.2.2.1 (HA.o.r4.1 _ hxi);rw [show ((x.toNat:Nat):Int)=x by omega] at hcall;obtain ⟨N,hN⟩:∃N,A.nodes.getD x.toNat aP=N:=⟨_,rfl⟩;rw [hN] at hcall;have hnums:=kG hown (M:=Nil) (fun _ _ h=>h) (by rw [aZ1]);obtain ⟨b,off,rfl,ck⟩:=bA hnums (i:=k) (by rw [hk,gZ1];omega);rw [show (done++x::tl).getD k 0=x by rw [hk];simp [List.getD]] at ck;have hTL:done.length+(x::tl).length≤T:=by
    rw [HA.o.r7,hfl,aZ1];exact Nat.add_le_add_left (JE fun y hy=>VP HA.o.r5.1 HA.o.r6.1 (hr y hy).1 (hr y hy).2) _
   have hTb:=HT.o.2;have hkL:k+1≤done.length+(x::tl).length:=by rw [hk,gZ1];omega
   have HK:=jJ (aI7 hown hfl hr hkr hx hcall hN);have j0:(0:Int)≤(k:Int):=zZ;have j1:(k:Int)<((done.length+(x::tl).length:Nat):Int):=by rw [hk,gZ1];omega
   clear hown hfl hr hkr hx hcall hN hnums hxi;generalize hLL:done.length+(x::tl).length=LL at *
   have HLL:=jJ (aI hLL hk);clear hLL hk;go_upto_region 5 with (go_at_call 151;refine HK.o.r5.1.mono ?_;rintro e wn ⟨gd,ad,nd,cd,ap,np,cp,gk,ak,nk,ck',aq,nq,cq,rfl,hn,hkn⟩;have HNN:=jJ (aI hn hkn);clear hn hkn)
   have rp:=aF.alloc (w:=wn) (E:=59) (xs:=[.int .i64 N.kind,.bool gd,.slice ad nd cd,.slice ap np cp,.bool gk,.slice ak nk ck',.int .i64 N.var,.slice aq nq cq]);change aF (wn.alloc (.cells #[.int .i64 N.kind,.bool gd,.slice ad nd cd,.slice ap np cp,.bool gk,.slice ak nk ck',.int .i64 N.var,.slice aq nq cq] 59)) _ _ _ at rp;have kb:aA Nil wn (wn.alloc (.cells #[.int .i64 N.kind,.bool gd,.slice ad nd cd,.slice ap np cp,.bool gk,.slice ak nk ck',.int .i64 N.var,.slice aq nq cq] 59)):=kOf;generalize wn.alloc (.cells #[.int .i64 N.kind,.bool gd,.slice ad nd cd,.slice ap np cp,.bool gk,.slice ak nk ck',.int .i64 N.var,.slice aq nq cq] 59)=wb at *
   have krb:=HNN.o.2.trans kb;have hkids:=HNN.o.1.kids.move kb (M2:=Old wr) (fun _ _ h=>h.elim) fun _ _=>id;have hownb:=HK.o.1.eO krb;obtain ⟨d0,d1,d2,d3,d4,d5,d6,d7⟩:=rp.fV;have HF:=jJ (aI3 krb hkids hownb);clear krb kb rp hkids hownb;by_cases hkd:N.kind=kind
   ·have e:(N.kind==kind)=true:=by simpa using hkd
    have hx0:=HK.o.r4.1;have hN:=HK.o.r6;have hxi:x.toNat<A.nodes.length:=zZ;have h2n:=HA.o.r6.1 x.toNat hxi sE;rw [hN] at h2n;have hkl:N.kids.length=nq:=eU.len HF.o.2.1;have hkin:∀y∈N.kids,0≤y∧y<x:=fun y hy=>HA.o.r5.1.kid hx0.1 hx0.2 (by rw [hN];exact hy);have hfl:iB A.nodes kind ids=done++iB A.nodes kind (N.kids++tl):=by
     rw [HK.o.2.1,iB,eZ2,UA HA.o.r5.1 hx0.1 hx0.2 sE,hN,iB,List.flatMap_append]
    have hin:∀y∈N.kids++tl,0≤y∧y<(A.nodes.length:Int):=fun y hy=>by
     rcases jZ1.1 hy with h|h
     ·have:=hkin y h;omega
     ·exact HK.o.2.2.1 y (lZ1 _ h)
    have hT2:done.length+(N.kids.length+tl.length)≤T:=by
     rw [HA.o.r7,hfl,aZ1,show N.kids.length+tl.length=(N.kids++tl).length from aZ1.symm];exact Nat.add_le_add_left (JE fun y hy=>VP HA.o.r5.1 HA.o.r6.1 (hin y hy).1 (hin y hy).2) _
    have hLx:=HLL.o.1;rw [gZ1] at hLx;have hzl:(done++x::tl).length=LL:=by rw [aZ1,gZ1];omega
    have hrep:=aNS (M:=Old wr) (i:=k) HF.o.2.2 HF.o.2.1 (fun b hb=>(HK.o.1.lt b hb).2) (by rw [hzl];omega) zZ (by rw [hzl];omega) (bZ1 HK.o.2.2.2.1.size HF.o.1.size);rw [show (done++x::tl).take k++(N.kids++(done++x::tl).drop (k+1))=done++(N.kids++tl) by rw [HLL.o.2,List.take_left,←List.drop_drop,List.drop_left];rfl] at hrep;have HP:=jJ (aI6 hrep hfl hin hT2 h2n hLx);clear hrep hfl hin hT2 h2n hkin hx0 hN hxi hkd hzl hkl hLx;go_wp2_with (go_at_call 193;refine HP.o.1.mono ?_;rintro e2 w5 ⟨v5,rfl,ho5,hk5⟩;obtain ⟨a5,c5,rfl⟩:=ho5.isSlice;rw [aJ,aZ1] at ho5⊢;have H5:=jJ (aI ho5 hk5);clear ho5 hk5)
    go_roundw
    case rel=>
     exact⟨done,N.kids++tl,a5,c5,k,HLL.o.2,by rw [aZ1],rfl,by have h:=H5.o.1;rwa [show (N.kids++tl).length=N.kids.length+tl.length from aZ1] at h,HP.o.2.1,HP.o.2.2.1,(HK.o.2.2.2.1.trans HF.o.1).newer H5.o.2 fun b hb=>(HF.o.2.2.lt b hb).1⟩
    case measure=>
     have h1:=HP.o.2.2.2.1;have h2:=HP.o.r4.1;have h3:=HP.o.r5;have h4:=HLL.o.2;simp only [intOf,YB,aZ1,bZ3];omega
   ·have e:(N.kind==kind)=false:=by simpa using hkd
    have HKD:=jJ hkd;clear hkd;go_wp2_with fail
    go_roundw
    case rel=>
     have hl:(done++[x]).length+tl.length=LL:=by rw [←HLL.o.1,aZ1,List.length_singleton,gZ1];omega
     refine ⟨done++[x],tl,_,_,k+1,by rw [aZ1,HLL.o.2];rfl,by rw [hl],zF,by rw [mZ2];exact HF.o.2.2,?_,fun y hy=>HK.o.2.2.1 y (lZ1 _ hy),HK.o.2.2.2.1.trans HF.o.1⟩;rw [HK.o.2.1,iB,eZ2,NT (by rw [HK.o.r6];exact HKD.o),mZ2];rfl
    case measure=>
     simp [intOf,YB];omega
end Go.Proofs.Q
