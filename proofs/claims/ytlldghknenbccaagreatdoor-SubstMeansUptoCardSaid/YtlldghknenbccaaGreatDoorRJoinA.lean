/- What simp's joined answers, plainly. -/
import Derived.Test.YtlldghknenbccaaGreatDoorROpens
set_option linter.unusedSimpArgs false
set_option linter.unusedVariables false
set_option maxRecDepth 100000
set_option maxHeartbeats 4000000
namespace Go.Proofs.Q
open Go.RowKit Tryz
section
variable {ids l kept:List Int} {kind nodes limbs sp ov x:Int} {k n:Nat}
def EA (p q:Int × Int) (turned:Bool):Bool:=decide (p.1=q.1)&&((neg p.2==(neg q.2 != turned))&&decide (bH p.2.natAbs=bH q.2.natAbs))
def BO (s t:aM) (turned:Bool) (k:Nat):Bool:=(List.range k).all fun i=>EA (pth s i) (pth t i) turned
def kH (s t:aM) (turned:Bool):Bool:=decide (s.length=t.length)&&BO s t turned s.length
theorem aND (s t:aM) (turned:Bool) (k:Nat):BO s t turned (k+1)=(BO s t turned k&&EA (pth s k) (pth t k) turned):=by
 unfold BO;rw [List.range_succ,List.all_append];simp
theorem aQT {s t:aM} {turned:Bool} (hk:k<n) (h:EA (pth s k) (pth t k) turned=false):BO s t turned n=false:=by
 unfold BO;rw [List.all_eq_false];exact⟨k,List.mem_range.2 hk,by rw [h];simp⟩
def nS (kind:Int) (x y:aS):Bool:=
 if x.kind≠2∨y.kind≠2∨kH x.t.parts y.t.parts false=false then false
 else decide (kind=5∧y.t.k<x.t.k)||decide (kind=6∧x.t.k<y.t.k)
def AU (kind:Int) (x y:aS):Bool:=
 if x.kind=2∧y.kind=2 then
  if kH x.t.parts y.t.parts true=false then false
  else decide (kind=5∧x.t.k+y.t.k<2)||decide (kind=6∧0<x.t.k+y.t.k)
 else if (x.kind=3∧y.kind=4)∨(x.kind=4∧y.kind=3) then decide (x.d=y.d)&&decide (kE x.t y.t=0)
 else false
def ndA (A:aC) (i:Int):aS:=A.nodes.getD i.toNat aP
def EW (kind:Int):Int:=if kind=6 then 0 else 1
def gP (kind:Int):Int:=if kind=6 then 1 else 0
def DY (kind:Int):Int:=if kind=6 then 5 else 6
def AO (A:aC) (kind:Int) (l:List Int) (i:Int):Bool:=l.any fun k=>nS kind (ndA A i) (ndA A k)
def gL (A:aC) (kind:Int) (l:List Int):List Int:=l.filter fun i=>!(AO A kind l i)
def lW (A:aC) (kind:Int) (l:List Int) (k:Nat):List Int:=(l.take k).filter fun i=>!(AO A kind l i)
theorem aSY (A:aC) (kind:Int) (l:List Int):lW A kind l l.length=gL A kind l:=by unfold lW gL;rw [List.take_length]
theorem aRA {A:aC} (ht:l.take (k+1)=l.take k++[x]) (h:AO A kind l x=true):lW A kind l (k+1)=lW A kind l k:=qY
theorem aFI {A:aC} (ht:l.take (k+1)=l.take k++[x]) (h:AO A kind l x=false):lW A kind l (k+1)=lW A kind l k++[x]:=qY
theorem GQ (h:k<l.length):l.take (k+1)=l.take k++[l.getD k 0]:=rZ
theorem aFO {β:Type} (f:Int→β) (z:β) (l:List Int) (x:Int):(fun u=>if u∈l++[x] then f u else z)=fun u=>if x=u then f x else if u∈l then f u else z:=by
 funext u;by_cases e:x=u
 ·subst e;rw [if_pos rfl,if_pos zW]
 ·have e':¬u=x:=fun h=>e h.symm;rw [if_neg e];by_cases e2:u∈l
  ·rw [if_pos e2,if_pos (by simp [e2])]
  ·rw [if_neg e2,if_neg (by simp [e2,e'])]
def jU (A:aC) (kind:Int) (kept:List Int) (n:Nat):Bool:=(List.range n).any fun j=>(kept.take j).any fun k=>AU kind (ndA A (kept.getD j 0)) (ndA A k)
def CW (A:aC) (kind:Int) (kept:List Int) (i:Int):Bool:=decide ((ndA A i).kind=DY kind)&&(ndA A i).kids.any fun k=>decide (k∈kept)
def AX (A:aC) (kind:Int) (kept:List Int):List Int:=lZ (CW A kind kept) kept
def jV (A:aC) (kind:Int) (ids:List Int):List Int:=cM (iB A.nodes kind ids)
def fU (A:aC) (kind:Int) (ids:List Int):List Int:=lZ (fun i=>decide (i=EW kind)) (jV A kind ids)
def cR (A:aC) (nodes limbs sp ov kind:Int) (ids:List Int):(Int × Int) × aC × (Int × Int):=
 if ids.all (fE A)=false then ((0,80),A,(sp,ov))
 else if gP kind∈jV A kind ids then ((gP kind,0),A,(sp,ov))
 else if jU A kind (gL A kind (fU A kind ids)) (gL A kind (fU A kind ids)).length=true then ((gP kind,0),A,(sp,ov))
 else dW A nodes limbs sp ov kind (AX A kind (gL A kind (fU A kind ids)))
theorem VL {A:aC} (h:ids.all (fE A)=false):cR A nodes limbs sp ov kind ids=((0,80),A,(sp,ov)):=by unfold cR;rw [if_pos h]
theorem KC {A:aC} (h:ids.all (fE A)=true) (h2:gP kind∈jV A kind ids):cR A nodes limbs sp ov kind ids=((gP kind,0),A,(sp,ov)):=by unfold cR;rw [if_neg (by rw [h];simp),if_pos h2]
theorem JN {A:aC} (h:ids.all (fE A)=true) (h2:¬gP kind∈jV A kind ids) (h3:jU A kind (gL A kind (fU A kind ids)) (gL A kind (fU A kind ids)).length=true):cR A nodes limbs sp ov kind ids=((gP kind,0),A,(sp,ov)):=by unfold cR;rw [if_neg (by rw [h];simp),if_neg h2,if_pos h3]
theorem JW {A:aC} (h:ids.all (fE A)=true) (h2:¬gP kind∈jV A kind ids) (h3:jU A kind (gL A kind (fU A kind ids)) (gL A kind (fU A kind ids)).length=false):cR A nodes limbs sp ov kind ids=dW A nodes limbs sp ov kind (AX A kind (gL A kind (fU A kind ids))):=by unfold cR;rw [if_neg (by rw [h];simp),if_neg h2,if_neg (by rw [h3];simp)]
theorem aOD (A:aC) (kind:Int) (kept:List Int) (n:Nat):jU A kind kept (n+1)=(jU A kind kept n||(kept.take n).any fun k=>AU kind (ndA A (kept.getD n 0)) (ndA A k)):=by
 unfold jU;rw [List.range_succ,List.any_append];simp
theorem aPN {A:aC} {m:Nat} (h:(kept.take n).any (fun k=>AU kind (ndA A (kept.getD n 0)) (ndA A k))=true) (hm:n<m):jU A kind kept m=true:=by
 unfold jU;rw [eZ3];exact⟨n,List.mem_range.2 hm,h⟩
end
section
variable {w:World} {turned:Bool} {a a2:Option Addr} {M1 M2 M:Nat→Prop} {l:List Nat} {bt n c i:Nat} {l2:aM}
theorem aU.cellAt (h:aU M w a n c l) (hi:i<n):∃b off,a=some ⟨b,off,none⟩∧w.cell? ⟨b,off+i,none⟩=some (.int .u32 (lim l i:Int)):=by
 obtain ⟨b,off,rfl,hb,hn,hc⟩:=h.sl.at zZ;refine ⟨b,off,rfl,?_⟩;have h1:=hc i 0 hi zZ;rwa [Nat.mul_one,Nat.add_zero] at h1
theorem aWH {n2 c2:Nat} {l2:List Nat} (h:aU Nil w a n c l) (h2:aU Nil w a2 n2 c2 l2) :
  Calls prog 215 #[.slice a n c,.slice a2 n2 c2] w fun e w'=>e=.returned (.bool (decide (l=l2)))∧aA Nil w w':=by
 have hl1:=h.len;have hl2:=h2.len;have hm1:=h.sl.cap;have hm2:=h.sl.le;have HA:=jJ (aI4 h h2 hl1 hl2);clear h h2 hl1 hl2;by_cases hn:n=n2
 ·subst hn;go_enter func215,ntmps215
  go_wp2_with fail
  go_loopw [13] (fun i wr=>∃k:Nat,i=.int .i64 k∧k≤n∧(∀j,j<k→lim l j=lim l2 j)∧aA Nil w wr) (fun i _=>n-(intOf i).toNat)
  case atStart=>exact xW
  case round=>
   obtain ⟨k,rfl,hk,hj,hkr⟩:=hrel;by_cases hkn:k<n
   ·obtain ⟨b,off,rfl,ck⟩:=aU.cellAt (HA.o.1.keep hkr fun _ _ h=>h.elim) hkn;obtain ⟨b2,off2,rfl,ck2⟩:=aU.cellAt (HA.o.2.1.keep hkr fun _ _ h=>h.elim) hkn;obtain ⟨x,hx⟩:∃x,x=lim l k:=⟨_,rfl⟩;obtain ⟨y,hy⟩:∃y,y=lim l2 k:=⟨_,rfl⟩;rw [←hx] at ck;rw [←hy] at ck2;have j0:(0:Int)≤(k:Int):=zZ;have j1:(k:Int)<(n:Int):=zZ;have HK:=jJ (aI4 hj hkr hx hy);clear hj hkr hx hy;by_cases hxy:x=y
    ·subst hxy;go_wp2_with fail
     go_quiet (fail)
     have kd:aA Nil wr (wr.drewN nq):=aA.drewN (aA.refl _ _) _;generalize wr.drewN nq=wd at *
     go_wp2_with fail
     go_roundw
     case rel=>
      refine ⟨k+1,zF,hkn,fun j hj=>?_,HK.o.2.1.trans kd⟩;rcases Nat.lt_succ_iff_lt_or_eq.1 hj with h|rfl
      ·exact HK.o.1 j h
      ·rw [←HK.o.2.2.1,HK.o.2.2.2]
     case measure=>exact zI
    ·have hne:¬((x:Int)=(y:Int)):=zZ;have e:decide (l=l2)=false:=by
      rw [decide_eq_false_iff_not];intro e;have h1:=HK.o.2.2.1;rw [e,←HK.o.2.2.2] at h1;exact hxy h1
     have HE:=jJ e;clear e;go_wp2_with fail
     go_quiet (fail)
     have kd:aA Nil wr (wr.drewN nq):=aA.drewN (aA.refl _ _) _;generalize wr.drewN nq=wd at *
     go_wp2_with fail
     go_ret
     exact⟨uH,HK.o.2.1.trans kd⟩
   ·obtain rfl:n=k:=zZ;have e:decide (l=l2)=true:=by
     rw [decide_eq_true_eq];refine List.ext_getElem (HA.o.2.2.1.trans HA.o.2.2.2.symm) fun j h1 h2=>?_;have h3:=hj j (by rw [←HA.o.2.2.1];exact h1);simpa [lim,List.getD,h1,h2] using h3
    have HK:=jJ (aI hkr e);clear hj hkr e;go_wp2_with fail
    go_ret
    exact⟨by rw [HK.o.2];rfl,HK.o.1⟩
 ·have e:decide (l=l2)=false:=by
   rw [decide_eq_false_iff_not];intro e;have h1:=HA.o.2.2.1;have h2:=HA.o.2.2.2;rw [e] at h1;exact hn (h1.symm.trans h2)
  rw [e];have hz:¬((n:Int)=(n2:Int)):=zZ;go_enter func215,ntmps215
  go_wp2_with fail
  go_ret
  exact⟨rfl,kOf⟩
theorem aQQ {cx cy:List Value} {x y:Int × Int} (h:dZ M1 w cx x) (h2:dZ M2 w cy y) (hb:aF w bt 4 [.bool turned]) :
  Calls prog 214 #[.agg cx.toArray,.agg cy.toArray,.pointer (some ⟨bt,0,none⟩)] w fun e w'=>e=.returned (.bool (EA x y turned))∧aA Nil w w':=by
 obtain ⟨g,a,n,c,rfl,hz,-,-⟩:=h;obtain ⟨g2,a2,n2,c2,rfl,hz2,-,-⟩:=h2;have hc:∀W,aA Nil w W→Calls prog 215 #[.slice a n c,.slice a2 n2 c2] W fun e w'=>e=.returned (.bool (decide (bH x.2.natAbs=bH y.2.natAbs)))∧aA Nil W w':=fun W k=>aWH (hz.2.move k (fun _ _ h=>h.elim) fun _ _ h=>h.elim) (hz2.2.move k (fun _ _ h=>h.elim) fun _ _ h=>h.elim);have hg:=hz.1;have hg2:=hz2.1;obtain ⟨d0,-⟩:=hb.one;have lb:=hb.lt;unfold EA;rw [←hg,←hg2];obtain ⟨u,hu⟩:∃u,u=x.1:=⟨_,rfl⟩;obtain ⟨v,hv⟩:∃v,v=y.1:=⟨_,rfl⟩;obtain ⟨r,hr⟩:∃r,r=decide (bH x.2.natAbs=bH y.2.natAbs):=⟨_,rfl⟩;rw [←hu,←hv,←hr];rw [←hr] at hc;have HC:=jJ hc;clear hu hv hr hz hz2 hc hg hg2 hb;by_cases huv:u=v
 ·subst huv;rw [decide_eq_true rfl,Bool.true_and];rw [show (g2 != turned)=(!g2==turned) by cases g2<;>cases turned<;>rfl];cases hn:(g==(!g2==turned))
  ·rw [Bool.false_and];go_enter func214,ntmps214
   go_wp2_with fail
   go_ret
   exact⟨rfl,kOf⟩
  ·rw [Bool.true_and];go_enter func214,ntmps214
   go_wp2_with (go_at_call 215;refine (HC.o _ kOf).mono ?_;rintro e w1 ⟨rfl,hk1⟩)
   go_ret
   exact⟨rfl,(((aA.refl Nil w).alloc _).alloc _).trans hk1⟩
 ·rw [decide_eq_false huv,Bool.false_and];go_enter func214,ntmps214
  go_wp2_with fail
  go_ret
  exact⟨rfl,kOf⟩
theorem aMK {M3 M4:Nat→Prop} {n2 c2:Nat} {l:aM} (h:cV M1 M2 w a n c l) (h2:cV M3 M4 w a2 n2 c2 l2) (hb:aF w bt 4 [.bool turned]) :
  Calls prog 213 #[.slice a n c,.slice a2 n2 c2,.func (.func 214) #[] #[.pointer (some ⟨bt,0,none⟩)]] w fun e w'=>e=.returned (.bool (kH l l2 turned))∧aA Nil w w':=by
 have hl:=eU.len h;have hl2:=eU.len h2;have hcap:=eU.cap h;have hle:=eU.le h;have heg:∀args w,(callFunc 214 args).run prog w=.ok (.enter 214 args) w:=enters_of func214 zX rfl;have HA:=jJ (aI5 h h2 hb hl hl2);clear h h2 hb hl hl2;by_cases hnn:n=n2
 ·subst hnn;have hal:kH l l2 turned=BO l l2 turned n:=by unfold kH;rw [HA.o.2.2.2.1,HA.o.r4,decide_eq_true rfl,Bool.true_and]
  rw [hal];clear hal;go_enter func213,ntmps213
  go_wp2_with fail
  go_loopw [17] (fun iv wr=>∃k:Nat,k≤n∧iv=.int .i64 (k:Int)∧BO l l2 turned k=true∧aA Nil w wr) (fun iv _=>n-(intOf iv).toNat)
  case atStart=>exact⟨0,aZ2 _,rfl,rfl,aA.refl _ _⟩
  case round=>
   obtain ⟨k,hk,rfl,hd,hkr⟩:=hrel;by_cases hlt:k<n
   ·have j0:(0:Int)≤(k:Int):=zZ;have j1:(k:Int)<(n:Int):=zZ;obtain ⟨b,off,g,a',n',c',hae,hbs,-,x0,x1,x2,hzz,i1,i2⟩:=(HA.o.1.eO hkr).at hlt;obtain ⟨b2,off2,g2,a2',n2',c2',hae2,hbs2,-,y0,y1,y2,hzz2,i3,i4⟩:=(HA.o.2.1.eO hkr).at hlt;subst hae hae2;have hcall:=fun (W:World) (q:aA Nil wr W)=>aQQ (w:=W) (dZ.moves (M2:=Nil) ⟨g,a',n',c',rfl,hzz,i1,i2⟩ q (fun _ _ h=>h.elim) fun _ _ h=>h.elim) (dZ.moves (M2:=Nil) ⟨g2,a2',n2',c2',rfl,hzz2,i3,i4⟩ q (fun _ _ h=>h.elim) fun _ _ h=>h.elim) (HA.o.2.2.1.keep (hkr.trans q) id);have hs:=aND l l2 turned k;rw [hd,Bool.true_and] at hs;have hle2:=aQT (s:=l) (t:=l2) (turned:=turned) hlt;have lb:=Live.of hbs;have lb2:=Live.of hbs2;have HC:=jJ (aI4 hcall hs hle2 hkr);clear hcall hs hle2 hkr hd hzz hzz2 i1 i2 i3 i4;obtain ⟨r,hr⟩:∃r,r=EA (pth l k) (pth l2 k) turned:=⟨_,rfl⟩;rw [←hr] at HC;clear hr;generalize (pth l k).1=v at *
    generalize (pth l2 k).1=v2 at *
    obtain ⟨q1,q2,q3,q4,q5,q6,q7,q8,q9⟩:=aEZ;cases r
    ·have e:BO l l2 turned n=false:=HC.o.2.2.1 rfl;have HE:=jJ e;clear e;go_wp2_with (go_at_call 214;refine (HC.o.1 _ kOf).mono ?_;rintro e w1 ⟨rfl,hk1⟩)
     go_ret
     exact⟨uH,(HC.o.2.2.2.trans kkA).trans hk1⟩
    ·go_wp2_with (go_at_call 214;refine (HC.o.1 _ kOf).mono ?_;rintro e w1 ⟨rfl,hk1⟩)
     go_roundw
     case rel=>exact⟨k+1,zZ,zF,HC.o.2.1,(HC.o.2.2.2.trans kkA).trans hk1⟩
     case measure=>exact zI
   ·have ekn:n=k:=zZ;subst ekn;have HC:=jJ (aI hkr hd);clear hkr hd;go_wp2_with fail
    go_ret
    exact⟨by rw [HC.o.2];rfl,HC.o.1⟩
 ·have e:kH l l2 turned=false:=by unfold kH;rw [HA.o.2.2.2.1,HA.o.r4,decide_eq_false hnn,Bool.false_and]
  rw [e];clear e;have hz:¬((n:Int)=(n2:Int)):=zZ;go_enter func213,ntmps213
  go_wp2_with fail
  go_ret
  exact⟨rfl,kOf⟩
theorem aGG {M3 M4:Nat→Prop} {ap ak bp bk:Option Addr} {np cp nk ck mp dp mk dk:Nat} {gk hk:Bool} {l:aM} (h:cV M1 M2 w ap np cp l) (h2:cV M3 M4 w bp mp dp l2) :
  Calls prog 194 #[.agg #[.slice ap np cp,.bool gk,.slice ak nk ck],.agg #[.slice bp mp dp,.bool hk,.slice bk mk dk],.bool turned] w fun e w'=>e=.returned (.bool (kH l l2 turned))∧aA Nil w w':=by
 have HA:=jJ (aI h h2);clear h h2;go_enter func194,ntmps194
 go_upto_region 1 with (fail)
 obtain ⟨w0,e_1,k0,r0,r1,r2⟩:=bx3 w 27 [.slice ap np cp,.bool gk,.slice ak nk ck] 27 [.slice bp mp dp,.bool hk,.slice bk mk dk] 4 [.bool turned];rw [e_1];clear e_1;have hc:=aMK (HA.o.1.eO k0) (HA.o.2.eO k0) r2;have HC:=jJ (aI hc k0);obtain ⟨d0,-,-⟩:=r0.three;obtain ⟨e0,-,-⟩:=r1.three;clear hc k0 r0 r1 r2;go_wp2_with (go_at_call 213;refine HC.o.1.mono ?_;rintro e w1 ⟨rfl,hk1⟩)
 go_ret
 exact⟨rfl,HC.o.2.trans hk1⟩
end
theorem bAY {a b:Int}:(0:Int)<fT a b↔b<a:=tI
theorem XJ {a b:Int}:fT a b<0↔a<b:=tI
theorem bAD {a b:Int}:fT a b=0↔a=b:=tI
theorem aSM {kind:Int} {x y:aS} {u v m:Int} {r:Bool} (hu:u=x.kind) (hv:v=y.kind) (hr:r=kH x.t.parts y.t.parts false) (hm:m=fT x.t.k y.t.k):nS kind x y=if u≠2∨v≠2∨r=false then false else decide (kind=5∧m > 0)||decide (kind=6∧m<0):=by
 subst hu hv hr hm;unfold nS;simp only [gt_iff_lt,bAY,XJ]
theorem dF {b b':Bool} (h:b'=b):Ending.returned (.bool b)=Ending.returned (.bool b'):=by rw [h]
structure IV (N:aS):Prop where
 size:FQ N
 fZ:fF N.t.parts
theorem aBR {M M2:Nat→Prop} {w:World} {cs cs2:List Value} {x y:aS} {kind:Int} (h:iU M w cs x) (h2:iU M2 w cs2 y) (hz:IV x) (hz2:IV y) (hkd:kind=5∨kind=6) :
  Calls prog 152 #[.int .i64 kind,.agg cs.toArray,.agg cs2.toArray] w fun e w'=>e=.returned (.bool (nS kind x y))∧aA Nil w w':=by
 obtain ⟨gd,ad,nd,cd,ap,np,cp,gk,ak,nk,ck,aq,nq,cq,rfl,hn⟩:=h;obtain ⟨hd,bd,md,dd,bp,mp,dp,hk,bk,mk,dk,bq,mq,dq,rfl,hn2⟩:=h2;have hal:=fun (W:World) (k:aA Nil w W)=>aGG (gk:=gk) (hk:=hk) (ak:=ak) (nk:=nk) (ck:=ck) (bk:=bk) (mk:=mk) (dk:=dk) (turned:=false) (hn.t.1.eO k) (hn2.t.1.eO k);have hcm:=fun (W:World) (k:aA Nil w W)=>ER ((hn.t.2.zat vR).eO k) ((hn2.t.2.zat wA).eO k);obtain ⟨u,hu⟩:∃u,u=x.kind:=⟨_,rfl⟩;obtain ⟨v,hv⟩:∃v,v=y.kind:=⟨_,rfl⟩;obtain ⟨r,hr⟩:∃r,r=kH x.t.parts y.t.parts false:=⟨_,rfl⟩;obtain ⟨m,hm⟩:∃m,m=fT x.t.k y.t.k:=⟨_,rfl⟩;rw [aSM (kind:=kind) hu hv hr hm,←hu,←hv];rw [←hr] at hal;rw [←hm] at hcm;generalize x.var=xv;generalize y.var=yv;have HC:=jJ (aI hal hcm);clear hal hcm hu hv hr hm hn hn2 hz hz2;go_enter func152,ntmps152
 go_upto_region 1 with (fail)
 obtain ⟨w0,e_1,k0,r0,r1⟩:=bx2 w 59 [.int .i64 u,.bool gd,.slice ad nd cd,.slice ap np cp,.bool gk,.slice ak nk ck,.int .i64 xv,.slice aq nq cq] 59 [.int .i64 v,.bool hd,.slice bd md dd,.slice bp mp dp,.bool hk,.slice bk mk dk,.int .i64 yv,.slice bq mq dq];rw [e_1];clear e_1;obtain ⟨d0,d1,d2,d3,d4,d5,d6,d7⟩:=r0.fV;obtain ⟨e0,e1,e2,e3,e4,e5,e6,e7⟩:=r1.fV;have HB:=jJ (aI3 r0 r1 k0);clear r0 r1 k0;by_cases hu2:u=2
 ·subst hu2;by_cases hv2:v=2
  ·subst hv2;cases r
   ·go_wp2_with (go_at_call 194;refine (HC.o.1 _ HB.o.2.2).mono ?_;rintro e w1 ⟨rfl,hk1⟩;have H1:=jJ hk1;clear hk1)
    go_ret
    exact⟨dF (by first|rfl|(rw [if_pos zW])|(simp;omega)|simp [hkd]),HB.o.2.2.trans H1.o⟩
   ·go_upto_region 4 with (first|(go_at_call 194;refine (HC.o.1 _ HB.o.2.2).mono ?_;rintro e w1 ⟨rfl,hk1⟩;have q0:=HB.o.1.keep hk1 id;have q1:=HB.o.2.1.keep hk1 id;obtain ⟨f0,f1,f2,f3,f4,f5,f6,f7⟩:=q0.fV;obtain ⟨g0,g1,g2,g3,g4,g5,g6,g7⟩:=q1.fV;have H1:=jJ (HB.o.2.2.trans hk1);clear hk1 q0 q1)|(go_at_call 61;refine (HC.o.2 _ H1.o).mono ?_;rintro e w2 ⟨rfl,hk2⟩;have H2:=jJ (H1.o.trans hk2);clear hk2))
    rcases hkd with rfl|rfl
    ·by_cases hm0:m > 0
     ·go_wp2_with fail
      go_ret
      exact⟨dF (by first|rfl|(rw [if_neg zW,decide_eq_true (show (5:Int)=5∧m > 0 from ⟨rfl,hm0⟩),Bool.true_or])|(simp;omega)|simp [hkd]),H2.o⟩
     ·go_wp2_with fail
      go_ret
      exact⟨dF (by first|rfl|(rw [if_neg zW,decide_eq_false (show ¬((5:Int)=5∧m > 0) from fun h=>hm0 h.2),decide_eq_false (show ¬((5:Int)=6∧m<0) from fun h=>by have:=h.1;omega),Bool.false_or])|(simp;omega)|simp [hkd]),H2.o⟩
    ·by_cases hm0:m<0
     ·go_wp2_with fail
      go_ret
      exact⟨dF (by first|rfl|(rw [if_neg zW,decide_eq_true (show (6:Int)=6∧m<0 from ⟨rfl,hm0⟩),Bool.or_true])|(simp;omega)|simp [hkd]),H2.o⟩
     ·go_wp2_with fail
      go_ret
      exact⟨dF (by first|rfl|(rw [if_neg zW,decide_eq_false (show ¬((6:Int)=6∧m<0) from fun h=>hm0 h.2),decide_eq_false (show ¬((6:Int)=5∧m > 0) from fun h=>by have:=h.1;omega),Bool.false_or])|(simp;omega)|simp [hkd]),H2.o⟩
  ·go_wp2_with fail
   go_ret
   exact⟨dF (by first|rfl|(rw [if_pos (.inr (.inl hv2))])|(simp;omega)|simp [hkd]),HB.o.2.2⟩
 ·go_wp2_with fail
  go_ret
  exact⟨dF (by first|rfl|(rw [if_pos (.inl hu2)])|(simp;omega)|simp [hkd]),HB.o.2.2⟩
end Go.Proofs.Q
