/- What Put's walk rests on: what skips, what turns. -/
import Derived.Test.YtlldghknenbccaaGreatDoorRSubN
import Derived.Test.YtlldghknenbccaaGreatDoorRSubsC
set_option linter.unusedSimpArgs false
set_option linter.unusedVariables false
set_option maxRecDepth 100000
set_option maxHeartbeats 4000000
namespace Go.Proofs.Q
open Go.RowKit Tryz
section
variable {V:List Int} {A0:aC} {nodes limbs:Int} {fa:aY→aY}
def iW (A0:aC) (v:Int) (x:Int):Bool:=decide (0≤x∧x<(A0.nodes.length:Int))&&nT A0 v x
theorem aZH (hF:fM Five A0) (A:aC) (sp ov x:Int) (ks:List Int) (hI:FR V nodes limbs A0 A sp ov) (hx0:0≤x) (hx1:x<(A0.nodes.length:Int)) (hR:∀k∈ks,mM A k) (hl:ks.length=(ndA A x).kids.length) (h5:(ndA A x).kind=5∨(ndA A x).kind=6):(iB A.nodes (ndA A x).kind ks).length≤17592186044000:=by
 obtain ⟨h,hg,he⟩:=hI;have hnd:ndA A x=ndA A0 x:=he.ext.nd hx0 hx1;have hk5:ks.length≤5:=by
  rw [hl];by_cases h2:x<2
  ·have hlow:=h.low (i:=x.toNat) zZ;rw [show ndA A x=A.nodes.getD x.toNat aP from rfl,hlow];simp
  ·rw [hnd];exact hF x.toNat zZ zZ
 have h3:=NV (m:=585029621920) (kL A.nodes (ndA A x).kind) ks fun k hk=>hg _ k h5 (hR k hk).1 (hR k hk).2;unfold iB;have h4:ks.length*585029621920≤5*585029621920:=Nat.mul_le_mul_right _ hk5;omega
theorem aIH (hF:fM Five A0) (h0:0≤limbs) (hn:nodes≤2000) (hl:limbs≤8) (hV:V.length≤262144) (hf:DW V fa):MJ V nodes limbs A0 fa (fun _=>True) (fun _=>True):=
 ⟨fun _ _ _ _ _ _ _=>trivial,fun _ _ _ _=>trivial,fun {n s t x} K {out} hs _ _ hxf hx0 hxN hk hK h5=>by
  have hx1:x<(s.A.nodes.length:Int):=by have:=hs.1.2.2.ext.len;omega
  obtain ⟨q1,q2,q3,q4,-⟩:=VK (VJ (A0:=A0) h0 hn hl hV hf) hs hxf hx0 hx1 (bZ2 _) (by rw [List.take_length];exact hk);have hnd:ndA t.A x=ndA s.A x:=q2.nd hx0 hx1;have hb:=aZH hF t.A t.sp t.ov x out q1.1 hx0 hxN q3 (by rw [hnd];exact q4) (by rw [hnd,hK];exact h5);rw [hnd,hK] at hb;exact hb⟩
def YC (V:List Int) (A:aC) (sp ov x v:Int) (u:aV):Prop:=bE V 2000 8 A sp∧iV A∧(∀X:aY,cB 8 262144 V X.t→eP X.d.natAbs≤8→fF X.t.parts→LW X v u)∧DW V (fun X=>gF X v u)∧∃(G:WSt→Prop) (Z:Int→Prop),MJ V 2000 8 A (fun X=>gF X v u) G Z∧G (fC (iW A v) ⟨fun _=>none,A,sp,ov⟩)∧Z x
structure LD (DS:Nat→Prop) (g bm gw ba bv:Nat) (v:Int) (bp:Option Addr) (mp dp:Nat) (gb:Bool) (ab:Option Addr) (nb cb:Nat) (lb:aM) (zb:Int) (w:World):Prop where
 rw:aF w gw 91 [.pointer (some ⟨g,0,none⟩),.func (.func 45) #[] #[.pointer (some ⟨ba,0,none⟩),.pointer (some ⟨bv,0,none⟩)],.func (.func 44) #[.agg #[.int .i64 v,.slice bp mp dp,.bool gb,.slice ab nb cb]] #[],.map (some bm)]
 ra:aF w ba 42 [.pointer (some ⟨g,0,none⟩)]
 rv:aF w bv 3 [.int .i64 v]
 t:bI (fun b=>¬DS b) (fun b=>¬DS b) w bp mp dp lb
 z:ZAt (fun b=>¬DS b) w gb ab nb cb zb
theorem LD.keep {DS:Nat→Prop} {g bm gw ba bv:Nat} {v:Int} {bp:Option Addr} {mp dp:Nat} {gb:Bool} {ab:Option Addr} {nb cb:Nat} {lb:aM} {zb:Int} {w w':World} {X:Nat→Prop} (h:LD DS g bm gw ba bv v bp mp dp gb ab nb cb lb zb w) (hw:DS gw) (ha:DS ba) (hv:DS bv) (k:aA X w w') (hX:∀b,DS b→¬X b):LD DS g bm gw ba bv v bp mp dp gb ab nb cb lb zb w':=
 ⟨h.rw.keep k (hX _ hw),h.ra.keep k (hX _ ha),h.rv.keep k (hX _ hv),h.t.widen k (fun b _ hx=>⟨fun hd=>hX b hd hx,fun hd=>hX b hd hx⟩) (fun b _ hb=>⟨hb,hb⟩),h.z.move k (fun b _ hx hd=>hX b hd hx) fun b _ hb=>hb⟩
theorem iP.skip {A:aC} {v x:Int} (h:iP A0 A) (hl:A0.free.length=A0.nodes.length) (h0:0≤x) (h1:x<(A0.nodes.length:Int)):A.free.getD x.toNat []=A0.free.getD x.toNat []∧nT A v x=nT A0 v x:=by
 obtain ⟨t,u,p,h2,h3,h4⟩:=h;have he:A.free.getD x.toNat []=A0.free.getD x.toNat []:=by
  rw [h3];simp [List.getD,List.getElem?_append_left (show x.toNat<A0.free.length by omega)]
 exact⟨he,by unfold nT;rw [he]⟩
end
theorem aWK {B0 g gm bm gw ba bv:Nat} {V:List Int} {nodes limbs sp0:Int} {A0:aC} {DS:Nat→Prop} {v:Int} {bp:Option Addr} {mp dp:Nat} {gb:Bool} {ab:Option Addr} {nb cb:Nat} {lb:aM} {zb:Int} {G:WSt→Prop} {Z:Int→Prop} (h0:bE V nodes limbs A0 sp0) (hF:MJ V nodes limbs A0 (fun X=>gF X v ⟨lb,zb⟩) G Z) (hV:V.length≤262144) (hw:DS gw) (ha:DS ba) (hv:DS bv) (h4:nb≤1073741824) (h6:mp≤16777216)
  (hP:∀X:aY,cB 8 262144 V X.t→eP X.d.natAbs≤8→fF X.t.parts→LW X v ⟨lb,zb⟩) (hS:DW V fun X=>gF X v ⟨lb,zb⟩) :
  YE B0 g gm bm gw 45 44 A0.nodes.length #[.pointer (some ⟨ba,0,none⟩),.pointer (some ⟨bv,0,none⟩)] #[.agg #[.int .i64 v,.slice bp mp dp,.bool gb,.slice ab nb cb]] #[] V nodes limbs A0 (LD DS g bm gw ba bv v bp mp dp gb ab nb cb lb zb) DS (iW A0 v) (fun X=>gF X v ⟨lb,zb⟩) G Z:=by
 refine ⟨fun h k hX=>h.keep hw ha hv k hX,fun W h=>h.rw,enters_of func45 zX rfl,enters_of func44 zX rfl,fun W O A x hA he hD hx0 hx1=>?_,fun x hx=>?_,fun W gd ad nd cd ap np cp gk ak nk ck X hD hX s1 s2 s3=>?_,hS,hF,rfl⟩
 ·obtain ⟨q1,q2⟩:=he.skip (v:=v) h0.inv.lf hx0 hx1;have hfl:=h0.aJC hV (i:=x.toNat) zZ;have hx2:x.toNat<A.nodes.length:=by have:=he.ext.len;omega
  have h1:=aXG (v:=v) hA hx2 (by rw [q1];omega) hD.ra hD.rv;rw [show ((x.toNat:Nat):Int)=x by omega,q2] at h1;have h2:iW A0 v x=nT A0 v x:=by unfold iW;rw [decide_eq_true ⟨hx0,hx1⟩,Bool.true_and]
  rw [h2];exact h1
 ·unfold iW at hx;simp only [Bool.and_eq_true,decide_eq_true_eq] at hx;exact hx.1
 ·obtain ⟨k,d,⟨l,z⟩⟩:=X;have hn:=eE (T:=⟨l,z⟩) s3;have x1:ZN Nil W gd ad nd cd d:=hX.1;have x2:cV Nil Nil W ap np cp l:=hX.2.1;have x3:ZN Nil W gk ak nk ck z:=hX.2.2;have y1:eP d.natAbs≤8:=s2;have y2:eP z.natAbs≤8:=s1.k;have y3:l.length≤262144:=s1.len;exact aOH (M:=Nil) (k:=k) (v:=v) (MB.nil _) (x1.zat zZ) (cV.raw x2 fun p hp=>by have:=s1.parts p hp;omega) (x3.zat zZ) (by have:=eU.len x2;omega) (by have:=x3.len;omega) (by rw [hn];exact s1.wee zY zY) zZ hD.t hD.z.gK h4 h6 (hP _ s1 s2 s3)
section
variable {V:List Int} {U:aV} {Lu nu:Nat} {v:Int} {X:aY}
theorem aFS {L n:Nat} {T:aV} (hT:cB L n V T) (hU:cB Lu nu V U) (v:Int) (hn:n+nu≤16777216):cB (L+Lu+4) (n+nu) V (iX T v U)∧cB (L+1) n V (bC ⟨dQ v T.parts,T.k⟩)∧eP (bD T.parts v).natAbs≤L+1:=by
 have ho:cB L n V ⟨dQ v T.parts,T.k⟩:=⟨bZ1 (List.length_filter_le _ _) hT.len,fun p hp=>hT.parts p ((kZ3.1 hp).1),hT.k,fun p hp=>hT.vars p ((kZ3.1 hp).1)⟩;have h1:=oH (l:=dQ v T.parts) (z:=T.k) ho zZ;have hc:=aEA hT.parts (bZ1 hT.len zZ) v;refine ⟨?_,h1,hc⟩;unfold iX;rw [aVV];refine oH (L:=L+Lu+3) ⟨?_,fun p hp=>?_,?_,fun p hp=>?_⟩ hn
 ·simp only [mulL,aZ1,hZ1];have:=h1.len;have:=hU.len;omega
 ·rcases jZ1.1 hp with hp|hp
  ·obtain ⟨q,hq,rfl⟩:=iZ2.1 hp;have:=h1.parts q hq;simp only [Int.one_mul];omega
  ·obtain ⟨q,hq,rfl⟩:=iZ2.1 hp;have:=BF hc (hU.parts q hq);simp only;omega
 ·have h2:eP ((1:Int)*(bC ⟨dQ v T.parts,T.k⟩).k).natAbs≤L+1:=by rw [Int.one_mul];exact h1.k
  have h3:=dK ((1:Int)*(bC ⟨dQ v T.parts,T.k⟩).k) (bD T.parts v*U.k);have h4:=BF hc hU.k;simp only at h2 h3 h4⊢;omega
 ·rcases jZ1.1 hp with hp|hp
  ·obtain ⟨q,hq,rfl⟩:=iZ2.1 hp;exact h1.vars q hq
  ·obtain ⟨q,hq,rfl⟩:=iZ2.1 hp;exact hU.vars q hq
theorem aBM (hX:cB 8 262144 V X.t) (hd:eP X.d.natAbs≤8) (hU:cB Lu nu V U) (hLu:Lu≤2348576) (hnu:nu≤16000000):LW X v U:=by
 obtain ⟨k,d,⟨l,z⟩⟩:=X;change eP d.natAbs≤8 at hd;change cB 8 262144 V ⟨l,z⟩ at hX;have hb:=nJ (k:=k) hX hd zY;obtain ⟨h1,h2,h3⟩:=aFS hb.t hU v zZ;have hbd:eP (bJ ⟨k,d,⟨l,z⟩⟩).2.d.natAbs≤14:=hb.d;have h4:cB (8+6+Lu+4+1) (262144+nu) V (bC (iX (bJ ⟨k,d,⟨l,z⟩⟩).2.t v U)):=oH h1 zZ;exact⟨hb.t.wee zY zY,zZ,h2.wee zY zY,zZ,h1.wee zZ zZ,h4.wee zZ zZ⟩
theorem NS (hV:V.length≤262144) (hU:cB Lu nu V U) (hLu:Lu≤2348576) (hnu:nu≤16000000):DW V fun X=>gF X v U:=fun X hX hd _=>by
 obtain ⟨k,d,⟨l,z⟩⟩:=X;change eP d.natAbs≤8 at hd;change cB 8 262144 V ⟨l,z⟩ at hX;have hb:=nJ (k:=k) hX hd zY;obtain ⟨h1,h2,h3⟩:=aFS hb.t hU v zZ;show jM V (gF ⟨k,d,⟨l,z⟩⟩ v U)
 unfold gF;split
 ·exact⟨GK,wB⟩
 ·have hbd:eP (bJ ⟨k,d,⟨l,z⟩⟩).2.d.natAbs≤14:=hb.d;have hne:fF (iX (bJ ⟨k,d,⟨l,z⟩⟩).2.t v U).parts:=mP _;have h5:cB (8+6+Lu+4) 262144 V (iX (bJ ⟨k,d,⟨l,z⟩⟩).2.t v U):=⟨bZ1 (MK hne h1.vars) hV,h1.parts,h1.k,h1.vars⟩;have h6:=nJ (k:=(bJ ⟨k,d,⟨l,z⟩⟩).2.kind) (d:=(bJ ⟨k,d,⟨l,z⟩⟩).2.d) h5 zZ zY;exact⟨⟨h6.t.len,fun p hp=>bZ1 (h6.t.parts p hp) zZ,bZ1 h6.t.k zZ,h6.t.vars⟩,bZ1 h6.d zZ⟩
end
def AB (q:Int × Int):Int × Int:=if q.2≠0 then (0,q.2) else (q.1,0)
theorem aDN {w:World} (q:Int × Int):Calls prog 47 #[.int .i64 q.1,.int .i64 q.2] w fun e w'=>e=.returned (.tuple #[.int .i64 (AB q).1,.int .i64 (AB q).2])∧w'=w:=by
 obtain ⟨i,e⟩:=q;unfold AB;simp only;go_enter func47,ntmps47
 by_cases he:e=0
 ·subst he;go_wp2_with fail
  go_ret2
  exact⟨rfl,rfl⟩
 ·rw [if_pos he];go_wp2_with fail
  go_ret2
  exact⟨rfl,rfl⟩
def eJ (A:aC) (nodes limbs sp ov x v:Int) (u:aV) (c:Bool):(Int × Int) × aC × (Int × Int):=
 if fE A x=false then ((0,80),A,(sp,ov))
 else if c then ((0,120),A,(sp,ov))
 else (AB (cJ (cQ (fun X=>gF X v u) nodes limbs) (x.toNat+1) (fC (iW A v) ⟨fun _=>none,A,sp,ov⟩) x).1,(cJ (cQ (fun X=>gF X v u) nodes limbs) (x.toNat+1) (fC (iW A v) ⟨fun _=>none,A,sp,ov⟩) x).2.A,((cJ (cQ (fun X=>gF X v u) nodes limbs) (x.toNat+1) (fC (iW A v) ⟨fun _=>none,A,sp,ov⟩) x).2.sp,(cJ (cQ (fun X=>gF X v u) nodes limbs) (x.toNat+1) (fC (iW A v) ⟨fun _=>none,A,sp,ov⟩) x).2.ov))
def bCR (O M:Nat→Prop) (w:World) (g gm:Nat) (nodes limbs:Int) (A:aC) (sp ov x v:Int) (u:aV) (e:Ending) (w':World):Prop:=∃c:Bool,(NoQ A.nodes x→c=false)∧cO O M w g gm nodes limbs (eJ A nodes limbs sp ov x v u c) e w'
theorem WA {V:List Int} {B0:Nat} {O M0 M1 M2 M3:Nat→Prop} {w:World} {g gm:Nat} {A:aC} {sp ov x v:Int} {bp ab:Option Addr} {mp dp nb cb:Nat} {gb:Bool} {lb:aM} {zb:Int} (hA:bW O w g gm A) (hT:Tab B0 w) (hO:∀b,O b→M0 b) (hM0:MB M0 w) (hm:bR M0 w gm 2000 8 sp ov) (hB:∀b,O b∨b=gm→B0≤b)
  (hin:YC V A sp ov x v ⟨lb,zb⟩) (hV:V.length≤262144) (hV2:∀v∈V,I64 v) (ht:bI M1 M2 w bp mp dp lb) (hz:ZAt M3 w gb ab nb cb zb) (hM:∀b,O b∨b=gm→M1 b∧M2 b∧M3 b) (h4:nb≤1073741824) (h6:mp≤16777216) :
  Calls prog 9 #[.pointer (some ⟨g,0,none⟩),.int .i64 x,.int .i64 v,.agg #[.slice bp mp dp,.bool gb,.slice ab nb cb]] w fun e w'=>bCR O M0 w g gm 2000 8 A sp ov x v ⟨lb,zb⟩ e w':=by
 obtain ⟨av,cv,v1,v2,v3,hbox⟩:=hA.box;have hgA:=hbox.lt;obtain ⟨hI,hGF,hP,hS,G,Z,hbc,hgz⟩:=hin;have hFine:=hI.fine zY zY hV;have HA:=jJ (aI9 hA hT hO hM0 hm hB hI hbox hFine);have HT:=jJ (aI7 ht hz hM h4 h6 hP hS);have HV:=jJ (aI5 hbc hGF hV hV2 hgz);clear hA hT hO hM0 hm hB hI hbox hFine ht hz hM h4 h6 hP hS hbc hGF hV hV2 hgz;go_enter func9,ntmps9
 go_upto_region 1 with (fail)
 obtain ⟨w0,e_1,k0,r0,r1,r2⟩:=bx3 w 42 [.pointer (some ⟨g,0,none⟩)] 3 [.int .i64 v] 27 [.slice bp mp dp,.bool gb,.slice ab nb cb];rw [e_1];clear e_1;obtain ⟨d0,-⟩:=r0.one;obtain ⟨d1,-⟩:=r1.one;obtain ⟨d2,d3,d4⟩:=r2.three;have H0:=jJ (aI4 r0 r1 r2 k0);have l0:=r0.lt;have l1:=r1.lt;have l2:=r2.lt;clear r0 r1 r2 k0;cases hk:fE A x
 ·have hno:¬(0≤x∧x<(A.nodes.length:Int)):=fun h=>by rw [dH.2 h] at hk;cases hk
  have HX:=jJ (aI hno hk);clear hno hk;go_wp2_with (go_at_call 23;refine (WL (HA.o.r7.1.keep H0.o.2.2.2 id) HX.o.1).mono ?_;rintro e w1 ⟨rfl,hk1⟩;have H1:=jJ hk1;clear hk1)
  go_ret2
  refine ⟨false,fun _=>rfl,?_⟩;rw [show eJ A 2000 8 sp ov x v ⟨lb,zb⟩ false=((0,80),A,(sp,ov)) by unfold eJ;rw [if_pos HX.o.2]];exact cO.none HA.o.1 HA.o.2.2.1 HA.o.r4.1 ((H0.o.2.2.2.trans H1.o).trans kOf)
 ·have hyes:=dH.1 hk;have hxn:x.toNat<A.nodes.length:=zZ;have hr:=DL (HA.o.1.keep H0.o.2.2.2 fun _ h=>h.elim) hxn HA.o.r8.len (HA.o.r8.sound _ hxn).size;rw [show ((x.toNat:Nat):Int)=x by omega] at hr;obtain ⟨N,hN⟩:∃N,A.nodes.getD x.toNat aP=N:=⟨_,rfl⟩;rw [hN] at hr;have HX:=jJ (aI5 hr hk hyes hxn hN);clear hr hk hyes hxn hN;go_upto_region 6 with (go_at_call 23;refine HX.o.1.mono ?_;rintro e w1 ⟨gd,ad,nd,cd,ap,np,cp,gk,ak,nk,ck',aq,nq,cq,els,rfl,-,-,-,hk1⟩;have H1:=jJ (show aA Nil w0 (w1.alloc (.cells #[.int .i64 N.kind,.bool gd,.slice ad nd cd,.slice ap np cp,.bool gk,.slice ak nk ck',.int .i64 N.var,.slice aq nq cq] 59)) from hk1.trans kOf);clear hk1)
  generalize w1.alloc (.cells #[.int .i64 N.kind,.bool gd,.slice ad nd cd,.slice ap np cp,.bool gk,.slice ak nk ck',.int .i64 N.var,.slice aq nq cq] 59)=wa at *
  have hwa:aA Nil w wa:=H0.o.2.2.2.trans H1.o;have HWA:=jJ hwa;clear hwa;obtain ⟨vl,hvl⟩:∃vl,(dR lb).map (fun p=>p.1)=vl:=⟨_,rfl⟩;have htv:∀W:World,aA Nil wa W→Calls prog 34 #[.agg #[.slice bp mp dp,.bool gb,.slice ab nb cb]] W fun e w'=>Gives Nil (XZ 3 W.heap.size vl) W e w':=fun W q=>by
   rw [←hvl];exact aFV (HT.o.1.eO (HWA.o.trans q)) (HT.o.2.1.gK.eO (HWA.o.trans q)) HT.o.2.2.2.1 HT.o.r4.1
  have HVL:=jJ htv;clear htv hvl;refine aX 6 [5] [23,24,25,26,27,28] [23,24,25,26,27] [Un (eT ?v2_0),Un (eT ?v2_1),Un (eT ?v2_2),Un (eT ?v2_3),Un (MF wa.heap.size 3 vl),nothing] (aB.sk (aB.nx ?r2_4 (aB.nx ?r2_3 (aB.nx ?r2_2 (aB.nx ?r2_1 (aB.nx ?r2_0 aB.zero)))))) ?rfn2
  case' r2_0|r2_1|r2_2|r2_3|r2_4=>
   intro us wj hk hp K hK;try simp only [aQ,Act.put,sL] at hK⊢
   obtain ⟨m0,-⟩:=(H0.o.1.keep (H1.o.trans hk) id).one;obtain ⟨m1,-⟩:=(H0.o.2.1.keep (H1.o.trans hk) id).one;obtain ⟨m2,m3,m4⟩:=(H0.o.2.2.1.keep (H1.o.trans hk) id).three;have hsj:=hk.size
  case' r2_0|r2_1|r2_2|r2_3=>
   go_simp
   refine hK.out _ _ (aA.refl _ _) ?_;exact rfl
  case' r2_4=>
   have e3:us 26=_:=hp 3;rw [e3] at hK⊢;go_simp
   refine (HVL.o wj hk).mono ?_;rintro e wk ⟨v,rfl,⟨va,vc,rfl,o⟩,hk2⟩;exact hK.out _ _ hk2 (⟨va,vc,rfl,o.base zZ⟩)
  case' rfn2=>
  intro us wz hkz hf;simp only [aQ,Act.put,sL];have e0:us 23=_:=hf 0;have e1:us 24=_:=hf 1;have e2:us 25=_:=hf 2;have e3:us 26=_:=hf 3;obtain ⟨va4,vc4,e4,o4⟩:(MF wa.heap.size 3 vl) (us 27) wz:=hf 4;clear hf;simp only [e0,e1,e2,e3,e4];clear e0 e1 e2 e3 e4 us;refine aK 5 fun K hK=>?_;go_simp
  have hcg:=aRN (v:=v) (HA.o.1.keep (HWA.o.trans hkz) fun _ h=>h.elim) HA.o.r6.1 HV.o.2.2.1 HX.o.2.2.2.1 (kG (M:=Nil) o4 (fun _ _ h=>h.elim) rfl);rw [show ((x.toNat:Nat):Int)=x by have:=HX.o.2.2.1;omega] at hcg;refine hcg.mono ?_;rintro e wb ⟨⟨c,rfl,hc⟩,hkb⟩;have H2:=jJ (aI3 hc ((HWA.o.trans hkz).trans hkb) ((H1.o.trans hkz).trans hkb));clear hc hkb hcg;skip
  refine mK ?_;clear hK K;refine aR zX ?_ _;have HT9:=True.intro;obtain ⟨m0,-⟩:=(H0.o.1.keep H2.o.2.2 id).one;obtain ⟨m1,-⟩:=(H0.o.2.1.keep H2.o.2.2 id).one;obtain ⟨m2,m3,m4⟩:=(H0.o.2.2.1.keep H2.o.2.2 id).three;have lb0:=cZ1 l0 H2.o.2.2.size;have lb1:=cZ1 l1 H2.o.2.2.size;have lb2:=cZ1 l2 H2.o.2.2.size;cases c with
  | true=>
   go_wp2_with fail
   go_ret2
   refine ⟨true,H2.o.1,?_⟩;rw [show eJ A 2000 8 sp ov x v ⟨lb,zb⟩ true=((0,120),A,(sp,ov)) by unfold eJ;rw [if_neg sR,if_pos rfl]];exact cO.none HA.o.1 HA.o.2.2.1 HA.o.r4.1 H2.o.2.1
  | false=>
   have hmm:=@run_makeMap prog;go_upto_region 9 with (fail)
   have k2:aA Nil wb ((wb.alloc (.map #[] 0)).alloc (.cells #[.pointer (some ⟨g,0,none⟩),.nilFunc,.func (.func 44) #[.agg #[.int .i64 v,.slice bp mp dp,.bool gb,.slice ab nb cb]] #[],.map (some wb.heap.size)] 91)):=kOf;have hmap:=(kQ.made (P:=prog) (kt:=3) (et:=3) wb A.nodes.length).keep (M:=Nil) (w':=(wb.alloc (.map #[] 0)).alloc (.cells #[.pointer (some ⟨g,0,none⟩),.nilFunc,.func (.func 44) #[.agg #[.int .i64 v,.slice bp mp dp,.bool gb,.slice ab nb cb]] #[],.map (some wb.heap.size)] 91)) kOf id;have rw2:=aF.alloc (w:=wb.alloc (.map #[] 0)) (E:=91) (xs:=[.pointer (some ⟨g,0,none⟩),.nilFunc,.func (.func 44) #[.agg #[.int .i64 v,.slice bp mp dp,.bool gb,.slice ab nb cb]] #[],.map (some wb.heap.size)]);change aF ((wb.alloc (.map #[] 0)).alloc (.cells #[.pointer (some ⟨g,0,none⟩),.nilFunc,.func (.func 44) #[.agg #[.int .i64 v,.slice bp mp dp,.bool gb,.slice ab nb cb]] #[],.map (some wb.heap.size)] 91)) _ _ _ at rw2;rw [show (wb.alloc (.map #[] 0)).heap.size=wb.heap.size+1 by simp] at rw2;generalize (wb.alloc (.map #[] 0)).alloc (.cells #[.pointer (some ⟨g,0,none⟩),.nilFunc,.func (.func 44) #[.agg #[.int .i64 v,.slice bp mp dp,.bool gb,.slice ab nb cb]] #[],.map (some wb.heap.size)] 91)=w2 at *
   obtain ⟨bm,hbm⟩:∃b,wb.heap.size=b:=⟨_,rfl⟩;rw [hbm] at hmap rw2⊢;obtain ⟨n0,n1,n2,n3⟩:=rw2.mR;have n4:=rw2.frozen 1;have lw2:=rw2.lt;have H3:=jJ (aI4 hmap rw2 k2 hbm);clear hmap rw2 k2 hmm;have hsf:∀(a:Addr) (m:Mode) (W:World) (f:Fn) (cb:Array Value),(store a (.func f #[] cb) m).run prog W=stored prog W a (.func f #[] cb) m:=fun a m W f cb=>run_store prog W a _ m rfl;go_upto_region 10 with (fail)
   have r3:=H3.o.2.1.set 1 (.func (.func 45) #[] #[.pointer (some ⟨w.heap.size,0,none⟩),.pointer (some ⟨w.heap.size+1,0,none⟩)]);have k3:=(aA.refl (One (bm+1)) w2).set1 1 (.func (.func 45) #[] #[.pointer (some ⟨w.heap.size,0,none⟩),.pointer (some ⟨w.heap.size+1,0,none⟩)]);change aF _ _ _ [.pointer (some ⟨g,0,none⟩),.func (.func 45) #[] #[.pointer (some ⟨w.heap.size,0,none⟩),.pointer (some ⟨w.heap.size+1,0,none⟩)],.func (.func 44) #[.agg #[.int .i64 v,.slice bp mp dp,.bool gb,.slice ab nb cb]] #[],.map (some bm)] at r3;generalize w2.setCell ⟨bm+1,1,none⟩ (.func (.func 45) #[] #[.pointer (some ⟨w.heap.size,0,none⟩),.pointer (some ⟨w.heap.size+1,0,none⟩)])=w3 at *
   have hbw:w.heap.size+1+1<bm:=by have h1:=H3.o.2.2.2;have h2:=H2.o.2.2.size;omega
   have kw2:aA Nil w w2:=H2.o.2.1.trans H3.o.2.2.1;have kw:aA Nil w w3:=kw2.own (g:=bm+1) zZ k3;have hgm:gm<w.heap.size:=HA.o.r4.1.lt;obtain ⟨DS,hDS⟩:∃DS:Nat→Prop,DS=fun b=>(b<w.heap.size∧¬(O b∨b=gm))∨b=bm+1∨b=w.heap.size∨b=w.heap.size+1:=⟨_,rfl⟩;have hlw:=kw.size;have hlt3:bm+1<w3.heap.size:=r3.lt;have hDSo:∀b,b<w.heap.size→¬DS b→O b∨b=gm:=fun b hb hn=>Classical.byContradiction fun h=>hn (by rw [hDS];exact .inl ⟨hb,h⟩);have hheld:LD DS g bm (bm+1) w.heap.size (w.heap.size+1) v bp mp dp gb ab nb cb lb zb w3:=
    ⟨r3,((H0.o.1.keep H2.o.2.2 id).keep H3.o.2.2.1 id).keep k3 (fun (e:w.heap.size=bm+1)=>zZ),((H0.o.2.1.keep H2.o.2.2 id).keep H3.o.2.2.1 id).keep k3 (fun (e:w.heap.size+1=bm+1)=>zZ),
     HT.o.1.widen kw (fun _ _ h=>h.elim) (fun b hb hn=>⟨(HT.o.2.2.1 b (hDSo b hb hn)).1,(HT.o.2.2.1 b (hDSo b hb hn)).2.1⟩),HT.o.2.1.move kw (fun _ _ h=>h.elim) fun b hb hn=>(HT.o.2.2.1 b (hDSo b hb hn)).2.2⟩
   have hC:=aWK (B0:=B0) (gm:=gm) (bm:=bm) (g:=g) (gw:=bm+1) (ba:=w.heap.size) (bv:=w.heap.size+1) (v:=v) (DS:=DS) (bp:=bp) (dp:=dp) (gb:=gb) (ab:=ab) (cb:=cb) HA.o.r6.1 HV.o.1 HV.o.2.2.1 (by rw [hDS];exact .inr (.inl rfl)) (by rw [hDS];exact .inr (.inr (.inl rfl))) (by rw [hDS];exact .inr (.inr (.inr rfl))) HT.o.2.2.2.1 HT.o.r4.1 HT.o.r5.1 HT.o.r6;have hw:=aGO hC zY zY zY HV.o.2.2.1 HV.o.2.2.2.1 (fun b hb=>by rw [hDS] at hb;rcases hb with hb|hb|hb|hb;exact⟨fun e=>hb.2 (.inr e),zZ⟩;exact⟨zZ,zZ⟩;exact⟨zZ,zZ⟩;exact⟨zZ,zZ⟩) (show bm≠gm by omega) HA.o.r8.len (x.toNat+1) x zZ HX.o.2.2.1.1 HX.o.2.2.1.2 HV.o.r5 w3 O (fun b=>M0 b∨b=bm) ⟨fun _=>none,A,sp,ov⟩ (HA.o.1.keep kw fun _ h=>h.elim) (HA.o.2.1.eO kw) (fun b hb=>.inl (HA.o.2.2.1 b hb)) (fun b hb=>hb.elim (fun h=>cZ1 (HA.o.2.2.2.1 b h) kw.size) fun h=>zZ) (HA.o.r4.1.move kw (fun _ _ h=>h.elim) fun b hlt hb=>hb.elim id fun h=>zZ) (H3.o.1.keep k3 (fun (e:bm=bm+1)=>zZ)) (.inr rfl) (fun h=>by have:=HA.o.1.lt bm h;omega) hheld
    (fun b hb=>by
     rw [hDS] at hb;rcases hb with hb|hb|hb|hb
     ·exact⟨fun h=>hb.2 (.inl h),zZ⟩
     ·exact⟨fun h=>tS,zZ⟩
     ·exact⟨fun h=>tS,zZ⟩
     ·exact⟨fun h=>tS,zZ⟩)
    ⟨⟨HA.o.r6.1,HV.o.2.1,iP.refl A⟩,fun u y hu=>by
     have h1:(if iW A v u then some u else none)=some y:=hu;by_cases hs:iW A v u=true
     ·exact qS
     ·rw [if_neg hs] at h1;cases h1⟩ HV.o.r4.1 (fun b hb=>hb.elim (fun h=>HA.o.r5.1 b (.inl h)) fun h=>h.elim (fun h=>HA.o.r5.1 b (.inr h)) fun h=>by have:=HA.o.2.1.1;omega)
   have heg:∀args w,(callFunc 48 args).run prog w=.ok (.enter 48 args) w:=enters_of func48 zX rfl;obtain ⟨r,hr⟩:∃r,cJ (cQ (fun X=>gF X v ⟨lb,zb⟩) 2000 8) (x.toNat+1) (fC (iW A v) ⟨fun _=>none,A,sp,ov⟩) x=r:=⟨_,rfl⟩;rw [hr] at hw;have HW:=jJ (aI3 hw kw hr);clear hw kw hr r3 k3 hheld hC hDSo hDS kw2;go_wp2_with (first|(go_at_call 48;refine HW.o.1.mono ?_;rintro e w4 ⟨r2,hst,hq⟩;obtain ⟨rfl,hst2,kk⟩:=hst;have H4:=jJ (aI3 hst2 kk hq);clear hst2 kk hq)|(go_at_call 47;refine (aDN r2.1).mono ?_;rintro e w5 ⟨rfl,rfl⟩))
   go_ret2
   refine ⟨false,fun _=>rfl,?_⟩;obtain ⟨⟨O',q1,q2,q3,q4,-⟩,kk,hq⟩:=H4.o;rw [show eJ A 2000 8 sp ov x v ⟨lb,zb⟩ false=(AB r2.1,r2.2.A,(r2.2.sp,r2.2.ov)) by unfold eJ;rw [if_neg sR,if_neg zW,HW.o.2.2,hq];rfl];have hsz:=HW.o.2.1.size;exact⟨rfl,⟨O',q1,q2,fun b hb=>(q3 b hb).imp id fun h=>bZ1 hsz h,q4.move (aA.refl Nil _) (fun _ _ h=>h.elim) fun b _ hb=>hb.elim (fun h=>.inl (.inl h)) .inr⟩,(HW.o.2.1.of_nil).trans' kk fun b hb=>hb.elim (fun h=>.inl (.inl h)) fun h=>h.elim (fun h=>.inl (.inr h)) fun h=>.inr zZ⟩
theorem aUI {O:Nat→Prop} {w:World} {g gm:Nat} {A:aC} {i:Int} (hA:bW O w g gm A) (h0:0≤i) (h1:i<(A.nodes.length:Int)) :
  Calls prog 49 #[.pointer (some ⟨g,0,none⟩),.int .i64 i] w fun e w'=>e=.returned (.bool (decide (A.plain.getD i.toNat 0=0)))∧aA Nil w w':=by
 obtain ⟨B,vn,vf,vp,bm,ne,fe,h⟩:=hA;obtain ⟨an,cn,en⟩:=h.nodes.isSlice;obtain ⟨ap,cp,ep,hs⟩:=aL.sl (M:=Nil) (R:=RI) (d:=0) (xs:=A.plain) h.plain (fun _ _ h=>h) vA (fun i hi=>yI);rw [aJ] at ep hs;have hr:=h.row;rw [en,ep,h.nl] at hr;obtain ⟨k,rfl⟩:∃k:Nat,i=(k:Int):=⟨i.toNat,zZ⟩;have hk2:k<A.plain.length:=by rw [h.pl];omega
 obtain ⟨n,hn⟩:∃n,n=A.nodes.length:=⟨_,rfl⟩;obtain ⟨m,hm⟩:∃m,m=A.plain.length:=⟨_,rfl⟩;rw [←hn] at hr h1;rw [←hm] at hr hs hk2;have he:decide (0≤(k:Int)∧(k:Int)<(n:Int))=true:=zV;obtain ⟨x,hx⟩:∃x,x=A.plain.getD k 0:=⟨_,rfl⟩;have j0:(0:Int)≤(k:Int):=zZ;have j1:(k:Int)<(m:Int):=zZ;have hg:=hr.lt;have hs:cE Nil w ap m cp A.plain:=hs;have HA:=jJ (aI4 hr hs hx hk2);have HE:=jJ he;rw [show A.plain.getD ((k:Int)).toNat 0=x by rw [hx];rfl];clear h hr hs hx en ep hn hm hk2 h0 h1 he;go_enter func49,ntmps49
 go_wp2_with (go_at_call 71;go_loud (refine (DR (i:=(k:Int)) HA.o.1).mono ?_;rintro e w1 ⟨rfl,hk1⟩;rw [HE.o];have c2:w1.cell? ⟨g,2,none⟩=some (.slice ap m cp):=(HA.o.1.keep hk1 id).cell 2;have hlw:=hk1.size;obtain ⟨b,off,rfl,cx⟩:=bA (HA.o.2.1.eO hk1) HA.o.2.2.2;rw [←HA.o.2.2.1] at cx;have H1:=jJ hk1;clear hk1))
 go_ret
 exact⟨rfl,H1.o⟩
def nX (A0:aC) (x:Int):Bool:=decide (0≤x∧x<(A0.nodes.length:Int))&&decide (x<2)
def BP (A:aC) (nodes limbs sp ov x:Int) (f:aY→aY):(Int × Int) × aC × (Int × Int):=
 if fE A x=false then ((0,80),A,(sp,ov))
 else if A.plain.getD x.toNat 0≠0 then ((0,130),A,(sp,ov))
 else (AB (cJ (cQ f nodes limbs) (x.toNat+1) (fC (nX A) ⟨fun _=>none,A,sp,ov⟩) x).1,(cJ (cQ f nodes limbs) (x.toNat+1) (fC (nX A) ⟨fun _=>none,A,sp,ov⟩) x).2.A,((cJ (cQ f nodes limbs) (x.toNat+1) (fC (nX A) ⟨fun _=>none,A,sp,ov⟩) x).2.sp,(cJ (cQ f nodes limbs) (x.toNat+1) (fC (nX A) ⟨fun _=>none,A,sp,ov⟩) x).2.ov))
section
variable {V:List Int} {f:aY→aY} {w:World} {x:Int} {B0 gm tf g:Nat} {A0:aC}
theorem aWV:Calls prog 50 #[.int .i64 x] w fun e w'=>e=.returned (.bool (decide (x<2)))∧aA Nil w w':=by
 go_enter func50,ntmps50
 go_wp2_with fail
 go_ret
 exact⟨rfl,aA.refl _ _⟩
structure YD (V:List Int) (tf:Nat) (f:aY→aY):Prop where
 enters:∀args w,(callFunc tf args).run prog w=.ok (.enter tf args) w
 call:∀(W:World) (gd:Bool) (ad:Option Addr) (nd cd:Nat) (ap:Option Addr) (np cp:Nat) (gk:Bool) (ak:Option Addr) (nk ck:Nat) (X:aY),jA Nil W gd ad nd cd ap np cp gk ak nk ck X→cB 8 262144 V X.t→eP X.d.natAbs≤8→fF X.t.parts→Calls prog tf #[.agg #[.int .i64 X.kind,.bool gd,.slice ad nd cd,.slice ap np cp,.bool gk,.slice ak nk ck]] W fun e w'=>Gives Nil (AV Nil (f X)) W e w'
 small:DW V f
theorem aWP {bm gw:Nat} {nodes limbs:Int} (h0:0≤limbs) (hn:nodes≤2000) (hl:limbs≤8) (hV:V.length≤262144) (hF:fM Five A0) (hf:YD V tf f) :
  YE B0 g gm bm gw 50 tf A0.nodes.length #[] #[] #[] V nodes limbs A0 (fun w=>aF w gw 91 [.pointer (some ⟨g,0,none⟩),.func (.func 50) #[] #[],.func (.func tf) #[] #[],.map (some bm)]) (fun b=>b=gw) (nX A0) f (fun _=>True) (fun _=>True):=by
 refine ⟨fun h k hX=>h.keep k (hX _ rfl),fun W h=>h,enters_of func50 zX rfl,hf.enters,fun W O A x hA he hD hx0 hx1=>?_,fun x hx=>?_,fun W gd ad nd cd ap np cp gk ak nk ck X hD hX s1 s2 s3=>?_,hf.small,aIH hF h0 hn hl hV hf.small,rfl⟩
 ·have h2:nX A0 x=decide (x<2):=by unfold nX;rw [decide_eq_true ⟨hx0,hx1⟩,Bool.true_and]
  rw [h2];exact aWV
 ·unfold nX at hx;simp only [Bool.and_eq_true,decide_eq_true_eq] at hx;exact hx.1
 ·exact hf.call W gd ad nd cd ap np cp gk ak nk ck X hX s1 s2 s3
theorem aWW {O M0:Nat→Prop} {A:aC} {sp ov:Int} (hA:bW O w g gm A) (hT:Tab B0 w) (hO:∀b,O b→M0 b) (hM0:MB M0 w) (hm:bR M0 w gm 2000 8 sp ov) (hB:∀b,O b∨b=gm→B0≤b)
  (hI:bE V 2000 8 A sp) (hF:fM Five A) (hn:A.nodes.length≤42) (hV:V.length≤262144) (hV2:∀v∈V,I64 v) (hf:YD V tf f) :
  Calls prog 11 #[.pointer (some ⟨g,0,none⟩),.int .i64 x,.func (.func tf) #[] #[]] w fun e w'=>cO O M0 w g gm 2000 8 (BP A 2000 8 sp ov x f) e w':=by
 obtain ⟨av,cv,v1,v2,v3,hbox⟩:=hA.box;have hgA:=hbox.lt;have hFine:=hI.fine zY zY hV;have HA:=jJ (aI9 hA hT hO hM0 hm hB hI hbox hFine);have HV:=jJ (aI5 hF hn hV hV2 hf);clear hA hT hO hM0 hm hB hI hbox hFine hF hn hV hV2 hf;go_enter func11,ntmps11
 have hbo:∀W:World,(binOp BinOp.eql 37 (.func (.func tf) #[] #[]) .nilFunc).run prog W=.ok (.bool false) W:=fun W=>zU;cases hk:fE A x
 ·have hno:¬(0≤x∧x<(A.nodes.length:Int)):=fun h=>by rw [dH.2 h] at hk;cases hk
  have HX:=jJ (aI hno hk);clear hno hk;go_wp2_with (go_at_call 23;refine (WL HA.o.r7.1 HX.o.1).mono ?_;rintro e w1 ⟨rfl,hk1⟩;have H1:=jJ hk1;clear hk1)
  go_ret2
  rw [show BP A 2000 8 sp ov x f=((0,80),A,(sp,ov)) by unfold BP;rw [if_pos HX.o.2]];exact cO.none HA.o.1 HA.o.2.2.1 HA.o.r4.1 (H1.o.trans kOf)
 ·have hyes:=dH.1 hk;have hxn:x.toNat<A.nodes.length:=zZ;have hr:=DL HA.o.1 hxn HA.o.r8.len (HA.o.r8.sound _ hxn).size;rw [show ((x.toNat:Nat):Int)=x by omega] at hr;obtain ⟨N,hN⟩:∃N,A.nodes.getD x.toNat aP=N:=⟨_,rfl⟩;rw [hN] at hr;have hpl:=fun (W:World) (q:aA Nil w W)=>aUI (HA.o.1.keep q fun _ h=>h.elim) hyes.1 hyes.2;obtain ⟨p,hp⟩:∃p,A.plain.getD x.toNat 0=p:=⟨_,rfl⟩;rw [hp] at hpl;have HX:=jJ (aI6 hr hk hyes hxn hpl hp);clear hr hk hyes hxn hN hpl hp;go_upto_region 6 with (go_at_call 23;refine HX.o.1.mono ?_;rintro e w1 ⟨gd,ad,nd,cd,ap,np,cp,gk,ak,nk,ck',aq,nq,cq,els,rfl,-,-,-,hk1⟩;have H1:=jJ (show aA Nil w (w1.alloc (.cells #[.int .i64 N.kind,.bool gd,.slice ad nd cd,.slice ap np cp,.bool gk,.slice ak nk ck',.int .i64 N.var,.slice aq nq cq] 59)) from hk1.trans kOf);clear hk1)
  generalize w1.alloc (.cells #[.int .i64 N.kind,.bool gd,.slice ad nd cd,.slice ap np cp,.bool gk,.slice ak nk ck',.int .i64 N.var,.slice aq nq cq] 59)=wa at *
  by_cases hp:p=0
  case neg=>
   have HPP:=jJ hp;have hpd:decide (p=0)=false:=by simpa using hp
   have HPD:=jJ hpd;clear hp hpd;go_wp2_with (go_at_call 49;refine (HX.o.r4.1 wa H1.o).mono ?_;rintro e wb ⟨rfl,hkb⟩;rw [HPD.o];have H2:=jJ (H1.o.trans hkb);clear hkb)
   go_ret2
   rw [show BP A 2000 8 sp ov x f=((0,130),A,(sp,ov)) by unfold BP;rw [if_neg sR,HX.o.r5,if_pos HPP.o]];exact cO.none HA.o.1 HA.o.2.2.1 HA.o.r4.1 H2.o
  case pos=>
   subst hp;have hmm:=@run_makeMap prog;go_upto_region 8 with (go_at_call 49;refine (HX.o.r4.1 wa H1.o).mono ?_;rintro e wb ⟨rfl,hkb⟩;rw [show decide ((0:Int)=0)=true from rfl];have H2:=jJ (H1.o.trans hkb);clear hkb)
   go_upto_region 9 with (fail)
   have k2:aA Nil wb ((wb.alloc (.map #[] 0)).alloc (.cells #[.pointer (some ⟨g,0,none⟩),.nilFunc,.func (.func tf) #[] #[],.map (some wb.heap.size)] 91)):=kOf;have hmap:=(kQ.made (P:=prog) (kt:=3) (et:=3) wb A.nodes.length).keep (M:=Nil) (w':=(wb.alloc (.map #[] 0)).alloc (.cells #[.pointer (some ⟨g,0,none⟩),.nilFunc,.func (.func tf) #[] #[],.map (some wb.heap.size)] 91)) kOf id;have rw2:=aF.alloc (w:=wb.alloc (.map #[] 0)) (E:=91) (xs:=[.pointer (some ⟨g,0,none⟩),.nilFunc,.func (.func tf) #[] #[],.map (some wb.heap.size)]);change aF ((wb.alloc (.map #[] 0)).alloc (.cells #[.pointer (some ⟨g,0,none⟩),.nilFunc,.func (.func tf) #[] #[],.map (some wb.heap.size)] 91)) _ _ _ at rw2;rw [show (wb.alloc (.map #[] 0)).heap.size=wb.heap.size+1 by simp] at rw2;generalize (wb.alloc (.map #[] 0)).alloc (.cells #[.pointer (some ⟨g,0,none⟩),.nilFunc,.func (.func tf) #[] #[],.map (some wb.heap.size)] 91)=w2 at *
   obtain ⟨bm,hbm⟩:∃b,wb.heap.size=b:=⟨_,rfl⟩;rw [hbm] at hmap rw2⊢;obtain ⟨n0,n1,n2,n3⟩:=rw2.mR;have n4:=rw2.frozen 1;have lw2:=rw2.lt;have H3:=jJ (aI4 hmap rw2 k2 hbm);clear hmap rw2 k2 hmm;have hsf:∀(a:Addr) (m:Mode) (W:World) (f:Fn) (cb:Array Value),(store a (.func f #[] cb) m).run prog W=stored prog W a (.func f #[] cb) m:=fun a m W f cb=>run_store prog W a _ m rfl;go_upto_region 10 with (fail)
   have r3:=H3.o.2.1.set 1 (.func (.func 50) #[] #[]);have k3:=(aA.refl (One (bm+1)) w2).set1 1 (.func (.func 50) #[] #[]);change aF _ _ _ [.pointer (some ⟨g,0,none⟩),.func (.func 50) #[] #[],.func (.func tf) #[] #[],.map (some bm)] at r3;generalize w2.setCell ⟨bm+1,1,none⟩ (.func (.func 50) #[] #[])=w3 at *
   have hbw:w.heap.size≤bm:=by have h1:=H3.o.2.2.2;have h2:=H2.o.size;omega
   have kw2:aA Nil w w2:=H2.o.trans H3.o.2.2.1;have kw:aA Nil w w3:=kw2.own (g:=bm+1) zZ k3;have hgm:gm<w.heap.size:=HA.o.r4.1.lt;have hlt3:bm+1<w3.heap.size:=r3.lt;have hC:=aWP (B0:=B0) (gm:=gm) (bm:=bm) (g:=g) (gw:=bm+1) (nodes:=2000) (limbs:=8) zY zY zY HV.o.2.2.1 HV.o.1 HV.o.r4;have hw:=aGO hC zY zY zY HV.o.2.2.1 HV.o.2.2.2.1 (fun b hb=>⟨zZ,zZ⟩) (show bm≠gm by omega) HA.o.r8.len (x.toNat+1) x zZ HX.o.2.2.1.1 HX.o.2.2.1.2 trivial w3 O (fun b=>M0 b∨b=bm) ⟨fun _=>none,A,sp,ov⟩ (HA.o.1.keep kw fun _ h=>h.elim) (HA.o.2.1.eO kw) (fun b hb=>.inl (HA.o.2.2.1 b hb)) (fun b hb=>hb.elim (fun h=>cZ1 (HA.o.2.2.2.1 b h) kw.size) fun h=>zZ) (HA.o.r4.1.move kw (fun _ _ h=>h.elim) fun b hlt hb=>hb.elim id fun h=>zZ) (H3.o.1.keep k3 (fun (e:bm=bm+1)=>zZ)) (.inr rfl) (fun h=>by have:=HA.o.1.lt bm h;omega) r3
    (fun b hb=>⟨fun h=>tS,zZ⟩)
    ⟨⟨HA.o.r6.1,iV.raw HA.o.r6.1 HV.o.1 HV.o.2.1,iP.refl A⟩,fun u y hu=>by
     have h1:(if nX A u then some u else none)=some y:=hu;by_cases hs:nX A u=true
     ·exact qS
     ·rw [if_neg hs] at h1;cases h1⟩ trivial (fun b hb=>hb.elim (fun h=>HA.o.r5.1 b (.inl h)) fun h=>h.elim (fun h=>HA.o.r5.1 b (.inr h)) fun h=>by have:=HA.o.2.1.1;omega)
   have heg:∀args w,(callFunc 48 args).run prog w=.ok (.enter 48 args) w:=enters_of func48 zX rfl;obtain ⟨r,hr⟩:∃r,cJ (cQ f 2000 8) (x.toNat+1) (fC (nX A) ⟨fun _=>none,A,sp,ov⟩) x=r:=⟨_,rfl⟩;rw [hr] at hw;have HW:=jJ (aI3 hw kw hr);clear hw kw hr r3 k3 hC kw2;go_wp2_with (first|(go_at_call 48;refine HW.o.1.mono ?_;rintro e w4 ⟨r2,hst,hq⟩;obtain ⟨rfl,hst2,kk⟩:=hst;have H4:=jJ (aI3 hst2 kk hq);clear hst2 kk hq)|(go_at_call 47;refine (aDN r2.1).mono ?_;rintro e w5 ⟨rfl,rfl⟩))
   go_ret2
   obtain ⟨⟨O',q1,q2,q3,q4,-⟩,kk,hq⟩:=H4.o;rw [show BP A 2000 8 sp ov x f=(AB r2.1,r2.2.A,(r2.2.sp,r2.2.ov)) by unfold BP;rw [if_neg sR,HX.o.r5,if_neg zW,HW.o.2.2,hq];rfl];have hsz:=HW.o.2.1.size;exact⟨rfl,⟨O',q1,q2,fun b hb=>(q3 b hb).imp id fun h=>bZ1 hsz h,q4.move (aA.refl Nil _) (fun _ _ h=>h.elim) fun b _ hb=>hb.elim (fun h=>.inl (.inl h)) .inr⟩,(HW.o.2.1.of_nil).trans' kk fun b hb=>hb.elim (fun h=>.inl (.inl h)) fun h=>h.elim (fun h=>.inl (.inr h)) fun h=>.inr zZ⟩
end
section
variable {ad ap ak:Option Addr} {V:List Int} {w:World} {gd gk:Bool} {X:aY}
theorem aRY {nd cd:Nat} {np cp:Nat} {nk ck:Nat} (hX:jA Nil w gd ad nd cd ap np cp gk ak nk ck X) :
  Calls prog 12 #[.agg #[.int .i64 X.kind,.bool gd,.slice ad nd cd,.slice ap np cp,.bool gk,.slice ak nk ck]] w fun e w'=>Gives Nil (AV Nil X) w e w':=by
 have HX:=jJ hX;clear hX;go_enter func12,ntmps12
 go_upto_region 1 with (fail)
 obtain ⟨w0,e_1,q0,r0,r1⟩:=bx2 w 82 [.int .i64 X.kind,.bool gd,.slice ad nd cd,.slice ap np cp,.bool gk,.slice ak nk ck] 82 [.int .i64 0,.bool false,.slice none 0 0,.slice none 0 0,.bool false,.slice none 0 0];rw [e_1];clear e_1;obtain ⟨c0,c1,c2,c3,c4,c5⟩:=r0.eZ;obtain ⟨z0,z1,z2,z3,z4,z5⟩:=r1.eZ;obtain ⟨y0,y1,y2,y3,y4,y5⟩:=r1.iY;have H0:=jJ (aI q0 r1);clear q0 r0 r1;go_wp2_with fail
 have r6:=H0.o.2.six (.int .i64 X.kind) (.bool gd) (.slice ad nd cd) (.slice ap np cp) (.bool gk) (.slice ak nk ck);obtain ⟨x0,x1,x2,x3,x4,x5⟩:=r6.eZ;have k6:=H0.o.1.own (g:=w.heap.size+1) zZ (aA.six (.int .i64 X.kind) (.bool gd) (.slice ad nd cd) (.slice ap np cp) (.bool gk) (.slice ak nk ck));exact bodyPost_ret (v:=.agg #[.int .i64 X.kind,.bool gd,.slice ad nd cd,.slice ap np cp,.bool gk,.slice ak nk ck]) (by simp [results,results12,go_sem,x0,x1,x2,x3,x4,x5]) rfl ⟨_,rfl,⟨_,_,_,_,_,_,_,_,_,_,_,rfl,HX.o.eO k6⟩,k6⟩
theorem aOX:YD V 12 fun X=>X:=
 ⟨enters_of func12 zX rfl,fun _ _ _ _ _ _ _ _ _ _ _ _ _ hX _ _ _=>aRY hX,fun X s1 s2 _=>⟨⟨s1.len,fun p hp=>bZ1 (s1.parts p hp) zY,bZ1 s1.k zY,s1.vars⟩,bZ1 s2 zY⟩⟩
end
end Go.Proofs.Q
