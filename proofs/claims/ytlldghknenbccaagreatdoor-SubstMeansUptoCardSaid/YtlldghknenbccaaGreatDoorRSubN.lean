/- What subst's node does: a formula gone through, atoms turned. -/
import Derived.Test.YtlldghknenbccaaGreatDoorRSubsB
import Derived.Test.YtlldghknenbccaaGreatDoorRPickB
set_option linter.unusedSimpArgs false
set_option linter.unusedVariables false
set_option maxRecDepth 100000
set_option maxHeartbeats 8000000
namespace Go.Proofs.Q
open Go.RowKit Tryz
section
variable {c:Int→Option Int} {x:Int} {E:TypeId} {w:World} {T:kK} {g f:Nat}
theorem aF.mR {a b c d:Value} (h:aF w g E [a,b,c,d]):w.cell? ⟨g,0,none⟩=some a∧w.cell? ⟨g,1,none⟩=some b∧w.cell? ⟨g,2,none⟩=some c∧w.cell? ⟨g,3,none⟩=some d:=⟨h.cell 0,h.cell 1,h.cell 2,h.cell 3⟩
def fC (sk:Int→Bool) (s:WSt):WSt:=⟨mZ sk s.came,s.A,s.sp,s.ov⟩
theorem aDS {sk:Int→Bool} {y:Int} (h:c x=some y):mZ sk c x=some y:=by unfold mZ;rw [h]
theorem aSK {sk:Int→Bool} (h:c x=none) (hs:sk x=true):mZ sk c x=some x:=by unfold mZ;rw [h];simp [hs]
theorem aBW {sk:Int→Bool} (h:c x=none) (hs:sk x=false):mZ sk c x=none:=by unfold mZ;rw [h];simp [hs]
theorem aWB {sk:Int→Bool} (h:mZ sk c x=none):c x=none:=by
 cases hc:c x with
 | none=>rfl
 | some y=>rw [aDS hc] at h;cases h
theorem aPW {sk:Int→Bool} {s t:WSt} {out:List Int} {q:(Int × Int) × aC × (Int × Int)} (h:mZ sk s.came x=none) (hr:cW (cJ T f) (fC sk s) [] (ndA s.A x).kids=((out,0),fC sk t)) (hq:T t.A t.sp t.ov x out=q):cJ T (f+1) (fC sk s) x=(q.1,fC sk ⟨iL t.came x q.1.1,q.2.1,q.2.2.1,q.2.2.2⟩):=by
 have h1:=KE (T:=T) (s:=fC sk s) h hr;rw [show (fC sk t).A=t.A from rfl,show (fC sk t).sp=t.sp from rfl,show (fC sk t).ov=t.ov from rfl,hq] at h1;rw [h1];unfold fC;rw [aVY]
end
section
variable {V ids:List Int} {a:Option Addr} {nodes limbs:Int} {w:World} {B0 gm g n c:Nat} {O DS M0 M1:Nat→Prop} {D:World→Prop} {G:WSt→Prop} {Z:Int→Prop} {fa:aY→aY} {e:Ending} {A0:aC}
theorem aUV {A:aC} {sp ov:Int} (hA:bW O w g gm A) (hT:Tab B0 w) (hO:∀b,O b→M0 b) (hM0:MB M0 w) (hm:bR M0 w gm nodes limbs sp ov)
  (h:cE M1 w a n c ids) (hI:bE V nodes limbs A sp) (hn:nodes≤2000) (hl:limbs≤8) (hV:V.length≤262144) (hids:∀k∈ids,0≤k∧k<(A.nodes.length:Int)) (hbig:(iB A.nodes 5 ids).length≤17592186044000) :
  Calls prog 63 #[.pointer (some ⟨g,0,none⟩),.slice a n c] w fun e w'=>cO O M0 w g gm nodes limbs (cR A nodes limbs sp ov 5 ids) e w':=by
 have hj:=aFW (kind:=5) (ov:=ov) hA hT hO hM0 hm h hI hn hl hV hids hbig zY;have HJ:=jJ hj;clear hA hT hO hM0 hm h hI hn hl hV hids hbig hj;go_enter func63,ntmps63
 go_wp2_with (go_at_call 107;refine HJ.o.mono ?_;rintro e w1 ⟨rfl,hst⟩;have H1:=jJ hst;clear hst)
 go_ret2
 exact⟨rfl,H1.o⟩
theorem aXY {A:aC} {sp ov:Int} (hA:bW O w g gm A) (hT:Tab B0 w) (hO:∀b,O b→M0 b) (hM0:MB M0 w) (hm:bR M0 w gm nodes limbs sp ov)
  (h:cE M1 w a n c ids) (hI:bE V nodes limbs A sp) (hn:nodes≤2000) (hl:limbs≤8) (hV:V.length≤262144) (hids:∀k∈ids,0≤k∧k<(A.nodes.length:Int)) (hbig:(iB A.nodes 6 ids).length≤17592186044000) :
  Calls prog 98 #[.pointer (some ⟨g,0,none⟩),.slice a n c] w fun e w'=>cO O M0 w g gm nodes limbs (cR A nodes limbs sp ov 6 ids) e w':=by
 have hj:=aFW (kind:=6) (ov:=ov) hA hT hO hM0 hm h hI hn hl hV hids hbig zY;have HJ:=jJ hj;clear hA hT hO hM0 hm h hI hn hl hV hids hbig hj;go_enter func98,ntmps98
 go_wp2_with (go_at_call 107;refine HJ.o.mono ?_;rintro e w1 ⟨rfl,hst⟩;have H1:=jJ hst;clear hst)
 go_ret2
 exact⟨rfl,H1.o⟩
structure MJ (V:List Int) (nodes limbs:Int) (A0:aC) (fa:aY→aY) (G:WSt→Prop) (Z:Int→Prop):Prop where
 gk:∀{n j:Nat} {s t:WSt} {x:Int} {out:List Int},WOk (FR V nodes limbs A0) mM s→G s→x.toNat<n+1→0≤x→x<(A0.nodes.length:Int)→j≤(ndA s.A x).kids.length→cW (cJ (cQ fa nodes limbs) n) s [] ((ndA s.A x).kids.take j)=((out,0),t)→G t
 zk:∀{x k:Int},0≤x→x<(A0.nodes.length:Int)→Z x→k∈(ndA A0 x).kids→Z k
 big:∀{n:Nat} {s t:WSt} {x:Int} (K:Int) {out:List Int},WOk (FR V nodes limbs A0) mM s→G s→Z x→x.toNat<n+1→0≤x→x<(A0.nodes.length:Int)→cW (cJ (cQ fa nodes limbs) n) s [] (ndA s.A x).kids=((out,0),t)→(ndA s.A x).kind=K→K=5∨K=6→(iB t.A.nodes K out).length≤17592186044000
structure YE (B0 g gm bm gw sf tf N0:Nat) (scap tpre tpost:Array Value) (V:List Int) (nodes limbs:Int) (A0:aC) (D:World→Prop) (DS:Nat→Prop) (sk:Int→Bool) (f:aY→aY) (G:WSt→Prop) (Z:Int→Prop):Prop where
 keep:∀{w w':World} {X:Nat→Prop},D w→aA X w w'→(∀b,DS b→¬X b)→D w'
 row:∀W,D W→aF W gw 91 [.pointer (some ⟨g,0,none⟩),.func (.func sf) #[] scap,.func (.func tf) tpre tpost,.map (some bm)]
 aZR:∀args w,(callFunc sf args).run prog w=.ok (.enter sf args) w
 bAU:∀args w,(callFunc tf args).run prog w=.ok (.enter tf args) w
 skip:∀(W:World) (O:Nat→Prop) (A:aC) (x:Int),bW O W g gm A→iP A0 A→D W→0≤x→x<(N0:Int)→Calls prog sf (#[.int .i64 x]++scap) W fun e w'=>e=.returned (.bool (sk x))∧aA Nil W w'
 low:∀x,sk x=true→0≤x∧x<(N0:Int)
 turn:∀(W:World) (gd:Bool) (ad:Option Addr) (nd cd:Nat) (ap:Option Addr) (np cp:Nat) (gk:Bool) (ak:Option Addr) (nk ck:Nat) (X:aY),D W→jA Nil W gd ad nd cd ap np cp gk ak nk ck X→cB 8 262144 V X.t→eP X.d.natAbs≤8→fF X.t.parts→Calls prog tf (tpre++#[.agg #[.int .i64 X.kind,.bool gd,.slice ad nd cd,.slice ap np cp,.bool gk,.slice ak nk ck]]++tpost) W fun e w'=>Gives Nil (AV Nil (f X)) W e w'
 small:DW V f
 bc:MJ V nodes limbs A0 f G Z
 n0:N0=A0.nodes.length
def lT (O M:Nat→Prop) (w:World) (g gm bm N0:Nat) (nodes limbs:Int) (sk:Int→Bool) (q:(Int × Int) × WSt) (e:Ending) (w':World):Prop:=∃r,LY O M w g gm bm N0 nodes limbs r e w'∧q=(r.1,fC sk r.2)
theorem lT.mk' {M:Nat→Prop} {w':World} {bm N0:Nat} {sk:Int→Bool} {q r:(Int × Int) × WSt} (h:LY O M w g gm bm N0 nodes limbs r e w') (hq:q=(r.1,fC sk r.2)):lT O M w g gm bm N0 nodes limbs sk q e w':=⟨r,h,hq⟩
theorem aGO {bm gw sf tf N0:Nat} {scap tpre tpost:Array Value} {sk:Int→Bool} (hC:YE B0 g gm bm gw sf tf N0 scap tpre tpost V nodes limbs A0 D DS sk fa G Z) (hl0:0≤limbs) (hn:nodes≤2000) (hl:limbs≤8) (hV:V.length≤262144) (hV2:∀v∈V,I64 v) (hDSg:∀b,DS b→b≠gm∧b≠bm) (hbg:bm≠gm) (hN0:N0≤1000000) :
  ∀(f:Nat) (x:Int),x.toNat<f→0≤x→x<(N0:Int)→Z x→∀(W:World) (O M:Nat→Prop) (s:WSt),bW O W g gm s.A→Tab B0 W→(∀b,O b→M b)→MB M W→bR M W gm nodes limbs s.sp s.ov→kQ prog 3 3 W bm N0 s.came→M bm→¬O bm→D W→(∀b,DS b→¬O b∧b<W.heap.size)→WOk (FR V nodes limbs A0) mM (fC sk s)→G (fC sk s)→(∀b,O b∨b=gm∨b=bm→B0≤b) →
  Calls prog 48 #[.pointer (some ⟨gw,0,none⟩),.int .i64 x] W fun e w'=>lT O M W g gm bm N0 nodes limbs sk (cJ (cQ fa nodes limbs) f (fC sk s) x) e w':=by
 intro f;induction f with
 | zero=>intro x hx;omega
 | succ f ih=>
  intro x hxf hx0 hxN hZx W O M s hA hTb hO hM hm hcm hbM hbO hD hDS hs hGs hB0;have HGZ:=jJ (aI hGs hZx);clear hGs hZx;have hT:=VJ (A0:=A0) hl0 hn hl hV hC.small;have hI:bE V nodes limbs s.A s.sp:=hs.1.1;have hX0:iP A0 s.A:=hs.1.2.2;have hN:N0≤s.A.nodes.length:=by rw [hC.n0];exact hX0.ext.len
  have hxn:x.toNat<s.A.nodes.length:=zZ;have hFine:=hI.fine hn hl hV;have hr:=hC.row W hD;obtain ⟨d0,d1,d2,d3⟩:=hr.mR;have ltw:=hr.lt;have hx64:fI x:=⟨zZ,zZ⟩;have hskp:=hC.skip W O s.A x hA hX0 hD hx0 hxN;have HS:=jJ (MG hA hTb hO hM hm hcm hbM hbO hD hDS hs hB0);have HC:=jJ hC;have HIH:=jJ ih;have HX:=jJ (aI5 hFine hT hx64 hI hskp);have HV:=jJ (aI6 hl0 hn hl hV hV2 hDSg);have hsen:=hC.aZR;have hten:=hC.bAU;have heg:∀args w,(callFunc 48 args).run prog w=.ok (.enter 48 args) w:=enters_of func48 zX rfl;clear hA hTb hO hM hm hcm hbM hbO hD hDS hs hB0 hr hC ih hT hFine hx64 hI hX0 hskp hl0 hn hl hV hV2 hDSg;go_enter func48,ntmps48
  cases hcx:s.came x with
  | some y=>
   have HY:=jJ hcx;go_wp2_with (at_lookup;refine YS _ rfl _ _ 86 rfl 3 3 underlying3 underlying86 underlying3 (zeroValue3 _) bm N0 s.came rfl HS.o.r5.1 x rfl HX.o.2.2.1 ?_;intro c hc;rw [HY.o];obtain rfl:=hc y HY.o;clear hc)
   go_ret2
   exact lT.mk' (r:=((_,0),s)) ⟨rfl,⟨O,HS.o.1,fun _ h=>h,fun _ h=>.inl h,HS.o.r4.1.move (aA.refl Nil W) (fun _ _ h=>h.elim) (fun b _ h=>h.elim id (HS.o.2.2.1 b)),HS.o.r5.1⟩,aA.refl _ _⟩ (JQ (aDS HY.o))
  | none=>
   have HY:=jJ hcx;clear hcx;go_upto_region 4 with (at_lookup;refine YS _ rfl _ _ 86 rfl 3 3 underlying3 underlying86 underlying3 (zeroValue3 _) bm N0 s.came rfl HS.o.r5.1 x rfl HX.o.2.2.1 ?_;intro c hc;rw [HY.o];clear hc)
   cases hsk:sk x with
   | true=>
    have HK:=jJ hsk;clear hsk;go_wp2_with (refine HX.o.r4.mono ?_;rintro e w1 ⟨rfl,hk1⟩;rw [HK.o])
    go_ret2
    exact lT.mk' (r:=((x,0),s)) ⟨rfl,⟨O,HS.o.1.keep hk1 fun _ h=>h.elim,fun _ h=>h,fun _ h=>.inl h,(HS.o.r4.1.eO hk1).move (aA.refl Nil _) (fun _ _ h=>h.elim) (fun b _ h=>h.elim id (HS.o.2.2.1 b)),HS.o.r5.1.keep hk1 id⟩,hk1.of_nil⟩ (JQ (aSK HY.o HK.o))
   | false=>
    have HK:=jJ (aI hsk (aBW HY.o hsk));clear hsk;have hx1:(((x.toNat:Nat)):Int)=x:=zZ;go_upto_region 6 with (refine HX.o.r4.mono ?_;rintro e w1 ⟨rfl,hk1⟩;rw [HK.o.1];have H1:=jJ hk1;clear hk1)
    obtain ⟨e0,e1,e2,e3⟩:=((HC.o.row W HS.o.r8.1).keep H1.o id).mR;have ltw1:=cZ1 ltw H1.o.size;have hcall:=DL (HS.o.1.keep H1.o fun _ h=>h.elim) hxn HX.o.1.len (HX.o.1.sound _ hxn).size;rw [hx1] at hcall;obtain ⟨N,hN'⟩:∃N,ndA s.A x=N:=⟨_,rfl⟩;rw [show s.A.nodes.getD x.toNat aP=N from hN'] at hcall;have HN:=jJ (aI hcall hN');clear hcall hN';go_upto_region 7 with (go_at_call 23;refine HN.o.1.mono ?_;rintro e wn ⟨gd,ad,nd,cd,ap,np,cp,gk,ak,nk,ck,aq,nq,cq,els,rfl,hn,-,-,hkn⟩;have HNN:=jJ (aI hn (H1.o.trans hkn));clear hn hkn)
    have rp:=aF.alloc (w:=wn) (E:=59) (xs:=[.int .i64 N.kind,.bool gd,.slice ad nd cd,.slice ap np cp,.bool gk,.slice ak nk ck,.int .i64 N.var,.slice aq nq cq]);change aF (wn.alloc (.cells #[.int .i64 N.kind,.bool gd,.slice ad nd cd,.slice ap np cp,.bool gk,.slice ak nk ck,.int .i64 N.var,.slice aq nq cq] 59)) _ _ _ at rp;have kb:aA Nil wn (wn.alloc (.cells #[.int .i64 N.kind,.bool gd,.slice ad nd cd,.slice ap np cp,.bool gk,.slice ak nk ck,.int .i64 N.var,.slice aq nq cq] 59)):=kOf;generalize wn.alloc (.cells #[.int .i64 N.kind,.bool gd,.slice ad nd cd,.slice ap np cp,.bool gk,.slice ak nk ck,.int .i64 N.var,.slice aq nq cq] 59)=wb at *
    have hpbn:W.heap.size≤wn.heap.size:=HNN.o.2.size;obtain ⟨pb,hpb⟩:∃b,wn.heap.size=b:=⟨_,rfl⟩;rw [hpb] at rp hpbn⊢;have krb:=HNN.o.2.trans kb;have hgm:gm<W.heap.size:=HS.o.r4.1.lt;have hbm:bm<W.heap.size:=HS.o.r5.1.lt;have hstart:lC O M W g gm bm pb N0 nodes limbs [.int .i64 N.kind,.bool gd,.slice ad nd cd,.slice ap np cp,.bool gk,.slice ak nk ck,.int .i64 N.var,.slice aq nq cq] N O s (.slice none 0 0) [] wb:=
     ⟨aL.nil _ _ _ _,(fun b h=>wZ),HS.o.1.keep krb fun _ h=>h.elim,fun _ h=>h,fun _ h=>.inl h,HS.o.r4.1.move krb (fun _ _ h=>h.elim) (fun b _ h=>by rcases h with h|h|h;exact h;exact HS.o.2.2.1 b h;cases h),HS.o.r5.1.keep krb id,rp,hpbn,(fun h=>by have:=HS.o.1.lt pb h;omega),(fun h=>wZ),⟨_,_,_,_,_,_,_,_,_,_,_,_,_,_,rfl,HNN.o.1.move kb (fun _ _ h=>h.elim) (fun b _ h=>by have h9:=H1.o.size;rcases h with h|h|h;exact cZ1 h h9;exact cZ1 (HS.o.1.lt b h) h9;cases h)⟩,krb.of_nil⟩
    obtain ⟨d10,d11,d12,d13,d14,d15,d16,d17⟩:=rp.fV;have hkl:N.kids.length=nq:=eU.len HNN.o.1.kids;have HP:=jJ (aI3 hstart hkl krb);have hdk:∀Oj:Nat→Prop,(∀b,Oj b→O b∨W.heap.size≤b)→∀b,DS b→¬Oj b∧b<W.heap.size:=fun Oj ho b hb=>⟨fun h=>by rcases ho b h with h2|h2;exact (HS.o.r9.1 b hb).1 h2;have:=(HS.o.r9.1 b hb).2;omega,(HS.o.r9.1 b hb).2⟩;have hdk2:∀b,DS b→¬(O b∨b=gm∨b=bm):=fun b hb h=>by
     rcases h with h|h|h
     ·exact (HS.o.r9.1 b hb).1 h
     ·exact (HV.o.r5 b hb).1 h
     ·exact (HV.o.r5 b hb).2 h
    have HDK:=jJ hdk2;have HDO:=jJ hdk;clear hstart krb kb rp hpb hpbn hkl hdk hdk2;obtain ⟨i1,hi1⟩:=info_parts BI;have HI1:=jJ hi1;clear hi1;go_wp2_with fail
    go_loopg [10,45] nq (fun g1 v iv wr=>∃(j:Nat) (va:Option Addr) (vc:Nat) (Oj:Nat→Prop) (t:WSt) (out:List Int),j+g1=nq∧iv=.int .i64 (j:Int)∧v=.slice va j vc∧cW (cJ (cQ fa nodes limbs) f) (fC sk s) [] (N.kids.take j)=((out,0),fC sk t)∧lC O M W g gm bm pb N0 nodes limbs [.int .i64 N.kind,.bool gd,.slice ad nd cd,.slice ap np cp,.bool gk,.slice ak nk ck,.int .i64 N.var,.slice aq nq cq] N Oj t (.slice va j vc) out wr)
    case atStart=>exact⟨0,none,0,O,s,[],zZ,rfl,rfl,rfl,HP.o.1⟩
    case round=>
     obtain ⟨j,va,vc,Oj,t,out,hjg,rfl,rfl,hkm,hwa⟩:=hrel;have hx2:x<(s.A.nodes.length:Int):=zZ;have hjn:j≤(ndA s.A x).kids.length:=by rw [HN.o.2,HP.o.2.1];omega
     have hplain:=VK (s:=fC sk s) (t:=fC sk t) HX.o.2.1 HS.o.r10.1 hxf hx0 hx2 hjn (by rw [show ndA (fC sk s).A x=N from HN.o.2];exact hkm);have hno:¬Oj bm:=hwa.aKI hbm HS.o.r7.1;have hB0j:∀b,Oj b∨b=gm∨b=bm→B0≤b:=fun b hb=>by
      rcases hb with hb|hb
      ·rcases hwa.down b hb with h2|h2
       ·exact HS.o.r11 b (.inl h2)
       ·have:=HS.o.2.1.1;omega
      ·exact HS.o.r11 b (.inr hb)
     have htab:Tab B0 wr:=HS.o.2.1.keep hwa.keep HS.o.r11;have hMB:MB (fun b=>M b∨Oj b∨(Value.slice va j vc).ownBlock=some b) wr:=fun b hb=>by
      rcases hb with hb|hb|hb
      ·exact cZ1 (HS.o.2.2.2.1 b hb) hwa.keep.size
      ·exact hwa.arena.lt b hb
      ·exact (hwa.own.lt b hb).2
     have hDr:D wr:=HC.o.keep HS.o.r8.1 hwa.keep HDK.o;have hrow:=HC.o.row wr hDr;obtain ⟨e0,e1,e2,e3⟩:=hrow.mR;have hws:W.heap.size≤wr.heap.size:=hwa.keep.size;have hDSr:∀b,DS b→¬Oj b∧b<wr.heap.size:=fun b hb=>⟨(HDO.o Oj hwa.down b hb).1,cZ1 (HDO.o Oj hwa.down b hb).2 hws⟩;have ltwr:=cZ1 ltw hws;have HW:=jJ (FU hkm hwa hplain hDr hno hB0j htab hMB hDSr hrow);clear hkm hwa hplain hDr hno hB0j htab hMB hDSr hrow;cases gk with
     | succ g1=>
      have hlt:j<nq:=zZ;have j0:(0:Int)≤(j:Int):=zZ;have j1:(j:Int)<(nq:Int):=zZ;have hnode:=HW.o.2.1.node;obtain ⟨_,_,_,_,_,_,_,_,_,_,_,_,_,_,hcs,hnat⟩:=hnode;cases hcs;obtain ⟨b,off,hae,ck⟩:=bA hnat.kids hlt;subst hae;have hlN:j<N.kids.length:=by rw [HP.o.2.1];exact hlt
      have htk:=GQ hlN;have hzk:=HC.o.bc.zk hx0 vO HGZ.o.2 (show N.kids.getD j 0∈(ndA A0 x).kids by rw [show ndA A0 x=N from (HS.o.r10.1.1.2.2.ext.nd hx0 vO).symm.trans HN.o.2];exact cK 0 hlN);have hgt:=HC.o.bc.gk (j:=j) HS.o.r10.1 HGZ.o.1 hxf hx0 vO (by rw [show ndA (fC sk s).A x=N from HN.o.2];omega) (by rw [show ndA (fC sk s).A x=N from HN.o.2];exact HW.o.1);have hkm:=HX.o.1.below.kid hx0 zZ (show N.kids.getD j 0∈(s.A.nodes.getD x.toNat aP).kids by rw [show s.A.nodes.getD x.toNat aP=N from HN.o.2];exact cK 0 hlN);generalize N.kids.getD j 0=k at *
      have hcall:=HIH.o k zZ hkm.1 zZ hzk wr Oj (fun b=>M b∨Oj b∨(Value.slice va j vc).ownBlock=some b) t HW.o.2.1.arena HW.o.r6.1 (fun b hb=>.inr (.inl hb)) HW.o.r7.1 HW.o.2.1.jC HW.o.2.1.map (.inl HS.o.r6.1) HW.o.r4.1 HW.o.2.2.2.1 HW.o.r8.1 HW.o.2.2.1.1 hgt HW.o.r5.1;have hsn:=aDM (cJ (cQ fa nodes limbs) f) k (N.kids.take j) (fC sk s) [] (congrArg (fun q=>q.1.2) HW.o.1);rw [HW.o.1,←htk] at hsn;have hjb:j≤1000000000:=by have h1:=(HX.o.1.sound _ hxn).size.kids;rw [show s.A.nodes.getD x.toNat aP=N from HN.o.2,HP.o.2.1] at h1;omega
      have hol:=HW.o.2.2.1.2.2.2.1;have HKK:=jJ (aI3 hcall hsn htk);clear hcall hsn htk hnat hkm hlN hzk hgt;go_upto_region 12 with (go_at_call 48;refine HKK.o.1.mono ?_;rintro e w2 ⟨⟨⟨y,er⟩,t2⟩,hst,hwm⟩;obtain ⟨he,O2,hwa2⟩:=HW.o.2.1.step hgm hbm hst;subst he;have H2:=jJ (aI hwa2 hwm);have hws2:=hwa2.keep.size;clear hwa2 hst hwm)
      have hsn2:=HKK.o.2.1;rw [H2.o.2] at hsn2;by_cases he:er=0
      ·subst he;simp only [if_pos] at hsn2;have HS2:=jJ hsn2;clear hsn2;go_wp2_with (at_builtin;go_loud (refine bY _ rfl (.tmp 58) (.tmp 60) 56 rfl W.heap.size 3 i1 (.int .i64 0) 1 8 underlying56 HI1.o.1 HI1.o.2.1 HI1.o.2.2.1 HI1.o.2.2.2 rfl zY (.slice va j vc) _ rfl (H2.o.1.own.eO kOf) ⟨w2.heap.size,0,none⟩ 1 1 [[.int .i64 y]] rfl rfl zW (EI _ _ _) yO wX wX zV ?_);intro v' w3 ho hk2 hf2 _;obtain ⟨a7,c7,rfl⟩:=ho.isSlice;have e7:(aO out++[[Value.int .i64 y]]).length=j+1:=(by rw [aZ1,aJ,hol];rfl);rw [e7] at ho hf2⊢;rw [←FZ] at ho;clear e7;have HO:=jJ (aI3 ho hk2 hf2);clear ho hk2 hf2)
       go_roundg g1
       case measure=>omega
       case rel=>exact⟨j+1,a7,c7,O2,t2,out++[y],zZ,zF,rfl,HS2.o,H2.o.1.push hgm hbm HS.o.r7.1 ((aA.refl Nil w2).alloc _) HO.o.1 HO.o.2.1 HO.o.2.2⟩
      ·have hkall:cW (cJ (cQ fa nodes limbs) f) (fC sk s) [] N.kids=((out,er),fC sk t2):=by
        have h1:=hsn2;rw [if_neg he] at h1;have h2:=aCW (cJ (cQ fa nodes limbs) f) (N.kids.take (j+1)) (fC sk s) [] (N.kids.drop (j+1)) (by rw [h1];exact he);rw [aZ3,h1] at h2;exact h2
       have HKA:=jJ hkall;clear hkall hsn2;go_wp2_with fail
       go_ret2
       exact lT.mk' (r:=((0,er),t2)) H2.o.1.done (OW (s:=fC sk s) (r:=((out,er),fC sk t2)) HK.o.2 (by rw [show ndA (fC sk s).A x=N from HN.o.2];exact HKA.o) he)
     | zero=>
      obtain rfl:j=nq:=zZ;have hkall:cW (cJ (cQ fa nodes limbs) f) (fC sk s) [] (ndA s.A x).kids=((out,0),fC sk t):=by
       rw [HN.o.2];have h1:=HW.o.1;rw [eZ1 (by rw [HP.o.2.1];omega)] at h1;exact h1
      have hext:Ext s.A t.A:=HW.o.2.2.1.2.1;have hxt:x<(t.A.nodes.length:Int):=by have:=hext.len;omega
      have hnd:ndA t.A x=N:=(hext.nd hx0 zZ).trans HN.o.2;have hol:out.length=j:=HW.o.2.2.1.2.2.2.1;have hSI:FR V nodes limbs A0 t.A t.sp t.ov:=HW.o.2.2.1.1.1;have hRk:∀o∈out,mM t.A o:=HW.o.2.2.1.2.2.1;have hlen:out.length=(ndA t.A x).kids.length:=by rw [hnd,hol,HP.o.2.1]
      have hnone:t.came x=none:=aWB (by have h1:=HW.o.2.2.1.r4 x (Int.le_refl _);exact h1.trans HK.o.2);obtain ⟨p1,p2,p3⟩:=HX.o.2.1.step (x:=x) (ks:=out) hSI hx0 hxt hRk hlen;have herr:=aPK (f:=fa) (nodes:=nodes) (limbs:=limbs) (sp:=t.sp) (ov:=t.ov) (x:=x) (A:=t.A) (ks:=out);obtain ⟨q,hq⟩:∃q,cQ fa nodes limbs t.A t.sp t.ov x out=q:=⟨_,rfl⟩;have hres:=aPW (T:=cQ fa nodes limbs) HK.o.2 hkall hq;rw [hq] at p1 p2 p3 herr;obtain ⟨⟨y,er⟩,A2,sp2,ov2⟩:=q;have hy64:fI y:=by
       by_cases he:er=0
       ·have h1:=p3 he;have h2:=(bE.fine p1.1 HV.o.2.1 HV.o.2.2.1 HV.o.2.2.2.1).len;simp only at h1 h2;exact⟨by have:=h1.1;omega,by have:=h1.2;omega⟩
       ·have h1:y=0:=herr he;exact⟨zZ,zZ⟩
      have HQ:=jJ (aI3 hy64 hnone hres);have HT:=jJ (aI5 hSI hRk hlen hnd hol);have hkinds:=hSI.1.kinds hx0 hxt;have hone:=hSI.1.one hx0 hxt;have hsm:=hSI.1.small HV.o.2.2.1 HV.o.2.2.2.1 hx0 hxt;rw [hnd] at hkinds hone hsm;have hnode:=HW.o.2.1.node;obtain ⟨_,_,_,_,_,_,_,_,_,_,_,_,_,_,hcs,hnat⟩:=hnode;cases hcs;have hnat2:=hnat.move (M2:=Nil) (aA.refl Nil wr) (fun _ _ h=>h.elim) (fun _ _ h=>h.elim);have HT2:=jJ (aI4 (bE.fine hSI.1 HV.o.2.1 HV.o.2.2.1 HV.o.2.2.2.1) hone hsm hnat2);obtain ⟨f10,f11,f12,f13,f14,f15,f16,f17⟩:=HW.o.2.1.box.fV;have HKL:=jJ hkall;clear hkall hext hxt hnd hol hSI hRk hlen hnone p1 p2 p3 herr hres hy64 hone hsm hnat hnat2;by_cases hK:N.kind=5
      ·have hbig:(iB t.A.nodes 5 out).length≤17592186044000:=HC.o.bc.big (t:=fC sk t) 5 HS.o.r10.1 HGZ.o.1 HGZ.o.2 hxf hx0 vO HKL.o rQ (.inl rfl);have hj:=aUV (ov:=t.ov) HW.o.2.1.arena HW.o.r6.1 (fun b hb=>.inr (.inl hb)) HW.o.r7.1 HW.o.2.1.jC (kG HW.o.2.1.own (fun _ _ h=>h) HT.o.r4) HT.o.1.1 HV.o.2.1 HV.o.2.2.1 HV.o.2.2.2.1 HT.o.2.1 hbig;have hqe:cR t.A nodes limbs t.sp t.ov 5 out=((y,er),A2,sp2,ov2):=qU;rw [hqe] at hj;have HJ:=jJ hj;rw [hK] at f10;clear hj hqe hbig hK hq;go_wp2_with (first|(go_at_call 63;refine HJ.o.mono ?_;rintro e w2 hst;obtain ⟨he,O2,hwa2⟩:=HW.o.2.1.step hgm hbm (cO.walk (hst) HW.o.2.1.map HW.o.r4.1 hbg);subst he;have H2:=jJ hwa2;have hd2:=HC.o.keep HS.o.r8.1 hwa2.keep HDK.o;obtain ⟨g0,g1,g2,g3⟩:=(HC.o.row w2 hd2).mR;clear hwa2 hst hd2)|(at_mapUpdate;go_loud (refine cZ _ rfl _ _ _ 86 rfl 3 3 underlying3 underlying86 underlying3 bm N0 t.came rfl H2.o.map zC x y rfl HX.o.2.2.1 hx0 hxN HQ.o.2.1 rfl HQ.o.1 ?_);intro w3 hm3 hk3;have H3:=jJ (aI hm3 hk3);clear hm3 hk3))
       go_ret2
       exact lT.mk' (r:=((y,er),⟨iL t.came x y,A2,sp2,ov2⟩)) (H2.o.note (t:=⟨iL t.came x y,A2,sp2,ov2⟩) hbm HS.o.r7.1 HS.o.r6.1 H3.o.2 H3.o.1 rfl rfl rfl).done HQ.o.2.2
      have b5:=hK;clear hK;by_cases hK:N.kind=6
      ·have hbig:(iB t.A.nodes 6 out).length≤17592186044000:=HC.o.bc.big (t:=fC sk t) 6 HS.o.r10.1 HGZ.o.1 HGZ.o.2 hxf hx0 vO HKL.o rQ (.inr rfl);have hj:=aXY (ov:=t.ov) HW.o.2.1.arena HW.o.r6.1 (fun b hb=>.inr (.inl hb)) HW.o.r7.1 HW.o.2.1.jC (kG HW.o.2.1.own (fun _ _ h=>h) HT.o.r4) HT.o.1.1 HV.o.2.1 HV.o.2.2.1 HV.o.2.2.2.1 HT.o.2.1 hbig;have hqe:cR t.A nodes limbs t.sp t.ov 6 out=((y,er),A2,sp2,ov2):=qU;rw [hqe] at hj;have HJ:=jJ hj;rw [hK] at f10;clear hj hqe hbig hK hq;go_wp2_with (first|(go_at_call 98;refine HJ.o.mono ?_;rintro e w2 hst;obtain ⟨he,O2,hwa2⟩:=HW.o.2.1.step hgm hbm (cO.walk (hst) HW.o.2.1.map HW.o.r4.1 hbg);subst he;have H2:=jJ hwa2;have hd2:=HC.o.keep HS.o.r8.1 hwa2.keep HDK.o;obtain ⟨g0,g1,g2,g3⟩:=(HC.o.row w2 hd2).mR;clear hwa2 hst hd2)|(at_mapUpdate;go_loud (refine cZ _ rfl _ _ _ 86 rfl 3 3 underlying3 underlying86 underlying3 bm N0 t.came rfl H2.o.map zC x y rfl HX.o.2.2.1 hx0 hxN HQ.o.2.1 rfl HQ.o.1 ?_);intro w3 hm3 hk3;have H3:=jJ (aI hm3 hk3);clear hm3 hk3))
       go_ret2
       exact lT.mk' (r:=((y,er),⟨iL t.came x y,A2,sp2,ov2⟩)) (H2.o.note (t:=⟨iL t.came x y,A2,sp2,ov2⟩) hbm HS.o.r7.1 HS.o.r6.1 H3.o.2 H3.o.1 rfl rfl rfl).done HQ.o.2.2
      have b6:=hK;clear hK;by_cases hK:N.kind=7
      ·obtain ⟨q1,q2⟩:=HT2.o.2.1 zZ;have hn1:j=1:=by have h2:=HP.o.2.1;omega
       subst hn1;obtain ⟨kk,hk⟩:∃kk,out.getD 0 0=kk:=⟨_,rfl⟩;have hno:=kG (M:=Nil) HW.o.2.1.own (fun _ _ h=>h.elim) HT.o.r4;obtain ⟨bq,oq,rfl,cq0⟩:=bA hno (i:=0) zZ;rw [hk] at cq0;have hbq:bq<wr.heap.size:=vF;have hkr:=HT.o.2.1 kk qJ;have hroom:=YF (kind:=7) (v:=N.var) (ks:=[kk]) HT.o.1.1.inv HV.o.2.1 HV.o.2.2.2.1 zZ zZ (fun h=>zZ) (List.pairwise_singleton _ _) (fun y hy=>by rw [dZ1.1 hy];exact hkr);have hb:=fun (W':World) (q:aA Nil wr W')=>OQ (kind:=7) (v:=N.var) (k:=kk) (ov:=t.ov) (M0:=fun b=>M b∨Oj b∨(Value.slice (some ⟨bq,oq,none⟩) 1 vc).ownBlock=some b) (HW.o.2.1.arena.keep q fun _ h=>h.elim) (HW.o.r6.1.eO q) (fun b hb=>.inr (.inl hb)) (HW.o.r7.1.keep q) (HW.o.2.1.jC.eO q) q2 HT.o.1.1.inv.sp0 HT.o.1.1.inv.spn HV.o.2.1 wR HT2.o.1.len HT2.o.1.two hroom;have hqe:dY t.A nodes limbs t.sp t.ov 7 N.var kk=((y,er),A2,sp2,ov2):=sS;rw [hqe] at hb;have HB:=jJ hb;simp only [Nat.mul_zero,Nat.zero_mul,Nat.add_zero] at cq0;have HCQ:=jJ cq0;have H7:=jJ hK;rw [hK] at f10;clear hb hroom hqe hK hk q1 q2 cq0 hkr hno hq;go_upto_region 24 with (fail)
       refine aX 17 [11,12,13,14,15,16] [111,112,113,114,115,116,117,118,119,120,121,122,110,123,124,4,5] [111,112,113,114,115,116,117,118,119,120,121] [Un (eT ?v1_0),Un (eT ?v1_1),Un (eT ?v1_2),Un (eT ?v1_3),Un (eT ?v1_4),Un (eT ?v1_5),Un (eT ?v1_6),Un (eT ?v1_7),Un (eT ?v1_8),Un (eT ?v1_9),Un (eT ?v1_10),nothing,nothing,nothing,nothing,nothing,nothing] (aB.sk (aB.sk (aB.sk (aB.sk (aB.sk (aB.sk (aB.nx ?r1_10 (aB.nx ?r1_9 (aB.nx ?r1_8 (aB.nx ?r1_7 (aB.nx ?r1_6 (aB.nx ?r1_5 (aB.nx ?r1_4 (aB.nx ?r1_3 (aB.nx ?r1_2 (aB.nx ?r1_1 (aB.nx ?r1_0 aB.zero))))))))))))))))) ?rfn1
       case' r1_0|r1_1|r1_2|r1_3|r1_4|r1_5|r1_6|r1_7|r1_8|r1_9|r1_10=>
        intro us wj hk hp K hK;try simp only [aQ,Act.put,sL] at hK⊢
        obtain ⟨m0,m1,m2,m3⟩:=(HW.o.r9.keep hk id).mR;obtain ⟨n0,n1,n2,n3,n4,n5,n6,n7⟩:=(HW.o.2.1.box.keep hk id).fV;rw [H7.o] at n0;have hq0:=hk.eY hbq id HCQ.o;have lq:=cZ1 hbq hk.size
       case' r1_0|r1_4|r1_6|r1_8=>
        go_simp
        refine hK.out _ _ (aA.refl _ _) ?_;exact rfl
       case' r1_1=>
        have e0:us 111=_:=hp 0;rw [e0] at hK⊢;go_simp
        refine hK.out _ _ (aA.refl _ _) ?_;exact rfl
       case' r1_2=>
        have e1:us 112=_:=hp 1;rw [e1] at hK⊢;go_simp
        refine hK.out _ _ (aA.refl _ _) ?_;exact rfl
       case' r1_3=>
        have e2:us 113=_:=hp 2;rw [e2] at hK⊢;go_simp
        refine hK.out _ _ (aA.refl _ _) ?_;exact rfl
       case' r1_5=>
        have e4:us 115=_:=hp 4;rw [e4] at hK⊢;go_simp
        refine hK.out _ _ (aA.refl _ _) ?_;exact rfl
       case' r1_7=>
        have e6:us 117=_:=hp 6;rw [e6] at hK⊢;go_simp
        refine hK.out _ _ (aA.refl _ _) ?_;exact rfl
       case' r1_9=>
        have e8:us 119=_:=hp 8;rw [e8] at hK⊢;go_simp
        refine hK.out _ _ (aA.refl _ _) ?_;exact rfl
       case' r1_10=>
        have e9:us 120=_:=hp 9;rw [e9] at hK⊢;go_simp
        refine hK.out _ _ (aA.refl _ _) ?_;exact rfl
       case' rfn1=>
       intro us wz hkz hf;simp only [aQ,Act.put,sL];have e0:us 111=_:=hf 0;have e1:us 112=_:=hf 1;have e2:us 113=_:=hf 2;have e3:us 114=_:=hf 3;have e4:us 115=_:=hf 4;have e5:us 116=_:=hf 5;have e6:us 117=_:=hf 6;have e7:us 118=_:=hf 7;have e8:us 119=_:=hf 8;have e9:us 120=_:=hf 9;have e10:us 121=_:=hf 10;clear hf;simp only [e0,e1,e2,e3,e4,e5,e6,e7,e8,e9,e10];clear e0 e1 e2 e3 e4 e5 e6 e7 e8 e9 e10 us;refine aK 11 fun K hK=>?_;go_simp
       refine (HB.o wz hkz).mono ?_;rintro e wb hst;obtain ⟨he,O2,hwa2⟩:=HW.o.2.1.step hgm hbm (cO.walk (cO.after hkz hst) HW.o.2.1.map HW.o.r4.1 hbg);subst he;have H2:=jJ hwa2;have hd2:=HC.o.keep HS.o.r8.1 hwa2.keep HDK.o;obtain ⟨g0,g1,g2,g3⟩:=(HC.o.row wb hd2).mR;clear hwa2 hst hd2;skip
       refine mK ?_;clear hK K;refine aK 12 fun K hK=>?_;go_simp
       refine mK ?_;clear hK K;refine bV (rs:=[13,14]) zX zW ?_;refine (aZ.cons rfl (fun K hK=>?t2_13) (aZ.cons rfl (fun K hK=>?t2_14) aZ.nil))
       case t2_13=>
        go_simp
        refine mK ?_;clear hK K;refine bV (rs:=[14,15]) zX zW ?_;refine (aZ.cons rfl (fun K hK=>?t3_14) (aZ.cons rfl (fun K hK=>?t3_15) aZ.nil))
        case t3_14=>exact zL
        case t3_15=>exact zJ
       case t2_14=>exact zM
      have b7:=hK;clear hK;by_cases hK:N.kind=8
      ·obtain ⟨q1,q2⟩:=HT2.o.2.1 zZ;have hn1:j=1:=by have h2:=HP.o.2.1;omega
       subst hn1;obtain ⟨kk,hk⟩:∃kk,out.getD 0 0=kk:=⟨_,rfl⟩;have hno:=kG (M:=Nil) HW.o.2.1.own (fun _ _ h=>h.elim) HT.o.r4;obtain ⟨bq,oq,rfl,cq0⟩:=bA hno (i:=0) zZ;rw [hk] at cq0;have hbq:bq<wr.heap.size:=vF;have hkr:=HT.o.2.1 kk qJ;have hroom:=YF (kind:=8) (v:=N.var) (ks:=[kk]) HT.o.1.1.inv HV.o.2.1 HV.o.2.2.2.1 zZ zZ (fun h=>zZ) (List.pairwise_singleton _ _) (fun y hy=>by rw [dZ1.1 hy];exact hkr);have hb:=fun (W':World) (q:aA Nil wr W')=>OQ (kind:=8) (v:=N.var) (k:=kk) (ov:=t.ov) (M0:=fun b=>M b∨Oj b∨(Value.slice (some ⟨bq,oq,none⟩) 1 vc).ownBlock=some b) (HW.o.2.1.arena.keep q fun _ h=>h.elim) (HW.o.r6.1.eO q) (fun b hb=>.inr (.inl hb)) (HW.o.r7.1.keep q) (HW.o.2.1.jC.eO q) q2 HT.o.1.1.inv.sp0 HT.o.1.1.inv.spn HV.o.2.1 wR HT2.o.1.len HT2.o.1.two hroom;have hqe:dY t.A nodes limbs t.sp t.ov 8 N.var kk=((y,er),A2,sp2,ov2):=sS;rw [hqe] at hb;have HB:=jJ hb;simp only [Nat.mul_zero,Nat.zero_mul,Nat.add_zero] at cq0;have HCQ:=jJ cq0;have H7:=jJ hK;rw [hK] at f10;clear hb hroom hqe hK hk q1 q2 cq0 hkr hno hq;go_upto_region 24 with (fail)
       refine aX 17 [11,12,13,14,15,16] [111,112,113,114,115,116,117,118,119,120,121,122,110,123,124,4,5] [111,112,113,114,115,116,117,118,119,120,121] [Un (eT ?v4_0),Un (eT ?v4_1),Un (eT ?v4_2),Un (eT ?v4_3),Un (eT ?v4_4),Un (eT ?v4_5),Un (eT ?v4_6),Un (eT ?v4_7),Un (eT ?v4_8),Un (eT ?v4_9),Un (eT ?v4_10),nothing,nothing,nothing,nothing,nothing,nothing] (aB.sk (aB.sk (aB.sk (aB.sk (aB.sk (aB.sk (aB.nx ?r4_10 (aB.nx ?r4_9 (aB.nx ?r4_8 (aB.nx ?r4_7 (aB.nx ?r4_6 (aB.nx ?r4_5 (aB.nx ?r4_4 (aB.nx ?r4_3 (aB.nx ?r4_2 (aB.nx ?r4_1 (aB.nx ?r4_0 aB.zero))))))))))))))))) ?rfn4
       case' r4_0|r4_1|r4_2|r4_3|r4_4|r4_5|r4_6|r4_7|r4_8|r4_9|r4_10=>
        intro us wj hk hp K hK;try simp only [aQ,Act.put,sL] at hK⊢
        obtain ⟨m0,m1,m2,m3⟩:=(HW.o.r9.keep hk id).mR;obtain ⟨n0,n1,n2,n3,n4,n5,n6,n7⟩:=(HW.o.2.1.box.keep hk id).fV;rw [H7.o] at n0;have hq0:=hk.eY hbq id HCQ.o;have lq:=cZ1 hbq hk.size
       case' r4_0|r4_4|r4_6|r4_8=>
        go_simp
        refine hK.out _ _ (aA.refl _ _) ?_;exact rfl
       case' r4_1=>
        have e0:us 111=_:=hp 0;rw [e0] at hK⊢;go_simp
        refine hK.out _ _ (aA.refl _ _) ?_;exact rfl
       case' r4_2=>
        have e1:us 112=_:=hp 1;rw [e1] at hK⊢;go_simp
        refine hK.out _ _ (aA.refl _ _) ?_;exact rfl
       case' r4_3=>
        have e2:us 113=_:=hp 2;rw [e2] at hK⊢;go_simp
        refine hK.out _ _ (aA.refl _ _) ?_;exact rfl
       case' r4_5=>
        have e4:us 115=_:=hp 4;rw [e4] at hK⊢;go_simp
        refine hK.out _ _ (aA.refl _ _) ?_;exact rfl
       case' r4_7=>
        have e6:us 117=_:=hp 6;rw [e6] at hK⊢;go_simp
        refine hK.out _ _ (aA.refl _ _) ?_;exact rfl
       case' r4_9=>
        have e8:us 119=_:=hp 8;rw [e8] at hK⊢;go_simp
        refine hK.out _ _ (aA.refl _ _) ?_;exact rfl
       case' r4_10=>
        have e9:us 120=_:=hp 9;rw [e9] at hK⊢;go_simp
        refine hK.out _ _ (aA.refl _ _) ?_;exact rfl
       case' rfn4=>
       intro us wz hkz hf;simp only [aQ,Act.put,sL];have e0:us 111=_:=hf 0;have e1:us 112=_:=hf 1;have e2:us 113=_:=hf 2;have e3:us 114=_:=hf 3;have e4:us 115=_:=hf 4;have e5:us 116=_:=hf 5;have e6:us 117=_:=hf 6;have e7:us 118=_:=hf 7;have e8:us 119=_:=hf 8;have e9:us 120=_:=hf 9;have e10:us 121=_:=hf 10;clear hf;simp only [e0,e1,e2,e3,e4,e5,e6,e7,e8,e9,e10];clear e0 e1 e2 e3 e4 e5 e6 e7 e8 e9 e10 us;refine aK 11 fun K hK=>?_;go_simp
       refine (HB.o wz hkz).mono ?_;rintro e wb hst;obtain ⟨he,O2,hwa2⟩:=HW.o.2.1.step hgm hbm (cO.walk (cO.after hkz hst) HW.o.2.1.map HW.o.r4.1 hbg);subst he;have H2:=jJ hwa2;have hd2:=HC.o.keep HS.o.r8.1 hwa2.keep HDK.o;obtain ⟨g0,g1,g2,g3⟩:=(HC.o.row wb hd2).mR;clear hwa2 hst hd2;skip
       refine mK ?_;clear hK K;refine aK 12 fun K hK=>?_;go_simp
       refine mK ?_;clear hK K;refine bV (rs:=[13,14]) zX zW ?_;refine (aZ.cons rfl (fun K hK=>?t5_13) (aZ.cons rfl (fun K hK=>?t5_14) aZ.nil))
       case t5_13=>
        go_simp
        refine mK ?_;clear hK K;refine bV (rs:=[14,15]) zX zW ?_;refine (aZ.cons rfl (fun K hK=>?t6_14) (aZ.cons rfl (fun K hK=>?t6_15) aZ.nil))
        case t6_14=>exact zL
        case t6_15=>exact zJ
       case t5_14=>exact zM
      have b8:=hK;clear hK;obtain ⟨X,hXe⟩:∃X,fa ⟨N.kind,N.d,N.t⟩=X:=⟨_,rfl⟩;have hXx:jM V X:=by rw [←hXe];exact HC.o.small ⟨N.kind,N.d,N.t⟩ HT2.o.2.2.1.1 HT2.o.2.2.1.2.1 HT2.o.2.2.1.2.2
      have hnX:=oH (l:=X.t.parts) (z:=X.t.k) hXx.1 zY;have hrX:=nJ (k:=X.kind) (d:=X.d) (l:=X.t.parts) (z:=X.t.k) hXx.1 hXx.2 zY;have hng:=fun (W':World) (q:aA Nil wr W')=>HC.o.turn W' gd ad nd cd ap np cp gk ak nk ck ⟨N.kind,N.d,N.t⟩ (HC.o.keep HW.o.2.2.2.1 q fun _ _ h=>h) ⟨HT2.o.2.2.2.d.eO q,HT2.o.2.2.2.t.eO q⟩ HT2.o.2.2.1.1 HT2.o.2.2.1.2.1 HT2.o.2.2.1.2.2;rw [hXe] at hng;have hok:2≤(bJ ⟨X.kind,X.d,⟨X.t.parts,X.t.k⟩⟩).2.kind→OkB t.A (bJ ⟨X.kind,X.d,⟨X.t.parts,X.t.k⟩⟩).2:=fun h2=>TN HT.o.1.1.inv HV.o.2.1 HV.o.2.2.2.1 HV.o.r4.1 hrX h2 zY (bZ2 _);have hqe:cX t.A nodes limbs t.sp t.ov ⟨X.kind,X.d,⟨X.t.parts,X.t.k⟩⟩=((y,er),A2,sp2,ov2):=by rw [←hq];unfold cQ;rw [HT.o.2.2.2.1,if_neg zZ,if_neg zZ,hXe]
      have hXy:cB 2448576 262144 V X.t∧eP X.d.natAbs≤2448576:=⟨hXx.1,hXx.2⟩;have HY2:=jJ (aI5 hng hok hXy (hnX.wee zY zY) hqe);have c5:(N.kind==5)=false:=by simpa using b5
      have c6:(N.kind==6)=false:=by simpa using b6
      have c7:(N.kind==7)=false:=by simpa using b7
      have c8:(N.kind==8)=false:=by simpa using b8
      clear hXx hXy hnX hrX hng hok hXe hqe hq b5 b6 b7 b8;go_upto_region 17 with (fail)
      clear c5 c6 c7 c8;refine aX 22 [16,17,18,19,20,21] [66,67,68,69,70,71,72,73,74,75,76,77,78,79,80,81,82,65,83,84,4,5] [66,67,68,69,70,71,72,73,74,75,76,77,78,79,80,81] [Un (eT ?v7_0),Un (eT ?v7_1),Un (eT ?v7_2),Un (eT ?v7_3),Un (eT ?v7_4),Un (eT ?v7_5),Un (eT ?v7_6),Un (eT ?v7_7),Un (eT ?v7_8),Un (eT ?v7_9),Un (eT ?v7_10),Un (eT ?v7_11),Un (eT ?v7_12),Un (eT ?v7_13),Un (eT ?v7_14),Un (AV Nil X),nothing,nothing,nothing,nothing,nothing,nothing] (aB.sk (aB.sk (aB.sk (aB.sk (aB.sk (aB.sk (aB.nx ?r7_15 (aB.nx ?r7_14 (aB.nx ?r7_13 (aB.nx ?r7_12 (aB.nx ?r7_11 (aB.nx ?r7_10 (aB.nx ?r7_9 (aB.nx ?r7_8 (aB.nx ?r7_7 (aB.nx ?r7_6 (aB.nx ?r7_5 (aB.nx ?r7_4 (aB.nx ?r7_3 (aB.nx ?r7_2 (aB.nx ?r7_1 (aB.nx ?r7_0 aB.zero)))))))))))))))))))))) ?rfn7
      case' r7_0|r7_1|r7_2|r7_3|r7_4|r7_5|r7_6|r7_7|r7_8|r7_9|r7_10|r7_11|r7_12|r7_13|r7_14|r7_15=>
       intro us wj hk hp K hK;try simp only [aQ,Act.put,sL] at hK⊢
       obtain ⟨m0,m1,m2,m3⟩:=(HW.o.r9.keep hk id).mR;obtain ⟨n0,n1,n2,n3,n4,n5,n6,n7⟩:=(HW.o.2.1.box.keep hk id).fV
      case' r7_0|r7_4|r7_8|r7_10|r7_12=>
       go_simp
       refine hK.out _ _ (aA.refl _ _) ?_;exact rfl
      case' r7_1=>
       have e0:us 66=_:=hp 0;rw [e0] at hK⊢;go_simp
       refine hK.out _ _ (aA.refl _ _) ?_;exact rfl
      case' r7_2=>
       have e1:us 67=_:=hp 1;rw [e1] at hK⊢;go_simp
       refine hK.out _ _ (aA.refl _ _) ?_;exact rfl
      case' r7_3=>
       have e2:us 68=_:=hp 2;rw [e2] at hK⊢;go_simp
       refine hK.out _ _ (aA.refl _ _) ?_;exact rfl
      case' r7_5=>
       have e4:us 70=_:=hp 4;rw [e4] at hK⊢;go_simp
       refine hK.out _ _ (aA.refl _ _) ?_;exact rfl
      case' r7_6=>
       have e5:us 71=_:=hp 5;rw [e5] at hK⊢;go_simp
       refine hK.out _ _ (aA.refl _ _) ?_;exact rfl
      case' r7_7=>
       have e6:us 72=_:=hp 6;rw [e6] at hK⊢;go_simp
       refine hK.out _ _ (aA.refl _ _) ?_;exact rfl
      case' r7_9=>
       have e8:us 74=_:=hp 8;rw [e8] at hK⊢;go_simp
       refine hK.out _ _ (aA.refl _ _) ?_;exact rfl
      case' r7_11=>
       have e10:us 76=_:=hp 10;rw [e10] at hK⊢;go_simp
       refine hK.out _ _ (aA.refl _ _) ?_;exact rfl
      case' r7_13=>
       have e12:us 78=_:=hp 12;rw [e12] at hK⊢;go_simp
       refine hK.out _ _ (aA.refl _ _) ?_;exact rfl
      case' r7_14=>
       have e9:us 75=_:=hp 9;have e11:us 77=_:=hp 11;have e13:us 79=_:=hp 13;rw [e9,e11,e13] at hK⊢;go_simp
       refine hK.out _ _ (aA.refl _ _) ?_;exact rfl
      case' r7_15=>
       have e7:us 73=_:=hp 7;have e14:us 80=_:=hp 14;rw [e7,e14] at hK⊢;go_simp
       refine (HY2.o.1 wj hk).mono ?_;rintro e wk ⟨v,rfl,hv,hk2⟩;exact hK.out _ _ hk2 (hv)
      case' rfn7=>
      intro us wz hkz hf;simp only [aQ,Act.put,sL];have e0:us 66=_:=hf 0;have e1:us 67=_:=hf 1;have e2:us 68=_:=hf 2;have e3:us 69=_:=hf 3;have e4:us 70=_:=hf 4;have e5:us 71=_:=hf 5;have e6:us 72=_:=hf 6;have e7:us 73=_:=hf 7;have e8:us 74=_:=hf 8;have e9:us 75=_:=hf 9;have e10:us 76=_:=hf 10;have e11:us 77=_:=hf 11;have e12:us 78=_:=hf 12;have e13:us 79=_:=hf 13;have e14:us 80=_:=hf 14;obtain ⟨gd15,ad15,nd15,cd15,ap15,np15,cp15,gk15,ak15,nk15,ck15,e15,h15⟩:(AV Nil X) (us 81) wz:=hf 15;clear hf;simp only [e0,e1,e2,e3,e4,e5,e6,e7,e8,e9,e10,e11,e12,e13,e14,e15];clear e0 e1 e2 e3 e4 e5 e6 e7 e8 e9 e10 e11 e12 e13 e14 e15 us;refine aK 16 fun K hK=>?_;go_simp
      have hs22:=HY2.o.2.2.1;refine Calls.mono (by have hcl:=UN (k:=X.kind) (d:=X.d) (l:=X.t.parts) (z:=X.t.k) (ov:=t.ov) (M0:=fun b=>M b∨Oj b∨(Value.slice va j vc).ownBlock=some b) (HW.o.2.1.arena.keep hkz fun _ h=>h.elim) (HW.o.r6.1.eO hkz) (fun b hb=>.inr (.inl hb)) (HW.o.r7.1.keep hkz) (HW.o.2.1.jC.eO hkz) (h15.1.zat (by have:=hs22.2;omega)) (cV.raw h15.2.1 fun p hp=>by have:=hs22.1.parts p hp;omega) (h15.2.2.zat (by have:=hs22.1.k;omega)) (by have:=eU.len h15.2.1;have:=hs22.1.len;omega) (by have:=h15.2.2.len;have:=hs22.1.k;omega) HY2.o.2.2.2.1 (by have:=hs22.2;omega) HT.o.1.1.inv.sp0 HT.o.1.1.inv.spn HV.o.2.1 wR HT2.o.1.len HT2.o.1.two HY2.o.2.1;rw [HY2.o.r4] at hcl;exact hcl) ?_;clear hs22;rintro e wb hst;obtain ⟨he,O2,hwa2⟩:=HW.o.2.1.step hgm hbm (cO.walk (cO.after hkz hst) HW.o.2.1.map HW.o.r4.1 hbg);subst he;have H2:=jJ hwa2;have hd2:=HC.o.keep HS.o.r8.1 hwa2.keep HDK.o;obtain ⟨g0,g1,g2,g3⟩:=(HC.o.row wb hd2).mR;clear hwa2 hst hd2;skip
      refine mK ?_;clear hK K;refine aK 17 fun K hK=>?_;go_simp
      refine mK ?_;clear hK K;refine bV (rs:=[18,19]) zX zW ?_;refine (aZ.cons rfl (fun K hK=>?t8_18) (aZ.cons rfl (fun K hK=>?t8_19) aZ.nil))
      case t8_18=>
       go_simp
       refine mK ?_;clear hK K;refine bV (rs:=[19,20]) zX zW ?_;refine (aZ.cons rfl (fun K hK=>?t9_19) (aZ.cons rfl (fun K hK=>?t9_20) aZ.nil))
       case t9_19=>
        go_simp
        refine mK ?_;clear hK K;refine aK 20 fun K hK=>?_;go_simp
        refine mK ?_;clear hK K;refine aK 21 fun K hK=>?_;go_simp
        refine mK ?_;clear hK K;refine aR zX ?_ _;go_wp2_with (at_mapUpdate;go_loud (refine cZ _ rfl _ _ _ 86 rfl 3 3 underlying3 underlying86 underlying3 bm N0 t.came rfl H2.o.map zC x y rfl HX.o.2.2.1 hx0 hxN HQ.o.2.1 rfl HQ.o.1 ?_);intro w3 hm3 hk3;have H3:=jJ (aI hm3 hk3);clear hm3 hk3)
        go_ret2
        exact lT.mk' (r:=((y,er),⟨iL t.came x y,A2,sp2,ov2⟩)) (H2.o.note (t:=⟨iL t.came x y,A2,sp2,ov2⟩) hbm HS.o.r7.1 HS.o.r6.1 H3.o.2 H3.o.1 rfl rfl rfl).done HQ.o.2.2
       case t9_20=>
        go_simp
        refine mK ?_;clear hK K;refine aK 19 fun K hK=>?_;go_simp
        refine mK ?_;clear hK K;refine aK 21 fun K hK=>?_;go_simp
        refine mK ?_;clear hK K;refine aR zX ?_ _;go_wp2_with (at_mapUpdate;go_loud (refine cZ _ rfl _ _ _ 86 rfl 3 3 underlying3 underlying86 underlying3 bm N0 t.came rfl H2.o.map zC x y rfl HX.o.2.2.1 hx0 hxN HQ.o.2.1 rfl HQ.o.1 ?_);intro w3 hm3 hk3;have H3:=jJ (aI hm3 hk3);clear hm3 hk3)
        go_ret2
        exact lT.mk' (r:=((y,er),⟨iL t.came x y,A2,sp2,ov2⟩)) (H2.o.note (t:=⟨iL t.came x y,A2,sp2,ov2⟩) hbm HS.o.r7.1 HS.o.r6.1 H3.o.2 H3.o.1 rfl rfl rfl).done HQ.o.2.2
      case t8_19=>
       go_simp
       refine mK ?_;clear hK K;refine aK 18 fun K hK=>?_;go_simp
       refine mK ?_;clear hK K;refine aK 20 fun K hK=>?_;go_simp
       refine mK ?_;clear hK K;refine aK 21 fun K hK=>?_;go_simp
       refine mK ?_;clear hK K;refine aR zX ?_ _;go_wp2_with (at_mapUpdate;go_loud (refine cZ _ rfl _ _ _ 86 rfl 3 3 underlying3 underlying86 underlying3 bm N0 t.came rfl H2.o.map zC x y rfl HX.o.2.2.1 hx0 hxN HQ.o.2.1 rfl HQ.o.1 ?_);intro w3 hm3 hk3;have H3:=jJ (aI hm3 hk3);clear hm3 hk3)
       go_ret2
       exact lT.mk' (r:=((y,er),⟨iL t.came x y,A2,sp2,ov2⟩)) (H2.o.note (t:=⟨iL t.came x y,A2,sp2,ov2⟩) hbm HS.o.r7.1 HS.o.r6.1 H3.o.2 H3.o.1 rfl rfl rfl).done HQ.o.2.2
end
end Go.Proofs.Q
