/- What subst's node does: a formula gone through, atoms turned. -/
import Derived.Test.YtlldghknenbccaaGreatDoorPSubsB
import Derived.Test.YtlldghknenbccaaGreatDoorPPickB
set_option linter.unusedSimpArgs false
set_option linter.unusedVariables false
set_option maxRecDepth 100000
set_option maxHeartbeats 8000000
namespace Go.Proofs.Q
open Go.RowKit Tryz
section
variable {c:Int→Option Int} {x:Int} {E:TypeId} {w:World} {T:TurnF} {g f:Nat}
theorem aC.cells4 {a b c d:Value} (h:aC w g E [a,b,c,d]):w.cell? ⟨g,0,none⟩=some a∧w.cell? ⟨g,1,none⟩=some b∧w.cell? ⟨g,2,none⟩=some c∧w.cell? ⟨g,3,none⟩=some d:=⟨h.cell 0,h.cell 1,h.cell 2,h.cell 3⟩
def mapS (sk:Int→Bool) (s:WSt):WSt:=⟨cameS sk s.came,s.A,s.sp,s.ov⟩
theorem cameS_some {sk:Int→Bool} {y:Int} (h:c x=some y):cameS sk c x=some y:=by unfold cameS;rw [h]
theorem cameS_skip {sk:Int→Bool} (h:c x=none) (hs:sk x=true):cameS sk c x=some x:=by unfold cameS;rw [h];simp [hs]
theorem cameS_none {sk:Int→Bool} (h:c x=none) (hs:sk x=false):cameS sk c x=none:=by unfold cameS;rw [h];simp [hs]
theorem cameS_not {sk:Int→Bool} (h:cameS sk c x=none):c x=none:=by
 cases hc:c x with
 | none=>rfl
 | some y=>rw [cameS_some hc] at h;cases h
theorem walkM_turnS {sk:Int→Bool} {s t:WSt} {out:List Int} {q:(Int × Int) × aF × (Int × Int)} (h:cameS sk s.came x=none) (hr:cR (cI T f) (mapS sk s) [] (ndA s.A x).kids=((out,0),mapS sk t)) (hq:T t.A t.sp t.ov x out=q):cI T (f+1) (mapS sk s) x=(q.1,mapS sk ⟨putC t.came x q.1.1,q.2.1,q.2.2.1,q.2.2.2⟩):=by
 have h1:=walkM_turn (T:=T) (s:=mapS sk s) h hr;rw [show (mapS sk t).A=t.A from rfl,show (mapS sk t).sp=t.sp from rfl,show (mapS sk t).ov=t.ov from rfl,hq] at h1;rw [h1];unfold mapS;rw [cameS_put]
end
section
variable {V ids:List Int} {a:Option Addr} {nodes limbs:Int} {w:World} {B0 gm g n c:Nat} {O DS M0 M1:Nat→Prop} {D:World→Prop} {fa:bB→bB} {e:Ending} {A0:aF}
theorem sand_wide {A:aF} {sp ov:Int} (hA:bX O w g gm A) (hT:Tab B0 w) (hO:∀b,O b→M0 b) (hM0:MB M0 w) (hm:bK M0 w gm nodes limbs sp ov)
  (h:cB M1 w a n c ids) (hI:bW V nodes limbs A sp) (hn:nodes≤2000) (hl:limbs≤8) (hV:V.length≤262144) (hids:∀k∈ids,0≤k∧k<(A.nodes.length:Int)) (hbig:(flatL A.nodes 5 ids).length≤17592186044000) :
  Calls prog 63 #[.pointer (some ⟨g,0,none⟩),.slice a n c] w fun e w'=>cK O M0 w g gm nodes limbs (cV A nodes limbs sp ov 5 ids) e w':=by
 have hj:=sjoin_big (kind:=5) (ov:=ov) hA hT hO hM0 hm h hI hn hl hV hids hbig (by decide);have HJ:=jJ hj;clear hA hT hO hM0 hm h hI hn hl hV hids hbig hj;go_enter func63,ntmps63
 go_wp2_with (go_at_call 107;refine HJ.o.mono ?_;rintro e w1 ⟨rfl,hst⟩;have H1:=jJ hst;clear hst)
 go_ret2
 exact⟨rfl,H1.o⟩
theorem sor_wide {A:aF} {sp ov:Int} (hA:bX O w g gm A) (hT:Tab B0 w) (hO:∀b,O b→M0 b) (hM0:MB M0 w) (hm:bK M0 w gm nodes limbs sp ov)
  (h:cB M1 w a n c ids) (hI:bW V nodes limbs A sp) (hn:nodes≤2000) (hl:limbs≤8) (hV:V.length≤262144) (hids:∀k∈ids,0≤k∧k<(A.nodes.length:Int)) (hbig:(flatL A.nodes 6 ids).length≤17592186044000) :
  Calls prog 98 #[.pointer (some ⟨g,0,none⟩),.slice a n c] w fun e w'=>cK O M0 w g gm nodes limbs (cV A nodes limbs sp ov 6 ids) e w':=by
 have hj:=sjoin_big (kind:=6) (ov:=ov) hA hT hO hM0 hm h hI hn hl hV hids hbig (by decide);have HJ:=jJ hj;clear hA hT hO hM0 hm h hI hn hl hV hids hbig hj;go_enter func98,ntmps98
 go_wp2_with (go_at_call 107;refine HJ.o.mono ?_;rintro e w1 ⟨rfl,hst⟩;have H1:=jJ hst;clear hst)
 go_ret2
 exact⟨rfl,H1.o⟩
structure NodeC (B0 g gm bm gw sf tf N0:Nat) (scap tpre tpost:Array Value) (V:List Int) (nodes limbs:Int) (A0:aF) (D:World→Prop) (DS:Nat→Prop) (sk:Int→Bool) (f:bB→bB):Prop where
 keep:∀{w w':World} {X:Nat→Prop},D w→aA X w w'→(∀b,DS b→¬X b)→D w'
 row:∀W,D W→aC W gw 91 [.pointer (some ⟨g,0,none⟩),.func (.func sf) #[] scap,.func (.func tf) tpre tpost,.map (some bm)]
 sEnters:∀args w,(callFunc sf args).run prog w=.ok (.enter sf args) w
 tEnters:∀args w,(callFunc tf args).run prog w=.ok (.enter tf args) w
 skip:∀(W:World) (O:Nat→Prop) (A:aF) (x:Int),bX O W g gm A→ExtA A0 A→D W→0≤x→x<(N0:Int)→Calls prog sf (#[.int .i64 x]++scap) W fun e w'=>e=.returned (.bool (sk x))∧aA Nil W w'
 low:∀x,sk x=true→0≤x∧x<(N0:Int)
 turn:∀(W:World) (gd:Bool) (ad:Option Addr) (nd cd:Nat) (ap:Option Addr) (np cp:Nat) (gk:Bool) (ak:Option Addr) (nk ck:Nat) (X:bB),D W→AtomAt Nil W gd ad nd cd ap np cp gk ak nk ck X→bZ 8 262144 V X.t→nlen X.d.natAbs≤8→Neat X.t.parts→Calls prog tf (tpre++#[.agg #[.int .i64 X.kind,.bool gd,.slice ad nd cd,.slice ap np cp,.bool gk,.slice ak nk ck]]++tpost) W fun e w'=>Gives Nil (AV Nil (f X)) W e w'
 small:SmallF V f
 big:∀A sp ov x (ks:List Int),SubI V nodes limbs A0 A sp ov→0≤x→x<(N0:Int)→(∀k∈ks,RngR A k)→ks.length=(ndA A x).kids.length→(ndA A x).kind=5∨(ndA A x).kind=6→(flatL A.nodes (ndA A x).kind ks).length≤17592186044000
 n0:N0=A0.nodes.length
def NodeStep (O M:Nat→Prop) (w:World) (g gm bm N0:Nat) (nodes limbs:Int) (sk:Int→Bool) (q:(Int × Int) × WSt) (e:Ending) (w':World):Prop:=∃r,WStep O M w g gm bm N0 nodes limbs r e w'∧q=(r.1,mapS sk r.2)
theorem NodeStep.mk' {M:Nat→Prop} {w':World} {bm N0:Nat} {sk:Int→Bool} {q r:(Int × Int) × WSt} (h:WStep O M w g gm bm N0 nodes limbs r e w') (hq:q=(r.1,mapS sk r.2)):NodeStep O M w g gm bm N0 nodes limbs sk q e w':=⟨r,h,hq⟩
theorem node_any {bm gw sf tf N0:Nat} {scap tpre tpost:Array Value} {sk:Int→Bool} (hC:NodeC B0 g gm bm gw sf tf N0 scap tpre tpost V nodes limbs A0 D DS sk fa) (hl0:0≤limbs) (hn:nodes≤2000) (hl:limbs≤8) (hV:V.length≤262144) (hV2:∀v∈V,I64 v) (hDSg:∀b,DS b→b≠gm∧b≠bm) (hbg:bm≠gm) (hN0:N0≤1000000) :
  ∀(f:Nat) (x:Int),x.toNat<f→0≤x→x<(N0:Int)→∀(W:World) (O M:Nat→Prop) (s:WSt),bX O W g gm s.A→Tab B0 W→(∀b,O b→M b)→MB M W→bK M W gm nodes limbs s.sp s.ov→OMap prog 3 3 W bm N0 s.came→M bm→¬O bm→D W→(∀b,DS b→¬O b∧b<W.heap.size)→WOk (SubI V nodes limbs A0) RngR (mapS sk s)→(∀b,O b∨b=gm∨b=bm→B0≤b) →
  Calls prog 48 #[.pointer (some ⟨gw,0,none⟩),.int .i64 x] W fun e w'=>NodeStep O M W g gm bm N0 nodes limbs sk (cI (cS fa nodes limbs) f (mapS sk s) x) e w':=by
 intro f;induction f with
 | zero=>intro x hx;omega
 | succ f ih=>
  intro x hxf hx0 hxN W O M s hA hTb hO hM hm hcm hbM hbO hD hDS hs hB0;have hT:=substT_ok (A0:=A0) hl0 hn hl hV hC.small;have hI:bW V nodes limbs s.A s.sp:=hs.1.1;have hX0:ExtA A0 s.A:=hs.1.2.2;have hN:N0≤s.A.nodes.length:=by rw [hC.n0];exact hX0.ext.len
  have hxn:x.toNat<s.A.nodes.length:=by omega
  have hFine:=hI.fine hn hl hV;have hr:=hC.row W hD;obtain ⟨d0,d1,d2,d3⟩:=hr.cells4;have ltw:=hr.lt;have hx64:I64' x:=⟨by omega,by omega⟩;have hskp:=hC.skip W O s.A x hA hX0 hD hx0 hxN;have HS:=jJ (aI12 hA hTb hO hM hm hcm hbM hbO hD hDS hs hB0);have HC:=jJ hC;have HIH:=jJ ih;have HX:=jJ (aI5 hFine hT hx64 hI hskp);have HV:=jJ (aI6 hl0 hn hl hV hV2 hDSg);have hsen:=hC.sEnters;have hten:=hC.tEnters;have heg:∀args w,(callFunc 48 args).run prog w=.ok (.enter 48 args) w:=enters_of func48 (by kernel_rfl) rfl;clear hA hTb hO hM hm hcm hbM hbO hD hDS hs hB0 hr hC ih hT hFine hx64 hI hX0 hskp hl0 hn hl hV hV2 hDSg;go_enter func48,ntmps48
  cases hcx:s.came x with
  | some y=>
   have HY:=jJ hcx;go_wp2_with (at_lookup;refine wpList_omap_look _ rfl _ _ 86 rfl 3 3 underlying3 underlying86 underlying3 (zeroValue3 _) bm N0 s.came rfl HS.o.r5.1 x rfl HX.o.2.2.1 ?_;intro c hc;rw [HY.o];obtain rfl:=hc y HY.o;clear hc)
   go_ret2
   exact NodeStep.mk' (r:=((_,0),s)) ⟨rfl,⟨O,HS.o.1,fun _ h=>h,fun _ h=>.inl h,HS.o.r4.1.move (aA.refl Nil W) (fun _ _ h=>h.elim) (fun b _ h=>h.elim id (HS.o.2.2.1 b)),HS.o.r5.1⟩,aA.refl _ _⟩ (walkM_there (cameS_some HY.o))
  | none=>
   have HY:=jJ hcx;clear hcx;go_upto_region 4 with (at_lookup;refine wpList_omap_look _ rfl _ _ 86 rfl 3 3 underlying3 underlying86 underlying3 (zeroValue3 _) bm N0 s.came rfl HS.o.r5.1 x rfl HX.o.2.2.1 ?_;intro c hc;rw [HY.o];clear hc)
   cases hsk:sk x with
   | true=>
    have HK:=jJ hsk;clear hsk;go_wp2_with (refine HX.o.r4.mono ?_;rintro e w1 ⟨rfl,hk1⟩;rw [HK.o])
    go_ret2
    exact NodeStep.mk' (r:=((x,0),s)) ⟨rfl,⟨O,HS.o.1.keep hk1 fun _ h=>h.elim,fun _ h=>h,fun _ h=>.inl h,(HS.o.r4.1.keepNil hk1).move (aA.refl Nil _) (fun _ _ h=>h.elim) (fun b _ h=>h.elim id (HS.o.2.2.1 b)),HS.o.r5.1.keep hk1 id⟩,hk1.of_nil⟩ (walkM_there (cameS_skip HY.o HK.o))
   | false=>
    have HK:=jJ (aI hsk (cameS_none HY.o hsk));clear hsk;have hx1:(((x.toNat:Nat)):Int)=x:=by omega
    go_upto_region 6 with (refine HX.o.r4.mono ?_;rintro e w1 ⟨rfl,hk1⟩;rw [HK.o.1];have H1:=jJ hk1;clear hk1)
    obtain ⟨e0,e1,e2,e3⟩:=((HC.o.row W HS.o.r8.1).keep H1.o id).cells4;have ltw1:=cZ1 ltw H1.o.size;have hcall:=anode_any (HS.o.1.keep H1.o fun _ h=>h.elim) hxn HX.o.1.len (HX.o.1.sound _ hxn).size;rw [hx1] at hcall;obtain ⟨N,hN'⟩:∃N,ndA s.A x=N:=⟨_,rfl⟩;rw [show s.A.nodes.getD x.toNat aV=N from hN'] at hcall;have HN:=jJ (aI hcall hN');clear hcall hN';go_upto_region 7 with (go_at_call 23;refine HN.o.1.mono ?_;rintro e wn ⟨gd,ad,nd,cd,ap,np,cp,gk,ak,nk,ck,aq,nq,cq,els,rfl,hn,-,-,hkn⟩;have HNN:=jJ (aI hn (H1.o.trans hkn));clear hn hkn)
    have rp:=aC.alloc (w:=wn) (E:=59) (xs:=[.int .i64 N.kind,.bool gd,.slice ad nd cd,.slice ap np cp,.bool gk,.slice ak nk ck,.int .i64 N.var,.slice aq nq cq]);change aC (wn.alloc (.cells #[.int .i64 N.kind,.bool gd,.slice ad nd cd,.slice ap np cp,.bool gk,.slice ak nk ck,.int .i64 N.var,.slice aq nq cq] 59)) _ _ _ at rp;have kb:aA Nil wn (wn.alloc (.cells #[.int .i64 N.kind,.bool gd,.slice ad nd cd,.slice ap np cp,.bool gk,.slice ak nk ck,.int .i64 N.var,.slice aq nq cq] 59)):=kOf;generalize wn.alloc (.cells #[.int .i64 N.kind,.bool gd,.slice ad nd cd,.slice ap np cp,.bool gk,.slice ak nk ck,.int .i64 N.var,.slice aq nq cq] 59)=wb at *
    have hpbn:W.heap.size≤wn.heap.size:=HNN.o.2.size;obtain ⟨pb,hpb⟩:∃b,wn.heap.size=b:=⟨_,rfl⟩;rw [hpb] at rp hpbn⊢;have krb:=HNN.o.2.trans kb;have hgm:gm<W.heap.size:=HS.o.r4.1.lt;have hbm:bm<W.heap.size:=HS.o.r5.1.lt;have hstart:WalkAt O M W g gm bm pb N0 nodes limbs [.int .i64 N.kind,.bool gd,.slice ad nd cd,.slice ap np cp,.bool gk,.slice ak nk ck,.int .i64 N.var,.slice aq nq cq] N O s (.slice none 0 0) [] wb:=
     ⟨aL.nil _ _ _ _,(fun b h=>by cases h),HS.o.1.keep krb fun _ h=>h.elim,fun _ h=>h,fun _ h=>.inl h,HS.o.r4.1.move krb (fun _ _ h=>h.elim) (fun b _ h=>by rcases h with h|h|h;exact h;exact HS.o.2.2.1 b h;cases h),HS.o.r5.1.keep krb id,rp,hpbn,(fun h=>by have:=HS.o.1.lt pb h;omega),(fun h=>by cases h),⟨_,_,_,_,_,_,_,_,_,_,_,_,_,_,rfl,HNN.o.1.move kb (fun _ _ h=>h.elim) (fun b _ h=>by have h9:=H1.o.size;rcases h with h|h|h;exact cZ1 h h9;exact cZ1 (HS.o.1.lt b h) h9;cases h)⟩,krb.of_nil⟩
    obtain ⟨d10,d11,d12,d13,d14,d15,d16,d17⟩:=rp.cells8;have hkl:N.kids.length=nq:=SlOf.len HNN.o.1.kids;have HP:=jJ (aI3 hstart hkl krb);have hdk:∀Oj:Nat→Prop,(∀b,Oj b→O b∨W.heap.size≤b)→∀b,DS b→¬Oj b∧b<W.heap.size:=fun Oj ho b hb=>⟨fun h=>by rcases ho b h with h2|h2;exact (HS.o.r9.1 b hb).1 h2;have:=(HS.o.r9.1 b hb).2;omega,(HS.o.r9.1 b hb).2⟩;have hdk2:∀b,DS b→¬(O b∨b=gm∨b=bm):=fun b hb h=>by
     rcases h with h|h|h
     ·exact (HS.o.r9.1 b hb).1 h
     ·exact (HV.o.r5 b hb).1 h
     ·exact (HV.o.r5 b hb).2 h
    have HDK:=jJ hdk2;have HDO:=jJ hdk;clear hstart krb kb rp hpb hpbn hkl hdk hdk2;obtain ⟨i1,hi1⟩:=info_parts info_int;have HI1:=jJ hi1;clear hi1;go_wp2_with fail
    go_loopg [10,45] nq (fun g1 v iv wr=>∃(j:Nat) (va:Option Addr) (vc:Nat) (Oj:Nat→Prop) (t:WSt) (out:List Int),j+g1=nq∧iv=.int .i64 (j:Int)∧v=.slice va j vc∧cR (cI (cS fa nodes limbs) f) (mapS sk s) [] (N.kids.take j)=((out,0),mapS sk t)∧WalkAt O M W g gm bm pb N0 nodes limbs [.int .i64 N.kind,.bool gd,.slice ad nd cd,.slice ap np cp,.bool gk,.slice ak nk ck,.int .i64 N.var,.slice aq nq cq] N Oj t (.slice va j vc) out wr)
    case atStart=>exact⟨0,none,0,O,s,[],by omega,rfl,rfl,rfl,HP.o.1⟩
    case round=>
     obtain ⟨j,va,vc,Oj,t,out,hjg,rfl,rfl,hkm,hwa⟩:=hrel;have hx2:x<(s.A.nodes.length:Int):=by omega
     have hjn:j≤(ndA s.A x).kids.length:=by rw [HN.o.2,HP.o.2.1];omega
     have hplain:=kids_walk (s:=mapS sk s) (t:=mapS sk t) HX.o.2.1 HS.o.r10.1 hxf hx0 hx2 hjn (by rw [show ndA (mapS sk s).A x=N from HN.o.2];exact hkm);have hno:¬Oj bm:=hwa.noMap hbm HS.o.r7.1;have hB0j:∀b,Oj b∨b=gm∨b=bm→B0≤b:=fun b hb=>by
      rcases hb with hb|hb
      ·rcases hwa.down b hb with h2|h2
       ·exact HS.o.r11 b (.inl h2)
       ·have:=HS.o.2.1.1;omega
      ·exact HS.o.r11 b (.inr hb)
     have htab:Tab B0 wr:=HS.o.2.1.keep hwa.keep HS.o.r11;have hMB:MB (fun b=>M b∨Oj b∨(Value.slice va j vc).ownBlock=some b) wr:=fun b hb=>by
      rcases hb with hb|hb|hb
      ·exact cZ1 (HS.o.2.2.2.1 b hb) hwa.keep.size
      ·exact hwa.arena.lt b hb
      ·exact (hwa.own.lt b hb).2
     have hDr:D wr:=HC.o.keep HS.o.r8.1 hwa.keep HDK.o;have hrow:=HC.o.row wr hDr;obtain ⟨e0,e1,e2,e3⟩:=hrow.cells4;have hws:W.heap.size≤wr.heap.size:=hwa.keep.size;have hDSr:∀b,DS b→¬Oj b∧b<wr.heap.size:=fun b hb=>⟨(HDO.o Oj hwa.down b hb).1,cZ1 (HDO.o Oj hwa.down b hb).2 hws⟩;have ltwr:=cZ1 ltw hws;have HW:=jJ (aI10 hkm hwa hplain hDr hno hB0j htab hMB hDSr hrow);clear hkm hwa hplain hDr hno hB0j htab hMB hDSr hrow;cases gk with
     | succ g1=>
      have hlt:j<nq:=by omega
      have j0:(0:Int)≤(j:Int):=by omega
      have j1:(j:Int)<(nq:Int):=by omega
      have hnode:=HW.o.2.1.node;obtain ⟨_,_,_,_,_,_,_,_,_,_,_,_,_,_,hcs,hnat⟩:=hnode;cases hcs;obtain ⟨b,off,hae,ck⟩:=aZ hnat.kids hlt;subst hae;have hlN:j<N.kids.length:=by rw [HP.o.2.1];exact hlt
      have htk:=takeI_snoc hlN;have hkm:=HX.o.1.below.kid hx0 (by omega) (show N.kids.getD j 0∈(s.A.nodes.getD x.toNat aV).kids by rw [show s.A.nodes.getD x.toNat aV=N from HN.o.2];exact cU 0 hlN);generalize N.kids.getD j 0=k at *
      have hcall:=HIH.o k (by omega) hkm.1 (by omega) wr Oj (fun b=>M b∨Oj b∨(Value.slice va j vc).ownBlock=some b) t HW.o.2.1.arena HW.o.r6.1 (fun b hb=>.inr (.inl hb)) HW.o.r7.1 HW.o.2.1.meter HW.o.2.1.map (.inl HS.o.r6.1) HW.o.r4.1 HW.o.2.2.2.1 HW.o.r8.1 HW.o.2.2.1.1 HW.o.r5.1;have hsn:=kidsM_snoc (cI (cS fa nodes limbs) f) k (N.kids.take j) (mapS sk s) [] (congrArg (fun q=>q.1.2) HW.o.1);rw [HW.o.1,←htk] at hsn;have hjb:j≤1000000000:=by have h1:=(HX.o.1.sound _ hxn).size.kids;rw [show s.A.nodes.getD x.toNat aV=N from HN.o.2,HP.o.2.1] at h1;omega
      have hol:=HW.o.2.2.1.2.2.2.1;have HKK:=jJ (aI3 hcall hsn htk);clear hcall hsn htk hnat hkm hlN;go_upto_region 12 with (go_at_call 48;refine HKK.o.1.mono ?_;rintro e w2 ⟨⟨⟨y,er⟩,t2⟩,hst,hwm⟩;obtain ⟨he,O2,hwa2⟩:=HW.o.2.1.step hgm hbm hst;subst he;have H2:=jJ (aI hwa2 hwm);have hws2:=hwa2.keep.size;clear hwa2 hst hwm)
      have hsn2:=HKK.o.2.1;rw [H2.o.2] at hsn2;by_cases he:er=0
      ·subst he;simp only [if_pos] at hsn2;have HS2:=jJ hsn2;clear hsn2;go_wp2_with (at_builtin;go_loud (refine cC _ rfl (.tmp 58) (.tmp 60) 56 rfl W.heap.size 3 i1 (.int .i64 0) 1 8 underlying56 HI1.o.1 HI1.o.2.1 HI1.o.2.2.1 HI1.o.2.2.2 rfl (by decide) (.slice va j vc) _ rfl (H2.o.1.own.keepNil kOf) ⟨w2.heap.size,0,none⟩ 1 1 [[.int .i64 y]] rfl rfl (by simp) (alloc_news _ _ _) (by simp [Value.oneCell']) (by rw [aJ];omega) (by rw [aJ];omega) (by simp;omega) ?_);intro v' w3 ho hk2 hf2 _;obtain ⟨a7,c7,rfl⟩:=ho.isSlice;have e7:(aM out++[[Value.int .i64 y]]).length=j+1:=(by rw [aZ1,aJ,hol];rfl);rw [e7] at ho hf2⊢;rw [←cells1_snoc] at ho;clear e7;have HO:=jJ (aI3 ho hk2 hf2);clear ho hk2 hf2)
       go_roundg g1
       case measure=>omega
       case rel=>exact⟨j+1,a7,c7,O2,t2,out++[y],by omega,by go_num,rfl,HS2.o,H2.o.1.push hgm hbm HS.o.r7.1 ((aA.refl Nil w2).alloc _) HO.o.1 HO.o.2.1 HO.o.2.2⟩
      ·have hkall:cR (cI (cS fa nodes limbs) f) (mapS sk s) [] N.kids=((out,er),mapS sk t2):=by
        have h1:=hsn2;rw [if_neg he] at h1;have h2:=kidsM_stop (cI (cS fa nodes limbs) f) (N.kids.take (j+1)) (mapS sk s) [] (N.kids.drop (j+1)) (by rw [h1];exact he);rw [aZ3,h1] at h2;exact h2
       have HKA:=jJ hkall;clear hkall hsn2;go_wp2_with fail
       go_ret2
       exact NodeStep.mk' (r:=((0,er),t2)) H2.o.1.done (walkM_err (s:=mapS sk s) (r:=((out,er),mapS sk t2)) HK.o.2 (by rw [show ndA (mapS sk s).A x=N from HN.o.2];exact HKA.o) he)
     | zero=>
      obtain rfl:j=nq:=by omega
      have hkall:cR (cI (cS fa nodes limbs) f) (mapS sk s) [] (ndA s.A x).kids=((out,0),mapS sk t):=by
       rw [HN.o.2];have h1:=HW.o.1;rw [eZ1 (by rw [HP.o.2.1];omega)] at h1;exact h1
      have hext:Ext s.A t.A:=HW.o.2.2.1.2.1;have hxt:x<(t.A.nodes.length:Int):=by have:=hext.len;omega
      have hnd:ndA t.A x=N:=(hext.nd hx0 (by omega)).trans HN.o.2;have hol:out.length=j:=HW.o.2.2.1.2.2.2.1;have hSI:SubI V nodes limbs A0 t.A t.sp t.ov:=HW.o.2.2.1.1.1;have hRk:∀o∈out,RngR t.A o:=HW.o.2.2.1.2.2.1;have hlen:out.length=(ndA t.A x).kids.length:=by rw [hnd,hol,HP.o.2.1]
      have hnone:t.came x=none:=cameS_not (by have h1:=HW.o.2.2.1.r4 x (Int.le_refl _);exact h1.trans HK.o.2);obtain ⟨p1,p2,p3⟩:=HX.o.2.1.step (x:=x) (ks:=out) hSI hx0 hxt hRk hlen;have herr:=substT_err0 (f:=fa) (nodes:=nodes) (limbs:=limbs) (sp:=t.sp) (ov:=t.ov) (x:=x) (A:=t.A) (ks:=out);obtain ⟨q,hq⟩:∃q,cS fa nodes limbs t.A t.sp t.ov x out=q:=⟨_,rfl⟩;have hres:=walkM_turnS (T:=cS fa nodes limbs) HK.o.2 hkall hq;rw [hq] at p1 p2 p3 herr;obtain ⟨⟨y,er⟩,A2,sp2,ov2⟩:=q;have hy64:I64' y:=by
       by_cases he:er=0
       ·have h1:=p3 he;have h2:=(bW.fine p1.1 HV.o.2.1 HV.o.2.2.1 HV.o.2.2.2.1).len;simp only at h1 h2;exact⟨by have:=h1.1;omega,by have:=h1.2;omega⟩
       ·have h1:y=0:=herr he;exact⟨by omega,by omega⟩
      have HQ:=jJ (aI3 hy64 hnone hres);have HT:=jJ (aI5 hSI hRk hlen hnd hol);have hkinds:=hSI.1.kinds hx0 hxt;have hone:=hSI.1.one hx0 hxt;have hsm:=hSI.1.small HV.o.2.2.1 HV.o.2.2.2.1 hx0 hxt;rw [hnd] at hkinds hone hsm;have hnode:=HW.o.2.1.node;obtain ⟨_,_,_,_,_,_,_,_,_,_,_,_,_,_,hcs,hnat⟩:=hnode;cases hcs;have hnat2:=hnat.move (M2:=Nil) (aA.refl Nil wr) (fun _ _ h=>h.elim) (fun _ _ h=>h.elim);have HT2:=jJ (aI4 (bW.fine hSI.1 HV.o.2.1 HV.o.2.2.1 HV.o.2.2.2.1) hone hsm hnat2);obtain ⟨f10,f11,f12,f13,f14,f15,f16,f17⟩:=HW.o.2.1.box.cells8;clear hkall hext hxt hnd hol hSI hRk hlen hnone p1 p2 p3 herr hres hy64 hone hsm hnat hnat2;by_cases hK:N.kind=5
      ·have hbig:=HC.o.big t.A t.sp t.ov x out HT.o.1 hx0 hxN HT.o.2.1 HT.o.2.2.1 (by rw [HT.o.2.2.2.1];omega);rw [HT.o.2.2.2.1,hK] at hbig;have hj:=sand_wide (ov:=t.ov) HW.o.2.1.arena HW.o.r6.1 (fun b hb=>.inr (.inl hb)) HW.o.r7.1 HW.o.2.1.meter (eB HW.o.2.1.own (fun _ _ h=>h) HT.o.r4) HT.o.1.1 HV.o.2.1 HV.o.2.2.1 HV.o.2.2.2.1 HT.o.2.1 hbig;have hqe:cV t.A nodes limbs t.sp t.ov 5 out=((y,er),A2,sp2,ov2):=by rw [←hq];unfold cS;rw [HT.o.2.2.2.1,if_pos (by omega),hK]
       rw [hqe] at hj;have HJ:=jJ hj;rw [hK] at f10;clear hj hqe hbig hK hq;go_wp2_with (first|(go_at_call 63;refine HJ.o.mono ?_;rintro e w2 hst;obtain ⟨he,O2,hwa2⟩:=HW.o.2.1.step hgm hbm (cK.walk (hst) HW.o.2.1.map HW.o.r4.1 hbg);subst he;have H2:=jJ hwa2;have hd2:=HC.o.keep HS.o.r8.1 hwa2.keep HDK.o;obtain ⟨g0,g1,g2,g3⟩:=(HC.o.row w2 hd2).cells4;clear hwa2 hst hd2)|(at_mapUpdate;go_loud (refine cM _ rfl _ _ _ 86 rfl 3 3 underlying3 underlying86 underlying3 bm N0 t.came rfl H2.o.map (by unfold maxLen;omega) x y rfl HX.o.2.2.1 hx0 hxN HQ.o.2.1 rfl HQ.o.1 ?_);intro w3 hm3 hk3;have H3:=jJ (aI hm3 hk3);clear hm3 hk3))
       go_ret2
       exact NodeStep.mk' (r:=((y,er),⟨putC t.came x y,A2,sp2,ov2⟩)) (H2.o.note (t:=⟨putC t.came x y,A2,sp2,ov2⟩) hbm HS.o.r7.1 HS.o.r6.1 H3.o.2 H3.o.1 rfl rfl rfl).done HQ.o.2.2
      have b5:=hK;clear hK;by_cases hK:N.kind=6
      ·have hbig:=HC.o.big t.A t.sp t.ov x out HT.o.1 hx0 hxN HT.o.2.1 HT.o.2.2.1 (by rw [HT.o.2.2.2.1];omega);rw [HT.o.2.2.2.1,hK] at hbig;have hj:=sor_wide (ov:=t.ov) HW.o.2.1.arena HW.o.r6.1 (fun b hb=>.inr (.inl hb)) HW.o.r7.1 HW.o.2.1.meter (eB HW.o.2.1.own (fun _ _ h=>h) HT.o.r4) HT.o.1.1 HV.o.2.1 HV.o.2.2.1 HV.o.2.2.2.1 HT.o.2.1 hbig;have hqe:cV t.A nodes limbs t.sp t.ov 6 out=((y,er),A2,sp2,ov2):=by rw [←hq];unfold cS;rw [HT.o.2.2.2.1,if_pos (by omega),hK]
       rw [hqe] at hj;have HJ:=jJ hj;rw [hK] at f10;clear hj hqe hbig hK hq;go_wp2_with (first|(go_at_call 98;refine HJ.o.mono ?_;rintro e w2 hst;obtain ⟨he,O2,hwa2⟩:=HW.o.2.1.step hgm hbm (cK.walk (hst) HW.o.2.1.map HW.o.r4.1 hbg);subst he;have H2:=jJ hwa2;have hd2:=HC.o.keep HS.o.r8.1 hwa2.keep HDK.o;obtain ⟨g0,g1,g2,g3⟩:=(HC.o.row w2 hd2).cells4;clear hwa2 hst hd2)|(at_mapUpdate;go_loud (refine cM _ rfl _ _ _ 86 rfl 3 3 underlying3 underlying86 underlying3 bm N0 t.came rfl H2.o.map (by unfold maxLen;omega) x y rfl HX.o.2.2.1 hx0 hxN HQ.o.2.1 rfl HQ.o.1 ?_);intro w3 hm3 hk3;have H3:=jJ (aI hm3 hk3);clear hm3 hk3))
       go_ret2
       exact NodeStep.mk' (r:=((y,er),⟨putC t.came x y,A2,sp2,ov2⟩)) (H2.o.note (t:=⟨putC t.came x y,A2,sp2,ov2⟩) hbm HS.o.r7.1 HS.o.r6.1 H3.o.2 H3.o.1 rfl rfl rfl).done HQ.o.2.2
      have b6:=hK;clear hK;by_cases hK:N.kind=7
      ·obtain ⟨q1,q2⟩:=HT2.o.2.1 (by omega);have hn1:j=1:=by have h2:=HP.o.2.1;omega
       subst hn1;obtain ⟨kk,hk⟩:∃kk,out.getD 0 0=kk:=⟨_,rfl⟩;have hno:=eB (M:=Nil) HW.o.2.1.own (fun _ _ h=>h.elim) HT.o.r4;obtain ⟨bq,oq,rfl,cq0⟩:=aZ hno (i:=0) (by omega);rw [hk] at cq0;have hbq:bq<wr.heap.size:=by
        obtain ⟨b',off',cs',e,hb',_⟩:=SlOf.at hno (i:=0) (by omega);cases e;exact hb'
       have hkr:=HT.o.2.1 kk (by rw [←hk];exact cU 0 (by rw [HT.o.r4];omega));have hroom:=roomK (kind:=7) (v:=N.var) (ks:=[kk]) HT.o.1.1.inv HV.o.2.1 HV.o.2.2.2.1 (by omega) (by omega) (fun h=>by omega) (List.pairwise_singleton _ _) (fun y hy=>by rw [dZ1.1 hy];exact hkr);have hb:=fun (W':World) (q:aA Nil wr W')=>abind_any (kind:=7) (v:=N.var) (k:=kk) (ov:=t.ov) (M0:=fun b=>M b∨Oj b∨(Value.slice (some ⟨bq,oq,none⟩) 1 vc).ownBlock=some b) (HW.o.2.1.arena.keep q fun _ h=>h.elim) (HW.o.r6.1.keepNil q) (fun b hb=>.inr (.inl hb)) (HW.o.r7.1.keep q) (HW.o.2.1.meter.keepNil q) q2 HT.o.1.1.inv.sp0 HT.o.1.1.inv.spn HV.o.2.1 (by have:=HT.o.1.1.inv.cnt;have:=HT.o.1.1.inv.spn;have:=HV.o.2.1;omega) HT2.o.1.len HT2.o.1.two hroom;have hqe:dR t.A nodes limbs t.sp t.ov 7 N.var kk=((y,er),A2,sp2,ov2):=by rw [←hq];unfold cS;rw [HT.o.2.2.2.1,if_neg (by omega),if_pos (by omega),hK,hk]
       rw [hqe] at hb;have HB:=jJ hb;simp only [Nat.mul_zero,Nat.zero_mul,Nat.add_zero] at cq0;have HCQ:=jJ cq0;have H7:=jJ hK;rw [hK] at f10;clear hb hroom hqe hK hk q1 q2 cq0 hkr hno hq;go_upto_region 24 with (fail)
       refine aX 17 [11,12,13,14,15,16] [111,112,113,114,115,116,117,118,119,120,121,122,110,123,124,4,5] [111,112,113,114,115,116,117,118,119,120,121] [Un (LitV ?v1_0),Un (LitV ?v1_1),Un (LitV ?v1_2),Un (LitV ?v1_3),Un (LitV ?v1_4),Un (LitV ?v1_5),Un (LitV ?v1_6),Un (LitV ?v1_7),Un (LitV ?v1_8),Un (LitV ?v1_9),Un (LitV ?v1_10),nothing,nothing,nothing,nothing,nothing,nothing] (aB.sk (aB.sk (aB.sk (aB.sk (aB.sk (aB.sk (aB.nx ?r1_10 (aB.nx ?r1_9 (aB.nx ?r1_8 (aB.nx ?r1_7 (aB.nx ?r1_6 (aB.nx ?r1_5 (aB.nx ?r1_4 (aB.nx ?r1_3 (aB.nx ?r1_2 (aB.nx ?r1_1 (aB.nx ?r1_0 aB.zero))))))))))))))))) ?rfn1
       case' r1_0|r1_1|r1_2|r1_3|r1_4|r1_5|r1_6|r1_7|r1_8|r1_9|r1_10=>
        intro us wj hk hp K hK;try simp only [aO,Act.put,sL] at hK⊢
        obtain ⟨m0,m1,m2,m3⟩:=(HW.o.r9.keep hk id).cells4;obtain ⟨n0,n1,n2,n3,n4,n5,n6,n7⟩:=(HW.o.2.1.box.keep hk id).cells8;rw [H7.o] at n0;have hq0:=hk.cellE hbq id HCQ.o;have lq:=cZ1 hbq hk.size
       case' r1_0|r1_4|r1_6|r1_8=>
        go_simp
        refine hK.out _ _ (aA.refl _ _) ?_;exact rfl
       case' r1_1=>
        have e0:us 111=_:=hp 0;rw [e0] at hK⊢;go_simp
        refine hK.out _ _ (aA.refl _ _) ?_;exact rfl
       case' r1_2=>
        have e1:us 112=_:=hp 1;rw [e1] at hK⊢;go_simp
        refine hK.out _ _ (aA.refl _ _) ?_;exact rfl
       case' r1_3=>
        have e2:us 113=_:=hp 2;rw [e2] at hK⊢;go_simp
        refine hK.out _ _ (aA.refl _ _) ?_;exact rfl
       case' r1_5=>
        have e4:us 115=_:=hp 4;rw [e4] at hK⊢;go_simp
        refine hK.out _ _ (aA.refl _ _) ?_;exact rfl
       case' r1_7=>
        have e6:us 117=_:=hp 6;rw [e6] at hK⊢;go_simp
        refine hK.out _ _ (aA.refl _ _) ?_;exact rfl
       case' r1_9=>
        have e8:us 119=_:=hp 8;rw [e8] at hK⊢;go_simp
        refine hK.out _ _ (aA.refl _ _) ?_;exact rfl
       case' r1_10=>
        have e9:us 120=_:=hp 9;rw [e9] at hK⊢;go_simp
        refine hK.out _ _ (aA.refl _ _) ?_;exact rfl
       case' rfn1=>
       intro us wz hkz hf;simp only [aO,Act.put,sL];have e0:us 111=_:=hf 0;have e1:us 112=_:=hf 1;have e2:us 113=_:=hf 2;have e3:us 114=_:=hf 3;have e4:us 115=_:=hf 4;have e5:us 116=_:=hf 5;have e6:us 117=_:=hf 6;have e7:us 118=_:=hf 7;have e8:us 119=_:=hf 8;have e9:us 120=_:=hf 9;have e10:us 121=_:=hf 10;clear hf;simp only [e0,e1,e2,e3,e4,e5,e6,e7,e8,e9,e10];clear e0 e1 e2 e3 e4 e5 e6 e7 e8 e9 e10 us;refine aK 11 fun K hK=>?_;go_simp
       refine (HB.o wz hkz).mono ?_;rintro e wb hst;obtain ⟨he,O2,hwa2⟩:=HW.o.2.1.step hgm hbm (cK.walk (cK.after hkz hst) HW.o.2.1.map HW.o.r4.1 hbg);subst he;have H2:=jJ hwa2;have hd2:=HC.o.keep HS.o.r8.1 hwa2.keep HDK.o;obtain ⟨g0,g1,g2,g3⟩:=(HC.o.row wb hd2).cells4;clear hwa2 hst hd2;skip
       refine mK ?_;clear hK K;refine aK 12 fun K hK=>?_;go_simp
       refine mK ?_;clear hK K;refine bS (rs:=[13,14]) (by kernel_rfl) (by simp) ?_;refine (aY.cons rfl (fun K hK=>?t2_13) (aY.cons rfl (fun K hK=>?t2_14) aY.nil))
       case t2_13=>
        go_simp
        refine mK ?_;clear hK K;refine bS (rs:=[14,15]) (by kernel_rfl) (by simp) ?_;refine (aY.cons rfl (fun K hK=>?t3_14) (aY.cons rfl (fun K hK=>?t3_15) aY.nil))
        case t3_14=>
         go_simp
         refine mK ?_;clear hK K;refine aK 15 fun K hK=>?_;go_simp
         refine mK ?_;clear hK K;refine aK 16 fun K hK=>?_;go_simp
         refine mK ?_;clear hK K;refine aP (by kernel_rfl) ?_ _;go_wp2_with (at_mapUpdate;go_loud (refine cM _ rfl _ _ _ 86 rfl 3 3 underlying3 underlying86 underlying3 bm N0 t.came rfl H2.o.map (by unfold maxLen;omega) x y rfl HX.o.2.2.1 hx0 hxN HQ.o.2.1 rfl HQ.o.1 ?_);intro w3 hm3 hk3;have H3:=jJ (aI hm3 hk3);clear hm3 hk3)
         go_ret2
         exact NodeStep.mk' (r:=((y,er),⟨putC t.came x y,A2,sp2,ov2⟩)) (H2.o.note (t:=⟨putC t.came x y,A2,sp2,ov2⟩) hbm HS.o.r7.1 HS.o.r6.1 H3.o.2 H3.o.1 rfl rfl rfl).done HQ.o.2.2
        case t3_15=>
         go_simp
         refine mK ?_;clear hK K;refine aK 14 fun K hK=>?_;go_simp
         refine mK ?_;clear hK K;refine aK 16 fun K hK=>?_;go_simp
         refine mK ?_;clear hK K;refine aP (by kernel_rfl) ?_ _;go_wp2_with (at_mapUpdate;go_loud (refine cM _ rfl _ _ _ 86 rfl 3 3 underlying3 underlying86 underlying3 bm N0 t.came rfl H2.o.map (by unfold maxLen;omega) x y rfl HX.o.2.2.1 hx0 hxN HQ.o.2.1 rfl HQ.o.1 ?_);intro w3 hm3 hk3;have H3:=jJ (aI hm3 hk3);clear hm3 hk3)
         go_ret2
         exact NodeStep.mk' (r:=((y,er),⟨putC t.came x y,A2,sp2,ov2⟩)) (H2.o.note (t:=⟨putC t.came x y,A2,sp2,ov2⟩) hbm HS.o.r7.1 HS.o.r6.1 H3.o.2 H3.o.1 rfl rfl rfl).done HQ.o.2.2
       case t2_14=>
        go_simp
        refine mK ?_;clear hK K;refine aK 13 fun K hK=>?_;go_simp
        refine mK ?_;clear hK K;refine aK 15 fun K hK=>?_;go_simp
        refine mK ?_;clear hK K;refine aK 16 fun K hK=>?_;go_simp
        refine mK ?_;clear hK K;refine aP (by kernel_rfl) ?_ _;go_wp2_with (at_mapUpdate;go_loud (refine cM _ rfl _ _ _ 86 rfl 3 3 underlying3 underlying86 underlying3 bm N0 t.came rfl H2.o.map (by unfold maxLen;omega) x y rfl HX.o.2.2.1 hx0 hxN HQ.o.2.1 rfl HQ.o.1 ?_);intro w3 hm3 hk3;have H3:=jJ (aI hm3 hk3);clear hm3 hk3)
        go_ret2
        exact NodeStep.mk' (r:=((y,er),⟨putC t.came x y,A2,sp2,ov2⟩)) (H2.o.note (t:=⟨putC t.came x y,A2,sp2,ov2⟩) hbm HS.o.r7.1 HS.o.r6.1 H3.o.2 H3.o.1 rfl rfl rfl).done HQ.o.2.2
      have b7:=hK;clear hK;by_cases hK:N.kind=8
      ·obtain ⟨q1,q2⟩:=HT2.o.2.1 (by omega);have hn1:j=1:=by have h2:=HP.o.2.1;omega
       subst hn1;obtain ⟨kk,hk⟩:∃kk,out.getD 0 0=kk:=⟨_,rfl⟩;have hno:=eB (M:=Nil) HW.o.2.1.own (fun _ _ h=>h.elim) HT.o.r4;obtain ⟨bq,oq,rfl,cq0⟩:=aZ hno (i:=0) (by omega);rw [hk] at cq0;have hbq:bq<wr.heap.size:=by
        obtain ⟨b',off',cs',e,hb',_⟩:=SlOf.at hno (i:=0) (by omega);cases e;exact hb'
       have hkr:=HT.o.2.1 kk (by rw [←hk];exact cU 0 (by rw [HT.o.r4];omega));have hroom:=roomK (kind:=8) (v:=N.var) (ks:=[kk]) HT.o.1.1.inv HV.o.2.1 HV.o.2.2.2.1 (by omega) (by omega) (fun h=>by omega) (List.pairwise_singleton _ _) (fun y hy=>by rw [dZ1.1 hy];exact hkr);have hb:=fun (W':World) (q:aA Nil wr W')=>abind_any (kind:=8) (v:=N.var) (k:=kk) (ov:=t.ov) (M0:=fun b=>M b∨Oj b∨(Value.slice (some ⟨bq,oq,none⟩) 1 vc).ownBlock=some b) (HW.o.2.1.arena.keep q fun _ h=>h.elim) (HW.o.r6.1.keepNil q) (fun b hb=>.inr (.inl hb)) (HW.o.r7.1.keep q) (HW.o.2.1.meter.keepNil q) q2 HT.o.1.1.inv.sp0 HT.o.1.1.inv.spn HV.o.2.1 (by have:=HT.o.1.1.inv.cnt;have:=HT.o.1.1.inv.spn;have:=HV.o.2.1;omega) HT2.o.1.len HT2.o.1.two hroom;have hqe:dR t.A nodes limbs t.sp t.ov 8 N.var kk=((y,er),A2,sp2,ov2):=by rw [←hq];unfold cS;rw [HT.o.2.2.2.1,if_neg (by omega),if_pos (by omega),hK,hk]
       rw [hqe] at hb;have HB:=jJ hb;simp only [Nat.mul_zero,Nat.zero_mul,Nat.add_zero] at cq0;have HCQ:=jJ cq0;have H7:=jJ hK;rw [hK] at f10;clear hb hroom hqe hK hk q1 q2 cq0 hkr hno hq;go_upto_region 24 with (fail)
       refine aX 17 [11,12,13,14,15,16] [111,112,113,114,115,116,117,118,119,120,121,122,110,123,124,4,5] [111,112,113,114,115,116,117,118,119,120,121] [Un (LitV ?v4_0),Un (LitV ?v4_1),Un (LitV ?v4_2),Un (LitV ?v4_3),Un (LitV ?v4_4),Un (LitV ?v4_5),Un (LitV ?v4_6),Un (LitV ?v4_7),Un (LitV ?v4_8),Un (LitV ?v4_9),Un (LitV ?v4_10),nothing,nothing,nothing,nothing,nothing,nothing] (aB.sk (aB.sk (aB.sk (aB.sk (aB.sk (aB.sk (aB.nx ?r4_10 (aB.nx ?r4_9 (aB.nx ?r4_8 (aB.nx ?r4_7 (aB.nx ?r4_6 (aB.nx ?r4_5 (aB.nx ?r4_4 (aB.nx ?r4_3 (aB.nx ?r4_2 (aB.nx ?r4_1 (aB.nx ?r4_0 aB.zero))))))))))))))))) ?rfn4
       case' r4_0|r4_1|r4_2|r4_3|r4_4|r4_5|r4_6|r4_7|r4_8|r4_9|r4_10=>
        intro us wj hk hp K hK;try simp only [aO,Act.put,sL] at hK⊢
        obtain ⟨m0,m1,m2,m3⟩:=(HW.o.r9.keep hk id).cells4;obtain ⟨n0,n1,n2,n3,n4,n5,n6,n7⟩:=(HW.o.2.1.box.keep hk id).cells8;rw [H7.o] at n0;have hq0:=hk.cellE hbq id HCQ.o;have lq:=cZ1 hbq hk.size
       case' r4_0|r4_4|r4_6|r4_8=>
        go_simp
        refine hK.out _ _ (aA.refl _ _) ?_;exact rfl
       case' r4_1=>
        have e0:us 111=_:=hp 0;rw [e0] at hK⊢;go_simp
        refine hK.out _ _ (aA.refl _ _) ?_;exact rfl
       case' r4_2=>
        have e1:us 112=_:=hp 1;rw [e1] at hK⊢;go_simp
        refine hK.out _ _ (aA.refl _ _) ?_;exact rfl
       case' r4_3=>
        have e2:us 113=_:=hp 2;rw [e2] at hK⊢;go_simp
        refine hK.out _ _ (aA.refl _ _) ?_;exact rfl
       case' r4_5=>
        have e4:us 115=_:=hp 4;rw [e4] at hK⊢;go_simp
        refine hK.out _ _ (aA.refl _ _) ?_;exact rfl
       case' r4_7=>
        have e6:us 117=_:=hp 6;rw [e6] at hK⊢;go_simp
        refine hK.out _ _ (aA.refl _ _) ?_;exact rfl
       case' r4_9=>
        have e8:us 119=_:=hp 8;rw [e8] at hK⊢;go_simp
        refine hK.out _ _ (aA.refl _ _) ?_;exact rfl
       case' r4_10=>
        have e9:us 120=_:=hp 9;rw [e9] at hK⊢;go_simp
        refine hK.out _ _ (aA.refl _ _) ?_;exact rfl
       case' rfn4=>
       intro us wz hkz hf;simp only [aO,Act.put,sL];have e0:us 111=_:=hf 0;have e1:us 112=_:=hf 1;have e2:us 113=_:=hf 2;have e3:us 114=_:=hf 3;have e4:us 115=_:=hf 4;have e5:us 116=_:=hf 5;have e6:us 117=_:=hf 6;have e7:us 118=_:=hf 7;have e8:us 119=_:=hf 8;have e9:us 120=_:=hf 9;have e10:us 121=_:=hf 10;clear hf;simp only [e0,e1,e2,e3,e4,e5,e6,e7,e8,e9,e10];clear e0 e1 e2 e3 e4 e5 e6 e7 e8 e9 e10 us;refine aK 11 fun K hK=>?_;go_simp
       refine (HB.o wz hkz).mono ?_;rintro e wb hst;obtain ⟨he,O2,hwa2⟩:=HW.o.2.1.step hgm hbm (cK.walk (cK.after hkz hst) HW.o.2.1.map HW.o.r4.1 hbg);subst he;have H2:=jJ hwa2;have hd2:=HC.o.keep HS.o.r8.1 hwa2.keep HDK.o;obtain ⟨g0,g1,g2,g3⟩:=(HC.o.row wb hd2).cells4;clear hwa2 hst hd2;skip
       refine mK ?_;clear hK K;refine aK 12 fun K hK=>?_;go_simp
       refine mK ?_;clear hK K;refine bS (rs:=[13,14]) (by kernel_rfl) (by simp) ?_;refine (aY.cons rfl (fun K hK=>?t5_13) (aY.cons rfl (fun K hK=>?t5_14) aY.nil))
       case t5_13=>
        go_simp
        refine mK ?_;clear hK K;refine bS (rs:=[14,15]) (by kernel_rfl) (by simp) ?_;refine (aY.cons rfl (fun K hK=>?t6_14) (aY.cons rfl (fun K hK=>?t6_15) aY.nil))
        case t6_14=>
         go_simp
         refine mK ?_;clear hK K;refine aK 15 fun K hK=>?_;go_simp
         refine mK ?_;clear hK K;refine aK 16 fun K hK=>?_;go_simp
         refine mK ?_;clear hK K;refine aP (by kernel_rfl) ?_ _;go_wp2_with (at_mapUpdate;go_loud (refine cM _ rfl _ _ _ 86 rfl 3 3 underlying3 underlying86 underlying3 bm N0 t.came rfl H2.o.map (by unfold maxLen;omega) x y rfl HX.o.2.2.1 hx0 hxN HQ.o.2.1 rfl HQ.o.1 ?_);intro w3 hm3 hk3;have H3:=jJ (aI hm3 hk3);clear hm3 hk3)
         go_ret2
         exact NodeStep.mk' (r:=((y,er),⟨putC t.came x y,A2,sp2,ov2⟩)) (H2.o.note (t:=⟨putC t.came x y,A2,sp2,ov2⟩) hbm HS.o.r7.1 HS.o.r6.1 H3.o.2 H3.o.1 rfl rfl rfl).done HQ.o.2.2
        case t6_15=>
         go_simp
         refine mK ?_;clear hK K;refine aK 14 fun K hK=>?_;go_simp
         refine mK ?_;clear hK K;refine aK 16 fun K hK=>?_;go_simp
         refine mK ?_;clear hK K;refine aP (by kernel_rfl) ?_ _;go_wp2_with (at_mapUpdate;go_loud (refine cM _ rfl _ _ _ 86 rfl 3 3 underlying3 underlying86 underlying3 bm N0 t.came rfl H2.o.map (by unfold maxLen;omega) x y rfl HX.o.2.2.1 hx0 hxN HQ.o.2.1 rfl HQ.o.1 ?_);intro w3 hm3 hk3;have H3:=jJ (aI hm3 hk3);clear hm3 hk3)
         go_ret2
         exact NodeStep.mk' (r:=((y,er),⟨putC t.came x y,A2,sp2,ov2⟩)) (H2.o.note (t:=⟨putC t.came x y,A2,sp2,ov2⟩) hbm HS.o.r7.1 HS.o.r6.1 H3.o.2 H3.o.1 rfl rfl rfl).done HQ.o.2.2
       case t5_14=>
        go_simp
        refine mK ?_;clear hK K;refine aK 13 fun K hK=>?_;go_simp
        refine mK ?_;clear hK K;refine aK 15 fun K hK=>?_;go_simp
        refine mK ?_;clear hK K;refine aK 16 fun K hK=>?_;go_simp
        refine mK ?_;clear hK K;refine aP (by kernel_rfl) ?_ _;go_wp2_with (at_mapUpdate;go_loud (refine cM _ rfl _ _ _ 86 rfl 3 3 underlying3 underlying86 underlying3 bm N0 t.came rfl H2.o.map (by unfold maxLen;omega) x y rfl HX.o.2.2.1 hx0 hxN HQ.o.2.1 rfl HQ.o.1 ?_);intro w3 hm3 hk3;have H3:=jJ (aI hm3 hk3);clear hm3 hk3)
        go_ret2
        exact NodeStep.mk' (r:=((y,er),⟨putC t.came x y,A2,sp2,ov2⟩)) (H2.o.note (t:=⟨putC t.came x y,A2,sp2,ov2⟩) hbm HS.o.r7.1 HS.o.r6.1 H3.o.2 H3.o.1 rfl rfl rfl).done HQ.o.2.2
      have b8:=hK;clear hK;obtain ⟨X,hXe⟩:∃X,fa ⟨N.kind,N.d,N.t⟩=X:=⟨_,rfl⟩;have hXx:SmallX V X:=by rw [←hXe];exact HC.o.small ⟨N.kind,N.d,N.t⟩ HT2.o.2.2.1.1 HT2.o.2.2.1.2.1 HT2.o.2.2.1.2.2
      have hnX:=small_norm (l:=X.t.parts) (z:=X.t.k) hXx.1 (by decide);have hrX:=dW (k:=X.kind) (d:=X.d) (l:=X.t.parts) (z:=X.t.k) hXx.1 hXx.2 (by decide);have hng:=fun (W':World) (q:aA Nil wr W')=>HC.o.turn W' gd ad nd cd ap np cp gk ak nk ck ⟨N.kind,N.d,N.t⟩ (HC.o.keep HW.o.2.2.2.1 q fun _ _ h=>h) ⟨HT2.o.2.2.2.d.keepNil q,HT2.o.2.2.2.t.keepNil q⟩ HT2.o.2.2.1.1 HT2.o.2.2.1.2.1 HT2.o.2.2.1.2.2;rw [hXe] at hng;have hok:2≤(bV ⟨X.kind,X.d,⟨X.t.parts,X.t.k⟩⟩).2.kind→OkB t.A (bV ⟨X.kind,X.d,⟨X.t.parts,X.t.k⟩⟩).2:=fun h2=>ok_of_small HT.o.1.1.inv HV.o.2.1 HV.o.2.2.2.1 HV.o.r4.1 hrX h2 (by decide) (bZ2 _);have hqe:cZ t.A nodes limbs t.sp t.ov ⟨X.kind,X.d,⟨X.t.parts,X.t.k⟩⟩=((y,er),A2,sp2,ov2):=by rw [←hq];unfold cS;rw [HT.o.2.2.2.1,if_neg (by omega),if_neg (by omega),hXe]
      have hXy:bZ 1248576 262144 V X.t∧nlen X.d.natAbs≤1248576:=⟨hXx.1,hXx.2⟩;have HY2:=jJ (aI5 hng hok hXy (hnX.wee (by decide) (by decide)) hqe);have c5:(N.kind==5)=false:=by simpa using b5
      have c6:(N.kind==6)=false:=by simpa using b6
      have c7:(N.kind==7)=false:=by simpa using b7
      have c8:(N.kind==8)=false:=by simpa using b8
      clear hXx hXy hnX hrX hng hok hXe hqe hq b5 b6 b7 b8;go_upto_region 17 with (fail)
      clear c5 c6 c7 c8;refine aX 22 [16,17,18,19,20,21] [66,67,68,69,70,71,72,73,74,75,76,77,78,79,80,81,82,65,83,84,4,5] [66,67,68,69,70,71,72,73,74,75,76,77,78,79,80,81] [Un (LitV ?v7_0),Un (LitV ?v7_1),Un (LitV ?v7_2),Un (LitV ?v7_3),Un (LitV ?v7_4),Un (LitV ?v7_5),Un (LitV ?v7_6),Un (LitV ?v7_7),Un (LitV ?v7_8),Un (LitV ?v7_9),Un (LitV ?v7_10),Un (LitV ?v7_11),Un (LitV ?v7_12),Un (LitV ?v7_13),Un (LitV ?v7_14),Un (AV Nil X),nothing,nothing,nothing,nothing,nothing,nothing] (aB.sk (aB.sk (aB.sk (aB.sk (aB.sk (aB.sk (aB.nx ?r7_15 (aB.nx ?r7_14 (aB.nx ?r7_13 (aB.nx ?r7_12 (aB.nx ?r7_11 (aB.nx ?r7_10 (aB.nx ?r7_9 (aB.nx ?r7_8 (aB.nx ?r7_7 (aB.nx ?r7_6 (aB.nx ?r7_5 (aB.nx ?r7_4 (aB.nx ?r7_3 (aB.nx ?r7_2 (aB.nx ?r7_1 (aB.nx ?r7_0 aB.zero)))))))))))))))))))))) ?rfn7
      case' r7_0|r7_1|r7_2|r7_3|r7_4|r7_5|r7_6|r7_7|r7_8|r7_9|r7_10|r7_11|r7_12|r7_13|r7_14|r7_15=>
       intro us wj hk hp K hK;try simp only [aO,Act.put,sL] at hK⊢
       obtain ⟨m0,m1,m2,m3⟩:=(HW.o.r9.keep hk id).cells4;obtain ⟨n0,n1,n2,n3,n4,n5,n6,n7⟩:=(HW.o.2.1.box.keep hk id).cells8
      case' r7_0|r7_4|r7_8|r7_10|r7_12=>
       go_simp
       refine hK.out _ _ (aA.refl _ _) ?_;exact rfl
      case' r7_1=>
       have e0:us 66=_:=hp 0;rw [e0] at hK⊢;go_simp
       refine hK.out _ _ (aA.refl _ _) ?_;exact rfl
      case' r7_2=>
       have e1:us 67=_:=hp 1;rw [e1] at hK⊢;go_simp
       refine hK.out _ _ (aA.refl _ _) ?_;exact rfl
      case' r7_3=>
       have e2:us 68=_:=hp 2;rw [e2] at hK⊢;go_simp
       refine hK.out _ _ (aA.refl _ _) ?_;exact rfl
      case' r7_5=>
       have e4:us 70=_:=hp 4;rw [e4] at hK⊢;go_simp
       refine hK.out _ _ (aA.refl _ _) ?_;exact rfl
      case' r7_6=>
       have e5:us 71=_:=hp 5;rw [e5] at hK⊢;go_simp
       refine hK.out _ _ (aA.refl _ _) ?_;exact rfl
      case' r7_7=>
       have e6:us 72=_:=hp 6;rw [e6] at hK⊢;go_simp
       refine hK.out _ _ (aA.refl _ _) ?_;exact rfl
      case' r7_9=>
       have e8:us 74=_:=hp 8;rw [e8] at hK⊢;go_simp
       refine hK.out _ _ (aA.refl _ _) ?_;exact rfl
      case' r7_11=>
       have e10:us 76=_:=hp 10;rw [e10] at hK⊢;go_simp
       refine hK.out _ _ (aA.refl _ _) ?_;exact rfl
      case' r7_13=>
       have e12:us 78=_:=hp 12;rw [e12] at hK⊢;go_simp
       refine hK.out _ _ (aA.refl _ _) ?_;exact rfl
      case' r7_14=>
       have e9:us 75=_:=hp 9;have e11:us 77=_:=hp 11;have e13:us 79=_:=hp 13;rw [e9,e11,e13] at hK⊢;go_simp
       refine hK.out _ _ (aA.refl _ _) ?_;exact rfl
      case' r7_15=>
       have e7:us 73=_:=hp 7;have e14:us 80=_:=hp 14;rw [e7,e14] at hK⊢;go_simp
       refine (HY2.o.1 wj hk).mono ?_;rintro e wk ⟨v,rfl,hv,hk2⟩;exact hK.out _ _ hk2 (hv)
      case' rfn7=>
      intro us wz hkz hf;simp only [aO,Act.put,sL];have e0:us 66=_:=hf 0;have e1:us 67=_:=hf 1;have e2:us 68=_:=hf 2;have e3:us 69=_:=hf 3;have e4:us 70=_:=hf 4;have e5:us 71=_:=hf 5;have e6:us 72=_:=hf 6;have e7:us 73=_:=hf 7;have e8:us 74=_:=hf 8;have e9:us 75=_:=hf 9;have e10:us 76=_:=hf 10;have e11:us 77=_:=hf 11;have e12:us 78=_:=hf 12;have e13:us 79=_:=hf 13;have e14:us 80=_:=hf 14;obtain ⟨gd15,ad15,nd15,cd15,ap15,np15,cp15,gk15,ak15,nk15,ck15,e15,h15⟩:(AV Nil X) (us 81) wz:=hf 15;clear hf;simp only [e0,e1,e2,e3,e4,e5,e6,e7,e8,e9,e10,e11,e12,e13,e14,e15];clear e0 e1 e2 e3 e4 e5 e6 e7 e8 e9 e10 e11 e12 e13 e14 e15 us;refine aK 16 fun K hK=>?_;go_simp
      have hs22:=HY2.o.2.2.1;refine Calls.mono (by have hcl:=aatom_any (k:=X.kind) (d:=X.d) (l:=X.t.parts) (z:=X.t.k) (ov:=t.ov) (M0:=fun b=>M b∨Oj b∨(Value.slice va j vc).ownBlock=some b) (HW.o.2.1.arena.keep hkz fun _ h=>h.elim) (HW.o.r6.1.keepNil hkz) (fun b hb=>.inr (.inl hb)) (HW.o.r7.1.keep hkz) (HW.o.2.1.meter.keepNil hkz) (h15.1.zat (by have:=hs22.2;omega)) (cW.raw h15.2.1 fun p hp=>by have:=hs22.1.parts p hp;omega) (h15.2.2.zat (by have:=hs22.1.k;omega)) (by have:=SlOf.len h15.2.1;have:=hs22.1.len;omega) (by have:=h15.2.2.len;have:=hs22.1.k;omega) HY2.o.2.2.2.1 (by have:=hs22.2;omega) HT.o.1.1.inv.sp0 HT.o.1.1.inv.spn HV.o.2.1 (by have:=HT.o.1.1.inv.cnt;have:=HT.o.1.1.inv.spn;have:=HV.o.2.1;omega) HT2.o.1.len HT2.o.1.two HY2.o.2.1;rw [HY2.o.r4] at hcl;exact hcl) ?_;clear hs22;rintro e wb hst;obtain ⟨he,O2,hwa2⟩:=HW.o.2.1.step hgm hbm (cK.walk (cK.after hkz hst) HW.o.2.1.map HW.o.r4.1 hbg);subst he;have H2:=jJ hwa2;have hd2:=HC.o.keep HS.o.r8.1 hwa2.keep HDK.o;obtain ⟨g0,g1,g2,g3⟩:=(HC.o.row wb hd2).cells4;clear hwa2 hst hd2;skip
      refine mK ?_;clear hK K;refine aK 17 fun K hK=>?_;go_simp
      refine mK ?_;clear hK K;refine bS (rs:=[18,19]) (by kernel_rfl) (by simp) ?_;refine (aY.cons rfl (fun K hK=>?t8_18) (aY.cons rfl (fun K hK=>?t8_19) aY.nil))
      case t8_18=>
       go_simp
       refine mK ?_;clear hK K;refine bS (rs:=[19,20]) (by kernel_rfl) (by simp) ?_;refine (aY.cons rfl (fun K hK=>?t9_19) (aY.cons rfl (fun K hK=>?t9_20) aY.nil))
       case t9_19=>
        go_simp
        refine mK ?_;clear hK K;refine aK 20 fun K hK=>?_;go_simp
        refine mK ?_;clear hK K;refine aK 21 fun K hK=>?_;go_simp
        refine mK ?_;clear hK K;refine aP (by kernel_rfl) ?_ _;go_wp2_with (at_mapUpdate;go_loud (refine cM _ rfl _ _ _ 86 rfl 3 3 underlying3 underlying86 underlying3 bm N0 t.came rfl H2.o.map (by unfold maxLen;omega) x y rfl HX.o.2.2.1 hx0 hxN HQ.o.2.1 rfl HQ.o.1 ?_);intro w3 hm3 hk3;have H3:=jJ (aI hm3 hk3);clear hm3 hk3)
        go_ret2
        exact NodeStep.mk' (r:=((y,er),⟨putC t.came x y,A2,sp2,ov2⟩)) (H2.o.note (t:=⟨putC t.came x y,A2,sp2,ov2⟩) hbm HS.o.r7.1 HS.o.r6.1 H3.o.2 H3.o.1 rfl rfl rfl).done HQ.o.2.2
       case t9_20=>
        go_simp
        refine mK ?_;clear hK K;refine aK 19 fun K hK=>?_;go_simp
        refine mK ?_;clear hK K;refine aK 21 fun K hK=>?_;go_simp
        refine mK ?_;clear hK K;refine aP (by kernel_rfl) ?_ _;go_wp2_with (at_mapUpdate;go_loud (refine cM _ rfl _ _ _ 86 rfl 3 3 underlying3 underlying86 underlying3 bm N0 t.came rfl H2.o.map (by unfold maxLen;omega) x y rfl HX.o.2.2.1 hx0 hxN HQ.o.2.1 rfl HQ.o.1 ?_);intro w3 hm3 hk3;have H3:=jJ (aI hm3 hk3);clear hm3 hk3)
        go_ret2
        exact NodeStep.mk' (r:=((y,er),⟨putC t.came x y,A2,sp2,ov2⟩)) (H2.o.note (t:=⟨putC t.came x y,A2,sp2,ov2⟩) hbm HS.o.r7.1 HS.o.r6.1 H3.o.2 H3.o.1 rfl rfl rfl).done HQ.o.2.2
      case t8_19=>
       go_simp
       refine mK ?_;clear hK K;refine aK 18 fun K hK=>?_;go_simp
       refine mK ?_;clear hK K;refine aK 20 fun K hK=>?_;go_simp
       refine mK ?_;clear hK K;refine aK 21 fun K hK=>?_;go_simp
       refine mK ?_;clear hK K;refine aP (by kernel_rfl) ?_ _;go_wp2_with (at_mapUpdate;go_loud (refine cM _ rfl _ _ _ 86 rfl 3 3 underlying3 underlying86 underlying3 bm N0 t.came rfl H2.o.map (by unfold maxLen;omega) x y rfl HX.o.2.2.1 hx0 hxN HQ.o.2.1 rfl HQ.o.1 ?_);intro w3 hm3 hk3;have H3:=jJ (aI hm3 hk3);clear hm3 hk3)
       go_ret2
       exact NodeStep.mk' (r:=((y,er),⟨putC t.came x y,A2,sp2,ov2⟩)) (H2.o.note (t:=⟨putC t.came x y,A2,sp2,ov2⟩) hbm HS.o.r7.1 HS.o.r6.1 H3.o.2 H3.o.1 rfl rfl rfl).done HQ.o.2.2
end
end Go.Proofs.Q
