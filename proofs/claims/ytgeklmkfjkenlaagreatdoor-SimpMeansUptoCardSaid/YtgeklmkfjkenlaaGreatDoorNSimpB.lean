/- How great an atom's opposite can be: plain laws. -/
import Derived.Test.YtgeklmkfjkenlaaGreatDoorNSimpA
set_option linter.unusedSimpArgs false
set_option linter.unusedVariables false
set_option maxRecDepth 100000
set_option maxHeartbeats 4000000
namespace Go.Proofs.Q
open Go.RowKit Tryz
section
variable {V ks:List Int} {nodes limbs x sp:Int} {L n:Nat} {T:aY} {B X:cI}
theorem nlen_neg (x:Int):nlen ((-1)*x).natAbs=nlen x.natAbs:=by rw [show (-1)*x=-x by omega,Int.natAbs_neg]
theorem sumT_norm (x:Int) (a:aY) (y:Int) (b:aY):sumT x a y b=bE ⟨mulL x a.parts++mulL y b.parts,x*a.k+y*b.k⟩:=rfl
theorem small_opp (h:SmallT L n V T) (hL:1≤L) (hn:n≤16777216):SmallT (L+2) n V (sumT 1 ⟨[],1⟩ (-1) T):=by
 rw [sumT_norm];refine small_norm (L:=L+1) ⟨by simpa [mulL] using h.len,fun p hp=>?_,?_,fun p hp=>?_⟩ hn
 ·simp only [mulL,List.map_nil,gZ3,iZ2] at hp;obtain ⟨q,hq,rfl⟩:=hp;have:=h.parts q hq;simp only [nlen_neg];omega
 ·have h1:=nlen_natAbs_add (1*1) ((-1)*T.k);have h2:=nlen_neg T.k;have h3:=h.k;have h4:nlen ((1:Int)*1).natAbs≤1:=dB (by decide);simp only;omega
 ·simp only [mulL,List.map_nil,gZ3,iZ2] at hp;obtain ⟨q,hq,rfl⟩:=hp;exact h.vars q hq
theorem SmallT.wee (h:SmallT L n V T) (hL:L≤536870912) (hn:n≤16777216):Wee T:=⟨fun p hp=>bZ1 (h.parts p hp) hL,bZ1 h.k hL,bZ1 h.len hn⟩
theorem SmallB.toX (h:SmallB L n V B) (hL:L≤1048576) (hn:n≤262144):SmallX V B:=⟨⟨bZ1 h.t.len hn,fun p hp=>bZ1 (h.t.parts p hp) hL,bZ1 h.t.k hL,h.t.vars⟩,bZ1 h.d hL⟩
theorem negV_small (h:SmallT L n V X.t) (hd:nlen X.d.natAbs≤L) (hn:n≤16777216) (hL:1≤L):SmallB (L+14) n V (negV X):=by
 obtain ⟨k,d,⟨l,z⟩⟩:=X;have hb:=small_normR (k:=k) h hd hn;have mono:∀{L':Nat} {B:cI},SmallB L' n V B→L'≤L+14→SmallB (L+14) n V B:=fun q hq=>⟨q.t.mono hq,bZ1 q.d hq,q.kind,q.less⟩;unfold negV;split
 ·exact⟨small_zero,by simp [nlen0],by simp only;omega,fun _=>rfl⟩
 split
 ·exact mono (small_truth _) (bZ2 _)
 split
 ·have h2:=small_opp hb.t (by omega) hn;have h3:=small_normR (k:=2) (d:=0) (l:=(sumT 1 ⟨[],1⟩ (-1) (bT ⟨k,d,⟨l,z⟩⟩).2.t).parts) (z:=(sumT 1 ⟨[],1⟩ (-1) (bT ⟨k,d,⟨l,z⟩⟩).2.t).k) h2 (by simp [nlen0]) hn;rw [normR_less rfl] at h3;exact mono h3 (by omega)
 ·have h3:=fun (kk:Int)=>small_normR (k:=kk) (d:=(bT ⟨k,d,⟨l,z⟩⟩).2.d) (l:=(bT ⟨k,d,⟨l,z⟩⟩).2.t.parts) (z:=(bT ⟨k,d,⟨l,z⟩⟩).2.t.k) hb.t hb.d hn;by_cases h4:(bT ⟨k,d,⟨l,z⟩⟩).2.kind=3
  ·have h5:=h3 4;rw [normR_div (.inr rfl)] at h5;rw [decide_eq_true h4];exact mono h5 (by omega)
  ·have h5:=h3 3;rw [normR_div (.inl rfl)] at h5;rw [decide_eq_false h4];exact mono h5 (by omega)
theorem aZ.small {A:aF} (h:aZ V nodes limbs A sp) (hl:limbs≤8) (hV:V.length≤262144) (h0:0≤x) (h1:x<(A.nodes.length:Int)):SmallT 8 262144 V (ndA A x).t∧nlen (ndA A x).d.natAbs≤8∧Neat (ndA A x).t.parts:=by
 rcases Nat.lt_or_ge x.toNat 2 with h2|h2
 ·unfold ndA;rw [h.low h2];exact⟨small_zero,by simp [nlen0],neat_nil⟩
 ·have hK:=h.all x.toNat h2 (by omega);exact⟨⟨bZ1 (length_parts_le hK.neat hK.vars) hV,fun p hp=>by have:=hK.nums p hp;omega,by have:=hK.k;unfold ndA;omega,hK.vars⟩,by have:=hK.d;unfold ndA;omega,hK.neat⟩
def negT (nodes limbs:Int):TurnF:=fun A sp ov x ks=>
 if (ndA A x).kind=5 then cK A nodes limbs sp ov 6 ks
 else if (ndA A x).kind=6 then cK A nodes limbs sp ov 5 ks
 else if (ndA A x).kind=7 then dU A nodes limbs sp ov 8 (ndA A x).var (ks.getD 0 0)
 else if (ndA A x).kind=8 then dU A nodes limbs sp ov 7 (ndA A x).var (ks.getD 0 0)
 else atomM A nodes limbs sp ov (negV ⟨(ndA A x).kind,(ndA A x).d,(ndA A x).t⟩)
theorem aZ.negX {A:aF} (h:aZ V nodes limbs A sp) (hl:limbs≤8) (hV:V.length≤262144) (h0:0≤x) (h1:x<(A.nodes.length:Int)):SmallB 22 262144 V (negV ⟨(ndA A x).kind,(ndA A x).d,(ndA A x).t⟩):=
 negV_small (L:=8) (X:=⟨(ndA A x).kind,(ndA A x).d,(ndA A x).t⟩) (h.small hl hV h0 h1).1 (h.small hl hV h0 h1).2.1 (by decide) (by decide)
theorem negT_ok (h0:0≤limbs) (hl:limbs≤8) (hV:V.length≤262144):TurnOk (negT nodes limbs) (SimpJ V nodes limbs) AltR:=by
 refine ⟨fun {A sp ov x ks} hI hx0 hx1 hks hkl=>?_,fun h he=>h.mono he,fun h=>h.1,fun h=>aZ.below h⟩;have h:aZ V nodes limbs A sp:=hI;unfold negT;by_cases h5:(ndA A x).kind=5
 ·rw [if_pos h5];have hc:=sjoinM_came (ov:=ov) (kind:=6) (ks:=ks) h0 h;exact⟨hc.ok,hc.ext,sjoinM_alt h0 h hks⟩
 rw [if_neg h5];by_cases h6:(ndA A x).kind=6
 ·rw [if_pos h6];have hc:=sjoinM_came (ov:=ov) (kind:=5) (ks:=ks) h0 h;exact⟨hc.ok,hc.ext,sjoinM_alt h0 h hks⟩
 rw [if_neg h6];by_cases h7:(ndA A x).kind=7
 ·rw [if_pos h7];obtain ⟨q1,q2⟩:=h.one hx0 hx1 (.inl h7);have hc:=bindM_came (ov:=ov) (kind:=8) (k:=ks.getD 0 0) h0 q2 h;exact⟨hc.ok,hc.ext,bindM_alt h hc (hks _ (cH 0 (by omega)))⟩
 rw [if_neg h7];by_cases h8:(ndA A x).kind=8
 ·rw [if_pos h8];obtain ⟨q1,q2⟩:=h.one hx0 hx1 (.inr h8);have hc:=bindM_came (ov:=ov) (kind:=7) (k:=ks.getD 0 0) h0 q2 h;exact⟨hc.ok,hc.ext,bindM_alt h hc (hks _ (cH 0 (by omega)))⟩
 ·rw [if_neg h8];have hX:=(h.negX hl hV hx0 hx1).toX (by decide) (bZ2 _);have hc:=atomM_came (ov:=ov) hX h;exact⟨hc.ok,hc.ext,atomM_alt h hX hc⟩
theorem negT_err0 {ov:Int} {A:aF}:Err0 (negT nodes limbs A sp ov x ks):=by
 unfold negT;split
 ·exact sjoinM_err0
 split
 ·exact sjoinM_err0
 split
 ·exact bindM_err0
 split
 ·exact bindM_err0
 ·exact atomM_err0
end
section
variable {V ids:List Int} {B0 gm g n c:Nat} {w:World} {nodes limbs sp ov:Int} {M0 O M1:Nat→Prop} {a:Option Addr}
theorem sand_any {A:aF} (hA:cD O w g gm A) (hT:Tab B0 w) (hO:∀b,O b→M0 b) (hM0:MB M0 w) (hm:bK M0 w gm nodes limbs sp ov)
  (h:bP M1 w a n c ids) (hI:aZ V nodes limbs A sp) (hn:nodes≤2000) (hl:limbs≤8) (hV:V.length≤262144) (hids:∀k∈ids,AltR A k) (hlen:ids.length≤1000000) :
  Calls prog 16 #[.pointer (some ⟨g,0,none⟩),.slice a n c] w fun e w'=>cJ O M0 w g gm nodes limbs (cK A nodes limbs sp ov 5 ids) e w':=by
 have hj:=sjoin_any (kind:=5) (ov:=ov) hA hT hO hM0 hm h hI hn hl hV hids hlen (by decide);have HJ:=jJ hj;clear hA hT hO hM0 hm h hI hn hl hV hids hlen hj;go_enter func16,ntmps16
 go_wp2_with (go_at_call 57;refine HJ.o.mono ?_;rintro e w1 ⟨rfl,hst⟩;have H1:=jJ hst;clear hst)
 go_ret2
 exact⟨rfl,H1.o⟩
theorem sor_any {A:aF} (hA:cD O w g gm A) (hT:Tab B0 w) (hO:∀b,O b→M0 b) (hM0:MB M0 w) (hm:bK M0 w gm nodes limbs sp ov)
  (h:bP M1 w a n c ids) (hI:aZ V nodes limbs A sp) (hn:nodes≤2000) (hl:limbs≤8) (hV:V.length≤262144) (hids:∀k∈ids,AltR A k) (hlen:ids.length≤1000000) :
  Calls prog 17 #[.pointer (some ⟨g,0,none⟩),.slice a n c] w fun e w'=>cJ O M0 w g gm nodes limbs (cK A nodes limbs sp ov 6 ids) e w':=by
 have hj:=sjoin_any (kind:=6) (ov:=ov) hA hT hO hM0 hm h hI hn hl hV hids hlen (by decide);have HJ:=jJ hj;clear hA hT hO hM0 hm h hI hn hl hV hids hlen hj;go_enter func17,ntmps17
 go_wp2_with (go_at_call 57;refine HJ.o.mono ?_;rintro e w1 ⟨rfl,hst⟩;have H1:=jJ hst;clear hst)
 go_ret2
 exact⟨rfl,H1.o⟩
theorem negate1_any {ba:Nat} (hl0:0≤limbs) (hn:nodes≤2000) (hl:limbs≤8) (hV:V.length≤262144) (hV2:∀v∈V,I64 v):TurnC B0 g gm 54 #[.pointer (some ⟨ba,0,none⟩)] [(ba,26,[.pointer (some ⟨g,0,none⟩)])] nodes limbs (negT nodes limbs) (SimpJ V nodes limbs) AltR:=by
 refine ⟨enters_of func54 (by kernel_rfl) rfl,fun W O M A sp ov x cs ks a n c hA hT hO hM hm hR hf hN hks hI hx0 hx1 hkR hkl=>?_,fun {A sp ov x ks} hI hx0 hx1 hkR hkl=>?_⟩
 ·have hr:=hR _ (dZ1.2 rfl);have hI':aZ V nodes limbs A sp:=hI;have hFine:=hI'.fine hn hl hV;have hsm:=hI'.small hl hV hx0 hx1;have hX:=hI'.negX hl hV hx0 hx1;obtain ⟨N,hN'⟩:∃N,ndA A x=N:=⟨_,rfl⟩;rw [hN'] at hN hkl hsm hX;have hkinds:=hI'.kinds hx0 hx1;have hone:=hI'.one hx0 hx1;rw [hN'] at hkinds hone;have hnl:ks.length=n:=SlOf.len hks;have hkb:N.kids.length≤2002:=by rw [←hN'];exact hI'.kidsLen hn (by omega)
  obtain ⟨gd,ad,nd,cd,ap,np,cp,gk,ak,nk,ck,aq,nq,cq,rfl,hnat⟩:=hN;have HA:=jJ (aI10 hA hT hO hM hm hr hks hnat hI' hkR);have HC:=jJ (aI4 hl0 hn hl hV);have HN:=jJ (aI3 hN' hone hkl);have HF:=jJ hFine;have HX:=jJ (aI3 hsm hX hV2);clear hA hT hO hM hm hR hf hr hks hnat hI hI' hkR hN' hone hFine hl0 hn hl hV hkl hsm hX hV2;show Calls prog 54 #[.int .i64 x,.agg #[.int .i64 N.kind,.bool gd,.slice ad nd cd,.slice ap np cp,.bool gk,.slice ak nk ck,.int .i64 N.var,.slice aq nq cq],.slice a n c,.pointer (some ⟨ba,0,none⟩)] W _
  go_enter func54,ntmps54
  go_upto_region 1 with (fail)
  obtain ⟨w0,e_1,k0,r0⟩:=bx1 W 68 [.int .i64 N.kind,.bool gd,.slice ad nd cd,.slice ap np cp,.bool gk,.slice ak nk ck,.int .i64 N.var,.slice aq nq cq];rw [e_1];clear e_1;obtain ⟨d0,d1,d2,d3,d4,d5,d6,d7⟩:=r0.cells8;obtain ⟨e0,-⟩:=(HA.o.r5.1.keep k0 id).one;have H0:=jJ (aI k0 r0);clear k0 r0;by_cases hK:N.kind=5
  ·have hj:=sor_any (ov:=ov) (HA.o.1.keep H0.o.1 fun _ h=>h.elim) (HA.o.2.1.keepNil H0.o.1) HA.o.2.2.1 (HA.o.2.2.2.1.keep H0.o.1) (HA.o.r4.1.keepNil H0.o.1) (HA.o.r6.1.keepNil H0.o.1) HA.o.r8.1 HC.o.2.1 HC.o.2.2.1 HC.o.2.2.2 HA.o.r9 (by have:=HN.o.2.2;omega);have hres:negT nodes limbs A sp ov x ks=cK A nodes limbs sp ov 6 ks:=by unfold negT;rw [HN.o.1,if_pos hK]
   have HS:=jJ (aI hj hres);rw [hK] at d0;clear hj hres hK;go_wp2_with (go_at_call 17;refine HS.o.1.mono ?_;rintro e w1 ⟨rfl,hst⟩;have H1:=jJ hst;clear hst)
   go_ret2
   rw [HS.o.2];exact cJ.after H0.o.1 ⟨rfl,H1.o⟩
  have b5:=hK;clear hK;by_cases hK:N.kind=6
  ·have hj:=sand_any (ov:=ov) (HA.o.1.keep H0.o.1 fun _ h=>h.elim) (HA.o.2.1.keepNil H0.o.1) HA.o.2.2.1 (HA.o.2.2.2.1.keep H0.o.1) (HA.o.r4.1.keepNil H0.o.1) (HA.o.r6.1.keepNil H0.o.1) HA.o.r8.1 HC.o.2.1 HC.o.2.2.1 HC.o.2.2.2 HA.o.r9 (by have:=HN.o.2.2;omega);have hres:negT nodes limbs A sp ov x ks=cK A nodes limbs sp ov 5 ks:=by unfold negT;rw [HN.o.1,if_neg b5,if_pos hK]
   have HS:=jJ (aI hj hres);rw [hK] at d0;clear hj hres hK;go_wp2_with (go_at_call 16;refine HS.o.1.mono ?_;rintro e w1 ⟨rfl,hst⟩;have H1:=jJ hst;clear hst)
   go_ret2
   rw [HS.o.2];exact cJ.after H0.o.1 ⟨rfl,H1.o⟩
  have b6:=hK;clear hK;by_cases hK:N.kind=7
  ·obtain ⟨q1,q2⟩:=HN.o.2.1 (by omega);have hn1:n=1:=by have:=HN.o.2.2;omega
   subst hn1;obtain ⟨k,hk⟩:∃k,ks.getD 0 0=k:=⟨_,rfl⟩;obtain ⟨b,off,rfl,cq0⟩:=aW (HA.o.r6.1.keepNil H0.o.1) (i:=0) (by omega);rw [hk] at cq0;have hbq:b<w0.heap.size:=by
    obtain ⟨b',off',cs',e,hb',_⟩:=SlOf.at (HA.o.r6.1.keepNil H0.o.1) (i:=0) (by omega);cases e;exact hb'
   have hkr:=(HA.o.r9 k (by rw [←hk];exact cH 0 (by omega))).1;have hroom:=roomK (kind:=8) (v:=N.var) (ks:=[k]) HA.o.r8.1.inv HC.o.2.1 HC.o.2.2.2 (by omega) (by omega) (fun h=>by omega) (List.pairwise_singleton _ _) (fun y hy=>by rw [dZ1.1 hy];exact hkr);have hb:=fun (W':World) (q:aA Nil W W')=>abind_any (kind:=8) (v:=N.var) (k:=k) (HA.o.1.keep q fun _ h=>h.elim) (HA.o.2.1.keepNil q) HA.o.2.2.1 (HA.o.2.2.2.1.keep q) (HA.o.r4.1.keepNil q) q2 HA.o.r8.1.inv.sp0 HA.o.r8.1.inv.spn HC.o.2.1 (by have:=HA.o.r8.1.inv.cnt;have:=HA.o.r8.1.inv.spn;have:=HC.o.2.1;omega) HF.o.len HF.o.two hroom;have hres:negT nodes limbs A sp ov x ks=dU A nodes limbs sp ov 8 N.var k:=by unfold negT;rw [HN.o.1,if_neg b5,if_neg b6,if_pos hK,hk]
   have HB:=jJ (aI hb hres);have H7:=jJ hK;simp only [Nat.mul_zero,Nat.zero_mul,Nat.add_zero] at cq0;have HQ:=jJ cq0;rw [hK] at d0;clear hb hroom hres hK hk q1 q2 cq0 hkr;go_upto_region 7 with (fail)
   refine aX 11 [6,7,8,9,10] [27,28,29,30,31,32,33,34,35,7,8] [27,28,29,30,31,32] [Un (LitV ?v2_0),Un (LitV ?v2_1),Un (LitV ?v2_2),Un (LitV ?v2_3),Un (LitV ?v2_4),Un (LitV ?v2_5),nothing,nothing,nothing,nothing,nothing] (aB.sk (aB.sk (aB.sk (aB.sk (aB.sk (aB.nx ?r2_5 (aB.nx ?r2_4 (aB.nx ?r2_3 (aB.nx ?r2_2 (aB.nx ?r2_1 (aB.nx ?r2_0 aB.zero))))))))))) ?rfn2
   case' r2_0|r2_1|r2_2|r2_3|r2_4|r2_5=>
    intro us wj hk hp K hK;try simp only [aP,Act.put,sL] at hK⊢
    obtain ⟨d0,d1,d2,d3,d4,d5,d6,d7⟩:=(H0.o.2.keep hk id).cells8;obtain ⟨e0',-⟩:=(HA.o.r5.1.keep (H0.o.1.trans hk) id).one;have hq0:=hk.cellE hbq id HQ.o;have lq:=cZ1 hbq hk.size
   case' r2_0|r2_1|r2_3=>
    go_simp
    refine hK.out _ _ (aA.refl _ _) ?_;exact rfl
   case' r2_2=>
    have e1:us 28=_:=hp 1;rw [e1] at hK⊢;go_simp
    refine hK.out _ _ (aA.refl _ _) ?_;exact rfl
   case' r2_4=>
    have e3:us 30=_:=hp 3;rw [e3] at hK⊢;go_simp
    refine hK.out _ _ (aA.refl _ _) ?_;exact rfl
   case' r2_5=>
    have e4:us 31=_:=hp 4;rw [e4] at hK⊢;go_simp
    refine hK.out _ _ (aA.refl _ _) ?_;exact rfl
   case' rfn2=>
   intro us wz hkz hf;simp only [aP,Act.put,sL];have e0:us 27=_:=hf 0;have e1:us 28=_:=hf 1;have e2:us 29=_:=hf 2;have e3:us 30=_:=hf 3;have e4:us 31=_:=hf 4;have e5:us 32=_:=hf 5;clear hf;simp only [e0,e1,e2,e3,e4,e5];clear e0 e1 e2 e3 e4 e5 us;refine aK 6 fun K hK=>?_;go_simp
   refine (HB.o.1 wz (H0.o.1.trans hkz)).mono ?_;rintro e wb ⟨rfl,hst⟩;have H1:=jJ hst;clear hst;skip
   refine mK ?_;clear hK K;refine cE (rs:=[7,8]) (by kernel_rfl) (by simp) ?_;refine (bD.cons rfl (fun K hK=>?t3_7) (bD.cons rfl (fun K hK=>?t3_8) bD.nil))
   case t3_7=>
    go_simp
    refine mK ?_;clear hK K;refine aK 8 fun K hK=>?_;go_simp
    refine mK ?_;clear hK K;refine aK 9 fun K hK=>?_;go_simp
    refine mK ?_;clear hK K;refine aK 10 fun K hK=>?_;go_simp
    refine mK ?_;clear hK K;refine aQ (by kernel_rfl) ?_ _;go_wp2_with fail
    go_ret2
    rw [HB.o.2];exact cJ.after (H0.o.1.trans hkz) ⟨rfl,H1.o⟩
   case t3_8=>
    go_simp
    refine mK ?_;clear hK K;refine aK 7 fun K hK=>?_;go_simp
    refine mK ?_;clear hK K;refine aK 9 fun K hK=>?_;go_simp
    refine mK ?_;clear hK K;refine aK 10 fun K hK=>?_;go_simp
    refine mK ?_;clear hK K;refine aQ (by kernel_rfl) ?_ _;go_wp2_with fail
    go_ret2
    rw [HB.o.2];exact cJ.after (H0.o.1.trans hkz) ⟨rfl,H1.o⟩
  have b7:=hK;clear hK;by_cases hK:N.kind=8
  ·obtain ⟨q1,q2⟩:=HN.o.2.1 (by omega);have hn1:n=1:=by have:=HN.o.2.2;omega
   subst hn1;obtain ⟨k,hk⟩:∃k,ks.getD 0 0=k:=⟨_,rfl⟩;obtain ⟨b,off,rfl,cq0⟩:=aW (HA.o.r6.1.keepNil H0.o.1) (i:=0) (by omega);rw [hk] at cq0;have hbq:b<w0.heap.size:=by
    obtain ⟨b',off',cs',e,hb',_⟩:=SlOf.at (HA.o.r6.1.keepNil H0.o.1) (i:=0) (by omega);cases e;exact hb'
   have hkr:=(HA.o.r9 k (by rw [←hk];exact cH 0 (by omega))).1;have hroom:=roomK (kind:=7) (v:=N.var) (ks:=[k]) HA.o.r8.1.inv HC.o.2.1 HC.o.2.2.2 (by omega) (by omega) (fun h=>by omega) (List.pairwise_singleton _ _) (fun y hy=>by rw [dZ1.1 hy];exact hkr);have hb:=fun (W':World) (q:aA Nil W W')=>abind_any (kind:=7) (v:=N.var) (k:=k) (HA.o.1.keep q fun _ h=>h.elim) (HA.o.2.1.keepNil q) HA.o.2.2.1 (HA.o.2.2.2.1.keep q) (HA.o.r4.1.keepNil q) q2 HA.o.r8.1.inv.sp0 HA.o.r8.1.inv.spn HC.o.2.1 (by have:=HA.o.r8.1.inv.cnt;have:=HA.o.r8.1.inv.spn;have:=HC.o.2.1;omega) HF.o.len HF.o.two hroom;have hres:negT nodes limbs A sp ov x ks=dU A nodes limbs sp ov 7 N.var k:=by unfold negT;rw [HN.o.1,if_neg b5,if_neg b6,if_neg b7,if_pos hK,hk]
   have HB:=jJ (aI hb hres);have H8:=jJ hK;simp only [Nat.mul_zero,Nat.zero_mul,Nat.add_zero] at cq0;have HQ:=jJ cq0;rw [hK] at d0;clear hb hroom hres hK hk q1 q2 cq0 hkr;go_upto_region 9 with (fail)
   refine aX 11 [6,7,8,9,10] [38,39,40,41,42,43,44,45,46,7,8] [38,39,40,41,42,43] [Un (LitV ?v4_0),Un (LitV ?v4_1),Un (LitV ?v4_2),Un (LitV ?v4_3),Un (LitV ?v4_4),Un (LitV ?v4_5),nothing,nothing,nothing,nothing,nothing] (aB.sk (aB.sk (aB.sk (aB.sk (aB.sk (aB.nx ?r4_5 (aB.nx ?r4_4 (aB.nx ?r4_3 (aB.nx ?r4_2 (aB.nx ?r4_1 (aB.nx ?r4_0 aB.zero))))))))))) ?rfn4
   case' r4_0|r4_1|r4_2|r4_3|r4_4|r4_5=>
    intro us wj hk hp K hK;try simp only [aP,Act.put,sL] at hK⊢
    obtain ⟨d0,d1,d2,d3,d4,d5,d6,d7⟩:=(H0.o.2.keep hk id).cells8;obtain ⟨e0',-⟩:=(HA.o.r5.1.keep (H0.o.1.trans hk) id).one;have hq0:=hk.cellE hbq id HQ.o;have lq:=cZ1 hbq hk.size
   case' r4_0|r4_1|r4_3=>
    go_simp
    refine hK.out _ _ (aA.refl _ _) ?_;exact rfl
   case' r4_2=>
    have e1:us 39=_:=hp 1;rw [e1] at hK⊢;go_simp
    refine hK.out _ _ (aA.refl _ _) ?_;exact rfl
   case' r4_4=>
    have e3:us 41=_:=hp 3;rw [e3] at hK⊢;go_simp
    refine hK.out _ _ (aA.refl _ _) ?_;exact rfl
   case' r4_5=>
    have e4:us 42=_:=hp 4;rw [e4] at hK⊢;go_simp
    refine hK.out _ _ (aA.refl _ _) ?_;exact rfl
   case' rfn4=>
   intro us wz hkz hf;simp only [aP,Act.put,sL];have e0:us 38=_:=hf 0;have e1:us 39=_:=hf 1;have e2:us 40=_:=hf 2;have e3:us 41=_:=hf 3;have e4:us 42=_:=hf 4;have e5:us 43=_:=hf 5;clear hf;simp only [e0,e1,e2,e3,e4,e5];clear e0 e1 e2 e3 e4 e5 us;refine aK 6 fun K hK=>?_;go_simp
   refine (HB.o.1 wz (H0.o.1.trans hkz)).mono ?_;rintro e wb ⟨rfl,hst⟩;have H1:=jJ hst;clear hst;skip
   refine mK ?_;clear hK K;refine cE (rs:=[7,8]) (by kernel_rfl) (by simp) ?_;refine (bD.cons rfl (fun K hK=>?t5_7) (bD.cons rfl (fun K hK=>?t5_8) bD.nil))
   case t5_7=>
    go_simp
    refine mK ?_;clear hK K;refine aK 8 fun K hK=>?_;go_simp
    refine mK ?_;clear hK K;refine aK 9 fun K hK=>?_;go_simp
    refine mK ?_;clear hK K;refine aK 10 fun K hK=>?_;go_simp
    refine mK ?_;clear hK K;refine aQ (by kernel_rfl) ?_ _;go_wp2_with fail
    go_ret2
    rw [HB.o.2];exact cJ.after (H0.o.1.trans hkz) ⟨rfl,H1.o⟩
   case t5_8=>
    go_simp
    refine mK ?_;clear hK K;refine aK 7 fun K hK=>?_;go_simp
    refine mK ?_;clear hK K;refine aK 9 fun K hK=>?_;go_simp
    refine mK ?_;clear hK K;refine aK 10 fun K hK=>?_;go_simp
    refine mK ?_;clear hK K;refine aQ (by kernel_rfl) ?_ _;go_wp2_with fail
    go_ret2
    rw [HB.o.2];exact cJ.after (H0.o.1.trans hkz) ⟨rfl,H1.o⟩
  have b8:=hK;clear hK;have hres:negT nodes limbs A sp ov x ks=atomM A nodes limbs sp ov (negV ⟨N.kind,N.d,N.t⟩):=by unfold negT;rw [HN.o.1,if_neg b5,if_neg b6,if_neg b7,if_neg b8]
  have hsN:=HX.o.1.1;have hdN:=HX.o.1.2.1;have hnt:bE N.t=N.t:=cW HX.o.1.2.2;have hsr:=small_normR (k:=N.kind) (d:=N.d) (l:=N.t.parts) (z:=N.t.k) hsN hdN (by decide);have hB:=HX.o.2.1;obtain ⟨X,hXe⟩:∃X,negV ⟨N.kind,N.d,N.t⟩=X:=⟨_,rfl⟩;rw [hXe] at hB hres;have hXx:=hB.toX (V:=V) (by decide) (bZ2 _);have hnX:=small_norm (l:=X.t.parts) (z:=X.t.k) hXx.1 (by decide);have hrX:=small_normR (k:=X.kind) (d:=X.d) (l:=X.t.parts) (z:=X.t.k) hXx.1 hXx.2 (by decide);have hng:=fun (W':World) (q:aA Nil W W')=>anegate_any (M:=Nil) (k:=N.kind) (d:=N.d) (l:=N.t.parts) (z:=N.t.k) (MB.nil W') ((HA.o.r7.1.d.zat (by omega)).keepNil q) ((cQ.raw HA.o.r7.1.t.1 fun p hp=>by have:=hsN.parts p hp;omega).keepNil q) ((HA.o.r7.1.t.2.zat (by have:=hsN.k;omega)).keepNil q) (by have:=SlOf.len HA.o.r7.1.t.1;have:=hsN.len;omega) (by have:=HA.o.r7.1.t.2.len;have:=hsN.k;omega) (by rw [show (⟨N.t.parts,N.t.k⟩:aY)=N.t from rfl,hnt];exact hsN.wee (by decide) (by decide)) (by omega) (hsr.t.wee (by decide) (by decide)) (neat_normR _) (by have:=hsr.d;omega) (fun _=>(small_opp hsr.t (by decide) (by decide)).wee (by decide) (by decide));rw [show negV ⟨N.kind,N.d,⟨N.t.parts,N.t.k⟩⟩=X from hXe] at hng;have hok:2≤(bT ⟨X.kind,X.d,⟨X.t.parts,X.t.k⟩⟩).2.kind→OkB A (bT ⟨X.kind,X.d,⟨X.t.parts,X.t.k⟩⟩).2:=fun h2=>ok_of_small HA.o.r8.1.inv HC.o.2.1 HC.o.2.2.2 HX.o.2.2 hrX h2 (by decide) (bZ2 _);have HY:=jJ (aI5 hng hok hB (hnX.wee (by decide) (by decide)) hres);have c5:(N.kind==5)=false:=by simpa using b5
  have c6:(N.kind==6)=false:=by simpa using b6
  have c7:(N.kind==7)=false:=by simpa using b7
  have c8:(N.kind==8)=false:=by simpa using b8
  clear hres hsN hdN hnt hsr hB hXx hnX hrX hng hok hXe b5 b6 b7 b8;go_upto_region 10 with (fail)
  clear c5 c6 c7 c8;refine aX 14 [9,10,11,12,13] [47,48,49,50,51,52,53,54,55,56,57,58,7,8] [47,48,49,50,51,52,53,54,55] [Un (LitV ?v6_0),Un (LitV ?v6_1),Un (LitV ?v6_2),Un (LitV ?v6_3),Un (LitV ?v6_4),Un (LitV ?v6_5),Un (LitV ?v6_6),Un (LitV ?v6_7),Un (AV Nil X),nothing,nothing,nothing,nothing,nothing] (aB.sk (aB.sk (aB.sk (aB.sk (aB.sk (aB.nx ?r6_8 (aB.nx ?r6_7 (aB.nx ?r6_6 (aB.nx ?r6_5 (aB.nx ?r6_4 (aB.nx ?r6_3 (aB.nx ?r6_2 (aB.nx ?r6_1 (aB.nx ?r6_0 aB.zero)))))))))))))) ?rfn6
  case' r6_0|r6_1|r6_2|r6_3|r6_4|r6_5|r6_6|r6_7|r6_8=>
   intro us wj hk hp K hK;try simp only [aP,Act.put,sL] at hK⊢
   obtain ⟨d0,d1,d2,d3,d4,d5,d6,d7⟩:=(H0.o.2.keep hk id).cells8;obtain ⟨e0',-⟩:=(HA.o.r5.1.keep (H0.o.1.trans hk) id).one
  case' r6_0|r6_1|r6_3|r6_5=>
   go_simp
   refine hK.out _ _ (aA.refl _ _) ?_;exact rfl
  case' r6_2=>
   have e1:us 48=_:=hp 1;rw [e1] at hK⊢;go_simp
   refine hK.out _ _ (aA.refl _ _) ?_;exact rfl
  case' r6_4=>
   have e3:us 50=_:=hp 3;rw [e3] at hK⊢;go_simp
   refine hK.out _ _ (aA.refl _ _) ?_;exact rfl
  case' r6_6=>
   have e5:us 52=_:=hp 5;rw [e5] at hK⊢;go_simp
   refine hK.out _ _ (aA.refl _ _) ?_;exact rfl
  case' r6_7=>
   have e2:us 49=_:=hp 2;have e4:us 51=_:=hp 4;have e6:us 53=_:=hp 6;rw [e2,e4,e6] at hK⊢;go_simp
   refine hK.out _ _ (aA.refl _ _) ?_;exact rfl
  case' r6_8=>
   have e7:us 54=_:=hp 7;rw [e7] at hK⊢;go_simp
   refine (HY.o.1 wj (H0.o.1.trans hk)).mono ?_;rintro e wk ⟨v,rfl,hv,hk2⟩;exact hK.out _ _ hk2 (hv)
  case' rfn6=>
  intro us wz hkz hf;simp only [aP,Act.put,sL];have e0:us 47=_:=hf 0;have e1:us 48=_:=hf 1;have e2:us 49=_:=hf 2;have e3:us 50=_:=hf 3;have e4:us 51=_:=hf 4;have e5:us 52=_:=hf 5;have e6:us 53=_:=hf 6;have e7:us 54=_:=hf 7;obtain ⟨gd8,ad8,nd8,cd8,ap8,np8,cp8,gk8,ak8,nk8,ck8,e8,h8⟩:(AV Nil X) (us 55) wz:=hf 8;clear hf;simp only [e0,e1,e2,e3,e4,e5,e6,e7,e8];clear e0 e1 e2 e3 e4 e5 e6 e7 e8 us;refine aK 9 fun K hK=>?_;go_simp
  have hs22:=HY.o.2.2.1;refine (aatom_any (k:=X.kind) (d:=X.d) (l:=X.t.parts) (z:=X.t.k) (ov:=ov) (HA.o.1.keep (H0.o.1.trans hkz) fun _ h=>h.elim) (HA.o.2.1.keepNil (H0.o.1.trans hkz)) HA.o.2.2.1 (HA.o.2.2.2.1.keep (H0.o.1.trans hkz)) (HA.o.r4.1.keepNil (H0.o.1.trans hkz)) (h8.1.zat (by have:=hs22.d;omega)) (cQ.raw h8.2.1 fun p hp=>by have:=hs22.t.parts p hp;omega) (h8.2.2.zat (by have:=hs22.t.k;omega)) (by have:=SlOf.len h8.2.1;have:=hs22.t.len;omega) (by have:=h8.2.2.len;have:=hs22.t.k;omega) HY.o.2.2.2.1 (by have:=hs22.d;omega) HA.o.r8.1.inv.sp0 HA.o.r8.1.inv.spn HC.o.2.1 (by have:=HA.o.r8.1.inv.cnt;have:=HA.o.r8.1.inv.spn;have:=HC.o.2.1;omega) HF.o.len HF.o.two HY.o.2.1).mono ?_;rintro e wb ⟨rfl,hst⟩;have H1:=jJ hst;clear hst hs22;skip
  refine mK ?_;clear hK K;refine cE (rs:=[10,11]) (by kernel_rfl) (by simp) ?_;refine (bD.cons rfl (fun K hK=>?t7_10) (bD.cons rfl (fun K hK=>?t7_11) bD.nil))
  case t7_10=>
   go_simp
   refine mK ?_;clear hK K;refine aK 11 fun K hK=>?_;go_simp
   refine mK ?_;clear hK K;refine aK 12 fun K hK=>?_;go_simp
   refine mK ?_;clear hK K;refine aK 13 fun K hK=>?_;go_simp
   refine mK ?_;clear hK K;refine aQ (by kernel_rfl) ?_ _;go_wp2_with fail
   go_ret2
   rw [HY.o.r4];exact cJ.after (H0.o.1.trans hkz) ⟨rfl,H1.o⟩
  case t7_11=>
   go_simp
   refine mK ?_;clear hK K;refine aK 10 fun K hK=>?_;go_simp
   refine mK ?_;clear hK K;refine aK 12 fun K hK=>?_;go_simp
   refine mK ?_;clear hK K;refine aK 13 fun K hK=>?_;go_simp
   refine mK ?_;clear hK K;refine aQ (by kernel_rfl) ?_ _;go_wp2_with fail
   go_ret2
   rw [HY.o.r4];exact cJ.after (H0.o.1.trans hkz) ⟨rfl,H1.o⟩
 ·have h:aZ V nodes limbs A sp:=hI;obtain ⟨q1,q2,q3⟩:=(negT_ok (V:=V) hl0 hl hV).step (ov:=ov) hI hx0 hx1 hkR hkl;by_cases he:(negT nodes limbs A sp ov x ks).1.2=0
  ·exact AltR.i64 (show aZ V nodes limbs _ _ from q1) hn (q3 he)
  ·rw [negT_err0 he];exact⟨by omega,by omega⟩
theorem again_any {A:aF} {nid:Int} (hA:cD O w g gm A) (hT:Tab B0 w) (hO:∀b,O b→M0 b) (hM0:MB M0 w) (hm:bK M0 w gm nodes limbs sp ov) (hB:∀b,O b∨b=gm→B0≤b)
  (hI:aZ V nodes limbs A sp) (hl0:0≤limbs) (hn:nodes≤2000) (hl:limbs≤8) (hV:V.length≤262144) :
  Calls prog 15 #[.pointer (some ⟨g,0,none⟩),.int .i64 nid] w fun e w'=>cJ O M0 w g gm nodes limbs (cA (cY nodes limbs) A sp ov nid) e w':=by
 have hlt:=hA.lt;have hgm:=hm.lt;have HA:=jJ (aI8 hA hT hO hM0 hm hB hI hlt);clear hA hT hO hM0 hm hB hI hlt;go_enter func15,ntmps15
 go_upto_region 1 with (fail)
 obtain ⟨w0,e_8,k0,r0⟩:=bx1 w 26 [.pointer (some ⟨g,0,none⟩)];rw [e_8];clear e_8;obtain ⟨d0,-⟩:=r0.one;have hth:=through_any (L:=[(w.heap.size,26,[.pointer (some ⟨g,0,none⟩)])]) (ov:=ov) (nid:=nid) (againT_ok hl0) (again1_any hl0 hn hl hV) (fun A sp ov h=>aZ.fine (show aZ V nodes limbs A sp from h) hn hl hV) (HA.o.1.keep k0 fun _ h=>h.elim) (HA.o.2.1.keepNil k0) HA.o.2.2.1 (HA.o.2.2.2.1.keep k0) (HA.o.r4.1.keepNil k0) HA.o.r6.1 (fun r hr=>by rw [dZ1.1 hr];exact r0) (fun r hr hO=>by rw [dZ1.1 hr] at hO;have:=HA.o.r7 _ hO;simp only at this;omega) (fun r hr hO=>by rw [dZ1.1 hr] at hO;simp only at hO;omega) HA.o.r5.1;have HT:=jJ (aI hth k0);clear hth k0 r0;go_wp2_with (go_at_call 53;refine HT.o.1.mono ?_;rintro e w1 ⟨rfl,hst⟩;have H1:=jJ hst;clear hst)
 go_ret2
 exact cJ.after HT.o.2 ⟨rfl,H1.o⟩
theorem snegate_any {A:aF} {nid:Int} (hA:cD O w g gm A) (hT:Tab B0 w) (hO:∀b,O b→M0 b) (hM0:MB M0 w) (hm:bK M0 w gm nodes limbs sp ov) (hB:∀b,O b∨b=gm→B0≤b)
  (hI:aZ V nodes limbs A sp) (hl0:0≤limbs) (hn:nodes≤2000) (hl:limbs≤8) (hV:V.length≤262144) (hV2:∀v∈V,I64 v) :
  Calls prog 14 #[.pointer (some ⟨g,0,none⟩),.int .i64 nid] w fun e w'=>cJ O M0 w g gm nodes limbs (cA (negT nodes limbs) A sp ov nid) e w':=by
 have hlt:=hA.lt;have hgm:=hm.lt;have HA:=jJ (aI8 hA hT hO hM0 hm hB hI hlt);clear hA hT hO hM0 hm hB hI hlt;go_enter func14,ntmps14
 go_upto_region 1 with (fail)
 obtain ⟨w0,e_9,k0,r0⟩:=bx1 w 26 [.pointer (some ⟨g,0,none⟩)];rw [e_9];clear e_9;obtain ⟨d0,-⟩:=r0.one;have hth:=through_any (L:=[(w.heap.size,26,[.pointer (some ⟨g,0,none⟩)])]) (ov:=ov) (nid:=nid) (negT_ok hl0 hl hV) (negate1_any hl0 hn hl hV hV2) (fun A sp ov h=>aZ.fine (show aZ V nodes limbs A sp from h) hn hl hV) (HA.o.1.keep k0 fun _ h=>h.elim) (HA.o.2.1.keepNil k0) HA.o.2.2.1 (HA.o.2.2.2.1.keep k0) (HA.o.r4.1.keepNil k0) HA.o.r6.1 (fun r hr=>by rw [dZ1.1 hr];exact r0) (fun r hr hO=>by rw [dZ1.1 hr] at hO;have:=HA.o.r7 _ hO;simp only at this;omega) (fun r hr hO=>by rw [dZ1.1 hr] at hO;simp only at hO;omega) HA.o.r5.1;have HT:=jJ (aI hth k0);clear hth k0 r0;go_wp2_with (go_at_call 53;refine HT.o.1.mono ?_;rintro e w1 ⟨rfl,hst⟩;have H1:=jJ hst;clear hst)
 go_ret2
 exact cJ.after HT.o.2 ⟨rfl,H1.o⟩
end
end Go.Proofs.Q
