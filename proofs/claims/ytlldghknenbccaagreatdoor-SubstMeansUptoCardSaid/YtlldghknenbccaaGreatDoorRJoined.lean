/- What simp's joined does: some nodes joined, made simpler. -/
import Derived.Test.YtlldghknenbccaaGreatDoorRJoinB
import Derived.Test.YtlldghknenbccaaGreatDoorRClash
import Derived.Test.YtlldghknenbccaaGreatDoorRInvB
set_option linter.unusedSimpArgs false
set_option linter.unusedVariables false
set_option maxRecDepth 100000
set_option maxHeartbeats 4000000
namespace Go.Proofs.Q
open Go.RowKit Tryz
section
variable {r:(Int × Int) × aC × (Int × Int)} {M0 O:Nat→Prop} {nodes limbs x:Int} {a:Option Addr} {ids:List Int} {w:World} {gm g:Nat} {e:Ending}
structure aKN (A:aC):Prop where
 len:A.nodes.length≤1000000
 two:2≤A.nodes.length
 sound:∀i,i<A.nodes.length→IV (A.nodes.getD i aP)
 below:Below A.nodes
 kids:∀i,i<A.nodes.length→(A.nodes.getD i aP).kind=5∨(A.nodes.getD i aP).kind=6→2≤(A.nodes.getD i aP).kids.length
theorem cO.after {w1 w':World} (k:aA Nil w w1) (h:cO O M0 w1 g gm nodes limbs r e w'):cO O M0 w g gm nodes limbs r e w':=by
 obtain ⟨h1,⟨O',q1,q2,q3,q4⟩,k2⟩:=h;exact⟨h1,⟨O',q1,q2,fun b hb=>(q3 b hb).imp id fun h=>bZ1 k.size h,q4⟩,(k.of_nil (M:=fun b=>O b∨b=gm)).trans k2⟩
def YI (M:Nat→Prop) (N:aS):Value→World→Prop:=fun v w=>∃cs,v=.agg cs.toArray∧iU M w cs N
instance {M:Nat→Prop} {N:aS}:Stable (YI M N):=⟨fun _ _ _ k ⟨cs,e,h⟩=>⟨cs,e,h.move k (fun _ _ h=>h.elim) fun _ _=>id⟩⟩
theorem dH {A:aC}:fE A x=true↔0≤x∧x<(A.nodes.length:Int):=by unfold fE;exact decide_eq_true_iff
theorem aSU {B0:Nat} {M1:Nat→Prop} {A:aC} {n c:Nat} {sp ov kind:Int} (hA:bW O w g gm A) (hT:Tab B0 w) (hO:∀b,O b→M0 b) (hM0:MB M0 w) (hm:bR M0 w gm nodes limbs sp ov)
  (h:cE M1 w a n c ids) (hs0:0≤sp) (hs:sp≤nodes) (hn:nodes≤2000) (hcnt:A.cnt<1000000) (hF:aKN A) (hbig:(iB A.nodes kind ids).length≤17592186044000) (hkd:kind=5∨kind=6) (hroom:(dB A ⟨kind,0,bK,0,cM (AX A kind (gL A kind (fU A kind ids)))⟩).length≤1000000000) :
  Calls prog 107 #[.pointer (some ⟨g,0,none⟩),.int .i64 kind,.slice a n c] w fun e w'=>cO O M0 w g gm nodes limbs (cR A nodes limbs sp ov kind ids) e w':=by
 have hln:ids.length=n:=eU.len h;have hcap:=eU.cap h;have hle:=eU.le h;obtain ⟨av,cv,v1,v2,v3,hbox⟩:=hA.box;have hgA:=hbox.lt;have HA:=jJ (aI7 hA hT hO hM0 hm h hbox);have HN:=jJ (aI8 hs0 hs hn hcnt hF hbig hroom hln);clear hA hT hO hM0 hm h hbox hs0 hs hn hcnt hF hbig hroom hln;go_enter func107,ntmps107
 go_wp2
 go_step3
 go_wp2_with fail
 go_loopw [36] (fun iv wr=>∃k:Nat,k≤n∧iv=.int .i64 (k:Int)∧(∀x∈ids.take k,fE A x=true)∧aA Nil w wr) (fun iv _=>n-(intOf iv).toNat)
 case atStart=>exact⟨0,aZ2 _,rfl,fun x hx=>by simp at hx,aA.refl _ _⟩
 case round=>
  obtain ⟨k,hk,rfl,hd,hkr⟩:=hrel;by_cases hlt:k<n
  ·have j0:(0:Int)≤(k:Int):=zZ;have j1:(k:Int)<(n:Int):=zZ;obtain ⟨b,off,rfl,ck⟩:=bA (HA.o.r5.1.eO hkr) hlt;obtain ⟨x,hx⟩:∃x,x=ids.getD k 0:=⟨_,rfl⟩;rw [←hx] at ck;have hmem:x∈ids:=by rw [hx];exact cK 0 pC
   have htk:ids.take (k+1)=ids.take k++[x]:=by
    have h1:k<ids.length:=pC;rw [List.take_succ_eq_append_getElem h1,hx];simp [List.getD,h1]
   have HK:=jJ (aI4 hd hkr hmem htk);clear hd hkr hmem htk hx;cases hxk:fE A x
   ·have hno:¬(0≤x∧x<(A.nodes.length:Int)):=fun h=>by rw [dH.2 h] at hxk;cases hxk
    have HX:=jJ (aI hno hxk);clear hno hxk;go_wp2_with (go_at_call 23;refine (WL (HA.o.r6.keep HK.o.2.1 id) HX.o.1).mono ?_;rintro e w1 ⟨rfl,hk1⟩;have H1:=jJ hk1;clear hk1)
    rw [Exit.noGoto_ret];go_ret2
    have hall:ids.all (fE A)=false:=List.all_eq_false.2 ⟨x,HK.o.2.2.1,by rw [HX.o.2];simp⟩;rw [VL hall];exact cO.none HA.o.1 HA.o.2.2.1 HA.o.r4.1 ((HK.o.2.1.trans H1.o).trans kOf)
   ·have hyes:=dH.1 hxk;have hxn:x.toNat<A.nodes.length:=zZ;have hr:=DL (HA.o.1.keep HK.o.2.1 fun _ h=>h.elim) hxn HN.o.r4.1.len (HN.o.r4.1.sound _ hxn).size;rw [show ((x.toNat:Nat):Int)=x by omega] at hr;have HX:=jJ (aI hr hxk);clear hr hxk hyes hxn;go_wp2_with (go_at_call 23;refine HX.o.1.mono ?_;rintro e w1 ⟨gd,ad,nd,cd,ap,np,cp,gk,ak,nk,ck',aq,nq,cq,els,rfl,-,-,-,hk1⟩;have H1:=jJ hk1;clear hk1)
    go_roundw
    case rel=>exact⟨k+1,hlt,zF,fun y hy=>by rw [HK.o.2.2.2] at hy;rcases jZ1.1 hy with h|h;exact HK.o.1 y h;rw [dZ1.1 h];exact HX.o.2,(HK.o.2.1.trans H1.o).trans kOf⟩
    case measure=>exact zI
  ·obtain rfl:n=k:=zZ;have hall:ids.all (fE A)=true:=kZ2.2 fun x hx=>hd x (by rw [eZ1 pC];exact hx);have hin:∀x∈ids,0≤x∧x<(A.nodes.length:Int):=fun x hx=>dH.1 (kZ2.1 hall x hx);have HI:=jJ (aI3 hall hin hkr);clear hall hin hkr hd;go_upto_if 50 with (fail)
   have hkd':=jJ hkd;obtain ⟨wx0,e_1,k0,r0,r1⟩:=bx2 wr 3 [.int .i64 1] 3 [.int .i64 6];rw [e_1];clear e_1;go_cut [13] (fun v wx=>v=.int .i64 (gP kind)∧aF wx wr.heap.size 3 [.int .i64 (EW kind)]∧aF wx (wr.heap.size+1) 3 [.int .i64 (DY kind)]∧aA Nil wr wx)
   case first=>
    rcases hkd with rfl|rfl
    ·go_wp2_with fail
     go_meet
     exact⟨rfl,r0,r1,k0⟩
    ·obtain ⟨d0,f0⟩:=r0.one;obtain ⟨d1,f1⟩:=r1.one;go_wp2_with fail
     go_meet
     exact⟨rfl,(r0.set 0 (.int .i64 0)).setOther zZ,(r1.setOther zZ).set 0 (.int .i64 5),(k0.setCell (.inr (bZ2 _)) _).setCell (.inr (Nat.le_succ _)) _⟩
   case rest=>
    rename World=>wx;obtain ⟨rfl,q0,q1,kx⟩:=hcut;clear r0 r1 k0;obtain ⟨bn,hbn⟩:∃b,wr.heap.size=b:=⟨_,rfl⟩;rw [hbn] at q0 q1⊢;have kwx:aA Nil w wx:=HI.o.2.2.trans kx;have hop:=aRI (kind:=kind) (HA.o.1.keep kwx fun _ h=>h.elim) (HA.o.r5.1.eO kwx) HI.o.2.1 HN.o.r4.1.len (fun i hi=>(HN.o.r4.1.sound i hi).size) HN.o.r4.1.below (fun i hi hk=>HN.o.r4.1.kids i hi (by rcases hkd with h|h;exact .inl (hk.trans h);exact .inr (hk.trans h))) HN.o.r5.1;obtain ⟨L,hL⟩:∃L,jV A kind ids=L:=⟨_,rfl⟩;rw [show cM (iB A.nodes kind ids)=L from hL] at hop;have hLp:L.Pairwise (·<·):=by rw [←hL];exact oI _
    have hLm:∀x∈L,0≤x∧x<(A.nodes.length:Int):=fun x hx=>by
     rw [←hL] at hx;obtain ⟨y,hy,hxy⟩:=fZ3.1 (cL.1 hx);have h1:=HI.o.2.1 y hy;have h2:=KJ HN.o.r4.1.below h1.1 h1.2 hxy;omega
    have hLl:L.length≤A.nodes.length:=ML hLp hLm;have hlen:=HN.o.r4.1.len;have hbw:w.heap.size≤bn:=by rw [←hbn];exact HI.o.2.2.size
    have hq1:=q1.lt;have HX:=jJ (aI8 hop hL hLp hLm q0 q1 kwx hbw);clear hop hL hLp hLm q0 q1 kwx kx hbn;go_upto_region 14 with (go_at_call 149;refine HX.o.1.mono ?_;rintro e w4 ⟨v4,rfl,ho4,hk4⟩;obtain ⟨a4,c4,rfl⟩:=ho4.isSlice;rw [aJ] at ho4⊢;have H4:=jJ (aI ho4 hk4);clear ho4 hk4)
    have k4:aA Nil w w4:=HX.o.r6.1.trans H4.o.2;have hcn:=MU (x:=gP kind) (kG H4.o.1 (M:=Nil) (fun _ _ h=>h) rfl);have HC:=jJ (aI hcn k4);clear hcn k4;by_cases hal:gP kind∈L
    ·have HAL:=jJ hal;generalize hav:gP kind=av' at *
     have HAV:=jJ hav;clear hal hav;go_wp2_with (go_at_call 46;refine HC.o.1.mono ?_;rintro e w5 ⟨rfl,hk5⟩;rw [decide_eq_true HAL.o];have H5:=jJ hk5;clear hk5)
     rw [Exit.noGoto_ret];go_ret2
     rw [KC HI.o.1 tE,HAV.o];exact cO.none HA.o.1 HA.o.2.2.1 HA.o.r4.1 (HC.o.2.trans H5.o)
    ·have HAL:=jJ hal;generalize hav:gP kind=av' at *
     have HAV:=jJ hav;clear hal hav;go_upto_region 16 with (go_at_call 46;refine HC.o.1.mono ?_;rintro e w5 ⟨rfl,hk5⟩;rw [decide_eq_false HAL.o];have H5:=jJ hk5;clear hk5)
     have hob:∀b,(Value.slice a4 L.length c4).ownBlock=some b→bn+1<b:=fun b hb=>by have h1:=(H4.o.1.lt b hb).1;omega
     have hdel:=aAI (H4.o.1.eO H5.o) zZ (aNB (M:=Own (.slice a4 L.length c4)) (HX.o.r4.1.keep (H4.o.2.trans H5.o) id) fun h=>by have:=hob _ h;omega) (fun x hx=>by have:=HX.o.2.2.2.1 x hx;exact⟨zZ,zZ⟩);obtain ⟨R,hR⟩:∃R,fU A kind ids=R:=⟨_,rfl⟩;rw [show lZ (fun i=>decide (i=EW kind)) L=R by rw [←hR,←HX.o.2.1];rfl] at hdel;have hRm:∀x∈R,x∈L:=fun x hx=>by rw [←hR,fU,HX.o.2.1] at hx;exact (kZ3.1 hx).1
     have hRl:R.length≤A.nodes.length:=by rw [←hR,fU,HX.o.2.1];exact bZ1 (List.length_filter_le _ _) hLl
     have HD:=jJ (aI4 hdel hR (fun x hx=>HX.o.2.2.2.1 x (hRm x hx):∀x∈R,0≤x∧x<(A.nodes.length:Int)) hob);clear hdel hR hRm hob;go_upto_region 17 with (go_at_call 129;refine HD.o.1.mono ?_;rintro e w6 ⟨v6,rfl,ho6,hob6,hk6⟩;obtain ⟨a6,c6,rfl⟩:=ho6.isSlice;rw [aJ] at ho6 hob6⊢;have H6:=jJ (aI3 ho6 hob6 hk6);clear ho6 hob6 hk6)
     have k6:aA Nil wx w6:=(H4.o.2.trans H5.o).newer H6.o.2.2 fun b hb=>(H4.o.1.lt b hb).1;have q0:=HX.o.r4.1.keep k6 id;have q1:=HX.o.r5.1.keep k6 id;have k6w:=HX.o.r6.1.trans k6;have HE:=jJ (aI3 q0 q1 k6w);clear q0 q1 k6w k6;have hmm:=@run_makeMap prog;go_upto_region 18 with (fail)
     clear hmm;have rb:=aF.alloc (w:=w6.alloc (.map #[] 0)) (E:=190) (xs:=[.map (some w6.heap.size)]);change aF ((w6.alloc (.map #[] 0)).alloc (.cells #[.map (some w6.heap.size)] 190)) _ _ _ at rb;rw [show (w6.alloc (.map #[] 0)).heap.size=w6.heap.size+1 by simp] at rb;have k7:aA Nil w6 ((w6.alloc (.map #[] 0)).alloc (.cells #[.map (some w6.heap.size)] 190)):=kOf;have hmap:=(kF.made (P:=prog) (kt:=3) (fun b=>b<w6.heap.size+2) w6).eO (w':=(w6.alloc (.map #[] 0)).alloc (.cells #[.map (some w6.heap.size)] 190)) kOf;have hsz7:((w6.alloc (.map #[] 0)).alloc (.cells #[.map (some w6.heap.size)] 190)).heap.size=w6.heap.size+2:=zW;generalize (w6.alloc (.map #[] 0)).alloc (.cells #[.map (some w6.heap.size)] 190)=w7 at *
     obtain ⟨bm,hbm⟩:∃b,w6.heap.size=b:=⟨_,rfl⟩;rw [hbm] at rb hmap hsz7⊢;have hwb:w.heap.size≤bm:=by rw [←hbm];exact HE.o.2.2.size
     have hob6:∀b,(Value.slice a6 R.length c6).ownBlock=some b→b<bm:=fun b hb=>by rw [←hbm];exact (H6.o.1.lt b hb).2
     have H7:=jJ (aI7 rb k7 hmap hsz7 hbm hwb hob6);clear rb k7 hmap hsz7 hbm hwb hob6;go_wp2_with fail
     go_loopg [65] R.length (fun g1 iv w8=>∃k:Nat,k+g1=R.length∧iv=.int .i64 (k:Int)∧kF prog 3 (fun b=>b<bm+2) w8 bm k (fun u=>if u∈R.take k then ndA A u else aP)∧aA (One bm) w7 w8)
     case atStart=>exact⟨0,zZ,rfl,by simpa using H7.o.2.2.1,aA.refl _ _⟩
     case round=>
      obtain ⟨k,hkg,rfl,hmap,hk8⟩:=hrel;cases gk with
      | succ g1=>
       have hlt:k<R.length:=zZ;have j0:(0:Int)≤(k:Int):=zZ;have j1:(k:Int)<(R.length:Int):=zZ;have hnums:=kG (M:=Nil) (((H6.o.1.eO H7.o.2.1).keep hk8 fun b hb (e:b=bm)=>by have:=H7.o.r6 b hb;omega)) (fun _ _ h=>h) rfl;obtain ⟨b,off,hae,ck⟩:=bA hnums hlt;subst hae;have hx:=HD.o.2.2.1 (R.getD k 0) (cK 0 hlt);have htk:=GQ hlt;generalize R.getD k 0=x at *
       have hxn:x.toNat<A.nodes.length:=zZ;have hcall:=fun (W:World) (q:aA Nil wr W)=>aFC ((((HA.o.1.keep (HE.o.2.2.trans H7.o.2.1) fun _ h=>h.elim).keep hk8 fun b (e:b=bm) hb=>by have h1:=HA.o.1.lt b hb;have h2:=H7.o.r5.1;omega)).keep q fun _ h=>h.elim) hxn HN.o.r4.1.len (HN.o.r4.1.sound _ hxn).size;rw [show ((x.toNat:Nat):Int)=x by omega] at hcall;have rbx:=(H7.o.1.keep hk8 (fun e:bm+1=bm=>zZ));have hs8:bm+2≤wr.heap.size:=by rw [←H7.o.2.2.2.1];exact hk8.size
       have HK:=jJ (aI7 hcall hmap hk8 htk hx rbx hs8);clear hcall hmap hk8 htk hx rbx hs8 hnums hxn;go_upto_region 21 with (fail)
       refine aX 6 [5] [69,70,71,72,73,1078] [69,70,71,72,73] [Un (eT ?v2_0),Un (eT ?v2_1),Un (eT ?v2_2),Un (eT ?v2_3),Un (YI (fun b=>b<bm+2) (ndA A x)),nothing] (aB.sk (aB.nx ?r2_4 (aB.nx ?r2_3 (aB.nx ?r2_2 (aB.nx ?r2_1 (aB.nx ?r2_0 aB.zero)))))) ?rfn2
       case' r2_0|r2_1|r2_2|r2_3|r2_4=>
        intro us wj hk hp K hK;try simp only [aQ,Act.put,sL] at hK⊢
        obtain ⟨d0,-⟩:=(HK.o.r5.1.keep hk id).one
       case' r2_0|r2_1|r2_2|r2_3=>
        go_simp
        refine hK.out _ _ (aA.refl _ _) ?_;exact rfl
       case' r2_4=>
        have e2:us 71=_:=hp 2;have e3:us 72=_:=hp 3;rw [e2,e3] at hK⊢;go_simp
        refine (HK.o.1 wj hk).mono ?_;rintro e wk ⟨gd,ad,nd,cd,ap,np,cp,gk,ak,nk,ck',aq,nq,cq,rfl,hn,hk2⟩;exact hK.out _ _ hk2 (⟨_,rfl,_,_,_,_,_,_,_,_,_,_,_,_,_,_,rfl,hn.move (aA.refl Nil _) (fun _ _ h=>h.elim) fun b _ (hb:b<bm+2)=>by have h1:=HK.o.r6;have h2:=hk.size;show b<wj.heap.size;omega⟩)
       case' rfn2=>
       intro us wz hkz hf;simp only [aQ,Act.put,sL];have e0:us 69=_:=hf 0;have e1:us 70=_:=hf 1;have e2:us 71=_:=hf 2;have e3:us 72=_:=hf 3;obtain ⟨cs4,e4,h4⟩:(YI (fun b=>b<bm+2) (ndA A x)) (us 73) wz:=hf 4;clear hf;simp only [e0,e1,e2,e3,e4];clear e0 e1 e2 e3 e4 us;refine aK 5 fun K hK=>?_;obtain ⟨w9,hrun,hcm9,hk9⟩:=kF.put (t:=190) (e:=59) (HK.o.2.1.eO hkz) underlying3 underlying190 (v:=x) (by have:=HK.o.r4.1;exact⟨zZ,zZ⟩) zZ (show bm<bm+2 by omega) h4;go_simp
       refine mK ?_;clear hK K;refine aR zX ?_ _;have H9:=jJ (aI3 hcm9 hk9 hkz);clear hcm9 hk9 hkz hrun;go_wp2_with fail
       go_roundg g1
       case measure=>omega
       case rel=>exact⟨k+1,zZ,zF,by rw [HK.o.2.2.2.1,aFO];exact H9.o.1,(HK.o.2.2.1.WR H9.o.2.2).trans H9.o.2.1⟩
      | zero=>
       obtain rfl:k=R.length:=zZ;rw [List.take_length] at hmap;obtain ⟨w8,rfl⟩:∃w8,w8=wr:=⟨_,rfl⟩;have ho8:=((H6.o.1.eO H7.o.2.1).keep hk8 fun b hb (e:b=bm)=>by have:=H7.o.r6 b hb;omega);have k8:aA Nil w w8:=(HE.o.2.2.trans H7.o.2.1).newer hk8 fun b (e:b=bm)=>by rw [e];exact H7.o.r5.1
       have hbo:=HE.o.2.1.lt;have q1:=(HE.o.2.1.keep H7.o.2.1 id).keep hk8 fun e:bn+1=bm=>by have:=H7.o.r4.1;omega
       have rb8:=H7.o.1.keep hk8 fun e:bm+1=bm=>zZ;obtain ⟨C,hC⟩:∃C:Int→aS,C=fun u=>if u∈R then ndA A u else aP:=⟨_,rfl⟩
       rw [←hC] at hmap;have hCR:∀x∈R,C x=ndA A x∧IV (ndA A x)∧fI x:=fun x hx=>by
        have h1:=HD.o.2.2.1 x hx;exact⟨by rw [hC];exact if_pos hx,HN.o.r4.1.sound _ zZ,⟨zZ,zZ⟩⟩
       have H8:=jJ (aI7 ho8 k8 q1 rb8 hmap hC hCR);clear hmap ho8 k8 hbo q1 rb8 hC hCR hk8 hkg;obtain ⟨i1,hi1⟩:=info_parts BI;have HI1:=jJ hi1;clear hi1;go_wp2_with fail
       go_step3
       go_wp2_with fail
       go_loopg [19,77] R.length (fun g1 v iv w9=>∃(k:Nat) (va:Option Addr) (vc:Nat),k+g1=R.length∧iv=.int .i64 (k:Int)∧v=.slice va (lW A kind R k).length vc∧aL w9 w8.heap.size 3 1 (.slice va (lW A kind R k).length vc) (aO (lW A kind R k))∧aA Nil w8 w9)
       case atStart=>exact⟨0,none,0,zZ,rfl,rfl,aL.nil _ _ _ _,aA.refl _ _⟩
       case round=>
        obtain ⟨k,va,vc,hkg,rfl,rfl,hown,hk9⟩:=hrel;cases gk with
        | succ g1=>
         have hlt:k<R.length:=zZ;have j0:(0:Int)≤(k:Int):=zZ;have j1:(k:Int)<(R.length:Int):=zZ;have hku:(lW A kind R k).length≤1000000:=bZ1 (List.length_filter_le _ _) (bZ1 (List.length_take_le _ _) zZ);obtain ⟨w9,rfl⟩:∃w9,w9=wr:=⟨_,rfl⟩;have hnums:=kG (M:=Nil) (H8.o.1.eO hk9) (fun _ _ h=>h) rfl;obtain ⟨b,off,hae,ck⟩:=bA hnums hlt;subst hae;have hx:=cK 0 hlt;have htk:=GQ hlt;generalize R.getD k 0=x at *
         have HK:=jJ (aI5 hown hk9 htk hx hnums);clear hown hk9 htk hx hnums;go_wp2_with fail
         go_loopg [83] R.length (fun g2 jv wy=>∃j:Nat,j+g2=R.length∧jv=.int .i64 (j:Int)∧(∀y∈R.take j,nS kind (ndA A x) (ndA A y)=false)∧aA Nil w9 wy)
         case atStart=>exact⟨0,zZ,rfl,fun y hy=>by simp at hy,aA.refl _ _⟩
         case round=>
          obtain ⟨j,hjg,rfl,hj,hky⟩:=hrel;cases gk with
          | succ g2=>
           have hlt2:j<R.length:=zZ;have i0:(0:Int)≤(j:Int):=zZ;have i1':(j:Int)<(R.length:Int):=zZ;obtain ⟨b',off',hae,ck2⟩:=bA (HK.o.r4.eO hky) hlt2;cases hae;have hy:=cK 0 hlt2;have htk2:=GQ hlt2;generalize R.getD j 0=y at *
           obtain ⟨d0,-⟩:=(H8.o.2.2.2.1.keep (HK.o.2.1.trans hky) id).one;have hx3:=H8.o.r6 x HK.o.2.2.2.1;have hy3:=H8.o.r6 y hy;have HY:=jJ (aI6 hj hky htk2 hx3 hy3 hy);clear hj hky htk2 hx3 hy3 hy ck;cases hwk:nS kind (ndA A x) (ndA A y)
           ·have HW:=jJ hwk;clear hwk;go_wp2_with (first|(at_lookup;have q:=HL1;refine dP _ rfl _ _ 190 rfl 3 59 underlying3 underlying190 CJ bm R.length C rfl (H8.o.r4.1.eO (HK.o.2.1.trans HY.o.2.1)) y rfl HY.o.r4.1.2.2 ?_;rintro cs2 hcs;rw [HY.o.r4.1.1] at hcs;have HL2:=jJ hcs;clear hcs q)|(at_lookup;refine dP _ rfl _ _ 190 rfl 3 59 underlying3 underlying190 CJ bm R.length C rfl (H8.o.r4.1.eO (HK.o.2.1.trans HY.o.2.1)) x rfl HY.o.2.2.2.1.2.2 ?_;rintro cs1 hcs;rw [HY.o.2.2.2.1.1] at hcs;have HL1:=jJ hcs;clear hcs)|(go_at_call 152;refine (aBR HL1.o HL2.o HY.o.2.2.2.1.2.1 HY.o.r4.1.2.1 hkd).mono ?_;rintro e wz ⟨rfl,hkz⟩;rw [HW.o];have HZ:=jJ hkz;clear hkz))
            go_roundg g2
            case measure=>omega
            case rel=>exact⟨j+1,zZ,zF,fun u hu=>uL,HY.o.2.1.trans HZ.o⟩
           ·have HW:=jJ hwk;clear hwk;go_wp2_with (first|(at_lookup;have q:=HL1;refine dP _ rfl _ _ 190 rfl 3 59 underlying3 underlying190 CJ bm R.length C rfl (H8.o.r4.1.eO (HK.o.2.1.trans HY.o.2.1)) y rfl HY.o.r4.1.2.2 ?_;rintro cs2 hcs;rw [HY.o.r4.1.1] at hcs;have HL2:=jJ hcs;clear hcs q)|(at_lookup;refine dP _ rfl _ _ 190 rfl 3 59 underlying3 underlying190 CJ bm R.length C rfl (H8.o.r4.1.eO (HK.o.2.1.trans HY.o.2.1)) x rfl HY.o.2.2.2.1.2.2 ?_;rintro cs1 hcs;rw [HY.o.2.2.2.1.1] at hcs;have HL1:=jJ hcs;clear hcs)|(go_at_call 152;refine (aBR HL1.o HL2.o HY.o.2.2.2.1.2.1 HY.o.r4.1.2.1 hkd).mono ?_;rintro e wz ⟨rfl,hkz⟩;rw [HW.o];have HZ:=jJ hkz;clear hkz))
            go_roundg g1
            case measure=>omega
            case rel=>
             have hw:AO A kind R x=true:=eZ3.2 ⟨y,HY.o.r5,HW.o⟩;rw [←aRA HK.o.2.2.1 hw] at HK⊢;exact⟨k+1,va,vc,zZ,zF,rfl,HK.o.1.eO (HY.o.2.1.trans HZ.o),HK.o.2.1.trans (HY.o.2.1.trans HZ.o)⟩
          | zero=>
           have hw:AO A kind R x=false:=List.any_eq_false.2 fun y hy=>by rw [hj y (by rw [eZ1 zZ];exact hy)];simp
           have HW:=jJ (aI3 hw hky (HK.o.1.eO hky));have hsz9:w8.heap.size≤wr.heap.size:=bZ1 HK.o.2.1.size hky.size;clear hw hj hky ck;go_wp2_with (at_builtin;go_loud (refine bY _ rfl (.tmp 96) (.tmp 98) 56 rfl w8.heap.size 3 i1 (.int .i64 0) 1 8 underlying56 HI1.o.1 HI1.o.2.1 HI1.o.2.2.1 HI1.o.2.2.2 rfl zY (.slice va (lW A kind R k).length vc) _ rfl (HW.o.2.2.eO kOf) ⟨wr.heap.size,0,none⟩ 1 1 [[.int .i64 x]] rfl rfl zW (EI _ _ _) yO wX wX zV ?_);intro v' w2 ho hk2 hf2 _;obtain ⟨a7,c7,rfl⟩:=ho.isSlice;have e7:(aO (lW A kind R k)++[[Value.int .i64 x]]).length=(lW A kind R (k+1)).length:=(by rw [aFI HK.o.2.2.1 HW.o.1,aZ1,aZ1,aJ];rfl);rw [e7] at ho⊢;rw [←FZ,←aFI HK.o.2.2.1 HW.o.1] at ho;clear e7;have HO:=jJ (aI ho hk2);clear ho hk2 hf2)
           go_roundg g1
           case measure=>omega
           case rel=>exact⟨k+1,a7,c7,zZ,zF,rfl,HO.o.1,(HK.o.2.1.trans HW.o.2.1).trans' ((aA.refl Nil wr).alloc _) (fun _ h=>h.elim) |>.newer HO.o.2 fun b hb=>(HW.o.2.2.lt b hb).1⟩
        | zero=>
         obtain rfl:k=R.length:=zZ;obtain ⟨K,hK⟩:∃K,gL A kind R=K:=⟨_,rfl⟩;rw [aSY,hK] at hown⊢;have hKR:∀x∈K,x∈R:=fun x hx=>by rw [←hK] at hx;exact (kZ3.1 hx).1
         have hKl:K.length≤R.length:=by rw [←hK];exact List.length_filter_le _ _
         obtain ⟨w9,rfl⟩:∃w9,w9=wr:=⟨_,rfl⟩;have hnumK:=kG (M:=Nil) hown (fun _ _ h=>h) rfl;have hcapK:=eU.cap hnumK;have hleK:=eU.le hnumK;have HL:=jJ (aI5 hown hk9 hK hKR hnumK);clear hown hk9 hK hKR hkg hnumK;go_wp2_with fail
         go_loopg [103] K.length (fun g1 iv wy=>∃k:Nat,k+g1=K.length∧iv=.int .i64 (k:Int)∧jU A kind K k=false∧aA Nil w9 wy)
         case atStart=>exact⟨0,zZ,rfl,rfl,aA.refl _ _⟩
         case round=>
          obtain ⟨k,hkg,rfl,hcl,hk10⟩:=hrel;cases gk with
          | succ g1=>
           have hlt:k<K.length:=zZ;have j0:(0:Int)≤(k:Int):=zZ;have j1:(k:Int)<(K.length:Int):=zZ;have j2:(k:Int)≤(vc:Int):=zZ;obtain ⟨w10,rfl⟩:∃w10,w10=wr:=⟨_,rfl⟩;obtain ⟨b,off,hae,ck⟩:=bA (HL.o.r4.eO hk10) hlt;subst hae;obtain ⟨x,hxe⟩:∃x,K.getD k 0=x:=⟨_,rfl⟩;have hx:=cK 0 hlt;rw [hxe] at ck hx;have HM:=jJ (aI4 hcl hk10 hxe hx);clear hcl hk10 hxe hx;go_wp2_with fail
           go_loopg [112] k (fun g2 jv wy=>∃j:Nat,j+g2=k∧jv=.int .i64 (j:Int)∧(∀y∈K.take j,AU kind (ndA A x) (ndA A y)=false)∧aA Nil w9 wy)
           case atStart=>exact⟨0,zZ,rfl,fun y hy=>by simp at hy,HM.o.2.1⟩
           case round=>
            obtain ⟨j,hjg,rfl,hj,hky⟩:=hrel;cases gk with
            | succ g2=>
             have hlt2:j<K.length:=zZ;have i0:(0:Int)≤(j:Int):=zZ;have i1':(j:Int)<(k:Int):=zZ;obtain ⟨b',off',hae,ck2⟩:=bA (HL.o.r4.eO hky) hlt2;cases hae;have hyk:K.getD j 0∈K.take k:=by rw [List.mem_take_iff_getElem];exact⟨j,zZ,by simp [List.getD,hlt2]⟩
             have htk2:=GQ hlt2;generalize K.getD j 0=y at *
             obtain ⟨d0,-⟩:=(H8.o.2.2.2.1.keep (HL.o.2.1.trans hky) id).one;have hx3:=H8.o.r6 x (HL.o.2.2.2.1 x HM.o.2.2.2);have hy3:=H8.o.r6 y (HL.o.2.2.2.1 y (cZ3 hyk));have HY:=jJ (aI6 hj hky htk2 hx3 hy3 hyk);clear hj hky htk2 hx3 hy3 hyk ck;cases hwk:AU kind (ndA A x) (ndA A y)
             ·have HW:=jJ hwk;clear hwk;go_wp2_with (first|(at_lookup;have q:=HL1;refine dP _ rfl _ _ 190 rfl 3 59 underlying3 underlying190 CJ bm R.length C rfl (H8.o.r4.1.eO (HL.o.2.1.trans HY.o.2.1)) y rfl HY.o.r4.1.2.2 ?_;rintro cs2 hcs;rw [HY.o.r4.1.1] at hcs;have HL2:=jJ hcs;clear hcs q)|(at_lookup;refine dP _ rfl _ _ 190 rfl 3 59 underlying3 underlying190 CJ bm R.length C rfl (H8.o.r4.1.eO (HL.o.2.1.trans HY.o.2.1)) x rfl HY.o.2.2.2.1.2.2 ?_;rintro cs1 hcs;rw [HY.o.2.2.2.1.1] at hcs;have HL1:=jJ hcs;clear hcs)|(go_at_call 153;refine (aER HL1.o HL2.o HY.o.2.2.2.1.2.1 HY.o.r4.1.2.1 hkd).mono ?_;rintro e wz ⟨rfl,hkz⟩;rw [HW.o];have HZ:=jJ hkz;clear hkz))
              go_roundg g2
              case measure=>omega
              case rel=>exact⟨j+1,zZ,zF,fun u hu=>uL,HY.o.2.1.trans HZ.o⟩
             ·have HW:=jJ hwk;clear hwk;go_wp2_with (first|(at_lookup;have q:=HL1;refine dP _ rfl _ _ 190 rfl 3 59 underlying3 underlying190 CJ bm R.length C rfl (H8.o.r4.1.eO (HL.o.2.1.trans HY.o.2.1)) y rfl HY.o.r4.1.2.2 ?_;rintro cs2 hcs;rw [HY.o.r4.1.1] at hcs;have HL2:=jJ hcs;clear hcs q)|(at_lookup;refine dP _ rfl _ _ 190 rfl 3 59 underlying3 underlying190 CJ bm R.length C rfl (H8.o.r4.1.eO (HL.o.2.1.trans HY.o.2.1)) x rfl HY.o.2.2.2.1.2.2 ?_;rintro cs1 hcs;rw [HY.o.2.2.2.1.1] at hcs;have HL1:=jJ hcs;clear hcs)|(go_at_call 153;refine (aER HL1.o HL2.o HY.o.2.2.2.1.2.1 HY.o.r4.1.2.1 hkd).mono ?_;rintro e wz ⟨rfl,hkz⟩;rw [HW.o];have HZ:=jJ hkz;clear hkz))
              rw [Exit.noGoto_ret];go_ret2
              rw [JN HI.o.1 tE (by rw [HD.o.2.1,HL.o.2.2.1];exact aPN (n:=k) (eZ3.2 ⟨y,HY.o.r5,by rw [HM.o.2.2.1];exact HW.o⟩) hlt),HAV.o];exact cO.none HA.o.1 HA.o.2.2.1 HA.o.r4.1 ((H8.o.2.1.trans HL.o.2.1).trans (HY.o.2.1.trans HZ.o))
            | zero=>
             have hcs:jU A kind K (k+1)=false:=by
              rw [aOD,HM.o.1,Bool.false_or,HM.o.2.2.1];exact List.any_eq_false.2 fun y hy=>by rw [hj y (by rw [show j=k by omega];exact hy)];simp
             have HW:=jJ (aI hcs hky);clear hcs hj hky ck;go_wp2_with fail
             go_roundg g1
             case measure=>omega
             case rel=>exact⟨k+1,zZ,zF,HW.o.1,HW.o.2⟩
          | zero=>
           obtain rfl:k=K.length:=zZ;obtain ⟨w10,rfl⟩:∃w10,w10=wr:=⟨_,rfl⟩;have HM:=jJ (aI hcl hk10);clear hcl hk10 hkg;have hmm:=@run_makeMap prog;go_upto_region 45 with (fail)
           clear hmm;have rb:=aF.alloc (w:=w10.alloc (.map #[] 0)) (E:=86) (xs:=[.map (some w10.heap.size)]);change aF ((w10.alloc (.map #[] 0)).alloc (.cells #[.map (some w10.heap.size)] 86)) _ _ _ at rb;rw [show (w10.alloc (.map #[] 0)).heap.size=w10.heap.size+1 by simp] at rb;have k11:aA Nil w10 ((w10.alloc (.map #[] 0)).alloc (.cells #[.map (some w10.heap.size)] 86)):=kOf;have hmap:=(jW.made (P:=prog) (kt:=3) (et:=3) w10).keep (M:=Nil) (w':=(w10.alloc (.map #[] 0)).alloc (.cells #[.map (some w10.heap.size)] 86)) kOf id;generalize (w10.alloc (.map #[] 0)).alloc (.cells #[.map (some w10.heap.size)] 86)=w11 at *
           obtain ⟨bt,hbt⟩:∃b,w10.heap.size=b:=⟨_,rfl⟩;rw [hbt] at rb hmap⊢;have H11:=jJ (aI4 rb k11 hmap hbt);clear rb k11 hmap hbt;go_wp2_with fail
           go_loopg [130] K.length (fun g1 iv w12=>∃k:Nat,k+g1=K.length∧iv=.int .i64 (k:Int)∧jW prog 3 3 w12 bt k (fun u=>if u∈K.take k then 1 else 0)∧aA (One bt) w11 w12)
           case atStart=>exact⟨0,zZ,rfl,by simpa using H11.o.2.2.1,aA.refl _ _⟩
           case round=>
            obtain ⟨k,hkg,rfl,hmap,hk12⟩:=hrel;have k912:aA Nil w9 wr:=(HM.o.2.trans H11.o.2.1).newer hk12 fun b (e:b=bt)=>by rw [e,←H11.o.2.2.2];exact HM.o.2.size
            cases gk with
            | succ g1=>
             have hlt:k<K.length:=zZ;have j0:(0:Int)≤(k:Int):=zZ;have j1:(k:Int)<(K.length:Int):=zZ;obtain ⟨b,off,hae,ck⟩:=bA (HL.o.r4.eO k912) hlt;subst hae;have hx:=(H8.o.r6 _ (HL.o.2.2.2.1 _ (cK 0 hlt))).2.2;have htk:=GQ hlt;generalize K.getD k 0=x at *
             obtain ⟨d0,-⟩:=(H11.o.1.keep hk12 fun e:bt+1=bt=>zZ).one;have HK:=jJ (aI4 hmap hk12 htk hx);clear hmap hk12 htk hx k912;go_wp2_with (at_mapUpdate;go_loud (refine YX _ rfl _ _ _ 86 rfl 3 3 underlying3 underlying86 underlying3 bt k _ rfl HK.o.1 zC x 1 rfl HK.o.2.2.2 rfl ⟨zY,zY⟩ ?_);intro w13 hm13 hk13;have H13:=jJ (aI hm13 hk13);clear hm13 hk13)
             go_roundg g1
             case measure=>omega
             case rel=>exact⟨k+1,zZ,zF,by rw [HK.o.2.2.1,aFO (fun _=>(1:Int))];exact H13.o.1,HK.o.2.1.trans H13.o.2⟩
            | zero=>
             obtain rfl:k=K.length:=zZ;rw [List.take_length] at hmap;obtain ⟨w12,rfl⟩:∃w12,w12=wr:=⟨_,rfl⟩;have hrt:=H11.o.1.keep hk12 fun e:bt+1=bt=>zZ;have hC64:∀i,fI i→(C i).kids.length≤1000000000∧∀k∈(C i).kids,fI k:=fun i _=>by
              by_cases hi:i∈R
              ·have h3:=H8.o.r6 i hi;have h1:=HD.o.2.2.1 i hi;rw [h3.1];exact⟨h3.2.1.size.kids,fun k hk=>by have:=HN.o.r4.1.below.kid h1.1 h1.2 hk;exact⟨zZ,zZ⟩⟩
              ·rw [H8.o.r5.1];simp only [if_neg hi];exact⟨zY,fun k hk=>by cases hk⟩
             have hpred:∀x∈K,(decide ((C x).kind=DY kind)&&(C x).kids.any fun k=>decide ((fun u=>if u∈K then (1:Int) else 0) k=1))=CW A kind K x:=fun x hx=>by
              rw [(H8.o.r6 x (HL.o.2.2.2.1 x hx)).1];unfold CW;congr 2;funext k;by_cases hk:k∈K<;>simp [hk]
             have hleft:lZ (fun x=>decide ((C x).kind=DY kind)&&(C x).kids.any fun k=>decide ((fun u=>if u∈K then (1:Int) else 0) k=1)) K=AX A kind K:=List.filter_congr fun x hx=>congrArg (fun b=>!b) (hpred x hx);have hk64:∀x∈K,fI x:=fun x hx=>(H8.o.r6 x (HL.o.2.2.2.1 x hx)).2.2;have hlen2:(AX A kind K).length≤K.length:=List.length_filter_le _ _;have hclo:=TB (HL.o.r4.eO k912) zZ;have hO:=jJ (aI7 hclo hmap hrt hC64 hleft hk64 k912);clear hmap hk12 hkg hrt hC64 hpred hleft hk64 hclo k912;go_upto_region 51 with (first|(go_at_call 129;refine HQ.o.1.mono ?_;rintro e w14 ⟨v14,rfl,ho14,hob14,hk14⟩;obtain ⟨a14,c14,rfl⟩:=ho14.isSlice;rw [aJ] at ho14 hob14⊢;have H14:=jJ (aI3 ho14 hob14 hk14);clear ho14 hob14 hk14)|(go_at_call 75;refine hO.out.1.mono ?_;rintro e w13 ⟨v13,rfl,ho13,hk13⟩;obtain ⟨a13,c13,rfl⟩:=ho13.isSlice;rw [aJ] at ho13⊢;have hdel:=aAI ho13 zZ (aOA (M:=Own (.slice a13 K.length c13)) (M0:=fun b=>b<bm+2) (bs:=bm+1) (bo:=bn+1) (bt:=bt+1) (oth:=DY kind) (C:=C) (D:=fun u=>if u∈K then (1:Int) else 0) (fun W q=>(fun kW:aA Nil w12 W=>⟨⟨bm,R.length,H8.o.2.2.2.1.keep ((HL.o.2.1.trans hO.out.r6).trans kW) id,H8.o.r4.1.eO ((HL.o.2.1.trans hO.out.r6).trans kW)⟩,H8.o.2.2.1.keep ((HL.o.2.1.trans hO.out.r6).trans kW) id,bt,K.length,hO.out.2.2.1.keep kW id,hO.out.2.1.keep kW id⟩) (hk13.newer q fun b hb=>(ho13.lt b hb).1)) hO.out.2.2.2.1) hO.out.r5.1;rw [hO.out.r4.1] at hdel;have HQ:=jJ (aI3 hdel hk13 (fun b hb=>(ho13.lt b hb).1));clear hdel hk13 ho13))
             have k14:aA Nil w w14:=((H8.o.2.1.trans HL.o.2.1).trans (hO.out.r6.trans HQ.o.2.1)).newer H14.o.2.2 fun b hb=>bZ1 ((H8.o.2.1.trans HL.o.2.1).trans hO.out.r6).size (HQ.o.2.2 b hb);have hj:=UO (kind:=kind) (HA.o.1.keep k14 fun _ h=>h.elim) (HA.o.2.1.eO k14) HA.o.2.2.1 (HA.o.2.2.2.1.keep k14) (HA.o.r4.1.eO k14) (kG (M:=Nil) H14.o.1 (fun _ _ h=>h) rfl) HN.o.1 HN.o.2.1 HN.o.2.2.1 HN.o.2.2.2.1 HN.o.r4.1.len HN.o.r4.1.two zZ (by rw [←HL.o.2.2.1,←HD.o.2.1];exact HN.o.r6.1);have HJ:=jJ (aI hj k14);clear hj k14;go_wp2_with (go_at_call 52;refine HJ.o.1.mono ?_;rintro e w15 ⟨rfl,hst⟩;have H15:=jJ hst;clear hst)
             rw [Exit.noGoto_ret];go_ret2
             rw [JW HI.o.1 tE (by rw [HD.o.2.1,HL.o.2.2.1];exact HM.o.1),HD.o.2.1,HL.o.2.2.1];exact cO.after HJ.o.2 ⟨rfl,H15.o⟩
end
end Go.Proofs.Q
