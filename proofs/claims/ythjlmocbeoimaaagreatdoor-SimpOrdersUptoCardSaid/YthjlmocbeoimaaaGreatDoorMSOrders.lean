/- What the law SimpOrders does: it answers true. -/
import Derived.Test.YthjlmocbeoimaaaGreatDoorMSimpC
import Derived.Test.YthjlmocbeoimaaaGreatDoorMFixes
import Derived.Test.YthjlmocbeoimaaaGreatDoorMPickB
set_option linter.unusedSimpArgs false
set_option linter.unusedVariables false
set_option maxRecDepth 100000
set_option maxHeartbeats 8000000
namespace Go.Rid
theorem other_same {P L:List Int} (h:∀x∈L,x∈P):∀x,x∈P↔x∈L++P:=fun x=>⟨fun hx=>jZ1.2 (.inr hx),fun hx=>(jZ1.1 hx).elim (h x) id⟩
theorem turn_place {p n i:Nat} (hp:p<n) (hi:i<n):∃q:Nat,q<n∧((p:Int)+n-1-i+n).tmod (n:Int)=(q:Int):=by
 obtain ⟨m,hm⟩:∃m:Nat,(p:Int)+n-1-i+n=(m:Int):=⟨p+n-1-i+n,by omega⟩;rw [hm];exact⟨m % n,Nat.mod_lt _ (by omega),by rw [Int.tmod_eq_emod_of_nonneg (by omega)];exact (Int.natCast_emod m n).symm⟩
end Go.Rid
namespace Go.Proofs.Q
open Go.RowKit Go.Rid
variable {r:(Int × Int) × aO × (Int × Int)} {O M M1:Nat→Prop} {V ids:List Int} {a:Option Addr} {nodes limbs sp ov:Int} {B0 gm g n c:Nat} {w w0 w6:World} {l:List dJ} {e:Ending}
theorem sjoin_big {M0:Nat→Prop} {A:aO} {kind:Int} (hA:cE O w g gm A) (hT:Tab B0 w) (hO:∀b,O b→M0 b) (hM0:MB M0 w) (hm:bQ M0 w gm nodes limbs sp ov)
  (h:bH M1 w a n c ids) (hI:bD V nodes limbs A sp) (hn:nodes≤2000) (hl:limbs≤8) (hV:V.length≤262144) (hids:∀k∈ids,0≤k∧k<(A.nodes.length:Int)) (hbig:(dQ A.nodes kind ids).length≤17592186044000) (hkd:kind=5∨kind=6) :
  Calls Tryz.prog 20 #[.pointer (some ⟨g,0,none⟩),.int .i64 kind,.slice a n c] w fun e w'=>cH O M0 w g gm nodes limbs (bF A nodes limbs sp ov kind ids) e w':=
 joined_any hA hT hO hM0 hm h hI.inv.sp0 hI.inv.spn hn (by have:=hI.inv.cnt;have:=hI.inv.spn;omega) (hI.fine hn hl hV) hbig hkd (roomK hI.inv hn hV (by omega) (by omega) (fun _=>rfl) (neatF_pair _) fun k hk=>by
  obtain ⟨y,hy,hxy⟩:=left_mem (mem_neatF.1 hk);have h1:=hids y hy;have h2:=flatX_mem hI.below h1.1 h1.2 hxy;omega)
structure UpM (M:Nat→Prop) (w0 w6 w:World) (O:Nat→Prop) (g gm:Nat) (nodes limbs:Int) (A:aO) (sp ov:Int):Prop where
 up:Up w0 w O g gm nodes limbs A sp ov
 inM:∀b,O b∨b=gm→M b
 grow:∀b,w6.heap.size≤b→M b
 keep:aA M w6 w
theorem UpM.on {M:Nat→Prop} {w0 w6 w w1:World} {O:Nat→Prop} {g gm:Nat} {nodes limbs:Int} {A:aO} {sp ov:Int} (h:UpM M w0 w6 w O g gm nodes limbs A sp ov) (k:aA Nil w w1):UpM M w0 w6 w1 O g gm nodes limbs A sp ov:=⟨h.up.on k,h.inM,h.grow,h.keep.trans' k fun _ hb=>hb.elim⟩
theorem UpM.step {w':World} {A:aO} (h:UpM M w0 w6 w O g gm nodes limbs A sp ov) (hst:cH O O w g gm nodes limbs r e w') :
  e=.returned (.tuple #[.int .i64 r.1.1,.int .i64 r.1.2])∧∃O':Nat→Prop,UpM M w0 w6 w' O' g gm nodes limbs r.2.1 r.2.2.1 r.2.2.2:=by
 obtain ⟨h1,⟨O',q1,q2,q3,q4⟩,k⟩:=hst;have h6:=h.keep.size;refine ⟨h1,O',⟨q1,q4.move (aA.refl Nil w') (fun _ _ h=>h.elim) fun b _ hb=>.inr hb,fun b hb=>?_,h.up.keep.newer k h.up.low⟩,fun b hb=>?_,h.grow,h.keep.trans' k fun b hb=>.inl (h.inM b hb)⟩
 ·rcases hb with hb|hb
  ·rcases q3 b hb with h2|h2
   ·exact h.up.low b (.inl h2)
   ·exact bZ1 h.up.keep.size h2
  ·exact h.up.low b (.inr hb)
 ·rcases hb with hb|hb
  ·rcases q3 b hb with h2|h2
   ·exact h.inM b (.inl h2)
   ·exact h.grow b (by omega)
  ·exact h.inM b (.inr hb)
theorem and_up {A:aO} (hU:UpM M w0 w6 w O g gm nodes limbs A sp ov) (hT:Tab B0 w) (h:bH M1 w a n c ids) (hI:bD V nodes limbs A sp) (hn:nodes≤2000) (hl:limbs≤8) (hV:V.length≤262144) (hids:∀k∈ids,0≤k∧k<(A.nodes.length:Int)) (hbig:(dQ A.nodes 5 ids).length≤17592186044000) (hr:r=bF A nodes limbs sp ov 5 ids) :
  Calls Tryz.prog 7 #[.pointer (some ⟨g,0,none⟩),.slice a n c] w fun e w'=>e=.returned (.tuple #[.int .i64 r.1.1,.int .i64 r.1.2])∧∃O':Nat→Prop,UpM M w0 w6 w' O' g gm nodes limbs r.2.1 r.2.2.1 r.2.2.2:=by
 have hj:=sjoin_big (kind:=5) (ov:=ov) hU.up.arena hT (fun _ h=>h) hU.up.mb hU.up.meter h hI hn hl hV hids hbig (by decide);have HJ:=jJ (aI3 hU hj hr);clear hT h hI hn hl hV hids hj hU hr hbig;go_enter Tryz.func7,Tryz.ntmps7
 go_wp2_with (go_at_call 20;refine HJ.o.2.1.mono ?_;rintro e w1 hst;rw [←HJ.o.2.2] at hst;obtain ⟨rfl,O',hu⟩:=HJ.o.1.step hst;have H1:=jJ hu;clear hst hu)
 go_ret2
 exact⟨rfl,O',H1.o⟩
theorem or_up {A:aO} (hU:UpM M w0 w6 w O g gm nodes limbs A sp ov) (hT:Tab B0 w) (h:bH M1 w a n c ids) (hI:bD V nodes limbs A sp) (hn:nodes≤2000) (hl:limbs≤8) (hV:V.length≤262144) (hids:∀k∈ids,0≤k∧k<(A.nodes.length:Int)) (hbig:(dQ A.nodes 6 ids).length≤17592186044000) (hr:r=bF A nodes limbs sp ov 6 ids) :
  Calls Tryz.prog 8 #[.pointer (some ⟨g,0,none⟩),.slice a n c] w fun e w'=>e=.returned (.tuple #[.int .i64 r.1.1,.int .i64 r.1.2])∧∃O':Nat→Prop,UpM M w0 w6 w' O' g gm nodes limbs r.2.1 r.2.2.1 r.2.2.2:=by
 have hj:=sjoin_big (kind:=6) (ov:=ov) hU.up.arena hT (fun _ h=>h) hU.up.mb hU.up.meter h hI hn hl hV hids hbig (by decide);have HJ:=jJ (aI3 hU hj hr);clear hT h hI hn hl hV hids hj hU hr hbig;go_enter Tryz.func8,Tryz.ntmps8
 go_wp2_with (go_at_call 20;refine HJ.o.2.1.mono ?_;rintro e w1 hst;rw [←HJ.o.2.2] at hst;obtain ⟨rfl,O',hu⟩:=HJ.o.1.step hst;have H1:=jJ hu;clear hst hu)
 go_ret2
 exact⟨rfl,O',H1.o⟩
theorem again_up {A:aO} {x:Int} (hU:UpM M w0 w6 w O g gm nodes limbs A sp ov) (hT:Tab B0 w) (hB:B0≤w0.heap.size) (hI:bD V nodes limbs A sp) (hl0:0≤limbs) (hn:nodes≤2000) (hl:limbs≤8) (hV:V.length≤262144) (hr:r=cM (cD nodes limbs) A sp ov x) :
  Calls Tryz.prog 10 #[.pointer (some ⟨g,0,none⟩),.int .i64 x] w fun e w'=>e=.returned (.tuple #[.int .i64 r.1.1,.int .i64 r.1.2])∧∃O':Nat→Prop,UpM M w0 w6 w' O' g gm nodes limbs r.2.1 r.2.2.1 r.2.2.2:=
 (again_any (nid:=x) hU.up.arena hT (fun _ h=>h) hU.up.mb hU.up.meter (fun b hb=>bZ1 hB (hU.up.low b hb)) hI hl0 hn hl hV).mono fun e w1 hst=>by
  rw [←hr] at hst;exact hU.step hst
theorem simpOrders_walk {a1 a2:Option Addr} {n1 n2 c1 c2 k1 k2:Nat} {of:List Int} {turn:Int} (hT:Tab w.heap.size w) (h1:MakesAt Nil w a1 n1 c1 l∧5*(varsM l).length+l.length≤k1+20) (h2:bH Nil w a2 n2 c2 of∧of.length+1≤k2∧∀k∈of,I64 k) (h3:I64 turn) (hb:k1+k2≤1048576) :
  Calls Tryz.prog 4 #[.slice a1 n1 c1,.slice a2 n2 c2,.int .i64 turn] w fun e w'=>e=.returned (.bool true)∧aA Nil w w':=by
 obtain ⟨i1,hi1⟩:=info_parts info_int;have HI:=jJ hi1;clear hi1;obtain ⟨V,hV⟩:∃V,V=varsM l:=⟨_,rfl⟩;have hVl:V.length≤262144:=by rw [hV];omega
 have sm1:=h1.1.small (V:=V) (fun v hv=>by rw [hV];exact hv) (by omega);have hX1:∀m∈l.take 40,SmallX V m.x:=fun m hm=>sm1.1 m (aZ3 hm);obtain ⟨s1,e1⟩:∃s,s=buildM 2000 8 ⟨startA,0,0,[0,1]⟩ (l.take 40):=⟨_,rfl⟩;have i0:InvA V 2000 startA 0:=InvA.start (by decide) (by decide);have j1:=(InvS.start (ov:=0) i0).build (limbs:=8) hX1;have hall1:=buildM_all (V:=V) (nodes:=2000) (limbs:=8) (by decide) (s:=⟨startA,0,0,[0,1]⟩) AllN.start hX1;have hext:=buildM_ext (nodes:=2000) (limbs:=8) (s:=⟨startA,0,0,[0,1]⟩) (l:=l.take 40);have hfive:=buildM_five (nodes:=2000) (limbs:=8) (l:=l.take 40) (s:=⟨startA,0,0,[0,1]⟩) AllN.start;rw [←e1] at j1 hall1 hext hfive;have hS:bD V 2000 8 s1.A s1.sp:=⟨j1.inv,hall1,hext⟩;have hlen42:s1.A.nodes.length≤42:=by have h4:=hfive.2;have h5:(l.take 40).length≤40:=(by rw [iZ1];omega);have h6:startA.nodes.length=2:=rfl;simp only at h4;omega
 have hids2:=j1.two;have hidsl:s1.ids.length≤42:=by have h4:=j1.len;have h5:(l.take 40).length≤40:=(by rw [iZ1];omega);omega
 obtain ⟨P,hP⟩:∃P,P=pickM s1.ids of:=⟨_,rfl⟩;have hPl:P.length≤12:=by rw [hP];exact pickM_len
 have hPr:∀k∈P,0≤k∧k<(s1.A.nodes.length:Int):=fun k hk=>by rw [hP] at hk;exact j1.ids k (pickM_mem (by omega) hk)
 have m1:MakesAt (fun b=>w.heap.size≤b) w a1 n1 c1 l:=h1.1.move (aA.refl Nil w) (fun _ _ h=>h.elim) fun b hb hx=>by omega
 obtain ⟨n,hn⟩:∃n,n=P.length:=⟨_,rfl⟩;rw [←hn] at hPl;have hVi:∀v∈V,I64 v:=fun v hv=>sm1.2 v (by rw [←hV];exact hv);have HV:=jJ (aI7 hVl hVi sm1.1 i0 hS hfive.1 hlen42);have HE:=jJ (aI4 e1 hP hn hPr);have HM:=jJ (aI4 m1 h2.1 h2.2.2 h3);have HT:=jJ hT;have HD:=jJ (aI hids2 hidsl);clear hVi hV hVl sm1 hX1 e1 i0 j1 hall1 hext hfive hS hlen42 hids2 hidsl hP hPr m1 hn h1 h2 h3 hb hT;go_enter Tryz.func4,Tryz.ntmps4
 go_upto_region 2 with (go_at_call 6;go_loud (refine (awake9_any HT.o).mono ?_);rintro e w1 ⟨rfl,hk1⟩;have H1:=jJ hk1;clear hk1)
 go_upto_region 3 with (go_at_call 11;refine (anew_nil (M:=Nil) (MB.nil _)).mono ?_;rintro e w2 ⟨g,b2,b3,b4,b5,gm,hm,hgm,rfl,r0,r2,r3,r4,r5,hk,h1,h2,h3,h4,h5⟩;have H2:=jJ (Up.start hm hgm r0 r2 r3 r4 r5 hk h1 h2 h3 h4 h5);clear hm hgm r0 r2 r3 r4 r5 hk h1 h2 h3 h4 h5)
 obtain ⟨O,hU⟩:=H2.o;have z1:=H1.o.size;have k02:aA Nil w w2:=H1.o.trans hU.keep;have mk2:=HM.o.1.move k02 (M2:=fun b=>w.heap.size≤b) (fun _ _ h=>h.elim) fun _ _ h=>h;have HU:=jJ hU;have HB2:=jJ (aI k02 mk2);clear k02 mk2 hU H2;go_upto_region 4 with (go_at_call 12;go_loud (refine (built9_any (B0:=w.heap.size) (M0:=O) HU.o.arena (HT.o.keepNil HB2.o.1) (fun b hb=>bZ1 z1 (HU.o.low b hb)) (fun _ h=>h) HU.o.mb HU.o.meter HB2.o.2 (fun b hb=>bZ1 z1 (HU.o.low b hb)) HV.o.2.2.2.1 (by decide) HV.o.1 HV.o.2.1 HV.o.2.2.1).mono ?_);rintro e w3 ⟨v3,O3,rfl,h3⟩;rw [←HE.o.1] at h3;obtain ⟨a3,d3,rfl⟩:=h3.own.isSlice;rw [aL] at h3⊢;have H3:=jJ h3;clear h3)
 have z3:=H3.o.keep.size;have u3:Up w1 w3 O3 g gm 2000 8 s1.A s1.sp s1.ov:=⟨H3.o.arena,H3.o.meter.move (aA.refl Nil w3) (fun _ _ h=>h.elim) fun b _ hb=>.inr (.inl hb),fun b hb=>by
  rcases hb with hb|hb
  ·rcases H3.o.down b hb with h|h
   ·exact HU.o.low b (.inl h)
   ·exact bZ1 HU.o.keep.size h
  ·exact HU.o.low b (.inr hb),HU.o.keep.newer H3.o.keep HU.o.low⟩
 have hid3:bH Nil w3 a3 s1.ids.length d3 s1.ids:=by
  obtain ⟨a,c,e,hq⟩:=aP.sl (M:=Nil) (R:=RI) (d:=0) (xs:=s1.ids) H3.o.own (fun _ _ h=>h) (by rw [aL]) (fun i hi=>by rw [aL] at hi;simp [RI,aQ,List.getD,hi]);rw [aL] at e hq;cases e;exact hq
 have o3:∀b,O3 b∨b=gm→b<w3.heap.size:=fun b hb=>by
  rcases hb with hb|rfl
  ·exact u3.arena.lt b hb
  ·exact u3.meter.lt
 have HU3:=jJ (aI3 u3 hid3 o3);clear u3 hid3 o3;have of3:bH Nil w3 a2 n2 c2 of:=HM.o.2.1.keepNil (H1.o.trans HU3.o.1.keep);have HO3:=jJ of3;clear of3;go_upto_region 5 with (go_at_call 13;refine (picked9_any HO3.o HU3.o.2.1 HM.o.2.2.1 (by have:=HD.o.1;omega) (by have:=HD.o.2;omega)).mono ?_;rintro e w4 ⟨v4,rfl,ho,hk⟩;rw [←HE.o.2.1] at ho;obtain ⟨a4,d4,rfl⟩:=ho.isSlice;rw [aL,←HE.o.2.2.1] at ho⊢;have H4:=jJ (aI ho hk);clear ho hk)
 have z4:=H4.o.2.size;have own4:∀b,(Value.slice a4 n d4).ownBlock=some b→w3.heap.size≤b∧b<w4.heap.size:=fun b hb=>H4.o.1.lt b hb;have n4:bH (fun b=>¬(w3.heap.size≤b∧b<w4.heap.size)) w4 a4 n d4 P:=by
  obtain ⟨a,c,e,hq⟩:=aP.sl (M:=fun b=>¬(w3.heap.size≤b∧b<w4.heap.size)) (R:=RI) (d:=0) (xs:=P) H4.o.1 (fun b hb h=>h (own4 b hb)) (by rw [aL]) (fun i hi=>by rw [aL] at hi;simp [RI,aQ,List.getD,hi]);rw [aL,←HE.o.2.2.1] at e hq;cases e;exact hq
 have HN4:=jJ n4;clear n4 own4;go_wp2_with fail
 go_loopw [12,13] (fun v i wr=>∃(j:Nat) (va:Option Addr) (vc:Nat) (L:List Int),j≤n∧i=.int .i64 (j:Int)∧v=.slice va j vc∧L.length=j∧(∀x∈L,x∈P)∧aP wr w4.heap.size 3 1 (.slice va j vc) (aQ L)∧aA Nil w4 wr) (fun _ i _=>n-(intOf i).toNat)
 case atStart=>exact⟨0,none,0,[],aZ2 _,rfl,rfl,rfl,(fun x hx=>absurd hx hZ2),aP.nil _ _ _ _,aA.refl _ _⟩
 case round=>
  obtain ⟨j,va,vc,L,hj,rfl,rfl,hL,hLP,hown,hkr⟩:=hrel;have lr:w4.heap.size≤wr.heap.size:=hkr.size;by_cases hlt:j<n
  ·obtain ⟨p,hp⟩:∃p,p=pickN turn n:=⟨_,rfl⟩;have hpl:p<n:=by rw [hp];exact pickN_lt (by omega)
   obtain ⟨q,hq,eq⟩:=turn_place hpl hlt;obtain ⟨b,off,rfl,cp⟩:=aY (HN4.o.keepNil hkr) hq;obtain ⟨y,hy⟩:∃y,y=P.getD q 0:=⟨_,rfl⟩;have hym:y∈P:=by rw [hy];exact cC 0 (by rw [←HE.o.2.2.1];exact hq)
   rw [←hy] at cp;have j1:(j:Int)<(n:Int):=by omega
   have j3:(0:Int)≤(q:Int):=by omega
   have j4:(q:Int)<(n:Int):=by omega
   have hnI:¬(n:Int)=0:=by omega
   have hn1:1≤n:=by omega
   have hn2:n≤1000000:=by omega
   have HC:=jJ (aI7 hown hkr hL hLP hp lr hym);clear hown hkr hL hLP hp hy hlt lr hym;go_wp2_with (first|(go_at_call 14;refine (pick8_any (c:=turn) (n:=n) HM.o.2.2.2 hn1 hn2).mono ?_;rintro e w5 ⟨rfl,rfl⟩;rw [←HC.o.r4.1])|(at_builtin;go_loud (refine bI _ rfl (.tmp 46) (.tmp 62) 22 rfl w4.heap.size 3 i1 (.int .i64 0) 1 8 Tryz.underlying22 HI.o.1 HI.o.2.1 HI.o.2.2.1 HI.o.2.2.2 rfl (by decide) (.slice va j vc) _ rfl (HC.o.1.keepNil (w':=wr.alloc (.cells #[.int .i64 y] 3)) kOf) ⟨wr.heap.size,0,none⟩ 1 1 [[.int .i64 y]] rfl rfl (by simp) (alloc_news _ _ _) (by simp [Value.oneCell']) (by rw [aL,HC.o.2.2.1];omega) (by rw [aL,HC.o.2.2.1];omega) (by have:=HC.o.2.1.size;simp;omega) ?_);intro v' w5 ho hk2 hf2 _;obtain ⟨a7,c7,rfl⟩:=ho.isSlice;have e7:(aQ L++[[Value.int .i64 y]]).length=j+1:=(by rw [aZ1,aL,HC.o.2.2.1];rfl);rw [e7] at ho⊢;have HO:=jJ (aI ho hk2);clear ho hk2 hf2 e7))
   go_roundw
   case rel=>exact⟨j+1,a7,c7,L++[y],by omega,by go_num,rfl,by rw [aZ1,HC.o.2.2.1];rfl,fun x hx=>(jZ1.1 hx).elim (HC.o.2.2.2.1 x) fun h=>by rw [dZ1.1 h];exact HC.o.r6,by rw [cells1_snoc];exact HO.o.1,(HC.o.2.1.trans (c:=wr.alloc (.cells #[.int .i64 y] 3)) kOf).trans' HO.o.2 (fun b hb=>.inr (HC.o.1.lt b hb).1)⟩
   case measure=>simp [intOf];omega
  ·have hjn:j=n:=by omega
   subst hjn;have e0:decide ((j:Int)<(j:Int))=false:=by simp
   have n5:bH (fun b=>¬(w3.heap.size≤b∧b<w4.heap.size)) wr a4 j d4 P:=HN4.o.keepNil hkr;have HC:=jJ (aI5 hown hkr hL hLP n5);clear hown hkr hL hLP hlt n5;go_upto_region 12 with (at_builtin;refine wpList_append_sl rfl _ _ 22 rfl w4.heap.size 3 i1 (.int .i64 0) 1 8 Tryz.underlying22 HI.o.1 HI.o.2.1 HI.o.2.2.1 HI.o.2.2.2 rfl (by decide) (.slice va j vc) _ rfl HC.o.1 rfl HC.o.r4 (fun cs x h v hv=>by cases h;rw [dZ1.1 hv];rfl) (by rw [aL,HC.o.2.2.1];omega) (by rw [aL,HC.o.2.2.1];omega) lr ?_;intro v6 w6 ne ho hl hr hk hf;have H6:=jJ (aI4 ho hl hr hk);clear ho hl hr hk hf)
   have hne:ne=aQ P:=by
    refine List.ext_getElem (by rw [H6.o.2.1,aL];exact HE.o.2.2.1) fun i h1 h2=>?_;have h3:=H6.o.2.2.1 i (by rw [←H6.o.2.1];exact h1);rw [aL] at h2;simpa [RI,List.getD,aQ,h1,h2] using h3
   have k46:aA Nil w4 w6:=HC.o.2.1.trans' H6.o.2.2.2 fun b hb=>.inr (HC.o.1.lt b hb).1;have z6:=k46.size;have ho6:=H6.o.1;rw [hne] at ho6;obtain ⟨a6,d6,rfl⟩:=ho6.isSlice;obtain ⟨m,hm⟩:∃m,m=(L++P).length:=⟨_,rfl⟩;have hlm:(aQ L++aQ P).length=m:=by rw [aZ1,aL,aL,hm,aZ1]
   rw [hlm] at ho6⊢;have hml:m≤24:=by rw [hm,aZ1,HC.o.2.2.1,←HE.o.2.2.1];omega
   have nm6:bH (fun b=>¬(w3.heap.size≤b∧b<w6.heap.size)) w6 a6 m d6 (L++P):=by
    obtain ⟨a,c,e,hq⟩:=aP.sl (M:=fun b=>¬(w3.heap.size≤b∧b<w6.heap.size)) (R:=RI) (d:=0) (xs:=L++P) ho6 (fun b hb h=>h ⟨by have:=(ho6.lt b hb).1;omega,(ho6.lt b hb).2⟩) (by rw [hlm,hm]) (fun i hi=>by
     rw [hlm,hm] at hi;rw [←cells1_append];obtain ⟨Z,hZ⟩:∃Z,Z=L++P:=⟨_,rfl⟩;rw [←hZ] at hi⊢;simp [RI,aQ,List.getD,hi])
    rw [hlm] at e hq;cases e;exact hq
   have np6:bH (fun b=>¬(w3.heap.size≤b∧b<w6.heap.size)) w6 a4 j d4 P:=HN4.o.move k46 (fun _ _ h=>h.elim) fun b hb h=>by omega
   have uM:UpM (fun b=>¬(w3.heap.size≤b∧b<w6.heap.size)) w1 w6 w6 O3 g gm 2000 8 s1.A s1.sp s1.ov:=⟨(HU3.o.1.on H4.o.2).on k46,fun b hb h=>by have:=HU3.o.2.2 b hb;omega,fun b hb h=>by omega,aA.refl _ _⟩;have hsame:=other_same HC.o.2.2.2.1;obtain ⟨r1,f1⟩:∃r,r=bF s1.A 2000 8 s1.sp s1.ov 5 P:=⟨_,rfl⟩;obtain ⟨r2,f2⟩:∃r,r=bF r1.2.1 2000 8 r1.2.2.1 r1.2.2.2 5 (L++P):=⟨_,rfl⟩;obtain ⟨r3,f3⟩:∃r,r=bF r2.2.1 2000 8 r2.2.2.1 r2.2.2.2 6 P:=⟨_,rfl⟩;obtain ⟨r4,f4⟩:∃r,r=bF r3.2.1 2000 8 r3.2.2.1 r3.2.2.2 6 (L++P):=⟨_,rfl⟩;obtain ⟨r5,f5⟩:∃r,r=bF r4.2.1 2000 8 r4.2.2.1 r4.2.2.2 5 [r1.1.1]:=⟨_,rfl⟩;obtain ⟨r6,f6⟩:∃r,r=bF r5.2.1 2000 8 r5.2.2.1 r5.2.2.2 6 [r3.1.1]:=⟨_,rfl⟩;obtain ⟨r7,f7⟩:∃r,r=cM (cD 2000 8) r6.2.1 r6.2.2.1 r6.2.2.2 r1.1.1:=⟨_,rfl⟩;obtain ⟨r8,f8⟩:∃r,r=cM (cD 2000 8) r7.2.1 r7.2.2.1 r7.2.2.2 r7.1.1:=⟨_,rfl⟩;have hlaw:=orders_law HV.o.r4.1 (by decide) (by decide) hsame f1 f2 f3 f4 f5 f6 f7 f8;obtain ⟨⟨s11,s12,s13,s14,x11,x12,x13⟩,hok⟩:=hlaw;have hS:=HV.o.r4.1;have pr:∀F:aO,Ext s1.A F→∀k∈P,0≤k∧k<(F.nodes.length:Int):=fun F hF k hk=>by have:=HE.o.2.2.2 k hk;have:=hF.len;omega
   have or':∀F:aO,Ext s1.A F→∀k∈L++P,0≤k∧k<(F.nodes.length:Int):=fun F hF k hk=>pr F hF k ((hsame k).2 hk);have bp:∀(kind:Int) (F:aO),Below F.nodes→Ext s1.A F→(dQ F.nodes kind P).length≤17592186044000:=fun kind F hB hF=>by
    rw [flatL_ext hB hF HE.o.2.2.2];exact flatL_big hS HV.o.r5.1 HV.o.r6 HE.o.2.2.2 (by rw [←HE.o.2.2.1];omega)
   have bo:∀(kind:Int) (F:aO),Below F.nodes→Ext s1.A F→(dQ F.nodes kind (L++P)).length≤17592186044000:=fun kind F hB hF=>by
    rw [flatL_ext hB hF (or' _ (Ext.refl _))];exact flatL_big hS HV.o.r5.1 HV.o.r6 (or' _ (Ext.refl _)) (by rw [←hm];exact hml)
   have T6:Tab w.heap.size w6:=HT.o.keepNil (H1.o.trans uM.up.keep);have c1:=and_up (V:=V) uM T6 np6 hS (by decide) (by decide) HV.o.1 (pr _ (Ext.refl _)) (bp _ _ hS.below (Ext.refl _)) f1;have HQ:=jJ (aI3 c1 nm6 np6);have HW:=jJ (aI4 s11 s12 s13 s14);have HX:=jJ (aI3 x11 x12 x13);have HF:=jJ (aI7 f2 f3 f4 f5 f6 f7 f8);have HR:=jJ hok;have HPR:=jJ pr;have HOR:=jJ or';have HBP:=jJ bp;have HBO:=jJ bo;clear hne k46 ho6 hm hlm hml nm6 np6 uM hsame s11 s12 s13 s14 x11 x12 x13 hok hS pr or' bp bo c1 f1 f2 f3 f4 f5 f6 f7 f8 T6;obtain ⟨x,hx⟩:∃x,r1.1.1=x:=⟨_,rfl⟩;obtain ⟨ee,he⟩:∃x,r1.1.2=x:=⟨_,rfl⟩;obtain ⟨z,hz⟩:∃x,r3.1.1=x:=⟨_,rfl⟩;obtain ⟨gg,hg⟩:∃x,r3.1.2=x:=⟨_,rfl⟩;obtain ⟨y,hy⟩:∃x,r2.1.1=x:=⟨_,rfl⟩;obtain ⟨ff,hf⟩:∃x,r2.1.2=x:=⟨_,rfl⟩;obtain ⟨v,hv⟩:∃x,r4.1.1=x:=⟨_,rfl⟩;obtain ⟨hh,hhh⟩:∃x,r4.1.2=x:=⟨_,rfl⟩;have HS:=jJ (aI8 hx he hz hg hy hf hv hhh);clear hx he hz hg hy hf hv hhh;go_upto_region 13 with (go_at_call 7;refine HQ.o.1.mono ?_;rintro e w7 ⟨rfl,O7,hu⟩;rw [HS.o.1,HS.o.2.1];have H7:=jJ hu;clear hu)
   have t7:Tab w.heap.size w7:=HT.o.keepNil (H1.o.trans H7.o.up.keep);have q7:bH (fun b=>¬(w3.heap.size≤b∧b<w6.heap.size)) w7 a6 m d6 (L++P):=HQ.o.2.1.move H7.o.keep (fun _ _ h=>h) fun _ _ h=>h;have c7:=and_up (V:=V) H7.o t7 q7 HW.o.1 (by decide) (by decide) HV.o.1 (HOR.o _ HX.o.1) (HBO.o _ _ HW.o.1.below HX.o.1) HF.o.1;have HC7:=jJ c7;clear t7 q7 c7;go_upto_region 14 with (go_at_call 7;refine HC7.o.mono ?_;rintro e w8 ⟨rfl,O8,hu⟩;rw [HS.o.r4.1,HS.o.r5.1];have H8:=jJ hu;clear hu)
   have t8:Tab w.heap.size w8:=HT.o.keepNil (H1.o.trans H8.o.up.keep);have q8:bH (fun b=>¬(w3.heap.size≤b∧b<w6.heap.size)) w8 a4 j d4 P:=HQ.o.2.2.move H8.o.keep (fun _ _ h=>h) fun _ _ h=>h;have c8:=or_up (V:=V) H8.o t8 q8 HW.o.2.1 (by decide) (by decide) HV.o.1 (HPR.o _ HX.o.2.1) (HBP.o _ _ HW.o.2.1.below HX.o.2.1) HF.o.2.1;have HC8:=jJ c8;clear t8 q8 c8;go_upto_region 15 with (go_at_call 8;refine HC8.o.mono ?_;rintro e w9 ⟨rfl,O9,hu⟩;rw [HS.o.2.2.1,HS.o.2.2.2.1];have H9:=jJ hu;clear hu)
   have t9:Tab w.heap.size w9:=HT.o.keepNil (H1.o.trans H9.o.up.keep);have q9:bH (fun b=>¬(w3.heap.size≤b∧b<w6.heap.size)) w9 a6 m d6 (L++P):=HQ.o.2.1.move H9.o.keep (fun _ _ h=>h) fun _ _ h=>h;have c9:=or_up (V:=V) H9.o t9 q9 HW.o.2.2.1 (by decide) (by decide) HV.o.1 (HOR.o _ HX.o.2.2) (HBO.o _ _ HW.o.2.2.1.below HX.o.2.2) HF.o.2.2.1;have HC9:=jJ c9;clear t9 q9 c9;go_upto_region 16 with (go_at_call 8;refine HC9.o.mono ?_;rintro e wA ⟨rfl,OA,hu⟩;rw [HS.o.r6.1,HS.o.r7];have HA:=jJ hu;clear hu)
   by_cases h1:¬ee=0
   ·have ee1:(ee==0)=false:=by simp [h1]
    go_wp2_with fail
    go_ret
    exact⟨rfl,H1.o.trans HA.o.up.keep⟩
   obtain rfl:=Decidable.not_not.1 h1;by_cases h3:¬gg=0
   ·have gg1:(gg==0)=false:=by simp [h3]
    go_wp2_with fail
    go_ret
    exact⟨rfl,H1.o.trans HA.o.up.keep⟩
   obtain rfl:=Decidable.not_not.1 h3;have hr:=HR.o HS.o.2.1 HS.o.2.2.2.1;obtain ⟨⟨s15,s16,s17⟩,⟨g1,g2,g3,g4⟩,l1,l2,l3,l4,l5,l6,l7,l8,l9⟩:=hr;rw [HS.o.1] at l1 l5 g1 g2;rw [HS.o.2.2.1] at l3 l6 g3 g4;rw [HS.o.r4.1] at l1;rw [HS.o.r5.1] at l2;rw [HS.o.r6.1] at l3;rw [HS.o.r7] at l4;subst l1 l2 l3 l4;have hf5:=HF.o.2.2.2.1;have hf6:=HF.o.r4.1;have hf7:=HF.o.r5.1;rw [HS.o.1] at hf5 hf7;rw [HS.o.2.2.1] at hf6;have HL:=jJ (aI5 l5 l6 l7 l8 l9);have HG:=jJ (aI7 s15 s16 s17 g1 g2 g3 g4);have HF2:=jJ (aI3 hf5 hf6 hf7);clear l5 l6 l7 l8 l9 s15 s16 s17 g1 g2 g3 g4 hf5 hf6 hf7;have tA:∀wz:World,aA Nil w1 wz→Tab w.heap.size wz:=fun wz k=>HT.o.keepNil (H1.o.trans k);have HTA:=jJ tA;clear tA;go_upto_region 19 with (go_at_call 7;have ka:aA Nil wA (wA.alloc (.cells #[.int .i64 x] 3)):=kOf;go_loud (refine (and_up (V:=V) (M1:=Nil) (ids:=[x]) (HA.o.on ka) (HTA.o _ (HA.o.on ka).up.keep) (bH.ofRow aF.alloc id rfl (by simp)) HW.o.2.2.2 (by decide) (by decide) HV.o.1 (fun k hk=>by rw [dZ1.1 hk];exact HG.o.2.2.2.1) (by have:=HG.o.r4.1;omega) HF2.o.1).mono ?_);rintro e wB ⟨rfl,OB,hu⟩;rw [HL.o.1,HL.o.2.2.1];have HB:=jJ hu;clear hu ka)
   go_upto_region 20 with (go_at_call 8;have ka:aA Nil wB (wB.alloc (.cells #[.int .i64 z] 3)):=kOf;go_loud (refine (or_up (V:=V) (M1:=Nil) (ids:=[z]) (HB.o.on ka) (HTA.o _ (HB.o.on ka).up.keep) (bH.ofRow aF.alloc id rfl (by simp)) HG.o.1 (by decide) (by decide) HV.o.1 (fun k hk=>by rw [dZ1.1 hk];exact HG.o.r5.1) (by have:=HG.o.r6;omega) HF2.o.2.1).mono ?_);rintro e wC ⟨rfl,OC,hu⟩;rw [HL.o.2.1,HL.o.2.2.2.1];have HCc:=jJ hu;clear hu ka)
   have hxC:0≤x∧x<(r6.2.1.nodes.length:Int):=by
    have h4:=(cS (ov:=r4.2.2.2) (kind:=5) (ks:=[x]) (by decide) HW.o.2.2.2).ext.len;rw [←HF2.o.1] at h4;have h5:=(cS (ov:=r5.2.2.2) (kind:=6) (ks:=[z]) (by decide) HG.o.1).ext.len;rw [←HF2.o.2.1] at h5;have:=HG.o.2.2.2.1;omega
   have HXC:=jJ hxC;clear hxC;go_upto_region 21 with (go_at_call 15;refine (aplain_any HCc.o.up.arena HXC.o.1 HXC.o.2).mono ?_;rintro e wD ⟨⟨left,rfl⟩,hk⟩;have HDd:=jJ (HCc.o.on hk);clear hk)
   have B0w:w.heap.size≤w1.heap.size:=z1;obtain ⟨one,hone⟩:∃x,r7.1.1=x:=⟨_,rfl⟩;obtain ⟨kk,hkk⟩:∃x,r7.1.2=x:=⟨_,rfl⟩;obtain ⟨two,htwo⟩:∃x,r8.1.1=x:=⟨_,rfl⟩;obtain ⟨mm,hmm⟩:∃x,r8.1.2=x:=⟨_,rfl⟩;have hf8:=HF.o.r6;rw [hone] at hf8;have l9:=HL.o.r4;rw [hkk,hone,htwo] at l9;have HY:=jJ (aI6 hone hkk htwo hmm hf8 l9);clear hone hkk htwo hmm hf8 l9;go_upto_region 22 with (go_at_call 10;go_loud (refine (again_up (V:=V) (x:=x) HDd.o (HTA.o _ HDd.o.up.keep) B0w HG.o.2.1 (by decide) (by decide) (by decide) HV.o.1 HF2.o.2.2).mono ?_);rintro e wE ⟨rfl,OE,hu⟩;rw [HY.o.1,HY.o.2.1];have HEe:=jJ hu;clear hu)
   go_upto_region 23 with (go_at_call 10;go_loud (refine (again_up (V:=V) (x:=one) HEe.o (HTA.o _ HEe.o.up.keep) B0w HG.o.2.2.1 (by decide) (by decide) (by decide) HV.o.1 HY.o.r4.1).mono ?_);rintro e wF ⟨rfl,OF,hu⟩;rw [HY.o.2.2.1,HY.o.2.2.2.1];have HFf:=jJ hu;clear hu)
   have hkF:aA Nil w wF:=H1.o.trans HFf.o.up.keep;have HKF:=jJ hkF;clear hkF;have ex:(x==x)=true:=by simp
   have ez:(z==z)=true:=by simp
   cases left
   ·go_wp2_with fail
    go_ret
    exact⟨rfl,HKF.o⟩
   by_cases hk0:¬kk=0
   ·have ek:(kk==0)=false:=by simp [hk0]
    go_wp2_with fail
    go_ret
    exact⟨rfl,HKF.o⟩
   have l9:=HY.o.r5 (Decidable.not_not.1 hk0);obtain rfl:=Decidable.not_not.1 hk0;subst l9;by_cases hm0:¬mm=0
   ·have ek:(mm==0)=false:=by simp [hm0]
    go_wp2_with fail
    go_ret
    exact⟨rfl,HKF.o⟩
   obtain rfl:=Decidable.not_not.1 hm0;have eo:(one==one)=true:=by simp
   go_wp2_with fail
   go_ret
   exact⟨rfl,HKF.o⟩
end Go.Proofs.Q
