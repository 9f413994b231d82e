/- What subst answers to law 12's awake: plain laws. -/
import Derived.Test.YtlldghknenbccaaGreatDoorRSubsD
set_option linter.unusedSimpArgs false
set_option linter.unusedVariables false
set_option maxRecDepth 100000
set_option maxHeartbeats 4000000
namespace Go.Proofs.Q
open Go.RowKit Tryz
section
variable {nodes limbs sp ov x z:Int} {N:aS} {X:aY} {l:List Int} {f:aY→aY} {T:kK} {A':aC} {u:aV}
theorem aFT {f:Nat} {sk:Int→Bool} {A:aC} (hs:sk x=false) (hk:(ndA A x).kids=[]) :
  cJ T (f+1) (fC sk ⟨fun _=>none,A,sp,ov⟩) x=((T A sp ov x []).1,⟨iL (fC sk ⟨fun _=>none,A,sp,ov⟩).came x (T A sp ov x []).1.1,(T A sp ov x []).2.1,(T A sp ov x []).2.2.1,(T A sp ov x []).2.2.2⟩):=
 KE (T:=T) (f:=f) (s:=fC sk ⟨fun _=>none,A,sp,ov⟩) (t:=fC sk ⟨fun _=>none,A,sp,ov⟩) (x:=x) (out:=[]) (show mZ sk (fun _=>none) x=none from aBW (c:=fun _=>none) rfl hs) (by show cW _ _ [] (ndA A x).kids=_;rw [hk];rfl)
theorem aCZ {F:aY→aY} {A:aC} (h:(ndA A x).kind≤4):cQ F nodes limbs A sp ov x []=cX A nodes limbs sp ov (F ⟨(ndA A x).kind,(ndA A x).d,(ndA A x).t⟩):=by
 unfold cQ;rw [if_neg zZ,if_neg zZ]
theorem UW {A:aC} {sp' ov' v y e:Int} (hx:fE A x=true) (hN:ndA A x=N) (hk:N.kids=[]) (h4:N.kind≤4) (hv:nT A v x=false) (hX:gF ⟨N.kind,N.d,N.t⟩ v u=X) (h:cX A nodes limbs sp ov X=((y,e),A',(sp',ov'))) :
  eJ A nodes limbs sp ov x v u false=(AB (y,e),A',(sp',ov')):=by
 unfold eJ;rw [if_neg (by rw [hx];simp),if_neg zW,aFT (by unfold iW;rw [hv];simp) (by rw [hN];exact hk),aCZ (by rw [hN];exact h4),hN,hX,h]
theorem aUH {A:aC} {sp' ov' y e:Int} (hx:fE A x=true) (h2:2≤x) (hN:ndA A x=N) (hk:N.kids=[]) (h4:N.kind≤4) (hp:A.plain.getD x.toNat 0=0) (hX:f ⟨N.kind,N.d,N.t⟩=X) (h:cX A nodes limbs sp ov X=((y,e),A',(sp',ov'))) :
  BP A nodes limbs sp ov x f=(AB (y,e),A',(sp',ov')):=by
 unfold BP;rw [if_neg (by rw [hx];simp),if_neg (by rw [hp];simp),aFT (by unfold nX;rw [decide_eq_false (by omega:¬x<2)];simp) (by rw [hN];exact hk),aCZ (by rw [hN];exact h4),hN,hX,h]
def vX:aY:=⟨2,0,⟨[(0,1),(1,-1)],0⟩⟩
def vN:aS:=⟨2,0,⟨[(0,1),(1,-1)],0⟩,0,[]⟩
def uX:aY:=⟨2,0,⟨[(0,1)],-3⟩⟩
def uN:aS:=⟨2,0,⟨[(0,1)],-3⟩,0,[]⟩
theorem aIW:bJ vX=(0,vX):=zX
theorem aZW:bJ uX=(0,uX):=zX
theorem bBX:gU 1 ⟨[(0,1)],0⟩ (-1) ⟨[(1,1)],0⟩=vX.t:=zX
theorem bCT:gU 1 ⟨[(1,1)],0⟩ 1 ⟨[],1⟩=⟨[(1,1)],1⟩:=zX
theorem bAK:gF vX 0 ⟨[(1,1)],1⟩=⟨1,0,bK⟩:=zX
theorem bAO:gF vX 1 ⟨[],3⟩=uX:=zX
theorem aZY:gF uX 0 ⟨[],3⟩=⟨0,0,bK⟩:=zX
theorem aYO:bJ ⟨1,0,bK⟩=(0,⟨1,0,bK⟩):=zX
theorem aWR:bJ ⟨0,0,bK⟩=(0,⟨0,0,bK⟩):=zX
theorem bAE:CU uN:=⟨zY,zY,fun _=>⟨rfl,rfl⟩,fun h=>absurd h zY,fun h=>absurd h zY⟩
theorem BM (h:z.natAbs<Bs):eP z.natAbs≤1:=dD wD
theorem WU:jM [0,1] vX:=⟨⟨zY,fun p hp=>by
 have:p=(0,1)∨p=(1,-1):=by simpa [vX] using hp
 rcases this with rfl|rfl<;>exact bZ1 (BM zY) zY,by simp [vX,nY],fun p hp=>by
 have:p=(0,1)∨p=(1,-1):=by simpa [vX] using hp
 rcases this with rfl|rfl<;>simp⟩,by simp [vX,nY]⟩
theorem aXM:jM [0,1] uX:=⟨⟨zY,fun p hp=>by
 have:p=(0,1):=by simpa [uX] using hp
 subst this;exact bZ1 (BM zY) zY,bZ1 (BM zY) zY,fun p hp=>by
 have:p=(0,1):=by simpa [uX] using hp
 subst this;simp⟩,by simp [uX,nY]⟩
theorem aOR (h:∀z∈l,z.natAbs<Bs):great 8 (l.map lH)=false:=by
 rw [aDE,List.any_eq_false];intro z hz;have:=BM (h z hz);simp;omega
def v1A:aC:=fQ gJ vN
def v2A:aC:=fQ v1A uN
theorem aIS:cX gJ 2000 8 0 0 vX=((2,0),v1A,(1,0)):=by
 unfold cX;rw [aIW,AA zY];unfold cU;rw [show fK gJ.nodes=fun _=>none from aDI];have hn:dN 2000 8 0 0 ((jD vX).map lH)=(1,0,0):=sB;simp only [];rw [hn];rfl
theorem LA:bE [0,1] 2000 8 v1A 1:=by
 have h:=(GI (V:=[0,1]) (nodes:=2000) (limbs:=8) (sp:=0) (ov:=0) WU (bE.begin zY zY)).ok;rw [aIS] at h;exact h
theorem aJF:cX v1A 2000 8 1 0 uX=((3,0),v2A,(2,0)):=by
 unfold cX;rw [aZW,AA zY];have hk:fK v1A.nodes (bB (gH uX))=none:=(LA.inv.once.aFE bAE).2 fun i h2 hi e=>by
  have hi':i=2:=by simp [v1A,fQ,gJ] at hi;omega
  subst hi';have:vN.t.k=uN.t.k:=by rw [←e];rfl
  exact absurd this zY
 unfold cU;rw [hk];have hn:dN 2000 8 1 0 ((jD uX).map lH)=(2,0,0):=sB;simp only [];rw [hn];rfl
theorem XK:bE [0,1] 2000 8 v2A 2:=by
 have h:=(GI (V:=[0,1]) (nodes:=2000) (limbs:=8) (sp:=1) (ov:=0) aXM LA).ok;rw [aJF] at h;exact h
theorem XB:fM Five v1A:=fM.add fM.start (by show [].length≤5;simp)
theorem aJJ:fM Five v2A:=fM.add XB (by show [].length≤5;simp)
theorem WY:v1A.free=[[],[],[0,1]]:=by
 have:eF gJ vN=[0,1]:=by
  unfold eF;rw [if_neg zY];have h1:dB gJ vN=[0,1]:=zX;rw [h1];unfold cM;rw [show iO [0,1]=[0,1] by unfold iO;exact List.mergeSort_of_pairwise zW];rfl
 unfold v1A fQ;rw [this];rfl
theorem bAA:v2A.free=[[],[],[0,1],[0]]:=by
 have:eF v1A uN=[0]:=by
  unfold eF;rw [if_neg zY];have h1:dB v1A uN=[0]:=zX;rw [h1];unfold cM;rw [show iO [0]=[0] by unfold iO;exact List.mergeSort_of_pairwise zW];rfl
 unfold v2A fQ;rw [this,WY];rfl
theorem bCC:eJ v1A 2000 8 1 0 2 0 ⟨[(1,1)],1⟩ false=((1,0),v1A,(1,0)):=
 UW (A:=v1A) (x:=2) (v:=0) (y:=1) (e:=0) (N:=vN) (X:=⟨1,0,bK⟩) rfl rfl rfl zY (by unfold nT;rw [WY];rfl) bAK (by unfold cX;rw [aYO,BD zY])
theorem bBC:eJ v1A 2000 8 1 0 2 1 ⟨[],3⟩ false=((3,0),v2A,(2,0)):=
 UW (A:=v1A) (x:=2) (v:=1) (y:=3) (e:=0) (N:=vN) (X:=uX) rfl rfl rfl zY (by unfold nT;rw [WY];rfl) bAO aJF
theorem bAX:eJ v2A 2000 8 2 0 3 0 ⟨[],3⟩ false=((0,0),v2A,(2,0)):=
 UW (A:=v2A) (x:=3) (v:=0) (y:=0) (e:=0) (N:=uN) (X:=⟨0,0,bK⟩) rfl rfl rfl zY (by unfold nT;rw [bAA];rfl) aZY (by unfold cX;rw [aWR,BD zY])
theorem bCL:BP v2A 2000 8 2 0 2 (fun X=>X)=((2,0),v2A,(2,0)):=by
 have hk:fK v2A.nodes (bB (gH vX))=some 2:=XK.inv.once.find zY zY rfl;refine aUH (A:=v2A) (x:=2) (f:=fun X=>X) (y:=2) (e:=0) (N:=vN) (X:=vX) rfl zY rfl rfl zY zU rfl ?_;unfold cX;rw [aIW,AA zY];unfold cU;rw [hk];rfl
theorem aIN:cB 1 1 [0,1] ⟨[(1,1)],1⟩:=⟨zW,fun p hp=>by rw [dZ1.1 hp];exact BM zY,BM zY,fun p hp=>by rw [dZ1.1 hp];simp⟩
theorem aGU:cB 1 0 [0,1] ⟨[],3⟩:=⟨zW,fun p hp=>xC,BM zY,fun p hp=>xC⟩
end
theorem aWX {M M1 M2 M3 M4:Nat→Prop} {w:World} {ga gb:Bool} {aa ap ab bp:Option Addr} {na ca np cp nb cb mp dp:Nat} {za zb:Int} {la lb:aM} (hM:MB M w) (ha:bI M1 M2 w ap np cp la) (hza:ZAt Nil w ga aa na ca za) (hb:bI M3 M4 w bp mp dp lb) (hzb:ZAt Nil w gb ab nb cb zb) (h3:na≤1073741824) (h4:nb≤1073741824) (h5:np≤16777216) (h6:mp≤16777216) :
  Calls prog 40 #[.agg #[.slice ap np cp,.bool ga,.slice aa na ca],.agg #[.slice bp mp dp,.bool gb,.slice ab nb cb]] w fun e w'=>Gives Nil (TV M (gU 1 ⟨la,za⟩ 1 ⟨lb,zb⟩)) w e w':=by
 have HM:=jJ hM;have HA:=jJ (aI8 ha hza hb hzb h3 h4 h5 h6);clear hM ha hza hb hzb h3 h4 h5 h6;go_enter func40,ntmps40
 go_upto_region 1 with (fail)
 obtain ⟨w0,e_1,k0,r0,r1,r2⟩:=bx3 w 27 [.slice ap np cp,.bool ga,.slice aa na ca] 27 [.slice bp mp dp,.bool gb,.slice ab nb cb] 27 [.slice none 0 0,.bool false,.slice none 0 0];rw [e_1];clear e_1;have lr:=r2.lt;have H0:=jJ (aI4 k0 r0 r1 r2);clear k0 r0 r1 r2;refine aX 6 [5] [5,6,7,8,9,1014] [5,6,7,8,9] [Un (ZV Nil 1),Un (eT ?v2_1),Un (ZV Nil 1),Un (eT ?v2_3),Un (TV (Old w0) (gU 1 ⟨la,za⟩ 1 ⟨lb,zb⟩)),nothing] (aB.sk (aB.nx ?r2_4 (aB.nx ?r2_3 (aB.nx ?r2_2 (aB.nx ?r2_1 (aB.nx ?r2_0 aB.zero)))))) ?rfn2
 case' r2_0|r2_1|r2_2|r2_3|r2_4=>
  intro us wj hk hp K hK;try simp only [aQ,Act.put,sL] at hK⊢
  obtain ⟨d0,d1,d2⟩:=(H0.o.2.1.keep hk id).three;obtain ⟨e0',e1',e2'⟩:=(H0.o.2.2.1.keep hk id).three
 case' r2_0|r2_2=>
  go_simp
  refine (kZ (M:=Nil) (z:=1) (MB.nil _) zZ zZ).mono ?_;rintro e wk ⟨g,a,n,c,rfl,h,hk2⟩;exact hK.out _ _ hk2 (⟨g,a,n,c,rfl,h⟩)
 case' r2_1|r2_3=>
  go_simp
  refine hK.out _ _ (aA.refl _ _) ?_;exact rfl
 case' r2_4=>
  obtain ⟨g0,a0,n0,c0,e0,h0⟩:(ZV Nil 1) (us 5) wj:=hp 0;have e1:us 6=_:=hp 1;obtain ⟨g2,a2,n2,c2,e2,h2⟩:(ZV Nil 1) (us 7) wj:=hp 2;have e3:us 8=_:=hp 3;rw [e0,e1,e2,e3] at hK⊢;go_simp
  refine (LC (M:=Old w0) (MB.gY hk.size) (h0.zat nQ) (h2.zat nQ) (HA.o.1.eO (H0.o.1.trans hk)) (HA.o.2.2.1.eO (H0.o.1.trans hk)) (HA.o.2.1.eO (H0.o.1.trans hk)) (HA.o.2.2.2.1.eO (H0.o.1.trans hk)) vI (by have:=h2.len;have:=BK;omega) HA.o.r4.1 HA.o.r5.1 HA.o.r6.1 HA.o.r7).mono ?_;rintro e wk ⟨v,rfl,hv,hk2⟩;exact hK.out _ _ hk2 (hv)
 case' rfn2=>
 intro us wz hkz hf;simp only [aQ,Act.put,sL];obtain ⟨g0,a0,n0,c0,e0,h0⟩:(ZV Nil 1) (us 5) wz:=hf 0;have e1:us 6=_:=hf 1;obtain ⟨g2,a2,n2,c2,e2,h2⟩:(ZV Nil 1) (us 7) wz:=hf 2;have e3:us 8=_:=hf 3;obtain ⟨ap4,np4,cp4,gk4,ak4,nk4,ck4,e4,h4⟩:(TV (Old w0) (gU 1 ⟨la,za⟩ 1 ⟨lb,zb⟩)) (us 9) wz:=hf 4;clear hf;simp only [e0,e1,e2,e3,e4];clear e0 e1 e2 e3 e4 us;refine aK 5 fun K hK=>?_;obtain ⟨z0,z1,z2⟩:=(H0.o.2.2.2.keep hkz id).three;obtain ⟨z3,z4,z5⟩:=(H0.o.2.2.2.keep hkz id).iZ;go_simp
 refine mK ?_;clear hK K;refine aR zX ?_ _;go_wp2_with fail
 have r6:=(H0.o.2.2.2.keep hkz id).triple (.slice ap4 np4 cp4) (.bool gk4) (.slice ak4 nk4 ck4);obtain ⟨y0,y1,y2⟩:=r6.three;exact bodyPost_ret (v:=.agg #[.slice ap4 np4 cp4,.bool gk4,.slice ak4 nk4 ck4]) (by simp [results,results40,go_sem,y0,y1,y2]) rfl ⟨_,rfl,⟨_,_,_,_,_,_,_,rfl,h4.out (M:=M) lr (fun b hb=>yL) (aA.triple (g:=w.heap.size+1+1) (.slice ap4 np4 cp4) (.bool gk4) (.slice ak4 nk4 ck4))⟩,(H0.o.1.trans hkz).own zZ (aA.triple _ _ _)⟩
theorem cO.comp {O M0:Nat→Prop} {w w1:World} {g gm:Nat} {nodes limbs sp ov:Int} {i e:Int} {A:aC} {en:Ending} (h:cO O M0 w g gm nodes limbs ((i,e),A,(sp,ov)) en w1) :
  ∃O1:Nat→Prop,bW O1 w1 g gm A∧(∀b,O b→O1 b)∧(∀b,O1 b→O b∨w.heap.size≤b)∧bR (fun b=>M0 b∨O1 b) w1 gm nodes limbs sp ov∧aA (fun b=>O b∨b=gm) w w1 ∧
   ∀{w2 w3:World} {r:(Int × Int) × aC × (Int × Int)} {en:Ending},aA Nil w1 w2→cO O1 (fun b=>M0 b∨O1 b) w2 g gm nodes limbs r en w3→cO O M0 w g gm nodes limbs r en w3:=by
 obtain ⟨-,⟨O1,h1,h2,h3,h4⟩,hk⟩:=h;refine ⟨O1,h1,h2,h3,h4,hk,fun {w2 w3 r en} k hst=>?_⟩;obtain ⟨q0,⟨O2,q1,q2,q3,q4⟩,qk⟩:=hst;have hz:=hk.size;have hz2:=k.size;have hk2:aA (fun b=>O b∨b=gm) w w2:=hk.trans k.of_nil;refine ⟨q0,⟨O2,q1,fun b hb=>q2 b (h2 b hb),fun b hb=>?_,q4.move (aA.refl Nil w3) (fun _ _ h=>h.elim) fun b _ hb=>hb.elim (fun h=>.inl (.inl h)) .inr⟩,hk2.trans' qk fun b hb=>?_⟩
 ·rcases q3 b hb with h|h
  ·exact h3 b h
  ·exact .inr zZ
 ·rcases hb with hb|hb
  ·rcases h3 b hb with h|h
   ·exact .inl (.inl h)
   ·exact .inr h
  ·exact .inl (.inr hb)
theorem aVX {A:aC} {nodes limbs sp ov x v:Int} {u:aV} {c:Bool} (h:(eJ A nodes limbs sp ov x v u c).1.2≠0):(eJ A nodes limbs sp ov x v u c).1.1=0:=by
 unfold eJ at h⊢;split
 ·rfl
 split
 ·rfl
 ·rename_i h1 h2;rw [if_neg h1,if_neg h2] at h;unfold AB at h⊢;simp only at h⊢;split
  ·rfl
  ·rename_i h3;rw [if_neg h3] at h;exact absurd rfl h
def WG (V:List Int) (vals:aM) (n:Nat) (J:Nat→Int→aC→Int→Int→Prop) (E:Int→Int→Prop):Prop:=∀(i:Nat) (x:Int) (A:aC) (sp ov:Int),i<n→J i x A sp ov→YC V A sp ov x (pth vals i).1 ⟨[],(pth vals i).2⟩∧∀c:Bool,(NoQ A.nodes x→c=false)→((eJ A 2000 8 sp ov x (pth vals i).1 ⟨[],(pth vals i).2⟩ c).1.2=0→J (i+1) (eJ A 2000 8 sp ov x (pth vals i).1 ⟨[],(pth vals i).2⟩ c).1.1 (eJ A 2000 8 sp ov x (pth vals i).1 ⟨[],(pth vals i).2⟩ c).2.1 (eJ A 2000 8 sp ov x (pth vals i).1 ⟨[],(pth vals i).2⟩ c).2.2.1 (eJ A 2000 8 sp ov x (pth vals i).1 ⟨[],(pth vals i).2⟩ c).2.2.2)∧((eJ A 2000 8 sp ov x (pth vals i).1 ⟨[],(pth vals i).2⟩ c).1.2≠0→E (eJ A 2000 8 sp ov x (pth vals i).1 ⟨[],(pth vals i).2⟩ c).1.2 (eJ A 2000 8 sp ov x (pth vals i).1 ⟨[],(pth vals i).2⟩ c).2.2.2)
def bCD (O M:Nat→Prop) (w:World) (g gm n:Nat) (J:Nat→Int→aC→Int→Int→Prop) (E:Int→Int→Prop) (e:Ending) (w':World):Prop:=∃r,cO O M w g gm 2000 8 r e w'∧(r.1.2=0→J n r.1.1 r.2.1 r.2.2.1 r.2.2.2)∧(r.1.2≠0→E r.1.2 r.2.2.2)
theorem aFL {V:List Int} {B0:Nat} {O M0 Mv:Nat→Prop} {w:World} {g gm:Nat} {A:aC} {sp ov x:Int} {a:Option Addr} {n c:Nat} {vals:aM} {J:Nat→Int→aC→Int→Int→Prop} {E:Int→Int→Prop} (hA:bW O w g gm A) (hT:Tab B0 w) (hO:∀b,O b→M0 b) (hM0:MB M0 w) (hm:bR M0 w gm 2000 8 sp ov) (hB:∀b,O b∨b=gm→B0≤b)
  (hx:fE A x=true) (hI:bE V 2000 8 A sp) (hV:V.length≤262144) (hV2:∀v∈V,I64 v) (hv:bI Mv Mv w a n c vals) (hMv:∀b,O b∨b=gm→Mv b) (hJ:J 0 x A sp ov) (hS:WG V vals n J E) :
  Calls prog 10 #[.pointer (some ⟨g,0,none⟩),.int .i64 x,.slice a n c] w fun e w'=>bCD O M0 w g gm n J E e w':=by
 obtain ⟨av,cv,v1,v2,v3,hbox⟩:=hA.box;have hgA:=hbox.lt;have hFine:=hI.fine zY zY hV;have hgm:=hm.lt;have hcap:=eU.cap hv;have hle:=eU.le hv;have HA:=jJ (aI8 hA hT hO hM0 hm hB hgm hFine);have HV:=jJ (aI6 hV hV2 hv hMv hJ hS);clear hA hT hO hM0 hm hB hI hbox hFine hV hV2 hv hMv hJ hS hgm;go_enter func10,ntmps10
 have hyes:=dH.1 hx;have hxn:x.toNat<A.nodes.length:=zZ;have hr:=DL HA.o.1 hxn HA.o.r7.len (HA.o.r7.sound _ hxn).size;rw [show ((x.toNat:Nat):Int)=x by omega] at hr;obtain ⟨N,hN⟩:∃N,A.nodes.getD x.toNat aP=N:=⟨_,rfl⟩;rw [hN] at hr;have HX:=jJ hr;clear hr hyes hxn hN hx;go_upto_region 6 with (go_at_call 23;refine HX.o.mono ?_;rintro e w1 ⟨gd,ad,nd,cd,ap,np,cp,gk,ak,nk,ck',aq,nq,cq,els,rfl,-,-,-,hk1⟩;have H1:=jJ (show aA Nil w (w1.alloc (.cells #[.int .i64 N.kind,.bool gd,.slice ad nd cd,.slice ap np cp,.bool gk,.slice ak nk ck',.int .i64 N.var,.slice aq nq cq] 59)) from hk1.trans kOf);clear hk1)
 generalize w1.alloc (.cells #[.int .i64 N.kind,.bool gd,.slice ad nd cd,.slice ap np cp,.bool gk,.slice ak nk ck',.int .i64 N.var,.slice aq nq cq] 59)=wa at *
 have h00:cO O M0 w g gm 2000 8 ((x,0),A,(sp,ov)) (.returned (.tuple #[.int .i64 x,.int .i64 0])) wa:=cO.none HA.o.1 HA.o.2.2.1 HA.o.r4.1 H1.o;have H2:=jJ h00;clear h00;go_wp2_with fail
 go_loopw [1,26] (fun v iv wr=>∃(k:Nat) (y:Int) (A1:aC) (sp1 ov1:Int),k≤n∧iv=.int .i64 (k:Int)∧v=.int .i64 y∧J k y A1 sp1 ov1∧cO O M0 w g gm 2000 8 ((y,0),A1,(sp1,ov1)) (.returned (.tuple #[.int .i64 y,.int .i64 0])) wr) (fun _ iv _=>n-(intOf iv).toNat)
 case atStart=>exact⟨0,x,A,sp,ov,aZ2 _,rfl,rfl,HV.o.r4.1,H2.o⟩
 case round=>
  obtain ⟨k,y,A1,sp1,ov1,hk,rfl,rfl,hj,hst⟩:=hrel;by_cases hlt:k<n
  ·have hst0:=hst;obtain ⟨O1,q1,q2,q3,q4,q5,qc⟩:=cO.comp hst;have hv1:bI (fun b=>O1 b∨b=gm) (fun b=>O1 b∨b=gm) wr a n c vals:=HV.o.2.2.1.widen q5 (fun b _ hb=>⟨HV.o.2.2.2.1 b hb,HV.o.2.2.2.1 b hb⟩) fun b hb hx=>by
    have:O b∨b=gm:=vY;exact⟨HV.o.2.2.2.1 b this,HV.o.2.2.2.1 b this⟩
   obtain ⟨b,off,gz,a',n',c',hae,hb,-,x0,x1,x2,hzz,hn',i1',i2'⟩:=hv1.at hlt;subst hae;have j0:(0:Int)≤(k:Int):=zZ;have j1:(k:Int)<(n:Int):=zZ;have hs:=HV.o.r5 k y A1 sp1 ov1 hlt hj;have hMP:MB (fun b=>O1 b∨b=gm) wr:=fun b hb=>hb.elim (q1.lt b) fun h=>by have:=q5.size;have:=HA.o.r6.1;omega
   have hM1:MB (fun b=>M0 b∨O1 b) wr:=fun b hb=>hb.elim (fun h=>cZ1 (HA.o.2.2.2.1 b h) q5.size) (q1.lt b);have hB1:∀b,O1 b∨b=gm→B0≤b:=fun b hb=>by
    rcases hb with hb|hb
    ·rcases q3 b hb with h|h
     ·exact HA.o.r5.1 b (.inl h)
     ·have:=HA.o.2.1.1;omega
    ·exact HA.o.r5.1 b (.inr hb)
   have hT1:Tab B0 wr:=HA.o.2.1.keep q5 HA.o.r5.1;have HC:=jJ (FU q1 q4 (@qc) hzz hs hMP hM1 hB1 hT1 hn');clear hst hj q1 q2 q3 q4 q5 qc hv1 hzz hs hMP hM1 hB1 hT1 hn' i1' i2' hst0;generalize (pth vals k).1=u at *
   generalize (pth vals k).2=z at *
   go_upto_region 9 with (fail)
   obtain ⟨wb,eb,kb,rb⟩:=bx1 wr 34 [.int .i64 u,.bool gz,.slice a' n' c'];rw [eb];clear eb;have lrb:=rb.lt;have HP:=jJ (aI kb rb);clear kb rb x0 x1 x2;go_cut [12,13] (fun f q wx=>∃r,f=.int .i64 r.1.1∧q=.int .i64 r.1.2∧cO O M0 w g gm 2000 8 r (.returned (.tuple #[.int .i64 r.1.1,.int .i64 r.1.2])) wx∧(r.1.2=0→J (k+1) r.1.1 r.2.1 r.2.2.1 r.2.2.2)∧(r.1.2≠0→r.1.1=0∧E r.1.2 r.2.2.2))
   case first=>
    refine aX 13 [7,8,9,10,11,12] [31,32,33,34,35,36,37,38,30,39,40,12,13] [31,32,33,34,35,36,37] [Un (eT ?v1_0),Un (eT ?v1_1),Un (eT ?v1_2),Un (eT ?v1_3),Un (eT ?v1_4),Un (eT ?v1_5),Un (TV (fun b=>O1 b∨b=gm) ⟨[],z⟩),nothing,nothing,nothing,nothing,nothing,nothing] (aB.sk (aB.sk (aB.sk (aB.sk (aB.sk (aB.sk (aB.nx ?r1_6 (aB.nx ?r1_5 (aB.nx ?r1_4 (aB.nx ?r1_3 (aB.nx ?r1_2 (aB.nx ?r1_1 (aB.nx ?r1_0 aB.zero))))))))))))) ?rfn1
    case' r1_0|r1_1|r1_2|r1_3|r1_4|r1_5|r1_6=>
     intro us wj hk hp K hK;try simp only [aQ,Act.put,sL] at hK⊢
     obtain ⟨d0,d1,d2⟩:=(HP.o.2.keep hk id).three;have lrj:=cZ1 lrb hk.size
    case' r1_0|r1_1|r1_2|r1_4=>
     go_simp
     refine hK.out _ _ (aA.refl _ _) ?_;exact rfl
    case' r1_3=>
     have e2:us 33=_:=hp 2;rw [e2] at hK⊢;go_simp
     refine hK.out _ _ (aA.refl _ _) ?_;exact rfl
    case' r1_5=>
     have e4:us 35=_:=hp 4;rw [e4] at hK⊢;go_simp
     refine hK.out _ _ (aA.refl _ _) ?_;exact rfl
    case' r1_6=>
     have e5:us 36=_:=hp 5;rw [e5] at hK⊢;go_simp
     refine (aCF (M:=fun b=>O1 b∨b=gm) (fun b hb=>cZ1 (HC.o.r5.1 b hb) (HP.o.1.trans hk).size) (HC.o.2.2.2.1.gK.eO (HP.o.1.trans hk))).mono ?_;rintro e wk ⟨v,rfl,⟨ap,np,cp,gk,ak,nk,ck,rfl,h⟩,hk2⟩;exact hK.out _ _ hk2 (⟨_,_,_,_,_,_,_,rfl,h⟩)
    case' rfn1=>
    intro us wz hkz hf;simp only [aQ,Act.put,sL];have e0:us 31=_:=hf 0;have e1:us 32=_:=hf 1;have e2:us 33=_:=hf 2;have e3:us 34=_:=hf 3;have e4:us 35=_:=hf 4;have e5:us 36=_:=hf 5;obtain ⟨ap6,np6,cp6,gk6,ak6,nk6,ck6,e6,h6⟩:(TV (fun b=>O1 b∨b=gm) ⟨[],z⟩) (us 37) wz:=hf 6;clear hf;simp only [e0,e1,e2,e3,e4,e5,e6];clear e0 e1 e2 e3 e4 e5 e6 us;refine aK 7 fun K hK=>?_;go_simp
    have kz:=HP.o.1.trans hkz;have hzl:eP z.natAbs≤1073741824:=bZ1 HC.o.2.2.2.1.iD HC.o.r9;have hin:=HC.o.r4.1.1;have hl6:nk6=eP z.natAbs:=h6.2.len;have hps:=WA (V:=V) (B0:=B0) (O:=O1) (M0:=fun b=>M0 b∨O1 b) (x:=y) (v:=u) (ov:=ov1) (HC.o.1.keep kz fun _ h=>h.elim) (HC.o.r8.1.eO kz) (fun _ h=>.inr h) (fun b hb=>cZ1 (HC.o.r6.1 b hb) kz.size) (HC.o.2.1.eO kz) HC.o.r7.1 hin HV.o.1 HV.o.2.1 (cV.raw h6.1 fun p hp=>xC) (h6.2.at' zZ) (fun b hb=>⟨hb,hb,hb⟩) zZ (by have:=eU.len h6.1;simp only [gZ2] at this;omega);refine hps.mono ?_;rintro e wy ⟨cf,hcf,hst⟩;have hs2:=HC.o.r4.1.2 cf hcf;obtain ⟨r,hr⟩:∃r,eJ A1 2000 8 sp1 ov1 y u ⟨[],z⟩ cf=r:=⟨_,rfl⟩;have hz0:r.1.2≠0→r.1.1=0:=by (rw [←hr];exact aVX)
    rw [hr] at hst hs2;have he:=hst.1;subst he;have H9:=jJ (aI3 (HC.o.2.2.1 kz hst) hs2 hz0);clear hst hs2 hz0 hr hps hin kz hzl hcf;skip
    refine mK ?_;clear hK K;refine aK 8 fun K hK=>?_;go_simp
    refine mK ?_;clear hK K;refine bV (rs:=[9,10]) zX zW ?_;refine (aZ.cons rfl (fun K hK=>?t2_9) (aZ.cons rfl (fun K hK=>?t2_10) aZ.nil))
    case t2_9=>
     go_simp
     refine mK ?_;clear hK K;refine bV (rs:=[10,11]) zX zW ?_;refine (aZ.cons rfl (fun K hK=>?t3_10) (aZ.cons rfl (fun K hK=>?t3_11) aZ.nil))
     case t3_10=>
      go_simp
      refine mK ?_;clear hK K;refine aK 11 fun K hK=>?_;go_simp
      refine mK ?_;clear hK K;refine aK 12 fun K hK=>?_;go_simp
      refine mK ?_;clear hK K;refine aR zX ?_ _;go_wp2_with fail
      go_meet
      exact⟨r,rfl,rfl,H9.o.1,H9.o.2.1.1,fun h=>⟨H9.o.2.2 h,H9.o.2.1.2 h⟩⟩
     case t3_11=>
      go_simp
      refine mK ?_;clear hK K;refine aK 10 fun K hK=>?_;go_simp
      refine mK ?_;clear hK K;refine aK 12 fun K hK=>?_;go_simp
      refine mK ?_;clear hK K;refine aR zX ?_ _;go_wp2_with fail
      go_meet
      exact⟨r,rfl,rfl,H9.o.1,H9.o.2.1.1,fun h=>⟨H9.o.2.2 h,H9.o.2.1.2 h⟩⟩
    case t2_10=>
     go_simp
     refine mK ?_;clear hK K;refine aK 9 fun K hK=>?_;go_simp
     refine mK ?_;clear hK K;refine aK 11 fun K hK=>?_;go_simp
     refine mK ?_;clear hK K;refine aK 12 fun K hK=>?_;go_simp
     refine mK ?_;clear hK K;refine aR zX ?_ _;go_wp2_with fail
     go_meet
     exact⟨r,rfl,rfl,H9.o.1,H9.o.2.1.1,fun h=>⟨H9.o.2.2 h,H9.o.2.1.2 h⟩⟩
   case rest=>
    rename World=>wx;obtain ⟨r,rfl,rfl,hst,hj1,he1⟩:=hcut;obtain ⟨⟨y2,e2⟩,A2,sp2,ov2⟩:=r;simp only at hst hj1 he1⊢;by_cases he:e2=0
    ·subst he;have H5:=jJ (aI hst (hj1 rfl));clear hst hj1 he1;go_wp2_with fail
     go_roundw
     case rel=>exact⟨k+1,y2,A2,sp2,ov2,hlt,zF,rfl,H5.o.2,H5.o.1⟩
     case measure=>exact zI
    ·obtain ⟨q1,q2⟩:=he1 he;subst q1;have HE:=jJ (aI3 he hst q2);have e1:(e2 != 0)=true:=sI;clear hst hj1 he1 q2 he;go_wp2_with fail
     try rw [Exit.noGoto_ret]
     go_ret2
     exact⟨((0,e2),A2,(sp2,ov2)),HE.o.2.1,fun h=>absurd h HE.o.1,fun _=>HE.o.2.2⟩
  ·have hkn:k=n:=zZ;subst hkn;have e0:decide ((k:Int)<(k:Int))=false:=zW;have H5:=jJ (aI hst hj);clear hst hj hlt;go_wp2_with fail
   go_ret2
   exact⟨((y,0),A1,(sp1,ov1)),H5.o.1,fun _=>H5.o.2,fun h=>absurd rfl h⟩
section
variable {V:List Int} {w:World} {M P:Nat→Prop} {n L:Nat} {x:Int} {E:TypeId} {gk:Bool} {T u:aV} {N:aS}
theorem eI.tell {ap ak:Option Addr} {np cp nk ck:Nat} (h:eI M w ap np cp gk ak nk ck T) (hs:cB L n V T) (hL:L≤1073741824) (hn:n≤16777216):bI M M w ap np cp T.parts∧ZAt M w gk ak nk ck T.k∧nk≤1073741824∧np≤16777216:=
 ⟨cV.raw h.1 fun p hp=>bZ1 (hs.parts p hp) hL,h.2.at' (by have:=h.2.len;have:=hs.k;omega),by have:=h.2.len;have:=hs.k;omega,by have:=eU.len h.1;have:=hs.len;omega⟩
theorem XE (v:Int) (hv:v∈[(0:Int),1]):cB 1 1 [0,1] ⟨[(v,1)],0⟩:=⟨zW,fun p hp=>by rw [dZ1.1 hp];show eP (1:Int).natAbs≤1;exact BM zY,wB,fun p hp=>by rw [dZ1.1 hp];exact hv⟩
theorem aXT:cB 1 0 [0,1] ⟨[],1⟩:=⟨zW,fun p hp=>xC,BM zY,fun p hp=>xC⟩
def aKK (i:Nat) (x:Int) (A:aC) (sp ov:Int):Prop:=(i=0∧x=2∧A=v1A∧sp=1∧ov=0)∨(i=1∧x=3∧A=v2A∧sp=2∧ov=0)∨(i=2∧x=0∧A=v2A∧sp=2∧ov=0)
theorem MX {A:aC} {sp ov v:Int} (h:bE V 2000 8 A sp) (hF:fM Five A) (hn:A.nodes.length≤42) (hV:V.length≤262144) (hu:cB L n V u) (hL:L≤2348576) (hn2:n≤16000000):YC V A sp ov x v u:=⟨h,iV.raw h hF hn,fun _ s1 s2 _=>aBM s1 s2 hu hL hn2,NS hV hu hL hn2,_,_,aIH hF zY zY zY hV (NS hV hu hL hn2),trivial,trivial⟩
theorem WV {A:aC} (hN:A.nodes.getD x.toNat aP=N) (h4:N.kind<7) (hk:N.kids=[]):NoQ A.nodes x:=.mk (by rw [hN];exact h4) fun k hm=>by rw [hN,hk] at hm;cases hm
theorem aVW:WG [0,1] [(1,3),(0,3)] 2 aKK (fun _ _=>False):=fun i x A sp ov hi hj=>by
 rcases hj with ⟨rfl,rfl,rfl,rfl,rfl⟩|⟨rfl,rfl,rfl,rfl,rfl⟩|⟨rfl,-⟩
 ·refine ⟨MX LA XB zY zY aGU zY zY,fun c hc=>?_⟩;rw [hc (WV (N:=vN) rfl zY rfl),show eJ v1A 2000 8 1 0 2 (pth [(1,3),(0,3)] 0).1 ⟨[],(pth [(1,3),(0,3)] 0).2⟩ false=((3,0),v2A,(2,0)) from bBC];exact⟨fun _=>.inr (.inl ⟨rfl,rfl,rfl,rfl,rfl⟩),fun h=>absurd rfl h⟩
 ·refine ⟨MX XK aJJ zY zY aGU zY zY,fun c hc=>?_⟩;rw [hc (WV (N:=uN) rfl zY rfl),show eJ v2A 2000 8 2 0 3 (pth [(1,3),(0,3)] 1).1 ⟨[],(pth [(1,3),(0,3)] 1).2⟩ false=((0,0),v2A,(2,0)) from bAX];exact⟨fun _=>.inr (.inr ⟨rfl,rfl,rfl,rfl,rfl⟩),fun h=>absurd rfl h⟩
 ·omega
theorem aZG {B b:Nat} {g g':Bool} {a a':Option Addr} {c n' c':Nat} {v v' z z':Int} (r:aF w b E [.int .i64 v,.bool g,.slice a n c,.int .i64 v',.bool g',.slice a' n' c']) (hB:B≤b) (hP:¬P b) (h:ZAt P w g a n c z) (h':ZAt P w g' a' n' c' z') (hn:n≤1073741824) (hn':n'≤1073741824) (hv:I64 v) (hv':I64 v'):bI P P w (some ⟨b,0,none⟩) 2 2 [(v,z),(v',z')]:=by
 have ho:aL w B E 3 (.slice (some ⟨b,0,none⟩) 2 2) [[.int .i64 v,.bool g,.slice a n c],[.int .i64 v',.bool g',.slice a' n' c']]:=aL.ofRow (by exact r) zW rfl hB zY;obtain ⟨a2,c2,e,q⟩:=aL.sl (M:=P) (R:=iM P w) (d:=(0,0)) (xs:=[(v,z),(v',z')]) ho (fun b' hb'=>by cases hb';exact hP) rfl (fun i hi=>by
  have hi':i<2:=hi;rcases (show i=0∨i=1 by omega) with rfl|rfl
  ·exact⟨g,a,n,c,rfl,h,hn,hv.1,hv.2⟩
  ·exact⟨g',a',n',c',rfl,h',hn',hv'.1,hv'.2⟩)
 cases e;exact q
end
theorem Up.mbP {w0 w:World} {O:Nat→Prop} {g gm:Nat} {nodes limbs sp ov:Int} {A:aC} (h:Up w0 w O g gm nodes limbs A sp ov):MB (fun b=>O b∨b=gm) w:=fun b hb=>hb.elim (h.arena.lt b) fun e=>by rw [e];exact h.jC.lt
theorem aQI {B0:Nat} {w:World} (hT:Tab B0 w):Calls prog 8 #[] w fun e w'=>e=.returned (.bool true)∧aA Nil w w':=by
 have HT:=jJ hT;have hB0:B0≤w.heap.size:=hT.1;clear hT;go_enter func8,ntmps8
 go_upto_region 2 with (go_at_call 28;refine (aIB (M:=Nil) (MB.nil _)).mono ?_;rintro e w1 ⟨g,b2,b3,b4,b5,gm,hm,hgm,rfl,r0,r2,r3,r4,r5,hk,h1,h2,h3,h4,h5⟩;have H1:=jJ (Up.start hm hgm r0 r2 r3 r4 r5 hk h1 h2 h3 h4 h5);clear hm hgm r0 r2 r3 r4 r5 hk h1 h2 h3 h4 h5)
 obtain ⟨O,hU⟩:=H1.o;have HU:=jJ hU;clear hU H1;have hsm:=WU;have hX:=nJ (k:=2) (d:=0) (l:=[(0,1),(1,-1)]) (z:=0) hsm.1 hsm.2 zY;have hok:2≤(bJ ⟨2,0,⟨[(0,1),(1,-1)],0⟩⟩).2.kind→OkB gJ (bJ ⟨2,0,⟨[(0,1),(1,-1)],0⟩⟩).2:=fun h2=>TN (V:=[0,1]) (nodes:=2000) (sp:=0) (fP.start zY zY) zY zY (fun v hv=>tL) hX h2 zY (bZ2 _);have hwee:Wee (bC ⟨[(0,1),(1,-1)],0⟩):=(oH (l:=[(0,1),(1,-1)]) (z:=0) hsm.1 zY).wee zY zY;have hV2:∀v∈[(0:Int),1],I64 v:=fun v hv=>tL;have HX:=jJ (aI3 hok hwee hV2);clear hsm hX hok hwee hV2;go_upto_region 3 with (first|(go_at_call 39;refine (WS (M:=Nil) (v:=0) (MB.nil _) ⟨zY,zY⟩).mono ?_;rintro e w2 ⟨v,rfl,⟨ap,np,cp,gk,ak,nk,ck,rfl,ht⟩,hk2⟩;have H2:=jJ (aI ht (HU.o.on hk2));clear ht hk2)|(go_at_call 39;refine (WS (M:=Nil) (v:=1) (MB.nil _) ⟨zY,zY⟩).mono ?_;rintro e w3 ⟨v,rfl,⟨ap1,np1,cp1,gk1,ak1,nk1,ck1,rfl,ht⟩,hk2⟩;have H3:=jJ (aI3 (H2.o.1.eO hk2) ht (H2.o.2.on hk2));clear ht hk2)|(go_at_call 38;have t0:=H3.o.1.tell (XE 0 zY) zY zY;have t1:=H3.o.2.1.tell (XE 1 zY) zY zY;go_loud (refine (aXA (M:=Nil) (la:=[(0,1)]) (za:=0) (lb:=[(1,1)]) (zb:=0) (MB.nil _) t0.1 t0.2.1 t1.1 t1.2.1 t0.2.2.1 t1.2.2.1 t0.2.2.2 t1.2.2.2).mono ?_);rintro e w4 ⟨v,rfl,⟨ap2,np2,cp2,gk2,ak2,nk2,ck2,rfl,ht⟩,hk2⟩;rw [bBX] at ht;have H4:=jJ (aI ht (H3.o.2.2.on hk2));clear t0 t1 ht hk2)|(go_at_call 37;have t2:=H4.o.1.tell (V:=[0,1]) (L:=2448576) (n:=262144) WU.1 zY zY;go_loud (refine (UN (B0:=B0) (M0:=O) (A:=gJ) (k:=2) (d:=0) (z:=0) (l:=[(0,1),(1,-1)]) H4.o.2.arena (HT.o.eO H4.o.2.keep) (fun _ h=>h) H4.o.2.mb H4.o.2.jC ((nR Nil _).zat wB) t2.1 t2.2.1 t2.2.2.2 t2.2.2.1 HX.o.2.1 wB zY zY zY zY zY zY HX.o.1).mono ?_);intro e w5 hst;obtain ⟨rfl,O1,hu⟩:=H4.o.2.step (show cO O O _ g gm 2000 8 ((2,0),v1A,(1,0)) e w5 by rw [←aIS];exact hst);have H5:=jJ hu;clear hu hst t2))
 go_upto_region 4 with (first|(go_at_call 39;refine (WS (M:=Nil) (v:=1) (MB.nil _) ⟨zY,zY⟩).mono ?_;rintro e w6 ⟨v,rfl,⟨ap3,np3,cp3,gk3,ak3,nk3,ck3,rfl,ht⟩,hk2⟩;have H6:=jJ (aI ht (H5.o.on hk2));clear ht hk2)|(go_at_call 42;refine (kZ (M:=Nil) (z:=1) (MB.nil _) zY zY).mono ?_;rintro e w7 ⟨g7,a7,n7,c7,rfl,hz,hk2⟩;have H7:=jJ (aI3 hz (H6.o.1.eO hk2) (H6.o.2.on hk2));clear hz hk2)|(go_at_call 41;go_loud (refine (aCF (M:=Nil) (z:=1) (MB.nil _) (H7.o.1.zat nQ)).mono ?_);rintro e w8 ⟨v,rfl,⟨ap8,np8,cp8,gk8,ak8,nk8,ck8,rfl,ht⟩,hk2⟩;have H8:=jJ (aI3 (H7.o.2.1.eO hk2) ht (H7.o.2.2.on hk2));clear ht hk2)|(go_at_call 40;have t0:=H8.o.1.tell (XE 1 zY) zY zY;have t1:=H8.o.2.1.tell aXT zY zY;go_loud (refine (aWX (M:=fun b=>O1 b∨b=gm) (la:=[(1,1)]) (za:=0) (lb:=[]) (zb:=1) H8.o.2.2.mbP t0.1 t0.2.1 t1.1 t1.2.1 t0.2.2.1 t1.2.2.1 t0.2.2.2 t1.2.2.2).mono ?_);rintro e w9 ⟨v,rfl,⟨ap9,np9,cp9,gk9,ak9,nk9,ck9,rfl,ht⟩,hk2⟩;rw [bCT] at ht;have H9:=jJ (aI ht (H8.o.2.2.on hk2));clear t0 t1 ht hk2)|(go_at_call 9;have t2:=H9.o.1.tell aIN zY zY;have hin:=MX (ov:=0) (x:=2) (v:=0) LA XB zY zY aIN zY zY;go_loud (refine (WA (V:=[0,1]) (B0:=B0) (M0:=O1) (A:=v1A) (x:=2) (v:=0) (lb:=[(1,1)]) (zb:=1) H9.o.2.arena (HT.o.eO H9.o.2.keep) (fun _ h=>h) H9.o.2.mb H9.o.2.jC (fun b hb=>bZ1 hB0 (H9.o.2.low b hb)) hin zY HX.o.2.2 t2.1 t2.2.1 (fun b hb=>⟨hb,hb,hb⟩) t2.2.2.1 t2.2.2.2).mono ?_);rintro e w10 ⟨cf,hcf,hst⟩;rw [hcf (WV (N:=vN) rfl zY rfl),bCC] at hst;obtain ⟨rfl,O2,hu⟩:=H9.o.2.step hst;have H10:=jJ hu;clear hu hst t2 hin hcf))
 go_upto_region 5 with (first|(go_at_call 42;have hprev:=H11;clear hprev;refine (kZ (M:=fun b=>O2 b∨b=gm) (z:=3) H11.o.2.mbP zY zY).mono ?_;rintro e w12 ⟨g12,a12,n12,c12,rfl,hz,hk2⟩;have H12:=jJ (aI3 (H11.o.1.eO hk2) hz (H11.o.2.on hk2));clear hz hk2)|(go_at_call 42;refine (kZ (M:=fun b=>O2 b∨b=gm) (z:=3) H10.o.mbP zY zY).mono ?_;rintro e w11 ⟨g11,a11,n11,c11,rfl,hz,hk2⟩;have H11:=jJ (aI hz (H10.o.on hk2));clear hz hk2)|(go_at_call 10;have ka:aA Nil w12 (w12.alloc (.cells #[.int .i64 1,.bool g11,.slice a11 n11 c11,.int .i64 0,.bool g12,.slice a12 n12 c12] 34)):=kOf;have hu:=H12.o.2.2.on ka;have hl1:=H12.o.1.len;have hl2:=H12.o.2.1.len;have h3:eP (3:Int).natAbs≤1:=BM zY;have hvv:=aZG (B:=w12.heap.size) (P:=fun b=>O2 b∨b=gm) aF.alloc (bZ2 _) (fun hb=>absurd (H12.o.2.2.mbP _ hb) (Nat.lt_irrefl _)) ((H12.o.1.at' zZ).eO ka) ((H12.o.2.1.at' zZ).eO ka) zZ zZ ⟨zY,zY⟩ ⟨zY,zY⟩;go_loud (refine (aFL (V:=[0,1]) (B0:=B0) (M0:=O2) (A:=v1A) (x:=2) (sp:=1) (ov:=0) (vals:=[(1,3),(0,3)]) (J:=aKK) (E:=fun _ _=>False) hu.arena (HT.o.eO hu.keep) (fun _ h=>h) hu.mb hu.jC (fun b hb=>bZ1 hB0 (hu.low b hb)) rfl LA zY HX.o.2.2 hvv (fun _ h=>h) (.inl ⟨rfl,rfl,rfl,rfl,rfl⟩) aVW).mono ?_);rintro e w13 ⟨r,hst,hj,he⟩;have hj2:=hj (Classical.byContradiction fun h=>he h);obtain ⟨⟨y,er⟩,A2,sp2,ov2⟩:=r;have her:er=0:=Classical.byContradiction fun h=>he h;obtain ⟨-,rfl,rfl,rfl,rfl⟩:(2:Nat)=2∧y=0∧A2=v2A∧sp2=2∧ov2=0:=(by rcases hj2 with ⟨h,-⟩|⟨h,-⟩|h<;>first|exact h|exact absurd h zY);subst her;obtain ⟨rfl,O3,hu3⟩:=hu.step hst;have H13:=jJ hu3;clear hu hu3 hst hj hj2 he hvv ka hl1 hl2 h3))
 go_wp2_with (go_at_call 11;go_loud (refine (aWW (V:=[0,1]) (B0:=B0) (M0:=O3) (A:=v2A) (x:=2) (f:=fun X=>X) H13.o.arena (HT.o.eO H13.o.keep) (fun _ h=>h) H13.o.mb H13.o.jC (fun b hb=>bZ1 hB0 (H13.o.low b hb)) XK aJJ zY zY HX.o.2.2 aOX).mono ?_);intro e w14 hst;rw [bCL] at hst;obtain ⟨rfl,O4,hu⟩:=H13.o.step hst;have H14:=jJ hu;clear hu hst)
 go_ret
 exact⟨rfl,H14.o.keep⟩
end Go.Proofs.Q
