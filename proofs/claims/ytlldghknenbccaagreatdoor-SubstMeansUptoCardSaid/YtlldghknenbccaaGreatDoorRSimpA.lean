/- What term.Sub, term.Const, atom.Negate do. -/
import Derived.Test.YtlldghknenbccaaGreatDoorROnces
import Derived.Test.YtlldghknenbccaaGreatDoorRThroughs
set_option linter.unusedSimpArgs false
set_option linter.unusedVariables false
set_option maxRecDepth 100000
set_option maxHeartbeats 4000000
namespace Go.Proofs.Q
open Go.RowKit Tryz
theorem aXE:eP (-1:Int).natAbs*4+4≤140737488355328:=nQ
theorem aXA {M M1 M2 M3 M4:Nat→Prop} {w:World} {ga gb:Bool} {aa ap ab bp:Option Addr} {na ca np cp nb cb mp dp:Nat} {za zb:Int} {la lb:aM} (hM:MB M w) (ha:bI M1 M2 w ap np cp la) (hza:ZAt Nil w ga aa na ca za) (hb:bI M3 M4 w bp mp dp lb) (hzb:ZAt Nil w gb ab nb cb zb) (h3:na≤1073741824) (h4:nb≤1073741824) (h5:np≤16777216) (h6:mp≤16777216) :
  Calls prog 38 #[.agg #[.slice ap np cp,.bool ga,.slice aa na ca],.agg #[.slice bp mp dp,.bool gb,.slice ab nb cb]] w fun e w'=>Gives Nil (TV M (gU 1 ⟨la,za⟩ (-1) ⟨lb,zb⟩)) w e w':=by
 have HM:=jJ hM;have HA:=jJ (aI8 ha hza hb hzb h3 h4 h5 h6);clear hM ha hza hb hzb h3 h4 h5 h6;go_enter func38,ntmps38
 go_upto_region 1 with (fail)
 obtain ⟨w0,e_1,k0,r0,r1,r2⟩:=bx3 w 27 [.slice ap np cp,.bool ga,.slice aa na ca] 27 [.slice bp mp dp,.bool gb,.slice ab nb cb] 27 [.slice none 0 0,.bool false,.slice none 0 0];rw [e_1];clear e_1;have lr:=r2.lt;have H0:=jJ (aI4 k0 r0 r1 r2);clear k0 r0 r1 r2;refine aX 6 [5] [5,6,7,8,9,1014] [5,6,7,8,9] [Un (ZV Nil 1),Un (eT ?v2_1),Un (ZV Nil (-1)),Un (eT ?v2_3),Un (TV (Old w0) (gU 1 ⟨la,za⟩ (-1) ⟨lb,zb⟩)),nothing] (aB.sk (aB.nx ?r2_4 (aB.nx ?r2_3 (aB.nx ?r2_2 (aB.nx ?r2_1 (aB.nx ?r2_0 aB.zero)))))) ?rfn2
 case' r2_0|r2_1|r2_2|r2_3|r2_4=>
  intro us wj hk hp K hK;try simp only [aQ,Act.put,sL] at hK⊢
  obtain ⟨d0,d1,d2⟩:=(H0.o.2.1.keep hk id).three;obtain ⟨e0',e1',e2'⟩:=(H0.o.2.2.1.keep hk id).three
 case' r2_0=>
  go_simp
  refine (kZ (M:=Nil) (z:=1) (MB.nil _) zZ zZ).mono ?_;rintro e wk ⟨g,a,n,c,rfl,h,hk2⟩;exact hK.out _ _ hk2 (⟨g,a,n,c,rfl,h⟩)
 case' r2_1|r2_3=>
  go_simp
  refine hK.out _ _ (aA.refl _ _) ?_;exact rfl
 case' r2_2=>
  go_simp
  refine (kZ (M:=Nil) (z:=-1) (MB.nil _) zZ zZ).mono ?_;rintro e wk ⟨g,a,n,c,rfl,h,hk2⟩;exact hK.out _ _ hk2 (⟨g,a,n,c,rfl,h⟩)
 case' r2_4=>
  obtain ⟨g0,a0,n0,c0,e0,h0⟩:(ZV Nil 1) (us 5) wj:=hp 0;have e1:us 6=_:=hp 1;obtain ⟨g2,a2,n2,c2,e2,h2⟩:(ZV Nil (-1)) (us 7) wj:=hp 2;have e3:us 8=_:=hp 3;rw [e0,e1,e2,e3] at hK⊢;go_simp
  refine (LC (M:=Old w0) (MB.gY hk.size) (h0.zat nQ) (h2.zat aXE) (HA.o.1.eO (H0.o.1.trans hk)) (HA.o.2.2.1.eO (H0.o.1.trans hk)) (HA.o.2.1.eO (H0.o.1.trans hk)) (HA.o.2.2.2.1.eO (H0.o.1.trans hk)) vI (by have:=h2.len;have:=BK;simp only [Int.natAbs_neg] at *;omega) HA.o.r4.1 HA.o.r5.1 HA.o.r6.1 HA.o.r7).mono ?_;rintro e wk ⟨v,rfl,hv,hk2⟩;exact hK.out _ _ hk2 (hv)
 case' rfn2=>
 intro us wz hkz hf;simp only [aQ,Act.put,sL];obtain ⟨g0,a0,n0,c0,e0,h0⟩:(ZV Nil 1) (us 5) wz:=hf 0;have e1:us 6=_:=hf 1;obtain ⟨g2,a2,n2,c2,e2,h2⟩:(ZV Nil (-1)) (us 7) wz:=hf 2;have e3:us 8=_:=hf 3;obtain ⟨ap4,np4,cp4,gk4,ak4,nk4,ck4,e4,h4⟩:(TV (Old w0) (gU 1 ⟨la,za⟩ (-1) ⟨lb,zb⟩)) (us 9) wz:=hf 4;clear hf;simp only [e0,e1,e2,e3,e4];clear e0 e1 e2 e3 e4 us;refine aK 5 fun K hK=>?_;obtain ⟨z0,z1,z2⟩:=(H0.o.2.2.2.keep hkz id).three;obtain ⟨z3,z4,z5⟩:=(H0.o.2.2.2.keep hkz id).iZ;go_simp
 refine mK ?_;clear hK K;refine aR zX ?_ _;go_wp2_with fail
 have r6:=(H0.o.2.2.2.keep hkz id).triple (.slice ap4 np4 cp4) (.bool gk4) (.slice ak4 nk4 ck4);obtain ⟨y0,y1,y2⟩:=r6.three;exact bodyPost_ret (v:=.agg #[.slice ap4 np4 cp4,.bool gk4,.slice ak4 nk4 ck4]) (by simp [results,results38,go_sem,y0,y1,y2]) rfl ⟨_,rfl,⟨_,_,_,_,_,_,_,rfl,h4.out (M:=M) lr (fun b hb=>yL) (aA.triple (g:=w.heap.size+1+1) (.slice ap4 np4 cp4) (.bool gk4) (.slice ak4 nk4 ck4))⟩,(H0.o.1.trans hkz).own zZ (aA.triple _ _ _)⟩
theorem aCF {M:Nat→Prop} {w:World} {ga:Bool} {aa:Option Addr} {na ca:Nat} {z:Int} (hM:MB M w) (hz:ZAt Nil w ga aa na ca z) :
  Calls prog 41 #[.agg #[.bool ga,.slice aa na ca]] w fun e w'=>Gives Nil (TV M ⟨[],z⟩) w e w':=by
 have HM:=jJ hM;have HZ:=jJ hz;clear hM hz;go_enter func41,ntmps41
 go_upto_region 1 with (fail)
 obtain ⟨w0,e_3,k0,r0,r1⟩:=bx2 w 25 [.bool ga,.slice aa na ca] 27 [.slice none 0 0,.bool false,.slice none 0 0];rw [e_3];clear e_3;obtain ⟨c0,c1,-,-⟩:=r0.two;have lr:=r1.lt;have H0:=jJ (aI k0 r1);clear k0 r0 r1;go_wp2_with (go_at_call 91;refine (EX (M:=Old w0) (MB.old w0) (HZ.o.eO H0.o.1)).mono ?_;rintro e w1 ⟨g,a,n,c,rfl,hn,hk1⟩;have r1:=H0.o.2.keep hk1 id;obtain ⟨z0,z1,z2⟩:=r1.three;obtain ⟨z3,z4,z5⟩:=r1.iZ;have H1:=jJ (aI3 hn hk1 r1);clear hn hk1 r1)
 have r6:=H1.o.2.2.triple (.slice none 0 0) (.bool g) (.slice a n c);obtain ⟨y0,y1,y2⟩:=r6.three;exact bodyPost_ret (v:=.agg #[.slice none 0 0,.bool g,.slice a n c]) (by simp [results,results41,go_sem,y0,y1,y2]) rfl ⟨_,rfl,⟨_,_,_,_,_,_,_,rfl,(show eI (Old w0) w1 none 0 0 g a n c ⟨[],z⟩ from ⟨eU.nil,H1.o.1⟩).out lr (fun b hb=>yL) (aA.triple _ _ _)⟩,(H0.o.1.trans H1.o.2.1).own zZ (aA.triple _ _ _)⟩
section
variable {V ks ids:List Int} {limbs nodes sp kind ov x y v:Int} {xs:List (Bool × List Nat)} {L:List aS} {N:aS} {X:aY} {i:Nat} {A':aC}
def RJ (L:List aS):Nat→Int→Prop
 | 0,_=>True
 | f+1,x=>∀k∈(L.getD x.toNat aP).kids,((L.getD x.toNat aP).kind=5∨(L.getD x.toNat aP).kind=6→(L.getD k.toNat aP).kind≠(L.getD x.toNat aP).kind)∧(0≤k∧k<x)∧RJ L f k
def Alt (L:List aS) (x:Int):Prop:=∀f,RJ L f x
theorem Alt.intro (h:∀k∈(L.getD x.toNat aP).kids,((L.getD x.toNat aP).kind=5∨(L.getD x.toNat aP).kind=6→(L.getD k.toNat aP).kind≠(L.getD x.toNat aP).kind)∧(0≤k∧k<x)∧Alt L k):Alt L x:=fun f=>by
 cases f with
 | zero=>trivial
 | succ f=>exact fun k hk=>⟨(h k hk).1,(h k hk).2.1,(h k hk).2.2 f⟩
theorem aGP {L t:List aS}:∀(f:Nat) (x:Int),0≤x→x<(L.length:Int)→RJ L f x→RJ (L++t) f x
 | 0,_,_,_,_=>trivial
 | f+1,x,h0,h1,h=>by
  have e:(L++t).getD x.toNat aP=L.getD x.toNat aP:=FW L t aP zZ;intro k hk;rw [e] at hk⊢;have hb:=(h k hk).2.1;have e2:(L++t).getD k.toNat aP=L.getD k.toNat aP:=FW L t aP zZ;rw [e2];exact⟨(h k hk).1,hb,aGP f k hb.1 zZ (h k hk).2.2⟩
theorem Alt.ext {A:aC} (h:Alt A.nodes x) (h0:0≤x) (h1:x<(A.nodes.length:Int)) (he:Ext A A'):Alt A'.nodes x:=fun f=>by
 obtain ⟨t,he⟩:=he;rw [he];exact aGP f x h0 h1 (h f)
theorem kC.bCS (h:kC V limbs N) (hl:limbs≤8) (hV:V.length≤262144) (hk:N.kids.length≤1000000):FQ N:=
 ⟨by have:=MK h.fZ h.vars;omega,fun p hp=>by have:=h.nums p hp;omega,by have:=h.k;omega,by have:=h.d;omega,zZ⟩
structure bE (V:List Int) (nodes limbs:Int) (A:aC) (sp:Int):Prop where
 inv:fP V nodes A sp
 all:fM (kC V limbs) A
 start:Ext gJ A
theorem bE.begin (h0:0≤sp) (h1:sp≤nodes):bE V nodes limbs gJ sp:=⟨fP.start h0 h1,fM.start,Ext.refl _⟩
theorem bE.below {A:aC} (h:bE V nodes limbs A sp):Below A.nodes:=fun i hi=>(h.inv.kids i hi).2
theorem bE.low {A:aC} (h:bE V nodes limbs A sp) (hi:i<2):A.nodes.getD i aP=⟨(i:Int),0,bK,0,[]⟩:=by
 obtain ⟨t,e⟩:=h.start;rw [e];rcases (show i=0∨i=1 by omega) with rfl|rfl<;>rfl
theorem bE.aJE {A:aC} (h:bE V nodes limbs A sp) (hn:nodes≤2000) (hi:i<A.nodes.length):(A.nodes.getD i aP).kids.length≤2002:=by
 have h1:=ML (h.inv.kids i hi).1 (h.inv.kids i hi).2;have:=h.inv.used;have:=h.inv.spn;omega
theorem bE.fine {A:aC} (h:bE V nodes limbs A sp) (hn:nodes≤2000) (hl:limbs≤8) (hV:V.length≤262144):aKN A:=by
 have h3:=h.inv.used;have h4:=h.inv.spn;refine ⟨zZ,h.inv.once.two,fun i hi=>?_,h.below,fun i hi hk=>?_⟩
 ·rcases Nat.lt_or_ge i 2 with h2|h2
  ·rw [h.low h2];exact⟨⟨aZ2 _,fun p hp=>absurd hp hZ2,by simp [bK,nY],wB,aZ2 _⟩,BL⟩
  ·have hk:=h.all i h2 hi;exact⟨hk.bCS hl hV (by have:=h.aJE hn hi;omega),hk.fZ⟩
 ·rcases Nat.lt_or_ge i 2 with h2|h2
  ·rw [h.low h2] at hk;simp only at hk;omega
  ·exact ((h.all i h2 hi).again.join hk).1
def FT (A:aC) (y:Int):Prop:=(0≤y∧y<(A.nodes.length:Int))∧Alt A.nodes y
theorem FT.mono {A:aC} (h:FT A y) (he:Ext A A'):FT A' y:=⟨⟨h.1.1,by have:=he.len;have:=h.1.2;omega⟩,h.2.ext h.1.1 h.1.2 he⟩
theorem aDL (h:(L.getD x.toNat aP).kids=[]):Alt L x:=Alt.intro fun k hk=>by rw [h] at hk;cases hk
theorem bE.const {A:aC} (h:bE V nodes limbs A sp) (hy:y=0∨y=1):FT A y:=by
 have h2:=h.inv.once.two;refine ⟨zZ,aDL ?_⟩;rw [h.low (i:=y.toNat) zZ]
structure BQ (V:List Int) (nodes limbs:Int) (A:aC) (r:(Int × Int) × aC × (Int × Int)):Prop where
 ok:bE V nodes limbs r.2.1 r.2.2.1
 ext:Ext A r.2.1
theorem DJ {A:aC} (h:fP V nodes A sp) (hN:CU N) (he:(cU A nodes limbs sp ov N xs).1.2=0):0≤(cU A nodes limbs sp ov N xs).1.1∧(cU A nodes limbs sp ov N xs).1.1<((cU A nodes limbs sp ov N xs).2.1.nodes.length:Int)∧(cU A nodes limbs sp ov N xs).2.1.nodes.getD (cU A nodes limbs sp ov N xs).1.1.toNat aP=N:=by
 unfold cU at he⊢;cases hk:fK A.nodes (bB N) with
 | some i=>
  obtain ⟨q1,q2,q3⟩:=h.once.aUO hN hk;exact⟨zW,yT,by simpa using q3⟩
 | none=>
  rw [hk] at he;simp only [] at he⊢;by_cases h0:(dN nodes limbs sp ov xs).2.2=0
  ·rw [if_pos h0];refine ⟨zW,by simp [fQ];omega,?_⟩;show (A.nodes++[N]).getD ((A.nodes.length:Int)).toNat aP=N
   rw [bZ3,dM]
  ·rw [if_neg h0] at he;exact absurd he h0
theorem BQ.same {i e:Int} {A:aC} (h:bE V nodes limbs A sp):BQ V nodes limbs A ((i,e),A,(sp,ov)):=⟨h,Ext.refl _⟩
theorem TT {A:aC} (h0:0≤limbs) (h:bE V nodes limbs A sp):BQ V nodes limbs A (dW A nodes limbs sp ov kind ks):=by
 have he:Ext A (dW A nodes limbs sp ov kind ks).2.1:=by
  unfold dW;split
  ·exact pT
  split
  ·exact pT
  split
  ·exact pT
  split
  ·exact IB
  ·exact pT
 exact⟨⟨(TD h.inv).1,VD h0 h.all,h.start.trans he⟩,he⟩
theorem aCM {k:Int} {A:aC} (h0:0≤limbs) (hv:I64 v) (h:bE V nodes limbs A sp):BQ V nodes limbs A (dY A nodes limbs sp ov kind v k):=by
 have he:Ext A (dY A nodes limbs sp ov kind v k).2.1:=by
  unfold dY;split
  ·exact pT
  split
  ·exact pT
  ·exact IB
 exact⟨⟨(TJ h.inv).1,UR h0 hv h.all,h.start.trans he⟩,he⟩
theorem GI {A:aC} (hX:jM V X) (h:bE V nodes limbs A sp):BQ V nodes limbs A (cX A nodes limbs sp ov X):=by
 have he:Ext A (cX A nodes limbs sp ov X).2.1:=by
  unfold cX mY;split
  ·exact pT
  split
  ·exact pT
  ·exact IB
 exact⟨⟨(aBG h.inv hX).1,aFR h.all hX,h.start.trans he⟩,he⟩
theorem aEJ {A:aC} (h:bE V nodes limbs A sp) (hX:jM V X) (hc:BQ V nodes limbs A (cX A nodes limbs sp ov X)) (he:(cX A nodes limbs sp ov X).1.2=0):FT (cX A nodes limbs sp ov X).2.1 (cX A nodes limbs sp ov X).1.1:=by
 have hb:=nJ (k:=X.kind) hX.1 hX.2 zY;unfold cX at he hc⊢;obtain ⟨k,d,⟨l,z⟩⟩:=X;simp only at hb he hc⊢;obtain ⟨⟨e,B⟩,hr⟩:∃r,r=bJ ⟨k,d,⟨l,z⟩⟩:=⟨_,rfl⟩;rw [←hr] at hb he hc⊢;simp only at hb;by_cases h0:e=0
 ·subst h0;by_cases hk:B.kind≤1
  ·rw [BD hk];exact h.const (by have:=hb.kind;simp only;omega)
  ·rw [AA hk] at he hc⊢;have hf:=(JJ (A:=A) hb zZ).form;obtain ⟨q1,q2,q3⟩:=DJ h.inv hf he;exact⟨⟨q1,q2⟩,aDL (by rw [q3];rfl)⟩
 ·exact sO
theorem aAM {A:aC} (h0:0≤limbs) (h:bE V nodes limbs A sp):BQ V nodes limbs A (cR A nodes limbs sp ov kind ks):=by
 unfold cR;split
 ·exact BQ.same h
 split
 ·exact BQ.same h
 split
 ·exact BQ.same h
 ·exact TT h0 h
theorem KO {A:aC} (hx:x∈AX A kind (gL A kind (fU A kind ids))):∃y∈ids,x∈kL A.nodes kind y:=by
 have h1:=(kZ3.1 hx).1;have h2:=(kZ3.1 h1).1;have h3:=(kZ3.1 h2).1;exact fZ3.1 (cL.1 h3)
theorem YF {A:aC} (h:fP V nodes A sp) (hn:nodes≤2000) (hV:V.length≤262144) (h5:5≤kind) (h8:kind≤8) (hv:kind=5∨kind=6→v=0) (hp:ks.Pairwise (·<·)) (hk:∀k∈ks,0≤k∧k<(A.nodes.length:Int)):(dB A ⟨kind,0,bK,v,ks⟩).length≤1000000000:=
 SV h hn hV (by simp [bK,dR]) ⟨⟨yT,h8,fun h4=>xL,fun _=>⟨rfl,rfl⟩,hv⟩,fun x hx=>by simp [bK,dR] at hx,hp,hk⟩
def JB (r:(Int × Int) × aC × (Int × Int)):Prop:=r.1.2≠0→r.1.1=0
theorem TR {A:aC}:JB (cU A nodes limbs sp ov N xs):=fun he=>by
 unfold cU at he⊢;cases hk:fK A.nodes (bB N) with
 | some i=>rw [hk] at he;exact absurd rfl he
 | none=>
  rw [hk] at he;simp only [] at he⊢;by_cases h0:(dN nodes limbs sp ov xs).2.2=0
  ·rw [if_pos h0] at he;exact absurd rfl he
  ·rw [if_neg h0]
theorem aSG {A:aC}:JB (dW A nodes limbs sp ov kind ks):=by
 unfold dW;split
 ·exact fun _=>rfl
 split
 ·exact fun _=>rfl
 split
 ·exact rW
 split
 ·exact TR
 ·exact rW
theorem aRG {A:aC} {k:Int}:JB (dY A nodes limbs sp ov kind v k):=by
 unfold dY;split
 ·exact fun _=>rfl
 split
 ·exact fun _=>rfl
 ·exact TR
theorem aRJ {A:aC}:JB (cX A nodes limbs sp ov X):=by
 unfold cX mY;split
 ·exact fun _=>rfl
 split
 ·exact rW
 ·exact TR
theorem aOV {A:aC}:JB (cR A nodes limbs sp ov kind ks):=by
 unfold cR;split
 ·exact fun _=>rfl
 split
 ·exact rW
 split
 ·exact rW
 ·exact aSG
end
section
variable {V:List Int} {nodes limbs x sp:Int}
def bBO (nodes limbs:Int):kK:=fun A sp ov x ks=>
 if (ndA A x).kind=5∨(ndA A x).kind=6 then cR A nodes limbs sp ov (ndA A x).kind ks
 else if (ndA A x).kind=7∨(ndA A x).kind=8 then dY A nodes limbs sp ov (ndA A x).kind (ndA A x).var (ks.getD 0 0)
 else ((x,0),A,(sp,ov))
theorem bE.one {A:aC} (h:bE V nodes limbs A sp) (h0:0≤x) (h1:x<(A.nodes.length:Int)) (hk:(ndA A x).kind=7∨(ndA A x).kind=8):(ndA A x).kids.length=1∧I64 (ndA A x).var:=by
 have h2:2≤x.toNat:=by
  rcases Nat.lt_or_ge x.toNat 2 with h2|h2
  ·unfold ndA at hk;rw [h.low h2] at hk;simp only at hk;omega
  ·exact h2
 have hK:=h.all x.toNat h2 zZ;have hb:=hK.again.bind hk;exact⟨by unfold ndA;rw [hb];rfl,hK.var⟩
theorem bE.none {A:aC} (h:bE V nodes limbs A sp) (h0:0≤x) (h1:x<(A.nodes.length:Int)) (hk:(ndA A x).kind≤4):(ndA A x).kids=[]:=by
 rcases Nat.lt_or_ge x.toNat 2 with h2|h2
 ·unfold ndA;rw [h.low h2]
 ·exact ((h.inv.once.form x.toNat h2 zZ).2.2.1 hk).2
theorem bE.kinds {A:aC} (h:bE V nodes limbs A sp) (h0:0≤x) (h1:x<(A.nodes.length:Int)):0≤(ndA A x).kind∧(ndA A x).kind≤8:=by
 rcases Nat.lt_or_ge x.toNat 2 with h2|h2
 ·unfold ndA;rw [h.low h2];simp only;omega
 ·have hf:=h.inv.once.form x.toNat h2 zZ;exact⟨by have:=hf.1;unfold ndA;omega,hf.2.1⟩
theorem FT.i64 {y:Int} {A:aC} (h:bE V nodes limbs A sp) (hn:nodes≤2000) (hy:FT A y):fI y:=by
 have:=hy.1;have:=h.inv.used;have:=h.inv.spn;exact⟨zZ,zZ⟩
end
end Go.Proofs.Q
