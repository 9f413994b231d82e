/- What term.Sub, term.Const, atom.Negate do. -/
import Derived.Test.YtlldghknenbccaaGreatDoorPOnces
import Derived.Test.YtlldghknenbccaaGreatDoorPThroughs
set_option linter.unusedSimpArgs false
set_option linter.unusedVariables false
set_option maxRecDepth 100000
set_option maxHeartbeats 4000000
namespace Go.Proofs.Q
open Go.RowKit Tryz
theorem fit_neg1:nlen (-1:Int).natAbs*4+4≤140737488355328:=fit_one
theorem tsub_any {M M1 M2 M3 M4:Nat→Prop} {w:World} {ga gb:Bool} {aa ap ab bp:Option Addr} {na ca np cp nb cb mp dp:Nat} {za zb:Int} {la lb:aT} (hM:MB M w) (ha:bU M1 M2 w ap np cp la) (hza:ZAt Nil w ga aa na ca za) (hb:bU M3 M4 w bp mp dp lb) (hzb:ZAt Nil w gb ab nb cb zb) (h3:na≤1073741824) (h4:nb≤1073741824) (h5:np≤16777216) (h6:mp≤16777216) :
  Calls prog 38 #[.agg #[.slice ap np cp,.bool ga,.slice aa na ca],.agg #[.slice bp mp dp,.bool gb,.slice ab nb cb]] w fun e w'=>Gives Nil (TV M (sumT 1 ⟨la,za⟩ (-1) ⟨lb,zb⟩)) w e w':=by
 have HM:=jJ hM;have HA:=jJ (aI8 ha hza hb hzb h3 h4 h5 h6);clear hM ha hza hb hzb h3 h4 h5 h6;go_enter func38,ntmps38
 go_upto_region 1 with (fail)
 obtain ⟨w0,e_1,k0,r0,r1,r2⟩:=bx3 w 27 [.slice ap np cp,.bool ga,.slice aa na ca] 27 [.slice bp mp dp,.bool gb,.slice ab nb cb] 27 [.slice none 0 0,.bool false,.slice none 0 0];rw [e_1];clear e_1;have lr:=r2.lt;have H0:=jJ (aI4 k0 r0 r1 r2);clear k0 r0 r1 r2;refine aX 6 [5] [5,6,7,8,9,1014] [5,6,7,8,9] [Un (ZV Nil 1),Un (LitV ?v2_1),Un (ZV Nil (-1)),Un (LitV ?v2_3),Un (TV (Old w0) (sumT 1 ⟨la,za⟩ (-1) ⟨lb,zb⟩)),nothing] (aB.sk (aB.nx ?r2_4 (aB.nx ?r2_3 (aB.nx ?r2_2 (aB.nx ?r2_1 (aB.nx ?r2_0 aB.zero)))))) ?rfn2
 case' r2_0|r2_1|r2_2|r2_3|r2_4=>
  intro us wj hk hp K hK;try simp only [aO,Act.put,sL] at hK⊢
  obtain ⟨d0,d1,d2⟩:=(H0.o.2.1.keep hk id).three;obtain ⟨e0',e1',e2'⟩:=(H0.o.2.2.1.keep hk id).three
 case' r2_0=>
  go_simp
  refine (zof_any (M:=Nil) (z:=1) (MB.nil _) (by omega) (by omega)).mono ?_;rintro e wk ⟨g,a,n,c,rfl,h,hk2⟩;exact hK.out _ _ hk2 (⟨g,a,n,c,rfl,h⟩)
 case' r2_1|r2_3=>
  go_simp
  refine hK.out _ _ (aA.refl _ _) ?_;exact rfl
 case' r2_2=>
  go_simp
  refine (zof_any (M:=Nil) (z:=-1) (MB.nil _) (by omega) (by omega)).mono ?_;rintro e wk ⟨g,a,n,c,rfl,h,hk2⟩;exact hK.out _ _ hk2 (⟨g,a,n,c,rfl,h⟩)
 case' r2_4=>
  obtain ⟨g0,a0,n0,c0,e0,h0⟩:(ZV Nil 1) (us 5) wj:=hp 0;have e1:us 6=_:=hp 1;obtain ⟨g2,a2,n2,c2,e2,h2⟩:(ZV Nil (-1)) (us 7) wj:=hp 2;have e3:us 8=_:=hp 3;rw [e0,e1,e2,e3] at hK⊢;go_simp
  refine (sum_any (M:=Old w0) (MB.oldLe hk.size) (h0.zat fit_one) (h2.zat fit_neg1) (HA.o.1.keepNil (H0.o.1.trans hk)) (HA.o.2.2.1.keepNil (H0.o.1.trans hk)) (HA.o.2.1.keepNil (H0.o.1.trans hk)) (HA.o.2.2.2.1.keepNil (H0.o.1.trans hk)) (by have:=h0.len;have:=nlen_one;omega) (by have:=h2.len;have:=nlen_one;simp only [Int.natAbs_neg] at *;omega) HA.o.r4.1 HA.o.r5.1 HA.o.r6.1 HA.o.r7).mono ?_;rintro e wk ⟨v,rfl,hv,hk2⟩;exact hK.out _ _ hk2 (hv)
 case' rfn2=>
 intro us wz hkz hf;simp only [aO,Act.put,sL];obtain ⟨g0,a0,n0,c0,e0,h0⟩:(ZV Nil 1) (us 5) wz:=hf 0;have e1:us 6=_:=hf 1;obtain ⟨g2,a2,n2,c2,e2,h2⟩:(ZV Nil (-1)) (us 7) wz:=hf 2;have e3:us 8=_:=hf 3;obtain ⟨ap4,np4,cp4,gk4,ak4,nk4,ck4,e4,h4⟩:(TV (Old w0) (sumT 1 ⟨la,za⟩ (-1) ⟨lb,zb⟩)) (us 9) wz:=hf 4;clear hf;simp only [e0,e1,e2,e3,e4];clear e0 e1 e2 e3 e4 us;refine aK 5 fun K hK=>?_;obtain ⟨z0,z1,z2⟩:=(H0.o.2.2.2.keep hkz id).three;obtain ⟨z3,z4,z5⟩:=(H0.o.2.2.2.keep hkz id).marks3;go_simp
 refine mK ?_;clear hK K;refine aP (by kernel_rfl) ?_ _;go_wp2_with fail
 have r6:=(H0.o.2.2.2.keep hkz id).triple (.slice ap4 np4 cp4) (.bool gk4) (.slice ak4 nk4 ck4);obtain ⟨y0,y1,y2⟩:=r6.three;exact bodyPost_ret (v:=.agg #[.slice ap4 np4 cp4,.bool gk4,.slice ak4 nk4 ck4]) (by simp [results,results38,go_sem,y0,y1,y2]) rfl ⟨_,rfl,⟨_,_,_,_,_,_,_,rfl,h4.out (M:=M) lr (fun b hb=>by have:=HM.o b hb;omega) (aA.triple (g:=w.heap.size+1+1) (.slice ap4 np4 cp4) (.bool gk4) (.slice ak4 nk4 ck4))⟩,(H0.o.1.trans hkz).own (by omega) (aA.triple _ _ _)⟩
theorem tconst_any {M:Nat→Prop} {w:World} {ga:Bool} {aa:Option Addr} {na ca:Nat} {z:Int} (hM:MB M w) (hz:ZAt Nil w ga aa na ca z) :
  Calls prog 41 #[.agg #[.bool ga,.slice aa na ca]] w fun e w'=>Gives Nil (TV M ⟨[],z⟩) w e w':=by
 have HM:=jJ hM;have HZ:=jJ hz;clear hM hz;go_enter func41,ntmps41
 go_upto_region 1 with (fail)
 obtain ⟨w0,e_3,k0,r0,r1⟩:=bx2 w 25 [.bool ga,.slice aa na ca] 27 [.slice none 0 0,.bool false,.slice none 0 0];rw [e_3];clear e_3;obtain ⟨c0,c1,-,-⟩:=r0.two;have lr:=r1.lt;have H0:=jJ (aI k0 r1);clear k0 r0 r1;go_wp2_with (go_at_call 91;refine (norm_any (M:=Old w0) (MB.old w0) (HZ.o.keepNil H0.o.1)).mono ?_;rintro e w1 ⟨g,a,n,c,rfl,hn,hk1⟩;have r1:=H0.o.2.keep hk1 id;obtain ⟨z0,z1,z2⟩:=r1.three;obtain ⟨z3,z4,z5⟩:=r1.marks3;have H1:=jJ (aI3 hn hk1 r1);clear hn hk1 r1)
 have r6:=H1.o.2.2.triple (.slice none 0 0) (.bool g) (.slice a n c);obtain ⟨y0,y1,y2⟩:=r6.three;exact bodyPost_ret (v:=.agg #[.slice none 0 0,.bool g,.slice a n c]) (by simp [results,results41,go_sem,y0,y1,y2]) rfl ⟨_,rfl,⟨_,_,_,_,_,_,_,rfl,(show dZ (Old w0) w1 none 0 0 g a n c ⟨[],z⟩ from ⟨SlOf.nil,H1.o.1⟩).out lr (fun b hb=>by have:=HM.o b hb;omega) (aA.triple _ _ _)⟩,(H0.o.1.trans H1.o.2.1).own (by omega) (aA.triple _ _ _)⟩
section
variable {V ks ids:List Int} {limbs nodes sp kind ov x y v:Int} {xs:List (Bool × List Nat)} {L:List aS} {N:aS} {X:bB} {i:Nat} {A':aF}
def altN (L:List aS):Nat→Int→Prop
 | 0,_=>True
 | f+1,x=>∀k∈(L.getD x.toNat aV).kids,((L.getD x.toNat aV).kind=5∨(L.getD x.toNat aV).kind=6→(L.getD k.toNat aV).kind≠(L.getD x.toNat aV).kind)∧(0≤k∧k<x)∧altN L f k
def Alt (L:List aS) (x:Int):Prop:=∀f,altN L f x
theorem Alt.intro (h:∀k∈(L.getD x.toNat aV).kids,((L.getD x.toNat aV).kind=5∨(L.getD x.toNat aV).kind=6→(L.getD k.toNat aV).kind≠(L.getD x.toNat aV).kind)∧(0≤k∧k<x)∧Alt L k):Alt L x:=fun f=>by
 cases f with
 | zero=>trivial
 | succ f=>exact fun k hk=>⟨(h k hk).1,(h k hk).2.1,(h k hk).2.2 f⟩
theorem altN_ext {L t:List aS}:∀(f:Nat) (x:Int),0≤x→x<(L.length:Int)→altN L f x→altN (L++t) f x
 | 0,_,_,_,_=>trivial
 | f+1,x,h0,h1,h=>by
  have e:(L++t).getD x.toNat aV=L.getD x.toNat aV:=getD_append_lt L t aV (by omega);intro k hk;rw [e] at hk⊢;have hb:=(h k hk).2.1;have e2:(L++t).getD k.toNat aV=L.getD k.toNat aV:=getD_append_lt L t aV (by omega);rw [e2];exact⟨(h k hk).1,hb,altN_ext f k hb.1 (by omega) (h k hk).2.2⟩
theorem Alt.ext {A:aF} (h:Alt A.nodes x) (h0:0≤x) (h1:x<(A.nodes.length:Int)) (he:Ext A A'):Alt A'.nodes x:=fun f=>by
 obtain ⟨t,he⟩:=he;rw [he];exact altN_ext f x h0 h1 (h f)
theorem NodeK.sizeS (h:NodeK V limbs N) (hl:limbs≤8) (hV:V.length≤262144) (hk:N.kids.length≤1000000):SizeN N:=
 ⟨by have:=length_parts_le h.neat h.vars;omega,fun p hp=>by have:=h.nums p hp;omega,by have:=h.k;omega,by have:=h.d;omega,by omega⟩
structure bW (V:List Int) (nodes limbs:Int) (A:aF) (sp:Int):Prop where
 inv:InvA V nodes A sp
 all:AllN (NodeK V limbs) A
 start:Ext startA A
theorem bW.begin (h0:0≤sp) (h1:sp≤nodes):bW V nodes limbs startA sp:=⟨InvA.start h0 h1,AllN.start,Ext.refl _⟩
theorem bW.below {A:aF} (h:bW V nodes limbs A sp):Below A.nodes:=fun i hi=>(h.inv.kids i hi).2
theorem bW.low {A:aF} (h:bW V nodes limbs A sp) (hi:i<2):A.nodes.getD i aV=⟨(i:Int),0,bH,0,[]⟩:=by
 obtain ⟨t,e⟩:=h.start;rw [e];rcases (show i=0∨i=1 by omega) with rfl|rfl<;>rfl
theorem bW.kidsLen {A:aF} (h:bW V nodes limbs A sp) (hn:nodes≤2000) (hi:i<A.nodes.length):(A.nodes.getD i aV).kids.length≤2002:=by
 have h1:=length_kids_le (h.inv.kids i hi).1 (h.inv.kids i hi).2;have:=h.inv.used;have:=h.inv.spn;omega
theorem bW.fine {A:aF} (h:bW V nodes limbs A sp) (hn:nodes≤2000) (hl:limbs≤8) (hV:V.length≤262144):FineA A:=by
 have h3:=h.inv.used;have h4:=h.inv.spn;refine ⟨by omega,h.inv.once.two,fun i hi=>?_,h.below,fun i hi hk=>?_⟩
 ·rcases Nat.lt_or_ge i 2 with h2|h2
  ·rw [h.low h2];exact⟨⟨aZ2 _,fun p hp=>absurd hp hZ2,by simp [bH,nlen0],by simp [nlen0],aZ2 _⟩,neat_nil⟩
  ·have hk:=h.all i h2 hi;exact⟨hk.sizeS hl hV (by have:=h.kidsLen hn hi;omega),hk.neat⟩
 ·rcases Nat.lt_or_ge i 2 with h2|h2
  ·rw [h.low h2] at hk;simp only at hk;omega
  ·exact ((h.all i h2 hi).again.join hk).1
def AltR (A:aF) (y:Int):Prop:=(0≤y∧y<(A.nodes.length:Int))∧Alt A.nodes y
theorem AltR.mono {A:aF} (h:AltR A y) (he:Ext A A'):AltR A' y:=⟨⟨h.1.1,by have:=he.len;have:=h.1.2;omega⟩,h.2.ext h.1.1 h.1.2 he⟩
theorem alt_nokids (h:(L.getD x.toNat aV).kids=[]):Alt L x:=Alt.intro fun k hk=>by rw [h] at hk;cases hk
theorem bW.const {A:aF} (h:bW V nodes limbs A sp) (hy:y=0∨y=1):AltR A y:=by
 have h2:=h.inv.once.two;refine ⟨by omega,alt_nokids ?_⟩;rw [h.low (i:=y.toNat) (by omega)]
structure Came2 (V:List Int) (nodes limbs:Int) (A:aF) (r:(Int × Int) × aF × (Int × Int)):Prop where
 ok:bW V nodes limbs r.2.1 r.2.2.1
 ext:Ext A r.2.1
theorem madeM_node {A:aF} (h:InvA V nodes A sp) (hN:FormN N) (he:(dF A nodes limbs sp ov N xs).1.2=0):0≤(dF A nodes limbs sp ov N xs).1.1∧(dF A nodes limbs sp ov N xs).1.1<((dF A nodes limbs sp ov N xs).2.1.nodes.length:Int)∧(dF A nodes limbs sp ov N xs).2.1.nodes.getD (dF A nodes limbs sp ov N xs).1.1.toNat aV=N:=by
 unfold dF at he⊢;cases hk:keyF A.nodes (bA N) with
 | some i=>
  obtain ⟨q1,q2,q3⟩:=h.once.find_some hN hk;exact⟨by simp,by simp only;omega,by simpa using q3⟩
 | none=>
  rw [hk] at he;simp only [] at he⊢;by_cases h0:(dK nodes limbs sp ov xs).2.2=0
  ·rw [if_pos h0];refine ⟨by simp,by simp [addA];omega,?_⟩;show (A.nodes++[N]).getD ((A.nodes.length:Int)).toNat aV=N
   rw [Int.toNat_natCast,dD]
  ·rw [if_neg h0] at he;exact absurd he h0
theorem Came2.same {i e:Int} {A:aF} (h:bW V nodes limbs A sp):Came2 V nodes limbs A ((i,e),A,(sp,ov)):=⟨h,Ext.refl _⟩
theorem joinM_came {A:aF} (h0:0≤limbs) (h:bW V nodes limbs A sp):Came2 V nodes limbs A (dM A nodes limbs sp ov kind ks):=by
 have he:Ext A (dM A nodes limbs sp ov kind ks).2.1:=by
  unfold dM;split
  ·exact Ext.refl _
  split
  ·exact Ext.refl _
  split
  ·exact Ext.refl _
  split
  ·exact madeM_ext
  ·exact Ext.refl _
 exact⟨⟨(joinM_sound h.inv).1,joinM_all h0 h.all,h.start.trans he⟩,he⟩
theorem bindM_came {k:Int} {A:aF} (h0:0≤limbs) (hv:I64 v) (h:bW V nodes limbs A sp):Came2 V nodes limbs A (dR A nodes limbs sp ov kind v k):=by
 have he:Ext A (dR A nodes limbs sp ov kind v k).2.1:=by
  unfold dR;split
  ·exact Ext.refl _
  split
  ·exact Ext.refl _
  ·exact madeM_ext
 exact⟨⟨(bindM_sound h.inv).1,bindM_all h0 hv h.all,h.start.trans he⟩,he⟩
theorem atomM_came {A:aF} (hX:SmallX V X) (h:bW V nodes limbs A sp):Came2 V nodes limbs A (cZ A nodes limbs sp ov X):=by
 have he:Ext A (cZ A nodes limbs sp ov X).2.1:=by
  unfold cZ atomR;split
  ·exact Ext.refl _
  split
  ·exact Ext.refl _
  ·exact madeM_ext
 exact⟨⟨(atomM_sound h.inv hX).1,atomM_all h.all hX,h.start.trans he⟩,he⟩
theorem atomM_alt {A:aF} (h:bW V nodes limbs A sp) (hX:SmallX V X) (hc:Came2 V nodes limbs A (cZ A nodes limbs sp ov X)) (he:(cZ A nodes limbs sp ov X).1.2=0):AltR (cZ A nodes limbs sp ov X).2.1 (cZ A nodes limbs sp ov X).1.1:=by
 have hb:=dW (k:=X.kind) hX.1 hX.2 (by decide);unfold cZ at he hc⊢;obtain ⟨k,d,⟨l,z⟩⟩:=X;simp only at hb he hc⊢;obtain ⟨⟨e,B⟩,hr⟩:∃r,r=bV ⟨k,d,⟨l,z⟩⟩:=⟨_,rfl⟩;rw [←hr] at hb he hc⊢;simp only at hb;by_cases h0:e=0
 ·subst h0;by_cases hk:B.kind≤1
  ·rw [atomR_const hk];exact h.const (by have:=hb.kind;simp only;omega)
  ·rw [atomR_go hk] at he hc⊢;have hf:=(fine_of_small (A:=A) hb (by omega)).form;obtain ⟨q1,q2,q3⟩:=madeM_node h.inv hf he;exact⟨⟨q1,q2⟩,alt_nokids (by rw [q3];rfl)⟩
 ·rw [atomR_err h0] at he;exact absurd he h0
theorem sjoinM_came {A:aF} (h0:0≤limbs) (h:bW V nodes limbs A sp):Came2 V nodes limbs A (cV A nodes limbs sp ov kind ks):=by
 unfold cV;split
 ·exact Came2.same h
 split
 ·exact Came2.same h
 split
 ·exact Came2.same h
 ·exact joinM_came h0 h
theorem left_mem {A:aF} (hx:x∈leftM A kind (keptM A kind (restM A kind ids))):∃y∈ids,x∈flatX A.nodes kind y:=by
 have h1:=(hZ3.1 hx).1;have h2:=(hZ3.1 h1).1;have h3:=(hZ3.1 h2).1;exact cZ3.1 (dI.1 h3)
theorem roomK {A:aF} (h:InvA V nodes A sp) (hn:nodes≤2000) (hV:V.length≤262144) (h5:5≤kind) (h8:kind≤8) (hv:kind=5∨kind=6→v=0) (hp:ks.Pairwise (·<·)) (hk:∀k∈ks,0≤k∧k<(A.nodes.length:Int)):(cO A ⟨kind,0,bH,v,ks⟩).length≤1000000000:=
 freeRaw_room h hn hV (by simp [bH,neatL]) ⟨⟨by simp only;omega,h8,fun h4=>by simp only at h4;omega,fun _=>⟨rfl,rfl⟩,hv⟩,fun x hx=>by simp [bH,neatL] at hx,hp,hk⟩
def Err0 (r:(Int × Int) × aF × (Int × Int)):Prop:=r.1.2≠0→r.1.1=0
theorem madeM_err0 {A:aF}:Err0 (dF A nodes limbs sp ov N xs):=fun he=>by
 unfold dF at he⊢;cases hk:keyF A.nodes (bA N) with
 | some i=>rw [hk] at he;exact absurd rfl he
 | none=>
  rw [hk] at he;simp only [] at he⊢;by_cases h0:(dK nodes limbs sp ov xs).2.2=0
  ·rw [if_pos h0] at he;exact absurd rfl he
  ·rw [if_neg h0]
theorem joinM_err0 {A:aF}:Err0 (dM A nodes limbs sp ov kind ks):=by
 unfold dM;split
 ·exact fun _=>rfl
 split
 ·exact fun _=>rfl
 split
 ·exact fun h=>absurd rfl h
 split
 ·exact madeM_err0
 ·exact fun h=>absurd rfl h
theorem bindM_err0 {A:aF} {k:Int}:Err0 (dR A nodes limbs sp ov kind v k):=by
 unfold dR;split
 ·exact fun _=>rfl
 split
 ·exact fun _=>rfl
 ·exact madeM_err0
theorem atomM_err0 {A:aF}:Err0 (cZ A nodes limbs sp ov X):=by
 unfold cZ atomR;split
 ·exact fun _=>rfl
 split
 ·exact fun h=>absurd rfl h
 ·exact madeM_err0
theorem sjoinM_err0 {A:aF}:Err0 (cV A nodes limbs sp ov kind ks):=by
 unfold cV;split
 ·exact fun _=>rfl
 split
 ·exact fun h=>absurd rfl h
 split
 ·exact fun h=>absurd rfl h
 ·exact joinM_err0
end
section
variable {V:List Int} {nodes limbs x sp:Int}
def againT (nodes limbs:Int):TurnF:=fun A sp ov x ks=>
 if (ndA A x).kind=5∨(ndA A x).kind=6 then cV A nodes limbs sp ov (ndA A x).kind ks
 else if (ndA A x).kind=7∨(ndA A x).kind=8 then dR A nodes limbs sp ov (ndA A x).kind (ndA A x).var (ks.getD 0 0)
 else ((x,0),A,(sp,ov))
theorem bW.one {A:aF} (h:bW V nodes limbs A sp) (h0:0≤x) (h1:x<(A.nodes.length:Int)) (hk:(ndA A x).kind=7∨(ndA A x).kind=8):(ndA A x).kids.length=1∧I64 (ndA A x).var:=by
 have h2:2≤x.toNat:=by
  rcases Nat.lt_or_ge x.toNat 2 with h2|h2
  ·unfold ndA at hk;rw [h.low h2] at hk;simp only at hk;omega
  ·exact h2
 have hK:=h.all x.toNat h2 (by omega);have hb:=hK.again.bind hk;exact⟨by unfold ndA;rw [hb];rfl,hK.var⟩
theorem bW.none {A:aF} (h:bW V nodes limbs A sp) (h0:0≤x) (h1:x<(A.nodes.length:Int)) (hk:(ndA A x).kind≤4):(ndA A x).kids=[]:=by
 rcases Nat.lt_or_ge x.toNat 2 with h2|h2
 ·unfold ndA;rw [h.low h2]
 ·exact ((h.inv.once.form x.toNat h2 (by omega)).2.2.1 hk).2
theorem bW.kinds {A:aF} (h:bW V nodes limbs A sp) (h0:0≤x) (h1:x<(A.nodes.length:Int)):0≤(ndA A x).kind∧(ndA A x).kind≤8:=by
 rcases Nat.lt_or_ge x.toNat 2 with h2|h2
 ·unfold ndA;rw [h.low h2];simp only;omega
 ·have hf:=h.inv.once.form x.toNat h2 (by omega);exact⟨by have:=hf.1;unfold ndA;omega,hf.2.1⟩
theorem AltR.i64 {y:Int} {A:aF} (h:bW V nodes limbs A sp) (hn:nodes≤2000) (hy:AltR A y):I64' y:=by
 have:=hy.1;have:=h.inv.used;have:=h.inv.spn;exact⟨by omega,by omega⟩
end
end Go.Proofs.Q
