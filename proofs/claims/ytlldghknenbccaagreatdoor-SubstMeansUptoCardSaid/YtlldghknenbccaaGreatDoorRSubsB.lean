/- What subst's caught answers: some truth; none of an atom. -/
import Derived.Test.YtlldghknenbccaaGreatDoorRCaughtA
import Derived.Test.YtlldghknenbccaaGreatDoorRSimpB
import Derived.Test.YtlldghknenbccaaGreatDoorRFixes
import Derived.Test.YtlldghknenbccaaGreatDoorRLetsB
set_option linter.unusedSimpArgs false
set_option linter.unusedVariables false
set_option maxRecDepth 100000
set_option maxHeartbeats 4000000
namespace Go.Proofs.Q
open Go.RowKit Go.Maps Tryz
theorem bxm {P:Program} {kt et:TypeId} (w:World) (E:TypeId):∃w0,(w.alloc (.map #[] 0)).alloc (.cells #[.map (some w.heap.size)] E)=w0∧aA Nil w w0∧jW P kt et w0 w.heap.size 0 (fun _=>0)∧aF w0 (w.heap.size+1) E [.map (some w.heap.size)]:=by
 refine ⟨_,rfl,kOf,(jW.made w).keep (M:=Nil) kOf id,?_⟩;have h:=aF.alloc (w:=w.alloc (.map #[] 0)) (E:=E) (xs:=[.map (some w.heap.size)]);rwa [show (w.alloc (.map #[] 0)).heap.size=w.heap.size+1 by simp] at h
theorem aJB {L:List aS} {C:Int→Int} {m:Nat}:∀{N:Nat},(∀i,i<N→(L.getD i aP).kids.length≤m)→lM L C N≤N*m
 | 0,_=>aZ2 _
 | n+1,h=>by
  have ih:=aJB (L:=L) (C:=C) (m:=m) (N:=n) fun i hi=>h i zZ;have h1:=h n (Nat.lt_succ_self n);have h2:kq (C (n:Int)) (L.getD n aP).kids.length≤m:=by unfold kq;split<;>omega
  simp only [lM,Nat.succ_mul];omega
theorem aKZ {V l:List Int} (h:l.Pairwise (·<·)) (hv:∀v∈l,v∈V):l.length≤V.length:=by
 have:=MK (V:=V) (l:=l.map fun v=>(v,1)) ⟨List.pairwise_map.2 h,fun p hp=>by obtain ⟨v,-,rfl⟩:=iZ2.1 hp;simp⟩ (fun p hp=>by obtain ⟨v,hvm,rfl⟩:=iZ2.1 hp;exact hv v hvm);simpa using this
theorem bE.aJC {V:List Int} {nodes limbs sp:Int} {A:aC} (h:bE V nodes limbs A sp) (hV:V.length≤262144) {i:Nat} (hi:i<A.nodes.length):(A.free.getD i []).length≤262144:=by
 obtain ⟨h1,h2⟩:=h.inv.free i hi;exact bZ1 (aKZ h1 h2) hV
theorem aRN {O M1:Nat→Prop} {V:List Int} {w:World} {g gm i:Nat} {A:aC} {sp v:Int} {vars:List Int} {sa:Option Addr} {ns cs:Nat} (hA:bW O w g gm A) (hI:bE V 2000 8 A sp) (hV:V.length≤262144) (hi:i<A.nodes.length) (hv:cE M1 w sa ns cs vars) :
  Calls prog 43 #[.pointer (some ⟨g,0,none⟩),.int .i64 (i:Int),.int .i64 v,.slice sa ns cs] w fun e w'=>(∃b:Bool,e=.returned (.bool b)∧(NoQ A.nodes (i:Int)→b=false))∧aA Nil w w':=by
 have hF:=hI.fine zY zY hV;have hlen2:A.nodes.length≤2002:=by have:=hI.inv.used;have:=hI.inv.spn;omega
 have hpot:lM A.nodes (fun _=>0) A.nodes.length≤2002*2002:=bZ1 (aJB (m:=2002) fun j hj=>hI.aJE zY hj) (Nat.mul_le_mul_right _ hlen2);have hlt:=hA.lt;have hcg:=fun (bm ba bv bs bw mb:Nat) (W:World) (h:EZ O g gm bm ba bv bs bw mb v vars sa ns cs A W) (hm:CX W mb 0 fun _=>0)=>aPA hF.len (fun j hj=>(hF.sound j hj).size) (fun j hj=>bZ1 (hI.aJC hV hj) zY) hI.below i W 0 (fun _=>0) hi h hm zZ;have HA:=jJ (aI4 hA hv hlt hcg);clear hA hI hF hpot hlt hcg hv;go_enter func43,ntmps43
 go_upto_region 1 with (fail)
 obtain ⟨w0,e_1,k0,r0,r1,r2⟩:=bx3 w 42 [.pointer (some ⟨g,0,none⟩)] 3 [.int .i64 v] 56 [.slice sa ns cs];rw [e_1];clear e_1;have l2:=r2.lt;have H0:=jJ (aI4 k0 r0 r1 r2);clear k0 r0 r1 r2;have hmm:=@run_makeMap prog;have hsf:∀(a:Addr) (m:Mode) (W:World) (f:Fn) (cb:Array Value),(store a (.func f #[] cb) m).run prog W=stored prog W a (.func f #[] cb) m:=fun a m W f cb=>run_store prog W a _ m rfl;go_upto_region 2 with (fail)
 obtain ⟨w1,e1,k1,m1,r1⟩:=bxm (P:=prog) (kt:=3) (et:=3) w0 86;rw [e1];clear e1 hmm;obtain ⟨mb,hmb⟩:∃b,w0.heap.size=b:=⟨_,rfl⟩;rw [hmb] at m1 r1⊢;have lr1:=r1.lt;go_upto_region 4 with (fail)
 obtain ⟨w2,e2,k2,r2⟩:=bx1 w1 89 [.func (.func 94) #[] #[.pointer (some ⟨mb+1,0,none⟩),.pointer (some ⟨w.heap.size,0,none⟩),.pointer (some ⟨w.heap.size+1,0,none⟩),.pointer (some ⟨w.heap.size+1+1,0,none⟩),.pointer (some ⟨w1.heap.size,0,none⟩)]];rw [e2];clear e2;obtain ⟨bw,hbw⟩:∃b,w1.heap.size=b:=⟨_,rfl⟩;rw [hbw] at r2⊢;obtain ⟨f0,-⟩:=r2.one;have lw:=r2.lt;have k02:=k1.trans k2;have kw:=H0.o.1.trans k02;have hW:EZ O g gm (mb+1) w.heap.size (w.heap.size+1) (w.heap.size+1+1) bw mb v vars sa ns cs A w2:=⟨HA.o.1.keep kw fun _ h=>h.elim,r1.keep k2 id,H0.o.2.1.keep k02 id,H0.o.2.2.1.keep k02 id,H0.o.2.2.2.keep k02 id,r2,HA.o.2.1.move kw (fun _ _ h=>h.elim) (fun b hb hm=>by have h3:b=mb:=hm;omega),fun h=>by have:=HA.o.2.2.1 mb h;omega,zZ⟩;have hc:=HA.o.2.2.2 _ _ _ _ _ _ w2 hW ⟨m1.keep k2 id,fun u=>⟨Int.le_refl _,zW⟩⟩;have heg:∀args w,(callFunc 94 args).run prog w=.ok (.enter 94 args) w:=enters_of func94 zX rfl;have hmw:w.heap.size≤mb:=by have:=H0.o.1.size;omega
 have HC:=jJ (aI3 hc kw hmw);clear hW hc kw k02 m1 r1 r2 k1 k2;go_wp2_with (refine HC.o.1.mono ?_;rintro e w3 ⟨⟨b,rfl,hb⟩,-,hk3⟩;have H3:=jJ (aI hb (HC.o.2.1.trans' hk3 (fun b hb=>.inr (by have h3:b=mb:=hb;have:=HC.o.2.2;omega))));clear hb hk3)
 go_ret
 exact⟨⟨b,rfl,H3.o.1⟩,H3.o.2⟩
section
variable {V ks:List Int} {nodes limbs kind sp ov:Int}
theorem aTO {A:aC} (h:bE V nodes limbs A sp) (h5:kind=5∨kind=6) (he:(dW A nodes limbs sp ov kind ks).1.2=0):0≤(dW A nodes limbs sp ov kind ks).1.1∧(dW A nodes limbs sp ov kind ks).1.1<((dW A nodes limbs sp ov kind ks).2.1.nodes.length:Int):=by
 have h2:=h.inv.once.two;cases ha:ks.all (fE A)
 ·rw [PI h5 ha] at he;exact absurd he zW
 rcases Nat.lt_trichotomy (cM ks).length 1 with hl|hl|hl
 ·rw [EJ h5 ha zZ];simp only;split<;>omega
 ·rw [EM h5 ha hl];exact dH.1 (kZ2.1 ha _ (cL.1 (cK 0 zZ)))
 ·rw [EH h5 ha hl] at he⊢;obtain ⟨q1,q2,q3⟩:=DJ h.inv ⟨yT,yT,fun h4=>xL,fun _=>⟨rfl,rfl⟩,fun _=>rfl⟩ he;exact⟨q1,q2⟩
theorem aBU {A:aC} (h:bE V nodes limbs A sp) (h5:kind=5∨kind=6) (he:(cR A nodes limbs sp ov kind ks).1.2=0):0≤(cR A nodes limbs sp ov kind ks).1.1∧(cR A nodes limbs sp ov kind ks).1.1<((cR A nodes limbs sp ov kind ks).2.1.nodes.length:Int):=by
 have h2:=h.inv.once.two;have hrg:0≤gP kind∧gP kind<(A.nodes.length:Int):=by unfold gP;split<;>omega
 unfold cR at he⊢;split at he
 ·exact absurd he zW
 rename_i ha;rw [if_neg ha];split at he
 ·rw [if_pos sW];exact hrg
 rename_i hm;rw [if_neg hm];split at he
 ·rw [if_pos sW];exact hrg
 rename_i hc;rw [if_neg hc];exact aTO h h5 he
theorem aEN {v k:Int} {A:aC} (h:bE V nodes limbs A sp) (he:(dY A nodes limbs sp ov kind v k).1.2=0):0≤(dY A nodes limbs sp ov kind v k).1.1∧(dY A nodes limbs sp ov kind v k).1.1<((dY A nodes limbs sp ov kind v k).2.1.nodes.length:Int):=by
 by_cases h7:kind≠7∧kind≠8
 ·rw [OP h7] at he;exact absurd he zW
 have h78:kind=7∨kind=8:=zZ;cases ha:fE A k
 ·rw [KS h78 ha] at he;exact absurd he zW
 rw [IJ h78 ha] at he⊢;obtain ⟨q1,q2,q3⟩:=DJ h.inv ⟨yT,yT,fun h4=>xL,fun _=>⟨rfl,rfl⟩,fun h5=>sV⟩ he;exact⟨q1,q2⟩
end
section
variable {V ks:List Int} {nodes limbs sp ov kind x:Int} {xs:List (Bool × List Nat)} {f:aY→aY} {c:Int→Option Int} {A0:aC} {N:aS} {X:aY}
def cQ (f:aY→aY) (nodes limbs:Int):kK:=fun A sp ov x ks=>
 if (ndA A x).kind=5∨(ndA A x).kind=6 then cR A nodes limbs sp ov (ndA A x).kind ks
 else if (ndA A x).kind=7∨(ndA A x).kind=8 then dY A nodes limbs sp ov (ndA A x).kind (ndA A x).var (ks.getD 0 0)
 else cX A nodes limbs sp ov (f ⟨(ndA A x).kind,(ndA A x).d,(ndA A x).t⟩)
def iV (A:aC):Prop:=∀kind x,kind=5∨kind=6→0≤x→x<(A.nodes.length:Int)→(kL A.nodes kind x).length≤585029621920
theorem iV.raw {A:aC} (h:bE V nodes limbs A sp) (hF:fM Five A) (hn:A.nodes.length≤42):iV A:=fun kind x _ h0 h1=>by
 have h2:=aEH (kind:=kind) h hF (x.toNat+1) x zZ h0 h1;have h3:=aGJ (i:=x.toNat) (j:=41) zZ;rw [bigP_41] at h3;omega
theorem iV.made {sp':Int} {A:aC} (hg:iV A) (h:bE V nodes limbs (cU A nodes limbs sp ov N xs).2.1 sp') (hk:N.kind=5∨N.kind=6→N.kids.length≤2002∧∀k∈N.kids,(0≤k∧k<(A.nodes.length:Int))∧(ndA A k).kind≠N.kind):iV (cU A nodes limbs sp ov N xs).2.1:=by
 have hcase:(cU A nodes limbs sp ov N xs).2.1=A∨(cU A nodes limbs sp ov N xs).2.1=fQ A N:=by
  unfold cU;cases fK A.nodes (bB N) with
  | some i=>exact .inl rfl
  | none=>
   simp only [];split
   ·exact .inr rfl
   ·exact .inl rfl
 rcases hcase with e|e
 ·rw [e];exact hg
 ·rw [e] at h⊢;have he:Ext A (fQ A N):=⟨[N],rfl⟩;have hB:=h.below;intro kind x h5 h0 h1;by_cases hx:x<(A.nodes.length:Int)
  ·rw [aFN hB he h0 hx];exact hg kind x h5 h0 hx
  ·have hl:(fQ A N).nodes.length=A.nodes.length+1:=by simp [fQ]
   have hxe:x.toNat=A.nodes.length:=zZ;have hN:(fQ A N).nodes.getD x.toNat aP=N:=by
    rw [hxe];exact dM _ _ _
   by_cases hkd:N.kind=kind
   ·rw [UA hB h0 h1 sE,hN];obtain ⟨q1,q2⟩:=hk (by rw [hkd];exact h5);have h2:=NV (m:=1) (kL (fQ A N).nodes kind) N.kids fun k hkm=>by
     obtain ⟨q3,q4⟩:=q2 k hkm;rw [aFN hB he q3.1 q3.2,NT (by rw [←hkd];exact q4)];exact bZ2 _
    omega
   ·rw [NT sE];simp
theorem iV.join {A:aC} (h0:0≤limbs) (hn:nodes≤2000) (h:bE V nodes limbs A sp) (hg:iV A) (hk:∀k∈ks,(ndA A k).kind≠kind):iV (dW A nodes limbs sp ov kind ks).2.1:=by
 have hc:=TT (ov:=ov) (kind:=kind) (ks:=ks) h0 h;by_cases h5:kind≠5∧kind≠6
 ·rw [VG h5];exact hg
 have h56:kind=5∨kind=6:=zZ;cases ha:ks.all (fE A)
 ·rw [PI h56 ha];exact hg
 rcases Nat.lt_trichotomy (cM ks).length 1 with hl|hl|hl
 ·rw [EJ h56 ha zZ];exact hg
 ·rw [EM h56 ha hl];exact hg
 ·rw [EH h56 ha hl] at hc⊢;refine hg.made hc.ok fun _=>⟨?_,fun k hkm=>⟨dH.1 (kZ2.1 ha k (cL.1 hkm)),hk k (cL.1 hkm)⟩⟩;have h1:=ML (m:=A.nodes.length) (oI ks) fun k hkm=>dH.1 (kZ2.1 ha k (cL.1 hkm));have h2:=h.inv.used;have h3:=h.inv.spn;simp only;omega
theorem iV.bCK {A:aC} (h0:0≤limbs) (hn:nodes≤2000) (h:bE V nodes limbs A sp) (hg:iV A):iV (cR A nodes limbs sp ov kind ks).2.1:=by
 cases ha:ks.all (fE A)
 ·rw [VL ha];exact hg
 by_cases hm:gP kind∈jV A kind ks
 ·rw [KC ha hm];exact hg
 cases hcl:jU A kind (gL A kind (fU A kind ks)) (gL A kind (fU A kind ks)).length
 ·rw [JW ha hm hcl];refine hg.join h0 hn h fun k hk=>?_;obtain ⟨y,hy,hxy⟩:=KO hk;have h1:=dH.1 (kZ2.1 ha y hy);exact aAK h.below h1.1 h1.2 hxy
 ·rw [JN ha hm hcl];exact hg
theorem iV.bind {v k:Int} {A:aC} (h0:0≤limbs) (hv:I64 v) (h:bE V nodes limbs A sp) (hg:iV A):iV (dY A nodes limbs sp ov kind v k).2.1:=by
 have hc:=aCM (ov:=ov) (kind:=kind) (k:=k) h0 hv h;by_cases h7:kind≠7∧kind≠8
 ·rw [OP h7];exact hg
 have h78:kind=7∨kind=8:=zZ;cases ha:fE A k
 ·rw [KS h78 ha];exact hg
 rw [IJ h78 ha] at hc⊢;exact hg.made hc.ok fun h5=>sV
theorem iV.atom {A:aC} (h:bE V nodes limbs A sp) (hX:jM V X) (hg:iV A):iV (cX A nodes limbs sp ov X).2.1:=by
 have hc:=GI (ov:=ov) hX h;have hb:=nJ (k:=X.kind) hX.1 hX.2 zY;unfold cX at hc⊢;obtain ⟨k,d,⟨l,z⟩⟩:=X;simp only at hb hc⊢;obtain ⟨⟨e,B⟩,hr⟩:∃r,r=bJ ⟨k,d,⟨l,z⟩⟩:=⟨_,rfl⟩;rw [←hr] at hb hc⊢;simp only at hb;by_cases h0:e=0
 ·subst h0;by_cases hk:B.kind≤1
  ·rw [BD hk];exact hg
  ·rw [AA hk] at hc⊢;exact hg.made hc.ok fun h5=>by have:=hb.kind;simp only [gH] at h5;omega
 ·rw [KM h0];exact hg
def FR (V:List Int) (nodes limbs:Int) (A0:aC) (A:aC) (sp _ov:Int):Prop:=bE V nodes limbs A sp∧iV A∧iP A0 A
def mM (A:aC) (y:Int):Prop:=0≤y∧y<(A.nodes.length:Int)
def DW (V:List Int) (f:aY→aY):Prop:=∀X:aY,cB 8 262144 V X.t→eP X.d.natAbs≤8→fF X.t.parts→jM V (f X)
theorem aPH {A:aC}:iP A (cR A nodes limbs sp ov kind ks).2.1:=by
 unfold cR;split
 ·exact uP
 split
 ·exact uP
 split
 ·exact uP
 ·exact aSN
theorem iP.ext {A F:aC} (h:iP A F):Ext A F:=by obtain ⟨t,u,v,h1,-,-⟩:=h;exact⟨t,h1⟩
theorem VJ (h0:0≤limbs) (hn:nodes≤2000) (hl:limbs≤8) (hV:V.length≤262144) (hf:DW V f):IQ (cQ f nodes limbs) (FR V nodes limbs A0) mM:=by
 refine ⟨fun {A sp ov x ks} hI hx0 hx1 hks hkl=>?_,fun h he=>⟨h.1,by have:=he.len;have:=h.2;omega⟩,fun h=>h,fun h=>bE.below h.1⟩;obtain ⟨h,hg,hx⟩:=hI;unfold cQ;by_cases h5:(ndA A x).kind=5∨(ndA A x).kind=6
 ·rw [if_pos h5];have hc:=aAM (ov:=ov) (kind:=(ndA A x).kind) (ks:=ks) h0 h;exact⟨⟨hc.ok,hg.bCK h0 hn h,hx.trans aPH⟩,hc.ext,aBU h h5⟩
 rw [if_neg h5];by_cases h7:(ndA A x).kind=7∨(ndA A x).kind=8
 ·rw [if_pos h7];obtain ⟨q1,q2⟩:=h.one hx0 hx1 h7;have hc:=aCM (ov:=ov) (kind:=(ndA A x).kind) (k:=ks.getD 0 0) h0 q2 h;exact⟨⟨hc.ok,hg.bind h0 q2 h,hx.trans aQX⟩,hc.ext,aEN h⟩
 ·rw [if_neg h7];obtain ⟨s1,s2,s3⟩:=h.small hl hV hx0 hx1;have hX:=hf ⟨(ndA A x).kind,(ndA A x).d,(ndA A x).t⟩ s1 s2 s3;have hc:=GI (ov:=ov) hX h;exact⟨⟨hc.ok,hg.atom h hX,hx.trans aRU⟩,hc.ext,fun he=>(aEJ h hX hc he).1⟩
theorem aPK {A:aC}:JB (cQ f nodes limbs A sp ov x ks):=by
 unfold cQ;split
 ·exact aOV
 split
 ·exact aRG
 ·exact aRJ
def mZ (sk:Int→Bool) (c:Int→Option Int):Int→Option Int:=fun u=>match c u with
 | some y=>some y
 | none=>if sk u then some u else none
theorem aVY {sk:Int→Bool} {y:Int}:mZ sk (iL c x y)=iL (mZ sk c) x y:=by
 funext u;unfold mZ iL;by_cases e:u=x
 ·rw [if_pos e,if_pos e]
 ·rw [if_neg e,if_neg e]
end
end Go.Proofs.Q
