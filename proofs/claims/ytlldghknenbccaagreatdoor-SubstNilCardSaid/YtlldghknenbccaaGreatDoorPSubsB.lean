/- What subst's caught answers: some truth; none of an atom. -/
import Derived.Test.YtlldghknenbccaaGreatDoorPCaughtA
import Derived.Test.YtlldghknenbccaaGreatDoorPSimpB
import Derived.Test.YtlldghknenbccaaGreatDoorPFixes
import Derived.Test.YtlldghknenbccaaGreatDoorPLetsB
set_option linter.unusedSimpArgs false
set_option linter.unusedVariables false
set_option maxRecDepth 100000
set_option maxHeartbeats 4000000
namespace Go.Proofs.Q
open Go.RowKit Go.Maps Tryz
theorem bxm {P:Program} {kt et:TypeId} (w:World) (E:TypeId):∃w0,(w.alloc (.map #[] 0)).alloc (.cells #[.map (some w.heap.size)] E)=w0∧aA Nil w w0∧IMap P kt et w0 w.heap.size 0 (fun _=>0)∧aC w0 (w.heap.size+1) E [.map (some w.heap.size)]:=by
 refine ⟨_,rfl,kOf,(IMap.made w).keep (M:=Nil) kOf id,?_⟩;have h:=aC.alloc (w:=w.alloc (.map #[] 0)) (E:=E) (xs:=[.map (some w.heap.size)]);rwa [show (w.alloc (.map #[] 0)).heap.size=w.heap.size+1 by simp] at h
theorem potU_le {L:List aS} {C:Int→Int} {m:Nat}:∀{N:Nat},(∀i,i<N→(L.getD i aV).kids.length≤m)→potU L C N≤N*m
 | 0,_=>aZ2 _
 | n+1,h=>by
  have ih:=potU_le (L:=L) (C:=C) (m:=m) (N:=n) fun i hi=>h i (by omega);have h1:=h n (Nat.lt_succ_self n);have h2:kq (C (n:Int)) (L.getD n aV).kids.length≤m:=by unfold kq;split<;>omega
  simp only [potU,Nat.succ_mul];omega
theorem length_rising_le {V l:List Int} (h:l.Pairwise (·<·)) (hv:∀v∈l,v∈V):l.length≤V.length:=by
 have:=length_parts_le (V:=V) (l:=l.map fun v=>(v,1)) ⟨List.pairwise_map.2 h,fun p hp=>by obtain ⟨v,-,rfl⟩:=iZ2.1 hp;simp⟩ (fun p hp=>by obtain ⟨v,hvm,rfl⟩:=iZ2.1 hp;exact hv v hvm);simpa using this
theorem bW.freeLen {V:List Int} {nodes limbs sp:Int} {A:aF} (h:bW V nodes limbs A sp) (hV:V.length≤262144) {i:Nat} (hi:i<A.nodes.length):(A.free.getD i []).length≤262144:=by
 obtain ⟨h1,h2⟩:=h.inv.free i hi;exact bZ1 (length_rising_le h1 h2) hV
theorem caught_any {O M1:Nat→Prop} {V:List Int} {w:World} {g gm i:Nat} {A:aF} {sp v:Int} {vars:List Int} {sa:Option Addr} {ns cs:Nat} (hA:bX O w g gm A) (hI:bW V 2000 8 A sp) (hV:V.length≤262144) (hi:i<A.nodes.length) (hv:cB M1 w sa ns cs vars) :
  Calls prog 43 #[.pointer (some ⟨g,0,none⟩),.int .i64 (i:Int),.int .i64 v,.slice sa ns cs] w fun e w'=>(∃b:Bool,e=.returned (.bool b)∧((A.nodes.getD i aV).kind≤4→b=false))∧aA Nil w w':=by
 have hF:=hI.fine (by decide) (by decide) hV;have hlen2:A.nodes.length≤2002:=by have:=hI.inv.used;have:=hI.inv.spn;omega
 have hpot:potU A.nodes (fun _=>0) A.nodes.length≤2002*2002:=bZ1 (potU_le (m:=2002) fun j hj=>hI.kidsLen (by decide) hj) (Nat.mul_le_mul_right _ hlen2);have hlt:=hA.lt;have hcg:=fun (bm ba bv bs bw mb:Nat) (W:World) (h:CaughtW O g gm bm ba bv bs bw mb v vars sa ns cs A W) (hm:MetAt W mb 0 fun _=>0)=>caught1_any hF.len (fun j hj=>(hF.sound j hj).size) (fun j hj=>bZ1 (hI.freeLen hV hj) (by decide)) hI.below (fun j hj hk=>hI.none (x:=(j:Int)) (by omega) (by omega) hk) i W 0 (fun _=>0) hi h hm (by omega);have HA:=jJ (aI4 hA hv hlt hcg);clear hA hI hF hpot hlt hcg hv;go_enter func43,ntmps43
 go_upto_region 1 with (fail)
 obtain ⟨w0,e_1,k0,r0,r1,r2⟩:=bx3 w 42 [.pointer (some ⟨g,0,none⟩)] 3 [.int .i64 v] 56 [.slice sa ns cs];rw [e_1];clear e_1;have l2:=r2.lt;have H0:=jJ (aI4 k0 r0 r1 r2);clear k0 r0 r1 r2;have hmm:=@run_makeMap prog;have hsf:∀(a:Addr) (m:Mode) (W:World) (f:Fn) (cb:Array Value),(store a (.func f #[] cb) m).run prog W=stored prog W a (.func f #[] cb) m:=fun a m W f cb=>run_store prog W a _ m rfl;go_upto_region 2 with (fail)
 obtain ⟨w1,e1,k1,m1,r1⟩:=bxm (P:=prog) (kt:=3) (et:=3) w0 86;rw [e1];clear e1 hmm;obtain ⟨mb,hmb⟩:∃b,w0.heap.size=b:=⟨_,rfl⟩;rw [hmb] at m1 r1⊢;have lr1:=r1.lt;go_upto_region 4 with (fail)
 obtain ⟨w2,e2,k2,r2⟩:=bx1 w1 89 [.func (.func 94) #[] #[.pointer (some ⟨mb+1,0,none⟩),.pointer (some ⟨w.heap.size,0,none⟩),.pointer (some ⟨w.heap.size+1,0,none⟩),.pointer (some ⟨w.heap.size+1+1,0,none⟩),.pointer (some ⟨w1.heap.size,0,none⟩)]];rw [e2];clear e2;obtain ⟨bw,hbw⟩:∃b,w1.heap.size=b:=⟨_,rfl⟩;rw [hbw] at r2⊢;obtain ⟨f0,-⟩:=r2.one;have lw:=r2.lt;have k02:=k1.trans k2;have kw:=H0.o.1.trans k02;have hW:CaughtW O g gm (mb+1) w.heap.size (w.heap.size+1) (w.heap.size+1+1) bw mb v vars sa ns cs A w2:=⟨HA.o.1.keep kw fun _ h=>h.elim,r1.keep k2 id,H0.o.2.1.keep k02 id,H0.o.2.2.1.keep k02 id,H0.o.2.2.2.keep k02 id,r2,HA.o.2.1.move kw (fun _ _ h=>h.elim) (fun b hb hm=>by have h3:b=mb:=hm;omega),fun h=>by have:=HA.o.2.2.1 mb h;omega,by omega⟩;have hc:=HA.o.2.2.2 _ _ _ _ _ _ w2 hW ⟨m1.keep k2 id,fun u=>⟨Int.le_refl _,by simp⟩⟩;have heg:∀args w,(callFunc 94 args).run prog w=.ok (.enter 94 args) w:=enters_of func94 (by kernel_rfl) rfl;have hmw:w.heap.size≤mb:=by have:=H0.o.1.size;omega
 have HC:=jJ (aI3 hc kw hmw);clear hW hc kw k02 m1 r1 r2 k1 k2;go_wp2_with (refine HC.o.1.mono ?_;rintro e w3 ⟨⟨b,rfl,hb⟩,-,hk3⟩;have H3:=jJ (aI hb (HC.o.2.1.trans' hk3 (fun b hb=>.inr (by have h3:b=mb:=hb;have:=HC.o.2.2;omega))));clear hb hk3)
 go_ret
 exact⟨⟨b,rfl,H3.o.1⟩,H3.o.2⟩
section
variable {V ks:List Int} {nodes limbs kind sp ov:Int}
theorem joinM_rng {A:aF} (h:bW V nodes limbs A sp) (h5:kind=5∨kind=6) (he:(dM A nodes limbs sp ov kind ks).1.2=0):0≤(dM A nodes limbs sp ov kind ks).1.1∧(dM A nodes limbs sp ov kind ks).1.1<((dM A nodes limbs sp ov kind ks).2.1.nodes.length:Int):=by
 have h2:=h.inv.once.two;cases ha:ks.all (hasK A)
 ·rw [joinM_no h5 ha] at he;exact absurd he (by simp)
 rcases Nat.lt_trichotomy (dE ks).length 1 with hl|hl|hl
 ·rw [joinM_nil h5 ha (by omega)];simp only;split<;>omega
 ·rw [joinM_one h5 ha hl];exact dY.1 (kZ2.1 ha _ (dI.1 (cU 0 (by omega))))
 ·rw [joinM_many h5 ha hl] at he⊢;obtain ⟨q1,q2,q3⟩:=madeM_node h.inv ⟨by simp only;omega,by simp only;omega,fun h4=>by simp only at h4;omega,fun _=>⟨rfl,rfl⟩,fun _=>rfl⟩ he;exact⟨q1,q2⟩
theorem sjoinM_rng {A:aF} (h:bW V nodes limbs A sp) (h5:kind=5∨kind=6) (he:(cV A nodes limbs sp ov kind ks).1.2=0):0≤(cV A nodes limbs sp ov kind ks).1.1∧(cV A nodes limbs sp ov kind ks).1.1<((cV A nodes limbs sp ov kind ks).2.1.nodes.length:Int):=by
 have h2:=h.inv.once.two;have hrg:0≤allV kind∧allV kind<(A.nodes.length:Int):=by unfold allV;split<;>omega
 unfold cV at he⊢;split at he
 ·exact absurd he (by simp)
 rename_i ha;rw [if_neg ha];split at he
 ·rw [if_pos (by assumption)];exact hrg
 rename_i hm;rw [if_neg hm];split at he
 ·rw [if_pos (by assumption)];exact hrg
 rename_i hc;rw [if_neg hc];exact joinM_rng h h5 he
theorem bindM_rng {v k:Int} {A:aF} (h:bW V nodes limbs A sp) (he:(dR A nodes limbs sp ov kind v k).1.2=0):0≤(dR A nodes limbs sp ov kind v k).1.1∧(dR A nodes limbs sp ov kind v k).1.1<((dR A nodes limbs sp ov kind v k).2.1.nodes.length:Int):=by
 by_cases h7:kind≠7∧kind≠8
 ·rw [bindM_bad h7] at he;exact absurd he (by simp)
 have h78:kind=7∨kind=8:=by omega
 cases ha:hasK A k
 ·rw [bindM_no h78 ha] at he;exact absurd he (by simp)
 rw [bindM_go h78 ha] at he⊢;obtain ⟨q1,q2,q3⟩:=madeM_node h.inv ⟨by simp only;omega,by simp only;omega,fun h4=>by simp only at h4;omega,fun _=>⟨rfl,rfl⟩,fun h5=>by simp only at h5;omega⟩ he;exact⟨q1,q2⟩
end
section
variable {V ks:List Int} {nodes limbs sp ov kind x:Int} {xs:List (Bool × List Nat)} {f:bB→bB} {c:Int→Option Int} {A0:aF} {N:aS} {X:bB}
def cS (f:bB→bB) (nodes limbs:Int):TurnF:=fun A sp ov x ks=>
 if (ndA A x).kind=5∨(ndA A x).kind=6 then cV A nodes limbs sp ov (ndA A x).kind ks
 else if (ndA A x).kind=7∨(ndA A x).kind=8 then dR A nodes limbs sp ov (ndA A x).kind (ndA A x).var (ks.getD 0 0)
 else cZ A nodes limbs sp ov (f ⟨(ndA A x).kind,(ndA A x).d,(ndA A x).t⟩)
def GoodF (A:aF):Prop:=∀kind x,kind=5∨kind=6→0≤x→x<(A.nodes.length:Int)→(flatX A.nodes kind x).length≤585029621920
theorem GoodF.raw {A:aF} (h:bW V nodes limbs A sp) (hF:AllN Five A) (hn:A.nodes.length≤42):GoodF A:=fun kind x _ h0 h1=>by
 have h2:=flatX_big (kind:=kind) h hF (x.toNat+1) x (by omega) h0 h1;have h3:=bigP_mono (i:=x.toNat) (j:=41) (by omega);rw [bigP_41] at h3;omega
theorem GoodF.made {sp':Int} {A:aF} (hg:GoodF A) (h:bW V nodes limbs (dF A nodes limbs sp ov N xs).2.1 sp') (hk:N.kind=5∨N.kind=6→N.kids.length≤2002∧∀k∈N.kids,(0≤k∧k<(A.nodes.length:Int))∧(ndA A k).kind≠N.kind):GoodF (dF A nodes limbs sp ov N xs).2.1:=by
 have hcase:(dF A nodes limbs sp ov N xs).2.1=A∨(dF A nodes limbs sp ov N xs).2.1=addA A N:=by
  unfold dF;cases keyF A.nodes (bA N) with
  | some i=>exact .inl rfl
  | none=>
   simp only [];split
   ·exact .inr rfl
   ·exact .inl rfl
 rcases hcase with e|e
 ·rw [e];exact hg
 ·rw [e] at h⊢;have he:Ext A (addA A N):=⟨[N],rfl⟩;have hB:=h.below;intro kind x h5 h0 h1;by_cases hx:x<(A.nodes.length:Int)
  ·rw [flatX_ext hB he h0 hx];exact hg kind x h5 h0 hx
  ·have hl:(addA A N).nodes.length=A.nodes.length+1:=by simp [addA]
   have hxe:x.toNat=A.nodes.length:=by omega
   have hN:(addA A N).nodes.getD x.toNat aV=N:=by
    rw [hxe];exact dD _ _ _
   by_cases hkd:N.kind=kind
   ·rw [flatX_node hB h0 h1 (by rw [hN];exact hkd),hN];obtain ⟨q1,q2⟩:=hk (by rw [hkd];exact h5);have h2:=flatMap_le (m:=1) (flatX (addA A N).nodes kind) N.kids fun k hkm=>by
     obtain ⟨q3,q4⟩:=q2 k hkm;rw [flatX_ext hB he q3.1 q3.2,flatX_leaf (by rw [←hkd];exact q4)];exact bZ2 _
    omega
   ·rw [flatX_leaf (by rw [hN];exact hkd)];simp
theorem GoodF.join {A:aF} (h0:0≤limbs) (hn:nodes≤2000) (h:bW V nodes limbs A sp) (hg:GoodF A) (hk:∀k∈ks,(ndA A k).kind≠kind):GoodF (dM A nodes limbs sp ov kind ks).2.1:=by
 have hc:=joinM_came (ov:=ov) (kind:=kind) (ks:=ks) h0 h;by_cases h5:kind≠5∧kind≠6
 ·rw [joinM_bad h5];exact hg
 have h56:kind=5∨kind=6:=by omega
 cases ha:ks.all (hasK A)
 ·rw [joinM_no h56 ha];exact hg
 rcases Nat.lt_trichotomy (dE ks).length 1 with hl|hl|hl
 ·rw [joinM_nil h56 ha (by omega)];exact hg
 ·rw [joinM_one h56 ha hl];exact hg
 ·rw [joinM_many h56 ha hl] at hc⊢;refine hg.made hc.ok fun _=>⟨?_,fun k hkm=>⟨dY.1 (kZ2.1 ha k (dI.1 hkm)),hk k (dI.1 hkm)⟩⟩;have h1:=length_kids_le (m:=A.nodes.length) (neatF_pair ks) fun k hkm=>dY.1 (kZ2.1 ha k (dI.1 hkm));have h2:=h.inv.used;have h3:=h.inv.spn;simp only;omega
theorem GoodF.sjoin {A:aF} (h0:0≤limbs) (hn:nodes≤2000) (h:bW V nodes limbs A sp) (hg:GoodF A):GoodF (cV A nodes limbs sp ov kind ks).2.1:=by
 cases ha:ks.all (hasK A)
 ·rw [sjoinM_no ha];exact hg
 by_cases hm:allV kind∈openM A kind ks
 ·rw [sjoinM_all ha hm];exact hg
 cases hcl:clashTo A kind (keptM A kind (restM A kind ks)) (keptM A kind (restM A kind ks)).length
 ·rw [sjoinM_join ha hm hcl];refine hg.join h0 hn h fun k hk=>?_;obtain ⟨y,hy,hxy⟩:=left_mem hk;have h1:=dY.1 (kZ2.1 ha y hy);exact flatX_noKind h.below h1.1 h1.2 hxy
 ·rw [sjoinM_clash ha hm hcl];exact hg
theorem GoodF.bind {v k:Int} {A:aF} (h0:0≤limbs) (hv:I64 v) (h:bW V nodes limbs A sp) (hg:GoodF A):GoodF (dR A nodes limbs sp ov kind v k).2.1:=by
 have hc:=bindM_came (ov:=ov) (kind:=kind) (k:=k) h0 hv h;by_cases h7:kind≠7∧kind≠8
 ·rw [bindM_bad h7];exact hg
 have h78:kind=7∨kind=8:=by omega
 cases ha:hasK A k
 ·rw [bindM_no h78 ha];exact hg
 rw [bindM_go h78 ha] at hc⊢;exact hg.made hc.ok fun h5=>by simp only at h5;omega
theorem GoodF.atom {A:aF} (h:bW V nodes limbs A sp) (hX:SmallX V X) (hg:GoodF A):GoodF (cZ A nodes limbs sp ov X).2.1:=by
 have hc:=atomM_came (ov:=ov) hX h;have hb:=dW (k:=X.kind) hX.1 hX.2 (by decide);unfold cZ at hc⊢;obtain ⟨k,d,⟨l,z⟩⟩:=X;simp only at hb hc⊢;obtain ⟨⟨e,B⟩,hr⟩:∃r,r=bV ⟨k,d,⟨l,z⟩⟩:=⟨_,rfl⟩;rw [←hr] at hb hc⊢;simp only at hb;by_cases h0:e=0
 ·subst h0;by_cases hk:B.kind≤1
  ·rw [atomR_const hk];exact hg
  ·rw [atomR_go hk] at hc⊢;exact hg.made hc.ok fun h5=>by have:=hb.kind;simp only [nodeB] at h5;omega
 ·rw [atomR_err h0];exact hg
def SubI (V:List Int) (nodes limbs:Int) (A0:aF) (A:aF) (sp _ov:Int):Prop:=bW V nodes limbs A sp∧GoodF A∧ExtA A0 A
def RngR (A:aF) (y:Int):Prop:=0≤y∧y<(A.nodes.length:Int)
def SmallF (V:List Int) (f:bB→bB):Prop:=∀X:bB,bZ 8 262144 V X.t→nlen X.d.natAbs≤8→Neat X.t.parts→SmallX V (f X)
theorem sjoinM_extA {A:aF}:ExtA A (cV A nodes limbs sp ov kind ks).2.1:=by
 unfold cV;split
 ·exact ExtA.refl A
 split
 ·exact ExtA.refl A
 split
 ·exact ExtA.refl A
 ·exact joinM_extA
theorem ExtA.ext {A F:aF} (h:ExtA A F):Ext A F:=by obtain ⟨t,u,v,h1,-,-⟩:=h;exact⟨t,h1⟩
theorem substT_ok (h0:0≤limbs) (hn:nodes≤2000) (hl:limbs≤8) (hV:V.length≤262144) (hf:SmallF V f):TurnOk (cS f nodes limbs) (SubI V nodes limbs A0) RngR:=by
 refine ⟨fun {A sp ov x ks} hI hx0 hx1 hks hkl=>?_,fun h he=>⟨h.1,by have:=he.len;have:=h.2;omega⟩,fun h=>h,fun h=>bW.below h.1⟩;obtain ⟨h,hg,hx⟩:=hI;unfold cS;by_cases h5:(ndA A x).kind=5∨(ndA A x).kind=6
 ·rw [if_pos h5];have hc:=sjoinM_came (ov:=ov) (kind:=(ndA A x).kind) (ks:=ks) h0 h;exact⟨⟨hc.ok,hg.sjoin h0 hn h,hx.trans sjoinM_extA⟩,hc.ext,sjoinM_rng h h5⟩
 rw [if_neg h5];by_cases h7:(ndA A x).kind=7∨(ndA A x).kind=8
 ·rw [if_pos h7];obtain ⟨q1,q2⟩:=h.one hx0 hx1 h7;have hc:=bindM_came (ov:=ov) (kind:=(ndA A x).kind) (k:=ks.getD 0 0) h0 q2 h;exact⟨⟨hc.ok,hg.bind h0 q2 h,hx.trans bindM_extA⟩,hc.ext,bindM_rng h⟩
 ·rw [if_neg h7];obtain ⟨s1,s2,s3⟩:=h.small hl hV hx0 hx1;have hX:=hf ⟨(ndA A x).kind,(ndA A x).d,(ndA A x).t⟩ s1 s2 s3;have hc:=atomM_came (ov:=ov) hX h;exact⟨⟨hc.ok,hg.atom h hX,hx.trans atomM_extA⟩,hc.ext,fun he=>(atomM_alt h hX hc he).1⟩
theorem substT_err0 {A:aF}:Err0 (cS f nodes limbs A sp ov x ks):=by
 unfold cS;split
 ·exact sjoinM_err0
 split
 ·exact bindM_err0
 ·exact atomM_err0
def cameS (sk:Int→Bool) (c:Int→Option Int):Int→Option Int:=fun u=>match c u with
 | some y=>some y
 | none=>if sk u then some u else none
theorem cameS_put {sk:Int→Bool} {y:Int}:cameS sk (putC c x y)=putC (cameS sk c) x y:=by
 funext u;unfold cameS putC;by_cases e:u=x
 ·rw [if_pos e,if_pos e]
 ·rw [if_neg e,if_neg e]
end
end Go.Proofs.Q
