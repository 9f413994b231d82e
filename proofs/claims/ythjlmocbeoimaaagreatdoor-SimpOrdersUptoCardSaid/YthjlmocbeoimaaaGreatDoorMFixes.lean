/- What is joined once stays so: plain laws of simp's joined and Again. -/
import Derived.Test.YthjlmocbeoimaaaGreatDoorMSimpA
set_option linter.unusedSimpArgs false
set_option linter.unusedVariables false
namespace Go.Rid
open Go.RowKit Go.Proofs.Q
variable {l ids V K ks:List Int} {xs:List (Bool × List Nat)} {nodes limbs sp ov sp' ov' x k:Int} {j:Nat} {N:aW}
theorem neatF_same {m:List Int} (h:∀x,x∈l↔x∈m):cI l=cI m:=pair_ext (neatF_pair l) (neatF_pair m) fun x=>by rw [mem_neatF,mem_neatF];exact h x
/-! More nodes: the same leaves. -/
theorem flatN_ext {L t:List aW} {kind:Int} (hB:Below L):∀(f:Nat) (x:Int),0≤x→x<(L.length:Int)→flatN (L++t) kind f x=flatN L kind f x
 | 0,_,_,_=>rfl
 | f+1,x,h0,h1=>by
  have e:(L++t).getD x.toNat aZ=L.getD x.toNat aZ:=getD_append_lt L t aZ (by omega);unfold flatN;rw [e];split
  ·exact flatMap_same fun k hk=>by have:=hB.kid h0 h1 hk;exact flatN_ext hB f k this.1 (by omega)
  ·rfl
theorem below_append {L t:List aW} (hB:Below (L++t)):Below L:=fun i hi k hk=>by
 have e:(L++t).getD i aZ=L.getD i aZ:=getD_append_lt L t aZ hi;exact hB i (by rw [aZ1];omega) k (by rw [e];exact hk)
theorem flatX_ext {A F:aO} {kind:Int} (hB:Below F.nodes) (he:Ext A F) (h0:0≤x) (h1:x<(A.nodes.length:Int)):flatX F.nodes kind x=flatX A.nodes kind x:=by
 obtain ⟨t,he⟩:=he;rw [he] at hB⊢;have hBL:=below_append hB;show flatN (A.nodes++t) kind (A.nodes++t).length x=flatN A.nodes kind A.nodes.length x
 rw [flatN_ext hBL _ x h0 h1];exact flatN_fuel hBL _ _ x h0 h1 (by rw [aZ1];omega) (by omega)
theorem flatL_ext {A F:aO} {kind:Int} (hB:Below F.nodes) (he:Ext A F) (h:∀x∈ids,0≤x∧x<(A.nodes.length:Int)):dQ F.nodes kind ids=dQ A.nodes kind ids:=flatMap_same fun x hx=>flatX_ext hB he (h x hx).1 (h x hx).2
theorem openM_ext {A F:aO} {kind:Int} (hB:Below F.nodes) (he:Ext A F) (h:∀x∈ids,0≤x∧x<(A.nodes.length:Int)):openM F kind ids=openM A kind ids:=by unfold openM;rw [flatL_ext hB he h]
theorem openM_range {A:aO} {kind:Int} (hB:Below A.nodes) (h:∀x∈ids,0≤x∧x<(A.nodes.length:Int)) (hx:x∈openM A kind ids):0≤x∧x<(A.nodes.length:Int):=by
 obtain ⟨y,hy,hxy⟩:=cZ3.1 (mem_neatF.1 hx);have h1:=h y hy;have h2:=flatX_mem hB h1.1 h1.2 hxy;omega
theorem keptM_ext {A F:aO} {kind:Int} (he:Ext A F) (h:∀x∈l,0≤x∧x<(A.nodes.length:Int)):dB F kind l=dB A kind l:=by
 unfold dB;refine List.filter_congr fun i hi=>?_;congr 1;unfold weakIn;rw [Bool.eq_iff_iff,bZ3,bZ3];refine exists_congr fun k=>and_congr_right fun hk=>?_;rw [he.nd (h i hi).1 (h i hi).2,he.nd (h k hk).1 (h k hk).2]
theorem clashTo_ext {A F:aO} {kind:Int} (he:Ext A F) (h:∀x∈l,0≤x∧x<(A.nodes.length:Int)):clashTo F kind l l.length=clashTo A kind l l.length:=by
 unfold clashTo;rw [Bool.eq_iff_iff,bZ3,bZ3];refine exists_congr fun j=>and_congr_right fun hj=>?_;have hj':j<l.length:=List.mem_range.1 hj;rw [bZ3,bZ3];refine exists_congr fun k=>and_congr_right fun hk=>?_;have h1:=h _ (cC 0 hj');have h2:=h k (aZ3 hk);rw [he.nd h1.1 h1.2,he.nd h2.1 h2.2]
theorem leftM_ext {A F:aO} {kind:Int} (he:Ext A F) (h:∀x∈l,0≤x∧x<(A.nodes.length:Int)):leftM F kind l=leftM A kind l:=by
 unfold leftM dropP;refine List.filter_congr fun i hi=>?_;unfold goesM;rw [he.nd (h i hi).1 (h i hi).2]
theorem madeM_fix {A F:aO} (h:InvA V nodes A sp) (hN:FormN N) (he:(madeM A nodes limbs sp ov N xs).1.2=0) (hx:Ext (madeM A nodes limbs sp ov N xs).2.1 F) (hF:OnceA F):madeM F nodes limbs sp' ov' N xs=((madeM A nodes limbs sp ov N xs).1,F,(sp',ov')):=by
 obtain ⟨q1,q2,q3⟩:=madeM_node h hN he;have h2:2≤(madeM A nodes limbs sp ov N xs).1.1.toNat:=by
  unfold madeM at he⊢;cases hk:keyF A.nodes (bA N) with
  | some i=>have:=(keyF_some hk).1;simpa using this
  | none=>
   rw [hk] at he;simp only [] at he⊢;by_cases h0:(dG nodes limbs sp ov xs).2.2=0
   ·rw [if_pos h0];have:=h.once.two;simpa using this
   ·rw [if_neg h0] at he;exact absurd he h0
 have hnd:F.nodes.getD (madeM A nodes limbs sp ov N xs).1.1.toNat aZ=N:=by
  have:=hx.nd q1 q2;unfold ndA at this;rw [this];exact q3
 have hlt:(madeM A nodes limbs sp ov N xs).1.1.toNat<F.nodes.length:=by have:=hx.len;omega
 rw [madeM_there (hF.find h2 hlt hnd),Int.toNat_of_nonneg q1];exact congrArg (fun q:Int × Int=>(q,F,(sp',ov'))) (Prod.ext rfl he.symm)
theorem joinM_fix {kind:Int} {A F:aO} (h:bD V nodes limbs A sp) (he:(dK A nodes limbs sp ov kind ks).1.2=0) (hx:Ext (dK A nodes limbs sp ov kind ks).2.1 F) (hF:OnceA F):dK F nodes limbs sp' ov' kind ks=((dK A nodes limbs sp ov kind ks).1,F,(sp',ov')):=by
 by_cases h5:kind≠5∧kind≠6
 ·rw [joinM_bad h5] at he;exact absurd he (by simp)
 have h56:kind=5∨kind=6:=by omega
 cases ha:ks.all (hasK A)
 ·rw [joinM_no h56 ha] at he;exact absurd he (by simp)
 have hAF:Ext A F:=by
  refine Ext.trans ?_ hx;unfold dK;split
  ·exact Ext.refl _
  split
  ·exact Ext.refl _
  split
  ·exact Ext.refl _
  split
  ·exact madeM_ext
  ·exact Ext.refl _
 have haF:ks.all (hasK F)=true:=kZ2.2 fun k hk=>by
  have h1:=cY.1 (kZ2.1 ha k hk);exact cY.2 ⟨h1.1,by have:=hAF.len;omega⟩
 rcases Nat.lt_trichotomy (cI ks).length 1 with hl|hl|hl
 ·rw [joinM_nil h56 ha (by omega),joinM_nil h56 haF (by omega)]
 ·rw [joinM_one h56 ha hl,joinM_one h56 haF hl]
 ·rw [joinM_many h56 ha hl] at he hx⊢;rw [joinM_many h56 haF hl];exact madeM_fix h.inv ⟨by simp only;omega,by simp only;omega,fun h4=>by simp only at h4;omega,fun _=>⟨rfl,rfl⟩,fun _=>rfl⟩ he hx hF
theorem bindM_fix {kind v:Int} {A F:aO} (h:bD V nodes limbs A sp) (he:(dO A nodes limbs sp ov kind v k).1.2=0) (hx:Ext (dO A nodes limbs sp ov kind v k).2.1 F) (hF:OnceA F):dO F nodes limbs sp' ov' kind v k=((dO A nodes limbs sp ov kind v k).1,F,(sp',ov')):=by
 by_cases h7:kind≠7∧kind≠8
 ·rw [bindM_bad h7] at he;exact absurd he (by simp)
 have h78:kind=7∨kind=8:=by omega
 cases ha:hasK A k
 ·rw [bindM_no h78 ha] at he;exact absurd he (by simp)
 have hAF:Ext A F:=by
  refine Ext.trans ?_ hx;rw [bindM_go h78 ha];exact madeM_ext
 have haF:hasK F k=true:=by
  have h1:=cY.1 ha;exact cY.2 ⟨h1.1,by have:=hAF.len;omega⟩
 rw [bindM_go h78 ha] at he hx⊢;rw [bindM_go h78 haF];exact madeM_fix h.inv ⟨by simp only;omega,by simp only;omega,fun h4=>by simp only at h4;omega,fun _=>⟨rfl,rfl⟩,fun h5=>by simp only at h5;omega⟩ he hx hF
structure LeftOf (A:aO) (kind:Int) (K:List Int):Prop where
 sorted:K.Pairwise (·<·)
 range:∀k∈K,0≤k∧k<(A.nodes.length:Int)
 leaf:∀k∈K,(ndA A k).kind≠kind
 noAll:¬allV kind∈K
 noNot:¬nothingV kind∈K
 weak:∀i∈K,∀k∈K,weakerM kind (ndA A i) (ndA A k)=false
 clash:∀a∈K,∀b∈K,b<a→clashM kind (ndA A a) (ndA A b)=false
 goes:∀i∈K,(ndA A i).kind=otherV kind→∀k∈(ndA A i).kids,¬k∈K
theorem LeftOf.ext {A F:aO} {kind:Int} (h:LeftOf A kind K) (he:Ext A F):LeftOf F kind K:=by
 have hn:∀k∈K,ndA F k=ndA A k:=fun k hk=>he.nd (h.range k hk).1 (h.range k hk).2;exact⟨h.sorted,fun k hk=>by have:=h.range k hk;have:=he.len;omega,fun k hk=>by rw [hn k hk];exact h.leaf k hk,h.noAll,h.noNot,fun i hi k hk=>by rw [hn i hi,hn k hk];exact h.weak i hi k hk,fun a ha b hb hab=>by rw [hn a ha,hn b hb];exact h.clash a ha b hb hab,fun i hi=>by rw [hn i hi];exact h.goes i hi⟩
theorem pair_take (h:l.Pairwise (·<·)) (hj:j<l.length) (hk:k∈l.take j):k<l.getD j 0:=by
 obtain ⟨i,hi,rfl⟩:=List.mem_take_iff_getElem.1 hk;have:=List.pairwise_iff_getElem.1 h i j (by omega) hj (by omega);simpa [List.getD,hj] using this
theorem clash_free {A:aO} {kind:Int} (h:l.Pairwise (·<·)):clashTo A kind l l.length=false↔∀a∈l,∀b∈l,b<a→clashM kind (ndA A a) (ndA A b)=false:=by
 unfold clashTo;rw [List.any_eq_false];constructor
 ·intro hc a ha b hb hab;obtain ⟨j,hj,rfl⟩:=gZ3 ha;obtain ⟨i,hi,rfl⟩:=gZ3 hb;have hij:i<j:=by
   rcases Nat.lt_trichotomy i j with h1|h1|h1
   ·exact h1
   ·subst h1;omega
   ·have:=List.pairwise_iff_getElem.1 h j i hj hi h1;omega
  have h1:=hc j (List.mem_range.2 hj);rw [Bool.not_eq_true,List.any_eq_false] at h1;have h2:=h1 l[i] (List.mem_take_iff_getElem.2 ⟨i,by omega,rfl⟩);simpa [List.getD,hj] using h2
 ·intro hc j hj;have hj':j<l.length:=List.mem_range.1 hj;rw [Bool.not_eq_true,List.any_eq_false];intro k hk;rw [hc _ (cC 0 hj') k (aZ3 hk) (pair_take h hj' hk)];simp
theorem LeftOf.sjoin {A:aO} {kind:Int} (h:LeftOf A kind K):bF A nodes limbs sp ov kind K=dK A nodes limbs sp ov kind K:=by
 have ha:K.all (hasK A)=true:=kZ2.2 fun k hk=>cY.2 (h.range k hk);have hfl:dQ A.nodes kind K=K:=by
  unfold dQ;have:∀l:List Int,(∀k∈l,(ndA A k).kind≠kind)→l.flatMap (flatX A.nodes kind)=l:=fun l=>by
   induction l with
   | nil=>intro _;rfl
   | cons x l ih=>
    intro hl;rw [eZ2,flatX_leaf (hl x (kZ1 ..)),ih fun k hk=>hl k (lZ1 _ hk)];rfl
  exact this K h.leaf
 have ho:openM A kind K=K:=by unfold openM;rw [hfl,neatF_id h.sorted]
 have hr:cJ A kind K=K:=by
  unfold cJ;rw [ho];exact dropP_none fun x hx=>decide_eq_false fun e=>h.noNot (by rw [←e];exact hx)
 have hk:dB A kind K=K:=by
  unfold dB;refine List.filter_eq_self.2 fun i hi=>?_;have:weakIn A kind K i=false:=List.any_eq_false.2 fun k hk=>by rw [h.weak i hi k hk];simp
  rw [this];rfl
 have hl:leftM A kind K=K:=by
  unfold leftM;refine dropP_none fun i hi=>?_;unfold goesM;by_cases ho:(ndA A i).kind=otherV kind
  ·rw [decide_eq_true ho,Bool.true_and];exact List.any_eq_false.2 fun k hk=>by rw [decide_eq_false (h.goes i hi ho k hk)];simp
  ·rw [decide_eq_false ho,Bool.false_and]
 rw [sjoinM_join ha (by rw [ho];exact h.noAll) (by rw [hr,hk];exact (clash_free h.sorted).2 h.clash),hr,hk,hl]
theorem leftOf_left {A:aO} {kind:Int} (hB:Below A.nodes) (hid:∀x∈ids,0≤x∧x<(A.nodes.length:Int)) (hno:¬allV kind∈openM A kind ids) (hcl:clashTo A kind (dB A kind (cJ A kind ids)) (dB A kind (cJ A kind ids)).length=false):LeftOf A kind (leftM A kind (dB A kind (cJ A kind ids))):=by
 have hs0:(openM A kind ids).Pairwise (·<·):=neatF_pair _;have hs1:(cJ A kind ids).Pairwise (·<·):=hs0.filter _;have hs2:(dB A kind (cJ A kind ids)).Pairwise (·<·):=hs1.filter _;have m3:∀x∈leftM A kind (dB A kind (cJ A kind ids)),x∈dB A kind (cJ A kind ids):=fun x hx=>(hZ3.1 hx).1;have m2:∀x∈dB A kind (cJ A kind ids),x∈cJ A kind ids:=fun x hx=>(hZ3.1 hx).1;have m1:∀x∈cJ A kind ids,x∈openM A kind ids:=fun x hx=>(hZ3.1 hx).1;refine ⟨hs2.filter _,fun k hk=>openM_range hB hid (m1 k (m2 k (m3 k hk))),fun k hk=>?_,fun h=>hno (m1 _ (m2 _ (m3 _ h))),fun h=>?_,fun i hi k hk=>?_,fun a ha b hb=>(clash_free hs2).1 hcl a (m3 a ha) b (m3 b hb),fun i hi ho k hk hkm=>?_⟩
 ·obtain ⟨y,hy,hxy⟩:=left_mem hk;exact flatX_noKind hB (hid y hy).1 (hid y hy).2 hxy
 ·have:=(hZ3.1 (m2 _ (m3 _ h))).2;simp at this
 ·have h1:=(hZ3.1 (m3 i hi)).2;have h2:weakIn A kind (cJ A kind ids) i=false:=by simpa using h1
  have h3:=List.any_eq_false.1 h2 k (m2 k (m3 k hk));simpa using h3
 ·have h1:=(hZ3.1 hi).2;have h2:goesM A kind (dB A kind (cJ A kind ids)) i=false:=by simpa using h1
  unfold goesM at h2;rw [decide_eq_true ho,Bool.true_and] at h2;have h3:=List.any_eq_false.1 h2 k hk;exact h3 (decide_eq_true (m3 k hkm))
end Go.Rid

namespace Go.Rid
open Go.RowKit Go.Proofs.Q
variable {V ids ids':List Int} {nodes limbs sp y ov:Int}
theorem sjoinM_open {A:aO} {kind:Int} (h1:ids.all (hasK A)=true) (h2:ids'.all (hasK A)=true) (ho:openM A kind ids=openM A kind ids'):bF A nodes limbs sp ov kind ids=bF A nodes limbs sp ov kind ids':=by
 have hr:cJ A kind ids=cJ A kind ids':=by unfold cJ;rw [ho]
 unfold bF;rw [h1,h2,ho,hr]
theorem openM_same {A:aO} {kind:Int} (h:∀x,x∈ids↔x∈ids'):openM A kind ids=openM A kind ids':=neatF_same fun x=>by
 unfold dQ;rw [cZ3,cZ3];exact exists_congr fun y=>and_congr_left fun _=>h y
theorem all_same {A:aO} (h:∀x,x∈ids↔x∈ids') (h1:ids.all (hasK A)=true):ids'.all (hasK A)=true:=kZ2.2 fun k hk=>kZ2.1 h1 k ((h k).2 hk)
theorem allV_const {kind:Int}:allV kind=0∨allV kind=1:=by unfold allV;split<;>simp
theorem Ext.hasK {A F:aO} (he:Ext A F) {ids:List Int} (h:ids.all (hasK A)=true):ids.all (hasK F)=true:=kZ2.2 fun k hk=>by
 have h1:=cY.1 (kZ2.1 h k hk);exact cY.2 ⟨h1.1,by have:=he.len;omega⟩
theorem sjoin_fix {sp' ov' kind:Int} {A F:aO} (h:bD V nodes limbs A sp) (he:(bF A nodes limbs sp ov kind ids).1.2=0) (hs:∀x,x∈ids↔x∈ids') (hx:Ext (bF A nodes limbs sp ov kind ids).2.1 F) (hF:bD V nodes limbs F sp') (hl0:0≤limbs):bF F nodes limbs sp' ov' kind ids'=((bF A nodes limbs sp ov kind ids).1,F,(sp',ov')):=by
 have hAF:Ext A F:=(cS (ov:=ov) (kind:=kind) (ks:=ids) hl0 h).ext.trans hx;cases ha:ids.all (hasK A)
 ·rw [sjoinM_no ha] at he;exact absurd he (by simp)
 have hid:∀x∈ids,0≤x∧x<(A.nodes.length:Int):=fun x hx=>cY.1 (kZ2.1 ha x hx);have haF:=hAF.hasK ha;have ho:openM F kind ids=openM A kind ids:=openM_ext hF.below hAF hid;have hr:cJ F kind ids=cJ A kind ids:=by unfold cJ;rw [ho]
 have hrr:∀x∈cJ A kind ids,0≤x∧x<(A.nodes.length:Int):=fun x hx=>openM_range h.below hid (hZ3.1 hx).1;have hk:dB F kind (cJ A kind ids)=dB A kind (cJ A kind ids):=keptM_ext hAF hrr;have hkr:∀x∈dB A kind (cJ A kind ids),0≤x∧x<(A.nodes.length:Int):=fun x hx=>hrr x (hZ3.1 hx).1;rw [←sjoinM_open haF (all_same hs haF) (openM_same hs)];by_cases hm:allV kind∈openM A kind ids
 ·rw [sjoinM_all ha hm,sjoinM_all haF (by rw [ho];exact hm)]
 cases hcl:clashTo A kind (dB A kind (cJ A kind ids)) (dB A kind (cJ A kind ids)).length
 ·rw [sjoinM_join ha hm hcl] at he hx⊢;rw [sjoinM_join haF (by rw [ho];exact hm) (by rw [hr,hk,clashTo_ext hAF hkr];exact hcl),hr,hk,leftM_ext hAF hkr];exact joinM_fix h he hx hF.inv.once
 ·rw [sjoinM_clash ha hm hcl,sjoinM_clash haF (by rw [ho];exact hm) (by rw [hr,hk,clashTo_ext hAF hkr];exact hcl)]
theorem bD.flatC {kind:Int} {A:aO} (h:bD V nodes limbs A sp) (h5:kind=5∨kind=6) (hy:y=0∨y=1):flatX A.nodes kind y=[y]:=flatX_leaf (by rw [h.low (i:=y.toNat) (by omega)];simp only;omega)
theorem bD.openC {kind:Int} {A:aO} (h:bD V nodes limbs A sp) (h5:kind=5∨kind=6) (hy:y=0∨y=1):openM A kind [y]=[y]:=by
 unfold openM dQ;rw [eZ2,h.flatC h5 hy,List.flatMap_nil,fZ2];exact neatF_id (List.pairwise_singleton _ _)
theorem bD.hasC {A:aO} (h:bD V nodes limbs A sp) (hy:y=0∨y=1):[y].all (hasK A)=true:=by
 have:=h.inv.once.two;simp only [List.all_cons,List.all_nil,Bool.and_true];exact cY.2 (by omega)
theorem sjoin_self {sp' ov' kind:Int} {A F:aO} (h:bD V nodes limbs A sp) (h5:kind=5∨kind=6) (he:(bF A nodes limbs sp ov kind ids).1.2=0) (hx:Ext (bF A nodes limbs sp ov kind ids).2.1 F) (hF:bD V nodes limbs F sp') (hl0:0≤limbs):bF F nodes limbs sp' ov' kind [(bF A nodes limbs sp ov kind ids).1.1]=(((bF A nodes limbs sp ov kind ids).1.1,0),F,(sp',ov')):=by
 have hAF:Ext A F:=(cS (ov:=ov) (kind:=kind) (ks:=ids) hl0 h).ext.trans hx;have hall:bF F nodes limbs sp' ov' kind [allV kind]=((allV kind,0),F,(sp',ov')):=sjoinM_all (hF.hasC allV_const) (by rw [hF.openC h5 allV_const];simp);cases ha:ids.all (hasK A)
 ·rw [sjoinM_no ha] at he;exact absurd he (by simp)
 have hid:∀x∈ids,0≤x∧x<(A.nodes.length:Int):=fun x hx=>cY.1 (kZ2.1 ha x hx);by_cases hm:allV kind∈openM A kind ids
 ·rw [sjoinM_all ha hm];exact hall
 cases hcl:clashTo A kind (dB A kind (cJ A kind ids)) (dB A kind (cJ A kind ids)).length
 ·rw [sjoinM_join ha hm hcl] at he hx⊢;have hL:=leftOf_left h.below hid hm hcl;obtain ⟨K,hK⟩:∃K,leftM A kind (dB A kind (cJ A kind ids))=K:=⟨_,rfl⟩;rw [hK] at he hx hL⊢;have hKa:K.all (hasK A)=true:=kZ2.2 fun k hk=>cY.2 (hL.range k hk);have hnk:cI K=K:=neatF_id hL.sorted;have hLF:=hL.ext hAF;rcases Nat.lt_trichotomy (cI K).length 1 with hl|hl|hl
  ·have hK0:K=[]:=by rw [hnk] at hl;exact fZ1 (by omega)
   rw [joinM_nil h5 hKa (by omega)];simp only;have hno:(if kind=5 then (1:Int) else 0)=nothingV kind:=by unfold nothingV;rcases h5 with rfl|rfl<;>rfl
   rw [hno];have hnc:nothingV kind=0∨nothingV kind=1:=by unfold nothingV;split<;>simp
   have hne:¬allV kind=nothingV kind:=by unfold allV nothingV;split<;>simp
   have ho:=hF.openC h5 hnc;have hr:cJ F kind [nothingV kind]=[]:=by unfold cJ;rw [ho];simp [dropP]
   rw [sjoinM_join (hF.hasC hnc) (by rw [ho];simpa using hne) (by rw [hr];rfl),hr];have hlft:leftM F kind (dB F kind [])=[]:=rfl;rw [hlft,joinM_nil h5 rfl (by rw [neatF_id List.Pairwise.nil];rfl),hno]
  ·have hK1:K=[(cI K).getD 0 0]:=by
    rw [hnk] at hl⊢
    match K,hl with
    | [x],_=>rfl
   rw [joinM_one h5 hKa hl];have hj:=hLF.sjoin (nodes:=nodes) (limbs:=limbs) (sp:=sp') (ov:=ov');have hKaF:=hAF.hasK hKa;rw [joinM_one h5 hKaF hl] at hj;rw [←hK1];exact hj
  ·have hfx:=joinM_fix (ov:=ov) (sp':=sp') (ov':=ov') h he hx hF.inv.once;have hj:=hLF.sjoin (nodes:=nodes) (limbs:=limbs) (sp:=sp') (ov:=ov');rw [hfx] at hj;have hn:=joinM_many (nodes:=nodes) (limbs:=limbs) (sp:=sp) (ov:=ov) h5 hKa hl;have hmade:=madeM_node (nodes:=nodes) (limbs:=limbs) (sp:=sp) (ov:=ov) (xs:=[]) (N:=⟨kind,0,bT,0,cI K⟩) h.inv ⟨by simp only;omega,by simp only;omega,fun h4=>by simp only at h4;omega,fun _=>⟨rfl,rfl⟩,fun _=>rfl⟩ (by rw [←hn];exact he);rw [←hn,hnk] at hmade;obtain ⟨q1,q2,q3⟩:=hmade;obtain ⟨x,hxe⟩:∃x,(dK A nodes limbs sp ov kind K).1.1=x:=⟨_,rfl⟩;rw [hxe] at q1 q2 q3⊢;have hndF:F.nodes.getD x.toNat aZ=⟨kind,0,bT,0,K⟩:=by
    have h1:=hx.nd q1 q2;unfold ndA at h1;rw [h1,q3]
   have hxF:x<(F.nodes.length:Int):=by have:=hx.len;omega
   have hfl:flatX F.nodes kind x=K:=by
    rw [flatX_node hF.below q1 hxF (by rw [hndF]),hndF];have:∀l:List Int,(∀k∈l,(ndA F k).kind≠kind)→l.flatMap (flatX F.nodes kind)=l:=fun l=>by
     induction l with
     | nil=>intro _;rfl
     | cons y l ih=>
      intro hl;rw [eZ2,flatX_leaf (hl y (kZ1 ..)),ih fun k hk=>hl k (lZ1 _ hk)];rfl
    exact this K hLF.leaf
   have hopen:openM F kind [x]=openM F kind K:=by
    have h1:dQ F.nodes kind [x]=K:=by unfold dQ;rw [eZ2,hfl,List.flatMap_nil,fZ2]
    have h2:dQ F.nodes kind K=K:=by
     unfold dQ;have:∀l:List Int,(∀k∈l,(ndA F k).kind≠kind)→l.flatMap (flatX F.nodes kind)=l:=fun l=>by
      induction l with
      | nil=>intro _;rfl
      | cons y l ih=>
       intro hl;rw [eZ2,flatX_leaf (hl y (kZ1 ..)),ih fun k hk=>hl k (lZ1 _ hk)];rfl
     exact this K hLF.leaf
    unfold openM;rw [h1,h2]
   have hax:[x].all (hasK F)=true:=by simp only [List.all_cons,List.all_nil,Bool.and_true];exact cY.2 ⟨q1,hxF⟩
   rw [sjoinM_open hax (hAF.hasK hKa) hopen,hj];exact congrArg (fun q:Int × Int=>(q,F,(sp',ov'))) (Prod.ext hxe he)
 ·rw [sjoinM_clash ha hm hcl];exact hall
def FixQ (V:List Int) (nodes limbs:Int) (A:aO) (y:Int):Prop:=∀F sp ov,Ext A F→bD V nodes limbs F sp→cD nodes limbs F sp ov y (ndA A y).kids=((y,0),F,(sp,ov))
def fixN (V:List Int) (nodes limbs:Int) (A:aO):Nat→Int→Prop
 | 0,_=>True
 | f+1,y=>FixQ V nodes limbs A y∧∀k∈(ndA A y).kids,(0≤k∧k<y)∧fixN V nodes limbs A f k
def FixR (V:List Int) (nodes limbs:Int) (A:aO) (y:Int):Prop:=(0≤y∧y<(A.nodes.length:Int))∧∀f,fixN V nodes limbs A f y
theorem FixR.q {A:aO} (h:FixR V nodes limbs A y):FixQ V nodes limbs A y:=(h.2 1).1
theorem FixR.kid {k:Int} {A:aO} (h:FixR V nodes limbs A y) (hk:k∈(ndA A y).kids):FixR V nodes limbs A k∧k<y:=
 ⟨⟨by have:=((h.2 1).2 k hk).1;have:=h.1;omega,fun f=>((h.2 (f+1)).2 k hk).2⟩,((h.2 1).2 k hk).1.2⟩
theorem FixR.intro {A:aO} (h1:0≤y∧y<(A.nodes.length:Int)) (hq:FixQ V nodes limbs A y) (hk:∀k∈(ndA A y).kids,k<y∧FixR V nodes limbs A k):FixR V nodes limbs A y:=⟨h1,fun f=>by
 cases f with
 | zero=>trivial
 | succ f=>exact⟨hq,fun k hkm=>⟨⟨(hk k hkm).2.1.1,(hk k hkm).1⟩,(hk k hkm).2.2 f⟩⟩⟩
theorem fixN_ext {V:List Int} {nodes limbs:Int} {A A':aO} (he:Ext A A'):∀(f:Nat) (y:Int),0≤y→y<(A.nodes.length:Int)→fixN V nodes limbs A f y→fixN V nodes limbs A' f y
 | 0,_,_,_,_=>trivial
 | f+1,y,h0,h1,h=>by
  have e:=he.nd h0 h1;refine ⟨fun F sp ov hF hI=>by rw [e];exact h.1 F sp ov (he.trans hF) hI,fun k hk=>?_⟩;rw [e] at hk;have hb:=(h.2 k hk).1;exact⟨hb,fixN_ext he f k hb.1 (by omega) (h.2 k hk).2⟩
theorem FixR.mono {A A':aO} (h:FixR V nodes limbs A y) (he:Ext A A'):FixR V nodes limbs A' y:=⟨⟨h.1.1,by have:=he.len;have:=h.1.2;omega⟩,fun f=>fixN_ext he f y h.1.1 h.1.2 (h.2 f)⟩
theorem flatN_fix {V:List Int} {nodes limbs kind:Int} {A:aO}:∀(f:Nat) (x:Int),FixR V nodes limbs A x→∀y∈flatN A.nodes kind f x,FixR V nodes limbs A y
 | 0,x,h,y,hy=>by rw [flatN,dZ1] at hy;rw [hy];exact h
 | f+1,x,h,y,hy=>by
  unfold flatN at hy;split at hy
  ·obtain ⟨k,hk,hy⟩:=cZ3.1 hy;exact flatN_fix f k (h.kid hk).1 y hy
  ·rw [dZ1] at hy;rw [hy];exact h
theorem bD.fixC {A:aO} (h:bD V nodes limbs A sp) (hk:0≤y∧y<(A.nodes.length:Int)) (h4:(ndA A y).kind≤4):FixR V nodes limbs A y:=by
 refine FixR.intro hk (fun F sp' ov hF hI=>?_) fun k hkm=>by rw [h.none hk.1 hk.2 h4] at hkm;cases hkm
 unfold cD;rw [hF.nd hk.1 hk.2,if_neg (by omega),if_neg (by omega)]
theorem againT_fix (h0:0≤limbs):TurnOk (cD nodes limbs) (SimpJ V nodes limbs) (FixR V nodes limbs):=by
 refine ⟨fun {A sp ov x ks} hI hx0 hx1 hks hkl=>?_,fun h he=>h.mono he,fun h=>h.1,fun h=>bD.below h⟩;have h:bD V nodes limbs A sp:=hI;unfold cD;by_cases h5:(ndA A x).kind=5∨(ndA A x).kind=6
 ·rw [if_pos h5];obtain ⟨kind,hkd⟩:∃k,(ndA A x).kind=k:=⟨_,rfl⟩;rw [hkd] at h5⊢;have hc:=cS (ov:=ov) (kind:=kind) (ks:=ks) h0 h;refine ⟨hc.ok,hc.ext,fun he=>?_⟩;have hconst:∀y,y=0∨y=1→FixR V nodes limbs A y:=fun y hy=>h.fixC (by have:=h.inv.once.two;omega) (by unfold ndA;rw [h.low (i:=y.toNat) (by omega)];simp only;omega);cases ha:ks.all (hasK A)
  ·rw [sjoinM_no ha] at he;exact absurd he (by simp)
  have hid:∀x∈ks,0≤x∧x<(A.nodes.length:Int):=fun x hx=>cY.1 (kZ2.1 ha x hx);by_cases hm:allV kind∈openM A kind ks
  ·rw [sjoinM_all ha hm];exact hconst _ allV_const
  cases hcl:clashTo A kind (dB A kind (cJ A kind ks)) (dB A kind (cJ A kind ks)).length
  ·rw [sjoinM_join ha hm hcl] at he hc⊢;have hL:=leftOf_left h.below hid hm hcl;have hfx:∀k∈leftM A kind (dB A kind (cJ A kind ks)),FixR V nodes limbs A k:=fun k hk=>by
    obtain ⟨y,hy,hxy⟩:=left_mem hk;exact flatN_fix _ _ (hks y hy) k hxy
   obtain ⟨K,hK⟩:∃K,leftM A kind (dB A kind (cJ A kind ks))=K:=⟨_,rfl⟩;rw [hK] at he hc hL hfx⊢;have hKa:K.all (hasK A)=true:=kZ2.2 fun k hk=>cY.2 (hL.range k hk);have hnk:cI K=K:=neatF_id hL.sorted;rcases Nat.lt_trichotomy (cI K).length 1 with hl|hl|hl
   ·rw [joinM_nil h5 hKa (by omega)];exact hconst _ (by simp only;split<;>simp)
   ·rw [joinM_one h5 hKa hl];exact hfx _ (by have:=cC (l:=cI K) 0 (i:=0) (by omega);rw [hnk] at this⊢;exact this)
   ·have hn:=joinM_many (nodes:=nodes) (limbs:=limbs) (sp:=sp) (ov:=ov) h5 hKa hl;have hmade:=madeM_node (nodes:=nodes) (limbs:=limbs) (sp:=sp) (ov:=ov) (xs:=[]) (N:=⟨kind,0,bT,0,cI K⟩) h.inv ⟨by simp only;omega,by simp only;omega,fun h4=>by simp only at h4;omega,fun _=>⟨rfl,rfl⟩,fun _=>rfl⟩ (by rw [←hn];exact he);rw [←hn,hnk] at hmade;obtain ⟨q1,q2,q3⟩:=hmade;have hnd:ndA (dK A nodes limbs sp ov kind K).2.1 (dK A nodes limbs sp ov kind K).1.1=⟨kind,0,bT,0,K⟩:=q3;refine FixR.intro ⟨q1,q2⟩ (fun F sp' ov' hF hI'=>?_) fun k hk=>?_
    ·rw [hnd];unfold cD;rw [hF.nd q1 q2,hnd,if_pos h5];have hLF:=hL.ext (hc.ext.trans hF);simp only;rw [hLF.sjoin,joinM_fix h he hF hI'.inv.once];exact congrArg (fun q:Int × Int=>(q,F,(sp',ov'))) (Prod.ext rfl he)
    ·rw [hnd] at hk;exact⟨(hc.ok.below.kid q1 q2 (by rw [q3];exact hk)).2,(hfx k hk).mono hc.ext⟩
  ·rw [sjoinM_clash ha hm hcl];exact hconst _ allV_const
 rw [if_neg h5];by_cases h7:(ndA A x).kind=7∨(ndA A x).kind=8
 ·rw [if_pos h7];obtain ⟨kind,hkd⟩:∃k,(ndA A x).kind=k:=⟨_,rfl⟩;obtain ⟨w1,w2⟩:=h.one hx0 hx1 h7;rw [hkd] at h7⊢;have hc:=bindM_came (ov:=ov) (kind:=kind) (k:=ks.getD 0 0) h0 w2 h;refine ⟨hc.ok,hc.ext,fun he=>?_⟩;have hkf:=hks _ (cC 0 (show 0<ks.length by omega));obtain ⟨k,hk⟩:∃k,ks.getD 0 0=k:=⟨_,rfl⟩;obtain ⟨v,hv⟩:∃v,(ndA A x).var=v:=⟨_,rfl⟩;rw [hk,hv] at hc he⊢;rw [hk] at hkf;have ha:hasK A k=true:=cY.2 hkf.1;have hg:=bindM_go (nodes:=nodes) (limbs:=limbs) (sp:=sp) (ov:=ov) (v:=v) h7 ha;have hmade:=madeM_node (nodes:=nodes) (limbs:=limbs) (sp:=sp) (ov:=ov) (xs:=[]) (N:=⟨kind,0,bT,v,[k]⟩) h.inv ⟨by simp only;omega,by simp only;omega,fun h4=>by simp only at h4;omega,fun _=>⟨rfl,rfl⟩,fun h5=>by simp only at h5;omega⟩ (by rw [←hg];exact he);rw [←hg] at hmade;obtain ⟨q1,q2,q3⟩:=hmade;have hnd:ndA (dO A nodes limbs sp ov kind v k).2.1 (dO A nodes limbs sp ov kind v k).1.1=⟨kind,0,bT,v,[k]⟩:=q3;refine FixR.intro ⟨q1,q2⟩ (fun F sp' ov' hF hI'=>?_) fun j hj=>?_
  ·rw [hnd];unfold cD;rw [hF.nd q1 q2,hnd,if_neg (by simp only;omega),if_pos h7];simp only;rw [show ([k]:List Int).getD 0 0=k from rfl,bindM_fix h he hF hI'.inv.once];exact congrArg (fun q:Int × Int=>(q,F,(sp',ov'))) (Prod.ext rfl he)
  ·rw [hnd] at hj;have hb:=hc.ok.below.kid q1 q2 (by rw [q3];exact hj);rw [dZ1.1 hj] at hb⊢;exact⟨hb.2,hkf.mono hc.ext⟩
 ·rw [if_neg h7];have hk:=h.kinds hx0 hx1;have hk4:(ndA A x).kind≤4:=by omega
  exact⟨h,Ext.refl _,fun _=>h.fixC ⟨hx0,hx1⟩ hk4⟩
theorem walk_fix {V:List Int} {nodes limbs:Int} {A F:aO} {sp ov:Int} (he:Ext A F) (hI:bD V nodes limbs F sp):∀(f:Nat) (y:Int) (s:WSt),FixR V nodes limbs A y→y.toNat<f→s.A=F→s.sp=sp→s.ov=ov→(∀u v,s.came u=some v→v=u)→∃c,walkM (cD nodes limbs) f s y=((y,0),⟨c,F,sp,ov⟩)∧∀u v,c u=some v→v=u
 | 0,_,_,_,h,_,_,_,_=>by omega
 | f+1,y,s,hy,hf,hA,hsp,hov,hc=>by
  obtain ⟨came,sA,ssp,sov⟩:=s;simp only at hA hsp hov hc;subst hA hsp hov;cases hcy:came y with
  | some v=>
   have:=hc y v hcy;subst this;exact⟨came,walkM_there hcy,hc⟩
  | none=>
   have hkids:∀(l:List Int) (c:Int→Option Int) (out:List Int),(∀k∈l,k∈(ndA A y).kids)→(∀u v,c u=some v→v=u)→∃c',dR (walkM (cD nodes limbs) f) ⟨c,sA,ssp,sov⟩ out l=((out++l,0),⟨c',sA,ssp,sov⟩)∧∀u v,c' u=some v→v=u:=by
    intro l;induction l with
    | nil=>intro c out _ hcc;exact⟨c,by rw [fZ2];rfl,hcc⟩
    | cons k l ih=>
     intro c out hl hcc;have hk:=hy.kid (hl k (kZ1 ..));obtain ⟨c1,e1,hc1⟩:=walk_fix he hI f k ⟨c,sA,ssp,sov⟩ hk.1 (by have:=hk.2;have:=hk.1.1;omega) rfl rfl rfl hcc;obtain ⟨c2,e2,hc2⟩:=ih c1 (out++[k]) (fun j hj=>hl j (lZ1 _ hj)) hc1;refine ⟨c2,?_,hc2⟩;unfold dR;rw [e1,if_pos rfl,e2,lZ2];rfl
   obtain ⟨c',e',hc'⟩:=hkids (ndA A y).kids came [] (fun _ h=>h) hc;rw [fZ3] at e';have hnd:=he.nd hy.1.1 hy.1.2;have hw:=walkM_turn (T:=cD nodes limbs) (s:=⟨came,sA,ssp,sov⟩) (t:=⟨c',sA,ssp,sov⟩) (x:=y) (out:=(ndA A y).kids) hcy (by rw [hnd];exact e');rw [hy.q sA ssp sov he hI] at hw;refine ⟨putC c' y y,hw,fun u v huv=>?_⟩;unfold putC at huv;by_cases huy:u=y
   ·rw [if_pos huy] at huv;cases huv;exact huy.symm
   ·rw [if_neg huy] at huv;exact hc' u v huv
theorem through_fix {A F:aO} (h:FixR V nodes limbs A y) (he:Ext A F) (hI:bD V nodes limbs F sp):cM (cD nodes limbs) F sp ov y=((y,0),F,(sp,ov)):=by
 obtain ⟨c,e,-⟩:=walk_fix (ov:=ov) he hI (y.toNat+1) y ⟨fun _=>none,F,sp,ov⟩ h (by omega) rfl rfl rfl fun u v huv=>by cases huv
 unfold cM;rw [if_neg (by rw [cY.2 ⟨h.1.1,by have:=he.len;have:=h.1.2;omega⟩];simp),e]
end Go.Rid

namespace Go.Rid
open Go.RowKit Go.Proofs.Q
variable {nodes limbs sp ov:Int} {ids V ks:List Int} {xs:List (Bool × List Nat)} {N:aW} {m:dJ} {i j:Nat} {X:cT}
/-! Each the sum of the five before it. -/
def pl:Nat→List Nat
 | 0=>[]
 | n+1=>(if n<2 then 1 else ((pl n).take 5).sum)::pl n
def topP (n i:Nat):Nat:=((pl i).take n).sum
def bigP (i:Nat):Nat:=if i<2 then 1 else topP 5 i
theorem topP_succ (n i:Nat):topP (n+1) (i+1)=bigP i+topP n i:=by simp [topP,pl,bigP]
theorem topP_zero (i:Nat):topP 0 i=0:=by simp [topP]
theorem bigP_pos:∀i,1≤bigP i
 | 0=>by decide
 | 1=>by decide
 | i+2=>by
  have h:=bigP_pos (i+1);have e:bigP (i+2)=bigP (i+1)+topP 4 (i+1):=by rw [←topP_succ];unfold bigP;rw [if_neg (by omega)]
  omega
theorem bigP_succ (i:Nat):bigP i≤bigP (i+1):=by
 cases i with
 | zero=>decide
 | succ i=>
  have e:bigP (i+2)=bigP (i+1)+topP 4 (i+1):=by rw [←topP_succ];unfold bigP;rw [if_neg (by omega)]
  show bigP (i+1)≤bigP (i+2)
  omega
theorem bigP_mono (h:i≤j):bigP i≤bigP j:=by
 induction j with
 | zero=>rw [show i=0 by omega];exact bZ2 _
 | succ j ih=>
  rcases Nat.lt_or_ge j i with h1|h1
  ·rw [show i=j+1 by omega];exact bZ2 _
  ·exact bZ1 (ih h1) (bigP_succ j)
theorem topP_step:∀n i,topP n i≤topP n (i+1)
 | 0,i=>by rw [topP_zero];exact aZ2 _
 | n+1,0=>by simp [topP,pl]
 | n+1,i+1=>by
  rw [topP_succ,topP_succ];have h1:=bigP_succ i;have h2:=topP_step n i;omega
theorem topP_mono {n:Nat} (h:i≤j):topP n i≤topP n j:=by
 induction j with
 | zero=>rw [show i=0 by omega];exact bZ2 _
 | succ j ih=>
  rcases Nat.lt_or_ge j i with h1|h1
  ·rw [show i=j+1 by omega];exact bZ2 _
  ·exact bZ1 (ih h1) (topP_step n j)
theorem sum_top:∀(l:List Nat) (n i:Nat),l.Pairwise (· > ·)→(∀x∈l,x<i)→l.length≤n→(l.map bigP).sum≤topP n i
 | [],n,i,_,_,_=>by simp
 | x::l,n,i,hp,hi,hn=>by
  obtain ⟨h1,h2⟩:=List.pairwise_cons.1 hp;obtain ⟨m,rfl⟩:∃m,n=m+1:=⟨n-1,by rw [gZ1] at hn;omega⟩;have hx:=hi x (kZ1 ..);obtain ⟨j,rfl⟩:∃j,i=j+1:=⟨i-1,by omega⟩;have ih:=sum_top l m x h2 (fun y hy=>h1 y hy) (by rw [gZ1] at hn;omega);rw [dZ2,List.sum_cons,topP_succ];have h3:=bigP_mono (show x≤j by omega);have h4:=topP_mono (n:=m) (show x≤j by omega);omega
theorem sum_le_map {α:Type} (f g:α→Nat):∀l:List α,(∀x∈l,f x≤g x)→(l.map f).sum≤(l.map g).sum
 | [],_=>bZ2 _
 | x::l,h=>by
  rw [dZ2,dZ2,List.sum_cons,List.sum_cons];have h1:=h x (kZ1 ..);have h2:=sum_le_map f g l fun y hy=>h y (lZ1 _ hy);omega
theorem length_flatMap_sum {α β:Type} (f:α→List β):∀l:List α,(l.flatMap f).length=(l.map fun x=>(f x).length).sum
 | []=>rfl
 | x::l=>by rw [eZ2,aZ1,dZ2,List.sum_cons,length_flatMap_sum f l]
def Five (N:aW):Prop:=N.kids.length≤5
theorem flatX_big {V:List Int} {nodes limbs sp kind:Int} {A:aO} (h:bD V nodes limbs A sp) (hF:AllN Five A):∀(n:Nat) (x:Int),x.toNat<n→0≤x→x<(A.nodes.length:Int)→(flatX A.nodes kind x).length≤bigP x.toNat
 | 0,_,h,_,_=>by omega
 | n+1,x,hn,h0,h1=>by
  by_cases hk:(A.nodes.getD x.toNat aZ).kind=kind
  ·rw [flatX_node h.below h0 h1 hk];rcases Nat.lt_or_ge x.toNat 2 with h2|h2
   ·rw [h.low h2];exact aZ2 _
   ·have h5:(A.nodes.getD x.toNat aZ).kids.length≤5:=hF x.toNat h2 (by omega);obtain ⟨q1,q2⟩:=h.inv.kids x.toNat (by omega);obtain ⟨ks,hks⟩:∃ks,ks=(A.nodes.getD x.toNat aZ).kids:=⟨_,rfl⟩;rw [←hks] at h5 q1 q2⊢;rw [length_flatMap_sum];have e1:=sum_le_map (fun k:Int=>(flatX A.nodes kind k).length) (fun k=>bigP k.toNat) ks fun k hkm=>by
     have:=q2 k hkm;exact flatX_big h hF n k (by omega) this.1 (by omega)
    have e2:=sum_top (ks.map Int.toNat).reverse 5 x.toNat (by
     rw [List.pairwise_reverse,List.pairwise_map];exact q1.imp_of_mem fun {a b} ha hb hab=>by
      have h1:=q2 a ha;have h2:=q2 b hb;show b.toNat > a.toNat
      omega) (fun y hy=>by
     obtain ⟨k,hk,rfl⟩:=iZ2.1 (List.mem_reverse.1 hy);have:=q2 k hk;omega) (by simpa using h5)
    rw [List.map_reverse,List.sum_reverse,List.map_map] at e2;have e3:bigP x.toNat=topP 5 x.toNat:=by unfold bigP;rw [if_neg (by omega)]
    rw [e3];exact bZ1 e1 e2
  ·rw [flatX_leaf hk];exact bigP_pos _
theorem bigP_41:bigP 41=585029621920:=by decide +kernel
theorem flatL_big {kind:Int} {A:aO} (h:bD V nodes limbs A sp) (hF:AllN Five A) (hn:A.nodes.length≤42) (hid:∀x∈ids,0≤x∧x<(A.nodes.length:Int)) (hl:ids.length≤24):(dQ A.nodes kind ids).length≤17592186044000:=by
 have h1:=flatMap_le (m:=585029621920) (flatX A.nodes kind) ids fun k hk=>by
  have h2:=hid k hk;have h3:=flatX_big (kind:=kind) h hF (k.toNat+1) k (by omega) h2.1 h2.2;have h4:=bigP_mono (show k.toNat≤41 by omega);rw [bigP_41] at h4;omega
 have h2:ids.length*585029621920≤24*585029621920:=Nat.mul_le_mul_right _ hl;unfold dQ;omega
/-! A recipe's nodes have five kids at most; each make makes one at most. -/
theorem neatF_length (l:List Int):(cI l).length≤l.length:=nodup_le (pair_nodup (neatF_pair l)) fun _ hx=>mem_neatF.1 hx
theorem madeM_len {A:aO}:(madeM A nodes limbs sp ov N xs).2.1.nodes.length≤A.nodes.length+1:=by
 unfold madeM;cases keyF A.nodes (bA N) with
 | some i=>exact Nat.le_succ _
 | none=>
  simp only [];by_cases he:(dG nodes limbs sp ov xs).2.2=0
  ·rw [if_pos he];simp [addA]
  ·rw [if_neg he];exact Nat.le_succ _
def FiveL (A:aO) (r:(Int × Int) × aO × (Int × Int)):Prop:=AllN Five r.2.1∧r.2.1.nodes.length≤A.nodes.length+1
theorem FiveL.same {A:aO} {i e:Int} (h:AllN Five A):FiveL A ((i,e),A,(sp,ov)):=⟨h,Nat.le_succ _⟩
theorem madeM_five {A:aO} (h:AllN Five A) (hN:Five N):FiveL A (madeM A nodes limbs sp ov N xs):=⟨madeM_all h fun _=>hN,madeM_len⟩
theorem joinM_five {A:aO} {kind:Int} (h:AllN Five A) (hk:ks.length≤5):FiveL A (dK A nodes limbs sp ov kind ks):=by
 unfold dK;split
 ·exact .same h
 split
 ·exact .same h
 split
 ·exact .same h
 split
 ·exact madeM_five h (bZ1 (neatF_length ks) hk)
 ·exact .same h
theorem bindM_five {A:aO} {kind v k:Int} (h:AllN Five A):FiveL A (dO A nodes limbs sp ov kind v k):=by
 unfold dO;split
 ·exact .same h
 split
 ·exact .same h
 ·exact madeM_five h (show ([k]:List Int).length≤5 by simp)
theorem atomM_five {A:aO} (h:AllN Five A):FiveL A (atomM A nodes limbs sp ov X):=by
 unfold atomM atomR;split
 ·exact .same h
 split
 ·exact .same h
 ·exact madeM_five h (aZ2 _)
theorem ofM_five:(ofM m ids).length≤5:=by
 unfold ofM;split
 ·simp
 ·unfold ofUp;rw [hZ1,iZ1];omega
theorem stepR_five {A:aO} (h:AllN Five A):FiveL A (stepR A nodes limbs sp ov ids m):=by
 unfold stepR;split
 ·exact atomM_five h
 split
 ·exact joinM_five h ofM_five
 split
 ·exact joinM_five h ofM_five
 split
 ·exact bindM_five h
 ·exact bindM_five h
theorem buildM_five {nodes limbs:Int}:∀{l:List dJ} {s:St},AllN Five s.A→AllN Five (buildM nodes limbs s l).A∧(buildM nodes limbs s l).A.nodes.length≤s.A.nodes.length+l.length
 | [],s,h=>⟨h,bZ2 _⟩
 | m::l,s,h=>by
  have h1:FiveL s.A (stepR s.A nodes limbs s.sp s.ov s.ids m):=stepR_five h;obtain ⟨q1,q2⟩:=buildM_five (nodes:=nodes) (limbs:=limbs) (l:=l) (s:=stepB nodes limbs s m) h1.1;have e:(stepB nodes limbs s m).A=(stepR s.A nodes limbs s.sp s.ov s.ids m).2.1:=rfl;rw [e] at q2;have h2:=h1.2;refine ⟨q1,?_⟩;show (buildM nodes limbs (stepB nodes limbs s m) l).A.nodes.length≤_
  rw [gZ1];omega
theorem sjoin_few {sp' kind:Int} {A F:aO} (h:bD V nodes limbs A sp) (h5:kind=5∨kind=6) (he:(bF A nodes limbs sp ov kind ids).1.2=0) (hx:Ext (bF A nodes limbs sp ov kind ids).2.1 F) (hF:bD V nodes limbs F sp') (hl0:0≤limbs) (hn:nodes≤2000) :
  (0≤(bF A nodes limbs sp ov kind ids).1.1∧(bF A nodes limbs sp ov kind ids).1.1<(F.nodes.length:Int))∧(dQ F.nodes kind [(bF A nodes limbs sp ov kind ids).1.1]).length≤2002:=by
 have hAF:Ext A F:=(cS (ov:=ov) (kind:=kind) (ks:=ids) hl0 h).ext.trans hx;have h2F:=hF.inv.once.two;have hone:∀x:Int,(dQ F.nodes kind [x])=flatX F.nodes kind x:=fun x=>by unfold dQ;rw [eZ2,List.flatMap_nil,fZ2]
 rw [hone];have hcon:∀y:Int,y=0∨y=1→(0≤y∧y<(F.nodes.length:Int))∧(flatX F.nodes kind y).length≤2002:=fun y hy=>⟨by omega,by rw [hF.flatC h5 hy];simp⟩;have hall:=hcon _ (allV_const (kind:=kind));cases ha:ids.all (hasK A)
 ·rw [sjoinM_no ha] at he;exact absurd he (by simp)
 have hid:∀x∈ids,0≤x∧x<(A.nodes.length:Int):=fun x hx=>cY.1 (kZ2.1 ha x hx);by_cases hm:allV kind∈openM A kind ids
 ·rw [sjoinM_all ha hm];exact hall
 cases hcl:clashTo A kind (dB A kind (cJ A kind ids)) (dB A kind (cJ A kind ids)).length
 ·rw [sjoinM_join ha hm hcl] at he hx⊢;have hL:=leftOf_left h.below hid hm hcl;obtain ⟨K,hK⟩:∃K,leftM A kind (dB A kind (cJ A kind ids))=K:=⟨_,rfl⟩;rw [hK] at he hx hL⊢;have hKa:K.all (hasK A)=true:=kZ2.2 fun k hk=>cY.2 (hL.range k hk);have hnk:cI K=K:=neatF_id hL.sorted;have hLF:=hL.ext hAF;rcases Nat.lt_trichotomy (cI K).length 1 with hl|hl|hl
  ·rw [joinM_nil h5 hKa (by omega)];exact hcon _ (by simp only;split<;>simp)
  ·rw [joinM_one h5 hKa hl];have hmem:(cI K).getD 0 0∈K:=by rw [hnk] at hl⊢;exact cC 0 (by omega)
   have h1:=hLF.range _ hmem;exact⟨h1,by rw [flatX_leaf (hLF.leaf _ hmem)];simp⟩
  ·have hn2:=joinM_many (nodes:=nodes) (limbs:=limbs) (sp:=sp) (ov:=ov) h5 hKa hl;have hmade:=madeM_node (nodes:=nodes) (limbs:=limbs) (sp:=sp) (ov:=ov) (xs:=[]) (N:=⟨kind,0,bT,0,cI K⟩) h.inv ⟨by simp only;omega,by simp only;omega,fun h4=>by simp only at h4;omega,fun _=>⟨rfl,rfl⟩,fun _=>rfl⟩ (by rw [←hn2];exact he);rw [←hn2,hnk] at hmade;obtain ⟨q1,q2,q3⟩:=hmade;obtain ⟨x,hxe⟩:∃x,(dK A nodes limbs sp ov kind K).1.1=x:=⟨_,rfl⟩;rw [hxe] at q1 q2 q3⊢;have hndF:F.nodes.getD x.toNat aZ=⟨kind,0,bT,0,K⟩:=by
    have h1:=hx.nd q1 q2;unfold ndA at h1;rw [h1,q3]
   have hxF:x<(F.nodes.length:Int):=by have:=hx.len;omega
   refine ⟨⟨q1,hxF⟩,?_⟩;rw [flatX_node hF.below q1 hxF (by rw [hndF])];have hkl:=hF.kidsLen hn (i:=x.toNat) (by omega);rw [hndF] at hkl⊢;have h3:=flatMap_le (m:=1) (flatX F.nodes kind) K fun k hk=>by rw [flatX_leaf (hLF.leaf k hk)];exact bZ2 _
   simp only at hkl⊢;omega
 ·rw [sjoinM_clash ha hm hcl];exact hall
theorem orders_law {A:aO} {some other:List Int} {r1 r2 r3 r4 r5 r6 r7 r8:(Int × Int) × aO × (Int × Int)} (h:bD V nodes limbs A sp) (hl0:0≤limbs) (hn:nodes≤2000) (hs:∀x,x∈some↔x∈other)
  (e1:r1=bF A nodes limbs sp ov 5 some) (e2:r2=bF r1.2.1 nodes limbs r1.2.2.1 r1.2.2.2 5 other) (e3:r3=bF r2.2.1 nodes limbs r2.2.2.1 r2.2.2.2 6 some) (e4:r4=bF r3.2.1 nodes limbs r3.2.2.1 r3.2.2.2 6 other)
  (e5:r5=bF r4.2.1 nodes limbs r4.2.2.1 r4.2.2.2 5 [r1.1.1]) (e6:r6=bF r5.2.1 nodes limbs r5.2.2.1 r5.2.2.2 6 [r3.1.1]) (e7:r7=cM (cD nodes limbs) r6.2.1 r6.2.2.1 r6.2.2.2 r1.1.1) (e8:r8=cM (cD nodes limbs) r7.2.1 r7.2.2.1 r7.2.2.2 r7.1.1) :
  (bD V nodes limbs r1.2.1 r1.2.2.1∧bD V nodes limbs r2.2.1 r2.2.2.1∧bD V nodes limbs r3.2.1 r3.2.2.1∧bD V nodes limbs r4.2.1 r4.2.2.1∧Ext A r1.2.1∧Ext A r2.2.1∧Ext A r3.2.1) ∧
  (r1.1.2=0→r3.1.2=0→(bD V nodes limbs r5.2.1 r5.2.2.1∧bD V nodes limbs r6.2.1 r6.2.2.1∧bD V nodes limbs r7.2.1 r7.2.2.1)∧((0≤r1.1.1∧r1.1.1<(r4.2.1.nodes.length:Int))∧(dQ r4.2.1.nodes 5 [r1.1.1]).length≤2002∧(0≤r3.1.1∧r3.1.1<(r5.2.1.nodes.length:Int))∧(dQ r5.2.1.nodes 6 [r3.1.1]).length≤2002) ∧
   r1.1.1=r2.1.1∧r2.1.2=0∧r3.1.1=r4.1.1∧r4.1.2=0∧r5.1.1=r1.1.1∧r6.1.1=r3.1.1∧r5.1.2=0∧r6.1.2=0∧(r7.1.2=0→r7.1.1=r8.1.1)):=by
 have c1:=cS (ov:=ov) (kind:=5) (ks:=some) hl0 h;rw [←e1] at c1;have c2:=cS (ov:=r1.2.2.2) (kind:=5) (ks:=other) hl0 c1.ok;rw [←e2] at c2;have c3:=cS (ov:=r2.2.2.2) (kind:=6) (ks:=some) hl0 c2.ok;rw [←e3] at c3;have c4:=cS (ov:=r3.2.2.2) (kind:=6) (ks:=other) hl0 c3.ok;rw [←e4] at c4;refine ⟨⟨c1.ok,c2.ok,c3.ok,c4.ok,c1.ext,c1.ext.trans c2.ext,(c1.ext.trans c2.ext).trans c3.ext⟩,fun h1 h3=>?_⟩;have c5:=cS (ov:=r4.2.2.2) (kind:=5) (ks:=[r1.1.1]) hl0 c4.ok;rw [←e5] at c5;have c6:=cS (ov:=r5.2.2.2) (kind:=6) (ks:=[r3.1.1]) hl0 c5.ok;rw [←e6] at c6;have x14:Ext r1.2.1 r4.2.1:=(c2.ext.trans c3.ext).trans c4.ext;have x35:Ext r3.2.1 r5.2.1:=c4.ext.trans c5.ext;have q1:(bF A nodes limbs sp ov 5 some).1.2=0:=by rw [←e1];exact h1
 have q3:(bF r2.2.1 nodes limbs r2.2.2.1 r2.2.2.2 6 some).1.2=0:=by rw [←e3];exact h3
 have f2:=sjoin_fix (sp':=r1.2.2.1) (ov':=r1.2.2.2) (F:=r1.2.1) h q1 hs (by rw [←e1];exact Ext.refl _) c1.ok hl0;have f4:=sjoin_fix (sp':=r3.2.2.1) (ov':=r3.2.2.2) (F:=r3.2.1) c2.ok q3 hs (by rw [←e3];exact Ext.refl _) c3.ok hl0;have f5:=sjoin_self (sp':=r4.2.2.1) (ov':=r4.2.2.2) (F:=r4.2.1) h (.inl rfl) q1 (by rw [←e1];exact x14) c4.ok hl0;have f6:=sjoin_self (sp':=r5.2.2.1) (ov':=r5.2.2.2) (F:=r5.2.1) c2.ok (.inr rfl) q3 (by rw [←e3];exact x35) c5.ok hl0;have g5:=sjoin_few (F:=r4.2.1) h (.inl rfl) q1 (by rw [←e1];exact x14) c4.ok hl0 hn;have g6:=sjoin_few (F:=r5.2.1) c2.ok (.inr rfl) q3 (by rw [←e3];exact x35) c5.ok hl0 hn;rw [←e2,←e1] at f2;rw [←e4,←e3] at f4;rw [←e1] at f5 g5;rw [←e3] at f6 g6;rw [←e5] at f5;rw [←e6] at f6;have t7:=throughM_ok (againT_fix (V:=V) (nodes:=nodes) hl0) (A:=r6.2.1) (sp:=r6.2.2.1) (ov:=r6.2.2.2) (id:=r1.1.1) c6.ok;rw [←e7] at t7;refine ⟨⟨c5.ok,c6.ok,t7.1⟩,⟨g5.1,g5.2,g6.1,g6.2⟩,?_,?_,?_,?_,?_,?_,?_,?_,fun h7=>?_⟩
 ·rw [f2]
 ·rw [f2];exact h1
 ·rw [f4]
 ·rw [f4];exact h3
 ·rw [f5]
 ·rw [f6]
 ·rw [f5]
 ·rw [f6]
 ·have f8:=through_fix (sp:=r7.2.2.1) (ov:=r7.2.2.2) (t7.2.2 h7) (Ext.refl _) t7.1;rw [←e8] at f8;rw [f8]
end Go.Rid
