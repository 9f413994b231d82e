/- What simp's ways of joining keep true of an arena: plain laws. Conditions: few nodes, small numbers. -/
/- What simp's And, Or, Again do. Conditions: the arena's reading; few nodes, small numbers; alternating ids. -/
import Derived.Test.YthjlmocbeoimaaaGreatDoorLOnces
import Derived.Test.YthjlmocbeoimaaaGreatDoorLThroughs
import Derived.Test.YthjlmocbeoimaaaGreatDoorLJoined
import Derived.Test.YthjlmocbeoimaaaGreatDoorLNegs
set_option linter.unusedSimpArgs false
set_option linter.unusedVariables false
set_option maxRecDepth 100000
set_option maxHeartbeats 4000000
namespace Go.Rid
open Go.RowKit Go.Proofs.YthjlmocbeoimaaaGreatDoor
def altN (L:List aW):Nat→Int→Prop
 | 0,_=>True
 | f+1,x=>∀k∈(L.getD x.toNat bC).kids,((L.getD x.toNat bC).kind=5∨(L.getD x.toNat bC).kind=6→(L.getD k.toNat bC).kind≠(L.getD x.toNat bC).kind)∧(0≤k∧k<x)∧altN L f k
def Alt (L:List aW) (x:Int):Prop:=∀f,altN L f x
theorem Alt.kid {L:List aW} {x k:Int} (h:Alt L x) (hk:k∈(L.getD x.toNat bC).kids):Alt L k:=fun f=>(h (f+1) k hk).2.2
theorem Alt.kind {L:List aW} {x k:Int} (h:Alt L x) (hk:k∈(L.getD x.toNat bC).kids) (h5:(L.getD x.toNat bC).kind=5∨(L.getD x.toNat bC).kind=6):(L.getD k.toNat bC).kind≠(L.getD x.toNat bC).kind:=(h 1 k hk).1 h5
theorem Alt.intro {L:List aW} {x:Int} (h:∀k∈(L.getD x.toNat bC).kids,((L.getD x.toNat bC).kind=5∨(L.getD x.toNat bC).kind=6→(L.getD k.toNat bC).kind≠(L.getD x.toNat bC).kind)∧(0≤k∧k<x)∧Alt L k):Alt L x:=fun f=>by
 cases f with
 | zero=>trivial
 | succ f=>exact fun k hk=>⟨(h k hk).1,(h k hk).2.1,(h k hk).2.2 f⟩
theorem altN_ext {L t:List aW}:∀(f:Nat) (x:Int),0≤x→x<(L.length:Int)→altN L f x→altN (L++t) f x
 | 0,_,_,_,_=>trivial
 | f+1,x,h0,h1,h=>by
  have e:(L++t).getD x.toNat bC=L.getD x.toNat bC:=getD_append_lt L t bC (by omega)
  intro k hk
  rw [e] at hk⊢
  have hb:=(h k hk).2.1
  have e2:(L++t).getD k.toNat bC=L.getD k.toNat bC:=getD_append_lt L t bC (by omega)
  rw [e2]
  exact⟨(h k hk).1,hb,altN_ext f k hb.1 (by omega) (h k hk).2.2⟩
theorem Alt.ext {A A':aO} {x:Int} (h:Alt A.nodes x) (h0:0≤x) (h1:x<(A.nodes.length:Int)) (he:Ext A A'):Alt A'.nodes x:=fun f=>by
 obtain ⟨t,he⟩:=he
 rw [he]
 exact altN_ext f x h0 h1 (h f)
theorem flatN_alt {L:List aW} {kind:Int}:∀(f:Nat) (x:Int),Alt L x→∀y∈flatN L kind f x,Alt L y
 | 0,x,h,y,hy=>by rw [flatN,List.mem_singleton] at hy;rw [hy];exact h
 | f+1,x,h,y,hy=>by
  unfold flatN at hy
  split at hy
  ·obtain ⟨k,hk,hy⟩:=List.mem_flatMap.1 hy
   exact flatN_alt f k (h.kid hk) y hy
  ·rw [List.mem_singleton] at hy;rw [hy];exact h
theorem flatX_alt {L:List aW} {kind x y:Int} (h:Alt L x) (hy:y∈flatX L kind x):Alt L y:=flatN_alt _ _ h y hy
theorem flatX_len {L:List aW} {kind x:Int} {m:Nat} (hB:Below L) (h0:0≤x) (h1:x<(L.length:Int)) (h:Alt L x) (hk:kind=5∨kind=6) (hm:(L.getD x.toNat bC).kids.length≤m) (hm1:1≤m):(flatX L kind x).length≤m:=by
 by_cases hx:(L.getD x.toNat bC).kind=kind
 ·rw [flatX_node hB h0 h1 hx]
  have h2:=flatMap_le (m:=1) (flatX L kind) (L.getD x.toNat bC).kids fun k hkm=>by
   rw [flatX_leaf (by rw [←hx];exact h.kind hkm (by rw [hx];exact hk))]
   exact Nat.le_refl _
  omega
 ·rw [flatX_leaf hx]
  exact hm1
theorem NodeK.sizeS {V:List Int} {limbs:Int} {N:aW} (h:NodeK V limbs N) (hl:limbs≤8) (hV:V.length≤262144) (hk:N.kids.length≤1000000):SizeN N:=
 ⟨by have:=length_parts_le h.neat h.vars;omega,fun p hp=>by have:=h.nums p hp;omega,by have:=h.k;omega,by have:=h.d;omega,by omega⟩
structure bY (V:List Int) (nodes limbs:Int) (A:aO) (sp:Int):Prop where
 inv:InvA V nodes A sp
 all:AllN (NodeK V limbs) A
 start:Ext startA A
theorem bY.begin {V:List Int} {nodes limbs sp:Int} (h0:0≤sp) (h1:sp≤nodes):bY V nodes limbs startA sp:=⟨InvA.start h0 h1,AllN.start,Ext.refl _⟩
theorem bY.below {V:List Int} {nodes limbs sp:Int} {A:aO} (h:bY V nodes limbs A sp):Below A.nodes:=fun i hi=>(h.inv.kids i hi).2
theorem bY.low {V:List Int} {nodes limbs sp:Int} {A:aO} (h:bY V nodes limbs A sp) {i:Nat} (hi:i<2):A.nodes.getD i bC=⟨(i:Int),0,bX,0,[]⟩:=by
 obtain ⟨t,e⟩:=h.start
 rw [e]
 rcases (show i=0∨i=1 by omega) with rfl|rfl<;>rfl
theorem bY.kidsLen {V:List Int} {nodes limbs sp:Int} {A:aO} (h:bY V nodes limbs A sp) (hn:nodes≤2000) {i:Nat} (hi:i<A.nodes.length):(A.nodes.getD i bC).kids.length≤2002:=by
 have h1:=length_kids_le (h.inv.kids i hi).1 (h.inv.kids i hi).2
 have:=h.inv.used
 have:=h.inv.spn
 omega
theorem bY.fine {V:List Int} {nodes limbs sp:Int} {A:aO} (h:bY V nodes limbs A sp) (hn:nodes≤2000) (hl:limbs≤8) (hV:V.length≤262144):FineA A:=by
 have h3:=h.inv.used
 have h4:=h.inv.spn
 refine ⟨by omega,h.inv.once.two,fun i hi=>?_,h.below,fun i hi hk=>?_⟩
 ·rcases Nat.lt_or_ge i 2 with h2|h2
  ·rw [h.low h2]
   exact⟨⟨Nat.zero_le _,fun p hp=>absurd hp List.not_mem_nil,by simp [bX,nlen0],by simp [nlen0],Nat.zero_le _⟩,neat_nil⟩
  ·have hk:=h.all i h2 hi
   exact⟨hk.sizeS hl hV (by have:=h.kidsLen hn hi;omega),hk.neat⟩
 ·rcases Nat.lt_or_ge i 2 with h2|h2
  ·rw [h.low h2] at hk
   simp only at hk
   omega
  ·exact ((h.all i h2 hi).again.join hk).1
def AltR (A:aO) (y:Int):Prop:=(0≤y∧y<(A.nodes.length:Int))∧Alt A.nodes y
theorem AltR.mono {A A':aO} {y:Int} (h:AltR A y) (he:Ext A A'):AltR A' y:=⟨⟨h.1.1,by have:=he.len;have:=h.1.2;omega⟩,h.2.ext h.1.1 h.1.2 he⟩
theorem alt_nokids {L:List aW} {x:Int} (h:(L.getD x.toNat bC).kids=[]):Alt L x:=Alt.intro fun k hk=>by rw [h] at hk;cases hk
theorem bY.const {V:List Int} {nodes limbs sp:Int} {A:aO} (h:bY V nodes limbs A sp) {y:Int} (hy:y=0∨y=1):AltR A y:=by
 have h2:=h.inv.once.two
 refine ⟨by omega,alt_nokids ?_⟩
 rw [h.low (i:=y.toNat) (by omega)]
structure Came2 (V:List Int) (nodes limbs:Int) (A:aO) (r:(Int × Int) × aO × (Int × Int)):Prop where
 ok:bY V nodes limbs r.2.1 r.2.2.1
 ext:Ext A r.2.1
theorem madeM_node {V:List Int} {nodes limbs sp ov:Int} {A:aO} {N:aW} {xs:List (Bool × List Nat)} (h:InvA V nodes A sp) (hN:FormN N) (he:(madeM A nodes limbs sp ov N xs).1.2=0):0≤(madeM A nodes limbs sp ov N xs).1.1∧(madeM A nodes limbs sp ov N xs).1.1<((madeM A nodes limbs sp ov N xs).2.1.nodes.length:Int)∧(madeM A nodes limbs sp ov N xs).2.1.nodes.getD (madeM A nodes limbs sp ov N xs).1.1.toNat bC=N:=by
 unfold madeM at he⊢
 cases hk:keyF A.nodes (bB N) with
 | some i=>
  obtain ⟨q1,q2,q3⟩:=h.once.find_some hN hk
  exact⟨by simp,by simp only;omega,by simpa using q3⟩
 | none=>
  rw [hk] at he
  simp only [] at he⊢
  by_cases h0:(dC nodes limbs sp ov xs).2.2=0
  ·rw [if_pos h0]
   refine ⟨by simp,by simp [addA];omega,?_⟩
   show (A.nodes++[N]).getD ((A.nodes.length:Int)).toNat bC=N
   rw [Int.toNat_natCast,dA]
  ·rw [if_neg h0] at he
   exact absurd he h0
theorem Came2.same {V:List Int} {nodes limbs sp ov i e:Int} {A:aO} (h:bY V nodes limbs A sp):Came2 V nodes limbs A ((i,e),A,(sp,ov)):=⟨h,Ext.refl _⟩
theorem joinM_came {V:List Int} {nodes limbs sp ov kind:Int} {A:aO} {ks:List Int} (h0:0≤limbs) (h:bY V nodes limbs A sp):Came2 V nodes limbs A (joinM A nodes limbs sp ov kind ks):=by
 have he:Ext A (joinM A nodes limbs sp ov kind ks).2.1:=by
  unfold joinM
  split
  ·exact Ext.refl _
  split
  ·exact Ext.refl _
  split
  ·exact Ext.refl _
  split
  ·exact madeM_ext
  ·exact Ext.refl _
 exact⟨⟨(joinM_sound h.inv).1,joinM_all h0 h.all,h.start.trans he⟩,he⟩
theorem bindM_came {V:List Int} {nodes limbs sp ov kind v k:Int} {A:aO} (h0:0≤limbs) (hv:I64 v) (h:bY V nodes limbs A sp):Came2 V nodes limbs A (bindM A nodes limbs sp ov kind v k):=by
 have he:Ext A (bindM A nodes limbs sp ov kind v k).2.1:=by
  unfold bindM
  split
  ·exact Ext.refl _
  split
  ·exact Ext.refl _
  ·exact madeM_ext
 exact⟨⟨(bindM_sound h.inv).1,bindM_all h0 hv h.all,h.start.trans he⟩,he⟩
theorem atomM_came {V:List Int} {nodes limbs sp ov:Int} {A:aO} {X:cM} (hX:SmallX V X) (h:bY V nodes limbs A sp):Came2 V nodes limbs A (atomM A nodes limbs sp ov X):=by
 have he:Ext A (atomM A nodes limbs sp ov X).2.1:=by
  unfold atomM atomR
  split
  ·exact Ext.refl _
  split
  ·exact Ext.refl _
  ·exact madeM_ext
 exact⟨⟨(atomM_sound h.inv hX).1,atomM_all h.all hX,h.start.trans he⟩,he⟩
theorem joinM_alt {V:List Int} {nodes limbs sp ov kind:Int} {A:aO} {ks:List Int} (h:bY V nodes limbs A sp) (hc:Came2 V nodes limbs A (joinM A nodes limbs sp ov kind ks)) (hk:∀k∈ks,AltR A k∧(ndA A k).kind≠kind) (he:(joinM A nodes limbs sp ov kind ks).1.2=0):AltR (joinM A nodes limbs sp ov kind ks).2.1 (joinM A nodes limbs sp ov kind ks).1.1:=by
 by_cases h5:kind≠5∧kind≠6
 ·rw [joinM_bad h5] at he;exact absurd he (by simp)
 have h56:kind=5∨kind=6:=by omega
 cases ha:ks.all (hasK A)
 ·rw [joinM_no h56 ha] at he;exact absurd he (by simp)
 rcases Nat.lt_trichotomy (dE ks).length 1 with hl|hl|hl
 ·rw [joinM_nil h56 ha (by omega)]
  exact h.const (by simp only;split<;>simp)
 ·rw [joinM_one h56 ha hl]
  exact (hk _ (mem_neatF.1 (getD_mem 0 (by omega)))).1
 ·rw [joinM_many h56 ha hl] at he hc⊢
  obtain ⟨q1,q2,q3⟩:=madeM_node h.inv ⟨by simp only;omega,by simp only;omega,fun h4=>by simp only at h4;omega,fun _=>⟨rfl,rfl⟩,fun _=>rfl⟩ he
  refine ⟨⟨q1,q2⟩,Alt.intro fun k hkm=>?_⟩
  rw [q3] at hkm⊢
  have hkk:=hk k (mem_neatF.1 hkm)
  refine ⟨fun _=>?_,?_,(hkk.1.mono hc.ext).2⟩
  rotate_left
  ·exact hc.ok.below.kid q1 q2 (by rw [q3];exact hkm)
  show (ndA _ k).kind≠kind
  rw [hc.ext.nd hkk.1.1.1 hkk.1.1.2]
  exact hkk.2
theorem bindM_alt {V:List Int} {nodes limbs sp ov kind v k:Int} {A:aO} (h:bY V nodes limbs A sp) (hc:Came2 V nodes limbs A (bindM A nodes limbs sp ov kind v k)) (hk:AltR A k) (he:(bindM A nodes limbs sp ov kind v k).1.2=0):AltR (bindM A nodes limbs sp ov kind v k).2.1 (bindM A nodes limbs sp ov kind v k).1.1:=by
 by_cases h7:kind≠7∧kind≠8
 ·rw [bindM_bad h7] at he;exact absurd he (by simp)
 have h78:kind=7∨kind=8:=by omega
 cases ha:hasK A k
 ·rw [bindM_no h78 ha] at he;exact absurd he (by simp)
 rw [bindM_go h78 ha] at he hc⊢
 obtain ⟨q1,q2,q3⟩:=madeM_node h.inv ⟨by simp only;omega,by simp only;omega,fun h4=>by simp only at h4;omega,fun _=>⟨rfl,rfl⟩,fun h5=>by simp only at h5;omega⟩ he
 refine ⟨⟨q1,q2⟩,Alt.intro fun j hj=>?_⟩
 rw [q3] at hj⊢
 have hr:=hc.ok.below.kid q1 q2 (by rw [q3];exact hj)
 rw [List.mem_singleton.1 hj] at hr⊢
 exact⟨fun h5=>by simp only at h5;omega,hr,(hk.mono hc.ext).2⟩
theorem atomM_alt {V:List Int} {nodes limbs sp ov:Int} {A:aO} {X:cM} (h:bY V nodes limbs A sp) (hX:SmallX V X) (hc:Came2 V nodes limbs A (atomM A nodes limbs sp ov X)) (he:(atomM A nodes limbs sp ov X).1.2=0):AltR (atomM A nodes limbs sp ov X).2.1 (atomM A nodes limbs sp ov X).1.1:=by
 have hb:=small_normR (k:=X.kind) hX.1 hX.2 (by decide)
 unfold atomM at he hc⊢
 obtain ⟨k,d,⟨l,z⟩⟩:=X
 simp only at hb he hc⊢
 obtain ⟨⟨e,B⟩,hr⟩:∃r,r=cD ⟨k,d,⟨l,z⟩⟩:=⟨_,rfl⟩
 rw [←hr] at hb he hc⊢
 simp only at hb
 by_cases h0:e=0
 ·subst h0
  by_cases hk:B.kind≤1
  ·rw [atomR_const hk]
   exact h.const (by have:=hb.kind;simp only;omega)
  ·rw [atomR_go hk] at he hc⊢
   have hf:=(fine_of_small (A:=A) hb (by omega)).form
   obtain ⟨q1,q2,q3⟩:=madeM_node h.inv hf he
   exact⟨⟨q1,q2⟩,alt_nokids (by rw [q3];rfl)⟩
 ·rw [atomR_err h0] at he
  exact absurd he h0
theorem sjoinM_came {V:List Int} {nodes limbs sp ov kind:Int} {A:aO} {ks:List Int} (h0:0≤limbs) (h:bY V nodes limbs A sp):Came2 V nodes limbs A (sjoinM A nodes limbs sp ov kind ks):=by
 unfold sjoinM
 split
 ·exact Came2.same h
 split
 ·exact Came2.same h
 split
 ·exact Came2.same h
 ·exact joinM_came h0 h
theorem left_mem {A:aO} {kind x:Int} {ids:List Int} (hx:x∈leftM A kind (keptM A kind (restM A kind ids))):∃y∈ids,x∈flatX A.nodes kind y:=by
 have h1:=(List.mem_filter.1 hx).1
 have h2:=(List.mem_filter.1 h1).1
 have h3:=(List.mem_filter.1 h2).1
 exact List.mem_flatMap.1 (mem_neatF.1 h3)
theorem sjoinM_alt {V:List Int} {nodes limbs sp ov kind:Int} {A:aO} {ks:List Int} (h0:0≤limbs) (h:bY V nodes limbs A sp) (hk:∀k∈ks,AltR A k) (he:(sjoinM A nodes limbs sp ov kind ks).1.2=0):AltR (sjoinM A nodes limbs sp ov kind ks).2.1 (sjoinM A nodes limbs sp ov kind ks).1.1:=by
 have hc:=sjoinM_came (ov:=ov) (kind:=kind) (ks:=ks) h0 h
 have hall:allV kind=0∨allV kind=1:=by unfold allV;split<;>simp
 cases ha:ks.all (hasK A)
 ·rw [sjoinM_no ha] at he;exact absurd he (by simp)
 by_cases hm:allV kind∈openM A kind ks
 ·rw [sjoinM_all ha hm]
  exact h.const hall
 cases hcl:clashTo A kind (keptM A kind (restM A kind ks)) (keptM A kind (restM A kind ks)).length
 ·rw [sjoinM_join ha hm hcl] at he hc⊢
  refine joinM_alt h hc (fun x hx=>?_) he
  obtain ⟨y,hy,hxy⟩:=left_mem hx
  have hyR:=hk y hy
  have hxr:=flatX_mem h.below hyR.1.1 hyR.1.2 hxy
  exact⟨⟨by have:=hyR.1.2;omega,flatX_alt hyR.2 hxy⟩,flatX_noKind h.below hyR.1.1 hyR.1.2 hxy⟩
 ·rw [sjoinM_clash ha hm hcl]
  exact h.const hall
theorem flatL_len {V:List Int} {nodes limbs sp kind:Int} {A:aO} {ks:List Int} (h:bY V nodes limbs A sp) (hn:nodes≤2000) (hk5:kind=5∨kind=6) (hk:∀k∈ks,AltR A k):(flatL A.nodes kind ks).length≤ks.length*2002:=
 flatMap_le (m:=2002) (flatX A.nodes kind) ks fun k hkm=>by
  have hkR:=hk k hkm
  exact flatX_len h.below hkR.1.1 hkR.1.2 hkR.2 hk5 (h.kidsLen hn (by have:=hkR.1;omega)) (by decide)
theorem roomK {V:List Int} {nodes sp:Int} {A:aO} {kind v:Int} {ks:List Int} (h:InvA V nodes A sp) (hn:nodes≤2000) (hV:V.length≤262144) (h5:5≤kind) (h8:kind≤8) (hv:kind=5∨kind=6→v=0) (hp:ks.Pairwise (·<·)) (hk:∀k∈ks,0≤k∧k<(A.nodes.length:Int)):(freeRaw A ⟨kind,0,bX,v,ks⟩).length≤1000000000:=
 freeRaw_room h hn hV (by simp [bX,neatL]) ⟨⟨by simp only;omega,h8,fun h4=>by simp only at h4;omega,fun _=>⟨rfl,rfl⟩,hv⟩,fun x hx=>by simp [bX,neatL] at hx,hp,hk⟩
def Err0 (r:(Int × Int) × aO × (Int × Int)):Prop:=r.1.2≠0→r.1.1=0
theorem madeM_err0 {A:aO} {nodes limbs sp ov:Int} {N:aW} {xs:List (Bool × List Nat)}:Err0 (madeM A nodes limbs sp ov N xs):=fun he=>by
 unfold madeM at he⊢
 cases hk:keyF A.nodes (bB N) with
 | some i=>rw [hk] at he;exact absurd rfl he
 | none=>
  rw [hk] at he
  simp only [] at he⊢
  by_cases h0:(dC nodes limbs sp ov xs).2.2=0
  ·rw [if_pos h0] at he;exact absurd rfl he
  ·rw [if_neg h0]
theorem joinM_err0 {A:aO} {nodes limbs sp ov kind:Int} {ks:List Int}:Err0 (joinM A nodes limbs sp ov kind ks):=by
 unfold joinM
 split
 ·exact fun _=>rfl
 split
 ·exact fun _=>rfl
 split
 ·exact fun h=>absurd rfl h
 split
 ·exact madeM_err0
 ·exact fun h=>absurd rfl h
theorem bindM_err0 {A:aO} {nodes limbs sp ov kind v k:Int}:Err0 (bindM A nodes limbs sp ov kind v k):=by
 unfold bindM
 split
 ·exact fun _=>rfl
 split
 ·exact fun _=>rfl
 ·exact madeM_err0
theorem atomM_err0 {A:aO} {nodes limbs sp ov:Int} {X:cM}:Err0 (atomM A nodes limbs sp ov X):=by
 unfold atomM atomR
 split
 ·exact fun _=>rfl
 split
 ·exact fun h=>absurd rfl h
 ·exact madeM_err0
theorem sjoinM_err0 {A:aO} {nodes limbs sp ov kind:Int} {ks:List Int}:Err0 (sjoinM A nodes limbs sp ov kind ks):=by
 unfold sjoinM
 split
 ·exact fun _=>rfl
 split
 ·exact fun h=>absurd rfl h
 split
 ·exact fun h=>absurd rfl h
 ·exact joinM_err0
end Go.Rid

namespace Go.Rid
open Go.RowKit Go.Proofs.YthjlmocbeoimaaaGreatDoor
def dG (nodes limbs:Int):TurnF:=fun A sp ov x ks=>
 if (ndA A x).kind=5∨(ndA A x).kind=6 then sjoinM A nodes limbs sp ov (ndA A x).kind ks
 else if (ndA A x).kind=7∨(ndA A x).kind=8 then bindM A nodes limbs sp ov (ndA A x).kind (ndA A x).var (ks.getD 0 0)
 else ((x,0),A,(sp,ov))
theorem bY.one {V:List Int} {nodes limbs sp:Int} {A:aO} (h:bY V nodes limbs A sp) {x:Int} (h0:0≤x) (h1:x<(A.nodes.length:Int)) (hk:(ndA A x).kind=7∨(ndA A x).kind=8):(ndA A x).kids.length=1∧I64 (ndA A x).var:=by
 have h2:2≤x.toNat:=by
  rcases Nat.lt_or_ge x.toNat 2 with h2|h2
  ·unfold ndA at hk
   rw [h.low h2] at hk
   simp only at hk
   omega
  ·exact h2
 have hK:=h.all x.toNat h2 (by omega)
 have hb:=hK.again.bind hk
 exact⟨by unfold ndA;rw [hb];rfl,hK.var⟩
theorem bY.none {V:List Int} {nodes limbs sp:Int} {A:aO} (h:bY V nodes limbs A sp) {x:Int} (h0:0≤x) (h1:x<(A.nodes.length:Int)) (hk:(ndA A x).kind≤4):(ndA A x).kids=[]:=by
 rcases Nat.lt_or_ge x.toNat 2 with h2|h2
 ·unfold ndA
  rw [h.low h2]
 ·exact ((h.inv.once.form x.toNat h2 (by omega)).2.2.1 hk).2
theorem bY.kinds {V:List Int} {nodes limbs sp:Int} {A:aO} (h:bY V nodes limbs A sp) {x:Int} (h0:0≤x) (h1:x<(A.nodes.length:Int)):0≤(ndA A x).kind∧(ndA A x).kind≤8:=by
 rcases Nat.lt_or_ge x.toNat 2 with h2|h2
 ·unfold ndA
  rw [h.low h2]
  simp only
  omega
 ·have hf:=h.inv.once.form x.toNat h2 (by omega)
  exact⟨by have:=hf.1;unfold ndA;omega,hf.2.1⟩
def SimpJ (V:List Int) (nodes limbs:Int) (A:aO) (sp _ov:Int):Prop:=bY V nodes limbs A sp
theorem againT_ok {V:List Int} {nodes limbs:Int} (h0:0≤limbs):TurnOk (dG nodes limbs) (SimpJ V nodes limbs) AltR:=by
 refine ⟨fun {A sp ov x ks} hI hx0 hx1 hks hkl=>?_,fun h he=>h.mono he,fun h=>h.1,fun h=>bY.below h⟩
 have h:bY V nodes limbs A sp:=hI
 unfold dG
 by_cases h5:(ndA A x).kind=5∨(ndA A x).kind=6
 ·rw [if_pos h5]
  have hc:=sjoinM_came (ov:=ov) (kind:=(ndA A x).kind) (ks:=ks) h0 h
  exact⟨hc.ok,hc.ext,sjoinM_alt h0 h hks⟩
 rw [if_neg h5]
 by_cases h7:(ndA A x).kind=7∨(ndA A x).kind=8
 ·rw [if_pos h7]
  obtain ⟨q1,q2⟩:=h.one hx0 hx1 h7
  have hc:=bindM_came (ov:=ov) (kind:=(ndA A x).kind) (k:=ks.getD 0 0) h0 q2 h
  exact⟨hc.ok,hc.ext,bindM_alt h hc (hks _ (getD_mem 0 (by omega)))⟩
 ·rw [if_neg h7]
  have hk:=h.kinds hx0 hx1
  have hk4:(ndA A x).kind≤4:=by omega
  exact⟨h,Ext.refl _,fun _=>⟨⟨hx0,hx1⟩,alt_nokids (h.none hx0 hx1 hk4)⟩⟩
theorem againT_err0 {nodes limbs sp ov x:Int} {A:aO} {ks:List Int}:Err0 (dG nodes limbs A sp ov x ks):=by
 unfold dG
 split
 ·exact sjoinM_err0
 split
 ·exact bindM_err0
 ·exact fun h=>absurd rfl h
theorem AltR.i64 {V:List Int} {nodes limbs sp y:Int} {A:aO} (h:bY V nodes limbs A sp) (hn:nodes≤2000) (hy:AltR A y):I64' y:=by
 have:=hy.1
 have:=h.inv.used
 have:=h.inv.spn
 exact⟨by omega,by omega⟩
end Go.Rid
namespace Go.Proofs.YthjlmocbeoimaaaGreatDoor
open Go.RowKit Go.Rid
theorem sjoin_any {V:List Int} {B0:Nat} {O M0 M1:Nat→Prop} {w:World} {g gm:Nat} {A:aO} {a:Option Addr} {n c:Nat} {ids:List Int} {nodes limbs sp ov kind:Int} (hA:cK O w g gm A) (hT:Tab B0 w) (hO:∀b,O b→M0 b) (hM0:MB M0 w) (hm:bP M0 w gm nodes limbs sp ov)
  (h:cC M1 w a n c ids) (hI:bY V nodes limbs A sp) (hn:nodes≤2000) (hl:limbs≤8) (hV:V.length≤262144) (hids:∀k∈ids,AltR A k) (hlen:ids.length≤1000000) (hkd:kind=5∨kind=6) :
  Calls Tryz.prog 20 #[.pointer (some ⟨g,0,none⟩),.int .i64 kind,.slice a n c] w fun e w'=>bZ O M0 w g gm nodes limbs (sjoinM A nodes limbs sp ov kind ids) e w':=
 joined_any hA hT hO hM0 hm h hI.inv.sp0 hI.inv.spn hn (by have:=hI.inv.cnt;have:=hI.inv.spn;omega) (hI.fine hn hl hV) (by have:=flatL_len hI hn hkd hids;omega) hkd (roomK hI.inv hn hV (by omega) (by omega) (fun _=>rfl) (neatF_pair _) fun k hk=>by
  obtain ⟨y,hy,hxy⟩:=left_mem (mem_neatF.1 hk)
  have h1:=(hids y hy).1
  have h2:=flatX_mem hI.below h1.1 h1.2 hxy
  omega)
theorem again1_any {V:List Int} {B0 g gm ba:Nat} {nodes limbs:Int} (hl0:0≤limbs) (hn:nodes≤2000) (hl:limbs≤8) (hV:V.length≤262144):TurnC B0 g gm 25 #[.pointer (some ⟨ba,0,none⟩)] [(ba,30,[.pointer (some ⟨g,0,none⟩)])] nodes limbs (dG nodes limbs) (SimpJ V nodes limbs) AltR:=by
 refine ⟨enters_of Tryz.func25 (by kernel_rfl) rfl,fun W O M A sp ov x cs ks a n c hA hT hO hM hm hR hf hN hks hI hx0 hx1 hkR hkl=>?_,fun {A sp ov x ks} hI hx0 hx1 hkR hkl=>?_⟩
 ·have hr:=hR _ (List.mem_singleton.2 rfl)
  have hI':bY V nodes limbs A sp:=hI
  have hFine:=hI'.fine hn hl hV
  obtain ⟨N,hN'⟩:∃N,ndA A x=N:=⟨_,rfl⟩
  rw [hN'] at hN hkl
  have hkinds:=hI'.kinds hx0 hx1
  have hone:=hI'.one hx0 hx1
  rw [hN'] at hkinds hone
  have hnl:ks.length=n:=SlOf.len hks
  have hkb:N.kids.length≤2002:=by rw [←hN'];exact hI'.kidsLen hn (by omega)
  obtain ⟨gd,ad,nd,cd,ap,np,cp,gk,ak,nk,ck,aq,nq,cq,rfl,hnat⟩:=hN
  have HA:=jJ (aI hA (aI hT (aI hO (aI hM (aI hm (aI hr (aI hks (aI hnat (aI hI' hkR)))))))))
  have HC:=jJ (aI hl0 (aI hn (aI hl hV)))
  have HN:=jJ (aI hN' (aI hone hkl))
  have HF:=jJ hFine
  clear hA hT hO hM hm hR hf hr hks hnat hI hI' hkR hN' hone hFine hl0 hn hl hV hkl
  show Calls Tryz.prog 25 #[.int .i64 x,.agg #[.int .i64 N.kind,.bool gd,.slice ad nd cd,.slice ap np cp,.bool gk,.slice ak nk ck,.int .i64 N.var,.slice aq nq cq],.slice a n c,.pointer (some ⟨ba,0,none⟩)] W _
  go_enter Tryz.func25,Tryz.ntmps25
  go_upto_region 1 with (fail)
  have r0:=aF.alloc (w:=W) (E:=55) (xs:=[.int .i64 N.kind,.bool gd,.slice ad nd cd,.slice ap np cp,.bool gk,.slice ak nk ck,.int .i64 N.var,.slice aq nq cq])
  change aF (W.alloc (.cells #[.int .i64 N.kind,.bool gd,.slice ad nd cd,.slice ap np cp,.bool gk,.slice ak nk ck,.int .i64 N.var,.slice aq nq cq] 55)) _ _ _ at r0
  have k0:aA Nil W (W.alloc (.cells #[.int .i64 N.kind,.bool gd,.slice ad nd cd,.slice ap np cp,.bool gk,.slice ak nk ck,.int .i64 N.var,.slice aq nq cq] 55)):=kOf
  generalize (W.alloc (.cells #[.int .i64 N.kind,.bool gd,.slice ad nd cd,.slice ap np cp,.bool gk,.slice ak nk ck,.int .i64 N.var,.slice aq nq cq] 55))=w0 at *
  obtain ⟨d0,d1,d2,d3,d4,d5,d6,d7⟩:=r0.cells8
  obtain ⟨e0,-⟩:=(HA.out.r5.1.keep k0 id).one
  have H0:=jJ (aI k0 r0)
  clear k0 r0
  by_cases h5:N.kind=5∨N.kind=6
  ·have hj:=sjoin_any (kind:=N.kind) (ov:=ov) (HA.out.1.keep H0.out.1 fun _ h=>h.elim) (HA.out.2.1.keepNil H0.out.1) HA.out.2.2.1 (HA.out.2.2.2.1.keep H0.out.1) (HA.out.r4.1.keepNil H0.out.1) (HA.out.r6.1.keepNil H0.out.1) HA.out.r8.1 HC.out.2.1 HC.out.2.2.1 HC.out.2.2.2 HA.out.r9 (by have:=HN.out.2.2;omega) h5
   have hres:dG nodes limbs A sp ov x ks=sjoinM A nodes limbs sp ov N.kind ks:=by unfold dG;rw [HN.out.1,if_pos h5]
   have HJ:=jJ (aI hj hres)
   clear hj hres
   have hj2:=HJ.out.1
   have hr2:=HJ.out.2
   rcases h5 with hk|hk
   ·rw [hk] at d0 hj2 hr2
    have HS:=jJ (aI hj2 hr2)
    clear hj2 hr2 hk
    go_wp2_with (go_at_call 20;refine HS.out.1.mono ?_;rintro e w1 ⟨rfl,hst⟩;have H1:=jJ hst;clear hst)
    go_ret2
    rw [HS.out.2]
    exact bZ.after H0.out.1 ⟨rfl,H1.out⟩
   ·rw [hk] at d0 hj2 hr2
    have HS:=jJ (aI hj2 hr2)
    clear hj2 hr2 hk
    go_wp2_with (go_at_call 20;refine HS.out.1.mono ?_;rintro e w1 ⟨rfl,hst⟩;have H1:=jJ hst;clear hst)
    go_ret2
    rw [HS.out.2]
    exact bZ.after H0.out.1 ⟨rfl,H1.out⟩
  by_cases h7:N.kind=7∨N.kind=8
  ·obtain ⟨q1,q2⟩:=HN.out.2.1 h7
   have hn1:n=1:=by have:=HN.out.2.2;omega
   subst hn1
   obtain ⟨k,hk⟩:∃k,ks.getD 0 0=k:=⟨_,rfl⟩
   obtain ⟨b,off,rfl,cq0⟩:=bD (HA.out.r6.1.keepNil H0.out.1) (i:=0) (by omega)
   rw [hk] at cq0
   have hbq:b<w0.heap.size:=by
    obtain ⟨b',off',cs',e,hb',_⟩:=SlOf.at (HA.out.r6.1.keepNil H0.out.1) (i:=0) (by omega)
    cases e;exact hb'
   have hkr:=(HA.out.r9 k (by rw [←hk];exact getD_mem 0 (by omega))).1
   have HK:=jJ hk
   have HV:=jJ q2
   simp only [Nat.mul_zero,Nat.zero_mul,Nat.add_zero] at cq0
   have HQ:=jJ cq0
   clear hk q1 q2 cq0
   rcases h7 with hkd|hkd
   ·have H7:=jJ hkd
    have hroom:=roomK (kind:=N.kind) (v:=N.var) (ks:=[k]) HA.out.r8.1.inv HC.out.2.1 HC.out.2.2.2 (by omega) (by omega) (fun h=>by omega) (List.pairwise_singleton _ _) (fun y hy=>by rw [List.mem_singleton.1 hy];exact hkr)
    have hb:=fun (W':World) (q:aA Nil W W')=>abind_any (kind:=N.kind) (v:=N.var) (k:=k) (HA.out.1.keep q fun _ h=>h.elim) (HA.out.2.1.keepNil q) HA.out.2.2.1 (HA.out.2.2.2.1.keep q) (HA.out.r4.1.keepNil q) HV.out HA.out.r8.1.inv.sp0 HA.out.r8.1.inv.spn HC.out.2.1 (by have:=HA.out.r8.1.inv.cnt;have:=HA.out.r8.1.inv.spn;have:=HC.out.2.1;omega) HF.out.len HF.out.two hroom
    rw [hkd] at hb d0
    have HB:=jJ hb
    clear hb hroom hkd
    go_upto_region 7 with (fail)
    refine aS [8,9,10,11,12] [24,25,26,27,28,29,30,31,32,33,34,7,8] [24,25,26,27,28,29,30,31] [Un (LitV ?v1_0),Un (LitV ?v1_1),Un (LitV ?v1_2),Un (LitV ?v1_3),Un (LitV ?v1_4),Un (LitV ?v1_5),Un (LitV ?v1_6),Un (LitV ?v1_7),nothing,nothing,nothing,nothing,nothing] (by kernel_rfl) (by kernel_rfl) ?rst1 ?rsb1 ?rfn1
    case' rst1=>
     show aB _ _ _ _ _ _ _ _ _ 13
     refine (aB.skip (n:=12) (by decide) (aB.skip (n:=11) (by decide) (aB.skip (n:=10) (by decide) (aB.skip (n:=9) (by decide) (aB.skip (n:=8) (by decide) (aB.succ (n:=7) rfl ?r1_7 (aB.succ (n:=6) rfl ?r1_6 (aB.succ (n:=5) rfl ?r1_5 (aB.succ (n:=4) rfl ?r1_4 (aB.succ (n:=3) rfl ?r1_3 (aB.succ (n:=2) rfl ?r1_2 (aB.succ (n:=1) rfl ?r1_1 (aB.succ (n:=0) rfl ?r1_0 aB.zero)))))))))))))
    case' r1_0|r1_1|r1_3|r1_5=>
     intro us wj hk hp K hK
     try simp only [aK,Act.put,sL] at hK⊢
     obtain ⟨d0,d1,d2,d3,d4,d5,d6,d7⟩:=(H0.out.2.keep hk id).cells8
     obtain ⟨e0',-⟩:=(HA.out.r5.1.keep (H0.out.1.trans hk) id).one
     have hq0:=hk.cellE hbq id HQ.out
     have lq:=Nat.lt_of_lt_of_le hbq hk.size
     rw [H7.out] at d0
     go_simp
     refine hK.out _ _ ?_ ?_
     ·exact aA.refl _ _
     ·exact rfl
    case' r1_2=>
     intro us wj hk hp K hK
     try simp only [aK,Act.put,sL] at hK⊢
     obtain ⟨d0,d1,d2,d3,d4,d5,d6,d7⟩:=(H0.out.2.keep hk id).cells8
     obtain ⟨e0',-⟩:=(HA.out.r5.1.keep (H0.out.1.trans hk) id).one
     have hq0:=hk.cellE hbq id HQ.out
     have lq:=Nat.lt_of_lt_of_le hbq hk.size
     rw [H7.out] at d0
     have e1:us 25=_:=hp 1 (by kernel_rfl)
     rw [e1] at hK⊢
     go_simp
     refine hK.out _ _ ?_ ?_
     ·exact aA.refl _ _
     ·exact rfl
    case' r1_4=>
     intro us wj hk hp K hK
     try simp only [aK,Act.put,sL] at hK⊢
     obtain ⟨d0,d1,d2,d3,d4,d5,d6,d7⟩:=(H0.out.2.keep hk id).cells8
     obtain ⟨e0',-⟩:=(HA.out.r5.1.keep (H0.out.1.trans hk) id).one
     have hq0:=hk.cellE hbq id HQ.out
     have lq:=Nat.lt_of_lt_of_le hbq hk.size
     rw [H7.out] at d0
     have e3:us 27=_:=hp 3 (by kernel_rfl)
     rw [e3] at hK⊢
     go_simp
     refine hK.out _ _ ?_ ?_
     ·exact aA.refl _ _
     ·exact rfl
    case' r1_6=>
     intro us wj hk hp K hK
     try simp only [aK,Act.put,sL] at hK⊢
     obtain ⟨d0,d1,d2,d3,d4,d5,d6,d7⟩:=(H0.out.2.keep hk id).cells8
     obtain ⟨e0',-⟩:=(HA.out.r5.1.keep (H0.out.1.trans hk) id).one
     have hq0:=hk.cellE hbq id HQ.out
     have lq:=Nat.lt_of_lt_of_le hbq hk.size
     rw [H7.out] at d0
     have e5:us 29=_:=hp 5 (by kernel_rfl)
     rw [e5] at hK⊢
     go_simp
     refine hK.out _ _ ?_ ?_
     ·exact aA.refl _ _
     ·exact rfl
    case' r1_7=>
     intro us wj hk hp K hK
     try simp only [aK,Act.put,sL] at hK⊢
     obtain ⟨d0,d1,d2,d3,d4,d5,d6,d7⟩:=(H0.out.2.keep hk id).cells8
     obtain ⟨e0',-⟩:=(HA.out.r5.1.keep (H0.out.1.trans hk) id).one
     have hq0:=hk.cellE hbq id HQ.out
     have lq:=Nat.lt_of_lt_of_le hbq hk.size
     rw [H7.out] at d0
     have e6:us 30=_:=hp 6 (by kernel_rfl)
     rw [e6] at hK⊢
     go_simp
     refine hK.out _ _ ?_ ?_
     ·exact aA.refl _ _
     ·exact rfl
    case' rsb1=>exact aC.cons (aC.cons (aC.cons (aC.cons (aC.cons (aC.cons (aC.cons (aC.cons (aC.cons (aC.cons (aC.cons (aC.cons (aC.cons (aC.nil)))))))))))))
    case' rfn1=>
    intro us wz hkz hf
    simp only [aK,Act.put,sL]
    have e0:us 24=_:=hf 0 (by decide) (by decide)
    have e1:us 25=_:=hf 1 (by decide) (by decide)
    have e2:us 26=_:=hf 2 (by decide) (by decide)
    have e3:us 27=_:=hf 3 (by decide) (by decide)
    have e4:us 28=_:=hf 4 (by decide) (by decide)
    have e5:us 29=_:=hf 5 (by decide) (by decide)
    have e6:us 30=_:=hf 6 (by decide) (by decide)
    have e7:us 31=_:=hf 7 (by decide) (by decide)
    clear hf
    simp only [e0,e1,e2,e3,e4,e5,e6,e7]
    clear e0 e1 e2 e3 e4 e5 e6 e7 us
    refine aL (rs:=[8]) (by kernel_rfl) (by simp) ?_
    refine aJ.cons rfl (fun K hK=>?_) aJ.nil
    go_simp
    refine (HB.out wz (H0.out.1.trans hkz)).mono ?_
    rintro e wb ⟨rfl,hst⟩
    have H1:=jJ hst
    clear hst
    skip
    refine hK.out _ _ (fun _=>trivial) ?_
    clear hK K
    try simp only [Act.put,sL]
    refine aL (rs:=[9,10]) (by kernel_rfl) (by simp) ?_
    refine (aJ.cons rfl (fun K hK=>?t2_9) (aJ.cons rfl (fun K hK=>?t2_10) aJ.nil))
    case t2_9=>
     go_simp
     refine hK.out _ _ (fun _=>trivial) ?_
     clear hK K
     try simp only [Act.put,sL]
     refine aL (rs:=[10]) (by kernel_rfl) (by simp) ?_
     refine aJ.cons rfl (fun K hK=>?_) aJ.nil
     go_simp
     refine hK.out _ _ (fun _=>trivial) ?_
     clear hK K
     try simp only [Act.put,sL]
     refine aL (rs:=[11]) (by kernel_rfl) (by simp) ?_
     refine aJ.cons rfl (fun K hK=>?_) aJ.nil
     go_simp
     refine hK.out _ _ (fun _=>trivial) ?_
     clear hK K
     try simp only [Act.put,sL]
     refine aL (rs:=[12]) (by kernel_rfl) (by simp) ?_
     refine aJ.cons rfl (fun K hK=>?_) aJ.nil
     go_simp
     refine hK.out _ _ (fun _=>trivial) ?_
     clear hK K
     try simp only [Act.put,sL]
     refine aU (by kernel_rfl) ?_ _
     go_wp2_with fail
     go_ret2
     rw [show dG nodes limbs A sp ov x ks=bindM A nodes limbs sp ov 7 N.var k by unfold dG;rw [HN.out.1,if_neg (by rw [H7.out];omega),if_pos (by rw [H7.out];omega),H7.out,HK.out]]
     exact bZ.after (H0.out.1.trans hkz) ⟨rfl,H1.out⟩
    case t2_10=>
     go_simp
     refine hK.out _ _ (fun _=>trivial) ?_
     clear hK K
     try simp only [Act.put,sL]
     refine aL (rs:=[9]) (by kernel_rfl) (by simp) ?_
     refine aJ.cons rfl (fun K hK=>?_) aJ.nil
     go_simp
     refine hK.out _ _ (fun _=>trivial) ?_
     clear hK K
     try simp only [Act.put,sL]
     refine aL (rs:=[11]) (by kernel_rfl) (by simp) ?_
     refine aJ.cons rfl (fun K hK=>?_) aJ.nil
     go_simp
     refine hK.out _ _ (fun _=>trivial) ?_
     clear hK K
     try simp only [Act.put,sL]
     refine aL (rs:=[12]) (by kernel_rfl) (by simp) ?_
     refine aJ.cons rfl (fun K hK=>?_) aJ.nil
     go_simp
     refine hK.out _ _ (fun _=>trivial) ?_
     clear hK K
     try simp only [Act.put,sL]
     refine aU (by kernel_rfl) ?_ _
     go_wp2_with fail
     go_ret2
     rw [show dG nodes limbs A sp ov x ks=bindM A nodes limbs sp ov 7 N.var k by unfold dG;rw [HN.out.1,if_neg (by rw [H7.out];omega),if_pos (by rw [H7.out];omega),H7.out,HK.out]]
     exact bZ.after (H0.out.1.trans hkz) ⟨rfl,H1.out⟩
   ·have H8:=jJ hkd
    have hroom:=roomK (kind:=N.kind) (v:=N.var) (ks:=[k]) HA.out.r8.1.inv HC.out.2.1 HC.out.2.2.2 (by omega) (by omega) (fun h=>by omega) (List.pairwise_singleton _ _) (fun y hy=>by rw [List.mem_singleton.1 hy];exact hkr)
    have hb:=fun (W':World) (q:aA Nil W W')=>abind_any (kind:=N.kind) (v:=N.var) (k:=k) (HA.out.1.keep q fun _ h=>h.elim) (HA.out.2.1.keepNil q) HA.out.2.2.1 (HA.out.2.2.2.1.keep q) (HA.out.r4.1.keepNil q) HV.out HA.out.r8.1.inv.sp0 HA.out.r8.1.inv.spn HC.out.2.1 (by have:=HA.out.r8.1.inv.cnt;have:=HA.out.r8.1.inv.spn;have:=HC.out.2.1;omega) HF.out.len HF.out.two hroom
    rw [hkd] at hb d0
    have HB:=jJ hb
    clear hb hroom hkd
    go_upto_region 7 with (fail)
    refine aS [8,9,10,11,12] [24,25,26,27,28,29,30,31,32,33,34,7,8] [24,25,26,27,28,29,30,31] [Un (LitV ?v3_0),Un (LitV ?v3_1),Un (LitV ?v3_2),Un (LitV ?v3_3),Un (LitV ?v3_4),Un (LitV ?v3_5),Un (LitV ?v3_6),Un (LitV ?v3_7),nothing,nothing,nothing,nothing,nothing] (by kernel_rfl) (by kernel_rfl) ?rst3 ?rsb3 ?rfn3
    case' rst3=>
     show aB _ _ _ _ _ _ _ _ _ 13
     refine (aB.skip (n:=12) (by decide) (aB.skip (n:=11) (by decide) (aB.skip (n:=10) (by decide) (aB.skip (n:=9) (by decide) (aB.skip (n:=8) (by decide) (aB.succ (n:=7) rfl ?r3_7 (aB.succ (n:=6) rfl ?r3_6 (aB.succ (n:=5) rfl ?r3_5 (aB.succ (n:=4) rfl ?r3_4 (aB.succ (n:=3) rfl ?r3_3 (aB.succ (n:=2) rfl ?r3_2 (aB.succ (n:=1) rfl ?r3_1 (aB.succ (n:=0) rfl ?r3_0 aB.zero)))))))))))))
    case' r3_0|r3_1|r3_3|r3_5=>
     intro us wj hk hp K hK
     try simp only [aK,Act.put,sL] at hK⊢
     obtain ⟨d0,d1,d2,d3,d4,d5,d6,d7⟩:=(H0.out.2.keep hk id).cells8
     obtain ⟨e0',-⟩:=(HA.out.r5.1.keep (H0.out.1.trans hk) id).one
     have hq0:=hk.cellE hbq id HQ.out
     have lq:=Nat.lt_of_lt_of_le hbq hk.size
     rw [H8.out] at d0
     go_simp
     refine hK.out _ _ ?_ ?_
     ·exact aA.refl _ _
     ·exact rfl
    case' r3_2=>
     intro us wj hk hp K hK
     try simp only [aK,Act.put,sL] at hK⊢
     obtain ⟨d0,d1,d2,d3,d4,d5,d6,d7⟩:=(H0.out.2.keep hk id).cells8
     obtain ⟨e0',-⟩:=(HA.out.r5.1.keep (H0.out.1.trans hk) id).one
     have hq0:=hk.cellE hbq id HQ.out
     have lq:=Nat.lt_of_lt_of_le hbq hk.size
     rw [H8.out] at d0
     have e1:us 25=_:=hp 1 (by kernel_rfl)
     rw [e1] at hK⊢
     go_simp
     refine hK.out _ _ ?_ ?_
     ·exact aA.refl _ _
     ·exact rfl
    case' r3_4=>
     intro us wj hk hp K hK
     try simp only [aK,Act.put,sL] at hK⊢
     obtain ⟨d0,d1,d2,d3,d4,d5,d6,d7⟩:=(H0.out.2.keep hk id).cells8
     obtain ⟨e0',-⟩:=(HA.out.r5.1.keep (H0.out.1.trans hk) id).one
     have hq0:=hk.cellE hbq id HQ.out
     have lq:=Nat.lt_of_lt_of_le hbq hk.size
     rw [H8.out] at d0
     have e3:us 27=_:=hp 3 (by kernel_rfl)
     rw [e3] at hK⊢
     go_simp
     refine hK.out _ _ ?_ ?_
     ·exact aA.refl _ _
     ·exact rfl
    case' r3_6=>
     intro us wj hk hp K hK
     try simp only [aK,Act.put,sL] at hK⊢
     obtain ⟨d0,d1,d2,d3,d4,d5,d6,d7⟩:=(H0.out.2.keep hk id).cells8
     obtain ⟨e0',-⟩:=(HA.out.r5.1.keep (H0.out.1.trans hk) id).one
     have hq0:=hk.cellE hbq id HQ.out
     have lq:=Nat.lt_of_lt_of_le hbq hk.size
     rw [H8.out] at d0
     have e5:us 29=_:=hp 5 (by kernel_rfl)
     rw [e5] at hK⊢
     go_simp
     refine hK.out _ _ ?_ ?_
     ·exact aA.refl _ _
     ·exact rfl
    case' r3_7=>
     intro us wj hk hp K hK
     try simp only [aK,Act.put,sL] at hK⊢
     obtain ⟨d0,d1,d2,d3,d4,d5,d6,d7⟩:=(H0.out.2.keep hk id).cells8
     obtain ⟨e0',-⟩:=(HA.out.r5.1.keep (H0.out.1.trans hk) id).one
     have hq0:=hk.cellE hbq id HQ.out
     have lq:=Nat.lt_of_lt_of_le hbq hk.size
     rw [H8.out] at d0
     have e6:us 30=_:=hp 6 (by kernel_rfl)
     rw [e6] at hK⊢
     go_simp
     refine hK.out _ _ ?_ ?_
     ·exact aA.refl _ _
     ·exact rfl
    case' rsb3=>exact aC.cons (aC.cons (aC.cons (aC.cons (aC.cons (aC.cons (aC.cons (aC.cons (aC.cons (aC.cons (aC.cons (aC.cons (aC.cons (aC.nil)))))))))))))
    case' rfn3=>
    intro us wz hkz hf
    simp only [aK,Act.put,sL]
    have e0:us 24=_:=hf 0 (by decide) (by decide)
    have e1:us 25=_:=hf 1 (by decide) (by decide)
    have e2:us 26=_:=hf 2 (by decide) (by decide)
    have e3:us 27=_:=hf 3 (by decide) (by decide)
    have e4:us 28=_:=hf 4 (by decide) (by decide)
    have e5:us 29=_:=hf 5 (by decide) (by decide)
    have e6:us 30=_:=hf 6 (by decide) (by decide)
    have e7:us 31=_:=hf 7 (by decide) (by decide)
    clear hf
    simp only [e0,e1,e2,e3,e4,e5,e6,e7]
    clear e0 e1 e2 e3 e4 e5 e6 e7 us
    refine aL (rs:=[8]) (by kernel_rfl) (by simp) ?_
    refine aJ.cons rfl (fun K hK=>?_) aJ.nil
    go_simp
    refine (HB.out wz (H0.out.1.trans hkz)).mono ?_
    rintro e wb ⟨rfl,hst⟩
    have H1:=jJ hst
    clear hst
    skip
    refine hK.out _ _ (fun _=>trivial) ?_
    clear hK K
    try simp only [Act.put,sL]
    refine aL (rs:=[9,10]) (by kernel_rfl) (by simp) ?_
    refine (aJ.cons rfl (fun K hK=>?t4_9) (aJ.cons rfl (fun K hK=>?t4_10) aJ.nil))
    case t4_9=>
     go_simp
     refine hK.out _ _ (fun _=>trivial) ?_
     clear hK K
     try simp only [Act.put,sL]
     refine aL (rs:=[10]) (by kernel_rfl) (by simp) ?_
     refine aJ.cons rfl (fun K hK=>?_) aJ.nil
     go_simp
     refine hK.out _ _ (fun _=>trivial) ?_
     clear hK K
     try simp only [Act.put,sL]
     refine aL (rs:=[11]) (by kernel_rfl) (by simp) ?_
     refine aJ.cons rfl (fun K hK=>?_) aJ.nil
     go_simp
     refine hK.out _ _ (fun _=>trivial) ?_
     clear hK K
     try simp only [Act.put,sL]
     refine aL (rs:=[12]) (by kernel_rfl) (by simp) ?_
     refine aJ.cons rfl (fun K hK=>?_) aJ.nil
     go_simp
     refine hK.out _ _ (fun _=>trivial) ?_
     clear hK K
     try simp only [Act.put,sL]
     refine aU (by kernel_rfl) ?_ _
     go_wp2_with fail
     go_ret2
     rw [show dG nodes limbs A sp ov x ks=bindM A nodes limbs sp ov 8 N.var k by unfold dG;rw [HN.out.1,if_neg (by rw [H8.out];omega),if_pos (by rw [H8.out];omega),H8.out,HK.out]]
     exact bZ.after (H0.out.1.trans hkz) ⟨rfl,H1.out⟩
    case t4_10=>
     go_simp
     refine hK.out _ _ (fun _=>trivial) ?_
     clear hK K
     try simp only [Act.put,sL]
     refine aL (rs:=[9]) (by kernel_rfl) (by simp) ?_
     refine aJ.cons rfl (fun K hK=>?_) aJ.nil
     go_simp
     refine hK.out _ _ (fun _=>trivial) ?_
     clear hK K
     try simp only [Act.put,sL]
     refine aL (rs:=[11]) (by kernel_rfl) (by simp) ?_
     refine aJ.cons rfl (fun K hK=>?_) aJ.nil
     go_simp
     refine hK.out _ _ (fun _=>trivial) ?_
     clear hK K
     try simp only [Act.put,sL]
     refine aL (rs:=[12]) (by kernel_rfl) (by simp) ?_
     refine aJ.cons rfl (fun K hK=>?_) aJ.nil
     go_simp
     refine hK.out _ _ (fun _=>trivial) ?_
     clear hK K
     try simp only [Act.put,sL]
     refine aU (by kernel_rfl) ?_ _
     go_wp2_with fail
     go_ret2
     rw [show dG nodes limbs A sp ov x ks=bindM A nodes limbs sp ov 8 N.var k by unfold dG;rw [HN.out.1,if_neg (by rw [H8.out];omega),if_pos (by rw [H8.out];omega),H8.out,HK.out]]
     exact bZ.after (H0.out.1.trans hkz) ⟨rfl,H1.out⟩
  ·have b5:¬N.kind=5:=fun h=>h5 (.inl h)
   have b6:¬N.kind=6:=fun h=>h5 (.inr h)
   have b7:¬N.kind=7:=fun h=>h7 (.inl h)
   have b8:¬N.kind=8:=fun h=>h7 (.inr h)
   have HB:=jJ (aI h5 h7)
   clear h5 h7
   go_wp2_with fail
   go_ret2
   rw [show dG nodes limbs A sp ov x ks=((x,0),A,(sp,ov)) by unfold dG;rw [HN.out.1,if_neg HB.out.1,if_neg HB.out.2]]
   exact bZ.none HA.out.1 HA.out.2.2.1 HA.out.r4.1 H0.out.1
 ·have h:bY V nodes limbs A sp:=hI
  obtain ⟨q1,q2,q3⟩:=(againT_ok (V:=V) hl0).step (ov:=ov) hI hx0 hx1 hkR hkl
  by_cases he:(dG nodes limbs A sp ov x ks).1.2=0
  ·exact AltR.i64 (show bY V nodes limbs _ _ from q1) hn (q3 he)
  ·rw [againT_err0 he];exact⟨by omega,by omega⟩
end Go.Proofs.YthjlmocbeoimaaaGreatDoor
