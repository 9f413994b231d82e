/- Numbers in order, each once: plain laws. -/
import Derived.Test.YtlldghknenbccaaGreatDoorPMadesC
set_option linter.unusedSimpArgs false
set_option linter.unusedVariables false
namespace Go.Proofs.Q
section
variable {l V:List Int} {x y:Int}
theorem compactUpTo_succ (d:Array Int) (m:Nat):Lib.compactUpTo d (m+1)=Lib.compactUpTo d m++if Lib.keeps d m then [d[m]!] else []:=by
 unfold Lib.compactUpTo;rw [List.range_succ,List.filter_append,cZ2];congr 1;by_cases h:Lib.keeps d m<;>simp [h]
theorem compactUpTo_neat (d:Array Int) (hd:∀i j,i≤j→j<d.size→d[i]!≤d[j]!):∀m,m≤d.size→(Lib.compactUpTo d m).Pairwise (·<·)∧∀x,x∈Lib.compactUpTo d m↔∃i,i<m∧d[i]! = x
 | 0,_=>by
  refine ⟨by simp [Lib.compactUpTo],fun x=>?_⟩;simp [Lib.compactUpTo]
 | m+1,hm=>by
  obtain ⟨h1,h2⟩:=compactUpTo_neat d hd m (by omega);rw [compactUpTo_succ];by_cases hk:Lib.keeps d m
  ·rw [if_pos hk];have hk':m=0∨d[m]!≠d[m-1]!:=by simpa [Lib.keeps] using hk
   refine ⟨List.pairwise_append.2 ⟨h1,List.pairwise_singleton _ _,fun x hx y hy=>?_⟩,fun x=>?_⟩
   ·rw [dZ1.1 hy];obtain ⟨i,hi,rfl⟩:=(h2 x).1 hx;have a1:=hd i (m-1) (by omega) (by omega);have a2:=hd (m-1) m (by omega) (by omega);rcases hk' with h|h
    ·omega
    ·omega
   ·rw [jZ1,h2,dZ1];constructor
    ·rintro (⟨i,hi,e⟩|rfl)
     ·exact⟨i,by omega,e⟩
     ·exact⟨m,by omega,rfl⟩
    ·rintro ⟨i,hi,e⟩;rcases Nat.lt_succ_iff_lt_or_eq.1 hi with h|rfl
     ·exact .inl ⟨i,h,e⟩
     ·exact .inr e.symm
  ·rw [if_neg hk,fZ2];have hk':¬(m=0∨d[m]!≠d[m-1]!):=by simpa [Lib.keeps] using hk
   refine ⟨h1,fun x=>?_⟩;rw [h2];constructor
   ·rintro ⟨i,hi,e⟩;exact⟨i,by omega,e⟩
   ·rintro ⟨i,hi,e⟩;rcases Nat.lt_succ_iff_lt_or_eq.1 hi with h|rfl
    ·exact⟨i,h,e⟩
    ·have h0:i≠0:=fun h=>hk' (.inl h);have h3:d[i]! = d[i-1]!:=Decidable.not_not.1 fun h=>hk' (.inr h);exact⟨i-1,by omega,by rw [←h3];exact e⟩
theorem sortI_sorted (l:List Int):(Go.Proofs.Q.sortI l).Pairwise (·≤·):=by
 unfold Go.Proofs.Q.sortI;have:=List.pairwise_mergeSort (le:=fun x y:Int=>decide (x≤y)) (fun a b c h1 h2=>by simp at *;omega) (fun a b=>by simp;omega) l;exact this.imp fun h=>by simpa using h
theorem neatF_spec (l:List Int):(dE l).Pairwise (·<·)∧∀x,x∈dE l↔x∈l:=by
 have hs:=sortI_sorted l;have hd:∀i j,i≤j→j<(Go.Proofs.Q.sortI l).toArray.size→(Go.Proofs.Q.sortI l).toArray[i]!≤(Go.Proofs.Q.sortI l).toArray[j]!:=fun i j hij hj=>by
  have hj':j<(Go.Proofs.Q.sortI l).length:=by simpa using hj
  have hi':i<(Go.Proofs.Q.sortI l).length:=by omega
  simp only [List.getElem!_toArray,getElem!_pos,hi',hj'];rcases Nat.lt_or_eq_of_le hij with h|rfl
  ·exact List.pairwise_iff_getElem.1 hs i j hi' hj' h
  ·exact Int.le_refl _
 obtain ⟨h1,h2⟩:=compactUpTo_neat _ hd (Go.Proofs.Q.sortI l).length (by simp);refine ⟨h1,fun x=>?_⟩;rw [show dE l=Lib.compactUpTo (Go.Proofs.Q.sortI l).toArray (Go.Proofs.Q.sortI l).length from rfl,h2,←mem_sortI (l:=l)];constructor
 ·rintro ⟨i,hi,rfl⟩;simp only [List.getElem!_toArray,getElem!_pos,hi];exact List.getElem_mem _
 ·intro hx;obtain ⟨i,hi,rfl⟩:=gZ3 hx;exact⟨i,hi,by simp only [List.getElem!_toArray,getElem!_pos,hi]⟩
theorem neatF_pair (l:List Int):(dE l).Pairwise (·<·):=(neatF_spec l).1
theorem dI:x∈dE l↔x∈l:=(neatF_spec l).2 x
theorem pair_nodup (h:l.Pairwise (·<·)):l.Nodup:=h.imp fun h=>by omega
theorem nodup_le:∀{l:List Int},l.Nodup→(∀x∈l,x∈V)→l.length≤V.length:=by
 intro l hl hV;induction V generalizing l with
 | nil=>
  cases l with
  | nil=>simp
  | cons x l=>exact absurd (hV x (kZ1 ..)) hZ2
 | cons v V ih=>
  have h1:(l.filter fun x=>x != v).length≤V.length:=ih (hl.filter _) fun x hx=>by
   rw [hZ3] at hx;rcases mZ1.1 (hV x hx.1) with e|e
   ·simp [e] at hx
   ·exact e
  have h2:l.length≤(l.filter fun x=>x != v).length+1:=by
   clear ih hV h1;induction l with
   | nil=>simp
   | cons x l ih=>
    rw [List.nodup_cons] at hl;by_cases hx:x=v
    ·subst hx;have:l.filter (fun y=>y != x)=l:=List.filter_eq_self.2 fun y hy=>by simp;exact fun e=>hl.1 (e ▸ hy)
     simp [this]
    ·have:=ih hl.2;simp [hx];omega
  simp;omega
theorem without_pair (h:l.Pairwise (·<·)):(without y l).Pairwise (·<·):=h.filter _
theorem mem_without:x∈without y l↔x∈l∧x≠y:=by simp [without]
end
section
variable {V:List Int} {nodes sp:Int} {N:aS} {i m:Nat}
theorem cU {α:Type} {l:List α} (d:α) (h:i<l.length):l.getD i d∈l:=by simp [List.getD,h]
structure InvA (V:List Int) (nodes:Int) (A:aF) (sp:Int):Prop where
 once:OnceA A
 lf:A.free.length=A.nodes.length
 lp:A.plain.length=A.nodes.length
 used:(A.nodes.length:Int)≤sp+2
 cnt:(A.cnt:Int)≤sp
 spn:sp≤nodes
 free:∀i,i<A.nodes.length→(A.free.getD i []).Pairwise (·<·)∧∀v∈A.free.getD i [],v∈V
 kids:∀i,i<A.nodes.length→(A.nodes.getD i aV).kids.Pairwise (·<·)∧∀k∈(A.nodes.getD i aV).kids,0≤k∧k<(i:Int)
theorem InvA.sp0 {A:aF} (h:InvA V nodes A sp):0≤sp:=by have:=h.cnt;omega
theorem InvA.mono {sp':Int} {A:aF} (h:InvA V nodes A sp) (h1:sp≤sp') (h2:sp'≤nodes):InvA V nodes A sp':=⟨h.once,h.lf,h.lp,by have:=h.used;omega,by have:=h.cnt;omega,h2,h.free,h.kids⟩
theorem InvA.start {V:List Int} {nodes sp:Int} (h0:0≤sp) (h1:sp≤nodes):InvA V nodes Go.Proofs.Q.startA sp:=by
 refine ⟨OnceA.start,rfl,rfl,by simp [Go.Proofs.Q.startA];omega,by simp [Go.Proofs.Q.startA];omega,h1,fun i hi=>?_,fun i hi=>?_⟩
 ·have hi':i<2:=hi;rcases (show i=0∨i=1 by omega) with rfl|rfl<;>exact⟨List.Pairwise.nil,fun v hv=>absurd hv hZ2⟩
 ·have hi':i<2:=hi;rcases (show i=0∨i=1 by omega) with rfl|rfl<;>exact⟨List.Pairwise.nil,fun v hv=>absurd hv hZ2⟩
structure FineN (V:List Int) (A:aF) (N:aS):Prop where
 form:FormN N
 vars:∀v∈(neatL N.t.parts).map (·.1),v∈V
 pair:N.kids.Pairwise (·<·)
 kids:∀k∈N.kids,0≤k∧k<(A.nodes.length:Int)
theorem freeRaw_mem {A:aF} (h:InvA V nodes A sp) (hN:FineN V A N):∀v∈cO A N,v∈V:=fun v hv=>by
 unfold cO at hv;rcases jZ1.1 hv with hv|hv
 ·exact hN.vars v hv
 ·obtain ⟨k,hk,hv⟩:=cZ3.1 hv;have h1:=hN.kids k hk;exact (h.free k.toNat (by omega)).2 v hv
theorem freeOf_fine {A:aF} (h:InvA V nodes A sp) (hN:FineN V A N):(dU A N).Pairwise (·<·)∧∀v∈dU A N,v∈V:=by
 unfold dU;split
 ·exact⟨without_pair (neatF_pair _),fun v hv=>freeRaw_mem h hN v (dI.1 (mem_without.1 hv).1)⟩
 ·exact⟨neatF_pair _,fun v hv=>freeRaw_mem h hN v (dI.1 hv)⟩
theorem flatMap_le {m:Nat} (f:Int→List Int):∀l:List Int,(∀k∈l,(f k).length≤m)→(l.flatMap f).length≤l.length*m
 | [],_=>by simp
 | x::l,h=>by
  rw [eZ2,aZ1,gZ1,Nat.add_mul,Nat.one_mul];have h1:=h x (kZ1 ..);have h2:=flatMap_le f l fun k hk=>h k (lZ1 _ hk);omega
theorem length_kids_le:∀{l:List Int},l.Pairwise (·<·)→(∀k∈l,0≤k∧k<(m:Int))→l.length≤m:=by
 intro l hl hk;have:=nodup_le (V:=(List.range m).map Int.ofNat) (pair_nodup hl) fun x hx=>iZ2.2 ⟨x.toNat,List.mem_range.2 (by have:=hk x hx;omega),by have:=hk x hx;simp;omega⟩;simpa using this
theorem freeRaw_room {A:aF} (h:InvA V nodes A sp) (hn:nodes≤2000) (hV:V.length≤262144) (hp:(neatL N.t.parts).length≤16777216) (hN:FineN V A N):(cO A N).length≤1000000000:=by
 unfold cO;rw [aZ1,hZ1];have h1:=flatMap_le (m:=262144) (fun k=>A.free.getD k.toNat []) N.kids fun k hk=>by
  have hr:=hN.kids k hk;have h2:=h.free k.toNat (by omega);exact bZ1 (nodup_le (pair_nodup h2.1) h2.2) hV
 have h2:=length_kids_le hN.pair hN.kids;have h3:=h.used;have h4:=h.spn;have h5:N.kids.length≤2002:=by omega
 have h6:N.kids.length*262144≤2002*262144:=Nat.mul_le_mul_right _ h5;omega
theorem InvA.add {V:List Int} {nodes sp:Int} {A:aF} {N:aS} (h:InvA V nodes A sp) (hN:FineN V A N) (hk:keyF A.nodes (bA N)=none) (hs:sp+1≤nodes):InvA V nodes (addA A N) (sp+1):=by
 have hlf:=h.lf;have hlp:=h.lp;refine ⟨h.once.add hN.form hk,by simp [addA,hlf],by simp [addA,hlp],by have:=h.used;simp [addA];omega,by have:=h.cnt;simp [addA];omega,hs,fun i hi=>?_,fun i hi=>?_⟩
 ·have hi':i<A.nodes.length+1:=by simpa [addA] using hi
  show ((A.free++[dU A N]).getD i []).Pairwise (·<·)∧∀v∈(A.free++[dU A N]).getD i [],v∈V
  rcases Nat.lt_or_ge i A.nodes.length with h1|h1
  ·rw [dO _ _ _ (by omega)];exact h.free i h1
  ·obtain rfl:i=A.free.length:=by omega
   rw [dD];exact freeOf_fine h hN
 ·have hi':i<A.nodes.length+1:=by simpa [addA] using hi
  show ((A.nodes++[N]).getD i aV).kids.Pairwise (·<·)∧∀k∈((A.nodes++[N]).getD i aV).kids,0≤k∧k<(i:Int)
  rcases Nat.lt_or_ge i A.nodes.length with h1|h1
  ·rw [dO _ _ _ h1];exact h.kids i h1
  ·obtain rfl:i=A.nodes.length:=by omega
   rw [dD];exact⟨hN.pair,hN.kids⟩
end
section
variable {xs:List (Bool × List Nat)} {V ks:List Int} {nodes limbs sp ov:Int} {N:aS}
theorem nodeM_ok {s o:Int} (h:(dK nodes limbs s o xs).2.2=0):o=0∧s≠nodes∧great limbs xs=false∧dK nodes limbs s o xs=(s+1,0,0):=by
 unfold dK nodeS at h⊢;by_cases ho:o=0
 ·rw [if_pos ho] at h⊢;by_cases hg:great limbs xs=true
  ·rw [if_pos hg] at h;simp at h
  ·rw [if_neg hg] at h⊢;by_cases hs:s=nodes
   ·rw [if_pos hs] at h;simp at h
   ·rw [if_neg hs];exact⟨ho,hs,by simpa using hg,rfl⟩
 ·rw [if_neg ho] at h;exact absurd h ho
theorem nodeM_no {s o:Int} (h:(dK nodes limbs s o xs).2.2≠0):(dK nodes limbs s o xs).1=s∧(dK nodes limbs s o xs).2.1=(dK nodes limbs s o xs).2.2:=by
 unfold dK nodeS at h⊢;by_cases ho:o=0
 ·rw [if_pos ho] at h⊢;by_cases hg:great limbs xs=true
  ·rw [if_pos hg];exact⟨rfl,rfl⟩
  ·rw [if_neg hg] at h⊢;by_cases hs:s=nodes
   ·rw [if_pos hs];exact⟨rfl,rfl⟩
   ·rw [if_neg hs] at h;simp at h
 ·rw [if_neg ho];exact⟨rfl,rfl⟩
def Sound (V:List Int) (nodes:Int) (A:aF) (sp ov:Int) (r:(Int × Int) × aF × (Int × Int)):Prop:=
 InvA V nodes r.2.1 r.2.2.1∧sp≤r.2.2.1∧A.nodes.length≤r.2.1.nodes.length∧(r.1.2=0→0≤r.1.1∧r.1.1<(r.2.1.nodes.length:Int))∧(r.2.1.nodes.length:Int)-A.nodes.length=r.2.2.1-sp∧(ov≠0→r.2.2.2=ov∧r.2.1=A)
theorem Sound.same {A:aF} {i e:Int} (h:InvA V nodes A sp) (hi:e=0→0≤i∧i<(A.nodes.length:Int)):Sound V nodes A sp ov ((i,e),A,(sp,ov)):=⟨h,Int.le_refl _,bZ2 _,hi,by simp,fun _=>⟨rfl,rfl⟩⟩
theorem madeM_sound {A:aF} (h:InvA V nodes A sp) (hN:FineN V A N):Sound V nodes A sp ov (dF A nodes limbs sp ov N xs):=by
 unfold dF;cases hk:keyF A.nodes (bA N) with
 | some i=>
  have:=keyF_some hk;exact Sound.same h fun _=>⟨by omega,by omega⟩
 | none=>
  simp only [];by_cases he:(dK nodes limbs sp ov xs).2.2=0
  ·rw [if_pos he];obtain ⟨q1,q2,q3,q4⟩:=nodeM_ok he;rw [q4];have hsp:=h.spn;exact⟨h.add hN hk (by omega),by simp only;omega,by simp [addA],fun _=>⟨by simp only;omega,by simp [addA];omega⟩,by simp [addA];omega,fun hov=>absurd q1 hov⟩
  ·rw [if_neg he];obtain ⟨q1,q2⟩:=nodeM_no he;refine ⟨by simp only;rw [q1];exact h,by simp only;rw [q1];exact Int.le_refl _,bZ2 _,fun e=>absurd e he,by simp only;rw [q1];omega,fun hov=>⟨?_,rfl⟩⟩;simp only;unfold dK;rw [if_neg hov]
theorem joinM_sound {kind:Int} {A:aF} (h:InvA V nodes A sp):Sound V nodes A sp ov (dM A nodes limbs sp ov kind ks):=by
 have h2:=h.once.two;by_cases hk:kind≠5∧kind≠6
 ·rw [joinM_bad hk];exact Sound.same h fun e=>absurd e (by decide)
 have hk2:kind=5∨kind=6:=by omega
 cases ha:ks.all (hasK A)
 ·rw [joinM_no hk2 ha];exact Sound.same h fun e=>absurd e (by decide)
 have hr:∀x∈dE ks,0≤x∧x<(A.nodes.length:Int):=fun x hx=>by
  have:=kZ2.1 ha x (dI.1 hx);simpa [hasK] using this
 rcases Nat.lt_trichotomy (dE ks).length 1 with hl|hl|hl
 ·rw [joinM_nil hk2 ha (by omega)];refine Sound.same h fun _=>?_;split<;>exact⟨by omega,by omega⟩
 ·rw [joinM_one hk2 ha hl];exact Sound.same h fun _=>hr _ (cU 0 (by omega))
 ·rw [joinM_many hk2 ha hl];refine madeM_sound h ⟨⟨by simp;omega,by simp;omega,fun h4=>by simp at h4;omega,fun _=>⟨rfl,rfl⟩,fun _=>rfl⟩,fun v hv=>by simp [bH,neatL] at hv,neatF_pair _,hr⟩
theorem bindM_sound {kind v k:Int} {A:aF} (h:InvA V nodes A sp):Sound V nodes A sp ov (dR A nodes limbs sp ov kind v k):=by
 by_cases hk:kind≠7∧kind≠8
 ·rw [bindM_bad hk];exact Sound.same h fun e=>absurd e (by decide)
 have hk2:kind=7∨kind=8:=by omega
 cases ha:hasK A k
 ·rw [bindM_no hk2 ha];exact Sound.same h fun e=>absurd e (by decide)
 rw [bindM_go hk2 ha];have hr:0≤k∧k<(A.nodes.length:Int):=by simpa [hasK] using ha
 refine madeM_sound h ⟨⟨by simp;omega,by simp;omega,fun h4=>by simp at h4;omega,fun _=>⟨rfl,rfl⟩,fun h5=>by simp at h5;omega⟩,fun x hx=>by simp [bH,neatL] at hx,List.pairwise_singleton _ _,fun x hx=>by rw [dZ1.1 hx];exact hr⟩
end
section
variable {V:List Int} {L n L':Nat} {T:aW} {d z:Int} {l:aT} {p:Int × Int} {B:bB}
structure bZ (L n:Nat) (V:List Int) (T:aW):Prop where
 len:T.parts.length≤n
 parts:∀p∈T.parts,nlen p.2.natAbs≤L
 k:nlen T.k.natAbs≤L
 vars:∀p∈T.parts,p.1∈V
theorem bZ.mono (h:bZ L n V T) (hL:L≤L'):bZ L' n V T:=⟨h.len,fun p hp=>bZ1 (h.parts p hp) hL,bZ1 h.k hL,h.vars⟩
theorem small_zero:bZ L n V bH:=⟨aZ2 _,fun p hp=>absurd hp hZ2,by simp [bH,nlen0],fun p hp=>absurd hp hZ2⟩
theorem length_foldr_ins:∀vs:List Int,(vs.foldr ins []).length≤vs.length
 | []=>by simp
 | v::vs=>by rw [List.foldr_cons];exact bZ1 (length_ins_le _ _) (by simpa using length_foldr_ins vs)
theorem length_neatL_le (l:aT):(neatL l).length≤l.length:=by
 unfold neatL;exact bZ1 (List.length_filterMap_le _ _) (bZ1 (length_foldr_ins _) (by simp))
theorem mem_neatL (h:p∈neatL l):p.2=bF l p.1∧∃q∈l,q.1=p.1:=by
 obtain ⟨v,hv,e⟩:=List.mem_filterMap.1 h;split at e
 ·cases e
 ·rename_i h0;cases e;exact⟨rfl,coefL_mem h0⟩
theorem nlen_coefL (h:∀p∈l,nlen p.2.natAbs≤L) (hl:l.length≤16777216) (v:Int):nlen (bF l v).natAbs≤L+1:=by
 have h1:∀p∈l,p.2.natAbs≤Bs ^ L-1:=fun p hp=>by
  have:=cZ1 (lt_pow_nlen p.2.natAbs) (Nat.pow_le_pow_right Bs_pos (h p hp));omega
 have h2:=coefL_abs l h1 v;refine dB ?_;have hp:0<Bs ^ L:=Nat.pow_pos Bs_pos
 calc (bF l v).natAbs≤l.length*(Bs ^ L-1):=h2
  _≤16777216*(Bs ^ L-1):=Nat.mul_le_mul_right _ hl
  _≤Bs*(Bs ^ L-1):=Nat.mul_le_mul_right _ (by decide)
  _<Bs*Bs ^ L:=Nat.mul_lt_mul_of_pos_left (by omega) Bs_pos
  _=Bs ^ (L+1):=by rw [Nat.pow_succ,Nat.mul_comm]
theorem small_norm (h:bZ L n V ⟨l,z⟩) (hn:n≤16777216):bZ (L+1) n V (bR ⟨l,z⟩):=by
 refine ⟨bZ1 (length_neatL_le l) h.len,fun p hp=>?_,bZ1 h.k (by omega),fun p hp=>?_⟩
 ·rw [(mem_neatL hp).1];exact nlen_coefL h.parts (bZ1 h.len hn) _
 ·obtain ⟨q,hq,e⟩:=(mem_neatL hp).2;rw [←e];exact h.vars q hq
theorem small_mapped {c k:Int→Int} (h:bZ L n V T) (hn:n≤16777216) (hc:∀p∈T.parts,nlen (c p.2).natAbs≤L') (hk:nlen (k T.k).natAbs≤L'):bZ (L'+1) n V (mappedV T c k):=by
 refine small_norm ⟨by simp [mapL,h.len],fun p hp=>?_,hk,fun p hp=>?_⟩ hn
 ·obtain ⟨q,hq,rfl⟩:=iZ2.1 hp;exact hc q hq
 ·obtain ⟨q,hq,rfl⟩:=iZ2.1 hp;exact h.vars q hq
theorem nlen_fdiv_nat (x:Int) (g:Nat):nlen (x.fdiv (g:Int)).natAbs≤nlen x.natAbs:=by
 rcases Nat.eq_zero_or_pos g with h|h
 ·subst h;simp [nlen0]
 ·exact nlen_fdiv_le x (by omega)
theorem nlen_add_one (x:Int):nlen (x+1).natAbs≤nlen x.natAbs+2:=by
 have h1:=dP x 1;have h2:=nlen_one;omega
theorem small_less (h:bZ L n V T) (hn:n≤16777216):bZ (L+5) n V (lessV T).t:=by
 unfold lessV;split
 ·exact small_zero
 ·show bZ (L+4+1) n V (mappedV T (fun c=>c.fdiv (gcdL (cE T):Int)) fun k=>(k-1).fdiv (gcdL (cE T):Int)+1)
  refine small_mapped (L':=L+4) h hn (fun p hp=>by
   show nlen (p.2.fdiv (gcdL (cE T):Int)).natAbs≤L+4
   exact bZ1 (nlen_fdiv_nat _ _) (bZ1 (h.parts p hp) (by omega))) ?_
  show nlen ((T.k-1).fdiv (gcdL (cE T):Int)+1).natAbs≤L+4
  have h1:=nlen_add_one ((T.k-1).fdiv (gcdL (cE T):Int));have h2:=nlen_fdiv_nat (T.k-1) (gcdL (cE T));have h3:=nlen_sub_one T.k;have h4:=h.k;omega
theorem small_partT (hl:T.parts.length≤n) (hv:∀p∈T.parts,p.1∈V) (hn:n≤16777216) (h0:0<d) (hd:nlen d.natAbs≤L):bZ (L+1) n V (partT d T):=by
 unfold partT mappedV;refine small_norm ⟨by simp [mapL,hl],fun p hp=>?_,bZ1 (nlen_fmod_le _ h0) hd,fun p hp=>?_⟩ hn
 ·obtain ⟨q,hq,rfl⟩:=iZ2.1 hp;exact bZ1 (nlen_fmod_le _ h0) hd
 ·obtain ⟨q,hq,rfl⟩:=iZ2.1 hp;exact hv q hq
theorem small_partC (hl:T.parts.length≤n) (hv:∀p∈T.parts,p.1∈V) (hn:n≤16777216) (h0:0<d) (hd:nlen d.natAbs≤L):bZ (L+2) n V (dQ d T):=by
 have h:=small_partT hl hv hn h0 hd;exact small_mapped h hn (fun p hp=>bZ1 (nlen_fdiv_nat _ _) (h.parts p hp)) (bZ1 (nlen_fdiv_nat _ _) h.k)
theorem nlen_partD (hd:nlen d.natAbs≤L):nlen (partD d T).natAbs≤L:=bZ1 (nlen_fdiv_nat _ _) hd
theorem small_partO (hl:T.parts.length≤n) (hv:∀p∈T.parts,p.1∈V) (hn:n≤16777216) (h0:0<d) (hd:nlen d.natAbs≤L):bZ (L+1) n V (partO d T):=by
 have h:=small_partC hl hv hn h0 hd;have hx:∀p∈mulL (-1) (dQ d T).parts++mulL 0 bH.parts,p.1∈V:=fun p hp=>by
  rcases jZ1.1 hp with hp|hp
  ·obtain ⟨q,hq,rfl⟩:=iZ2.1 hp;exact h.vars q hq
  ·simp [mulL,bH] at hp
 refine small_partT ?_ (fun p hp=>?_) hn (partD_pos h0) (nlen_partD hd)
 ·refine bZ1 (length_neatL_le _) ?_;simp [mulL,bH,h.len]
 ·obtain ⟨q,hq,e⟩:=(mem_neatL hp).2;rw [←e];exact hx q hq
structure SmallB (L n:Nat) (V:List Int) (B:bB):Prop where
 t:bZ L n V B.t
 d:nlen B.d.natAbs≤L
 kind:0≤B.kind∧B.kind≤4
 less:B.kind=2→B.d=0
theorem small_truth (b:Bool):SmallB L n V (eA b):=⟨small_zero,by simp [eA,nlen0],by unfold eA;split<;>decide,fun h=>by unfold eA at h⊢;rfl⟩
theorem small_parted (no:Bool) (h:bZ L n V T) (hn:n≤16777216) (h0:0<d) (hd:nlen d.natAbs≤L):SmallB (L+2) n V (cH d T no):=by
 unfold cH;split
 ·exact small_truth _
 ·split
  ·exact small_truth _
  ·split
   ·exact small_truth _
   ·refine ⟨?_,bZ1 (nlen_partD hd) (by omega),by simp only;split<;>decide,fun h2=>by simp only at h2;split at h2<;>simp at h2⟩;simp only;split
    ·exact (small_partO h.len h.vars hn h0 hd).mono (by omega)
    ·exact small_partC h.len h.vars hn h0 hd
theorem dW {k:Int} (h:bZ L n V ⟨l,z⟩) (hd:nlen d.natAbs≤L) (hn:n≤16777216):SmallB (L+6) n V (bV ⟨k,d,⟨l,z⟩⟩).2:=by
 have hz:SmallB (L+6) n V ⟨0,0,bH⟩:=⟨small_zero,by simp [nlen0],by decide,fun h=>by simp at h⟩;by_cases h01:k=0∨k=1
 ·rw [normR_const h01];exact⟨small_zero,by simp [nlen0],by simp only;omega,fun h=>rfl⟩
 by_cases h2:k=2
 ·rw [normR_less h2];have h1:=small_less (small_norm h hn) hn;refine ⟨h1.mono (by omega),?_,?_,fun _=>?_⟩
  ·unfold lessV;split
   ·simp [eA,nlen0]
   ·simp [nlen0]
  ·unfold lessV;split
   ·exact (small_truth (L:=0) (n:=0) (V:=[]) _).kind
   ·exact⟨show (0:Int)≤2 by decide,show (2:Int)≤4 by decide⟩
  ·unfold lessV;split<;>rfl
 by_cases h34:k=3∨k=4
 ·rw [normR_div h34,parted2];split
  ·exact hz
  ·rename_i hd0;have h1:=small_parted (d:=(d.natAbs:Int)) (decide (k=4)) (small_norm h hn) hn (by have:=Int.natAbs_pos.2 hd0;simp only at this;omega) (bZ1 (show nlen ((d.natAbs:Int)).natAbs≤L by simpa using hd) (by omega));exact⟨h1.t.mono (by omega),bZ1 h1.d (by omega),h1.kind,h1.less⟩
 ·rw [normR_bad (fun e=>h01 (.inl e)) (fun e=>h01 (.inr e)) h2 (fun e=>h34 (.inl e)) (fun e=>h34 (.inr e))];exact hz
theorem bulkP_le {L:Nat}:∀l:aT,(∀p∈l,nlen p.2.natAbs≤L)→bulkP l≤l.length*(24+32*L)
 | [],_=>by simp [bulkP]
 | p::l,h=>by
  have h1:=bulkP_le l fun q hq=>h q (lZ1 _ hq);have h2:=h p (kZ1 ..);simp only [bulkP,gZ1,Nat.add_mul,Nat.one_mul];have h3:32*nlen p.2.natAbs≤32*L:=Nat.mul_le_mul_left _ h2;omega
theorem fine_of_small {A:aF} (h:SmallB L n V B) (hk:2≤B.kind):FineN V A (nodeB B):=by
 refine ⟨⟨hk,by simp only [nodeB];have:=h.kind.2;omega,fun _=>⟨rfl,rfl⟩,fun h5=>by simp only [nodeB] at h5;have:=h.kind.2;omega,fun h5=>by simp only [nodeB] at h5;have:=h.kind.2;omega⟩,fun v hv=>?_,List.Pairwise.nil,fun k hk=>absurd hk hZ2⟩;obtain ⟨p,hp,rfl⟩:=iZ2.1 hv;obtain ⟨q,hq,e⟩:=(mem_neatL hp).2;rw [←e];exact h.t.vars q hq
theorem ok_of_small {nodes sp:Int} {A:aF} (hI:InvA V nodes A sp) (hno:nodes≤2000) (hV:V.length≤262144) (hV2:∀v∈V,I64 v) (h:SmallB L n V B) (hk:2≤B.kind) (hL:L≤1248600) (hn:n≤262144):OkB A B:=by
 have hL2:L≤536870912:=by omega
 have hb:=bulkP_le B.t.parts h.t.parts;have hb2:B.t.parts.length*(24+32*L)≤262144*(24+32*1248600):=Nat.mul_le_mul (bZ1 h.t.len hn) (by omega);have hd:=h.d;have hkk:=h.t.k;refine ⟨⟨⟨hk,by simp only [nodeB];have:=h.kind.2;omega⟩,⟨by simp only [nodeB];omega,by simp only [nodeB];omega⟩,fun x hx=>absurd hx hZ2,by simp [nodeB],by simp only [nodeB];omega⟩,?_,⟨fun p hp=>bZ1 (h.t.parts p hp) hL2,bZ1 h.t.k hL2,bZ1 h.t.len (by omega)⟩,bZ1 h.d hL2,freeRaw_room hI hno hV (bZ1 (length_neatL_le _) (bZ1 h.t.len (by omega))) (fine_of_small h hk)⟩;have hk4:B.kind=2∨B.kind=3∨B.kind=4:=by have:=h.kind.2;omega
 have h1:=bJ (i:=B.kind) (by omega) (by omega);have h2:=dC B.d;have h3:=dC B.t.k;have h4:=length_partsTxt B.t.parts fun p hp=>hV2 _ (h.t.vars p hp);have e:bA (nodeB B)=bC B.kind++[32]++(dS B.d++dS B.t.k++cA B.t.parts):=by
  unfold bA nodeB;exact congrArg _ (if_pos hk4)
 rw [e];simp only [aZ1,gZ1,gZ2];unfold maxLen;omega
end
end Go.Proofs.Q
