/- Numbers in order, each once: plain laws. -/
import Derived.Test.YtlldghknenbccaaGreatDoorRMadesC
set_option linter.unusedSimpArgs false
set_option linter.unusedVariables false
namespace Go.Proofs.Q
section
variable {l V:List Int} {x y:Int}
theorem compactUpTo_succ (d:Array Int) (m:Nat):Lib.compactUpTo d (m+1)=Lib.compactUpTo d m++if Lib.keeps d m then [d[m]!] else []:=by
 unfold Lib.compactUpTo;rw [List.range_succ,List.filter_append,cZ2];congr 1;by_cases h:Lib.keeps d m<;>simp [h]
theorem YQ (d:Array Int) (hd:∀i j,i≤j→j<d.size→d[i]!≤d[j]!):∀m,m≤d.size→(Lib.compactUpTo d m).Pairwise (·<·)∧∀x,x∈Lib.compactUpTo d m↔∃i,i<m∧d[i]! = x
 | 0,_=>by
  refine ⟨by simp [Lib.compactUpTo],fun x=>?_⟩;simp [Lib.compactUpTo]
 | m+1,hm=>by
  obtain ⟨h1,h2⟩:=YQ d hd m zZ;rw [compactUpTo_succ];by_cases hk:Lib.keeps d m
  ·rw [if_pos hk];have hk':m=0∨d[m]!≠d[m-1]!:=by simpa [Lib.keeps] using hk
   refine ⟨List.pairwise_append.2 ⟨h1,List.pairwise_singleton _ _,fun x hx y hy=>?_⟩,fun x=>?_⟩
   ·rw [dZ1.1 hy];obtain ⟨i,hi,rfl⟩:=(h2 x).1 hx;have a1:=hd i (m-1) zZ zZ;have a2:=hd (m-1) m zZ zZ;rcases hk' with h|h
    ·omega
    ·omega
   ·rw [jZ1,h2,dZ1];constructor
    ·rintro (⟨i,hi,e⟩|rfl)
     ·exact⟨i,zZ,e⟩
     ·exact⟨m,zZ,rfl⟩
    ·rintro ⟨i,hi,e⟩;rcases Nat.lt_succ_iff_lt_or_eq.1 hi with h|rfl
     ·exact .inl ⟨i,h,e⟩
     ·exact .inr e.symm
  ·rw [if_neg hk,fZ2];have hk':¬(m=0∨d[m]!≠d[m-1]!):=by simpa [Lib.keeps] using hk
   refine ⟨h1,fun x=>?_⟩;rw [h2];constructor
   ·rintro ⟨i,hi,e⟩;exact⟨i,zZ,e⟩
   ·rintro ⟨i,hi,e⟩;rcases Nat.lt_succ_iff_lt_or_eq.1 hi with h|rfl
    ·exact⟨i,h,e⟩
    ·have h0:i≠0:=fun h=>hk' (.inl h);have h3:d[i]! = d[i-1]!:=Decidable.not_not.1 fun h=>hk' (.inr h);exact⟨i-1,zZ,by rw [←h3];exact e⟩
theorem aNH (l:List Int):(Go.Proofs.Q.iO l).Pairwise (·≤·):=by
 unfold Go.Proofs.Q.iO;have:=List.pairwise_mergeSort (le:=fun x y:Int=>decide (x≤y)) (fun a b c h1 h2=>by simp at *;omega) (fun a b=>zV) l;exact this.imp fun h=>wD
theorem aDK (l:List Int):(cM l).Pairwise (·<·)∧∀x,x∈cM l↔x∈l:=by
 have hs:=aNH l;have hd:∀i j,i≤j→j<(Go.Proofs.Q.iO l).toArray.size→(Go.Proofs.Q.iO l).toArray[i]!≤(Go.Proofs.Q.iO l).toArray[j]!:=fun i j hij hj=>by
  have hj':j<(Go.Proofs.Q.iO l).length:=by simpa using hj
  have hi':i<(Go.Proofs.Q.iO l).length:=zZ;simp only [List.getElem!_toArray,getElem!_pos,hi',hj'];rcases Nat.lt_or_eq_of_le hij with h|rfl
  ·exact List.pairwise_iff_getElem.1 hs i j hi' hj' h
  ·exact Int.le_refl _
 obtain ⟨h1,h2⟩:=YQ _ hd (Go.Proofs.Q.iO l).length zW;refine ⟨h1,fun x=>?_⟩;rw [show cM l=Lib.compactUpTo (Go.Proofs.Q.iO l).toArray (Go.Proofs.Q.iO l).length from rfl,h2,←aES (l:=l)];constructor
 ·rintro ⟨i,hi,rfl⟩;simp only [List.getElem!_toArray,getElem!_pos,hi];exact List.getElem_mem _
 ·intro hx;obtain ⟨i,hi,rfl⟩:=jZ3 hx;exact⟨i,hi,by simp only [List.getElem!_toArray,getElem!_pos,hi]⟩
theorem oI (l:List Int):(cM l).Pairwise (·<·):=(aDK l).1
theorem cL:x∈cM l↔x∈l:=(aDK l).2 x
theorem KF (h:l.Pairwise (·<·)):l.Nodup:=h.imp fun h=>zZ
theorem PY:∀{l:List Int},l.Nodup→(∀x∈l,x∈V)→l.length≤V.length:=by
 intro l hl hV;induction V generalizing l with
 | nil=>
  cases l with
  | nil=>simp
  | cons x l=>exact absurd (hV x (kZ1 ..)) hZ2
 | cons v V ih=>
  have h1:(l.filter fun x=>x != v).length≤V.length:=ih (hl.filter _) fun x hx=>by
   rw [kZ3] at hx;rcases mZ1.1 (hV x hx.1) with e|e
   ·simp [e] at hx
   ·exact e
  have h2:l.length≤(l.filter fun x=>x != v).length+1:=by
   clear ih hV h1;induction l with
   | nil=>simp
   | cons x l ih=>
    rw [List.nodup_cons] at hl;by_cases hx:x=v
    ·subst hx;have:l.filter (fun y=>y != x)=l:=List.filter_eq_self.2 fun y hy=>by simp;exact fun e=>hl.1 (e ▸ hy)
     simp [this]
    ·have:=ih hl.2;simp [hx];omega
  simp;omega
theorem aNR (h:l.Pairwise (·<·)):(without y l).Pairwise (·<·):=h.filter _
theorem aOG:x∈without y l↔x∈l∧x≠y:=by simp [without]
end
section
variable {V:List Int} {nodes sp:Int} {N:aS} {i m:Nat}
theorem cK {α:Type} {l:List α} (d:α) (h:i<l.length):l.getD i d∈l:=by simp [List.getD,h]
structure fP (V:List Int) (nodes:Int) (A:aC) (sp:Int):Prop where
 once:nA A
 lf:A.free.length=A.nodes.length
 lp:A.plain.length=A.nodes.length
 used:(A.nodes.length:Int)≤sp+2
 cnt:(A.cnt:Int)≤sp
 spn:sp≤nodes
 free:∀i,i<A.nodes.length→(A.free.getD i []).Pairwise (·<·)∧∀v∈A.free.getD i [],v∈V
 kids:∀i,i<A.nodes.length→(A.nodes.getD i aP).kids.Pairwise (·<·)∧∀k∈(A.nodes.getD i aP).kids,0≤k∧k<(i:Int)
theorem fP.sp0 {A:aC} (h:fP V nodes A sp):0≤sp:=by have:=h.cnt;omega
theorem fP.mono {sp':Int} {A:aC} (h:fP V nodes A sp) (h1:sp≤sp') (h2:sp'≤nodes):fP V nodes A sp':=⟨h.once,h.lf,h.lp,by have:=h.used;omega,by have:=h.cnt;omega,h2,h.free,h.kids⟩
theorem fP.start {V:List Int} {nodes sp:Int} (h0:0≤sp) (h1:sp≤nodes):fP V nodes Go.Proofs.Q.gJ sp:=by
 refine ⟨nA.start,rfl,rfl,by simp [Go.Proofs.Q.gJ];omega,by simp [Go.Proofs.Q.gJ];omega,h1,fun i hi=>?_,fun i hi=>?_⟩
 ·exact vC
 ·exact vC
structure IZ (V:List Int) (A:aC) (N:aS):Prop where
 form:CU N
 vars:∀v∈(dR N.t.parts).map (·.1),v∈V
 pair:N.kids.Pairwise (·<·)
 kids:∀k∈N.kids,0≤k∧k<(A.nodes.length:Int)
theorem aAL {A:aC} (h:fP V nodes A sp) (hN:IZ V A N):∀v∈dB A N,v∈V:=fun v hv=>by
 unfold dB at hv;rcases jZ1.1 hv with hv|hv
 ·exact hN.vars v hv
 ·obtain ⟨k,hk,hv⟩:=fZ3.1 hv;have h1:=hN.kids k hk;exact (h.free k.toNat zZ).2 v hv
theorem aPJ {A:aC} (h:fP V nodes A sp) (hN:IZ V A N):(eF A N).Pairwise (·<·)∧∀v∈eF A N,v∈V:=by
 unfold eF;split
 ·exact⟨aNR (oI _),fun v hv=>aAL h hN v (cL.1 (aOG.1 hv).1)⟩
 ·exact⟨oI _,fun v hv=>aAL h hN v (cL.1 hv)⟩
theorem NV {m:Nat} (f:Int→List Int):∀l:List Int,(∀k∈l,(f k).length≤m)→(l.flatMap f).length≤l.length*m
 | [],_=>zW
 | x::l,h=>by
  rw [eZ2,aZ1,gZ1,Nat.add_mul,Nat.one_mul];have h1:=h x (kZ1 ..);have h2:=NV f l fun k hk=>h k (lZ1 _ hk);omega
theorem ML:∀{l:List Int},l.Pairwise (·<·)→(∀k∈l,0≤k∧k<(m:Int))→l.length≤m:=by
 intro l hl hk;have:=PY (V:=(List.range m).map Int.ofNat) (KF hl) fun x hx=>iZ2.2 ⟨x.toNat,List.mem_range.2 (by have:=hk x hx;omega),by have:=hk x hx;simp;omega⟩;simpa using this
theorem SV {A:aC} (h:fP V nodes A sp) (hn:nodes≤2000) (hV:V.length≤262144) (hp:(dR N.t.parts).length≤16777216) (hN:IZ V A N):(dB A N).length≤1000000000:=by
 unfold dB;rw [aZ1,hZ1];have h1:=NV (m:=262144) (fun k=>A.free.getD k.toNat []) N.kids fun k hk=>by
  have hr:=hN.kids k hk;have h2:=h.free k.toNat zZ;exact bZ1 (PY (KF h2.1) h2.2) hV
 have h2:=ML hN.pair hN.kids;have h3:=h.used;have h4:=h.spn;have h5:N.kids.length≤2002:=zZ;have h6:N.kids.length*262144≤2002*262144:=Nat.mul_le_mul_right _ h5;omega
theorem fP.add {V:List Int} {nodes sp:Int} {A:aC} {N:aS} (h:fP V nodes A sp) (hN:IZ V A N) (hk:fK A.nodes (bB N)=none) (hs:sp+1≤nodes):fP V nodes (fQ A N) (sp+1):=by
 have hlf:=h.lf;have hlp:=h.lp;refine ⟨h.once.add hN.form hk,by simp [fQ,hlf],by simp [fQ,hlp],by have:=h.used;simp [fQ];omega,by have:=h.cnt;simp [fQ];omega,hs,fun i hi=>?_,fun i hi=>?_⟩
 ·have hi':i<A.nodes.length+1:=by simpa [fQ] using hi
  show ((A.free++[eF A N]).getD i []).Pairwise (·<·)∧∀v∈(A.free++[eF A N]).getD i [],v∈V
  rcases Nat.lt_or_ge i A.nodes.length with h1|h1
  ·rw [eB _ _ _ zZ];exact h.free i h1
  ·obtain rfl:i=A.free.length:=zZ;rw [dM];exact aPJ h hN
 ·have hi':i<A.nodes.length+1:=by simpa [fQ] using hi
  show ((A.nodes++[N]).getD i aP).kids.Pairwise (·<·)∧∀k∈((A.nodes++[N]).getD i aP).kids,0≤k∧k<(i:Int)
  rcases Nat.lt_or_ge i A.nodes.length with h1|h1
  ·rw [eB _ _ _ h1];exact h.kids i h1
  ·obtain rfl:i=A.nodes.length:=zZ;rw [dM];exact⟨hN.pair,hN.kids⟩
end
section
variable {xs:List (Bool × List Nat)} {V ks:List Int} {nodes limbs sp ov:Int} {N:aS}
theorem aHY {s o:Int} (h:(dN nodes limbs s o xs).2.2=0):o=0∧s≠nodes∧great limbs xs=false∧dN nodes limbs s o xs=(s+1,0,0):=by
 unfold dN lD at h⊢;by_cases ho:o=0
 ·rw [if_pos ho] at h⊢;by_cases hg:great limbs xs=true
  ·rw [if_pos hg] at h;simp at h
  ·rw [if_neg hg] at h⊢;by_cases hs:s=nodes
   ·rw [if_pos hs] at h;simp at h
   ·rw [if_neg hs];exact⟨ho,hs,by simpa using hg,rfl⟩
 ·rw [if_neg ho] at h;exact absurd h ho
theorem aHT {s o:Int} (h:(dN nodes limbs s o xs).2.2≠0):(dN nodes limbs s o xs).1=s∧(dN nodes limbs s o xs).2.1=(dN nodes limbs s o xs).2.2:=by
 unfold dN lD at h⊢;by_cases ho:o=0
 ·rw [if_pos ho] at h⊢;by_cases hg:great limbs xs=true
  ·rw [if_pos hg];exact⟨rfl,rfl⟩
  ·rw [if_neg hg] at h⊢;by_cases hs:s=nodes
   ·rw [if_pos hs];exact⟨rfl,rfl⟩
   ·rw [if_neg hs] at h;simp at h
 ·rw [if_neg ho];exact⟨rfl,rfl⟩
def Sound (V:List Int) (nodes:Int) (A:aC) (sp ov:Int) (r:(Int × Int) × aC × (Int × Int)):Prop:=
 fP V nodes r.2.1 r.2.2.1∧sp≤r.2.2.1∧A.nodes.length≤r.2.1.nodes.length∧(r.1.2=0→0≤r.1.1∧r.1.1<(r.2.1.nodes.length:Int))∧(r.2.1.nodes.length:Int)-A.nodes.length=r.2.2.1-sp∧(ov≠0→r.2.2.2=ov∧r.2.1=A)
theorem Sound.same {A:aC} {i e:Int} (h:fP V nodes A sp) (hi:e=0→0≤i∧i<(A.nodes.length:Int)):Sound V nodes A sp ov ((i,e),A,(sp,ov)):=⟨h,Int.le_refl _,bZ2 _,hi,zW,fun _=>⟨rfl,rfl⟩⟩
theorem TH {A:aC} (h:fP V nodes A sp) (hN:IZ V A N):Sound V nodes A sp ov (cU A nodes limbs sp ov N xs):=by
 unfold cU;cases hk:fK A.nodes (bB N) with
 | some i=>
  have:=VI hk;exact Sound.same h fun _=>⟨zZ,zZ⟩
 | none=>
  simp only [];by_cases he:(dN nodes limbs sp ov xs).2.2=0
  ·rw [if_pos he];obtain ⟨q1,q2,q3,q4⟩:=aHY he;rw [q4];have hsp:=h.spn;exact⟨h.add hN hk zZ,yT,by simp [fQ],fun _=>⟨yT,by simp [fQ];omega⟩,by simp [fQ];omega,fun hov=>absurd q1 hov⟩
  ·rw [if_neg he];obtain ⟨q1,q2⟩:=aHT he;refine ⟨by simp only;rw [q1];exact h,by simp only;rw [q1];exact Int.le_refl _,bZ2 _,fun e=>absurd e he,by simp only;rw [q1];omega,fun hov=>⟨?_,rfl⟩⟩;simp only;unfold dN;rw [if_neg hov]
theorem TD {kind:Int} {A:aC} (h:fP V nodes A sp):Sound V nodes A sp ov (dW A nodes limbs sp ov kind ks):=by
 have h2:=h.once.two;by_cases hk:kind≠5∧kind≠6
 ·rw [VG hk];exact Sound.same h fun e=>absurd e zY
 have hk2:kind=5∨kind=6:=zZ;cases ha:ks.all (fE A)
 ·rw [PI hk2 ha];exact Sound.same h fun e=>absurd e zY
 have hr:∀x∈cM ks,0≤x∧x<(A.nodes.length:Int):=fun x hx=>by
  have:=kZ2.1 ha x (cL.1 hx);simpa [fE] using this
 rcases Nat.lt_trichotomy (cM ks).length 1 with hl|hl|hl
 ·rw [EJ hk2 ha zZ];refine Sound.same h fun _=>?_;split<;>exact⟨zZ,zZ⟩
 ·rw [EM hk2 ha hl];exact Sound.same h fun _=>hr _ (cK 0 zZ)
 ·rw [EH hk2 ha hl];refine TH h ⟨⟨zV,zV,fun h4=>by simp at h4;omega,fun _=>⟨rfl,rfl⟩,fun _=>rfl⟩,fun v hv=>by simp [bK,dR] at hv,oI _,hr⟩
theorem TJ {kind v k:Int} {A:aC} (h:fP V nodes A sp):Sound V nodes A sp ov (dY A nodes limbs sp ov kind v k):=by
 by_cases hk:kind≠7∧kind≠8
 ·rw [OP hk];exact Sound.same h fun e=>absurd e zY
 have hk2:kind=7∨kind=8:=zZ;cases ha:fE A k
 ·rw [KS hk2 ha];exact Sound.same h fun e=>absurd e zY
 rw [IJ hk2 ha];have hr:0≤k∧k<(A.nodes.length:Int):=by simpa [fE] using ha
 refine TH h ⟨⟨zV,zV,fun h4=>by simp at h4;omega,fun _=>⟨rfl,rfl⟩,fun h5=>by simp at h5;omega⟩,fun x hx=>by simp [bK,dR] at hx,List.pairwise_singleton _ _,fun x hx=>by rw [dZ1.1 hx];exact hr⟩
end
section
variable {V:List Int} {L n L':Nat} {T:aV} {d z:Int} {l:aM} {p:Int × Int} {B:aY}
structure cB (L n:Nat) (V:List Int) (T:aV):Prop where
 len:T.parts.length≤n
 parts:∀p∈T.parts,eP p.2.natAbs≤L
 k:eP T.k.natAbs≤L
 vars:∀p∈T.parts,p.1∈V
theorem cB.mono (h:cB L n V T) (hL:L≤L'):cB L' n V T:=⟨h.len,fun p hp=>bZ1 (h.parts p hp) hL,bZ1 h.k hL,h.vars⟩
theorem GK:cB L n V bK:=⟨aZ2 _,fun p hp=>absurd hp hZ2,by simp [bK,nY],fun p hp=>absurd hp hZ2⟩
theorem YO:∀vs:List Int,(vs.foldr ins []).length≤vs.length
 | []=>zW
 | v::vs=>by rw [List.foldr_cons];exact bZ1 (SB _ _) (by simpa using YO vs)
theorem RP (l:aM):(dR l).length≤l.length:=by
 unfold dR;exact bZ1 (List.length_filterMap_le _ _) (bZ1 (YO _) zW)
theorem OZ (h:p∈dR l):p.2=bD l p.1∧∃q∈l,q.1=p.1:=by
 obtain ⟨v,hv,e⟩:=List.mem_filterMap.1 h;split at e
 ·cases e
 ·rename_i h0;cases e;exact⟨rfl,CO h0⟩
theorem aEA (h:∀p∈l,eP p.2.natAbs≤L) (hl:l.length≤16777216) (v:Int):eP (bD l v).natAbs≤L+1:=by
 have h1:∀p∈l,p.2.natAbs≤Bs ^ L-1:=fun p hp=>by
  have:=cZ1 (nK p.2.natAbs) (Nat.pow_le_pow_right iI (h p hp));omega
 have h2:=VW l h1 v;refine dD ?_;have hp:0<Bs ^ L:=Nat.pow_pos iI
 calc (bD l v).natAbs≤l.length*(Bs ^ L-1):=h2
  _≤16777216*(Bs ^ L-1):=Nat.mul_le_mul_right _ hl
  _≤Bs*(Bs ^ L-1):=Nat.mul_le_mul_right _ zY
  _<Bs*Bs ^ L:=Nat.mul_lt_mul_of_pos_left zZ iI
  _=Bs ^ (L+1):=by rw [Nat.pow_succ,Nat.mul_comm]
theorem oH (h:cB L n V ⟨l,z⟩) (hn:n≤16777216):cB (L+1) n V (bC ⟨l,z⟩):=by
 refine ⟨bZ1 (RP l) h.len,fun p hp=>?_,bZ1 h.k zZ,fun p hp=>?_⟩
 ·rw [(OZ hp).1];exact aEA h.parts (bZ1 h.len hn) _
 ·obtain ⟨q,hq,e⟩:=(OZ hp).2;rw [←e];exact h.vars q hq
theorem aAC {c k:Int→Int} (h:cB L n V T) (hn:n≤16777216) (hc:∀p∈T.parts,eP (c p.2).natAbs≤L') (hk:eP (k T.k).natAbs≤L'):cB (L'+1) n V (jO T c k):=by
 refine oH ⟨by simp [fG,h.len],fun p hp=>?_,hk,fun p hp=>?_⟩ hn
 ·obtain ⟨q,hq,rfl⟩:=iZ2.1 hp;exact hc q hq
 ·obtain ⟨q,hq,rfl⟩:=iZ2.1 hp;exact h.vars q hq
theorem JK (x:Int) (g:Nat):eP (x.fdiv (g:Int)).natAbs≤eP x.natAbs:=by
 rcases Nat.eq_zero_or_pos g with h|h
 ·subst h;simp [nY]
 ·exact BZ x zZ
theorem aNJ (x:Int):eP (x+1).natAbs≤eP x.natAbs+2:=by
 have h1:=dK x 1;have h2:=BK;omega
theorem aTC (h:cB L n V T) (hn:n≤16777216):cB (L+5) n V (iG T).t:=by
 unfold iG;split
 ·exact GK
 ·show cB (L+4+1) n V (jO T (fun c=>c.fdiv (fH (cH T):Int)) fun k=>(k-1).fdiv (fH (cH T):Int)+1)
  refine aAC (L':=L+4) h hn (fun p hp=>by
   show eP (p.2.fdiv (fH (cH T):Int)).natAbs≤L+4
   exact bZ1 (JK _ _) (bZ1 (h.parts p hp) zZ)) ?_
  show eP ((T.k-1).fdiv (fH (cH T):Int)+1).natAbs≤L+4
  have h1:=aNJ ((T.k-1).fdiv (fH (cH T):Int));have h2:=JK (T.k-1) (fH (cH T));have h3:=SI T.k;have h4:=h.k;omega
theorem aBN (hl:T.parts.length≤n) (hv:∀p∈T.parts,p.1∈V) (hn:n≤16777216) (h0:0<d) (hd:eP d.natAbs≤L):cB (L+1) n V (dU d T):=by
 unfold dU jO;refine oH ⟨by simp [fG,hl],fun p hp=>?_,bZ1 (AZ _ h0) hd,fun p hp=>?_⟩ hn
 ·obtain ⟨q,hq,rfl⟩:=iZ2.1 hp;exact bZ1 (AZ _ h0) hd
 ·obtain ⟨q,hq,rfl⟩:=iZ2.1 hp;exact hv q hq
theorem aAZ (hl:T.parts.length≤n) (hv:∀p∈T.parts,p.1∈V) (hn:n≤16777216) (h0:0<d) (hd:eP d.natAbs≤L):cB (L+2) n V (dE d T):=by
 have h:=aBN hl hv hn h0 hd;exact aAC h hn (fun p hp=>bZ1 (JK _ _) (h.parts p hp)) (bZ1 (JK _ _) h.k)
theorem aCK (hd:eP d.natAbs≤L):eP (eC d T).natAbs≤L:=bZ1 (JK _ _) hd
theorem aOW (hl:T.parts.length≤n) (hv:∀p∈T.parts,p.1∈V) (hn:n≤16777216) (h0:0<d) (hd:eP d.natAbs≤L):cB (L+1) n V (iJ d T):=by
 have h:=aAZ hl hv hn h0 hd;have hx:∀p∈mulL (-1) (dE d T).parts++mulL 0 bK.parts,p.1∈V:=fun p hp=>by
  rcases jZ1.1 hp with hp|hp
  ·obtain ⟨q,hq,rfl⟩:=iZ2.1 hp;exact h.vars q hq
  ·simp [mulL,bK] at hp
 refine aBN ?_ (fun p hp=>?_) hn (GV h0) (aCK hd)
 ·refine bZ1 (RP _) ?_;simp [mulL,bK,h.len]
 ·obtain ⟨q,hq,e⟩:=(OZ hp).2;rw [←e];exact hx q hq
structure FH (L n:Nat) (V:List Int) (B:aY):Prop where
 t:cB L n V B.t
 d:eP B.d.natAbs≤L
 kind:0≤B.kind∧B.kind≤4
 less:B.kind=2→B.d=0
theorem NG (b:Bool):FH L n V (eA b):=⟨GK,by simp [eA,nY],by unfold eA;split<;>decide,fun h=>by unfold eA at h⊢;rfl⟩
theorem aNN (no:Bool) (h:cB L n V T) (hn:n≤16777216) (h0:0<d) (hd:eP d.natAbs≤L):FH (L+2) n V (cC d T no):=by
 unfold cC;split
 ·exact NG _
 ·split
  ·exact NG _
  ·split
   ·exact NG _
   ·refine ⟨?_,bZ1 (aCK hd) zZ,by simp only;split<;>decide,fun h2=>by simp only at h2;split at h2<;>simp at h2⟩;simp only;split
    ·exact (aOW h.len h.vars hn h0 hd).mono zZ
    ·exact aAZ h.len h.vars hn h0 hd
theorem nJ {k:Int} (h:cB L n V ⟨l,z⟩) (hd:eP d.natAbs≤L) (hn:n≤16777216):FH (L+6) n V (bJ ⟨k,d,⟨l,z⟩⟩).2:=by
 have hz:FH (L+6) n V ⟨0,0,bK⟩:=⟨GK,wB,zY,fun h=>by simp at h⟩;by_cases h01:k=0∨k=1
 ·rw [eH h01];exact⟨GK,wB,yT,fun h=>rfl⟩
 by_cases h2:k=2
 ·rw [CG h2];have h1:=aTC (oH h hn) hn;refine ⟨h1.mono zZ,?_,?_,fun _=>?_⟩
  ·unfold iG;split
   ·simp [eA,nY]
   ·exact wB
  ·unfold iG;split
   ·exact (NG (L:=0) (n:=0) (V:=[]) _).kind
   ·exact⟨show (0:Int)≤2 by decide,show (2:Int)≤4 by decide⟩
  ·unfold iG;split<;>rfl
 by_cases h34:k=3∨k=4
 ·rw [oJ h34,jN];split
  ·exact hz
  ·rename_i hd0;have h1:=aNN (d:=(d.natAbs:Int)) (decide (k=4)) (oH h hn) hn (by have:=Int.natAbs_pos.2 hd0;simp only at this;omega) (bZ1 (show eP ((d.natAbs:Int)).natAbs≤L by simpa using hd) zZ);exact⟨h1.t.mono zZ,bZ1 h1.d zZ,h1.kind,h1.less⟩
 ·rw [DK (fun e=>h01 (.inl e)) (fun e=>h01 (.inr e)) h2 (fun e=>h34 (.inl e)) (fun e=>h34 (.inr e))];exact hz
theorem aII {L:Nat}:∀l:aM,(∀p∈l,eP p.2.natAbs≤L)→jE l≤l.length*(24+32*L)
 | [],_=>by simp [jE]
 | p::l,h=>by
  have h1:=aII l fun q hq=>h q (lZ1 _ hq);have h2:=h p (kZ1 ..);simp only [jE,gZ1,Nat.add_mul,Nat.one_mul];have h3:32*eP p.2.natAbs≤32*L:=Nat.mul_le_mul_left _ h2;omega
theorem JJ {A:aC} (h:FH L n V B) (hk:2≤B.kind):IZ V A (gH B):=by
 refine ⟨⟨hk,by simp only [gH];have:=h.kind.2;omega,fun _=>⟨rfl,rfl⟩,fun h5=>pM,fun h5=>pM⟩,fun v hv=>?_,List.Pairwise.nil,fun k hk=>absurd hk hZ2⟩;obtain ⟨p,hp,rfl⟩:=iZ2.1 hv;obtain ⟨q,hq,e⟩:=(OZ hp).2;rw [←e];exact h.t.vars q hq
theorem TN {nodes sp:Int} {A:aC} (hI:fP V nodes A sp) (hno:nodes≤2000) (hV:V.length≤262144) (hV2:∀v∈V,I64 v) (h:FH L n V B) (hk:2≤B.kind) (hL:L≤2448600) (hn:n≤262144):OkB A B:=by
 have hL2:L≤536870912:=zZ;have hb:=aII B.t.parts h.t.parts;have hb2:B.t.parts.length*(24+32*L)≤262144*(24+32*2448600):=Nat.mul_le_mul (bZ1 h.t.len hn) zZ;have hd:=h.d;have hkk:=h.t.k;refine ⟨⟨⟨hk,by simp only [gH];have:=h.kind.2;omega⟩,⟨pX,pX⟩,fun x hx=>absurd hx hZ2,by simp [gH],pX⟩,?_,⟨fun p hp=>bZ1 (h.t.parts p hp) hL2,bZ1 h.t.k hL2,bZ1 h.t.len zZ⟩,bZ1 h.d hL2,SV hI hno hV (bZ1 (RP _) (bZ1 h.t.len zZ)) (JJ h hk)⟩;have hk4:B.kind=2∨B.kind=3∨B.kind=4:=by have:=h.kind.2;omega
 have h1:=bQ (i:=B.kind) zZ zZ;have h2:=dL B.d;have h3:=dL B.t.k;have h4:=RO B.t.parts fun p hp=>hV2 _ (h.t.vars p hp);have e:bB (gH B)=bF B.kind++[32]++(eD B.d++eD B.t.k++cD B.t.parts):=by
  unfold bB gH;exact congrArg _ (if_pos hk4)
 rw [e];simp only [aZ1,gZ1,gZ2];unfold maxLen;omega
end
end Go.Proofs.Q
