/- What is joined once stays so: plain laws of simp's joined and Again. -/
import Derived.Test.YtlldghknenbccaaGreatDoorPSimpA
set_option linter.unusedSimpArgs false
set_option linter.unusedVariables false
namespace Go.Proofs.Q
open Go.RowKit
/-! More nodes: the same leaves. -/
theorem flatN_ext {L t:List aS} {kind:Int} (hB:Below L):∀(f:Nat) (x:Int),0≤x→x<(L.length:Int)→flatN (L++t) kind f x=flatN L kind f x
 | 0,_,_,_=>rfl
 | f+1,x,h0,h1=>by
  have e:(L++t).getD x.toNat aV=L.getD x.toNat aV:=getD_append_lt L t aV (by omega);unfold flatN;rw [e];split
  ·exact flatMap_same fun k hk=>by have:=hB.kid h0 h1 hk;exact flatN_ext hB f k this.1 (by omega)
  ·rfl
theorem below_append {L t:List aS} (hB:Below (L++t)):Below L:=fun i hi k hk=>by
 have e:(L++t).getD i aV=L.getD i aV:=getD_append_lt L t aV hi;exact hB i (by rw [aZ1];omega) k (by rw [e];exact hk)
theorem flatX_ext {A F:aF} {kind x:Int} (hB:Below F.nodes) (he:Ext A F) (h0:0≤x) (h1:x<(A.nodes.length:Int)):flatX F.nodes kind x=flatX A.nodes kind x:=by
 obtain ⟨t,he⟩:=he;rw [he] at hB⊢;have hBL:=below_append hB;show flatN (A.nodes++t) kind (A.nodes++t).length x=flatN A.nodes kind A.nodes.length x
 rw [flatN_ext hBL _ x h0 h1];exact flatN_fuel hBL _ _ x h0 h1 (by rw [aZ1];omega) (by omega)
section
variable {V:List Int} {nodes limbs y:Int}
def FixQ (V:List Int) (nodes limbs:Int) (A:aF) (y:Int):Prop:=∀F sp ov,Ext A F→bW V nodes limbs F sp→againT nodes limbs F sp ov y (ndA A y).kids=((y,0),F,(sp,ov))
def fixN (V:List Int) (nodes limbs:Int) (A:aF):Nat→Int→Prop
 | 0,_=>True
 | f+1,y=>FixQ V nodes limbs A y∧∀k∈(ndA A y).kids,(0≤k∧k<y)∧fixN V nodes limbs A f k
def FixR (V:List Int) (nodes limbs:Int) (A:aF) (y:Int):Prop:=(0≤y∧y<(A.nodes.length:Int))∧∀f,fixN V nodes limbs A f y
theorem FixR.q {A:aF} (h:FixR V nodes limbs A y):FixQ V nodes limbs A y:=(h.2 1).1
theorem FixR.intro {A:aF} (h1:0≤y∧y<(A.nodes.length:Int)) (hq:FixQ V nodes limbs A y) (hk:∀k∈(ndA A y).kids,k<y∧FixR V nodes limbs A k):FixR V nodes limbs A y:=⟨h1,fun f=>by
 cases f with
 | zero=>trivial
 | succ f=>exact⟨hq,fun k hkm=>⟨⟨(hk k hkm).2.1.1,(hk k hkm).1⟩,(hk k hkm).2.2 f⟩⟩⟩
theorem fixN_ext {V:List Int} {nodes limbs:Int} {A A':aF} (he:Ext A A'):∀(f:Nat) (y:Int),0≤y→y<(A.nodes.length:Int)→fixN V nodes limbs A f y→fixN V nodes limbs A' f y
 | 0,_,_,_,_=>trivial
 | f+1,y,h0,h1,h=>by
  have e:=he.nd h0 h1;refine ⟨fun F sp ov hF hI=>by rw [e];exact h.1 F sp ov (he.trans hF) hI,fun k hk=>?_⟩;rw [e] at hk;have hb:=(h.2 k hk).1;exact⟨hb,fixN_ext he f k hb.1 (by omega) (h.2 k hk).2⟩
theorem FixR.mono {A A':aF} (h:FixR V nodes limbs A y) (he:Ext A A'):FixR V nodes limbs A' y:=⟨⟨h.1.1,by have:=he.len;have:=h.1.2;omega⟩,fun f=>fixN_ext he f y h.1.1 h.1.2 (h.2 f)⟩
end
section
variable {xs:List (Bool × List Nat)} {nodes limbs sp ov:Int} {ids ks:List Int} {N:aS} {m:dG} {i j:Nat} {X:bB}
/-! Each the sum of the five before it. -/
def pl:Nat→List Nat
 | 0=>[]
 | n+1=>(if n<2 then 1 else ((pl n).take 5).sum)::pl n
def topP (n i:Nat):Nat:=((pl i).take n).sum
def bigP (i:Nat):Nat:=if i<2 then 1 else topP 5 i
theorem topP_succ (n i:Nat):topP (n+1) (i+1)=bigP i+topP n i:=by simp [topP,pl,bigP]
theorem topP_zero (i:Nat):topP 0 i=0:=by simp [topP]
theorem bigP_pos:∀i,1≤bigP i
 | 0=>by decide
 | 1=>by decide
 | i+2=>by
  have h:=bigP_pos (i+1);have e:bigP (i+2)=bigP (i+1)+topP 4 (i+1):=by rw [←topP_succ];unfold bigP;rw [if_neg (by omega)]
  omega
theorem bigP_succ (i:Nat):bigP i≤bigP (i+1):=by
 cases i with
 | zero=>decide
 | succ i=>
  have e:bigP (i+2)=bigP (i+1)+topP 4 (i+1):=by rw [←topP_succ];unfold bigP;rw [if_neg (by omega)]
  show bigP (i+1)≤bigP (i+2)
  omega
theorem bigP_mono (h:i≤j):bigP i≤bigP j:=by
 induction j with
 | zero=>rw [show i=0 by omega];exact bZ2 _
 | succ j ih=>
  rcases Nat.lt_or_ge j i with h1|h1
  ·rw [show i=j+1 by omega];exact bZ2 _
  ·exact bZ1 (ih h1) (bigP_succ j)
theorem topP_step:∀n i,topP n i≤topP n (i+1)
 | 0,i=>by rw [topP_zero];exact aZ2 _
 | n+1,0=>by simp [topP,pl]
 | n+1,i+1=>by
  rw [topP_succ,topP_succ];have h1:=bigP_succ i;have h2:=topP_step n i;omega
theorem topP_mono {n:Nat} (h:i≤j):topP n i≤topP n j:=by
 induction j with
 | zero=>rw [show i=0 by omega];exact bZ2 _
 | succ j ih=>
  rcases Nat.lt_or_ge j i with h1|h1
  ·rw [show i=j+1 by omega];exact bZ2 _
  ·exact bZ1 (ih h1) (topP_step n j)
theorem sum_top:∀(l:List Nat) (n i:Nat),l.Pairwise (· > ·)→(∀x∈l,x<i)→l.length≤n→(l.map bigP).sum≤topP n i
 | [],n,i,_,_,_=>by simp
 | x::l,n,i,hp,hi,hn=>by
  obtain ⟨h1,h2⟩:=List.pairwise_cons.1 hp;obtain ⟨m,rfl⟩:∃m,n=m+1:=⟨n-1,by rw [gZ1] at hn;omega⟩;have hx:=hi x (kZ1 ..);obtain ⟨j,rfl⟩:∃j,i=j+1:=⟨i-1,by omega⟩;have ih:=sum_top l m x h2 (fun y hy=>h1 y hy) (by rw [gZ1] at hn;omega);rw [dZ2,List.sum_cons,topP_succ];have h3:=bigP_mono (show x≤j by omega);have h4:=topP_mono (n:=m) (show x≤j by omega);omega
theorem sum_le_map {α:Type} (f g:α→Nat):∀l:List α,(∀x∈l,f x≤g x)→(l.map f).sum≤(l.map g).sum
 | [],_=>bZ2 _
 | x::l,h=>by
  rw [dZ2,dZ2,List.sum_cons,List.sum_cons];have h1:=h x (kZ1 ..);have h2:=sum_le_map f g l fun y hy=>h y (lZ1 _ hy);omega
theorem length_flatMap_sum {α β:Type} (f:α→List β):∀l:List α,(l.flatMap f).length=(l.map fun x=>(f x).length).sum
 | []=>rfl
 | x::l=>by rw [eZ2,aZ1,dZ2,List.sum_cons,length_flatMap_sum f l]
def Five (N:aS):Prop:=N.kids.length≤5
theorem flatX_big {V:List Int} {nodes limbs sp kind:Int} {A:aF} (h:bW V nodes limbs A sp) (hF:AllN Five A):∀(n:Nat) (x:Int),x.toNat<n→0≤x→x<(A.nodes.length:Int)→(flatX A.nodes kind x).length≤bigP x.toNat
 | 0,_,h,_,_=>by omega
 | n+1,x,hn,h0,h1=>by
  by_cases hk:(A.nodes.getD x.toNat aV).kind=kind
  ·rw [flatX_node h.below h0 h1 hk];rcases Nat.lt_or_ge x.toNat 2 with h2|h2
   ·rw [h.low h2];exact aZ2 _
   ·have h5:(A.nodes.getD x.toNat aV).kids.length≤5:=hF x.toNat h2 (by omega);obtain ⟨q1,q2⟩:=h.inv.kids x.toNat (by omega);obtain ⟨ks,hks⟩:∃ks,ks=(A.nodes.getD x.toNat aV).kids:=⟨_,rfl⟩;rw [←hks] at h5 q1 q2⊢;rw [length_flatMap_sum];have e1:=sum_le_map (fun k:Int=>(flatX A.nodes kind k).length) (fun k=>bigP k.toNat) ks fun k hkm=>by
     have:=q2 k hkm;exact flatX_big h hF n k (by omega) this.1 (by omega)
    have e2:=sum_top (ks.map Int.toNat).reverse 5 x.toNat (by
     rw [List.pairwise_reverse,List.pairwise_map];exact q1.imp_of_mem fun {a b} ha hb hab=>by
      have h1:=q2 a ha;have h2:=q2 b hb;show b.toNat > a.toNat
      omega) (fun y hy=>by
     obtain ⟨k,hk,rfl⟩:=iZ2.1 (List.mem_reverse.1 hy);have:=q2 k hk;omega) (by simpa using h5)
    rw [List.map_reverse,List.sum_reverse,List.map_map] at e2;have e3:bigP x.toNat=topP 5 x.toNat:=by unfold bigP;rw [if_neg (by omega)]
    rw [e3];exact bZ1 e1 e2
  ·rw [flatX_leaf hk];exact bigP_pos _
theorem bigP_41:bigP 41=585029621920:=by decide +kernel
/-! A recipe's nodes have five kids at most; each make makes one at most. -/
theorem neatF_length (l:List Int):(dE l).length≤l.length:=nodup_le (pair_nodup (neatF_pair l)) fun _ hx=>dI.1 hx
theorem madeM_len {A:aF}:(dF A nodes limbs sp ov N xs).2.1.nodes.length≤A.nodes.length+1:=by
 unfold dF;cases keyF A.nodes (bA N) with
 | some i=>exact Nat.le_succ _
 | none=>
  simp only [];by_cases he:(dK nodes limbs sp ov xs).2.2=0
  ·rw [if_pos he];simp [addA]
  ·rw [if_neg he];exact Nat.le_succ _
def FiveL (A:aF) (r:(Int × Int) × aF × (Int × Int)):Prop:=AllN Five r.2.1∧r.2.1.nodes.length≤A.nodes.length+1
theorem FiveL.same {A:aF} {i e:Int} (h:AllN Five A):FiveL A ((i,e),A,(sp,ov)):=⟨h,Nat.le_succ _⟩
theorem madeM_five {A:aF} (h:AllN Five A) (hN:Five N):FiveL A (dF A nodes limbs sp ov N xs):=⟨madeM_all h fun _=>hN,madeM_len⟩
theorem joinM_five {A:aF} {kind:Int} (h:AllN Five A) (hk:ks.length≤5):FiveL A (dM A nodes limbs sp ov kind ks):=by
 unfold dM;split
 ·exact .same h
 split
 ·exact .same h
 split
 ·exact .same h
 split
 ·exact madeM_five h (bZ1 (neatF_length ks) hk)
 ·exact .same h
theorem bindM_five {A:aF} {kind v k:Int} (h:AllN Five A):FiveL A (dR A nodes limbs sp ov kind v k):=by
 unfold dR;split
 ·exact .same h
 split
 ·exact .same h
 ·exact madeM_five h (show ([k]:List Int).length≤5 by simp)
theorem atomM_five {A:aF} (h:AllN Five A):FiveL A (cZ A nodes limbs sp ov X):=by
 unfold cZ atomR;split
 ·exact .same h
 split
 ·exact .same h
 ·exact madeM_five h (aZ2 _)
theorem ofM_five:(ofM m ids).length≤5:=by
 unfold ofM;split
 ·simp
 ·unfold ofUp;rw [hZ1,iZ1];omega
theorem stepR_five {A:aF} (h:AllN Five A):FiveL A (stepR A nodes limbs sp ov ids m):=by
 unfold stepR;split
 ·exact atomM_five h
 split
 ·exact joinM_five h ofM_five
 split
 ·exact joinM_five h ofM_five
 split
 ·exact bindM_five h
 ·exact bindM_five h
theorem buildM_five {nodes limbs:Int}:∀{l:List dG} {s:St},AllN Five s.A→AllN Five (buildM nodes limbs s l).A∧(buildM nodes limbs s l).A.nodes.length≤s.A.nodes.length+l.length
 | [],s,h=>⟨h,bZ2 _⟩
 | m::l,s,h=>by
  have h1:FiveL s.A (stepR s.A nodes limbs s.sp s.ov s.ids m):=stepR_five h;obtain ⟨q1,q2⟩:=buildM_five (nodes:=nodes) (limbs:=limbs) (l:=l) (s:=stepB nodes limbs s m) h1.1;have e:(stepB nodes limbs s m).A=(stepR s.A nodes limbs s.sp s.ov s.ids m).2.1:=rfl;rw [e] at q2;have h2:=h1.2;refine ⟨q1,?_⟩;show (buildM nodes limbs (stepB nodes limbs s m) l).A.nodes.length≤_
  rw [gZ1];omega
end
end Go.Proofs.Q
