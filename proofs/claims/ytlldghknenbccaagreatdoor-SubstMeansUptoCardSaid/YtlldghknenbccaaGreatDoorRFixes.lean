/- What is joined once stays so: plain laws of simp's joined and Again. -/
import Derived.Test.YtlldghknenbccaaGreatDoorRSimpA
set_option linter.unusedSimpArgs false
set_option linter.unusedVariables false
namespace Go.Proofs.Q
open Go.RowKit
section
variable {kind x k:Int} {ids l:List Int} {j:Nat}
/-! More nodes: the same leaves. -/
theorem aEX {L t:List aS} {kind:Int} (hB:Below L):∀(f:Nat) (x:Int),0≤x→x<(L.length:Int)→gQ (L++t) kind f x=gQ L kind f x
 | 0,_,_,_=>rfl
 | f+1,x,h0,h1=>by
  have e:(L++t).getD x.toNat aP=L.getD x.toNat aP:=FW L t aP zZ;unfold gQ;rw [e];split
  ·exact MS fun k hk=>by have:=hB.kid h0 h1 hk;exact aEX hB f k this.1 zZ
  ·rfl
theorem aNM {L t:List aS} (hB:Below (L++t)):Below L:=fun i hi k hk=>by
 have e:(L++t).getD i aP=L.getD i aP:=FW L t aP hi;exact hB i (by rw [aZ1];omega) k (by rw [e];exact hk)
theorem aFN {A F:aC} (hB:Below F.nodes) (he:Ext A F) (h0:0≤x) (h1:x<(A.nodes.length:Int)):kL F.nodes kind x=kL A.nodes kind x:=by
 obtain ⟨t,he⟩:=he;rw [he] at hB⊢;have hBL:=aNM hB;show gQ (A.nodes++t) kind (A.nodes++t).length x=gQ A.nodes kind A.nodes.length x
 rw [aEX hBL _ x h0 h1];exact UL hBL _ _ x h0 h1 (by rw [aZ1];omega) zZ
theorem aOK {A:aC} (hB:Below A.nodes) (h:∀x∈ids,0≤x∧x<(A.nodes.length:Int)) (hx:x∈jV A kind ids):0≤x∧x<(A.nodes.length:Int):=by
 obtain ⟨y,hy,hxy⟩:=fZ3.1 (cL.1 hx);have h1:=h y hy;have h2:=KJ hB h1.1 h1.2 hxy;omega
structure bBR (A:aC) (kind:Int) (K:List Int):Prop where
 sorted:K.Pairwise (·<·)
 range:∀k∈K,0≤k∧k<(A.nodes.length:Int)
 leaf:∀k∈K,(ndA A k).kind≠kind
 bDM:¬gP kind∈K
 bDN:¬EW kind∈K
 weak:∀i∈K,∀k∈K,nS kind (ndA A i) (ndA A k)=false
 clash:∀a∈K,∀b∈K,b<a→AU kind (ndA A a) (ndA A b)=false
 goes:∀i∈K,(ndA A i).kind=DY kind→∀k∈(ndA A i).kids,¬k∈K
theorem aUA (h:l.Pairwise (·<·)) (hj:j<l.length) (hk:k∈l.take j):k<l.getD j 0:=by
 obtain ⟨i,hi,rfl⟩:=List.mem_take_iff_getElem.1 hk;have:=List.pairwise_iff_getElem.1 h i j zZ hj zZ;simpa [List.getD,hj] using this
theorem aSE {A:aC} (h:l.Pairwise (·<·)):jU A kind l l.length=false↔∀a∈l,∀b∈l,b<a→AU kind (ndA A a) (ndA A b)=false:=by
 unfold jU;rw [List.any_eq_false];constructor
 ·intro hc a ha b hb hab;obtain ⟨j,hj,rfl⟩:=jZ3 ha;obtain ⟨i,hi,rfl⟩:=jZ3 hb;have hij:i<j:=by
   rcases Nat.lt_trichotomy i j with h1|h1|h1
   ·exact h1
   ·subst h1;omega
   ·have:=List.pairwise_iff_getElem.1 h j i hj hi h1;omega
  have h1:=hc j (List.mem_range.2 hj);rw [Bool.not_eq_true,List.any_eq_false] at h1;have h2:=h1 l[i] (List.mem_take_iff_getElem.2 ⟨i,zZ,rfl⟩);simpa [List.getD,hj] using h2
 ·intro hc j hj;have hj':j<l.length:=List.mem_range.1 hj;rw [Bool.not_eq_true,List.any_eq_false];intro k hk;rw [hc _ (cK 0 hj') k (cZ3 hk) (aUA h hj' hk)];simp
theorem aPE {A:aC} (hB:Below A.nodes) (hid:∀x∈ids,0≤x∧x<(A.nodes.length:Int)) (hno:¬gP kind∈jV A kind ids) (hcl:jU A kind (gL A kind (fU A kind ids)) (gL A kind (fU A kind ids)).length=false):bBR A kind (AX A kind (gL A kind (fU A kind ids))):=by
 have hs0:(jV A kind ids).Pairwise (·<·):=oI _;have hs1:(fU A kind ids).Pairwise (·<·):=hs0.filter _;have hs2:(gL A kind (fU A kind ids)).Pairwise (·<·):=hs1.filter _;have m3:∀x∈AX A kind (gL A kind (fU A kind ids)),x∈gL A kind (fU A kind ids):=fun x hx=>(kZ3.1 hx).1;have m2:∀x∈gL A kind (fU A kind ids),x∈fU A kind ids:=fun x hx=>(kZ3.1 hx).1;have m1:∀x∈fU A kind ids,x∈jV A kind ids:=fun x hx=>(kZ3.1 hx).1;refine ⟨hs2.filter _,fun k hk=>aOK hB hid (m1 k (m2 k (m3 k hk))),fun k hk=>?_,fun h=>hno (m1 _ (m2 _ (m3 _ h))),fun h=>?_,fun i hi k hk=>?_,fun a ha b hb=>(aSE hs2).1 hcl a (m3 a ha) b (m3 b hb),fun i hi ho k hk hkm=>?_⟩
 ·obtain ⟨y,hy,hxy⟩:=KO hk;exact aAK hB (hid y hy).1 (hid y hy).2 hxy
 ·have:=(kZ3.1 (m2 _ (m3 _ h))).2;simp at this
 ·have h1:=(kZ3.1 (m3 i hi)).2;have h2:AO A kind (fU A kind ids) i=false:=oQ;have h3:=List.any_eq_false.1 h2 k (m2 k (m3 k hk));simpa using h3
 ·have h1:=(kZ3.1 hi).2;have h2:CW A kind (gL A kind (fU A kind ids)) i=false:=oQ;unfold CW at h2;rw [decide_eq_true ho,Bool.true_and] at h2;have h3:=List.any_eq_false.1 h2 k hk;exact h3 (decide_eq_true (m3 k hkm))
end
section
variable {V:List Int} {nodes limbs y:Int}
def YH (V:List Int) (nodes limbs:Int) (A:aC) (y:Int):Prop:=∀F sp ov,Ext A F→bE V nodes limbs F sp→bBO nodes limbs F sp ov y (ndA A y).kids=((y,0),F,(sp,ov))
def QZ (V:List Int) (nodes limbs:Int) (A:aC):Nat→Int→Prop
 | 0,_=>True
 | f+1,y=>YH V nodes limbs A y∧∀k∈(ndA A y).kids,(0≤k∧k<y)∧QZ V nodes limbs A f k
def ED (V:List Int) (nodes limbs:Int) (A:aC) (y:Int):Prop:=(0≤y∧y<(A.nodes.length:Int))∧∀f,QZ V nodes limbs A f y
theorem ED.q {A:aC} (h:ED V nodes limbs A y):YH V nodes limbs A y:=(h.2 1).1
theorem ED.intro {A:aC} (h1:0≤y∧y<(A.nodes.length:Int)) (hq:YH V nodes limbs A y) (hk:∀k∈(ndA A y).kids,k<y∧ED V nodes limbs A k):ED V nodes limbs A y:=⟨h1,fun f=>by
 cases f with
 | zero=>trivial
 | succ f=>exact⟨hq,fun k hkm=>⟨⟨(hk k hkm).2.1.1,(hk k hkm).1⟩,(hk k hkm).2.2 f⟩⟩⟩
theorem aIG {V:List Int} {nodes limbs:Int} {A A':aC} (he:Ext A A'):∀(f:Nat) (y:Int),0≤y→y<(A.nodes.length:Int)→QZ V nodes limbs A f y→QZ V nodes limbs A' f y
 | 0,_,_,_,_=>trivial
 | f+1,y,h0,h1,h=>by
  have e:=he.nd h0 h1;refine ⟨fun F sp ov hF hI=>by rw [e];exact h.1 F sp ov (he.trans hF) hI,fun k hk=>?_⟩;rw [e] at hk;have hb:=(h.2 k hk).1;exact⟨hb,aIG he f k hb.1 zZ (h.2 k hk).2⟩
theorem ED.mono {A A':aC} (h:ED V nodes limbs A y) (he:Ext A A'):ED V nodes limbs A' y:=⟨⟨h.1.1,by have:=he.len;have:=h.1.2;omega⟩,fun f=>aIG he f y h.1.1 h.1.2 (h.2 f)⟩
end
section
variable {xs:List (Bool × List Nat)} {nodes limbs sp ov:Int} {ids ks:List Int} {N:aS} {m:dO} {i j:Nat} {X:aY}
/-! Each the sum of the five before it. -/
def pl:Nat→List Nat
 | 0=>[]
 | n+1=>(if n<2 then 1 else ((pl n).take 5).sum)::pl n
def lJ (n i:Nat):Nat:=((pl i).take n).sum
def jS (i:Nat):Nat:=if i<2 then 1 else lJ 5 i
theorem OY (n i:Nat):lJ (n+1) (i+1)=jS i+lJ n i:=by simp [lJ,pl,jS]
theorem aUQ (i:Nat):lJ 0 i=0:=by simp [lJ]
theorem aGV:∀i,1≤jS i
 | 0=>zY
 | 1=>zY
 | i+2=>by
  have h:=aGV (i+1);have e:jS (i+2)=jS (i+1)+lJ 4 (i+1):=pL;omega
theorem aEG (i:Nat):jS i≤jS (i+1):=by
 cases i with
 | zero=>decide
 | succ i=>
  have e:jS (i+2)=jS (i+1)+lJ 4 (i+1):=pL;show jS (i+1)≤jS (i+2)
  omega
theorem aGJ (h:i≤j):jS i≤jS j:=by
 induction j with
 | zero=>rw [show i=0 by omega];exact bZ2 _
 | succ j ih=>
  rcases Nat.lt_or_ge j i with h1|h1
  ·rw [show i=j+1 by omega];exact bZ2 _
  ·exact bZ1 (ih h1) (aEG j)
theorem aEQ:∀n i,lJ n i≤lJ n (i+1)
 | 0,i=>by rw [aUQ];exact aZ2 _
 | n+1,0=>by simp [lJ,pl]
 | n+1,i+1=>by
  rw [OY,OY];have h1:=aEG i;have h2:=aEQ n i;omega
theorem aVG {n:Nat} (h:i≤j):lJ n i≤lJ n j:=by
 induction j with
 | zero=>rw [show i=0 by omega];exact bZ2 _
 | succ j ih=>
  rcases Nat.lt_or_ge j i with h1|h1
  ·rw [show i=j+1 by omega];exact bZ2 _
  ·exact bZ1 (ih h1) (aEQ n j)
theorem aIU:∀(l:List Nat) (n i:Nat),l.Pairwise (· > ·)→(∀x∈l,x<i)→l.length≤n→(l.map jS).sum≤lJ n i
 | [],n,i,_,_,_=>zW
 | x::l,n,i,hp,hi,hn=>by
  obtain ⟨h1,h2⟩:=List.pairwise_cons.1 hp;obtain ⟨m,rfl⟩:∃m,n=m+1:=⟨n-1,by rw [gZ1] at hn;omega⟩;have hx:=hi x (kZ1 ..);obtain ⟨j,rfl⟩:∃j,i=j+1:=⟨i-1,zZ⟩;have ih:=aIU l m x h2 (fun y hy=>h1 y hy) (by rw [gZ1] at hn;omega);rw [dZ2,dZ3,OY];have h3:=aGJ (show x≤j by omega);have h4:=aVG (n:=m) (show x≤j by omega);omega
theorem aBQ {α:Type} (f g:α→Nat):∀l:List α,(∀x∈l,f x≤g x)→(l.map f).sum≤(l.map g).sum
 | [],_=>bZ2 _
 | x::l,h=>by
  rw [dZ2,dZ2,dZ3,dZ3];have h1:=h x (kZ1 ..);have h2:=aBQ f g l fun y hy=>h y (lZ1 _ hy);omega
theorem YL {α β:Type} (f:α→List β):∀l:List α,(l.flatMap f).length=(l.map fun x=>(f x).length).sum
 | []=>rfl
 | x::l=>by rw [eZ2,aZ1,dZ2,dZ3,YL f l]
def Five (N:aS):Prop:=N.kids.length≤5
theorem aEH {V:List Int} {nodes limbs sp kind:Int} {A:aC} (h:bE V nodes limbs A sp) (hF:fM Five A):∀(n:Nat) (x:Int),x.toNat<n→0≤x→x<(A.nodes.length:Int)→(kL A.nodes kind x).length≤jS x.toNat
 | 0,_,h,_,_=>zZ
 | n+1,x,hn,h0,h1=>by
  by_cases hk:(A.nodes.getD x.toNat aP).kind=kind
  ·rw [UA h.below h0 h1 hk];rcases Nat.lt_or_ge x.toNat 2 with h2|h2
   ·rw [h.low h2];exact aZ2 _
   ·have h5:(A.nodes.getD x.toNat aP).kids.length≤5:=hF x.toNat h2 zZ;obtain ⟨q1,q2⟩:=h.inv.kids x.toNat zZ;obtain ⟨ks,hks⟩:∃ks,ks=(A.nodes.getD x.toNat aP).kids:=⟨_,rfl⟩;rw [←hks] at h5 q1 q2⊢;rw [YL];have e1:=aBQ (fun k:Int=>(kL A.nodes kind k).length) (fun k=>jS k.toNat) ks fun k hkm=>by
     have:=q2 k hkm;exact aEH h hF n k zZ this.1 zZ
    have e2:=aIU (ks.map Int.toNat).reverse 5 x.toNat (by
     rw [List.pairwise_reverse,List.pairwise_map];exact q1.imp_of_mem fun {a b} ha hb hab=>by
      have h1:=q2 a ha;have h2:=q2 b hb;show b.toNat > a.toNat
      omega) (fun y hy=>by
     obtain ⟨k,hk,rfl⟩:=iZ2.1 (List.mem_reverse.1 hy);have:=q2 k hk;omega) (by simpa using h5)
    rw [List.map_reverse,List.sum_reverse,List.map_map] at e2;have e3:jS x.toNat=lJ 5 x.toNat:=by unfold jS;rw [if_neg zZ]
    rw [e3];exact bZ1 e1 e2
  ·rw [NT hk];exact aGV _
theorem bigP_41:jS 41=585029621920:=by decide +kernel
/-! A recipe's nodes have five kids at most; each make makes one at most. -/
theorem ZW (l:List Int):(cM l).length≤l.length:=PY (KF (oI l)) fun _ hx=>cL.1 hx
theorem aVJ {A:aC}:(cU A nodes limbs sp ov N xs).2.1.nodes.length≤A.nodes.length+1:=by
 unfold cU;cases fK A.nodes (bB N) with
 | some i=>exact Nat.le_succ _
 | none=>
  simp only [];by_cases he:(dN nodes limbs sp ov xs).2.2=0
  ·rw [if_pos he];simp [fQ]
  ·rw [if_neg he];exact Nat.le_succ _
def EB (A:aC) (r:(Int × Int) × aC × (Int × Int)):Prop:=fM Five r.2.1∧r.2.1.nodes.length≤A.nodes.length+1
theorem EB.same {A:aC} {i e:Int} (h:fM Five A):EB A ((i,e),A,(sp,ov)):=⟨h,Nat.le_succ _⟩
theorem TU {A:aC} (h:fM Five A) (hN:Five N):EB A (cU A nodes limbs sp ov N xs):=⟨OO h fun _=>hN,aVJ⟩
theorem aBT {A:aC} {kind:Int} (h:fM Five A) (hk:ks.length≤5):EB A (dW A nodes limbs sp ov kind ks):=by
 unfold dW;split
 ·exact .same h
 split
 ·exact .same h
 split
 ·exact .same h
 split
 ·exact TU h (bZ1 (ZW ks) hk)
 ·exact .same h
theorem aDW {A:aC} {kind v k:Int} (h:fM Five A):EB A (dY A nodes limbs sp ov kind v k):=by
 unfold dY;split
 ·exact .same h
 split
 ·exact .same h
 ·exact TU h (show ([k]:List Int).length≤5 by simp)
theorem aRV {A:aC} (h:fM Five A):EB A (cX A nodes limbs sp ov X):=by
 unfold cX mY;split
 ·exact .same h
 split
 ·exact .same h
 ·exact TU h (aZ2 _)
theorem aHP:(ofM m ids).length≤5:=by
 unfold ofM;split
 ·simp
 ·unfold jR;rw [hZ1,iZ1];omega
theorem aSV {A:aC} (h:fM Five A):EB A (jQ A nodes limbs sp ov ids m):=by
 unfold jQ;split
 ·exact aRV h
 split
 ·exact aBT h aHP
 split
 ·exact aBT h aHP
 split
 ·exact aDW h
 ·exact aDW h
theorem aAT {nodes limbs:Int}:∀{l:List dO} {s:St},fM Five s.A→fM Five (jY nodes limbs s l).A∧(jY nodes limbs s l).A.nodes.length≤s.A.nodes.length+l.length
 | [],s,h=>⟨h,bZ2 _⟩
 | m::l,s,h=>by
  have h1:EB s.A (jQ s.A nodes limbs s.sp s.ov s.ids m):=aSV h;obtain ⟨q1,q2⟩:=aAT (nodes:=nodes) (limbs:=limbs) (l:=l) (s:=kS nodes limbs s m) h1.1;have e:(kS nodes limbs s m).A=(jQ s.A nodes limbs s.sp s.ov s.ids m).2.1:=rfl;rw [e] at q2;have h2:=h1.2;refine ⟨q1,?_⟩;show (jY nodes limbs (kS nodes limbs s m) l).A.nodes.length≤_
  rw [gZ1];omega
end
end Go.Proofs.Q
