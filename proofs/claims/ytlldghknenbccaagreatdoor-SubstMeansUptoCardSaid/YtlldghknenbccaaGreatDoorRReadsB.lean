/- From the form's own reading of an argument to the words of the walks: slices of whatever elements, limbs, numb. -/
import Derived.Lib.SmallJoins
import Derived.Test.YtlldghknenbccaaGreatDoorRInvB
set_option linter.unusedSimpArgs false
set_option linter.unusedVariables false
set_option maxRecDepth 100000
set_option maxHeartbeats 2000000
namespace Go.Proofs.Q
open Go.RowKit Go.Deep Go.ChangeShapes Go.WideShapes Go.Joins Go.Proofs.YtlldghknenbccaaGreatDoor Tryz
section
section
variable {H:Type} {enc:TypeId × Value→H} {P:Program} {w:World}
def Light (P:Program) (t:TypeId) (d:DataW H):Prop:=∀x∈d.weights P t,x≤reachBytes
theorem Light.slice {t e:TypeId} {elems spare:List (DataW H)} (h:Light P t (.slice elems spare)) (ht:P.underlying t=some (.slice e)):(elems.length+spare.length)*P.bytesOf e≤reachBytes:=
 h _ (by simp [DataW.weights,ht])
theorem aZK {b:Nat} {a:Addr} {n:Nat} {cs:List Value} (h:w.cells? b a n=some cs):cs.length=n∧∀j,j<n→w.cell? (a.add j)=cs[j]?:=by
 unfold World.cells? at h;split at h
 ·have hl:=mapM_some_length h;refine ⟨sQ,fun j hj=>?_⟩;have:=mapM_some_get h j j (by simp [hj]);simpa using this
 ·exact wZ
end
end
section
section
variable {H:Type} {enc:TypeId × Value→H} {w:World}
end
end
section
section
variable {H:Type} {enc:TypeId × Value→H} {w:World}
end
theorem aEB {P:Program} {x:String × DataW Unit} {r:List (String × DataW Unit)} {w:World} (h:laidMet P (x::r) w):laidMet P r w:=by
 obtain ⟨ps,hv,hnd,hrows⟩:=h;obtain ⟨n,d⟩:=x;obtain ⟨g,t,cs,fuel,p,q,_,_,_,_,hq,rfl⟩:=hv;exact⟨q,hq,List.Nodup.sublist (List.sublist_append_right _ _) hnd,fun b off hm=>hrows b off (List.mem_append_right _ hm)⟩
theorem gTab:prog.globalNamed "internal/strconv.uint64pow10"=some 0:=zX
theorem gTabType:(prog.globals[0]?).map (·.type)=some 262:=zX
theorem aYM:prog.cellsOf 262=20:=zX
theorem aXD:prog.cellsOf 111=1:=zX
theorem aPI {W:World} (h:laidMetH prog [("math/bits.deBruijn32tab",Rows.laid_math_bits_deBruijn32tab),("math/bits.deBruijn64tab",Rows.laid_math_bits_deBruijn64tab),("internal/strconv.uint64pow10",Rows.laid_internal_strconv_uint64pow10)] W):Tab W.heap.size W:=
 ⟨bZ2 _,Lib.tabBelow_of_tabIs (Lib.tabIs_of_head (rest:=[]) gTab gTabType underlying262 underlying111 aXD aYM (aEB (aEB h)))⟩
def bCI (d:DataW Unit):Value:=match d with
 | .lit (.int k z)=>.int k z
 | _=>undef
def bBK (d:DataW Unit):List Value:=match d with
 | .agg ps=>ps.map bCI
 | _=>[]
def XV (d:DataW Unit) (o:Obj):Obj:=match o with
 | .cells _ t frozen=>.cells (bBK d).toArray t frozen
 | o=>o
noncomputable def laidWorld (os:Os):World:=
 { World.holding prog os ⟨#[],#[],[]⟩ with heap:=(((World.holding prog os ⟨#[],#[],[]⟩).heap.modify 0 (XV Rows.laid_internal_strconv_uint64pow10)).modify 1 (XV Rows.laid_math_bits_deBruijn32tab)).modify 2 (XV Rows.laid_math_bits_deBruijn64tab) }
end
structure dO where
 kind:Int
 x:aY
 v:Int
 kids:List Int
section
variable {cs:List Value} {fuel:Nat} {a:Option Addr} {M:Nat→Prop} {g:Bool} {z:Int}
theorem ET {H:Type} (d:DataW H):1≤Rows.uptoBulk d:=by
 cases d with
 | lit l=>cases l<;>simp [Rows.uptoBulk]
 | nil=>simp [Rows.uptoBulk]
 | ptr d=>simp [Rows.uptoBulk]
 | slice elems spare=>simp [Rows.uptoBulk]
 | agg parts=>simp [Rows.uptoBulk]
 | iface t d=>simp [Rows.uptoBulk]
 | map entries=>simp [Rows.uptoBulk]
 | held h=>simp [Rows.uptoBulk]
theorem aHD {H:Type} {d:DataW H}:∀{l:List (DataW H)},d∈l→Rows.uptoBulk d≤Rows.uptoBulkAll l
 | x::r,h=>by
  simp only [Rows.uptoBulkAll];rcases mZ1.1 h with e|e
  ·subst e;omega
  ·have:=aHD e;omega
theorem aHE {H:Type} {β:Type} {g:β→Nat} {D:β→DataW H}:∀l:List β,(∀i∈l,g i≤Rows.uptoBulk (D i))→(l.map g).sum≤Rows.uptoBulkAll (l.map D)
 | [],_=>zW
 | i::l,h=>by
  have h1:=h i (kZ1 ..);have h2:=aHE l fun j hj=>h j (lZ1 _ hj);simp only [dZ2,dZ3,Rows.uptoBulkAll];omega
section
variable {H:Type} {enc:TypeId × Value→H} {w:World}
theorem JZ {α:Type} {R:List Value→α→Prop} {size:α→Nat} {Q:α→Prop} {d:α} {t e:TypeId} {sz:Nat} {x:DataW H × List MemPlace} (ht:prog.underlying t=some (.slice e)) (hsz:prog.cellsOf e=sz) (h0:0<sz)
  (h:DataW.trod enc prog w 0 (fun _=>true) true fuel t cs=some x) (hb:Rows.uptoBulk x.1≤1048576)
  (hR:∀n cs' y,cs'.length=sz→DataW.trod enc prog w 0 (fun _=>true) true n e cs'=some y→Rows.uptoBulk y.1≤1048576→∃z,R cs' z∧size z≤Rows.uptoBulk y.1∧Q z) :
  ∃a n c xs,cs=[.slice a n c]∧eU Nil w sz R d a n c xs∧(xs.map size).sum+1≤Rows.uptoBulk x.1∧∀z∈xs,Q z:=by
 rcases open_slice ht h with ⟨rfl,rfl⟩|⟨a,len,cap,m,n,D,Pl,rfl,_,hle,hcm,hm,rfl,hel⟩
 ·exact⟨_,_,_,[],rfl,eU.nil,by simpa using ET _,fun z hz=>by cases hz⟩
 ·simp only [if_true] at hm;subst hm;have hD:∀i,i<len→∃(p:List Value × α),p.1.length=sz∧(∀j,j<sz→w.cell? (a.add (i*sz+j))=p.1[j]?)∧R p.1 p.2∧size p.2≤Rows.uptoBulk (D i)∧Q p.2:=by
   intro i hi;obtain ⟨cs',h1,h2⟩:=hel i zZ;obtain ⟨hl,hc⟩:=aZK h1;rw [hsz] at hl hc;obtain ⟨z,hz,hs,hq⟩:=hR n cs' _ hl h2 (bZ1 (aHD (iZ2.2 ⟨i,List.mem_range.2 hi,rfl⟩)) (by simp only [Rows.uptoBulk] at hb;omega));refine ⟨(cs',z),hl,fun j hj=>?_,hz,hs,hq⟩;rw [←add_add];exact hc j hj
  haveI:Inhabited (List Value × α):=⟨([],d)⟩;obtain ⟨f,hf⟩:=choose_lt hD;refine ⟨_,_,_,(List.range len).map fun i=>(f i).2,rfl,⟨zW,fun i=>(f i).1,⟨hle,vZ,(fun h=>wZ),fun p hp hl0=>?_⟩,fun i hi=>⟨(hf i hi).1,?_⟩⟩,?_,fun z hz=>?_⟩
  ·cases hp
   have hc0:=(hf 0 hl0).2.1 0 h0;have hs0:∃v,w.cell? a=some v:=by
    have hl:=(hf 0 hl0).1;simp only [Nat.zero_mul,Nat.zero_add,Addr.add_zero'] at hc0;rw [jZ2 zZ] at hc0;exact⟨_,hc0⟩
   obtain ⟨v0,hv0⟩:=hs0;have hsp:=World.cell?_spot hv0;refine ⟨hsp,World.block_lt_of_cell? w a hv0,id,fun i j hi hj=>?_⟩;have:=(hf i hi).2.1 j hj;obtain ⟨b,off,spot⟩:=a;simp only at hsp;subst hsp;rw [Addr.add_lit] at this;rw [Nat.add_assoc,this];simp [List.getD,jZ2 (show j<(f i).1.length by rw [(hf i hi).1];exact hj)]
  ·simp only [List.getD,List.getElem?_map,List.getElem?_range hi,Option.map_some,Option.getD_some];exact (hf i hi).2.2.1
  ·rw [List.map_map];have:=aHE (g:=size ∘ fun i=>(f i).2) (D:=D) (List.range len) fun i hi=>(hf i (List.mem_range.1 hi)).2.2.2.1;simp only [Rows.uptoBulk];omega
  ·obtain ⟨i,hi,rfl⟩:=iZ2.1 hz;exact (hf i (List.mem_range.1 hi)).r4
theorem aLX {x:DataW H × List MemPlace} (h:DataW.trod enc prog w 0 (fun _=>true) true fuel 23 cs=some x) (hb:Rows.uptoBulk x.1≤1048576) :
  ∃a n c l,cs=[.slice a n c]∧aU Nil w a n c l∧n+1≤Rows.uptoBulk x.1:=by
 obtain ⟨a,n,c,xs,rfl,hs,hsum,-⟩:=JZ (R:=fun cs z=>cs=[.int .u32 (z:Nat)]∧z<4294967296) (size:=fun _=>1) (Q:=fun _=>True) (d:=0) (sz:=1) underlying23 zX zY h hb (fun n cs' y _ hy _=>by
  obtain ⟨z,rfl,_,hz⟩:=DataW.trod_int underlying112 hy;have hz':=bounds_u32 hz;exact⟨z.toNat,⟨by rw [Int.toNat_of_nonneg hz'.1],zZ⟩,ET _,trivial⟩)
 obtain ⟨f,h1,h2⟩:=hs.ex;refine ⟨a,n,c,xs,rfl,⟨hs.len,h1.congr fun i j hi hj=>?_,fun x hx=>?_⟩,?_⟩
 ·obtain rfl:j=0:=zZ;rw [(h2 i hi).2.1];rfl
 ·obtain ⟨i,hi,rfl⟩:=jZ3 hx;have:=(h2 i (by have:=hs.len;omega)).2.2;simpa [List.getD,jZ2 hi] using this
 ·have hl:=hs.len;have hc:∀xs:List Nat,(xs.map fun _=>1).sum=xs.length:=fun xs=>by induction xs with|nil=>rfl|cons x xs ih=>rw [dZ2,dZ3,ih,gZ1];omega
  have:=hc xs;omega
def bDB (w:World) (cs:List Value) (z:Int):Prop:=∃g a n c,cs=[.bool g,.slice a n c]∧ZAt Nil w g a n c z∧n≤1048576
theorem KR {n c:Nat} (h:ZAt M w g a n c z):eP z.natAbs≤n:=by
 obtain ⟨l,hl,_,rfl⟩:=h;have h1:=iD hl.lt;rw [hl.len] at h1;rw [WJ];exact h1
theorem JL {x:DataW H × List MemPlace} (h:DataW.trod enc prog w 0 (fun _=>true) true fuel 25 cs=some x) (hb:Rows.uptoBulk x.1≤1048576) :
  ∃z,bDB w cs z:=by
 obtain ⟨y0,y1,n,hx,hl,h0,h1⟩:=trod_struct2 underlying25 h;have hc:prog.cellsOf 25=2:=zX;have hc0:prog.cellsOf 4=1:=zX;have hc1:prog.cellsOf 23=1:=zX;rw [hc] at hl;rw [hx] at hb;simp only [Rows.uptoBulk,Rows.uptoBulkAll] at hb
 match cs,hl with
 | [c0,c1],_=>
  simp only [hc0,hc1,List.drop_zero,List.take_succ_cons,List.take_zero,List.drop_succ_cons] at h0 h1;obtain ⟨b,e0,_⟩:=DataW.trod_bool underlying4 h0;obtain ⟨a,n,c,l,e1,hL1,hr⟩:=aLX h1 zZ;cases e0;cases e1;exact⟨ival (b,l),b,a,n,c,rfl,⟨l,hL1,zZ,rfl⟩,zZ⟩
def nU (p:Int × Int):Prop:=eP p.2.natAbs≤1048576∧I64 p.1
theorem aML {x:DataW H × List MemPlace} (h:DataW.trod enc prog w 0 (fun _=>true) true fuel 96 cs=some x) (hb:Rows.uptoBulk x.1≤1048576) :
  ∃p,iM Nil w cs p∧5≤Rows.uptoBulk x.1∧nU p:=by
 obtain ⟨y0,y1,n,hx,hl,h0,h1⟩:=trod_struct2 underlying96 h;have hc:prog.cellsOf 96=3:=zX;have hc0:prog.cellsOf 3=1:=zX;have hc1:prog.cellsOf 25=2:=zX;rw [hc] at hl;rw [hx] at hb⊢;simp only [Rows.uptoBulk,Rows.uptoBulkAll] at hb⊢
 match cs,hl with
 | [c0,c1,c2],_=>
  simp only [hc0,hc1,List.drop_zero,List.take_succ_cons,List.take_zero,List.drop_succ_cons] at h0 h1;obtain ⟨v,e0,_,k0⟩:=DataW.trod_int underlying3 h0;obtain ⟨z,g,a,n,c,e1,q1,r1⟩:=JL h1 zZ;have h4:3≤Rows.uptoBulk y1.1:=xP;have h5:=ET y0.1;have kb:=bounds_i64 k0;cases e0;cases e1;exact⟨(v,z),⟨g,a,n,c,rfl,q1,zZ,kb.1,kb.2⟩,zZ,⟨bZ1 (KR q1) r1,kb⟩⟩
theorem ZF {x:DataW H × List MemPlace} (h:DataW.trod enc prog w 0 (fun _=>true) true fuel 22 cs=some x) (hb:Rows.uptoBulk x.1≤1048576) :
  ∃a n c l,cs=[.slice a n c]∧bI Nil Nil w a n c l∧5*l.length+1≤Rows.uptoBulk x.1∧∀p∈l,nU p:=by
 obtain ⟨a,n,c,l,e,hs,hsum,hq⟩:=JZ (R:=iM Nil w) (size:=fun _=>5) (Q:=nU) (d:=(0,0)) (sz:=3) underlying22 zX zY h hb (fun n cs' y _ hy hb'=>by
  obtain ⟨p,q1,q2,q3⟩:=aML hy hb';exact⟨p,q1,q2,q3⟩)
 refine ⟨a,n,c,l,e,hs,?_,hq⟩;have hc:∀l:aM,(l.map fun _=>5).sum=l.length*5:=fun l=>wJ;have:=hc l;omega
def bCM (w:World) (cs:List Value) (X:aY):Prop:=∃gd ad nd cd ap np cp gk ak nk ck,cs=[.int .i64 X.kind,.bool gd,.slice ad nd cd,.slice ap np cp,.bool gk,.slice ak nk ck]∧ZAt Nil w gd ad nd cd X.d∧bI Nil Nil w ap np cp X.t.parts∧ZAt Nil w gk ak nk ck X.t.k∧nd≤1048576∧nk≤1048576∧(∀p∈X.t.parts,nU p)∧I64 X.kind
theorem aMV {x:DataW H × List MemPlace} (h:DataW.trod enc prog w 0 (fun _=>true) true fuel 82 cs=some x) (hb:Rows.uptoBulk x.1≤1048576):∃X,bCM w cs X∧5*X.t.parts.length+1≤Rows.uptoBulk x.1:=by
 obtain ⟨y0,y1,y2,n,hx,hl,h0,h1,h2⟩:=trod_struct3 underlying82 h;have hc:prog.cellsOf 82=6:=zX;have hc0:prog.cellsOf 3=1:=zX;have hc1:prog.cellsOf 25=2:=zX;have hc2:prog.cellsOf 27=3:=zX;have hc3:prog.cellsOf 22=1:=zX;rw [hc] at hl;rw [hx] at hb⊢;simp only [Rows.uptoBulk,Rows.uptoBulkAll] at hb⊢
 match cs,hl with
 | [c0,c1,c2,c3,c4,c5],_=>
  simp only [hc0,hc1,hc2,List.drop_zero,List.take_succ_cons,List.take_zero,List.drop_succ_cons] at h0 h1 h2;obtain ⟨k,e0,_,kk⟩:=DataW.trod_int underlying3 h0;obtain ⟨d,g,a,nd,c,e1,q1,r1⟩:=JL h1 zZ;obtain ⟨t0,t1,m,hx2,hl2,g0,g1⟩:=trod_struct2 underlying27 h2;rw [hx2] at hb⊢;simp only [Rows.uptoBulk,Rows.uptoBulkAll] at hb⊢;simp only [hc1,hc3,List.drop_zero,List.take_succ_cons,List.take_zero,List.drop_succ_cons] at g0 g1;obtain ⟨ap,np,cp,l,e2,q2,s2,p2⟩:=ZF g0 zZ;obtain ⟨z,g',a',nk,c',e3,q3,r3⟩:=JL g1 zZ;have kb:=bounds_i64 kk;cases e0;cases e1;cases e2;cases e3;exact⟨⟨k,d,⟨l,z⟩⟩,⟨_,_,_,_,_,_,_,_,_,_,_,rfl,q1,q2,q3,r1,r3,p2,kb⟩,yT⟩
end
end
def mG (c:Int) (n:Nat):Nat:=(if c<0 then (-(c+1)).toNat else c.toNat) % n
theorem IE {c:Int} {n:Nat} (h:0<n):mG c n<n:=Nat.mod_lt _ h
theorem aZL {c:Int} {n:Nat}:(mG c n:Int)=(if c<0 then -(c+1) else c) % (n:Int):=by
 unfold mG;split
 ·obtain ⟨m,hm⟩:∃m:Nat,-(c+1)=(m:Int):=⟨(-(c+1)).toNat,zZ⟩;rw [hm,bZ3];exact Int.natCast_emod m n
 ·obtain ⟨m,hm⟩:∃m:Nat,c=(m:Int):=⟨c.toNat,zZ⟩;rw [hm,bZ3];exact Int.natCast_emod m n
def nC (m:dO):Int:=if mG m.kind 16<9 then 0 else if mG m.kind 16<12 then 1 else if mG m.kind 16<14 then 2 else (mG m.kind 16:Int)-11
def BX (m:dO):Int:=(mG m.v 4:Nat)
def jR (m:dO) (ids:List Int) (j:Nat):List Int:=(m.kids.take j).map fun c=>ids.getD (mG c ids.length) 0
def ofM (m:dO) (ids:List Int):List Int:=if (jR m ids 5).length=0 then [ids.getD (ids.length-1) 0] else jR m ids 5
theorem aWC (m:dO) (ids:List Int) {j:Nat} (h:j<m.kids.length):jR m ids (j+1)=jR m ids j++[ids.getD (mG (m.kids.getD j 0) ids.length) 0]:=by
 unfold jR;rw [JG h,cZ2];rfl
def FJ (M:Nat→Prop) (w:World) (gd:Bool) (ad:Option Addr) (nd cd:Nat) (ap:Option Addr) (np cp:Nat) (gk:Bool) (ak:Option Addr) (nk ck:Nat) (aq:Option Addr) (nq cq:Nat) (m:dO):Prop:=
 ZAt M w gd ad nd cd m.x.d∧bI M M w ap np cp m.x.t.parts∧ZAt M w gk ak nk ck m.x.t.k∧nd≤1048576∧nk≤1048576∧(∀p∈m.x.t.parts,Go.Proofs.Q.nU p)∧I64 m.x.kind∧cE M w aq nq cq m.kids∧(∀k∈m.kids,I64 k)∧I64 m.kind∧I64 m.v
theorem FJ.move {M M' M2:Nat→Prop} {w w':World} {gd gk:Bool} {ad ap ak aq:Option Addr} {nd cd np cp nk ck nq cq:Nat} {m:dO} (h:FJ M w gd ad nd cd ap np cp gk ak nk ck aq nq cq m) (k:aA M' w w') (h1:∀b,b<w.heap.size→M' b→M b) (h2:∀b,b<w.heap.size→M2 b→M b):FJ M2 w' gd ad nd cd ap np cp gk ak nk ck aq nq cq m:=
 ⟨h.1.move k h1 h2,eU.move h.2.1 k h1 h2 fun _ _ hx=>iM.moves hx k h1 h2,h.2.2.1.move k h1 h2,h.2.2.2.1,h.r4.1,h.r5.1,h.r6.1,h.r7.1.move k h1 h2,h.r8⟩
def IY (M:Nat→Prop) (w:World) (cs:List Value) (m:dO):Prop:=∃gd ad nd cd ap np cp gk ak nk ck aq nq cq,cs=[.int .i64 m.kind,.int .i64 m.x.kind,.bool gd,.slice ad nd cd,.slice ap np cp,.bool gk,.slice ak nk ck,.int .i64 m.v,.slice aq nq cq]∧FJ M w gd ad nd cd ap np cp gk ak nk ck aq nq cq m
theorem IY.moves:Moves IY:=fun _ _ _ _ _ _ _ h k h1 h2=>by
 obtain ⟨gd,ad,nd,cd,ap,np,cp,gk,ak,nk,ck,aq,nq,cq,e,q⟩:=h;exact⟨gd,ad,nd,cd,ap,np,cp,gk,ak,nk,ck,aq,nq,cq,e,q.move k h1 h2⟩
def CV:dO:=⟨0,⟨0,0,bK⟩,0,[]⟩
def nO (M:Nat→Prop) (w:World) (a:Option Addr) (n c:Nat) (l:List dO):Prop:=eU M w 9 (IY M w) CV a n c l
theorem nO.move {M M' M2:Nat→Prop} {w w':World} {a:Option Addr} {n c:Nat} {l:List dO} (h:nO M w a n c l) (k:aA M' w w') (h1:∀b,b<w.heap.size→M' b→M b) (h2:∀b,b<w.heap.size→M2 b→M b):nO M2 w' a n c l:=eU.move h k h1 h2 fun _ _ hx=>IY.moves hx k h1 h2
def lY (l:List dO):List Int:=(l.flatMap fun m=>m.x.t.parts.map (·.1))++[0,1,2,3]
section
variable {cs:List Value} {fuel n:Nat} {gd gk:Bool} {ad ap ak aq ai:Option Addr} {ids:List Int} {c:Int}
section
variable {H:Type} {enc:TypeId × Value→H} {w:World}
theorem aME {x:DataW H × List MemPlace} (h:DataW.trod enc prog w 0 (fun _=>true) true fuel 56 cs=some x) (hb:Rows.uptoBulk x.1≤1048576) :
  ∃a n c l,cs=[.slice a n c]∧cE Nil w a n c l∧l.length+1≤Rows.uptoBulk x.1∧∀k∈l,I64 k:=by
 obtain ⟨a,n,c,l,e,hs,hsum,hq⟩:=JZ (R:=RI) (size:=fun _=>1) (Q:=I64) (d:=0) (sz:=1) underlying56 zX zY h hb (fun n cs' y _ hy _=>by
  obtain ⟨z,rfl,_,hz⟩:=DataW.trod_int underlying3 hy;exact⟨z,rfl,ET _,bounds_i64 hz⟩)
 refine ⟨a,n,c,l,e,hs,?_,hq⟩;have hc:∀l:List Int,(l.map fun _=>1).sum=l.length:=fun l=>wJ;have:=hc l;omega
theorem aMN {x:DataW H × List MemPlace} (h:DataW.trod enc prog w 0 (fun _=>true) true fuel 125 cs=some x) (hb:Rows.uptoBulk x.1≤1048576):∃m,IY Nil w cs m∧5*m.x.t.parts.length+1≤Rows.uptoBulk x.1:=by
 obtain ⟨y0,y1,y2,y3,n,hx,hl,h0,h1,h2,h3⟩:=trod_struct4 underlying125 h;have hc:prog.cellsOf 125=9:=zX;have hc0:prog.cellsOf 3=1:=zX;have hc1:prog.cellsOf 82=6:=zX;have hc2:prog.cellsOf 56=1:=zX;rw [hc] at hl;rw [hx] at hb⊢;simp only [Rows.uptoBulk,Rows.uptoBulkAll] at hb⊢
 match cs,hl with
 | [c0,c1,c2,c3,c4,c5,c6,c7,c8],_=>
  simp only [hc0,hc1,hc2,List.drop_zero,List.take_succ_cons,List.take_zero,List.drop_succ_cons] at h0 h1 h2 h3;obtain ⟨k,e0,_,kk⟩:=DataW.trod_int underlying3 h0;obtain ⟨X,⟨gd,ad,nd,cd,ap,np,cp,gk,ak,nk,ck,e1,q1,q2,q3,r1,r3,p2,kx⟩,s1⟩:=aMV h1 zZ;obtain ⟨v,e2,_,kv⟩:=DataW.trod_int underlying3 h2;obtain ⟨aq,nq,cq,ks,e3,q4,s4,k4⟩:=aME h3 zZ;have kb:=bounds_i64 kk;have kvb:=bounds_i64 kv;cases e0;cases e1;cases e2;cases e3;exact⟨⟨k,X,v,ks⟩,⟨_,_,_,_,_,_,_,_,_,_,_,_,_,_,rfl,q1,q2,q3,r1,r3,p2,kx,q4,k4,kb,kvb⟩,yT⟩
theorem aLY {x:DataW H × List MemPlace} (h:DataW.trod enc prog w 0 (fun _=>true) true fuel 39 cs=some x) (hb:Rows.uptoBulk x.1≤1048576) :
  ∃a n c l,cs=[.slice a n c]∧nO Nil w a n c l∧5*(lY l).length+l.length≤Rows.uptoBulk x.1+20:=by
 obtain ⟨a,n,c,l,e,hs,hsum,-⟩:=JZ (R:=IY Nil w) (size:=fun m=>5*m.x.t.parts.length+1) (Q:=fun _=>True) (d:=CV) (sz:=9) underlying39 zX zY h hb (fun n cs' y _ hy hb'=>by
  obtain ⟨m,q1,q2⟩:=aMN hy hb';exact⟨m,q1,q2,trivial⟩)
 refine ⟨a,n,c,l,e,hs,?_⟩;have:∀l:List dO,5*(lY l).length+l.length=(l.map fun m=>5*m.x.t.parts.length+1).sum+20:=by
  intro l;induction l with
  | nil=>simp [lY]
  | cons m l ih=>
   simp only [lY,eZ2,aZ1,hZ1,gZ1,gZ2,dZ2,dZ3] at ih⊢;omega
 have:=this l;omega
end
theorem OU {w:World} (h:I64 c) (hn:1≤n) (hn2:n≤1000000) :
  Calls prog 30 #[.int .i64 c,.int .i64 (n:Int)] w fun e w'=>e=.returned (.int .i64 (mG c n:Nat))∧w=w':=by
 obtain ⟨h0,h1⟩:=h;have HP:=jJ (aZL (c:=c) (n:=n));have hnI:¬(n:Int)=0:=zZ;by_cases hc:c<0
 ·obtain ⟨m,hm⟩:∃m:Nat,-(c+1)=(m:Int):=⟨(-(c+1)).toNat,zZ⟩;have HM:=jJ hm;go_enter func30,ntmps30
  go_wp2_with fail
  go_ret
  rw [HP.o,if_pos hc,HM.o];exact⟨rfl,rfl⟩
 ·obtain ⟨m,rfl⟩:∃m:Nat,c=(m:Int):=⟨c.toNat,zZ⟩;go_enter func30,ntmps30
  go_wp2_with fail
  go_ret
  rw [HP.o,if_neg zZ];exact⟨rfl,rfl⟩
theorem aUZ {w:World} {nd cd np cp nk ck nq cq:Nat} {m:dO} (h:I64 m.kind) :
  Calls prog 79 #[.agg #[.int .i64 m.kind,.int .i64 m.x.kind,.bool gd,.slice ad nd cd,.slice ap np cp,.bool gk,.slice ak nk ck,.int .i64 m.v,.slice aq nq cq]] w fun e w'=>e=.returned (.int .i64 (nC m))∧aA Nil w w':=by
 have HK:=jJ h;clear h;go_enter func79,ntmps79
 go_upto_region 1 with (fail)
 obtain ⟨w0,e_1,q0,r0⟩:=bx1 w 125 [.int .i64 m.kind,.int .i64 m.x.kind,.bool gd,.slice ad nd cd,.slice ap np cp,.bool gk,.slice ak nk ck,.int .i64 m.v,.slice aq nq cq];rw [e_1];clear e_1;have c0:w0.cell? ⟨w.heap.size,0,none⟩=some (.int .i64 m.kind):=r0.cell 0;have H0:=jJ q0;clear q0 r0;obtain ⟨p,hp⟩:∃p,p=mG m.kind 16:=⟨_,rfl⟩;have HP:=jJ hp;have hp16:p<16:=by rw [hp];exact IE zY
 clear hp;go_upto_region 2 with (go_at_call 30;refine (OU (n:=16) HK.o zY zY).mono ?_;rintro e w1 ⟨rfl,rfl⟩;rw [←HP.o])
 have hw:nC m=if p<9 then 0 else if p<12 then 1 else if p<14 then 2 else (p:Int)-11:=by rw [HP.o];rfl
 have HW:=jJ hw;clear hw c0;by_cases h9:p<9
 ·have e9:decide ((p:Int)<9)=true:=zV;go_wp2_with fail
  go_ret
  rw [HW.o,if_pos h9];exact⟨rfl,H0.o⟩
 have e9:decide ((p:Int)<9)=false:=zV;by_cases h12:p<12
 ·have e12:decide ((p:Int)<12)=true:=zV;go_wp2_with fail
  go_ret
  rw [HW.o,if_neg h9,if_pos h12];exact⟨rfl,H0.o⟩
 have e12:decide ((p:Int)<12)=false:=zV;by_cases h14:p<14
 ·have e14:decide ((p:Int)<14)=true:=zV;go_wp2_with fail
  go_ret
  rw [HW.o,if_neg h9,if_neg h12,if_pos h14];exact⟨rfl,H0.o⟩
 have e14:decide ((p:Int)<14)=false:=zV;go_wp2_with fail
 go_ret
 rw [HW.o,if_neg h9,if_neg h12,if_neg h14];exact⟨rfl,H0.o⟩
theorem aIC {w:World} {nd cd np cp nk ck nq cq:Nat} {m:dO} (h:I64 m.v) :
  Calls prog 81 #[.agg #[.int .i64 m.kind,.int .i64 m.x.kind,.bool gd,.slice ad nd cd,.slice ap np cp,.bool gk,.slice ak nk ck,.int .i64 m.v,.slice aq nq cq]] w fun e w'=>e=.returned (.int .i64 (BX m))∧aA Nil w w':=by
 have HK:=jJ h;clear h;go_enter func81,ntmps81
 go_upto_region 1 with (fail)
 obtain ⟨w0,e_2,q0,r0⟩:=bx1 w 125 [.int .i64 m.kind,.int .i64 m.x.kind,.bool gd,.slice ad nd cd,.slice ap np cp,.bool gk,.slice ak nk ck,.int .i64 m.v,.slice aq nq cq];rw [e_2];clear e_2;have c7:w0.cell? ⟨w.heap.size,7,none⟩=some (.int .i64 m.v):=r0.cell 7;have H0:=jJ q0;clear q0 r0;go_wp2_with (go_at_call 30;refine (OU (n:=4) HK.o zY zY).mono ?_;rintro e w1 ⟨rfl,rfl⟩)
 go_ret
 exact⟨rfl,H0.o⟩
theorem bAM {M M1:Nat→Prop} {w:World} {nd cd np cp nk ck nq cq:Nat} {m:dO} {ni ci:Nat} (hm:FJ M w gd ad nd cd ap np cp gk ak nk ck aq nq cq m) (hi:cE M1 w ai ni ci ids) (h1:1≤ids.length) (h2:ids.length≤1000000) :
  Calls prog 78 #[.agg #[.int .i64 m.kind,.int .i64 m.x.kind,.bool gd,.slice ad nd cd,.slice ap np cp,.bool gk,.slice ak nk ck,.int .i64 m.v,.slice aq nq cq],.slice ai ni ci] w fun e w'=>∃v,e=.returned v∧aL w' w.heap.size 3 1 v (aO (ofM m ids))∧aA Nil w w':=by
 obtain ⟨i1,hi1⟩:=info_parts BI;have HI:=jJ hi1;have hni:ids.length=ni:=eU.len hi;have hcap:=eU.cap hi;have hle:=eU.le hi;have hnq:m.kids.length=nq:=eU.len hm.r7.1;have hcapq:=eU.cap hm.r7.1;have hleq:=eU.le hm.r7.1;have hni1:1≤ni:=zZ;have hni2:ni≤1000000:=zZ;have HA:=jJ (aI4 hm hi hni hnq);clear hi1 hm hi hni hnq h1 h2;go_enter func78,ntmps78
 go_upto_region 1 with (fail)
 obtain ⟨w0,e_3,q0,r0⟩:=bx1 w 125 [.int .i64 m.kind,.int .i64 m.x.kind,.bool gd,.slice ad nd cd,.slice ap np cp,.bool gk,.slice ak nk ck,.int .i64 m.v,.slice aq nq cq];rw [e_3];clear e_3;have H0:=jJ (aI q0 r0);have l0:=r0.lt;clear q0 r0;go_wp2_with fail
 go_loopw [5,6] (fun v i wr=>∃(j:Nat) (va:Option Addr) (vc:Nat),j≤nq∧j≤5∧i=.int .i64 (j:Int)∧v=.slice va j vc∧aL wr w0.heap.size 3 1 (.slice va j vc) (aO (jR m ids j))∧aA Nil w0 wr) (fun _ i _=>5-(intOf i).toNat)
 case atStart=>exact⟨0,none,0,aZ2 _,aZ2 _,rfl,rfl,aL.nil _ _ _ _,aA.refl _ _⟩
 case round=>
  obtain ⟨j,va,vc,hj,hj5,rfl,rfl,hown,hkr⟩:=hrel;have c8:wr.cell? ⟨w.heap.size,8,none⟩=some (.slice aq nq cq):=(H0.o.2.keep hkr id).cell 8;have lr:w.heap.size<wr.heap.size:=cZ1 l0 hkr.size;have hcl:(aO (jR m ids j)).length=j:=by
   have:=HA.o.2.2.2;rw [aJ];unfold jR;rw [hZ1,iZ1];omega
  by_cases hlt:j<nq∧j<5
  ·have hkj:j<m.kids.length:=by have:=HA.o.2.2.2;omega
   obtain ⟨b,off,rfl,ck⟩:=bA (HA.o.1.r7.1.eO (H0.o.1.trans hkr)) hlt.1;have hci:=HA.o.1.r8.1 (m.kids.getD j 0) (cK 0 hkj);have hsu:=aWC m ids hkj;obtain ⟨x,hx⟩:∃x,x=m.kids.getD j 0:=⟨_,rfl⟩;rw [←hx] at ck hci hsu;rw [HA.o.2.2.1] at hsu;obtain ⟨p,hp⟩:∃p,p=mG x ni:=⟨_,rfl⟩;have hpl:p<ni:=by rw [hp];exact IE zZ
   obtain ⟨b2,off2,rfl,cp⟩:=bA (HA.o.2.1.eO (H0.o.1.trans hkr)) hpl;rw [←hp] at hsu;obtain ⟨y,hy⟩:∃y,y=ids.getD p 0:=⟨_,rfl⟩;rw [←hy] at hsu cp;have j0:(0:Int)≤(j:Int):=zZ;have j1:(j:Int)<(nq:Int):=zZ;have j2:(j:Int)<5:=zZ;have j3:(0:Int)≤(p:Int):=zZ;have j4:(p:Int)<(ni:Int):=zZ;have HC:=jJ (aI7 hown hkr hsu hcl hci hp (cZ1 l0 hkr.size));clear hown hkr hsu hcl hci hp hx hy hlt;go_wp2_with (first|(go_at_call 30;refine (OU (c:=x) (n:=ni) HC.o.r4.1 hni1 hni2).mono ?_;rintro e w1 ⟨rfl,rfl⟩;rw [←HC.o.r5.1])|(at_builtin;go_loud (refine bY _ rfl (.tmp 18) (.tmp 30) 56 rfl w0.heap.size 3 i1 (.int .i64 0) 1 8 underlying56 HI.o.1 HI.o.2.1 HI.o.2.2.1 HI.o.2.2.2 rfl zY (.slice va j vc) _ rfl (HC.o.1.eO (w':=wr.alloc (.cells #[.int .i64 y] 3)) kOf) ⟨wr.heap.size,0,none⟩ 1 1 [[.int .i64 y]] rfl rfl zW (EI _ _ _) yO uA uA (by have:=HC.o.2.1.size;simp;omega) ?_);intro v' w2 ho hk2 hf2 _;obtain ⟨a7,c7,rfl⟩:=ho.isSlice;have e7:(aO (jR m ids j)++[[Value.int .i64 y]]).length=j+1:=(by have q:=HC.o.2.2.2.1;have q2:(aO (jR m ids j)++[[Value.int .i64 y]]).length=(aO (jR m ids j)).length+1:=aZ1;omega);rw [e7] at ho⊢;have HO:=jJ (aI ho hk2);clear ho hk2 hf2 e7))
   go_roundw
   case rel=>exact⟨j+1,a7,c7,zZ,zZ,zF,rfl,by rw [HC.o.2.2.1,FZ];exact HO.o.1,(HC.o.2.1.trans (c:=wr.alloc (.cells #[.int .i64 y] 3)) kOf).trans' HO.o.2 (fun b hb=>.inr (HC.o.1.lt b hb).1)⟩
   case measure=>exact zI
  ·have hend:jR m ids j=jR m ids 5:=by
    have:=HA.o.2.2.2;unfold jR;rcases Nat.lt_or_ge j 5 with h5|h5
    ·rw [eZ1 zZ,eZ1 zZ]
    ·rw [show j=5 by omega]
   rw [hend] at hown hcl;have hjn:j=5∨j=nq:=zZ;obtain ⟨q,hq⟩:∃q:Nat,ni=q+1:=⟨ni-1,zZ⟩;obtain ⟨b2,off2,rfl,cp⟩:=bA (HA.o.2.1.eO (H0.o.1.trans hkr)) (show q<ni by omega);obtain ⟨y,hy⟩:∃y,y=ids.getD q 0:=⟨_,rfl⟩;rw [←hy] at cp;have hof:ofM m ids=if j=0 then [y] else jR m ids 5:=by
    have h3:=HA.o.2.2.1;unfold ofM;rw [show (jR m ids 5).length=j by rw [←hcl,aJ],show ids.length-1=q by omega,hy]
   have HC:=jJ (aI4 hown hkr hcl hof);clear hown hkr hcl hof hy hend;subst hq;have hws:w.heap.size≤w0.heap.size:=H0.o.1.size;by_cases hz:j=0
   ·subst hz;have hzq:0=nq:=zZ;subst hzq;have j3:(0:Int)≤(q:Int):=zZ;have j4:(q:Int)<((q+1:Nat):Int):=zZ;clear hjn hlt;go_wp2_with (at_builtin;go_loud (refine bY _ rfl (.tmp 35) (.tmp 42) 56 rfl w0.heap.size 3 i1 (.int .i64 0) 1 8 underlying56 HI.o.1 HI.o.2.1 HI.o.2.2.1 HI.o.2.2.2 rfl zY (.slice va 0 vc) _ rfl (HC.o.1.eO (w':=wr.alloc (.cells #[.int .i64 y] 3)) kOf) ⟨wr.heap.size,0,none⟩ 1 1 [[.int .i64 y]] rfl rfl zW (EI _ _ _) yO (by rw [HC.o.2.2.1];omega) (by rw [HC.o.2.2.1];omega) (by have:=HC.o.2.1.size;simp;omega) ?_);intro v' w2 ho hk2 hf2 _;have HO:=jJ (aI ho hk2);clear ho hk2 hf2)
    go_ret
    have he:aO (jR m ids 5)=[]:=fZ1 HC.o.2.2.1;refine ⟨_,rfl,?_,(H0.o.1.trans (HC.o.2.1.trans (c:=wr.alloc (.cells #[.int .i64 y] 3)) kOf)).trans' HO.o.2 (fun b hb=>.inr (bZ1 hws (HC.o.1.lt b hb).1))⟩;have h5:=HO.o.1;rw [he] at h5;rw [HC.o.2.2.2,if_pos trivial];exact h5.base hws
   ·have ez:((j:Int)==0)=false:=zV;have HZ:=jJ hz;clear hz;rcases Nat.lt_or_ge j nq with hjq|hjq
    ·have j5:j=5:=zZ;subst j5;have e0:decide (((5:Nat):Int)<(nq:Int))=true:=zV;clear hlt hjn;go_wp2_with fail
     go_ret
     refine ⟨_,rfl,?_,H0.o.1.trans HC.o.2.1⟩;rw [HC.o.2.2.2,if_neg HZ.o];exact HC.o.1.base hws
    ·have e0:decide ((j:Int)<(nq:Int))=false:=zV;clear hlt hjn;go_wp2_with fail
     go_ret
     refine ⟨_,rfl,?_,H0.o.1.trans HC.o.2.1⟩;rw [HC.o.2.2.2,if_neg HZ.o];exact HC.o.1.base hws
end
structure St where
 A:aC
 sp:Int
 ov:Int
 ids:List Int
section
variable {V ids:List Int} {nodes limbs sp ov:Int} {j:Nat} {X:aY}
def jQ (A:aC) (nodes limbs sp ov:Int) (ids:List Int) (m:dO):(Int × Int) × aC × (Int × Int):=
 if nC m=0 then cX A nodes limbs sp ov m.x
 else if nC m=1 then dW A nodes limbs sp ov 5 (ofM m ids)
 else if nC m=2 then dW A nodes limbs sp ov 6 (ofM m ids)
 else if nC m=3 then dY A nodes limbs sp ov 7 (BX m) ((ofM m ids).getD 0 0)
 else dY A nodes limbs sp ov 8 (BX m) ((ofM m ids).getD 0 0)
def RD (r:(Int × Int) × aC × (Int × Int)) (ids:List Int):St:=⟨r.2.1,r.2.2.1,r.2.2.2,if r.1.2=0 then ids++[r.1.1] else ids⟩
def kS (nodes limbs:Int) (s:St) (m:dO):St:=RD (jQ s.A nodes limbs s.sp s.ov s.ids m) s.ids
def jY (nodes limbs:Int) (s:St) (l:List dO):St:=l.foldl (kS nodes limbs) s
theorem aOS (nodes limbs:Int) (s:St) (l:List dO) (m:dO):jY nodes limbs s (l++[m])=kS nodes limbs (jY nodes limbs s l) m:=by simp [jY]
def jM (V:List Int) (X:aY):Prop:=cB 2448576 262144 V ⟨X.t.parts,X.t.k⟩∧eP X.d.natAbs≤2448576
theorem aBG {A:aC} (h:fP V nodes A sp) (hX:jM V X):Sound V nodes A sp ov (cX A nodes limbs sp ov X):=by
 have h2:=h.once.two;have hb:=nJ (k:=X.kind) hX.1 hX.2 zY;unfold cX;obtain ⟨k,d,⟨l,z⟩⟩:=X;simp only at hb⊢;obtain ⟨⟨e,B⟩,hr⟩:∃r,r=bJ ⟨k,d,⟨l,z⟩⟩:=⟨_,rfl⟩;rw [←hr] at hb⊢;simp only at hb;by_cases he:e=0
 ·subst he;by_cases hk:B.kind≤1
  ·rw [BD hk];exact Sound.same h fun _=>⟨hb.kind.1,zZ⟩
  ·rw [AA hk];exact TH h (JJ hb zZ)
 ·rw [KM he];exact Sound.same h fun q=>absurd q he
theorem aPR {A:aC} {m:dO} (h:fP V nodes A sp) (hX:jM V m.x):Sound V nodes A sp ov (jQ A nodes limbs sp ov ids m):=by
 unfold jQ;split
 ·exact aBG h hX
 split
 ·exact TD h
 split
 ·exact TD h
 split
 ·exact TJ h
 ·exact TJ h
structure mJ (V:List Int) (nodes:Int) (s:St) (j:Nat):Prop where
 inv:fP V nodes s.A s.sp
 two:2≤s.ids.length
 len:s.ids.length≤j+2
 ids:∀i∈s.ids,0≤i∧i<(s.A.nodes.length:Int)
theorem mJ.step {s:St} {m:dO} (h:mJ V nodes s j) (hX:jM V m.x):mJ V nodes (kS nodes limbs s m) (j+1):=by
 obtain ⟨q1,q2,q3,q4,q5,q6⟩:=aPR (limbs:=limbs) (ov:=s.ov) (ids:=s.ids) h.inv hX;unfold kS RD;have hi:=h.ids;refine ⟨q1,?_,?_,?_⟩
 ·simp only;split
  ·simp;have:=h.two;omega
  ·exact h.two
 ·simp only;split
  ·simp;exact h.len
  ·have:=h.len;omega
 ·simp only;intro i hm;split at hm
  ·rename_i he;rcases jZ1.1 hm with hm|hm
   ·have:=hi i hm;omega
   ·rw [dZ1.1 hm];exact q4 he
  ·have:=hi i hm;omega
theorem mJ.build {V:List Int} {nodes limbs:Int}:∀{l:List dO} {s:St} {j:Nat},mJ V nodes s j→(∀m∈l,jM V m.x)→mJ V nodes (jY nodes limbs s l) (j+l.length)
 | [],s,j,h,_=>h
 | m::l,s,j,h,hl=>by
  have:=mJ.build (limbs:=limbs) (h.step (limbs:=limbs) (hl m (kZ1 ..))) fun x hx=>hl x (lZ1 _ hx);rw [gZ1,show j+(l.length+1)=j+1+l.length by omega];exact this
theorem mJ.start {A:aC} (h:fP V nodes A sp):mJ V nodes ⟨A,sp,ov,[0,1]⟩ 0:=
 ⟨h,zW,zW,fun i hi=>by have:=h.once.two;simp only;rcases mZ1.1 hi with rfl|hi;exact⟨zZ,zZ⟩;rw [dZ1.1 hi];exact⟨zZ,zZ⟩⟩
end
end Go.Proofs.Q
