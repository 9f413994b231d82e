/- From the form's own reading of an argument to the words of the walks: slices of whatever elements, limbs, numb. -/
import Derived.Lib.SmallJoins
import Derived.Test.YtlldghknenbccaaGreatDoorPInvB
set_option linter.unusedSimpArgs false
set_option linter.unusedVariables false
set_option maxRecDepth 100000
set_option maxHeartbeats 2000000
namespace Go.Proofs.Q
open Go.RowKit Go.Deep Go.ChangeShapes Go.WideShapes Go.Joins Go.Proofs.YtlldghknenbccaaGreatDoor Tryz
section
section
variable {H:Type} {enc:TypeId × Value→H} {P:Program} {w:World}
def Light (P:Program) (t:TypeId) (d:DataW H):Prop:=∀x∈d.weights P t,x≤reachBytes
theorem Light.slice {t e:TypeId} {elems spare:List (DataW H)} (h:Light P t (.slice elems spare)) (ht:P.underlying t=some (.slice e)):(elems.length+spare.length)*P.bytesOf e≤reachBytes:=
 h _ (by simp [DataW.weights,ht])
theorem cells_of {b:Nat} {a:Addr} {n:Nat} {cs:List Value} (h:w.cells? b a n=some cs):cs.length=n∧∀j,j<n→w.cell? (a.add j)=cs[j]?:=by
 unfold World.cells? at h;split at h
 ·have hl:=mapM_some_length h;refine ⟨by simpa using hl,fun j hj=>?_⟩;have:=mapM_some_get h j j (by simp [hj]);simpa using this
 ·cases h
end
end
section
section
variable {H:Type} {enc:TypeId × Value→H} {w:World}
end
end
section
variable {cs:List Value} {fuel:Nat} {r:List (String × DataW Unit)} {x:String × DataW Unit} {P:Program} {W:World}
section
variable {H:Type} {enc:TypeId × Value→H} {w:World}
theorem slice_shape {t e:TypeId} {x:DataW H × List MemPlace} (ht:prog.underlying t=some (.slice e)) (h:DataW.trod enc prog w 0 (fun _=>true) true fuel t cs=some x):∃a n c,cs=[.slice a n c]:=by
 rcases open_slice ht h with ⟨rfl,-⟩|⟨a,len,cap,m,n,D,Pl,rfl,-⟩
 ·exact⟨_,_,_,rfl⟩
 ·exact⟨_,_,_,rfl⟩
theorem int_shape {x:DataW H × List MemPlace} (h:DataW.trod enc prog w 0 (fun _=>true) true fuel 25 cs=some x):∃g a n c,cs=[.bool g,.slice a n c]:=by
 obtain ⟨y0,y1,n,rfl,hl,h0,h1⟩:=trod_struct2 underlying25 h;have hc:prog.cellsOf 25=2:=by kernel_rfl
 have hc0:prog.cellsOf 4=1:=by kernel_rfl
 have hc1:prog.cellsOf 23=1:=by kernel_rfl
 rw [hc] at hl
 match cs,hl with
 | [c0,c1],_=>
  simp only [hc0,hc1,List.drop_zero,List.take_succ_cons,List.take_zero,List.drop_succ_cons] at h0 h1;obtain ⟨b,e0,_⟩:=DataW.trod_bool underlying4 h0;obtain ⟨a,n,c,e1⟩:=slice_shape underlying23 h1;cases e0;cases e1;exact⟨_,_,_,_,rfl⟩
theorem term_shape {x:DataW H × List MemPlace} (h:DataW.trod enc prog w 0 (fun _=>true) true fuel 27 cs=some x):∃ap np cp g a n c,cs=[.slice ap np cp,.bool g,.slice a n c]:=by
 obtain ⟨y0,y1,n,rfl,hl,h0,h1⟩:=trod_struct2 underlying27 h;have hc:prog.cellsOf 27=3:=by kernel_rfl
 have hc0:prog.cellsOf 22=1:=by kernel_rfl
 have hc1:prog.cellsOf 25=2:=by kernel_rfl
 rw [hc] at hl
 match cs,hl with
 | [c0,c1,c2],_=>
  simp only [hc0,hc1,List.drop_zero,List.take_succ_cons,List.take_zero,List.drop_succ_cons] at h0 h1;obtain ⟨ap,np,cp,e0⟩:=slice_shape underlying22 h0;obtain ⟨g,a,n,c,e1⟩:=int_shape h1;cases e0;cases e1;exact⟨_,_,_,_,_,_,_,rfl⟩
end
theorem laid_tail {w:World} (h:laidMet P (x::r) w):laidMet P r w:=by
 obtain ⟨ps,hv,hnd,hrows⟩:=h;obtain ⟨n,d⟩:=x;obtain ⟨g,t,cs,fuel,p,q,_,_,_,_,hq,rfl⟩:=hv;exact⟨q,hq,List.Nodup.sublist (List.sublist_append_right _ _) hnd,fun b off hm=>hrows b off (List.mem_append_right _ hm)⟩
theorem gTab:prog.globalNamed "internal/strconv.uint64pow10"=some 0:=by kernel_rfl
theorem gTabType:(prog.globals[0]?).map (·.type)=some 262:=by kernel_rfl
theorem cellsTab:prog.cellsOf 262=20:=by kernel_rfl
theorem cellsU64:prog.cellsOf 111=1:=by kernel_rfl
theorem tab_of_laid (h:laidMetH prog [("math/bits.deBruijn32tab",Rows.laid_math_bits_deBruijn32tab),("math/bits.deBruijn64tab",Rows.laid_math_bits_deBruijn64tab),("internal/strconv.uint64pow10",Rows.laid_internal_strconv_uint64pow10)] W):Tab W.heap.size W:=
 ⟨bZ2 _,Lib.tabBelow_of_tabIs (Lib.tabIs_of_head (rest:=[]) gTab gTabType underlying262 underlying111 cellsU64 cellsTab (laid_tail (laid_tail h)))⟩
def litOf (d:DataW Unit):Value:=match d with
 | .lit (.int k z)=>.int k z
 | _=>undef
def litsOf (d:DataW Unit):List Value:=match d with
 | .agg ps=>ps.map litOf
 | _=>[]
def setTab (d:DataW Unit) (o:Obj):Obj:=match o with
 | .cells _ t frozen=>.cells (litsOf d).toArray t frozen
 | o=>o
noncomputable def laidWorld (os:Os):World:=
 { World.holding prog os ⟨#[],#[],[]⟩ with heap:=(((World.holding prog os ⟨#[],#[],[]⟩).heap.modify 0 (setTab Rows.laid_internal_strconv_uint64pow10)).modify 1 (setTab Rows.laid_math_bits_deBruijn32tab)).modify 2 (setTab Rows.laid_math_bits_deBruijn64tab) }
end
structure dG where
 kind:Int
 x:bB
 v:Int
 kids:List Int
section
variable {cs:List Value} {fuel:Nat} {a:Option Addr} {M:Nat→Prop} {g:Bool} {z:Int}
theorem bulk_pos {H:Type} (d:DataW H):1≤Rows.uptoBulk d:=by
 cases d with
 | lit l=>cases l<;>simp [Rows.uptoBulk]
 | nil=>simp [Rows.uptoBulk]
 | ptr d=>simp [Rows.uptoBulk]
 | slice elems spare=>simp [Rows.uptoBulk]
 | agg parts=>simp [Rows.uptoBulk]
 | iface t d=>simp [Rows.uptoBulk]
 | map entries=>simp [Rows.uptoBulk]
 | held h=>simp [Rows.uptoBulk]
theorem bulk_mem {H:Type} {d:DataW H}:∀{l:List (DataW H)},d∈l→Rows.uptoBulk d≤Rows.uptoBulkAll l
 | x::r,h=>by
  simp only [Rows.uptoBulkAll];rcases mZ1.1 h with e|e
  ·subst e;omega
  ·have:=bulk_mem e;omega
theorem bulk_sum {H:Type} {β:Type} {g:β→Nat} {D:β→DataW H}:∀l:List β,(∀i∈l,g i≤Rows.uptoBulk (D i))→(l.map g).sum≤Rows.uptoBulkAll (l.map D)
 | [],_=>by simp
 | i::l,h=>by
  have h1:=h i (kZ1 ..);have h2:=bulk_sum l fun j hj=>h j (lZ1 _ hj);simp only [dZ2,List.sum_cons,Rows.uptoBulkAll];omega
section
variable {H:Type} {enc:TypeId × Value→H} {w:World}
theorem slB_of_trod {α:Type} {R:List Value→α→Prop} {size:α→Nat} {Q:α→Prop} {d:α} {t e:TypeId} {sz:Nat} {x:DataW H × List MemPlace} (ht:prog.underlying t=some (.slice e)) (hsz:prog.cellsOf e=sz) (h0:0<sz)
  (h:DataW.trod enc prog w 0 (fun _=>true) true fuel t cs=some x) (hb:Rows.uptoBulk x.1≤1048576)
  (hR:∀n cs' y,cs'.length=sz→DataW.trod enc prog w 0 (fun _=>true) true n e cs'=some y→Rows.uptoBulk y.1≤1048576→∃z,R cs' z∧size z≤Rows.uptoBulk y.1∧Q z) :
  ∃a n c xs,cs=[.slice a n c]∧SlOf Nil w sz R d a n c xs∧(xs.map size).sum+1≤Rows.uptoBulk x.1∧∀z∈xs,Q z:=by
 rcases open_slice ht h with ⟨rfl,rfl⟩|⟨a,len,cap,m,n,D,Pl,rfl,_,hle,hcm,hm,rfl,hel⟩
 ·exact⟨_,_,_,[],rfl,SlOf.nil,by simpa using bulk_pos _,fun z hz=>by cases hz⟩
 ·simp only [if_true] at hm;subst hm;have hD:∀i,i<len→∃(p:List Value × α),p.1.length=sz∧(∀j,j<sz→w.cell? (a.add (i*sz+j))=p.1[j]?)∧R p.1 p.2∧size p.2≤Rows.uptoBulk (D i)∧Q p.2:=by
   intro i hi;obtain ⟨cs',h1,h2⟩:=hel i (by omega);obtain ⟨hl,hc⟩:=cells_of h1;rw [hsz] at hl hc;obtain ⟨z,hz,hs,hq⟩:=hR n cs' _ hl h2 (bZ1 (bulk_mem (iZ2.2 ⟨i,List.mem_range.2 hi,rfl⟩)) (by simp only [Rows.uptoBulk] at hb;omega));refine ⟨(cs',z),hl,fun j hj=>?_,hz,hs,hq⟩;rw [←add_add];exact hc j hj
  haveI:Inhabited (List Value × α):=⟨([],d)⟩;obtain ⟨f,hf⟩:=choose_lt hD;refine ⟨_,_,_,(List.range len).map fun i=>(f i).2,rfl,⟨by simp,fun i=>(f i).1,⟨hle,by unfold maxLen at hcm;exact hcm,(fun h=>by cases h),fun p hp hl0=>?_⟩,fun i hi=>⟨(hf i hi).1,?_⟩⟩,?_,fun z hz=>?_⟩
  ·cases hp
   have hc0:=(hf 0 hl0).2.1 0 h0;have hs0:∃v,w.cell? a=some v:=by
    have hl:=(hf 0 hl0).1;simp only [Nat.zero_mul,Nat.zero_add,Addr.add_zero'] at hc0;rw [jZ2 (by omega)] at hc0;exact⟨_,hc0⟩
   obtain ⟨v0,hv0⟩:=hs0;have hsp:=World.cell?_spot hv0;refine ⟨hsp,World.block_lt_of_cell? w a hv0,id,fun i j hi hj=>?_⟩;have:=(hf i hi).2.1 j hj;obtain ⟨b,off,spot⟩:=a;simp only at hsp;subst hsp;rw [Addr.add_lit] at this;rw [Nat.add_assoc,this];simp [List.getD,jZ2 (show j<(f i).1.length by rw [(hf i hi).1];exact hj)]
  ·simp only [List.getD,List.getElem?_map,List.getElem?_range hi,Option.map_some,Option.getD_some];exact (hf i hi).2.2.1
  ·rw [List.map_map];have:=bulk_sum (g:=size ∘ fun i=>(f i).2) (D:=D) (List.range len) fun i hi=>(hf i (List.mem_range.1 hi)).2.2.2.1;simp only [Rows.uptoBulk];omega
  ·obtain ⟨i,hi,rfl⟩:=iZ2.1 hz;exact (hf i (List.mem_range.1 hi)).r4
theorem limbsB_of_trod {x:DataW H × List MemPlace} (h:DataW.trod enc prog w 0 (fun _=>true) true fuel 23 cs=some x) (hb:Rows.uptoBulk x.1≤1048576) :
  ∃a n c l,cs=[.slice a n c]∧aR Nil w a n c l∧n+1≤Rows.uptoBulk x.1:=by
 obtain ⟨a,n,c,xs,rfl,hs,hsum,-⟩:=slB_of_trod (R:=fun cs z=>cs=[.int .u32 (z:Nat)]∧z<4294967296) (size:=fun _=>1) (Q:=fun _=>True) (d:=0) (sz:=1) underlying23 (by kernel_rfl) (by decide) h hb (fun n cs' y _ hy _=>by
  obtain ⟨z,rfl,_,hz⟩:=DataW.trod_int underlying112 hy;have hz':=bounds_u32 hz;exact⟨z.toNat,⟨by rw [Int.toNat_of_nonneg hz'.1],by omega⟩,bulk_pos _,trivial⟩)
 obtain ⟨f,h1,h2⟩:=hs.ex;refine ⟨a,n,c,xs,rfl,⟨hs.len,h1.congr fun i j hi hj=>?_,fun x hx=>?_⟩,?_⟩
 ·obtain rfl:j=0:=by omega
  rw [(h2 i hi).2.1];rfl
 ·obtain ⟨i,hi,rfl⟩:=gZ3 hx;have:=(h2 i (by have:=hs.len;omega)).2.2;simpa [List.getD,jZ2 hi] using this
 ·have hl:=hs.len;have hc:∀xs:List Nat,(xs.map fun _=>1).sum=xs.length:=fun xs=>by induction xs with|nil=>rfl|cons x xs ih=>rw [dZ2,List.sum_cons,ih,gZ1];omega
  have:=hc xs;omega
def BNum (w:World) (cs:List Value) (z:Int):Prop:=∃g a n c,cs=[.bool g,.slice a n c]∧ZAt Nil w g a n c z∧n≤1048576
theorem zat_nlen {n c:Nat} (h:ZAt M w g a n c z):nlen z.natAbs≤n:=by
 obtain ⟨l,hl,_,rfl⟩:=h;have h1:=nlen_le hl.lt;rw [hl.len] at h1;rw [ival_abs];exact h1
theorem numB_of_trod {x:DataW H × List MemPlace} (h:DataW.trod enc prog w 0 (fun _=>true) true fuel 25 cs=some x) (hb:Rows.uptoBulk x.1≤1048576) :
  ∃z,BNum w cs z:=by
 obtain ⟨y0,y1,n,hx,hl,h0,h1⟩:=trod_struct2 underlying25 h;have hc:prog.cellsOf 25=2:=by kernel_rfl
 have hc0:prog.cellsOf 4=1:=by kernel_rfl
 have hc1:prog.cellsOf 23=1:=by kernel_rfl
 rw [hc] at hl;rw [hx] at hb;simp only [Rows.uptoBulk,Rows.uptoBulkAll] at hb
 match cs,hl with
 | [c0,c1],_=>
  simp only [hc0,hc1,List.drop_zero,List.take_succ_cons,List.take_zero,List.drop_succ_cons] at h0 h1;obtain ⟨b,e0,_⟩:=DataW.trod_bool underlying4 h0;obtain ⟨a,n,c,l,e1,hL1,hr⟩:=limbsB_of_trod h1 (by omega);cases e0;cases e1;exact⟨ival (b,l),b,a,n,c,rfl,⟨l,hL1,by omega,rfl⟩,by omega⟩
def BPart (p:Int × Int):Prop:=nlen p.2.natAbs≤1048576∧I64 p.1
theorem partB_of_trod {x:DataW H × List MemPlace} (h:DataW.trod enc prog w 0 (fun _=>true) true fuel 96 cs=some x) (hb:Rows.uptoBulk x.1≤1048576) :
  ∃p,RPart Nil w cs p∧5≤Rows.uptoBulk x.1∧BPart p:=by
 obtain ⟨y0,y1,n,hx,hl,h0,h1⟩:=trod_struct2 underlying96 h;have hc:prog.cellsOf 96=3:=by kernel_rfl
 have hc0:prog.cellsOf 3=1:=by kernel_rfl
 have hc1:prog.cellsOf 25=2:=by kernel_rfl
 rw [hc] at hl;rw [hx] at hb⊢;simp only [Rows.uptoBulk,Rows.uptoBulkAll] at hb⊢
 match cs,hl with
 | [c0,c1,c2],_=>
  simp only [hc0,hc1,List.drop_zero,List.take_succ_cons,List.take_zero,List.drop_succ_cons] at h0 h1;obtain ⟨v,e0,_,k0⟩:=DataW.trod_int underlying3 h0;obtain ⟨z,g,a,n,c,e1,q1,r1⟩:=numB_of_trod h1 (by omega);have h4:3≤Rows.uptoBulk y1.1:=by
   obtain ⟨z0,z1,m,hx1,_⟩:=trod_struct2 underlying25 h1;have a1:=bulk_pos z0.1;have a2:=bulk_pos z1.1;rw [hx1];simp only [Rows.uptoBulk,Rows.uptoBulkAll];omega
  have h5:=bulk_pos y0.1;have kb:=bounds_i64 k0;cases e0;cases e1;exact⟨(v,z),⟨g,a,n,c,rfl,q1,by omega,kb.1,kb.2⟩,by omega,⟨bZ1 (zat_nlen q1) r1,kb⟩⟩
theorem partsB_of_trod {x:DataW H × List MemPlace} (h:DataW.trod enc prog w 0 (fun _=>true) true fuel 22 cs=some x) (hb:Rows.uptoBulk x.1≤1048576) :
  ∃a n c l,cs=[.slice a n c]∧bU Nil Nil w a n c l∧5*l.length+1≤Rows.uptoBulk x.1∧∀p∈l,BPart p:=by
 obtain ⟨a,n,c,l,e,hs,hsum,hq⟩:=slB_of_trod (R:=RPart Nil w) (size:=fun _=>5) (Q:=BPart) (d:=(0,0)) (sz:=3) underlying22 (by kernel_rfl) (by decide) h hb (fun n cs' y _ hy hb'=>by
  obtain ⟨p,q1,q2,q3⟩:=partB_of_trod hy hb';exact⟨p,q1,q2,q3⟩)
 refine ⟨a,n,c,l,e,hs,?_,hq⟩;have hc:∀l:aT,(l.map fun _=>5).sum=l.length*5:=fun l=>by induction l with|nil=>rfl|cons x l ih=>rw [dZ2,List.sum_cons,ih,gZ1];omega
 have:=hc l;omega
def BAtom (w:World) (cs:List Value) (X:bB):Prop:=∃gd ad nd cd ap np cp gk ak nk ck,cs=[.int .i64 X.kind,.bool gd,.slice ad nd cd,.slice ap np cp,.bool gk,.slice ak nk ck]∧ZAt Nil w gd ad nd cd X.d∧bU Nil Nil w ap np cp X.t.parts∧ZAt Nil w gk ak nk ck X.t.k∧nd≤1048576∧nk≤1048576∧(∀p∈X.t.parts,BPart p)∧I64 X.kind
theorem atomB_of_trod {x:DataW H × List MemPlace} (h:DataW.trod enc prog w 0 (fun _=>true) true fuel 82 cs=some x) (hb:Rows.uptoBulk x.1≤1048576):∃X,BAtom w cs X∧5*X.t.parts.length+1≤Rows.uptoBulk x.1:=by
 obtain ⟨y0,y1,y2,n,hx,hl,h0,h1,h2⟩:=trod_struct3 underlying82 h;have hc:prog.cellsOf 82=6:=by kernel_rfl
 have hc0:prog.cellsOf 3=1:=by kernel_rfl
 have hc1:prog.cellsOf 25=2:=by kernel_rfl
 have hc2:prog.cellsOf 27=3:=by kernel_rfl
 have hc3:prog.cellsOf 22=1:=by kernel_rfl
 rw [hc] at hl;rw [hx] at hb⊢;simp only [Rows.uptoBulk,Rows.uptoBulkAll] at hb⊢
 match cs,hl with
 | [c0,c1,c2,c3,c4,c5],_=>
  simp only [hc0,hc1,hc2,List.drop_zero,List.take_succ_cons,List.take_zero,List.drop_succ_cons] at h0 h1 h2;obtain ⟨k,e0,_,kk⟩:=DataW.trod_int underlying3 h0;obtain ⟨d,g,a,nd,c,e1,q1,r1⟩:=numB_of_trod h1 (by omega);obtain ⟨t0,t1,m,hx2,hl2,g0,g1⟩:=trod_struct2 underlying27 h2;rw [hx2] at hb⊢;simp only [Rows.uptoBulk,Rows.uptoBulkAll] at hb⊢;simp only [hc1,hc3,List.drop_zero,List.take_succ_cons,List.take_zero,List.drop_succ_cons] at g0 g1;obtain ⟨ap,np,cp,l,e2,q2,s2,p2⟩:=partsB_of_trod g0 (by omega);obtain ⟨z,g',a',nk,c',e3,q3,r3⟩:=numB_of_trod g1 (by omega);have kb:=bounds_i64 kk;cases e0;cases e1;cases e2;cases e3;exact⟨⟨k,d,⟨l,z⟩⟩,⟨_,_,_,_,_,_,_,_,_,_,_,rfl,q1,q2,q3,r1,r3,p2,kb⟩,by simp only;omega⟩
end
end
def pickN (c:Int) (n:Nat):Nat:=(if c<0 then (-(c+1)).toNat else c.toNat) % n
theorem pickN_lt {c:Int} {n:Nat} (h:0<n):pickN c n<n:=Nat.mod_lt _ h
theorem pickN_eq {c:Int} {n:Nat}:(pickN c n:Int)=(if c<0 then -(c+1) else c) % (n:Int):=by
 unfold pickN;split
 ·obtain ⟨m,hm⟩:∃m:Nat,-(c+1)=(m:Int):=⟨(-(c+1)).toNat,by omega⟩;rw [hm,Int.toNat_natCast];exact Int.natCast_emod m n
 ·obtain ⟨m,hm⟩:∃m:Nat,c=(m:Int):=⟨c.toNat,by omega⟩;rw [hm,Int.toNat_natCast];exact Int.natCast_emod m n
def whatM (m:dG):Int:=if pickN m.kind 16<9 then 0 else if pickN m.kind 16<12 then 1 else if pickN m.kind 16<14 then 2 else (pickN m.kind 16:Int)-11
def varM (m:dG):Int:=(pickN m.v 4:Nat)
def ofUp (m:dG) (ids:List Int) (j:Nat):List Int:=(m.kids.take j).map fun c=>ids.getD (pickN c ids.length) 0
def ofM (m:dG) (ids:List Int):List Int:=if (ofUp m ids 5).length=0 then [ids.getD (ids.length-1) 0] else ofUp m ids 5
theorem ofUp_succ (m:dG) (ids:List Int) {j:Nat} (h:j<m.kids.length):ofUp m ids (j+1)=ofUp m ids j++[ids.getD (pickN (m.kids.getD j 0) ids.length) 0]:=by
 unfold ofUp;rw [take_snoc_getD h,cZ2];rfl
def MakeAt (M:Nat→Prop) (w:World) (gd:Bool) (ad:Option Addr) (nd cd:Nat) (ap:Option Addr) (np cp:Nat) (gk:Bool) (ak:Option Addr) (nk ck:Nat) (aq:Option Addr) (nq cq:Nat) (m:dG):Prop:=
 ZAt M w gd ad nd cd m.x.d∧bU M M w ap np cp m.x.t.parts∧ZAt M w gk ak nk ck m.x.t.k∧nd≤1048576∧nk≤1048576∧(∀p∈m.x.t.parts,Go.Proofs.Q.BPart p)∧I64 m.x.kind∧cB M w aq nq cq m.kids∧(∀k∈m.kids,I64 k)∧I64 m.kind∧I64 m.v
theorem MakeAt.move {M M' M2:Nat→Prop} {w w':World} {gd gk:Bool} {ad ap ak aq:Option Addr} {nd cd np cp nk ck nq cq:Nat} {m:dG} (h:MakeAt M w gd ad nd cd ap np cp gk ak nk ck aq nq cq m) (k:aA M' w w') (h1:∀b,b<w.heap.size→M' b→M b) (h2:∀b,b<w.heap.size→M2 b→M b):MakeAt M2 w' gd ad nd cd ap np cp gk ak nk ck aq nq cq m:=
 ⟨h.1.move k h1 h2,SlOf.move h.2.1 k h1 h2 fun _ _ hx=>RPart.moves hx k h1 h2,h.2.2.1.move k h1 h2,h.2.2.2.1,h.r4.1,h.r5.1,h.r6.1,h.r7.1.move k h1 h2,h.r8⟩
def RMake (M:Nat→Prop) (w:World) (cs:List Value) (m:dG):Prop:=∃gd ad nd cd ap np cp gk ak nk ck aq nq cq,cs=[.int .i64 m.kind,.int .i64 m.x.kind,.bool gd,.slice ad nd cd,.slice ap np cp,.bool gk,.slice ak nk ck,.int .i64 m.v,.slice aq nq cq]∧MakeAt M w gd ad nd cd ap np cp gk ak nk ck aq nq cq m
theorem RMake.moves:Moves RMake:=fun _ _ _ _ _ _ _ h k h1 h2=>by
 obtain ⟨gd,ad,nd,cd,ap,np,cp,gk,ak,nk,ck,aq,nq,cq,e,q⟩:=h;exact⟨gd,ad,nd,cd,ap,np,cp,gk,ak,nk,ck,aq,nq,cq,e,q.move k h1 h2⟩
def zeroM:dG:=⟨0,⟨0,0,bH⟩,0,[]⟩
def MakesAt (M:Nat→Prop) (w:World) (a:Option Addr) (n c:Nat) (l:List dG):Prop:=SlOf M w 9 (RMake M w) zeroM a n c l
theorem MakesAt.move {M M' M2:Nat→Prop} {w w':World} {a:Option Addr} {n c:Nat} {l:List dG} (h:MakesAt M w a n c l) (k:aA M' w w') (h1:∀b,b<w.heap.size→M' b→M b) (h2:∀b,b<w.heap.size→M2 b→M b):MakesAt M2 w' a n c l:=SlOf.move h k h1 h2 fun _ _ hx=>RMake.moves hx k h1 h2
def varsM (l:List dG):List Int:=(l.flatMap fun m=>m.x.t.parts.map (·.1))++[0,1,2,3]
section
variable {cs:List Value} {fuel n:Nat} {gd gk:Bool} {ad ap ak aq ai:Option Addr} {ids:List Int} {c:Int}
section
variable {H:Type} {enc:TypeId × Value→H} {w:World}
theorem numsB_of_trod {x:DataW H × List MemPlace} (h:DataW.trod enc prog w 0 (fun _=>true) true fuel 56 cs=some x) (hb:Rows.uptoBulk x.1≤1048576) :
  ∃a n c l,cs=[.slice a n c]∧cB Nil w a n c l∧l.length+1≤Rows.uptoBulk x.1∧∀k∈l,I64 k:=by
 obtain ⟨a,n,c,l,e,hs,hsum,hq⟩:=slB_of_trod (R:=RI) (size:=fun _=>1) (Q:=I64) (d:=0) (sz:=1) underlying56 (by kernel_rfl) (by decide) h hb (fun n cs' y _ hy _=>by
  obtain ⟨z,rfl,_,hz⟩:=DataW.trod_int underlying3 hy;exact⟨z,rfl,bulk_pos _,bounds_i64 hz⟩)
 refine ⟨a,n,c,l,e,hs,?_,hq⟩;have hc:∀l:List Int,(l.map fun _=>1).sum=l.length:=fun l=>by induction l with|nil=>rfl|cons x l ih=>rw [dZ2,List.sum_cons,ih,gZ1];omega
 have:=hc l;omega
theorem makeB_of_trod {x:DataW H × List MemPlace} (h:DataW.trod enc prog w 0 (fun _=>true) true fuel 125 cs=some x) (hb:Rows.uptoBulk x.1≤1048576):∃m,RMake Nil w cs m∧5*m.x.t.parts.length+1≤Rows.uptoBulk x.1:=by
 obtain ⟨y0,y1,y2,y3,n,hx,hl,h0,h1,h2,h3⟩:=trod_struct4 underlying125 h;have hc:prog.cellsOf 125=9:=by kernel_rfl
 have hc0:prog.cellsOf 3=1:=by kernel_rfl
 have hc1:prog.cellsOf 82=6:=by kernel_rfl
 have hc2:prog.cellsOf 56=1:=by kernel_rfl
 rw [hc] at hl;rw [hx] at hb⊢;simp only [Rows.uptoBulk,Rows.uptoBulkAll] at hb⊢
 match cs,hl with
 | [c0,c1,c2,c3,c4,c5,c6,c7,c8],_=>
  simp only [hc0,hc1,hc2,List.drop_zero,List.take_succ_cons,List.take_zero,List.drop_succ_cons] at h0 h1 h2 h3;obtain ⟨k,e0,_,kk⟩:=DataW.trod_int underlying3 h0;obtain ⟨X,⟨gd,ad,nd,cd,ap,np,cp,gk,ak,nk,ck,e1,q1,q2,q3,r1,r3,p2,kx⟩,s1⟩:=atomB_of_trod h1 (by omega);obtain ⟨v,e2,_,kv⟩:=DataW.trod_int underlying3 h2;obtain ⟨aq,nq,cq,ks,e3,q4,s4,k4⟩:=numsB_of_trod h3 (by omega);have kb:=bounds_i64 kk;have kvb:=bounds_i64 kv;cases e0;cases e1;cases e2;cases e3;exact⟨⟨k,X,v,ks⟩,⟨_,_,_,_,_,_,_,_,_,_,_,_,_,_,rfl,q1,q2,q3,r1,r3,p2,kx,q4,k4,kb,kvb⟩,by simp only;omega⟩
theorem makesB_of_trod {x:DataW H × List MemPlace} (h:DataW.trod enc prog w 0 (fun _=>true) true fuel 39 cs=some x) (hb:Rows.uptoBulk x.1≤1048576) :
  ∃a n c l,cs=[.slice a n c]∧MakesAt Nil w a n c l∧5*(varsM l).length+l.length≤Rows.uptoBulk x.1+20:=by
 obtain ⟨a,n,c,l,e,hs,hsum,-⟩:=slB_of_trod (R:=RMake Nil w) (size:=fun m=>5*m.x.t.parts.length+1) (Q:=fun _=>True) (d:=zeroM) (sz:=9) underlying39 (by kernel_rfl) (by decide) h hb (fun n cs' y _ hy hb'=>by
  obtain ⟨m,q1,q2⟩:=makeB_of_trod hy hb';exact⟨m,q1,q2,trivial⟩)
 refine ⟨a,n,c,l,e,hs,?_⟩;have:∀l:List dG,5*(varsM l).length+l.length=(l.map fun m=>5*m.x.t.parts.length+1).sum+20:=by
  intro l;induction l with
  | nil=>simp [varsM]
  | cons m l ih=>
   simp only [varsM,eZ2,aZ1,hZ1,gZ1,gZ2,dZ2,List.sum_cons] at ih⊢;omega
 have:=this l;omega
end
theorem pick8_any {w:World} (h:I64 c) (hn:1≤n) (hn2:n≤1000000) :
  Calls prog 30 #[.int .i64 c,.int .i64 (n:Int)] w fun e w'=>e=.returned (.int .i64 (pickN c n:Nat))∧w=w':=by
 obtain ⟨h0,h1⟩:=h;have HP:=jJ (pickN_eq (c:=c) (n:=n));have hnI:¬(n:Int)=0:=by omega
 by_cases hc:c<0
 ·obtain ⟨m,hm⟩:∃m:Nat,-(c+1)=(m:Int):=⟨(-(c+1)).toNat,by omega⟩;have HM:=jJ hm;go_enter func30,ntmps30
  go_wp2_with fail
  go_ret
  rw [HP.o,if_pos hc,HM.o];exact⟨rfl,rfl⟩
 ·obtain ⟨m,rfl⟩:∃m:Nat,c=(m:Int):=⟨c.toNat,by omega⟩;go_enter func30,ntmps30
  go_wp2_with fail
  go_ret
  rw [HP.o,if_neg (by omega)];exact⟨rfl,rfl⟩
theorem what8_any {w:World} {nd cd np cp nk ck nq cq:Nat} {m:dG} (h:I64 m.kind) :
  Calls prog 79 #[.agg #[.int .i64 m.kind,.int .i64 m.x.kind,.bool gd,.slice ad nd cd,.slice ap np cp,.bool gk,.slice ak nk ck,.int .i64 m.v,.slice aq nq cq]] w fun e w'=>e=.returned (.int .i64 (whatM m))∧aA Nil w w':=by
 have HK:=jJ h;clear h;go_enter func79,ntmps79
 go_upto_region 1 with (fail)
 obtain ⟨w0,e_1,q0,r0⟩:=bx1 w 125 [.int .i64 m.kind,.int .i64 m.x.kind,.bool gd,.slice ad nd cd,.slice ap np cp,.bool gk,.slice ak nk ck,.int .i64 m.v,.slice aq nq cq];rw [e_1];clear e_1;have c0:w0.cell? ⟨w.heap.size,0,none⟩=some (.int .i64 m.kind):=r0.cell 0;have H0:=jJ q0;clear q0 r0;obtain ⟨p,hp⟩:∃p,p=pickN m.kind 16:=⟨_,rfl⟩;have HP:=jJ hp;have hp16:p<16:=by rw [hp];exact pickN_lt (by decide)
 clear hp;go_upto_region 2 with (go_at_call 30;refine (pick8_any (n:=16) HK.o (by decide) (by decide)).mono ?_;rintro e w1 ⟨rfl,rfl⟩;rw [←HP.o])
 have hw:whatM m=if p<9 then 0 else if p<12 then 1 else if p<14 then 2 else (p:Int)-11:=by rw [HP.o];rfl
 have HW:=jJ hw;clear hw c0;by_cases h9:p<9
 ·have e9:decide ((p:Int)<9)=true:=by simp;omega
  go_wp2_with fail
  go_ret
  rw [HW.o,if_pos h9];exact⟨rfl,H0.o⟩
 have e9:decide ((p:Int)<9)=false:=by simp;omega
 by_cases h12:p<12
 ·have e12:decide ((p:Int)<12)=true:=by simp;omega
  go_wp2_with fail
  go_ret
  rw [HW.o,if_neg h9,if_pos h12];exact⟨rfl,H0.o⟩
 have e12:decide ((p:Int)<12)=false:=by simp;omega
 by_cases h14:p<14
 ·have e14:decide ((p:Int)<14)=true:=by simp;omega
  go_wp2_with fail
  go_ret
  rw [HW.o,if_neg h9,if_neg h12,if_pos h14];exact⟨rfl,H0.o⟩
 have e14:decide ((p:Int)<14)=false:=by simp;omega
 go_wp2_with fail
 go_ret
 rw [HW.o,if_neg h9,if_neg h12,if_neg h14];exact⟨rfl,H0.o⟩
theorem var8_any {w:World} {nd cd np cp nk ck nq cq:Nat} {m:dG} (h:I64 m.v) :
  Calls prog 81 #[.agg #[.int .i64 m.kind,.int .i64 m.x.kind,.bool gd,.slice ad nd cd,.slice ap np cp,.bool gk,.slice ak nk ck,.int .i64 m.v,.slice aq nq cq]] w fun e w'=>e=.returned (.int .i64 (varM m))∧aA Nil w w':=by
 have HK:=jJ h;clear h;go_enter func81,ntmps81
 go_upto_region 1 with (fail)
 obtain ⟨w0,e_2,q0,r0⟩:=bx1 w 125 [.int .i64 m.kind,.int .i64 m.x.kind,.bool gd,.slice ad nd cd,.slice ap np cp,.bool gk,.slice ak nk ck,.int .i64 m.v,.slice aq nq cq];rw [e_2];clear e_2;have c7:w0.cell? ⟨w.heap.size,7,none⟩=some (.int .i64 m.v):=r0.cell 7;have H0:=jJ q0;clear q0 r0;go_wp2_with (go_at_call 30;refine (pick8_any (n:=4) HK.o (by decide) (by decide)).mono ?_;rintro e w1 ⟨rfl,rfl⟩)
 go_ret
 exact⟨rfl,H0.o⟩
theorem of8_any {M M1:Nat→Prop} {w:World} {nd cd np cp nk ck nq cq:Nat} {m:dG} {ni ci:Nat} (hm:MakeAt M w gd ad nd cd ap np cp gk ak nk ck aq nq cq m) (hi:cB M1 w ai ni ci ids) (h1:1≤ids.length) (h2:ids.length≤1000000) :
  Calls prog 78 #[.agg #[.int .i64 m.kind,.int .i64 m.x.kind,.bool gd,.slice ad nd cd,.slice ap np cp,.bool gk,.slice ak nk ck,.int .i64 m.v,.slice aq nq cq],.slice ai ni ci] w fun e w'=>∃v,e=.returned v∧aL w' w.heap.size 3 1 v (aM (ofM m ids))∧aA Nil w w':=by
 obtain ⟨i1,hi1⟩:=info_parts info_int;have HI:=jJ hi1;have hni:ids.length=ni:=SlOf.len hi;have hcap:=SlOf.cap hi;have hle:=SlOf.le hi;have hnq:m.kids.length=nq:=SlOf.len hm.r7.1;have hcapq:=SlOf.cap hm.r7.1;have hleq:=SlOf.le hm.r7.1;have hni1:1≤ni:=by omega
 have hni2:ni≤1000000:=by omega
 have HA:=jJ (aI4 hm hi hni hnq);clear hi1 hm hi hni hnq h1 h2;go_enter func78,ntmps78
 go_upto_region 1 with (fail)
 obtain ⟨w0,e_3,q0,r0⟩:=bx1 w 125 [.int .i64 m.kind,.int .i64 m.x.kind,.bool gd,.slice ad nd cd,.slice ap np cp,.bool gk,.slice ak nk ck,.int .i64 m.v,.slice aq nq cq];rw [e_3];clear e_3;have H0:=jJ (aI q0 r0);have l0:=r0.lt;clear q0 r0;go_wp2_with fail
 go_loopw [5,6] (fun v i wr=>∃(j:Nat) (va:Option Addr) (vc:Nat),j≤nq∧j≤5∧i=.int .i64 (j:Int)∧v=.slice va j vc∧aL wr w0.heap.size 3 1 (.slice va j vc) (aM (ofUp m ids j))∧aA Nil w0 wr) (fun _ i _=>5-(intOf i).toNat)
 case atStart=>exact⟨0,none,0,aZ2 _,aZ2 _,rfl,rfl,aL.nil _ _ _ _,aA.refl _ _⟩
 case round=>
  obtain ⟨j,va,vc,hj,hj5,rfl,rfl,hown,hkr⟩:=hrel;have c8:wr.cell? ⟨w.heap.size,8,none⟩=some (.slice aq nq cq):=(H0.o.2.keep hkr id).cell 8;have lr:w.heap.size<wr.heap.size:=cZ1 l0 hkr.size;have hcl:(aM (ofUp m ids j)).length=j:=by
   have:=HA.o.2.2.2;rw [aJ];unfold ofUp;rw [hZ1,iZ1];omega
  by_cases hlt:j<nq∧j<5
  ·have hkj:j<m.kids.length:=by have:=HA.o.2.2.2;omega
   obtain ⟨b,off,rfl,ck⟩:=aZ (HA.o.1.r7.1.keepNil (H0.o.1.trans hkr)) hlt.1;have hci:=HA.o.1.r8.1 (m.kids.getD j 0) (cU 0 hkj);have hsu:=ofUp_succ m ids hkj;obtain ⟨x,hx⟩:∃x,x=m.kids.getD j 0:=⟨_,rfl⟩;rw [←hx] at ck hci hsu;rw [HA.o.2.2.1] at hsu;obtain ⟨p,hp⟩:∃p,p=pickN x ni:=⟨_,rfl⟩;have hpl:p<ni:=by rw [hp];exact pickN_lt (by omega)
   obtain ⟨b2,off2,rfl,cp⟩:=aZ (HA.o.2.1.keepNil (H0.o.1.trans hkr)) hpl;rw [←hp] at hsu;obtain ⟨y,hy⟩:∃y,y=ids.getD p 0:=⟨_,rfl⟩;rw [←hy] at hsu cp;have j0:(0:Int)≤(j:Int):=by omega
   have j1:(j:Int)<(nq:Int):=by omega
   have j2:(j:Int)<5:=by omega
   have j3:(0:Int)≤(p:Int):=by omega
   have j4:(p:Int)<(ni:Int):=by omega
   have HC:=jJ (aI7 hown hkr hsu hcl hci hp (cZ1 l0 hkr.size));clear hown hkr hsu hcl hci hp hx hy hlt;go_wp2_with (first|(go_at_call 30;refine (pick8_any (c:=x) (n:=ni) HC.o.r4.1 hni1 hni2).mono ?_;rintro e w1 ⟨rfl,rfl⟩;rw [←HC.o.r5.1])|(at_builtin;go_loud (refine cC _ rfl (.tmp 18) (.tmp 30) 56 rfl w0.heap.size 3 i1 (.int .i64 0) 1 8 underlying56 HI.o.1 HI.o.2.1 HI.o.2.2.1 HI.o.2.2.2 rfl (by decide) (.slice va j vc) _ rfl (HC.o.1.keepNil (w':=wr.alloc (.cells #[.int .i64 y] 3)) kOf) ⟨wr.heap.size,0,none⟩ 1 1 [[.int .i64 y]] rfl rfl (by simp) (alloc_news _ _ _) (by simp [Value.oneCell']) (by rw [HC.o.2.2.2.1];omega) (by rw [HC.o.2.2.2.1];omega) (by have:=HC.o.2.1.size;simp;omega) ?_);intro v' w2 ho hk2 hf2 _;obtain ⟨a7,c7,rfl⟩:=ho.isSlice;have e7:(aM (ofUp m ids j)++[[Value.int .i64 y]]).length=j+1:=(by have q:=HC.o.2.2.2.1;have q2:(aM (ofUp m ids j)++[[Value.int .i64 y]]).length=(aM (ofUp m ids j)).length+1:=aZ1;omega);rw [e7] at ho⊢;have HO:=jJ (aI ho hk2);clear ho hk2 hf2 e7))
   go_roundw
   case rel=>exact⟨j+1,a7,c7,by omega,by omega,by go_num,rfl,by rw [HC.o.2.2.1,cells1_snoc];exact HO.o.1,(HC.o.2.1.trans (c:=wr.alloc (.cells #[.int .i64 y] 3)) kOf).trans' HO.o.2 (fun b hb=>.inr (HC.o.1.lt b hb).1)⟩
   case measure=>simp [intOf];omega
  ·have hend:ofUp m ids j=ofUp m ids 5:=by
    have:=HA.o.2.2.2;unfold ofUp;rcases Nat.lt_or_ge j 5 with h5|h5
    ·rw [eZ1 (by omega),eZ1 (by omega)]
    ·rw [show j=5 by omega]
   rw [hend] at hown hcl;have hjn:j=5∨j=nq:=by omega
   obtain ⟨q,hq⟩:∃q:Nat,ni=q+1:=⟨ni-1,by omega⟩;obtain ⟨b2,off2,rfl,cp⟩:=aZ (HA.o.2.1.keepNil (H0.o.1.trans hkr)) (show q<ni by omega);obtain ⟨y,hy⟩:∃y,y=ids.getD q 0:=⟨_,rfl⟩;rw [←hy] at cp;have hof:ofM m ids=if j=0 then [y] else ofUp m ids 5:=by
    have h3:=HA.o.2.2.1;unfold ofM;rw [show (ofUp m ids 5).length=j by rw [←hcl,aJ],show ids.length-1=q by omega,hy]
   have HC:=jJ (aI4 hown hkr hcl hof);clear hown hkr hcl hof hy hend;subst hq;have hws:w.heap.size≤w0.heap.size:=H0.o.1.size;by_cases hz:j=0
   ·subst hz;have hzq:0=nq:=by omega
    subst hzq;have j3:(0:Int)≤(q:Int):=by omega
    have j4:(q:Int)<((q+1:Nat):Int):=by omega
    clear hjn hlt;go_wp2_with (at_builtin;go_loud (refine cC _ rfl (.tmp 35) (.tmp 42) 56 rfl w0.heap.size 3 i1 (.int .i64 0) 1 8 underlying56 HI.o.1 HI.o.2.1 HI.o.2.2.1 HI.o.2.2.2 rfl (by decide) (.slice va 0 vc) _ rfl (HC.o.1.keepNil (w':=wr.alloc (.cells #[.int .i64 y] 3)) kOf) ⟨wr.heap.size,0,none⟩ 1 1 [[.int .i64 y]] rfl rfl (by simp) (alloc_news _ _ _) (by simp [Value.oneCell']) (by rw [HC.o.2.2.1];omega) (by rw [HC.o.2.2.1];omega) (by have:=HC.o.2.1.size;simp;omega) ?_);intro v' w2 ho hk2 hf2 _;have HO:=jJ (aI ho hk2);clear ho hk2 hf2)
    go_ret
    have he:aM (ofUp m ids 5)=[]:=fZ1 HC.o.2.2.1;refine ⟨_,rfl,?_,(H0.o.1.trans (HC.o.2.1.trans (c:=wr.alloc (.cells #[.int .i64 y] 3)) kOf)).trans' HO.o.2 (fun b hb=>.inr (bZ1 hws (HC.o.1.lt b hb).1))⟩;have h5:=HO.o.1;rw [he] at h5;rw [HC.o.2.2.2,if_pos trivial];exact h5.base hws
   ·have ez:((j:Int)==0)=false:=by simp;omega
    have HZ:=jJ hz;clear hz;rcases Nat.lt_or_ge j nq with hjq|hjq
    ·have j5:j=5:=by omega
     subst j5;have e0:decide (((5:Nat):Int)<(nq:Int))=true:=by simp;omega
     clear hlt hjn;go_wp2_with fail
     go_ret
     refine ⟨_,rfl,?_,H0.o.1.trans HC.o.2.1⟩;rw [HC.o.2.2.2,if_neg HZ.o];exact HC.o.1.base hws
    ·have e0:decide ((j:Int)<(nq:Int))=false:=by simp;omega
     clear hlt hjn;go_wp2_with fail
     go_ret
     refine ⟨_,rfl,?_,H0.o.1.trans HC.o.2.1⟩;rw [HC.o.2.2.2,if_neg HZ.o];exact HC.o.1.base hws
end
structure St where
 A:aF
 sp:Int
 ov:Int
 ids:List Int
section
variable {V ids:List Int} {nodes limbs sp ov:Int} {j:Nat} {X:bB}
def stepR (A:aF) (nodes limbs sp ov:Int) (ids:List Int) (m:dG):(Int × Int) × aF × (Int × Int):=
 if whatM m=0 then cZ A nodes limbs sp ov m.x
 else if whatM m=1 then dM A nodes limbs sp ov 5 (ofM m ids)
 else if whatM m=2 then dM A nodes limbs sp ov 6 (ofM m ids)
 else if whatM m=3 then dR A nodes limbs sp ov 7 (varM m) ((ofM m ids).getD 0 0)
 else dR A nodes limbs sp ov 8 (varM m) ((ofM m ids).getD 0 0)
def putR (r:(Int × Int) × aF × (Int × Int)) (ids:List Int):St:=⟨r.2.1,r.2.2.1,r.2.2.2,if r.1.2=0 then ids++[r.1.1] else ids⟩
def stepB (nodes limbs:Int) (s:St) (m:dG):St:=putR (stepR s.A nodes limbs s.sp s.ov s.ids m) s.ids
def buildM (nodes limbs:Int) (s:St) (l:List dG):St:=l.foldl (stepB nodes limbs) s
theorem buildM_snoc (nodes limbs:Int) (s:St) (l:List dG) (m:dG):buildM nodes limbs s (l++[m])=stepB nodes limbs (buildM nodes limbs s l) m:=by simp [buildM]
def SmallX (V:List Int) (X:bB):Prop:=bZ 1248576 262144 V ⟨X.t.parts,X.t.k⟩∧nlen X.d.natAbs≤1248576
theorem atomM_sound {A:aF} (h:InvA V nodes A sp) (hX:SmallX V X):Sound V nodes A sp ov (cZ A nodes limbs sp ov X):=by
 have h2:=h.once.two;have hb:=dW (k:=X.kind) hX.1 hX.2 (by decide);unfold cZ;obtain ⟨k,d,⟨l,z⟩⟩:=X;simp only at hb⊢;obtain ⟨⟨e,B⟩,hr⟩:∃r,r=bV ⟨k,d,⟨l,z⟩⟩:=⟨_,rfl⟩;rw [←hr] at hb⊢;simp only at hb;by_cases he:e=0
 ·subst he;by_cases hk:B.kind≤1
  ·rw [atomR_const hk];exact Sound.same h fun _=>⟨hb.kind.1,by omega⟩
  ·rw [atomR_go hk];exact madeM_sound h (fine_of_small hb (by omega))
 ·rw [atomR_err he];exact Sound.same h fun q=>absurd q he
theorem stepR_sound {A:aF} {m:dG} (h:InvA V nodes A sp) (hX:SmallX V m.x):Sound V nodes A sp ov (stepR A nodes limbs sp ov ids m):=by
 unfold stepR;split
 ·exact atomM_sound h hX
 split
 ·exact joinM_sound h
 split
 ·exact joinM_sound h
 split
 ·exact bindM_sound h
 ·exact bindM_sound h
structure InvS (V:List Int) (nodes:Int) (s:St) (j:Nat):Prop where
 inv:InvA V nodes s.A s.sp
 two:2≤s.ids.length
 len:s.ids.length≤j+2
 ids:∀i∈s.ids,0≤i∧i<(s.A.nodes.length:Int)
theorem InvS.step {s:St} {m:dG} (h:InvS V nodes s j) (hX:SmallX V m.x):InvS V nodes (stepB nodes limbs s m) (j+1):=by
 obtain ⟨q1,q2,q3,q4,q5,q6⟩:=stepR_sound (limbs:=limbs) (ov:=s.ov) (ids:=s.ids) h.inv hX;unfold stepB putR;have hi:=h.ids;refine ⟨q1,?_,?_,?_⟩
 ·simp only;split
  ·simp;have:=h.two;omega
  ·exact h.two
 ·simp only;split
  ·simp;exact h.len
  ·have:=h.len;omega
 ·simp only;intro i hm;split at hm
  ·rename_i he;rcases jZ1.1 hm with hm|hm
   ·have:=hi i hm;omega
   ·rw [dZ1.1 hm];exact q4 he
  ·have:=hi i hm;omega
theorem InvS.build {V:List Int} {nodes limbs:Int}:∀{l:List dG} {s:St} {j:Nat},InvS V nodes s j→(∀m∈l,SmallX V m.x)→InvS V nodes (buildM nodes limbs s l) (j+l.length)
 | [],s,j,h,_=>h
 | m::l,s,j,h,hl=>by
  have:=InvS.build (limbs:=limbs) (h.step (limbs:=limbs) (hl m (kZ1 ..))) fun x hx=>hl x (lZ1 _ hx);rw [gZ1,show j+(l.length+1)=j+1+l.length by omega];exact this
theorem InvS.start {A:aF} (h:InvA V nodes A sp):InvS V nodes ⟨A,sp,ov,[0,1]⟩ 0:=
 ⟨h,by simp,by simp,fun i hi=>by have:=h.once.two;simp only;rcases mZ1.1 hi with rfl|hi;exact⟨by omega,by omega⟩;rw [dZ1.1 hi];exact⟨by omega,by omega⟩⟩
end
end Go.Proofs.Q
