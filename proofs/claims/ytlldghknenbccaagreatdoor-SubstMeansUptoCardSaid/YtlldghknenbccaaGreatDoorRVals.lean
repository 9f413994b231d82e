/- What slices.SortFunc does at a row of elements of whatever kind, in the library's own words turned to this pro. -/
import Derived.Test.YtlldghknenbccaaGreatDoorRLists
import Derived.Shelf.SlSortCmp.WholeK
set_option linter.unusedSimpArgs false
set_option linter.unusedVariables false
namespace Go.Proofs.Q
open Go.RowKit
section
variable {rest:List Value} {w:World} {E:TypeId} {g:Nat} {P:Program}
structure ElG (α:Type) (R:List Value→α→Prop) (sz:Nat) where
  cells:List Value
  val:α
  len:cells.length=sz
  one:∀v∈cells,v.oneCell'=true
  reads:R cells val
section
variable {α:Type} {R:List Value→α→Prop} {sz:Nat}
theorem ElG.of {d:α}:∀(els:List (List Value)) (xs:List α),xs.length=els.length→(∀c∈els,c.length=sz)→(∀c∈els,∀v∈c,v.oneCell'=true)→(∀i,i<els.length→R (els.getD i []) (xs.getD i d))→∃l:List (ElG α R sz),l.map ElG.cells=els∧l.map ElG.val=xs
  | [],[],_,_,_,_=>⟨[],rfl,rfl⟩
  | [],z::zs,h,_,_,_=>by simp at h
  | c::els,[],h,_,_,_=>by simp at h
  | c::els,x::xs,h,hs,h1,hr=>by
    obtain ⟨l,e1,e2⟩:=ElG.of (d:=d) els xs wD (fun c hc=>hs c (lZ1 _ hc)) (fun c hc=>h1 c (lZ1 _ hc)) (fun i hi=>by have:=hr (i+1) uI;simpa using this);have h0:R c x:=by have:=hr 0 zW;simpa using this
    exact⟨⟨c,x,hs c (kZ1 ..),h1 c (kZ1 ..),h0⟩::l,by rw [dZ2,e1],by rw [dZ2,e2]⟩
theorem aHR (hz:0<sz) [Inhabited (ElG α R sz)] (d:Array (ElG α R sz)) (i:Nat) (hi:i<d.size*sz):(Sort.flatK ElG.cells sz d)[i]! = ((d.toList.map ElG.cells).flatten.getD i undef):=by
  rw [Sort.get_flatK _ _ _ _ hi];have h:=DI (sz:=sz) (d.toList.map ElG.cells) vM (i / sz) (i % sz) (by simp;exact Nat.div_lt_of_lt_mul (by rw [Nat.mul_comm];exact hi)) (Nat.mod_lt _ hz);rw [show i / sz*sz+i % sz=i from Nat.div_add_mod' i sz] at h;have hd:i / sz<d.size:=Nat.div_lt_of_lt_mul (by rw [Nat.mul_comm];exact hi);simp only [List.getD,h,Option.getD_some,List.getElem?_map,Array.getElem?_toList,Array.getElem?_eq_getElem hd,Option.map_some];rw [getElem!_pos d _ hd];have hm:i % sz<(d[i / sz]).cells.length:=by rw [(d[i / sz]).len];exact Nat.mod_lt _ hz
  simp [hm]
theorem aHK (d:Array (ElG α R sz)):(d.toList.map ElG.cells).flatten.length=d.size*sz:=by
  rw [bL (sz:=sz) _ vM];simp
theorem aXZ (hz:0<sz) [Inhabited (ElG α R sz)] {els:List (List Value)} (h:aF w g E (els.flatten++rest)) (d:Array (ElG α R sz)) (hd:d.size*sz=els.flatten.length):aF (Sort.putRowK ElG.cells sz w g 0 d) g E ((d.toList.map ElG.cells).flatten++rest):=by
  have hl:=aHK d;unfold Sort.putRowK Sort.putRow Sort.mapBlock aF;simp only [Array.getElem?_modify,if_true,h.out,Option.map_some,Sort.onCells];congr 2;apply Array.ext_getElem?;intro i;simp only [Sort.putCells,Array.getElem?_mapIdx,aZ2,true_and,Nat.zero_add,Nat.sub_zero,Sort.size_flatK,List.getElem?_toArray,id];by_cases hi:i<d.size*sz
  · rw [List.getElem?_append_left zZ,List.getElem?_append_left zZ,jZ2 zZ,jZ2 zZ,Option.map_some,if_pos hi,aHR hz d i hi]
    simp [List.getD,jZ2 (show i<(d.toList.map ElG.cells).flatten.length by omega)]
  · rw [List.getElem?_append_right zZ,List.getElem?_append_right zZ,hl,←hd]
    cases rest[i-d.size*sz]? with
    | none=>rfl
    | some v=>simp [hi]
theorem aDY [Inhabited (ElG α R sz)] (d:Array (ElG α R sz)) (m:Nat) (os:Array Obj):aA (One g) w (Go.Proofs.sortWorldK ElG.cells sz w g 0 m d os):=by
  unfold Go.Proofs.sortWorldK Sort.grow Sort.putRowK Sort.putRow Sort.mapBlock Sort.ahead;refine ⟨rfl,rfl,rfl,zW,fun k hk hn=>?_⟩;simp only;rw [Array.getElem?_append_left (by simpa using hk),Array.getElem?_modify,if_neg (fun e=>hn (show k=g from e.symm))]
theorem aVM (hz:0<sz) [Inhabited (ElG α R sz)] {els:List (List Value)} (h:aF w g E (els.flatten++rest)) (d:Array (ElG α R sz)) (hd:d.size*sz=els.flatten.length) (m:Nat) (os:Array Obj):aF (Go.Proofs.sortWorldK ElG.cells sz w g 0 m d os) g E ((d.toList.map ElG.cells).flatten++rest):=by
  have h1:=aXZ hz (w:=Sort.ahead w m) (E:=E) (els:=els) (rest:=rest) h d hd;unfold Go.Proofs.sortWorldK Sort.grow aF;simp only;rw [Array.getElem?_append_left h1.lt];exact h1
theorem aTE (hz:0<sz) [Inhabited (ElG α R sz)] (d:Array (ElG α R sz)) (h:aF w g E ((d.toList.map ElG.cells).flatten++rest)):Sort.HoldsK ElG.cells sz w g 0 d:=by
  intro j hj;rw [Sort.size_flatK] at hj;have hl:=aHK d;refine ⟨?_,h.frozen _⟩;rw [h.cell,Nat.zero_add,List.getElem?_append_left zZ,aHR hz d j hj];simp [List.getD,jZ2 (show j<(d.toList.map ElG.cells).flatten.length by omega)]
end
def Sorted {α:Type} (R:List Value→α→Prop) (sz:Nat) (d:α) (lt:α→α→Bool) (E:TypeId) (w:World) (g:Nat) (xs:List α) (rest:List Value) (e:Ending) (w':World):Prop:=
  ∃(els:List (List Value)) (xs':List α),e=.returned (.tuple #[])∧xs'.length=els.length∧(∀c∈els,c.length=sz)∧xs'.Perm xs∧xs'.Pairwise (fun x y=>lt y x=false)∧aF w' g E (els.flatten++rest)∧(∀i,i<els.length→R (els.getD i []) (xs'.getD i d))∧aA (One g) w w'
theorem aTM {ρ:Go.Shelf.Ren} (L:Go.Proofs.SlLaysF0.n6 P ρ) {α:Type} {R:List Value→α→Prop} {sz:Nat} (hz:0<sz) (aE:∀w,(isAgg (ρ.t 24)).run P w=.ok true w) (zE:∀w,(Go.sizeOf (ρ.t 24)).run P w=.ok sz w) {d:α} (cf:α→α→Int)
    (hir:∀x,¬cf x x<0) (htr:∀x y z,cf x y<0→cf y z<0→cf x z<0) (hnt:∀x y z,¬cf x y<0→¬cf y z<0→¬cf x z<0)
    {fn c:Nat} {els:List (List Value)} {xs:List α}
    (eg:∀args w,(callFunc fn args).run P w=.ok (.enter fn args) w)
    (hcmp:∀(w':World) cx x cy y,aA (One g) w w'→R cx x→R cy y→Calls P fn #[.agg cx.toArray,.agg cy.toArray] w' fun e w''=>e=.returned (.int .i64 (cf x y))∧Lays w' w'')
    (h:aF w g E (els.flatten++rest)) (hsz:∀c∈els,c.length=sz) (h1:∀c∈els,∀v∈c,v.oneCell'=true) (hl:xs.length=els.length) (hr:∀i,i<els.length→R (els.getD i []) (xs.getD i d)) (hn:els.length<4611686018427387904) (h0:0<els.length) :
    Calls P (ρ.f 6) #[.slice (some ⟨g,0,none⟩) els.length c,.func (.func fn) #[] #[]] w fun e w'=>Sorted R sz d (fun x y=>decide (cf x y<0)) E w g xs rest e w':=by
  obtain ⟨l,e1,e2⟩:=ElG.of (R:=R) (sz:=sz) els xs hl hsz h1 hr;have hll:l.length=els.length:=by rw [←e1];simp
  obtain ⟨x0,l',rfl⟩:∃x0 l',l=x0::l':=by
    cases l with
    | nil=>simp at hll;omega
    | cons a b=>exact⟨a,b,rfl⟩
  haveI:Inhabited (ElG α R sz):=⟨x0⟩;generalize hL:x0::l'=l at *
  have hlz:els.length=l.toArray.size:=by simp [hll]
  have hd:l.toArray.size*sz=els.flatten.length:=by rw [bL els hsz];simp [hll]
  have hrow:aF w g E ((l.toArray.toList.map ElG.cells).flatten++rest):=by simpa [e1] using h
  have hc:Go.Proofs.CmpLays P fn #[] (ElG.cells (α:=α) (R:=R) (sz:=sz)) sz (fun x y=>cf x.val y.val) g 0 l.toArray.size w:=fun m os dk _ x y=>
    (hcmp _ x.cells x.val y.cells y.val (aDY dk m os) x.reads y.reads).mono fun e w' ⟨he,hw⟩=>⟨he,hw.form⟩
  have hlt:∀x y:ElG α R sz,Go.Proofs.ltOf (fun x y=>cf x.val y.val) x y=decide (cf x.val y.val<0):=fun x y=>rfl;have hswo:Sort.SWO (Go.Proofs.ltOf (fun x y:ElG α R sz=>cf x.val y.val)):={
    irrefl:=fun x=>by rw [hlt];exact decide_eq_false (hir _)
    trans:=fun x y z q1 q2=>by rw [hlt] at *;exact decide_eq_true (htr _ _ _ (of_decide_eq_true q1) (of_decide_eq_true q2))
    ntrans:=fun x y z q1 q2=>by rw [hlt] at *;exact decide_eq_false (hnt _ _ _ (of_decide_eq_false q1) (of_decide_eq_false q2)) }
  have hcon:=Go.Proofs.AnyQ.slices_SortFunc L sz aE zE ElG.cells (fun x=>x.len) (fun x v hv=>x.one v hv) (fun x y=>cf x.val y.val) hswo fn #[] g 0 c l.toArray w eg hc (aTE hz _ hrow) h.lt (by simpa [hll] using hn);rw [hlz];refine hcon.mono ?_;rintro e w' ⟨rfl,d',n,os,hp,hs,rfl⟩;obtain ⟨hp1,_,hp3⟩:=hp;have hx1:(d'.extract 0 l.toArray.size).toList=d'.toList:=by
    rw [←hp1];simp
  have hx2:(l.toArray.extract 0 l.toArray.size).toList=l:=zW;rw [hx1,hx2] at hp3;refine ⟨d'.toList.map ElG.cells,d'.toList.map ElG.val,rfl,zW,vM,?_,?_,aVM hz (els:=els) h d' (by rw [hp1];exact hd) n os,?_,aDY d' n os⟩
  · rw [←e2];exact hp3.map _
  · rw [List.pairwise_iff_getElem]
    intro i j hi hj hij;simp only [hZ1,Array.length_toList] at hi hj;have:=hs i j (aZ2 _) hij (by rw [←hp1];exact hj);rw [hlt,getElem!_pos d' _ hj,getElem!_pos d' _ hi] at this;simpa using this
  · intro i hi
    simp only [hZ1,Array.length_toList] at hi;have q1:(d'.toList.map ElG.cells).getD i []=(d'[i]).cells:=by simp [List.getD,hi]
    have q2:(d'.toList.map ElG.val).getD i d=(d'[i]).val:=by simp [List.getD,hi]
    rw [q1,q2];exact (d'[i]).reads
end
section
variable {T ds dn:List Nat} {a:Act} {w0 w:World} {n id:Nat} {listed:Array Bool} {o:Oper}
class Stable (F:Value→World→Prop):Prop where
  keep:∀v w w',aA Nil w w'→F v w→F v w'
def eT (x:Value):Value→World→Prop:=fun v _=>v=x
instance {x:Value}:Stable (eT x):=⟨fun _ _ _ _ h=>h⟩
def Whatever:Value→World→Prop:=fun _ _=>True
instance:Stable Whatever:=⟨fun _ _ _ _ h=>h⟩
structure Fact where
  ps:List Nat
  F:List Value→Value→World→Prop
def Un (F:Value→World→Prop):Fact:=⟨[],fun _=>F⟩
def nothing:Fact:=Un Whatever
class DV (f:Fact):Prop where
  keep:∀vs v w w',aA Nil w w'→f.F vs v w→f.F vs v w'
instance {F:Value→World→Prop} [h:Stable F]:DV (Un F):=⟨fun _ v w w' k q=>h.keep v w w' k q⟩
instance {ps:List Nat} {F:List Value→Value→World→Prop} [h:∀vs,Stable (F vs)]:DV ⟨ps,F⟩:=⟨fun vs v w w' k q=>(h vs).keep v w w' k q⟩
instance:DV nothing:=inferInstanceAs (DV (Un Whatever))
def jZ (l:List Fact) (j:Nat):Fact:=l.getD j nothing
def lV (l:List Fact) (ds:List Nat) (j:Nat) (us:Nat→Value) (w:World):Prop:=(jZ l j).F ((jZ l j).ps.map fun k=>us (ds.getD k 0)) (us (ds.getD j 0)) w
def jX:List Fact→Prop
  | []=>True
  | f::l=>DV f∧jX l
theorem jX.nil:jX []:=trivial
theorem jX.cons {f:Fact} {l:List Fact} [h:DV f] (hl:jX l):jX (f::l):=⟨h,hl⟩
theorem jX.at:∀{l:List Fact},jX l→∀j,DV (jZ l j)
  | [],_,_=>by unfold jZ;simp only [List.getD_nil];exact inferInstanceAs (DV (Un Whatever))
  | _::_,h,0=>h.1
  | _::_,h,j+1=>jX.at h.2 j
theorem YP {α β:Type} {f:α→β}:∀{l:List α},(l.map f).Nodup→∀x∈l,∀y∈l,f x=f y→x=y
  | [],_,x,hx,_,_,_=>by cases hx
  | a::l,h,x,hx,y,hy,he=>by
    rw [dZ2,List.nodup_cons] at h;rcases mZ1.1 hx with rfl|hx1<;>rcases mZ1.1 hy with rfl|hy1
    · rfl
    · exact absurd (he ▸ List.mem_map_of_mem hy1) h.1
    · exact absurd (he ▸ List.mem_map_of_mem hx1) h.1
    · exact YP h.2 x hx1 y hy1 he
section
variable {P:Program} {ops:Array Oper} {Q:Exit→Act→World→Prop}
def once (l:List Nat):List Nat:=l.foldr (fun x r=>if r.elem x then r else x::r) []
theorem aGL {x:Nat}:∀{l:List Nat},x∈once l↔x∈l
  | []=>Iff.rfl
  | y::l=>by
    have ih:=aGL (x:=x) (l:=l);unfold once at ih⊢;rw [List.foldr_cons];split
    · rename_i h
      rw [ih,mZ1];refine ⟨.inr,fun h2=>?_⟩;rcases h2 with rfl|h2
      · exact ih.1 (List.elem_iff.1 h)
      · exact h2
    · rw [mZ1,mZ1,ih]
def XQ (ops:Array Oper) (acc:List (List Nat)) (j:Nat):List (List Nat):=acc++[match ops[j]? with|none=>[]|some o=>once (jF o++(jF o).flatMap fun i=>acc.getD i [])]
def ups (ops:Array Oper):Nat→List (List Nat)
  | 0=>[]
  | n+1=>XQ ops (ups ops n) n
def EC (ops:Array Oper) (j i:Nat):Bool:=((ups ops ops.size).getD j []).elem i
theorem NQ (ops:Array Oper):∀n,(ups ops n).length=n
  | 0=>rfl
  | n+1=>by unfold ups XQ;rw [aZ1,NQ];rfl
theorem GJ {listed:Array Bool} (hcl:∀j o,ops[j]?=some o→listed.getD j false=true→∀i∈jF o,listed.getD i false=true):∀n j o,j<n→ops[j]?=some o→(∀i∈jF o,listed.getD i false=true)→(∀i∈jF o,i<j)→(∀k o',ops[k]?=some o'→∀i∈jF o',i<k)→∀i∈(ups ops n).getD j [],listed.getD i false=true
  | 0,_,_,h,_,_,_,_,_,_=>zZ
  | n+1,j,o,hj,ho,hp,hlt,hall,i,hi=>by
    unfold ups XQ at hi;rcases Nat.lt_succ_iff_lt_or_eq.1 hj with h'|rfl
    · rw [List.getD,List.getElem?_append_left (by rw [NQ];exact h')] at hi
      exact GJ hcl n j o h' ho hp hlt hall i hi
    · rw [List.getD,List.getElem?_append_right (by rw [NQ];exact bZ2 _),NQ,Nat.sub_self] at hi
      simp only [ho,List.getElem?_cons_zero,Option.getD_some] at hi;rw [aGL,jZ1,fZ3] at hi;rcases hi with hi|⟨k,hk,hi⟩
      · exact hp i hi
      · have hkl:=hp k hk
        have hkj:=hlt k hk;cases hok:ops[k]? with
        | none=>
          exfalso;have h1:=(Array.getElem?_eq_some_iff.1 ho).1;rw [Array.getElem?_eq_none_iff] at hok;omega
        | some ok=>exact GJ hcl j k ok hkj hok (hcl k ok hok hkl) (hall k ok hok) hall i hi
def IG (n:Nat) (T:List Nat):List Nat:=(List.range n).filter fun j=>!T.contains j
def lS (n:Nat) (T:List Nat):Array Bool:=((List.range n).map fun j=>!T.contains j).toArray
def EP (ops:Array Oper) (T U ds dn:List Nat) (ps:List (List Nat)):Bool:=
  ((List.range ops.size).all fun j=>(ps.getD j []).all fun k=>EC ops j k&&decide (k<ops.size)&&!T.contains k)&&decide (dn=(IG ops.size T).map fun j=>ds.getD j 0)&&decide dn.Nodup&&decide (lU (lS ops.size T)=T.length) &&
  (List.range ops.size).all fun j=>match ops[j]? with
    | none=>false
    | some o=>((jF o).all fun i=>decide (i<j))&&(if T.contains j then (IG ops.size (U++T)).all fun i=>EC ops j i else decide (o.dst=some (ds.getD j 0)))
theorem aFK {U:List Nat} {l:List Fact} (hok:EP ops T U ds dn (l.map Fact.ps)=true) (hF:jX l)
    (hst:∀j,j<ops.size→T.contains j=false→∀o,ops[j]?=some o→∀(us:Nat→Value) (w:World),aA Nil w0 w→(∀i,EC ops j i=true→lV l ds i us w)→∀K:Act→World→Prop,Shut (∀v w',aA Nil w w'→(jZ l j).F ((jZ l j).ps.map fun k=>us (ds.getD k 0)) v w'→K ((aQ a us dn).put o.dst v) w') →
      if Region.wanted o (yielded ops (aQ a us dn).tmps)=true then Oper.wp P o (aQ a us dn) w K Q else K ((aQ a us dn).put o.dst undef) w)
    (fin:∀(listed:Array Bool) (us:Nat→Value) (w:World),listed.size=ops.size→(∀j,T.contains j=true→listed.getD j false=false)→(∀j,j<ops.size→T.contains j=false→U.contains j=false→listed.getD j false=true)→aA Nil w0 w→(∀j,listed.getD j false=true→lV l ds j us w)→wpAny P .any ops Q (lU listed) listed (aQ a us dn) w) :
    ∀(fuel:Nat) (listed:Array Bool) (us:Nat→Value) (w:World),listed.size=ops.size→lU listed=fuel→(∀j o,ops[j]?=some o→listed.getD j false=true→∀i∈jF o,listed.getD i false=true)→(∀j,T.contains j=true→listed.getD j false=false)→aA Nil w0 w →
      (∀j,listed.getD j false=true→lV l ds j us w)→wpAny P .any ops Q fuel listed (aQ a us dn) w:=by
  simp only [EP,Bool.and_eq_true,decide_eq_true_eq,kZ2,List.mem_range] at hok;obtain ⟨⟨⟨⟨hps0,hdn⟩,hnd⟩,hun0⟩,hall⟩:=hok;have hop:∀j o,ops[j]?=some o→(∀i∈jF o,i<j)∧(T.contains j=true→∀i,i<ops.size→T.contains i=false→U.contains i=false→EC ops j i=true)∧(T.contains j=false→o.dst=some (ds.getD j 0)):=fun j o hj=>by
    have:=hall j (Array.getElem?_eq_some_iff.1 hj).1;simp only [hj,Bool.and_eq_true,kZ2,decide_eq_true_eq] at this;refine ⟨this.1,fun hT i hi hiT hiU=>?_,fun hT=>?_⟩
    · have h2:=this.2
      rw [hT] at h2;simp only [if_true,kZ2] at h2;exact h2 i (by unfold IG;rw [kZ3,List.mem_range];refine ⟨hi,?_⟩;simp at hiT hiU⊢;exact⟨hiU,hiT⟩)
    · have h2:=this.2
      rw [hT] at h2;simpa using h2
  have hps:∀j,j<ops.size→∀k∈(jZ l j).ps,EC ops j k=true∧k<ops.size∧T.contains k=false:=fun j hj k hk=>by
    have h1:=hps0 j hj k (by
      unfold jZ at hk;simp only [List.getD,List.getElem?_map] at hk⊢;cases h:l[j]? with
      | none=>simp [h,nothing,Un] at hk
      | some f=>simpa [h] using hk)
    simpa [and_assoc] using h1
  have hmemdn:∀j,j<ops.size→T.contains j=false→ds.getD j 0∈dn:=fun j hj hT=>by
    rw [hdn,iZ2];exact⟨j,by unfold IG;rw [kZ3,List.mem_range];exact⟨hj,by simpa using hT⟩,rfl⟩
  have hinj:∀i j,i<ops.size→j<ops.size→T.contains i=false→T.contains j=false→ds.getD i 0=ds.getD j 0→i=j:=fun i j hi hj hiT hjT he=>by
    have hnd':=hdn ▸ hnd;have hm:∀k,k<ops.size→T.contains k=false→k∈IG ops.size T:=fun k hk hkT=>by
      unfold IG;rw [kZ3,List.mem_range];exact⟨hk,by simpa using hkT⟩
    exact YP hnd' i (hm i hi hiT) j (hm j hj hjT) he
  intro fuel;induction fuel with
  | zero=>
    intro listed us w hsz hun hcl hTl hk hf;have hlist:∀j,j<ops.size→listed.getD j false=true:=fun j hj=>by
      by_cases h:listed.getD j false=true
      · exact h
      · exfalso
        have:=MW (listed:=listed) (i:=j) (by
          have:j<listed.size:=zZ;simp [this] at h⊢;exact h)
        omega
    have:=fin listed us w hsz hTl (fun j hj _ _=>hlist j hj) hk hf;rw [hun] at this;exact this
  | succ fuel ih=>
    intro listed us w hsz hun hcl hTl hk hf;by_cases hdone:∀j,j<ops.size→T.contains j=false→U.contains j=false→listed.getD j false=true
    · have:=fin listed us w hsz hTl hdone hk hf
      rw [hun] at this;exact this
    · have hnotT:∀i,i∈Region.ready .any ops listed→T.contains i=false:=fun i hi=>by
        cases h:T.contains i with
        | false=>rfl
        | true=>
          exfalso;obtain ⟨_,o,ho,hpre⟩:=mem_ready.1 hi;have hpl:∀x∈jF o,listed.getD x false=true:=fun x hx=>yH;exact hdone fun j hj hjT hjU=>GJ hcl ops.size i o (Array.getElem?_eq_some_iff.1 ho).1 ho hpl (hop i o ho).1 (fun k o' ho'=>(hop k o' ho').1) j (List.elem_iff.1 ((hop i o ho).2.1 h j hj hjT hjU))
      refine ⟨fun hrl=>?_,fun i hi=>?_⟩
      · exfalso
        have hfull:∀j,j<ops.size→listed.getD j false=true:=fun j=>by
         induction j using Nat.strongRecOn with
         | _ j ihj=>
          intro hj;by_cases hl:listed.getD j false=true
          · exact hl
          · exfalso
            have hm:j∈Region.ready .any ops listed:=by
              rw [mem_ready];refine ⟨by
                have:j<listed.size:=zZ;simp [this] at hl⊢;exact hl,ops[j],Array.getElem?_eq_getElem hj,fun e he hb=>?_⟩
              have hlt:=(hop j _ (Array.getElem?_eq_getElem hj)).1 e.on (iZ2.2 ⟨e,kZ3.2 ⟨sI,hb⟩,rfl⟩);exact ihj e.on hlt zZ
            rw [hrl] at hm;cases hm
        exact hdone fun j hj _ _=>hfull j hj
      · have hiT:=hnotT i hi
        obtain ⟨hiun,o,ho,hpre⟩:=mem_ready.1 hi;have hilt:=(Array.getElem?_eq_some_iff.1 ho).1;have hdst:=(hop i o ho).2.2 hiT;have hpl:∀x∈jF o,listed.getD x false=true:=fun x hx=>yH;refine wpOp_step ho fun K' hK=>?_;refine hst i hilt hiT o ho us w hk (fun e he=>hf _ (GJ hcl ops.size i o hilt ho hpl (hop i o ho).1 (fun k o' ho'=>(hop k o' ho').1) e (List.elem_iff.1 he))) K' (fun v w' hk' hfv=>?_);refine hK _ _ ?_;rw [hdst,NP a us _ v dn hnd (hmemdn i hilt hiT)];have hu:=MW hiun;have hnl:¬listed.getD i false=true:=uV;have hsame:∀k,k<ops.size→T.contains k=false→listed.getD k false=true→upd us (ds.getD i 0) v (ds.getD k 0)=us (ds.getD k 0):=fun k hk1 hk2 hk3=>by
          refine if_neg fun he=>?_;have:=hinj k i hk1 hilt hk2 hiT he;subst this;exact hnl hk3
        refine ih _ _ _ (by simpa using hsz) zZ (fun j oj hj hjl x hx=>?_) (fun j hjT=>?_) (hk.trans hk') fun j hj=>?_
        · refine getD_set_true ?_
          by_cases hji:i=j
          · subst hji
            obtain rfl:o=oj:=by rw [ho] at hj;exact lZ2 hj
            exact hpl x hx
          · rw [getD_set_ne false hji] at hjl
            exact hcl j oj hj hjl x hx
        · have hji:i≠j:=fun e=>by subst e;rw [hiT] at hjT;cases hjT
          rw [getD_set_ne false hji];exact hTl j hjT
        · by_cases hji:i=j
          · subst hji
            unfold lV;rw [show upd us (ds.getD i 0) v (ds.getD i 0)=v from if_pos rfl];have hanc:=GJ hcl ops.size i o hilt ho hpl (hop i o ho).1 (fun k o' ho'=>(hop k o' ho').1);have he:((jZ l i).ps.map fun k=>upd us (ds.getD i 0) v (ds.getD k 0))=((jZ l i).ps.map fun k=>us (ds.getD k 0)):=List.map_congr_left fun k hk=>by
              obtain ⟨h1,h2,h3⟩:=hps i hilt k hk;exact hsame k h2 h3 (hanc k (List.elem_iff.1 h1))
            rw [he];exact hfv
          · rw [getD_set_ne false hji] at hj
            have hjlt:j<ops.size:=by
              rcases Nat.lt_or_ge j listed.size with h'|h'
              · omega
              · simp [Array.getElem?_eq_none h'] at hj
            have hjT:T.contains j=false:=by
              cases h:T.contains j with
              | false=>rfl
              | true=>have:=hTl j h;rw [hj] at this;cases this
            unfold lV;rw [hsame j hjlt hjT hj];have hanc:=GJ hcl ops.size j ops[j] hjlt (Array.getElem?_eq_getElem hjlt) (hcl j _ (Array.getElem?_eq_getElem hjlt) hj) (hop j _ (Array.getElem?_eq_getElem hjlt)).1 (fun k o' ho'=>(hop k o' ho').1);have he:((jZ l j).ps.map fun k=>upd us (ds.getD i 0) v (ds.getD k 0))=((jZ l j).ps.map fun k=>us (ds.getD k 0)):=List.map_congr_left fun k hk=>by
              obtain ⟨h1,h2,h3⟩:=hps j hjlt k hk;exact hsame k h2 h3 (hanc k (List.elem_iff.1 h1))
            rw [he];exact (hF.at j).keep _ _ _ _ hk' (hf j hj)
def aUK (P:Program) (ops:Array Oper) (Q:Exit→Act→World→Prop) (w0:World) (a:Act) (ds dn:List Nat) (l:List Fact) (j:Nat):Prop:=
  ∀o,ops[j]?=some o→∀(us:Nat→Value) (w:World),aA Nil w0 w→(∀i,EC ops j i=true→lV l ds i us w)→∀K:Act→World→Prop,Shut (∀v w',aA Nil w w'→(jZ l j).F ((jZ l j).ps.map fun k=>us (ds.getD k 0)) v w'→K ((aQ a us dn).put o.dst v) w') →
    if Region.wanted o (yielded ops (aQ a us dn).tmps)=true then Oper.wp P o (aQ a us dn) w K Q else K ((aQ a us dn).put o.dst undef) w
def aB (P:Program) (ops:Array Oper) (Q:Exit→Act→World→Prop) (T:List Nat) (w0:World) (a:Act) (ds dn:List Nat) (l:List Fact) (n:Nat):Prop:=∀j,j<n→T.contains j=false→aUK P ops Q w0 a ds dn l j
theorem aB.zero {l:List Fact}:aB P ops Q T w0 a ds dn l 0:=fun _ h=>zZ
theorem aB.skip {l:List Fact} (hT:T.contains n=true) (hs:aB P ops Q T w0 a ds dn l n):aB P ops Q T w0 a ds dn l (n+1):=fun j hj hjT=>by
  rcases Nat.lt_succ_iff_lt_or_eq.1 hj with h'|rfl
  · exact hs j h' hjT
  · rw [hT] at hjT;cases hjT
theorem aB.succ {l:List Fact} (ho:ops[n]?=some o)
    (h:∀(us:Nat→Value) (w:World),aA Nil w0 w→(∀i,EC ops n i=true→lV l ds i us w)→∀K:Act→World→Prop,Shut (∀v w',aA Nil w w'→(jZ l n).F ((jZ l n).ps.map fun k=>us (ds.getD k 0)) v w'→K ((aQ a us dn).put o.dst v) w') →
      if Region.wanted o (yielded ops (aQ a us dn).tmps)=true then Oper.wp P o (aQ a us dn) w K Q else K ((aQ a us dn).put o.dst undef) w)
    (hs:aB P ops Q T w0 a ds dn l n):aB P ops Q T w0 a ds dn l (n+1):=fun j hj hjT=>by
  rcases Nat.lt_succ_iff_lt_or_eq.1 hj with h'|rfl
  · exact hs j h' hjT
  · intro o' ho'
    obtain rfl:o=o':=by rw [ho] at ho';exact lZ2 ho'
    exact h
theorem aBF (h:listed=Array.replicate ops.size false):(∀j,listed.getD j false=false)∧listed.size=ops.size∧lU listed=ops.size:=by
  subst h;refine ⟨fun j=>?_,zW,by unfold lU;simp⟩;rcases Nat.lt_or_ge j ops.size with h'|h'
  · simp [h']
  · simp [h']
theorem XA (hsz:listed.size=n) (h1:∀j,T.contains j=true→listed.getD j false=false) (h2:∀j,j<n→T.contains j=false→listed.getD j false=true):listed=lS n T:=by
  apply Array.ext
  · simp [lS,hsz]
  · intro i h3 h4
    have hi:i<n:=zZ;simp only [lS,List.getElem_toArray,List.getElem_map,List.getElem_range];cases h:T.contains i with
    | false=>have:=h2 i hi h;simp [h3] at this;simpa using this
    | true=>have:=h1 i h;simp [h3] at this;simpa using this
theorem aLA (T ds dn:List Nat) (l:List Fact) (hm:P.follows .mixedOrders=true) (hok:EP ops T [] ds dn (l.map Fact.ps)=true) (hst:aB P ops Q T w a ds dn l ops.size) (hl:jX l)
    (fin:∀(us:Nat→Value) (w':World),aA Nil w w'→(∀j,j<ops.size→T.contains j=false→lV l ds j us w')→iE P .any ops Q (fun _=>True) [] T.length (lS ops.size T) (aQ a us dn) w'):(Code.region id ops true).wp P Q a w:=by
  refine wp_region_any hm ?_;obtain ⟨h0,hs,hu⟩:=aBF (ops:=ops) rfl;have hun0:lU (lS ops.size T)=T.length:=uS;have h:=aFK hok hl hst (fun listed us w hsz hT hN k hf=>by
    have hmask:=XA hsz hT (fun j hj hjT=>hN j hj hjT rfl);subst hmask;rw [hun0];exact JI _ _ _ _ (fin us w k fun j hj hjT=>hf j (hN j hj hjT rfl))) ops.size (Array.replicate ops.size false) (fun d=>a.tmps.getD d undef) w.drew hs hu (fun j _ _ hj=>tP) (fun j _=>h0 j) ((aA.refl Nil w).drew) (fun j hj=>tP)
  rw [NI] at h;exact h
theorem aLB (u:Nat) (T ds dn:List Nat) (l:List Fact) (hm:P.follows .mixedOrders=true) (hok:EP ops T [u] ds dn (l.map Fact.ps)=true) (hu1:lU (lS ops.size (u::T))=T.length+1) (hst:aB P ops Q T w a ds dn l ops.size) (hl:jX l)
    (fin:∀(us:Nat→Value) (w':World),aA Nil w w'→(∀j,j<ops.size→T.contains j=false→lV l ds j us w')→iE P .any ops Q (fun _=>True) [] T.length (lS ops.size T) (aQ a us dn) w')
    (finU:∀(us:Nat→Value) (w':World),aA Nil w w'→(∀j,j<ops.size→(u::T).contains j=false→lV l ds j us w')→iE P .any ops Q (fun _=>True) [] (T.length+1) (lS ops.size (u::T)) (aQ a us dn) w'):(Code.region id ops true).wp P Q a w:=by
  refine wp_region_any hm ?_;obtain ⟨h0,hs,hu⟩:=aBF (ops:=ops) rfl;have hun0:lU (lS ops.size T)=T.length:=uS;have h:=aFK hok hl hst (fun listed us w hsz hT hN k hf=>by
    by_cases hul:listed.getD u false=true
    · have hN':∀j,j<ops.size→T.contains j=false→listed.getD j false=true:=fun j hj hjT=>by
        by_cases e:j=u
        · rw [e];exact hul
        · exact hN j hj hjT zV
      have hmask:=XA hsz hT hN';subst hmask;rw [hun0];exact JI _ _ _ _ (fin us w k fun j hj hjT=>hf j (hN' j hj hjT))
    · have hN':∀j,j<ops.size→(u::T).contains j=false→listed.getD j false=true:=fun j hj hjT=>by
        simp only [List.contains_cons,Bool.or_eq_false_iff,beq_eq_false_iff_ne] at hjT;exact hN j hj hjT.2 (by simp;exact hjT.1)
      have hmask:=XA (T:=u::T) hsz (fun j hj=>by
        simp only [List.contains_cons,Bool.or_eq_true,beq_iff_eq] at hj;rcases hj with rfl|hj
        · simpa using hul
        · exact hT j hj) hN'
      subst hmask;rw [hu1];exact JI _ _ _ _ (finU us w k fun j hj hjT=>hf j (hN' j hj hjT))) ops.size (Array.replicate ops.size false) (fun d=>a.tmps.getD d undef) w.drew hs hu (fun j _ _ hj=>tP) (fun j _=>h0 j) ((aA.refl Nil w).drew) (fun j hj=>tP)
  rw [NI] at h;exact h
theorem aB.nx {l:List Fact}
    (h:∀(us:Nat→Value) (w:World),aA Nil w0 w→(∀i:Nat,(hi:EC ops n i=true:=by kernel_rfl)→lV l ds i us w)→∀K:Act→World→Prop,Shut (∀v w',aA Nil w w'→(jZ l n).F ((jZ l n).ps.map fun k=>us (ds.getD k 0)) v w'→K ((aQ a us dn).put o.dst v) w') →
      if Region.wanted o (yielded ops (aQ a us dn).tmps)=true then Oper.wp P o (aQ a us dn) w K Q else K ((aQ a us dn).put o.dst undef) w)
    (hs:aB P ops Q T w0 a ds dn l n) (ho:ops[n]?=some o:=by rfl):aB P ops Q T w0 a ds dn l (n+1):=aB.succ ho (fun us w k hp=>h us w k fun i hi=>hp i hi) hs
theorem aB.sk {l:List Fact} (hs:aB P ops Q T w0 a ds dn l n) (hT:T.contains n=true:=by decide):aB P ops Q T w0 a ds dn l (n+1):=aB.skip hT hs
theorem aX (n:Nat) (T ds dn:List Nat) (l:List Fact) (hst:aB P ops Q T w a ds dn l n)
    (fin:∀(us:Nat→Value) (w':World),aA Nil w w'→(∀j:Nat,(h1:j<n:=by decide)→(h2:T.contains j=false:=by decide)→lV l ds j us w')→iE P .any ops Q (fun _=>True) [] T.length (lS ops.size T) (aQ a us dn) w')
    (hm:P.follows .mixedOrders=true:=by kernel_rfl) (hok:EP ops T [] ds dn (l.map Fact.ps)=true:=by kernel_rfl) (hl:jX l:=by repeat (first|exact jX.nil|refine jX.cons ?_)) (hn:ops.size=n:=by kernel_rfl):(Code.region id ops true).wp P Q a w:=by
  subst hn;exact aLA T ds dn l hm hok hst hl fun us w' k hf=>fin us w' k fun j h1 h2=>hf j h1 h2
theorem aNE (n u:Nat) (T ds dn:List Nat) (l:List Fact) (hst:aB P ops Q T w a ds dn l n)
    (fin:∀(us:Nat→Value) (w':World),aA Nil w w'→(∀j:Nat,(h1:j<n:=by decide)→(h2:T.contains j=false:=by decide)→lV l ds j us w')→iE P .any ops Q (fun _=>True) [] T.length (lS ops.size T) (aQ a us dn) w')
    (finU:∀(us:Nat→Value) (w':World),aA Nil w w'→(∀j:Nat,(h1:j<n:=by decide)→(h2:(u::T).contains j=false:=by decide)→lV l ds j us w')→iE P .any ops Q (fun _=>True) [] (T.length+1) (lS ops.size (u::T)) (aQ a us dn) w')
    (hm:P.follows .mixedOrders=true:=by kernel_rfl) (hok:EP ops T [u] ds dn (l.map Fact.ps)=true:=by kernel_rfl) (hu1:lU (lS ops.size (u::T))=T.length+1:=by kernel_rfl) (hl:jX l:=by repeat (first|exact jX.nil|refine jX.cons ?_)) (hn:ops.size=n:=by kernel_rfl):(Code.region id ops true).wp P Q a w:=by
  subst hn;exact aLB u T ds dn l hm hok hu1 hst hl (fun us w' k hf=>fin us w' k fun j h1 h2=>hf j h1 h2) fun us w' k hf=>finU us w' k fun j h1 h2=>hf j h1 h2
end
end
section
variable {w:World} {E:TypeId} {xs:List Value} {g sz B n:Nat} {M:Nat→Prop} {v u:Value} {ap ak va a:Option Addr} {gk:Bool} {T:aV} {l:List Nat}
def cellsOf:Value→List Value
  | .agg cs=>cs.toList
  | v=>[v]
def lX (l:List Value):Value:=.agg (l.flatMap cellsOf).toArray
def IU (B:Nat) (E:TypeId) (x:Value):Value→World→Prop:=fun v w=>∃b,v=.slice (some ⟨b,0,none⟩) 1 1∧aF w b E (cellsOf x)∧B≤b
instance {B:Nat} {E:TypeId} {x:Value}:Stable (IU B E x):=⟨fun _ _ _ k ⟨b,e,h,q⟩=>⟨b,e,h.keep k id,q⟩⟩
def ZV (M:Nat→Prop) (z:Int):Value→World→Prop:=fun v w=>∃g a n c,v=.agg #[.bool g,.slice a n c]∧ZN M w g a n c z
instance {M:Nat→Prop} {z:Int}:Stable (ZV M z):=⟨fun _ _ _ k ⟨g,a,n,c,e,h⟩=>⟨g,a,n,c,e,h.eO k⟩⟩
def SlV {α:Type} (R:(Nat→Prop)→World→List Value→α→Prop) (d:α) (sz:Nat) (M' M:Nat→Prop) (xs:List α):Value→World→Prop:=fun v w=>∃a n c,v=.slice a n c∧eU M' w sz (R M w) d a n c xs
class QO {α:Type} (R:(Nat→Prop)→World→List Value→α→Prop):Prop where
  moves:Moves R
instance:QO RZ:=⟨RZ.moves⟩
instance:QO iM:=⟨iM.moves⟩
instance:QO dZ:=⟨dZ.moves⟩
instance {α:Type} {R:(Nat→Prop)→World→List Value→α→Prop} [h:QO R] {d:α} {sz:Nat} {M' M:Nat→Prop} {xs:List α}:Stable (SlV R d sz M' M xs):=
  ⟨fun _ _ _ k ⟨a,n,c,e,q⟩=>⟨a,n,c,e,q.move k (fun _ _ h=>h.elim) (fun _ _=>id) fun _ _ hx=>h.moves hx k (fun _ _ h=>h.elim) fun _ _=>id⟩⟩
def CZ (B:Nat) (E:TypeId) (xs:List Value):Value→World→Prop:=fun v w=>∃b,v=.pointer (some ⟨b,0,none⟩)∧aF w b E xs∧B≤b
instance {B:Nat} {E:TypeId} {xs:List Value}:Stable (CZ B E xs):=⟨fun _ _ _ k ⟨b,e,h,q⟩=>⟨b,e,h.keep k id,q⟩⟩
def eI (M:Nat→Prop) (w:World) (ap:Option Addr) (np cp:Nat) (gk:Bool) (ak:Option Addr) (nk ck:Nat) (T:aV):Prop:=cV M M w ap np cp T.parts∧ZN M w gk ak nk ck T.k
theorem eI.eO {M:Nat→Prop} {w w':World} {ap ak:Option Addr} {np cp nk ck:Nat} {gk:Bool} {T:aV} (h:eI M w ap np cp gk ak nk ck T) (k:aA Nil w w'):eI M w' ap np cp gk ak nk ck T:=⟨h.1.eO k,h.2.eO k⟩
def TV (M:Nat→Prop) (T:aV):Value→World→Prop:=fun v w=>∃ap np cp gk ak nk ck,v=.agg #[.slice ap np cp,.bool gk,.slice ak nk ck]∧eI M w ap np cp gk ak nk ck T
instance {M:Nat→Prop} {T:aV}:Stable (TV M T):=⟨fun _ _ _ k ⟨ap,np,cp,gk,ak,nk,ck,e,h⟩=>⟨ap,np,cp,gk,ak,nk,ck,e,h.eO k⟩⟩
def nH {α:Type} (R:List Value→α→Prop) (d:α) (E:TypeId) (sz B n:Nat) (xs:List α):Value→World→Prop:=fun v w=>∃(va:Option Addr) (vc:Nat) (els:List (List Value)),v=.slice va n vc∧aL w B E sz (.slice va n vc) els∧els.length=n∧∀i,i<n→R (els.getD i []) (xs.getD i d)
instance {α:Type} {R:List Value→α→Prop} {d:α} {E:TypeId} {sz B n:Nat} {xs:List α}:Stable (nH R d E sz B n xs):=⟨fun _ _ _ k ⟨va,vc,els,e,o,n,r⟩=>⟨va,vc,els,e,o.eO k,n,r⟩⟩
theorem aL.base {B':Nat} {els:List (List Value)} (h:aL w B E sz v els) (hb:B'≤B):aL w B' E sz v els:=by
  refine ⟨⟨h.row.1,?_⟩,h.sz⟩;rcases h.row.2 with hx|⟨g,cap,cur,e,hb',hg,r⟩
  · exact .inl hx
  · exact .inr ⟨g,cap,cur,e,bZ1 hb hb',hg,r⟩
def LQ {α:Type} (R:List Value→α→Prop) (d:α) (E:TypeId) (sz B n:Nat) (xs:List α):Value→World→Prop:=fun v w=>∃(va:Option Addr) (vc:Nat) (els:List (List Value)),v=.slice va n vc∧aL w B E sz (.slice va n vc) els∧els.length=n∧(∀i,i<n→R (els.getD i []) (xs.getD i d))∧(n=0→va=none)
instance {α:Type} {R:List Value→α→Prop} {d:α} {E:TypeId} {sz B n:Nat} {xs:List α}:Stable (LQ R d E sz B n xs):=⟨fun _ _ _ k ⟨va,vc,els,e,o,n,r,z⟩=>⟨va,vc,els,e,o.eO k,n,r,z⟩⟩
theorem NK {b:Nat} {vc:Nat} {els:List (List Value)} (o:aL w B E 2 (.slice va n vc) els) (hl:els.length=n) (h0:n=0→va=none) (h1:0<n→∃x a m c,els.getD 0 []=[x,.slice a m c]∧m≠0) (hr:aF w b E [u,.slice none 0 0]):(Value.slice va n vc).ownBlock≠some b:=fun e=>by
  by_cases hn:n=0
  · rw [h0 hn] at e;simp [Value.ownBlock] at e
  · obtain ⟨g,rest,rfl,hrow,_⟩:=o.opens hl zZ
    simp [Value.ownBlock] at e;subst e;obtain ⟨x,a,m,c,he,hm⟩:=h1 zZ;have h2:=hrow.el o.sz (i:=0) (j:=1) zZ zZ;rw [he] at h2;have h3:=hr.cell 1;simp only [Nat.zero_mul,Nat.zero_add] at h2;rw [h3] at h2;simp at h2;exact hm h2.2.1.symm
theorem aL.ne {E':TypeId} {els:List (List Value)} (h:aL w B E sz v els) (h':aF w g E' xs) (hE:E≠E'):v.ownBlock≠some g:=fun e=>by
  rcases h.row.2 with ⟨h1,_⟩|⟨g',cap,cur,h1,_,hg,_⟩
  · rw [h1] at e;simp [Value.ownBlock] at e
  · rw [h1] at e
    simp [Value.ownBlock] at e;subst e;have:=hg.symm.trans h'.out;simp only [Option.some.injEq,Obj.cells.injEq] at this;exact hE this.2.1
theorem aU.apart {c:Nat} (h:aU M w a n c l) (hr:aF w g E xs) (hx:∀v∈xs,∀x,v≠.int .u32 x):aU (With M g) w a n c l:=by
  refine ⟨h.len,⟨h.sl.le,h.sl.cap,h.sl.none,fun p hp h0=>?_⟩,h.lt⟩;obtain ⟨q1,q2,q3,q4⟩:=h.sl.some p hp h0;refine ⟨q1,q2,fun hm=>?_,q4⟩;rcases hm with hm|hm
  · exact q3 hm
  · have:=q4 0 0 h0 zZ
    rw [hm,hr.cell] at this;exact hx _ (List.mem_iff_getElem?.2 ⟨_,this⟩) _ rfl
theorem ZN.apart {M:Nat→Prop} {w:World} {s:Bool} {a:Option Addr} {n c g:Nat} {z:Int} {E:TypeId} {xs:List Value} (h:ZN M w s a n c z) (hr:aF w g E xs) (hx:∀v∈xs,∀x,v≠.int .u32 x):ZN (With M g) w s a n c z:=⟨h.1,h.2.apart hr hx⟩
theorem eI.apart {M:Nat→Prop} {w:World} {g:Nat} {E:TypeId} {xs:List Value} {ap ak:Option Addr} {np cp nk ck:Nat} {gk:Bool} {T:aV} (h:eI M w ap np cp gk ak nk ck T) (hr:aF w g E xs) (hx:∀v∈xs,∀k x,v≠.int k x):eI (With M g) w ap np cp gk ak nk ck T:=by
  refine ⟨?_,h.2.apart hr fun v hv x=>hx v hv _ x⟩;obtain ⟨hl,f,hs,hp⟩:=h.1;refine ⟨hl,f,⟨hs.le,hs.cap,hs.none,fun p hpp h0=>?_⟩,fun i hi=>⟨(hp i hi).1,?_⟩⟩
  · obtain ⟨q1,q2,q3,q4⟩:=hs.some p hpp h0
    refine ⟨q1,q2,fun hm=>?_,q4⟩;rcases hm with hm|hm
    · exact q3 hm
    · have:=q4 0 0 h0 zZ
      obtain ⟨g',a',n',c',e,-⟩:=(hp 0 h0).2;rw [e,hm,hr.cell] at this;exact hx _ (List.mem_iff_getElem?.2 ⟨_,this⟩) _ _ rfl
  · obtain ⟨g',a',n',c',e,hz,h1,h2⟩:=(hp i hi).2
    exact⟨g',a',n',c',e,hz.apart hr (fun v hv x=>hx v hv _ x),h1,h2⟩
theorem eI.less {M:Nat→Prop} {w w':World} {g:Nat} {ap ak:Option Addr} {np cp nk ck:Nat} {gk:Bool} {T:aV} (h:eI (With M g) w ap np cp gk ak nk ck T) (k:aA (One g) w w'):eI M w' ap np cp gk ak nk ck T:=
  ⟨h.1.move k (fun _ _ e=>.inr e) (fun _ _ e=>.inl e) (fun _ _ e=>.inr e) (fun _ _ e=>.inl e),h.2.less k⟩
theorem eI.mono {M':Nat→Prop} {np cp nk ck:Nat} (h:eI M w ap np cp gk ak nk ck T) (hm:∀b,M' b→M b):eI M' w ap np cp gk ak nk ck T:=
  ⟨h.1.move (aA.refl Nil w) (fun _ _ h=>h.elim) (fun _ _ h=>hm _ h) (fun _ _ h=>h.elim) (fun _ _ h=>hm _ h),h.2.move (aA.refl Nil w) (fun _ _ h=>h.elim) (fun _ _ h=>hm _ h)⟩
theorem eI.out {w0 w':World} {np cp nk ck:Nat} (h:eI (Old w0) w ap np cp gk ak nk ck T) (hg:g<w0.heap.size) (hM:∀b,M b→b<w0.heap.size) (k:aA (One g) w w'):eI M w' ap np cp gk ak nk ck T:=
  ⟨h.1.move k (fun b _ (hm:b=g)=>qQ) (fun b _ hm=>hM b hm) (fun b _ (hm:b=g)=>qQ) (fun b _ hm=>hM b hm),h.2.move k (fun b _ (hm:b=g)=>qQ) (fun b _ hm=>hM b hm)⟩
theorem aA.triple (u v x:Value):aA (One g) w (((w.setCell ⟨g,0,none⟩ u).setCell ⟨g,1,none⟩ v).setCell ⟨g,2,none⟩ x):=(((aA.refl (One g) w).set1 0 u).set1 1 v).set1 2 x
theorem aF.triple {a b c:Value} (h:aF w g E [a,b,c]) (u v x:Value):aF (((w.setCell ⟨g,0,none⟩ u).setCell ⟨g,1,none⟩ v).setCell ⟨g,2,none⟩ x) g E [u,v,x]:=((h.set 0 u).set 1 v).set 2 x
theorem aF.iZ (h:aF w g E xs):w.frozen? ⟨g,0,none⟩=false∧w.frozen? ⟨g,1,none⟩=false∧w.frozen? ⟨g,2,none⟩=false:=⟨h.frozen 0,h.frozen 1,h.frozen 2⟩
def Gives (M:Nat→Prop) (F:Value→World→Prop) (w:World) (e:Ending) (w':World):Prop:=∃v,e=.returned v∧F v w'∧aA M w w'
end
end Go.Proofs.Q
