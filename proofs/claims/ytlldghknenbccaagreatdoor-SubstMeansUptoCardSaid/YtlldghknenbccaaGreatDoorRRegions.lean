/- Rules by which a walk reads on through calls, and facts that are kept at the world of their birth. -/
import Derived.Test.YtlldghknenbccaaGreatDoorRZints
set_option linter.unusedSimpArgs false
set_option linter.unusedVariables false
namespace Go.Proofs.Q
open Go.RowKit
section
variable {b:Nat} {v:Value} {p:Addr} {o:Obj}
def Live (w:World) (b:Nat):Prop:=b<w.heap.size
theorem Live.lt {w:World} (h:Live w b):b<w.heap.size:=h
theorem Live.of {w:World} (h:b<w.heap.size):Live w b:=h
theorem aTF {w:World}:Live (w.alloc o) b↔Live w b∨b=w.heap.size:=by
 unfold Live;simp;omega
theorem aWZ {w:World}:Live (w.setCell p v) b↔Live w b:=by
 unfold Live;simp [World.setCell]
theorem aTX {w:World}:Live w.drew b↔Live w b:=Iff.rfl
theorem aZV {w:World} (h:Live w b):¬b=w.heap.size:=tD
theorem aXK {w:World} (h:Live w b):¬w.heap.size=b:=tD
theorem aYS {w:World} (h:Live w b):¬b=w.heap.size+1:=tD
theorem aTV {w:World} (h:Live w b):¬w.heap.size+1=b:=tD
theorem aEZ:(∀(w:World) (o:Obj) (b:Nat),Live (w.alloc o) b↔Live w b∨b=w.heap.size)∧(∀(w:World) (p:Addr) (v:Value) (b:Nat),Live (w.setCell p v) b↔Live w b)∧(∀(w:World) (b:Nat),Live w.drew b↔Live w b) ∧
  (∀(w:World) (b:Nat),Live w b→¬b=w.heap.size)∧(∀(w:World) (b:Nat),Live w b→¬w.heap.size=b)∧(∀(w:World) (b:Nat),Live w b→¬b=w.heap.size+1)∧(∀(w:World) (b:Nat),Live w b→¬w.heap.size+1=b) ∧
  (∀(w:World) (o:Obj) (b k:Nat),Live w b→(w.alloc o).cell? ⟨b,k,none⟩=w.cell? ⟨b,k,none⟩)∧(∀(w:World) (o:Obj) (b k:Nat),Live w b→(w.alloc o).frozen? ⟨b,k,none⟩=w.frozen? ⟨b,k,none⟩):=
 ⟨fun _ _ _=>aTF,fun _ _ _ _=>aWZ,fun _ _=>aTX,fun _ _=>aZV,fun _ _=>aXK,fun _ _=>aYS,fun _ _=>aTV,
  fun w o b k h=>((aA.refl Nil w).alloc o).cell (p:=⟨b,k,none⟩) h id,fun w o b k h=>((aA.refl Nil w).alloc o).frozen (p:=⟨b,k,none⟩) h id⟩
theorem aA.live {w w':World} (h:aA Nil w w'):(∀b o,Live w b→w'.cell? ⟨b,o,none⟩=w.cell? ⟨b,o,none⟩)∧(∀b o,Live w b→w'.frozen? ⟨b,o,none⟩=w.frozen? ⟨b,o,none⟩)∧∀b,Live w b→Live w' b:=
 ⟨fun b o hb=>h.cell (p:=⟨b,o,none⟩) hb id,fun b o hb=>h.frozen (p:=⟨b,o,none⟩) hb id,fun _ hb=>cZ1 hb h.size⟩
def Old (w:World):Nat→Prop:=fun b=>b<w.heap.size
theorem MB.old (w:World):MB (Old w) w:=fun _ h=>h
section
variable {M:Nat→Prop} {x w w':World}
end
end
section
variable {listed D:Array Bool} {w:World} {fuel i:Nat} {a:Act} {rs:List Nat} {oi o:Oper} {v:Value}
section
variable {P:Program} {ops:Array Oper} {Q:Exit→Act→World→Prop} {md:Region.Mode} {S:World→Prop} {T:List Nat}
def iE (P:Program) (md:Region.Mode) (ops:Array Oper) (Q:Exit→Act→World→Prop) (S:World→Prop) (T:List Nat):Nat→Array Bool→Act→World→Prop
 | 0,listed,a,w=>Region.ready md ops listed=[]∧Q .normal a w
 | fuel+1,listed,a,w=>
  (Region.ready md ops listed=[]→Q .normal a w) ∧
  ∀i∈Region.ready md ops listed,wpOp P ops Q i (fun a' w'=>(T.contains i=false→S w→S w')∧iE P md ops Q S T fuel (listed.setIfInBounds i true) a' w') a w
theorem JI:∀(fuel:Nat) (listed:Array Bool) (a:Act) (w:World),iE P md ops Q S T fuel listed a w→wpAny P md ops Q fuel listed a w
 | 0,_,_,_,h=>h
 | fuel+1,_,_,_,h=>⟨h.1,fun i hi=>wpOp_mono (fun a' w' h'=>JI fuel _ a' w' h'.2) (h.2 i hi)⟩
def aWN (md:Region.Mode) (ops:Array Oper) (i:Nat) (D:Array Bool):Array Bool:=
 ((List.range ops.size).map fun j=>D.getD j false||(j != i&&(match ops[j]? with|none=>false|some o=>o.after.all fun e=>!Region.binds md e||D.getD e.on false))).toArray
def LM (md:Region.Mode) (ops:Array Oper) (i:Nat):Nat→Array Bool→Array Bool
 | 0,D=>D
 | n+1,D=>LM md ops i n (aWN md ops i D)
def CS (md:Region.Mode) (ops:Array Oper) (T:List Nat) (D:Array Bool) (i:Nat):Bool:=
 (List.range ops.size).all fun j=>j==i||(match ops[j]? with|none=>true|some o=>!(o.after.all fun e=>!Region.binds md e||D.getD e.on false)||(D.getD j false&&!T.contains j))
def CY (listed D:Array Bool):Bool:=(List.range listed.size).all fun j=>!(listed.getD j false)||D.getD j false
theorem CS.spec (h:CS md ops T D i=true) (j:Nat) (oj:Oper) (hj:ops[j]?=some oj) (hne:j≠i) (hall:∀e∈oj.after,Region.binds md e=true→D.getD e.on false=true):D.getD j false=true∧T.contains j=false:=by
 simp only [CS,kZ2,List.mem_range] at h;have h1:=h j (Array.getElem?_eq_some_iff.1 hj).1;simp only [hj,Bool.or_eq_true,beq_iff_eq,hne,false_or,Bool.not_eq_true',Bool.and_eq_true] at h1;rcases h1 with h1|h1
 ·exfalso;have:(oj.after.all fun e=>!Region.binds md e||D.getD e.on false)=true:=by
   rw [Array.all_eq_true_iff_forall_mem];intro e he;by_cases hb:Region.binds md e=true
   ·rw [hall e he hb];simp
   ·simp [hb]
  rw [this] at h1;cases h1
 ·exact h1
theorem CY.spec (h:CY listed D=true) (j:Nat) (hj:listed.getD j false=true):D.getD j false=true:=by
 simp only [CY,kZ2,List.mem_range] at h;have hlt:j<listed.size:=by
  rcases Nat.lt_or_ge j listed.size with h'|h'
  ·exact h'
  ·simp [Array.getElem?_eq_none h'] at hj
 have:=h j hlt;rw [hj] at this;simpa using this
theorem aAD (hi:ops[i]?=some oi) (hsel:∀(j:Nat) (o:Oper) cs b,ops[j]?=some o→o.op≠.select cs b)
  (hQ:∀c a w,Q (.panic c) (a.put oi.dst v) w→Q (.panic c) a w) (hD:CS md ops T D i=true) :
  ∀(fuel:Nat) (listed:Array Bool) (a:Act) (w:World),
   (∀j,listed.getD j false=true→D.getD j false=true) →
   (∀j oj,ops[j]?=some oj→j≠i→listed.getD j true=false→(∀e∈oj.after,Region.binds md e=true→e.on≠i)→oi.apart ops oj=true) →
   i∈Region.ready md ops listed→YieldsIf P ops S oi v a→S w →
   iE P md ops Q S T fuel (listed.setIfInBounds i true) (a.put oi.dst v) w→iE P md ops Q S T (fuel+1) listed a w:=by
 intro fuel;induction fuel with
 | zero=>
  intro listed a w _ _ hr hy hS H;refine ⟨fun h=>(by rw [h] at hr;cases hr),fun j hj=>?_⟩;by_cases hji:j=i
  ·subst hji;exact hy.wpOp hi hS ⟨fun _ h=>h,H⟩
  ·have:=ready_mono hj hji;rw [H.1] at this;cases this
 | succ fuel ih=>
  intro listed a w hle hfree hr hy hS H;refine ⟨fun h=>(by rw [h] at hr;cases hr),fun j hj=>?_⟩;by_cases hji:j=i
  ·subst hji;exact hy.wpOp hi hS ⟨fun _ h=>h,H⟩
  ·have h1:=H.2 j (ready_mono hj hji);obtain ⟨hjun,oj,hoj,hall⟩:=mem_ready.1 hj;have hnot:∀e∈oj.after,Region.binds md e=true→e.on≠i:=fun e he hb heq=>by
    have h1:=hall e he hb;have h0:=(mem_ready.1 hr).1;rw [heq] at h1;rcases Nat.lt_or_ge i listed.size with h'|h'
    ·simp [h'] at h0 h1;rw [h0] at h1;cases h1
    ·simp [Array.getElem?_eq_none h'] at h1
   obtain ⟨hDj,hTj⟩:=CS.spec hD j oj hoj hji fun e he hb=>hle _ (hall e he hb);have h2:=wpOp_putIf hoj (hfree j oj hoj hji hjun hnot) (fun cs b=>hsel i oi cs b hi) (fun cs b=>hsel j oj cs b hoj) hQ hy h1;have hfree':∀k ok,ops[k]?=some ok→k≠i→(listed.setIfInBounds j true).getD k true=false →
     (∀e∈ok.after,Region.binds md e=true→e.on≠i)→oi.apart ops ok=true:=fun k ok hk hki hun hno=>by
    refine hfree k ok hk hki ?_ hno;by_cases hjk:j=k
    ·subst hjk;exact hjun
    ·rw [getD_set_ne true hjk] at hun;exact hun
   have hle':∀k,(listed.setIfInBounds j true).getD k false=true→D.getD k false=true:=fun k hk=>by
    by_cases hjk:j=k
    ·subst hjk;exact hDj
    ·rw [getD_set_ne false hjk] at hk;exact hle k hk
   refine wpOp_mono (fun a' w' h3=>⟨h3.2.1,ih (listed.setIfInBounds j true) a' w' hle' hfree' (ready_mono hr (Ne.symm hji)) h3.1 (h3.2.1 hTj hS) ?_⟩) h2;rw [Array.setIfInBounds_comm _ _ hji];exact h3.2.2
theorem ND (hi:ops[i]?=some oi)
  (hs:(Region.noSelect ops&&Region.free md ops listed i&&(Region.ready md ops listed).contains i&&CS md ops T (LM md ops i ops.size listed) i&&CY listed (LM md ops i ops.size listed))=true)
  (hQ:∀c a w,Q (.panic c) (a.put oi.dst v) w→Q (.panic c) a w) (hy:YieldsIf P ops S oi v a) (hS:S w)
  (h:iE P md ops Q S T fuel (listed.setIfInBounds i true) (a.put oi.dst v) w):iE P md ops Q S T (fuel+1) listed a w:=by
 simp only [Bool.and_eq_true] at hs;obtain ⟨⟨⟨⟨h1,h2⟩,h3⟩,h4⟩,h5⟩:=hs;exact aAD hi (Region.noSelect_spec h1) hQ h4 fuel listed a w (fun j hj=>CY.spec h5 j hj) (Region.free_spec hi h2) (by simpa using h3) hy hS h
def aZ (P:Program) (md:Region.Mode) (ops:Array Oper) (Q:Exit→Act→World→Prop) (S:World→Prop) (T:List Nat) (fuel:Nat) (listed:Array Bool) (a:Act) (w:World) (rs:List Nat):Prop:=
 ∀i∈rs,wpOp P ops Q i (fun a' w'=>(T.contains i=false→S w→S w')∧iE P md ops Q S T fuel (listed.setIfInBounds i true) a' w') a w
theorem aZ.nil:aZ P md ops Q S T fuel listed a w []:=fun _ h=>wZ
theorem aZ.cons (ho:ops[i]?=some o)
  (h:∀K':Act→World→Prop,Shut (∀a w',(S w→S w')→iE P md ops Q S T fuel (listed.setIfInBounds i true) a w'→K' a w')→if Region.wanted o (yielded ops a.tmps)=true then Oper.wp P o a w K' Q else K' (a.put o.dst undef) w)
  (hs:aZ P md ops Q S T fuel listed a w rs):aZ P md ops Q S T fuel listed a w (i::rs):=fun j hj=>by
 rcases mZ1.1 hj with rfl|hj
 ·exact wpOp_step ho (fun K' hK=>h K' (fun a w hS hW=>hK a w ⟨fun _=>hS,hW⟩))
 ·exact hs j hj
theorem aZ.LU (ho:ops[i]?=some o) (hT:T.contains i=true)
  (h:∀K':Act→World→Prop,Shut (∀a w',iE P md ops Q S T fuel (listed.setIfInBounds i true) a w'→K' a w')→if Region.wanted o (yielded ops a.tmps)=true then Oper.wp P o a w K' Q else K' (a.put o.dst undef) w)
  (hs:aZ P md ops Q S T fuel listed a w rs):aZ P md ops Q S T fuel listed a w (i::rs):=fun j hj=>by
 rcases mZ1.1 hj with rfl|hj
 ·exact wpOp_step ho (fun K' hK=>h K' (fun a w hW=>hK a w ⟨(fun hf=>by rw [hT] at hf;cases hf),hW⟩))
 ·exact hs j hj
theorem bV (hr:Region.ready md ops listed=rs) (hne:rs≠[])
  (h:aZ P md ops Q S T fuel listed a w rs):iE P md ops Q S T (fuel+1) listed a w:=⟨fun h0=>absurd (hr ▸ h0) hne,hr ▸ h⟩
theorem aK (i:Nat)
  (h:∀K':Act→World→Prop,Shut (∀a w',(S w→S w')→iE P md ops Q S T fuel (listed.setIfInBounds i true) a w'→K' a w')→if Region.wanted o (yielded ops a.tmps)=true then Oper.wp P o a w K' Q else K' (a.put o.dst undef) w)
  (ho:ops[i]?=some o:=by rfl) (hr:Region.ready md ops listed=[i]:=by kernel_rfl):iE P md ops Q S T (fuel+1) listed a w:=bV hr zW (aZ.cons ho h aZ.nil)
theorem eG {a2:Act} (i:Nat) (hS:S w)
  (h:iE P md ops Q S T fuel (listed.setIfInBounds i true) a2 w)
  (hi:ops[i]?=some oi:=by rfl)
  (hs:(Region.noSelect ops&&Region.free md ops listed i&&(Region.ready md ops listed).contains i&&CS md ops T (LM md ops i ops.size listed) i&&CY listed (LM md ops i ops.size listed))=true:=by kernel_rfl)
  (hy:YieldsIf P ops S oi v a:=by (refine Or.inl ⟨zU,?_⟩;intro w' hSw;obtain ⟨s1,s2,s3,s4⟩:=hSw;go_simp;(try with_reducible rfl)))
  (ha:a.put oi.dst v=a2:=by ((try simp only [Act.put,sN,sL]);exact rfl))
  (hQ:∀c a w,Q (.panic c) (a.put oi.dst v) w→Q (.panic c) a w:=by exact fun _ _ _ h=>h):iE P md ops Q S T (fuel+1) listed a w:=ND hi hs hQ hy hS (ha ▸ h)
theorem aR (hr:Region.ready md ops listed=[]) (h:Q .normal a w):∀fuel,iE P md ops Q S T fuel listed a w
 | 0=>⟨hr,h⟩
 | _+1=>⟨fun _=>h,by rw [hr];simp⟩
theorem RU {id:Nat} (S:World→Prop) (T:List Nat) (hm:P.follows .mixedOrders=true)
  (h:iE P .any ops Q S T ops.size (Array.replicate ops.size false) a w.drew):(Code.region id ops true).wp P Q a w:=
 wp_region_any hm (JI _ _ _ _ h)
end
end
section
def aQ (a:Act) (us:Nat→Value):List Nat→Act
 | []=>a
 | d::ds=>(aQ a us ds).put (some d) (us d)
def upd (us:Nat→Value) (d:Nat) (v:Value):Nat→Value:=fun k=>if k=d then v else us k
theorem bBB (a:Act) (d:Nat) (u v:Value):(a.put (some d) u).put (some d) v=a.put (some d) v:=by
 simp [Act.put]
theorem aTY (a:Act) {d e:Nat} (h:d≠e) (u v:Value):(a.put (some d) u).put (some e) v=(a.put (some e) v).put (some d) u:=by
 simp only [Act.put];rw [Array.setIfInBounds_comm _ _ h]
theorem ZC (a:Act) (us:Nat→Value) (d:Nat) (v:Value):∀ds:List Nat,d ∉ ds→aQ a (upd us d v) ds=aQ a us ds
 | [],_=>rfl
 | e::ds,h=>by
  have h1:e≠d:=fun he=>h (he ▸ kZ1 ..);simp only [aQ];rw [ZC a us d v ds (fun hd=>h (lZ1 _ hd)),show upd us d v e=us e from if_neg h1]
theorem NP (a:Act) (us:Nat→Value) (d:Nat) (v:Value):∀ds:List Nat,ds.Nodup→d∈ds→(aQ a us ds).put (some d) v=aQ a (upd us d v) ds
 | [],_,h=>wZ
 | e::ds,hn,h=>by
  obtain ⟨hn1,hn2⟩:=List.nodup_cons.1 hn;simp only [aQ];by_cases he:e=d
  ·subst he;rw [bBB,ZC a us e v ds hn1,show upd us e v e=v from if_pos rfl]
  ·have hd:d∈ds:=by
    rcases mZ1.1 h with h|h
    ·exact absurd h.symm he
    ·exact h
   rw [aTY _ he,NP a us d v ds hn2 hd,show upd us d v e=us e from if_neg he]
theorem aWU (a:Act) (d:Nat):a.put (some d) (a.tmps.getD d undef)=a:=by
 obtain ⟨t,ds⟩:=a;simp only [Act.put];congr 1;apply Array.ext
 ·simp
 ·intro i h1 h2;by_cases hi:d=i
  ·subst hi;simp [h2]
  ·rw [Array.getElem_setIfInBounds_ne h2 hi]
theorem NI (a:Act):∀ds:List Nat,aQ a (fun d=>a.tmps.getD d undef) ds=a
 | []=>rfl
 | d::ds=>by simp only [aQ];rw [NI a ds];exact aWU a d
section
variable {P:Program} {ops:Array Oper} {Q:Exit→Act→World→Prop}
def jF (o:Oper):List Nat:=(o.after.toList.filter fun e=>Region.binds .any e).map fun e=>e.on
def lU (listed:Array Bool):Nat:=(listed.toList.filter fun b=>!b).length
theorem MW {listed:Array Bool} {i:Nat} (h:listed.getD i true=false):lU (listed.setIfInBounds i true)+1=lU listed:=by
 obtain ⟨l⟩:=listed;unfold lU;simp only [List.setIfInBounds_toArray,Array.getD_eq_getD_getElem?,List.getElem?_toArray] at *
 induction l generalizing i with
 | nil=>simp at h
 | cons b l ih=>
  cases i with
  | zero=>simp at h;subst h;simp
  | succ i=>
   have:=ih (i:=i) wD;cases b
   ·simp only [List.set_cons_succ,List.filter_cons,Bool.not_false,if_true,gZ1] at *;omega
   ·simpa using this
end
end
section
section
variable {P:Program} {ops:Array Oper} {Q:Exit→Act→World→Prop}
def anc (ops:Array Oper):Nat→Nat→List Nat
 | 0,_=>[]
 | f+1,j=>match ops[j]? with|none=>[]|some o=>jF o++(jF o).flatMap (anc ops f)
def JA (ops:Array Oper) (j i:Nat):Bool:=(anc ops ops.size j).elem i
def XI (ops:Array Oper) (size:Nat) (ds:List Nat):Bool:=
 ds.length==ops.size&&decide ds.Nodup&&(List.range ops.size).all fun j=>match ops[j]? with|none=>false|some o=>(decide (o.dst=some (ds.getD j 0))||(decide (o.dst=none)&&decide (size≤ds.getD j 0)))&&(jF o).all fun i=>decide (i<j)
def aUS (P:Program) (ops:Array Oper) (Q:Exit→Act→World→Prop) (w0:World) (a:Act) (ds:List Nat) (F:Nat→Value→World→Prop) (A:Nat→Prop) (Pre:Nat→World→Prop) (R:Nat→World→World→Prop) (j:Nat):Prop:=
 ∀o,ops[j]?=some o→∀(us:Nat→Value) (w:World),aA A w0 w→Pre j w→(∀i,(jF o).elem i=true→F i (us (ds.getD i 0)) w)→∀K:Act→World→Prop,Shut (∀v w',R j w w'→aA A w0 w'→F j v w'→K ((aQ a us ds).put o.dst v) w') →
  if Region.wanted o (yielded ops (aQ a us ds).tmps)=true then Oper.wp P o (aQ a us ds) w K Q else K ((aQ a us ds).put o.dst undef) w
def GH (P:Program) (ops:Array Oper) (Q:Exit→Act→World→Prop) (w0:World) (a:Act) (ds:List Nat) (F:Nat→Value→World→Prop) (A:Nat→Prop) (Pre:Nat→World→Prop) (R:Nat→World→World→Prop) (n:Nat):Prop:=∀j,j<n→aUS P ops Q w0 a ds F A Pre R j
theorem TW {listed:Array Bool} (hsz:listed.size=ops.size) (hcl:∀j o,ops[j]?=some o→listed.getD j false=true→∀i∈jF o,listed.getD i false=true):∀f j o,ops[j]?=some o→(∀i∈jF o,listed.getD i false=true)→∀i∈anc ops f j,listed.getD i false=true
 | 0,_,_,_,_,i,hi=>by simp [anc] at hi
 | f+1,j,o,ho,hp,i,hi=>by
  simp only [anc,ho,jZ1,fZ3] at hi;rcases hi with hi|⟨k,hk,hi⟩
  ·exact hp i hi
  ·have hkl:=hp k hk;have hlt:k<ops.size:=by
    rcases Nat.lt_or_ge k listed.size with h'|h'
    ·omega
    ·simp [Array.getElem?_eq_none h'] at hkl
   exact TW hsz hcl f k ops[k] (Array.getElem?_eq_getElem hlt) (hcl k _ (Array.getElem?_eq_getElem hlt) hkl) i hi
theorem aOC (a:Act) (us:Nat→Value) (ds:List Nat) (d:Nat) (v:Value) (h:a.tmps.size≤d):aQ a us ds=(aQ a us ds).put (some d) v:=by
 have hs:∀ds:List Nat,(aQ a us ds).tmps.size=a.tmps.size:=by
  intro ds;induction ds with
  | nil=>rfl
  | cons e ds ih=>simp only [aQ,Act.put,Array.size_setIfInBounds];exact ih
 have:=hs ds;generalize aQ a us ds=b at *
 obtain ⟨t,dd⟩:=b;simp only [Act.put] at *
 congr 1;rw [Array.setIfInBounds_eq_of_size_le zZ]
theorem aYL {w0:World} {a:Act} {ds:List Nat} {F:Nat→Value→World→Prop} {A:Nat→Prop} {Pre:Nat→World→Prop} {R:Nat→World→World→Prop} (hok:XI ops a.tmps.size ds=true)
  (hF:∀i j v w w',i≠j→JA ops i j=false→R j w w'→F i v w→F i v w') (hP:∀i j w w',i≠j→JA ops j i=false→R j w w'→Pre i w→Pre i w') (hst:GH P ops Q w0 a ds F A Pre R ops.size)
  (fin:∀(us:Nat→Value) (w:World),aA A w0 w→(∀j,j<ops.size→F j (us (ds.getD j 0)) w)→Q .normal (aQ a us ds) w) :
  ∀(fuel:Nat) (listed:Array Bool) (us:Nat→Value) (w:World),listed.size=ops.size→lU listed≤fuel→(∀j o,ops[j]?=some o→listed.getD j false=true→∀i∈jF o,listed.getD i false=true)→aA A w0 w →
   (∀j,listed.getD j false=true→F j (us (ds.getD j 0)) w)→(∀j,j<ops.size→listed.getD j true=false→Pre j w)→wpAny P .any ops Q fuel listed (aQ a us ds) w:=by
 simp only [XI,Bool.and_eq_true,beq_iff_eq,decide_eq_true_eq,kZ2,List.mem_range] at hok;obtain ⟨⟨hlen,hnd⟩,hall⟩:=hok;have hop:∀j o,ops[j]?=some o→(o.dst=some (ds.getD j 0)∨o.dst=none∧a.tmps.size≤ds.getD j 0)∧∀i∈jF o,i<j:=fun j o hj=>by
  have:=hall j (Array.getElem?_eq_some_iff.1 hj).1;simp only [hj,Bool.and_eq_true,Bool.or_eq_true,decide_eq_true_eq,kZ2] at this;exact this
 have hmemds:∀j,j<ops.size→ds.getD j 0∈ds:=fun j hj=>by
  simp [List.getD,jZ2 (show j<ds.length by omega)]
 have hdsinj:∀i j,i<ops.size→j<ops.size→ds.getD i 0=ds.getD j 0→i=j:=fun i j hi hj he=>by
  simp only [List.getD,jZ2 (show i<ds.length by omega),jZ2 (show j<ds.length by omega),Option.getD_some] at he;exact (List.getElem_inj hnd).1 he
 have hready:∀(listed:Array Bool),listed.size=ops.size→Region.ready .any ops listed=[]→∀j,j<ops.size→listed.getD j false=true:=fun listed hsz hr j=>by
  induction j using Nat.strongRecOn with
  | _ j ih=>
   intro hj;by_cases hl:listed.getD j false=true
   ·exact hl
   ·exfalso;have hm:j∈Region.ready .any ops listed:=by
     rw [mem_ready];refine ⟨?_,ops[j],Array.getElem?_eq_getElem hj,fun e he hb=>?_⟩
     ·have:j<listed.size:=zZ;simp [this] at hl⊢;exact hl
     ·have hlt:=(hop j _ (Array.getElem?_eq_getElem hj)).2 e.on (iZ2.2 ⟨e,kZ3.2 ⟨sI,hb⟩,rfl⟩);exact ih e.on hlt zZ
    rw [hr] at hm;cases hm
 intro fuel;induction fuel with
 | zero=>
  intro listed us w hsz hun hcl hk hf hp;have hrl:Region.ready .any ops listed=[]:=by
   rcases hr:Region.ready .any ops listed with _|⟨i,l⟩
   ·rfl
   ·exfalso;have hi:i∈Region.ready .any ops listed:=by rw [hr];exact kZ1 ..
    have:=MW (mem_ready.1 hi).1;omega
  exact⟨hrl,fin us w hk fun j hj=>hf j (hready listed hsz hrl j hj)⟩
 | succ fuel ih=>
  intro listed us w hsz hun hcl hk hf hp;refine ⟨fun hrl=>fin us w hk fun j hj=>hf j (hready listed hsz hrl j hj),fun i hi=>?_⟩;obtain ⟨hiun,o,ho,hpre⟩:=mem_ready.1 hi;have hilt:=(Array.getElem?_eq_some_iff.1 ho).1;have hpl:∀x∈jF o,listed.getD x false=true:=fun x hx=>yH;have hanc:=TW hsz hcl ops.size i o ho hpl;obtain ⟨hdst,_⟩:=hop i o ho;refine wpOp_step ho fun K' hK=>?_;refine hst i hilt o ho us w hk (hp i hilt hiun) (fun x hx=>hf _ (hpl x (List.elem_iff.1 hx))) K' (fun v w' hR hk' hfv=>?_);refine hK _ _ ?_;have hput:(aQ a us ds).put o.dst v=aQ a (upd us (ds.getD i 0) v) ds:=by
   rcases hdst with hdst|⟨hdst,hfar⟩
   ·rw [hdst,NP a us _ v ds hnd (hmemds i hilt)]
   ·rw [hdst];show aQ a us ds=_
    rw [aOC a us ds _ v hfar,NP a us _ v ds hnd (hmemds i hilt)]
  rw [hput];have hu:=MW hiun;have hnl:¬listed.getD i false=true:=uV;refine ih _ _ _ (by simpa using hsz) zZ (fun j oj hj hjl x hx=>?_) hk' (fun j hj=>?_) (fun j hjlt hj=>?_)
  ·refine getD_set_true ?_;by_cases hji:i=j
   ·subst hji;obtain rfl:o=oj:=by rw [ho] at hj;exact lZ2 hj
    exact hpl x hx
   ·rw [getD_set_ne false hji] at hjl;exact hcl j oj hj hjl x hx
  ·by_cases hji:i=j
   ·subst hji;rw [show upd us (ds.getD i 0) v (ds.getD i 0)=v from if_pos rfl];exact hfv
   ·rw [getD_set_ne false hji] at hj;have hjlt:j<ops.size:=by
     rcases Nat.lt_or_ge j listed.size with h'|h'
     ·omega
     ·simp [Array.getElem?_eq_none h'] at hj
    rw [show upd us (ds.getD i 0) v (ds.getD j 0)=us (ds.getD j 0) from if_neg (fun he=>hji (hdsinj j i hjlt hilt he).symm)];refine hF j i _ _ _ (fun e=>hji e.symm) ?_ hR (hf j hj);cases hb:JA ops j i with
    | false=>rfl
    | true=>
     exfalso;exact hnl (TW hsz hcl ops.size j ops[j] (Array.getElem?_eq_getElem hjlt) (hcl j _ (Array.getElem?_eq_getElem hjlt) hj) i (List.elem_iff.1 hb))
  ·by_cases hji:i=j
   ·exfalso;subst hji;have:i<listed.size:=zZ;simp [this] at hj
   ·rw [getD_set_ne true hji] at hj;refine hP j i _ _ (fun e=>hji e.symm) ?_ hR (hp j hjlt hj);cases hb:JA ops i j with
    | false=>rfl
    | true=>
     exfalso;have:=hanc j (List.elem_iff.1 hb);have hjl:j<listed.size:=zZ;simp [hjl] at this hj;rw [hj] at this;cases this
theorem aLJ {id:Nat} {a:Act} {w:World} (ds:List Nat) (F:Nat→Value→World→Prop) (A:Nat→Prop) (Pre:Nat→World→Prop) (R:Nat→World→World→Prop) (hm:P.follows .mixedOrders=true) (hok:XI ops a.tmps.size ds=true)
  (hF:∀i j v w w',i≠j→JA ops i j=false→R j w w'→F i v w→F i v w') (hP:∀i j w w',i≠j→JA ops j i=false→R j w w'→Pre i w→Pre i w') (h0:∀j,Pre j w.drew) (hst:GH P ops Q w a ds F A Pre R ops.size)
  (fin:∀(us:Nat→Value) (w':World),aA A w w'→(∀j,j<ops.size→F j (us (ds.getD j 0)) w')→Q .normal (aQ a us ds) w'):(Code.region id ops true).wp P Q a w:=by
 refine wp_region_any hm ?_;have hnone:∀j,(Array.replicate ops.size false).getD j false=true→False:=fun j hj=>by
  rcases Nat.lt_or_ge j ops.size with h'|h'
  ·simp [h'] at hj
  ·simp [h'] at hj
 have h:=aYL hok hF hP hst fin ops.size (Array.replicate ops.size false) (fun d=>a.tmps.getD d undef) w.drew zW (by
  unfold lU;have:=List.length_filter_le (fun b=>!b) (Array.replicate ops.size false).toList;simp at this⊢) (fun j o _ hj=>(hnone j hj).elim) ((aA.refl A w).drew) (fun j hj=>(hnone j hj).elim) (fun j _ _=>h0 j)
 rw [NI] at h;exact h
end
end
section
variable {listed:Array Bool} {w:World} {a:Act} {fuel i:Nat} {oi:Oper} {v:Value}
section
variable {P:Program} {ops:Array Oper} {Q:Exit→Act→World→Prop} {md:Region.Mode} {S:World→Prop} {T:List Nat}
theorem SL (D:Array Bool) (hi:ops[i]?=some oi)
  (hs:(Region.noSelect ops&&Region.free md ops listed i&&(Region.ready md ops listed).contains i&&CS md ops T D i&&CY listed D)=true)
  (hy:YieldsIf P ops S oi v a) (hS:S w)
  (h:iE P md ops (NoPanic Q) S T fuel (listed.setIfInBounds i true) (a.put oi.dst v) w):iE P md ops (NoPanic Q) S T (fuel+1) listed a w:=by
 simp only [Bool.and_eq_true] at hs;obtain ⟨⟨⟨⟨h1,h2⟩,h3⟩,h4⟩,h5⟩:=hs;exact aAD hi (Region.noSelect_spec h1) (fun c a w h=>False.elim h) h4 fuel listed a w (fun j hj=>CY.spec h5 j hj) (Region.free_spec hi h2) (by simpa using h3) hy hS h
theorem aH {a2:Act} {b c:World} (i:Nat) (D:Array Bool) (hS:aA Nil b c)
  (h:iE P md ops (NoPanic Q) (aA Nil b) T fuel (listed.setIfInBounds i true) a2 c)
  (hi:ops[i]?=some oi:=by rfl)
  (hs:(Region.noSelect ops&&Region.free md ops listed i&&(Region.ready md ops listed).contains i&&CS md ops T D i&&CY listed D)=true:=by kernel_rfl)
  (hy:YieldsIf P ops (aA Nil b) oi v a:=by first|exact Or.inr ⟨zU,rfl⟩|(refine Or.inl ⟨zU,?_⟩;intro w' hSw;obtain ⟨hrc,hrf⟩:=hSw.rules;clear hSw;go_simp;(try with_reducible rfl)))
  (ha:a.put oi.dst v=a2:=by ((try simp only [Act.put,sN,sL]);exact rfl)):iE P md ops (NoPanic Q) (aA Nil b) T (fuel+1) listed a c:=SL D hi hs hy hS (ha ▸ h)
theorem dJ {id:Nat} (S:World→Prop) (T:List Nat) (hm:P.follows .mixedOrders=true)
  (h:iE P .any ops (NoPanic Q) S T ops.size (Array.replicate ops.size false) a w.drew):(Code.region id ops true).wp P Q a w:=wp_region_noPanic (RU S T hm h)
theorem BA (hr:Region.ready md ops listed=[]) (h:Q .normal a w):∀fuel,iE P md ops (NoPanic Q) S T fuel listed a w:=aR hr (NoPanic.normal h)
end
end
end Go.Proofs.Q
