/- A map of nodes by integers. No condition but room. -/
import Derived.Test.YthjlmocbeoimaaaGreatDoorLLists
import Derived.Test.YthjlmocbeoimaaaGreatDoorLArenasA
set_option linter.unusedSimpArgs false
set_option linter.unusedVariables false
namespace Go.Rid
open Go.RowKit Go.Maps
def RNd (v:Value):Option (DataW Value × List MemPlace):=
 match v with
 | .agg cs=>(match cs.toList with|[.int .i64 _,.bool _,.slice _ _ _,.slice _ _ _,.bool _,.slice _ _ _,.int .i64 _,.slice _ _ _]=>some (.held v,[])|_=>none)
 | _=>none
theorem RNd_mk {M:Nat→Prop} {w:World} {cs:List Value} {N:aW} (h:NodeR M w cs N):RNd (.agg cs.toArray)=some (.held (.agg cs.toArray),[]):=by
 obtain ⟨_,_,_,_,_,_,_,_,_,_,_,_,_,_,rfl,-⟩:=h
 rfl
theorem RNd_inv {v:Value} {y:DataW Value × List MemPlace} (h:RNd v=some y):y=(.held v,[]):=by
 unfold RNd at h
 split at h
 ·split at h
  ·cases h
   rfl
  ·cases h
 ·cases h
theorem ownsMap_moveG {H:Type} {P:Program} {kt:TypeId} {R:Value→Option (DataW H × List MemPlace)} {M:Nat→Prop} {w w':World} {b m:Nat} {D:DataW H} (h:w.ownsMap P kt R b m D) (k:aA M w w') (hn:¬M b):w'.ownsMap P kt R b m D:=by
 have hlt:=h.lt
 obtain ⟨es,clock,hb,F,hs,hD⟩:=h
 exact⟨es,clock,(k.block b hlt hn).trans hb,F,hs,hD⟩
def zvN:Value:=.agg #[.int .i64 0,.bool false,.slice none 0 0,.slice none 0 0,.bool false,.slice none 0 0,.int .i64 0,.slice none 0 0]
def NMap (P:Program) (kt:TypeId) (M:Nat→Prop) (w:World) (b m:Nat) (C:Int→aW):Prop:=
 ∃D:DataW Value,w.ownsMap P kt RNd b m D∧∀v,I64' v→∃cs,D.atKey (.int .i64 v) (.held zvN)=.held (.agg cs.toArray)∧NodeR M w cs (C v)
theorem NMap.move {P:Program} {kt:TypeId} {M M' M2:Nat→Prop} {w w':World} {b m:Nat} {C:Int→aW} (h:NMap P kt M w b m C) (k:aA M' w w') (hn:¬M' b) (h1:∀b,b<w.heap.size→M' b→M b) (h2:∀b,b<w.heap.size→M2 b→M b):NMap P kt M2 w' b m C:=by
 obtain ⟨D,q1,q2⟩:=h
 refine ⟨D,ownsMap_moveG q1 k hn,fun v hv=>?_⟩
 obtain ⟨cs,e,hz⟩:=q2 v hv
 exact⟨cs,e,hz.move k h1 h2⟩
theorem NMap.keepNil {P:Program} {kt:TypeId} {M:Nat→Prop} {w w':World} {b m:Nat} {C:Int→aW} (h:NMap P kt M w b m C) (k:aA Nil w w'):NMap P kt M w' b m C:=h.move k id (fun _ _ h=>h.elim) fun _ _=>id
theorem NMap.made {P:Program} {kt:TypeId} (M:Nat→Prop) (w:World):NMap P kt M (w.alloc (.map #[] 0)) w.heap.size 0 fun _=>bC:=
 ⟨.map [],World.ownsMap_made _ _ _ _,fun v _=>⟨[.int .i64 0,.bool false,.slice none 0 0,.slice none 0 0,.bool false,.slice none 0 0,.int .i64 0,.slice none 0 0],rfl,NodeR.const 0⟩⟩
theorem NMap.look {P:Program} {kt t e:TypeId} {M:Nat→Prop} {w:World} {b m:Nat} {C:Int→aW} {v:Int} (h:NMap P kt M w b m C) (hk:P.underlying kt=some (.int .i64)) (ht:P.underlying t=some (.map kt e)) (hz:∀w,(zeroValue e).run P w=.ok zvN w) (hv:I64' v) :
  ∃cs,NodeR M w cs (C v)∧∀w',aA Nil w w'→(Instr.lookup t (.map (some b)) (.int .i64 v) false).run P w'=.ok (.agg cs.toArray) w':=by
 obtain ⟨D,q1,q2⟩:=h
 obtain ⟨cs,e1,hzn⟩:=q2 v hv
 refine ⟨cs,hzn,fun w' k=>?_⟩
 obtain ⟨v',ps,hrun,hR⟩:=(ownsMap_moveG q1 k id).lookup (int_keyed hk) ht (hz w') (zd:=.held zvN) (zp:=[]) rfl (key_i64 hk hv)
 have e2:=RNd_inv hR
 rw [e1] at e2
 simp only [Prod.mk.injEq,DataW.held.injEq] at e2
 rw [hrun,←e2.1]
theorem NMap.put {P:Program} {kt t e:TypeId} {M:Nat→Prop} {w:World} {b m:Nat} {C:Int→aW} {v:Int} {N:aW} {cs:List Value} (h:NMap P kt M w b m C) (hk:P.underlying kt=some (.int .i64)) (ht:P.underlying t=some (.map kt e)) (hv:I64' v) (hm:m<9223372036854775807) (hM:M b) (hz:NodeR M w cs N) :
  ∃w',(Instr.mapUpdate t (.map (some b)) (.int .i64 v) (.agg cs.toArray)).run P w=.ok () w'∧NMap P kt M w' b (m+1) (fun u=>if v=u then N else C u)∧aA (One b) w w':=by
 obtain ⟨D,q1,q2⟩:=h
 obtain ⟨w',hrun,hown,hgr⟩:=q1.update (int_keyed hk) ht (by unfold maxLen;omega) (key_i64 hk hv) (RNd_mk hz)
 have hkp:=aA.ofGrown hgr
 refine ⟨w',hrun,⟨_,hown,fun u hu=>?_⟩,hkp⟩
 have hsub:∀b',b'<w.heap.size→One b b'→M b':=fun b' _ e=>by rw [show b'=b from e];exact hM
 by_cases huv:v=u
 ·subst huv
  refine ⟨cs,?_,by show NodeR M w' cs (if v=v then N else C v);rw [if_pos rfl];exact hz.move hkp hsub fun _ _=>id⟩
  exact atKey_put_same ((q1.tidy (int_keyed hk)).isMap) (show WideAt.IsKeyLit (Lit.int .i64 v) from trivial) _ _
 ·obtain ⟨cs',e1,hz'⟩:=q2 u hu
  refine ⟨cs',?_,by show NodeR M w' cs' (if v=u then N else C u);rw [if_neg huv];exact hz'.move hkp hsub fun _ _=>id⟩
  rw [atKey_put_other (by intro e;cases e;exact huv rfl)]
  exact e1
def IMap (P:Program) (kt et:TypeId) (w:World) (b m:Nat) (C:Int→Int):Prop:=
 ∃D:DataW Unit,w.ownsMap P kt (plainElem P et) b m D∧∀v,I64' v→D.atKey (.int .i64 v) (.lit (.int .i64 0))=.lit (.int .i64 (C v))
theorem IMap.keep {P:Program} {kt et:TypeId} {M:Nat→Prop} {w w':World} {b n:Nat} {C:Int→Int} (h:IMap P kt et w b n C) (k:aA M w w') (hn:¬M b):IMap P kt et w' b n C:=by
 obtain ⟨D,q1,q2⟩:=h
 refine ⟨D,?_,q2⟩
 have hlt:=q1.lt
 obtain ⟨es,clock,hb,F,hs,hD⟩:=q1
 exact⟨es,clock,(k.block b hlt hn).trans hb,F,hs,hD⟩
theorem IMap.made {P:Program} {kt et:TypeId} (w:World):IMap P kt et (w.alloc (.map #[] 0)) w.heap.size 0 fun _=>0:=
 ⟨.map [],World.ownsMap_made _ _ _ _,fun _ _=>rfl⟩
section
variable {P:Program} (w:World) {ops:Array Oper} {rest:List Oper} {o:Oper} {a:Act} {Q:Exit→Act→World→Prop}
theorem cT {M:Nat→Prop} (hg:o.guard=none) (m x:Operand) (t:TypeId) (hop:o.op=Op.lookup t m x false) (kt e:TypeId) (hk:P.underlying kt=some (.int .i64)) (ht:P.underlying t=some (.map kt e)) (hz:∀w,(zeroValue e).run P w=.ok zvN w)
  (b n:Nat) (C:Int→aW) (hm:a.eval m=.map (some b)) (hF:NMap P kt M w b n C) (v:Int) (hx:a.eval x=.int .i64 v) (hv:I64' v)
  (hK:∀cs,NodeR M w cs (C v)→wpList P ops Q rest (a.put o.dst (.agg cs.toArray)) w):wpList P ops Q (o::rest) a w:=by
 refine wpList_plain hg fun K' hK'=>?_
 obtain ⟨cs,hn,hrun⟩:=hF.look hk ht hz hv
 have hr:=hrun w (aA.refl _ _)
 unfold Oper.wp
 simp [execOp,hop,hm,hx,hr,Result.andThen]
 exact hK' _ _ (hK cs hn)
theorem wpList_imap_look (hg:o.guard=none) (m x:Operand) (t:TypeId) (hop:o.op=Op.lookup t m x false) (kt et:TypeId) (hk:P.underlying kt=some (.int .i64)) (ht:P.underlying t=some (.map kt et)) (he:P.underlying et=some (.int .i64)) (hz:(zeroValue et).run P w=.ok (.int .i64 0) w)
  (b n:Nat) (C:Int→Int) (hm:a.eval m=.map (some b)) (hF:IMap P kt et w b n C) (v:Int) (hx:a.eval x=.int .i64 v) (hv:I64' v)
  (hK:wpList P ops Q rest (a.put o.dst (.int .i64 (C v))) w):wpList P ops Q (o::rest) a w:=by
 obtain ⟨D,q1,q2⟩:=hF
 refine wpList_lookup_own_int w hg m x t hop kt et .i64 (int_keyed hk) ht he hz b n D hm q1 _ (.int .i64 v) hx (key_i64 hk hv) ?_
 intro c hc _
 have h:=hc.symm.trans (q2 v hv)
 simp only [DataW.lit.injEq,Lit.int.injEq,true_and] at h
 rw [h]
 exact hK
theorem wpList_imap_put (hg:o.guard=none) (m x v:Operand) (t:TypeId) (hop:o.op=Op.mapUpdate t m x v) (kt et:TypeId) (hk:P.underlying kt=some (.int .i64)) (ht:P.underlying t=some (.map kt et)) (he:P.underlying et=some (.int .i64))
  (b n:Nat) (C:Int→Int) (hm:a.eval m=.map (some b)) (hF:IMap P kt et w b n C) (hn:n<maxLen) (i j:Int) (hx:a.eval x=.int .i64 i) (hi:I64' i) (hv:a.eval v=.int .i64 j) (hj:I64' j)
  (hK:∀w',IMap P kt et w' b (n+1) (fun u=>if i=u then j else C u)→aA (One b) w w'→wpList P ops Q rest (a.put o.dst undef) w'):wpList P ops Q (o::rest) a w:=by
 obtain ⟨D,q1,q2⟩:=hF
 refine wpList_mapUpdate_own w hg m x v t hop kt et (int_keyed hk) ht (plainElem P et) b n D hm q1 hn _ _ (.int .i64 i) hx hv (key_i64 hk hi) (.lit (.int .i64 j)) [] (plainElem_int he (WalkArith.wf_i64 hj)) ?_
 intro w' r1 r2
 refine hK w' ⟨_,r1,fun u hu=>?_⟩ (aA.ofGrown r2)
 by_cases hiu:i=u
 ·subst hiu
  show _=DataW.lit (.int .i64 (if i=i then j else C i))
  rw [if_pos rfl]
  exact atKey_put_same ((q1.tidy (int_keyed hk)).isMap) (show WideAt.IsKeyLit (Lit.int .i64 i) from trivial) _ _
 ·show _=DataW.lit (.int .i64 (if i=u then j else C u))
  rw [if_neg hiu,atKey_put_other (by intro e;cases e;exact hiu rfl)]
  exact q2 u hu
end
end Go.Rid
