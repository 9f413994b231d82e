/- A map of nodes by integers. -/
import Derived.Test.YtlldghknenbccaaGreatDoorPMadesC
set_option linter.unusedSimpArgs false
set_option linter.unusedVariables false
set_option maxRecDepth 100000
set_option maxHeartbeats 4000000
namespace Go.Proofs.Q
open Go.RowKit Go.Maps Tryz
section
variable {M:Nat→Prop} {kt et t e:TypeId} {C:Int→aS} {y:DataW Value × List MemPlace} {cs:List Value} {b m:Nat} {w':World} {v:Int} {N:aS} {H:Type}
def RNd (v:Value):Option (DataW Value × List MemPlace):=
 match v with
 | .agg cs=>(match cs.toList with|[.int .i64 _,.bool _,.slice _ _ _,.slice _ _ _,.bool _,.slice _ _ _,.int .i64 _,.slice _ _ _]=>some (.held v,[])|_=>none)
 | _=>none
theorem RNd_mk {w:World} (h:NodeR M w cs N):RNd (.agg cs.toArray)=some (.held (.agg cs.toArray),[]):=by
 obtain ⟨_,_,_,_,_,_,_,_,_,_,_,_,_,_,rfl,-⟩:=h;rfl
theorem RNd_inv {v:Value} (h:RNd v=some y):y=(.held v,[]):=by
 unfold RNd at h;split at h
 ·split at h
  ·cases h
   rfl
  ·cases h
 ·cases h
theorem ownsMap_moveG {P:Program} {R:Value→Option (DataW H × List MemPlace)} {w:World} {D:DataW H} (h:w.ownsMap P kt R b m D) (k:aA M w w') (hn:¬M b):w'.ownsMap P kt R b m D:=by
 have hlt:=h.lt;obtain ⟨es,clock,hb,F,hs,hD⟩:=h;exact⟨es,clock,(k.block b hlt hn).trans hb,F,hs,hD⟩
def zvN:Value:=.agg #[.int .i64 0,.bool false,.slice none 0 0,.slice none 0 0,.bool false,.slice none 0 0,.int .i64 0,.slice none 0 0]
def NMap (P:Program) (kt:TypeId) (M:Nat→Prop) (w:World) (b m:Nat) (C:Int→aS):Prop:=
 ∃D:DataW Value,w.ownsMap P kt RNd b m D∧∀v,I64' v→∃cs,D.atKey (.int .i64 v) (.held zvN)=.held (.agg cs.toArray)∧NodeR M w cs (C v)
theorem NMap.move {P:Program} {kt:TypeId} {M M' M2:Nat→Prop} {w w':World} {b m:Nat} {C:Int→aS} (h:NMap P kt M w b m C) (k:aA M' w w') (hn:¬M' b) (h1:∀b,b<w.heap.size→M' b→M b) (h2:∀b,b<w.heap.size→M2 b→M b):NMap P kt M2 w' b m C:=by
 obtain ⟨D,q1,q2⟩:=h;refine ⟨D,ownsMap_moveG q1 k hn,fun v hv=>?_⟩;obtain ⟨cs,e,hz⟩:=q2 v hv;exact⟨cs,e,hz.move k h1 h2⟩
theorem NMap.keepNil {P:Program} {w:World} (h:NMap P kt M w b m C) (k:aA Nil w w'):NMap P kt M w' b m C:=h.move k id (fun _ _ h=>h.elim) fun _ _=>id
theorem NMap.made {P:Program} (M:Nat→Prop) (w:World):NMap P kt M (w.alloc (.map #[] 0)) w.heap.size 0 fun _=>aV:=
 ⟨.map [],World.ownsMap_made _ _ _ _,fun v _=>⟨[.int .i64 0,.bool false,.slice none 0 0,.slice none 0 0,.bool false,.slice none 0 0,.int .i64 0,.slice none 0 0],rfl,NodeR.const 0⟩⟩
theorem NMap.look {P:Program} {w:World} (h:NMap P kt M w b m C) (hk:P.underlying kt=some (.int .i64)) (ht:P.underlying t=some (.map kt e)) (hz:∀w,(zeroValue e).run P w=.ok zvN w) (hv:I64' v) :
  ∃cs,NodeR M w cs (C v)∧∀w',aA Nil w w'→(Instr.lookup t (.map (some b)) (.int .i64 v) false).run P w'=.ok (.agg cs.toArray) w':=by
 obtain ⟨D,q1,q2⟩:=h;obtain ⟨cs,e1,hzn⟩:=q2 v hv;refine ⟨cs,hzn,fun w' k=>?_⟩;obtain ⟨v',ps,hrun,hR⟩:=(ownsMap_moveG q1 k id).lookup (int_keyed hk) ht (hz w') (zd:=.held zvN) (zp:=[]) rfl (key_i64 hk hv);have e2:=RNd_inv hR;rw [e1] at e2;simp only [Prod.mk.injEq,DataW.held.injEq] at e2;rw [hrun,←e2.1]
theorem NMap.put {P:Program} {w:World} (h:NMap P kt M w b m C) (hk:P.underlying kt=some (.int .i64)) (ht:P.underlying t=some (.map kt e)) (hv:I64' v) (hm:m<9223372036854775807) (hM:M b) (hz:NodeR M w cs N) :
  ∃w',(Instr.mapUpdate t (.map (some b)) (.int .i64 v) (.agg cs.toArray)).run P w=.ok () w'∧NMap P kt M w' b (m+1) (fun u=>if v=u then N else C u)∧aA (One b) w w':=by
 obtain ⟨D,q1,q2⟩:=h;obtain ⟨w',hrun,hown,hgr⟩:=q1.update (int_keyed hk) ht (by unfold maxLen;omega) (key_i64 hk hv) (RNd_mk hz);have hkp:=aA.ofGrown hgr;refine ⟨w',hrun,⟨_,hown,fun u hu=>?_⟩,hkp⟩;have hsub:∀b',b'<w.heap.size→One b b'→M b':=fun b' _ e=>by rw [show b'=b from e];exact hM
 by_cases huv:v=u
 ·subst huv;refine ⟨cs,?_,by show NodeR M w' cs (if v=v then N else C v);rw [if_pos rfl];exact hz.move hkp hsub fun _ _=>id⟩;exact atKey_put_same ((q1.tidy (int_keyed hk)).isMap) (show WideAt.IsKeyLit (Lit.int .i64 v) from trivial) _ _
 ·obtain ⟨cs',e1,hz'⟩:=q2 u hu;refine ⟨cs',?_,by show NodeR M w' cs' (if v=u then N else C u);rw [if_neg huv];exact hz'.move hkp hsub fun _ _=>id⟩;rw [atKey_put_other (by intro e;cases e;exact huv rfl)];exact e1
def IMap (P:Program) (kt et:TypeId) (w:World) (b m:Nat) (C:Int→Int):Prop:=
 ∃D:DataW Unit,w.ownsMap P kt (plainElem P et) b m D∧∀v,I64' v→D.atKey (.int .i64 v) (.lit (.int .i64 0))=.lit (.int .i64 (C v))
theorem IMap.keep {P:Program} {w:World} {n:Nat} {C:Int→Int} (h:IMap P kt et w b n C) (k:aA M w w') (hn:¬M b):IMap P kt et w' b n C:=by
 obtain ⟨D,q1,q2⟩:=h;refine ⟨D,?_,q2⟩;have hlt:=q1.lt;obtain ⟨es,clock,hb,F,hs,hD⟩:=q1;exact⟨es,clock,(k.block b hlt hn).trans hb,F,hs,hD⟩
theorem IMap.made {P:Program} (w:World):IMap P kt et (w.alloc (.map #[] 0)) w.heap.size 0 fun _=>0:=
 ⟨.map [],World.ownsMap_made _ _ _ _,fun _ _=>rfl⟩
theorem IMap.lt {P:Program} {kt et:TypeId} {w:World} {b n:Nat} {C:Int→Int} (h:IMap P kt et w b n C):b<w.heap.size:=by obtain ⟨D,q,_⟩:=h;exact q.lt
section
variable {P:Program} (w:World) {ops:Array Oper} {rest:List Oper} {o:Oper} {a:Act} {Q:Exit→Act→World→Prop}
theorem dH (hg:o.guard=none) (m x:Operand) (t:TypeId) (hop:o.op=Op.lookup t m x false) (kt e:TypeId) (hk:P.underlying kt=some (.int .i64)) (ht:P.underlying t=some (.map kt e)) (hz:∀w,(zeroValue e).run P w=.ok zvN w)
  (b n:Nat) (C:Int→aS) (hm:a.eval m=.map (some b)) (hF:NMap P kt M w b n C) (v:Int) (hx:a.eval x=.int .i64 v) (hv:I64' v)
  (hK:∀cs,NodeR M w cs (C v)→wpList P ops Q rest (a.put o.dst (.agg cs.toArray)) w):wpList P ops Q (o::rest) a w:=by
 refine wpList_plain hg fun K' hK'=>?_;obtain ⟨cs,hn,hrun⟩:=hF.look hk ht hz hv;have hr:=hrun w (aA.refl _ _);unfold Oper.wp;simp [execOp,hop,hm,hx,hr,Result.andThen];exact hK' _ _ (hK cs hn)
theorem wpList_imap_look (hg:o.guard=none) (m x:Operand) (t:TypeId) (hop:o.op=Op.lookup t m x false) (kt et:TypeId) (hk:P.underlying kt=some (.int .i64)) (ht:P.underlying t=some (.map kt et)) (he:P.underlying et=some (.int .i64)) (hz:(zeroValue et).run P w=.ok (.int .i64 0) w)
  (b n:Nat) (C:Int→Int) (hm:a.eval m=.map (some b)) (hF:IMap P kt et w b n C) (v:Int) (hx:a.eval x=.int .i64 v) (hv:I64' v)
  (hK:wpList P ops Q rest (a.put o.dst (.int .i64 (C v))) w):wpList P ops Q (o::rest) a w:=by
 obtain ⟨D,q1,q2⟩:=hF;refine wpList_lookup_own_int w hg m x t hop kt et .i64 (int_keyed hk) ht he hz b n D hm q1 _ (.int .i64 v) hx (key_i64 hk hv) ?_;intro c hc _;have h:=hc.symm.trans (q2 v hv);simp only [DataW.lit.injEq,Lit.int.injEq,true_and] at h;rw [h];exact hK
theorem wpList_imap_put (hg:o.guard=none) (m x v:Operand) (t:TypeId) (hop:o.op=Op.mapUpdate t m x v) (kt et:TypeId) (hk:P.underlying kt=some (.int .i64)) (ht:P.underlying t=some (.map kt et)) (he:P.underlying et=some (.int .i64))
  (b n:Nat) (C:Int→Int) (hm:a.eval m=.map (some b)) (hF:IMap P kt et w b n C) (hn:n<maxLen) (i j:Int) (hx:a.eval x=.int .i64 i) (hi:I64' i) (hv:a.eval v=.int .i64 j) (hj:I64' j)
  (hK:∀w',IMap P kt et w' b (n+1) (fun u=>if i=u then j else C u)→aA (One b) w w'→wpList P ops Q rest (a.put o.dst undef) w'):wpList P ops Q (o::rest) a w:=by
 obtain ⟨D,q1,q2⟩:=hF;refine wpList_mapUpdate_own w hg m x v t hop kt et (int_keyed hk) ht (plainElem P et) b n D hm q1 hn _ _ (.int .i64 i) hx hv (key_i64 hk hi) (.lit (.int .i64 j)) [] (plainElem_int he (WalkArith.wf_i64 hj)) ?_;intro w' r1 r2;refine hK w' ⟨_,r1,fun u hu=>?_⟩ (aA.ofGrown r2);by_cases hiu:i=u
 ·subst hiu;show _=DataW.lit (.int .i64 (if i=i then j else C i))
  rw [if_pos rfl];exact atKey_put_same ((q1.tidy (int_keyed hk)).isMap) (show WideAt.IsKeyLit (Lit.int .i64 i) from trivial) _ _
 ·show _=DataW.lit (.int .i64 (if i=u then j else C u))
  rw [if_neg hiu,atKey_put_other (by intro e;cases e;exact hiu rfl)];exact q2 u hu
end
end
structure PredB (P:Program) (w:World) (M:Nat→Prop) (fn:Nat) (cap:Array Value) (p:Int→Bool):Prop where
 enters:∀args w,(callFunc fn args).run P w=.ok (.enter fn args) w
 call:∀W x,aA M w W→I64' x→Calls P fn (#[.int .i64 x]++cap) W fun e w'=>e=.returned (.bool (p x))∧aA Nil W w'
def FirstP (p:Int→Bool) (zs:List Int) (r:Int):Prop:=(r=-1∧∀x∈zs,p x=false)∨∃i:Nat,r=i∧i<zs.length∧p (zs.getD i 0)=true∧∀j,j<i→p (zs.getD j 0)=false
theorem FirstP.any {p:Int→Bool} {zs:List Int} {r:Int} (h:FirstP p zs r):decide (0≤r)=zs.any p:=by
 rcases h with ⟨rfl,h⟩|⟨i,rfl,h1,h2,_⟩
 ·rw [List.any_eq_false.2 fun x hx=>by simp [h x hx]];rfl
 ·rw [List.any_eq_true.2 ⟨zs.getD i 0,by simp [List.getD,h1],h2⟩];simp
theorem indexFuncP_any {M:Nat→Prop} {w:World} {a:Option Addr} {n c fn:Nat} {cap:Array Value} {p:Int→Bool} {zs:List Int} (h:cB M w a n c zs) (hp:PredB prog w Nil fn cap p) (hi:∀x∈zs,I64' x) (hn:n≤1000000000) :
  Calls prog 134 #[.slice a n c,.func (.func fn) #[] cap] w fun e w'=>(∃r:Int,e=.returned (.int .i64 r)∧FirstP p zs r)∧aA Nil w w':=by
 have hln:zs.length=n:=SlOf.len h;have heg:=hp.enters;have HA:=jJ (aI5 h hp hi hln hn);clear h hp hi hln;go_enter func134,ntmps134
 go_wp2_with fail
 go_loopw [8] (fun i wr=>∃k:Nat,i=.int .i64 k∧k≤n∧(∀j,j<k→p (zs.getD j 0)=false)∧aA Nil w wr) (fun i _=>n-(intOf i).toNat)
 case atStart=>exact⟨0,rfl,aZ2 _,fun j hj=>by omega,aA.refl _ _⟩
 case round=>
  obtain ⟨k,rfl,hk,hj,hkr⟩:=hrel;by_cases hkn:k<n
  ·obtain ⟨b,off,rfl,ck⟩:=aZ (HA.o.1.keepNil hkr) hkn;have hmem:zs.getD k 0∈zs:=by simp [List.getD,show k<zs.length by rw [HA.o.2.2.2.1];exact hkn]
   have hx64:=HA.o.2.2.1 _ hmem;have j0:(0:Int)≤(k:Int):=by omega
   have j1:(k:Int)<(n:Int):=by omega
   have HK:=jJ (aI3 hj hkr hx64);clear hj hkr hx64 hmem;obtain ⟨x,hx⟩:∃x,x=zs.getD k 0:=⟨_,rfl⟩;rw [←hx] at ck HK;have HX:=jJ hx;clear hx;cases hpx:p x
   ·have HPX:=jJ hpx;clear hpx;go_wp2_with (refine (HA.o.2.1.call _ x HK.o.2.1 HK.o.2.2).mono ?_;rintro e w1 ⟨rfl,hk1⟩;rw [HPX.o];have H1:=jJ hk1;clear hk1)
    go_roundw
    case rel=>
     refine ⟨k+1,by go_num,hkn,fun j hj=>?_,HK.o.2.1.trans H1.o⟩;rcases Nat.lt_succ_iff_lt_or_eq.1 hj with h|rfl
     ·exact HK.o.1 j h
     ·rw [←HX.o];exact HPX.o
    case measure=>simp [intOf];omega
   ·have HPX:=jJ hpx;clear hpx;go_wp2_with (refine (HA.o.2.1.call _ x HK.o.2.1 HK.o.2.2).mono ?_;rintro e w1 ⟨rfl,hk1⟩;rw [HPX.o];have H1:=jJ hk1;clear hk1)
    go_ret
    exact⟨⟨_,rfl,.inr ⟨k,rfl,by rw [HA.o.2.2.2.1];exact hkn,by rw [←HX.o];exact HPX.o,HK.o.1⟩⟩,HK.o.2.1.trans H1.o⟩
  ·obtain rfl:n=k:=by omega
   have HK:=jJ (aI hj hkr);clear hj hkr;go_wp2_with fail
   go_ret
   refine ⟨⟨-1,rfl,.inl ⟨rfl,fun x hx=>?_⟩⟩,HK.o.2⟩;obtain ⟨i,hi,rfl⟩:=List.mem_iff_getElem.1 hx;have h1:=HK.o.1 i (by rw [←HA.o.2.2.2.1];exact hi);simpa [List.getD,hi] using h1
def dropP (p:Int→Bool) (zs:List Int):List Int:=zs.filter fun x=>!p x
theorem dropP_snoc (p:Int→Bool) (zs:List Int) (x:Int):dropP p (zs++[x])=if p x=true then dropP p zs else dropP p zs++[x]:=by
 unfold dropP;rw [List.filter_append];by_cases h:p x=true<;>simp [h]
theorem dropP_none {p:Int→Bool} {zs:List Int} (h:∀x∈zs,p x=false):dropP p zs=zs:=List.filter_eq_self.2 fun x hx=>by simp [h x hx]
theorem aL.nums0 {M:Nat→Prop} {w:World} {B:Nat} {E:TypeId} {v:Value} {l:List Int} (h:aL w B E 1 v (aM l)) (hM:∀b,v.ownBlock=some b→¬M b):∃a c,v=.slice a l.length c∧cB M w a l.length c l:=by
 obtain ⟨a',c',e,h'⟩:=aL.sl (M:=M) (R:=RI) (d:=0) (xs:=l) h hM (by rw [aJ]) (fun i hi=>by rw [aJ] at hi;simp [RI,aM,List.getD,hi]);rw [aJ] at e h';exact⟨a',c',e,h'⟩
section
variable {p:Int→Bool} {zs:List Int} {w:World} {a:Option Addr} {M:Nat→Prop} {fn:Nat} {v:Value}
theorem containsFuncP_any {n c:Nat} {cap:Array Value} (h:cB M w a n c zs) (hp:PredB prog w Nil fn cap p) (hi:∀x∈zs,I64' x) (hn:n≤1000000000) :
  Calls prog 95 #[.slice a n c,.func (.func fn) #[] cap] w fun e w'=>e=.returned (.bool (zs.any p))∧aA Nil w w':=by
 have hx:=indexFuncP_any h hp hi hn;have HX:=jJ hx;clear h hp hi hx;go_enter func95,ntmps95
 go_wp2_with (go_at_call 134;refine HX.o.mono ?_;rintro e w1 ⟨⟨r,rfl,hr⟩,hk1⟩;have H1:=jJ (aI hr hk1);clear hr hk1)
 go_ret
 exact⟨by rw [←H1.o.1.any];rfl,H1.o.2⟩
theorem ideleteP_own {B:Nat} {cap:Array Value} (h:aL w B 3 1 v (aM zs)) (hl:zs.length≤1000000000) (hp:PredB prog w (Own v) fn cap p) (hi:∀x∈zs,I64' x) :
  Calls prog 129 #[v,.func (.func fn) #[] cap] w fun e w'=>∃v',e=.returned v'∧aL w' B 3 1 v' (aM (dropP p zs))∧v'.ownBlock=v.ownBlock∧aA (Own v) w w':=by
 obtain ⟨a,c,rfl⟩:=h.isSlice;have hnl:(aM zs).length=zs.length:=aJ zs;rw [hnl] at h⊢;rcases Nat.eq_zero_or_pos zs.length with h0|h0
 ·obtain rfl:zs=[]:=fZ1 h0;have HO:=jJ h;clear h hp hi hnl;simp only [gZ2];go_enter func129,ntmps129
  go_wp2_with (go_at_call 134;refine indexFunc_zero.mono ?_;rintro e w1 ⟨rfl,hk1⟩)
  go_ret
  exact⟨_,rfl,HO.o.keepNil hk1,rfl,hk1.of_nil⟩
 ·have hown:=h;obtain ⟨g,cs,rfl,hb,hr,hcl,hnc,hcm,htake⟩:=h.raw rfl h0;have hrow:aC w g 3 (zs.map intV++cs.drop zs.length):=by rw [←htake,aZ3];exact hr
  obtain ⟨aN,cN,eN,hN⟩:=aL.nums0 (M:=Nil) h fun _ _ h=>h;simp only [Value.slice.injEq] at eN;obtain ⟨rfl,-,rfl⟩:=eN;have hidx:=indexFuncP_any hN (⟨hp.enters,fun W x q=>hp.call W x (q.mono fun _ h=>h.elim)⟩:PredB prog w Nil fn cap p) hi hl;have heg:=hp.enters;have HI:=jJ hidx;have HR:=jJ (aI8 hr hcl hcm htake hb hown hp hi);clear hidx hr hcl htake hrow h hown hp hi hN;generalize hzl:zs.length=n at *
  have HL:=jJ hzl;clear hzl hnl;go_enter func129,ntmps129
  go_upto_region 2 with (go_at_call 134;refine HI.o.mono ?_;rintro e w1 ⟨⟨r,rfl,hr⟩,hk1⟩;have H1:=jJ (aI hr hk1);clear hr hk1)
  rcases H1.o.1 with ⟨rfl,hno⟩|⟨i,rfl,hid⟩
  ·have HNO:=jJ hno;clear hno;go_wp2_with fail
   go_ret
   have e:dropP p zs=zs:=dropP_none HNO.o;exact⟨_,rfl,by rw [e];exact HR.o.r5.1.keepNil H1.o.2,rfl,H1.o.2.of_nil⟩
  ·have hin:i<n:=by have:=hid.1;rw [HL.o] at this;exact this
   have hne1:((i:Int)==-1)=false:=by simp
   have hstart:dropP p (zs.take (i+1))=zs.take i:=by
    have h1:i<zs.length:=hid.1;rw [List.take_succ_eq_append_getElem h1,dropP_snoc,if_pos (by have:=hid.2.1;simpa [List.getD,h1] using this)];refine dropP_none fun x hx=>?_;obtain ⟨j,hj,rfl⟩:=gZ3 hx;have hj':j<i:=by rw [iZ1] at hj;omega
    have h2:=hid.2.2 j hj';simpa [List.getD,show j<zs.length by omega,List.getElem_take] using h2
   have HST:=jJ hstart;clear hid hstart;go_wp2_with fail
   go_loopw [5,6] (fun u v wr=>∃(k j:Nat) (ds:List Value),u=.int .i64 k∧v=.int .i64 j∧k<j∧j≤n∧aC wr g 3 ds∧ds.length=cs.length∧ds.take k=(dropP p (zs.take j)).map intV∧(dropP p (zs.take j)).length=k∧(∀t,j≤t→t<n→ds[t]?=some (intV (zs.getD t 0)))∧aA (One g) w wr) (fun _ v _=>n-(intOf v).toNat)
   case atStart=>
    refine ⟨i,i+1,cs,rfl,by go_num,by omega,hin,HR.o.1.keep H1.o.2 id,rfl,?_,?_,fun t _ ht=>?_,H1.o.2.of_nil⟩
    ·rw [HST.o,List.map_take,←HR.o.2.2.2.1,List.take_take,Nat.min_eq_left (by omega)]
    ·rw [HST.o,iZ1,HL.o];omega
    ·have h1:(cs.take n)[t]?=(zs.map intV)[t]?:=by rw [HR.o.2.2.2.1]
     rw [List.getElem?_take,if_pos ht] at h1;rw [h1];simp [List.getD,show t<zs.length by rw [HL.o];exact ht]
   case round=>
    obtain ⟨k,j,ds,rfl,rfl,hkj,hjn,hds,hdl,htk,hwl,hrest,hkr⟩:=hrel;have hgw:=hds.lt;by_cases hlt:j<n
    ·obtain ⟨x,hx⟩:∃x,x=zs.getD j 0:=⟨_,rfl⟩;have c0:wr.cell? ⟨g,j,none⟩=some (.int .i64 x):=by rw [hds.cell,hrest j (bZ2 _) hlt,hx];rfl
     obtain ⟨old,ho⟩:∃v0,ds[k]?=some v0:=⟨_,jZ2 (show k<ds.length by have:=HR.o.2.1;omega)⟩;have htj:zs.take (j+1)=zs.take j++[x]:=by
      have h1:j<zs.length:=by rw [HL.o];exact hlt
      rw [List.take_succ_eq_append_getElem h1,hx];simp [List.getD,h1]
     have hxi:I64' x:=by rw [hx];exact HR.o.r7 _ (by simp [List.getD,show j<zs.length by rw [HL.o];exact hlt])
     have hw:=dropP_snoc p (zs.take j) x;rw [←htj] at hw;have HW:=jJ (aI9 hw hds hdl htk hwl hrest hkr hxi ho);clear hw hds hdl htk hwl hrest hkr hxi ho hx htj;by_cases hxy:p x=true
     ·have e:p x=true:=hxy;have HXY:=jJ hxy;clear hxy;go_wp2_with (refine (HR.o.r6.1.call _ x (HW.o.r6.1.mono fun b hb=>by rw [show b=g from hb];rfl) HW.o.r7.1).mono ?_;rintro e' w3 ⟨rfl,hk3⟩;try rw [e];have H3:=jJ hk3;clear hk3)
      go_roundw
      case rel=>
       have hw:=HW.o.1;rw [if_pos HXY.o] at hw;refine ⟨k,j+1,ds,rfl,by go_num,by omega,hlt,HW.o.2.1.keep H3.o id,HW.o.2.2.1,by rw [hw];exact HW.o.2.2.2.1,by rw [hw];exact HW.o.r4.1,fun t h1 h2=>HW.o.r5.1 t (by omega) h2,HW.o.r6.1.trans H3.o.of_nil⟩
      case measure=>simp [intOf];omega
     ·have e:p x=false:=by simpa using hxy
      have HXY:=jJ hxy;clear hxy;go_wp2_with (refine (HR.o.r6.1.call _ x (HW.o.r6.1.mono fun b hb=>by rw [show b=g from hb];rfl) HW.o.r7.1).mono ?_;rintro e' w3 ⟨rfl,hk3⟩;try rw [e];have row3:=HW.o.2.1.keep hk3 id;have ck:w3.cell? ⟨g,k,none⟩=some old:=(by rw [row3.cell];exact HW.o.r8);have fk:=row3.frozen k;have H3:=jJ (aI hk3 row3);clear hk3 row3)
      go_roundw
      case rel=>
       have hw:=HW.o.1;rw [if_neg HXY.o] at hw;refine ⟨k+1,j+1,_,by go_num,by go_num,by omega,hlt,H3.o.2.set k (.int .i64 x),by rw [List.length_set];exact HW.o.2.2.1,?_,by rw [hw,aZ1,HW.o.r4.1];rfl,fun t h1 h2=>?_,(HW.o.r6.1.trans H3.o.1.of_nil).trans ((aA.refl (Go.Proofs.Q.One g) w3).set1 k _)⟩
       ·have h1:k<ds.length:=by have:=HW.o.2.2.1;have:=HR.o.2.1;omega
        rw [List.take_succ_eq_append_getElem (by simpa using h1),List.take_set_of_le (bZ2 _),HW.o.2.2.2.1,hw,cZ2,List.getElem_set_self];rfl
       ·rw [List.getElem?_set_ne (by omega)];exact HW.o.r5.1 t (by omega) h2
      case measure=>simp [intOf];omega
    ·obtain rfl:j=n:=by omega
     have htn:zs.take j=zs:=eZ1 (by rw [HL.o];omega);rw [htn] at htk hwl;have hclr:∀ty,(Builtin.clear_ #[56] ty #[.slice (some ⟨g,k,none⟩) (j-k) (c-k)]).run prog wr=.ok (.tuple #[]) (wr.setCells g k (List.replicate (j-k) (.int .i64 0))):=fun ty=>Lib.run_clear_slice (P:=prog) wr 56 3 ty (.int .i64 0) underlying56 (fun w=>zeroValue3 w) rfl rfl g k (j-k) (c-k) (by omega) (fun t ht=>by rw [hds.cell,jZ2 (by have:=HR.o.2.1;omega)];rfl) (fun t ht=>hds.frozen _);have HW:=jJ (aI5 hds hdl htk hwl hkr);clear hds hdl htk hwl hrest hkr htn;have HCL:=jJ hclr;clear hclr;obtain ⟨ys,y1,y2,y3,y4⟩:=aC.setAll (List.replicate (j-k) (.int .i64 0)) k wr ds HW.o.1 (by rw [List.length_replicate,HW.o.2.1];have:=HR.o.2.1;omega);have HY:=jJ (aI4 y1 y2 y3 y4);clear y1 y2 y3 y4;go_wp2_with fail
     rw [HCL.o];generalize wr.setCells g k (List.replicate (j-k) (.int .i64 0))=wq at *
     go_wp2
     go_ret
     refine ⟨_,rfl,aL.ofRaw HR.o.r4.1 HY.o.1 (by rw [HY.o.2.1,HW.o.2.1];exact HR.o.2.1) HW.o.2.2.2.1 (by omega) hcm (by rw [HY.o.2.2.1];exact HW.o.2.2.1),rfl,(HW.o.r4.trans HY.o.2.2.2).mono fun b hb=>by rw [show b=g from hb];rfl⟩
end
end Go.Proofs.Q
