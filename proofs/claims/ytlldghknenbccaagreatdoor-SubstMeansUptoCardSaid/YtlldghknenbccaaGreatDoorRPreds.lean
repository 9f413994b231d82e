/- A map of nodes by integers. -/
import Derived.Test.YtlldghknenbccaaGreatDoorRMadesC
set_option linter.unusedSimpArgs false
set_option linter.unusedVariables false
set_option maxRecDepth 100000
set_option maxHeartbeats 4000000
namespace Go.Proofs.Q
open Go.RowKit Go.Maps Tryz
section
variable {M:Nat→Prop} {kt et t e:TypeId} {C:Int→aS} {y:DataW Value × List MemPlace} {cs:List Value} {b m:Nat} {w':World} {v:Int} {N:aS} {H:Type}
def RNd (v:Value):Option (DataW Value × List MemPlace):=
 match v with
 | .agg cs=>(match cs.toList with|[.int .i64 _,.bool _,.slice _ _ _,.slice _ _ _,.bool _,.slice _ _ _,.int .i64 _,.slice _ _ _]=>some (.held v,[])|_=>none)
 | _=>none
theorem bCA {w:World} (h:iU M w cs N):RNd (.agg cs.toArray)=some (.held (.agg cs.toArray),[]):=by
 obtain ⟨_,_,_,_,_,_,_,_,_,_,_,_,_,_,rfl,-⟩:=h;rfl
theorem bAQ {v:Value} (h:RNd v=some y):y=(.held v,[]):=by
 unfold RNd at h;split at h
 ·split at h
  ·cases h
   rfl
  ·exact wZ
 ·exact wZ
theorem ZR {P:Program} {R:Value→Option (DataW H × List MemPlace)} {w:World} {D:DataW H} (h:w.ownsMap P kt R b m D) (k:aA M w w') (hn:¬M b):w'.ownsMap P kt R b m D:=vK
def zvN:Value:=.agg #[.int .i64 0,.bool false,.slice none 0 0,.slice none 0 0,.bool false,.slice none 0 0,.int .i64 0,.slice none 0 0]
def kF (P:Program) (kt:TypeId) (M:Nat→Prop) (w:World) (b m:Nat) (C:Int→aS):Prop:=
 ∃D:DataW Value,w.ownsMap P kt RNd b m D∧∀v,fI v→∃cs,D.atKey (.int .i64 v) (.held zvN)=.held (.agg cs.toArray)∧iU M w cs (C v)
theorem kF.move {P:Program} {kt:TypeId} {M M' M2:Nat→Prop} {w w':World} {b m:Nat} {C:Int→aS} (h:kF P kt M w b m C) (k:aA M' w w') (hn:¬M' b) (h1:∀b,b<w.heap.size→M' b→M b) (h2:∀b,b<w.heap.size→M2 b→M b):kF P kt M2 w' b m C:=by
 obtain ⟨D,q1,q2⟩:=h;refine ⟨D,ZR q1 k hn,fun v hv=>?_⟩;obtain ⟨cs,e,hz⟩:=q2 v hv;exact⟨cs,e,hz.move k h1 h2⟩
theorem kF.eO {P:Program} {w:World} (h:kF P kt M w b m C) (k:aA Nil w w'):kF P kt M w' b m C:=h.move k id (fun _ _ h=>h.elim) fun _ _=>id
theorem kF.made {P:Program} (M:Nat→Prop) (w:World):kF P kt M (w.alloc (.map #[] 0)) w.heap.size 0 fun _=>aP:=
 ⟨.map [],World.ownsMap_made _ _ _ _,fun v _=>⟨[.int .i64 0,.bool false,.slice none 0 0,.slice none 0 0,.bool false,.slice none 0 0,.int .i64 0,.slice none 0 0],rfl,iU.const 0⟩⟩
theorem kF.look {P:Program} {w:World} (h:kF P kt M w b m C) (hk:P.underlying kt=some (.int .i64)) (ht:P.underlying t=some (.map kt e)) (hz:∀w,(zeroValue e).run P w=.ok zvN w) (hv:fI v) :
  ∃cs,iU M w cs (C v)∧∀w',aA Nil w w'→(Instr.lookup t (.map (some b)) (.int .i64 v) false).run P w'=.ok (.agg cs.toArray) w':=by
 obtain ⟨D,q1,q2⟩:=h;obtain ⟨cs,e1,hzn⟩:=q2 v hv;refine ⟨cs,hzn,fun w' k=>?_⟩;obtain ⟨v',ps,hrun,hR⟩:=(ZR q1 k id).lookup (int_keyed hk) ht (hz w') (zd:=.held zvN) (zp:=[]) rfl (CQ hk hv);have e2:=bAQ hR;rw [e1] at e2;simp only [Prod.mk.injEq,DataW.held.injEq] at e2;rw [hrun,←e2.1]
theorem kF.put {P:Program} {w:World} (h:kF P kt M w b m C) (hk:P.underlying kt=some (.int .i64)) (ht:P.underlying t=some (.map kt e)) (hv:fI v) (hm:m<9223372036854775807) (hM:M b) (hz:iU M w cs N) :
  ∃w',(Instr.mapUpdate t (.map (some b)) (.int .i64 v) (.agg cs.toArray)).run P w=.ok () w'∧kF P kt M w' b (m+1) (fun u=>if v=u then N else C u)∧aA (One b) w w':=by
 obtain ⟨D,q1,q2⟩:=h;obtain ⟨w',hrun,hown,hgr⟩:=q1.update (int_keyed hk) ht zC (CQ hk hv) (bCA hz);have hkp:=aA.IL hgr;refine ⟨w',hrun,⟨_,hown,fun u hu=>?_⟩,hkp⟩;have hsub:∀b',b'<w.heap.size→One b b'→M b':=fun b' _ e=>by rw [show b'=b from e];exact hM
 by_cases huv:v=u
 ·subst huv;refine ⟨cs,?_,by show iU M w' cs (if v=v then N else C v);rw [if_pos rfl];exact hz.move hkp hsub fun _ _=>id⟩;exact atKey_put_same ((q1.tidy (int_keyed hk)).isMap) (show WideAt.IsKeyLit (Lit.int .i64 v) from trivial) _ _
 ·obtain ⟨cs',e1,hz'⟩:=q2 u hu;refine ⟨cs',?_,by show iU M w' cs' (if v=u then N else C u);rw [if_neg huv];exact hz'.move hkp hsub fun _ _=>id⟩;rw [atKey_put_other (by intro e;cases e;exact huv rfl)];exact e1
def jW (P:Program) (kt et:TypeId) (w:World) (b m:Nat) (C:Int→Int):Prop:=
 ∃D:DataW Unit,w.ownsMap P kt (plainElem P et) b m D∧∀v,fI v→D.atKey (.int .i64 v) (.lit (.int .i64 0))=.lit (.int .i64 (C v))
theorem jW.keep {P:Program} {w:World} {n:Nat} {C:Int→Int} (h:jW P kt et w b n C) (k:aA M w w') (hn:¬M b):jW P kt et w' b n C:=yM
theorem jW.made {P:Program} (w:World):jW P kt et (w.alloc (.map #[] 0)) w.heap.size 0 fun _=>0:=
 ⟨.map [],World.ownsMap_made _ _ _ _,fun _ _=>rfl⟩
theorem jW.lt {P:Program} {kt et:TypeId} {w:World} {b n:Nat} {C:Int→Int} (h:jW P kt et w b n C):b<w.heap.size:=by obtain ⟨D,q,_⟩:=h;exact q.lt
section
variable {P:Program} (w:World) {ops:Array Oper} {rest:List Oper} {o:Oper} {a:Act} {Q:Exit→Act→World→Prop}
theorem dP (hg:o.guard=none) (m x:Operand) (t:TypeId) (hop:o.op=Op.lookup t m x false) (kt e:TypeId) (hk:P.underlying kt=some (.int .i64)) (ht:P.underlying t=some (.map kt e)) (hz:∀w,(zeroValue e).run P w=.ok zvN w)
  (b n:Nat) (C:Int→aS) (hm:a.eval m=.map (some b)) (hF:kF P kt M w b n C) (v:Int) (hx:a.eval x=.int .i64 v) (hv:fI v)
  (hK:∀cs,iU M w cs (C v)→wpList P ops Q rest (a.put o.dst (.agg cs.toArray)) w):wpList P ops Q (o::rest) a w:=by
 refine wpList_plain hg fun K' hK'=>?_;obtain ⟨cs,hn,hrun⟩:=hF.look hk ht hz hv;have hr:=hrun w (aA.refl _ _);unfold Oper.wp;simp [execOp,hop,hm,hx,hr,Result.andThen];exact hK' _ _ (hK cs hn)
theorem YN (hg:o.guard=none) (m x:Operand) (t:TypeId) (hop:o.op=Op.lookup t m x false) (kt et:TypeId) (hk:P.underlying kt=some (.int .i64)) (ht:P.underlying t=some (.map kt et)) (he:P.underlying et=some (.int .i64)) (hz:(zeroValue et).run P w=.ok (.int .i64 0) w)
  (b n:Nat) (C:Int→Int) (hm:a.eval m=.map (some b)) (hF:jW P kt et w b n C) (v:Int) (hx:a.eval x=.int .i64 v) (hv:fI v)
  (hK:wpList P ops Q rest (a.put o.dst (.int .i64 (C v))) w):wpList P ops Q (o::rest) a w:=by
 obtain ⟨D,q1,q2⟩:=hF;refine wpList_lookup_own_int w hg m x t hop kt et .i64 (int_keyed hk) ht he hz b n D hm q1 _ (.int .i64 v) hx (CQ hk hv) ?_;intro c hc _;have h:=hc.symm.trans (q2 v hv);simp only [DataW.lit.injEq,Lit.int.injEq,true_and] at h;rw [h];exact hK
theorem YX (hg:o.guard=none) (m x v:Operand) (t:TypeId) (hop:o.op=Op.mapUpdate t m x v) (kt et:TypeId) (hk:P.underlying kt=some (.int .i64)) (ht:P.underlying t=some (.map kt et)) (he:P.underlying et=some (.int .i64))
  (b n:Nat) (C:Int→Int) (hm:a.eval m=.map (some b)) (hF:jW P kt et w b n C) (hn:n<maxLen) (i j:Int) (hx:a.eval x=.int .i64 i) (hi:fI i) (hv:a.eval v=.int .i64 j) (hj:fI j)
  (hK:∀w',jW P kt et w' b (n+1) (fun u=>if i=u then j else C u)→aA (One b) w w'→wpList P ops Q rest (a.put o.dst undef) w'):wpList P ops Q (o::rest) a w:=by
 obtain ⟨D,q1,q2⟩:=hF;refine wpList_mapUpdate_own w hg m x v t hop kt et (int_keyed hk) ht (plainElem P et) b n D hm q1 hn _ _ (.int .i64 i) hx hv (CQ hk hi) (.lit (.int .i64 j)) [] (plainElem_int he (WalkArith.wf_i64 hj)) ?_;intro w' r1 r2;refine hK w' ⟨_,r1,fun u hu=>?_⟩ (aA.IL r2);by_cases hiu:i=u
 ·subst hiu;show _=DataW.lit (.int .i64 (if i=i then j else C i))
  rw [if_pos rfl];exact atKey_put_same ((q1.tidy (int_keyed hk)).isMap) (show WideAt.IsKeyLit (Lit.int .i64 i) from trivial) _ _
 ·show _=DataW.lit (.int .i64 (if i=u then j else C u))
  rw [if_neg hiu,atKey_put_other (by intro e;cases e;exact hiu rfl)];exact q2 u hu
end
end
structure FP (P:Program) (w:World) (M:Nat→Prop) (fn:Nat) (cap:Array Value) (p:Int→Bool):Prop where
 enters:∀args w,(callFunc fn args).run P w=.ok (.enter fn args) w
 call:∀W x,aA M w W→fI x→Calls P fn (#[.int .i64 x]++cap) W fun e w'=>e=.returned (.bool (p x))∧aA Nil W w'
def FD (p:Int→Bool) (zs:List Int) (r:Int):Prop:=(r=-1∧∀x∈zs,p x=false)∨∃i:Nat,r=i∧i<zs.length∧p (zs.getD i 0)=true∧∀j,j<i→p (zs.getD j 0)=false
theorem FD.any {p:Int→Bool} {zs:List Int} {r:Int} (h:FD p zs r):decide (0≤r)=zs.any p:=by
 rcases h with ⟨rfl,h⟩|⟨i,rfl,h1,h2,_⟩
 ·rw [List.any_eq_false.2 fun x hx=>by simp [h x hx]];rfl
 ·rw [eZ3.2 ⟨zs.getD i 0,by simp [List.getD,h1],h2⟩];simp
theorem ZH {M:Nat→Prop} {w:World} {a:Option Addr} {n c fn:Nat} {cap:Array Value} {p:Int→Bool} {zs:List Int} (h:cE M w a n c zs) (hp:FP prog w Nil fn cap p) (hi:∀x∈zs,fI x) (hn:n≤1000000000) :
  Calls prog 134 #[.slice a n c,.func (.func fn) #[] cap] w fun e w'=>(∃r:Int,e=.returned (.int .i64 r)∧FD p zs r)∧aA Nil w w':=by
 have hln:zs.length=n:=eU.len h;have heg:=hp.enters;have HA:=jJ (aI5 h hp hi hln hn);clear h hp hi hln;go_enter func134,ntmps134
 go_wp2_with fail
 go_loopw [8] (fun i wr=>∃k:Nat,i=.int .i64 k∧k≤n∧(∀j,j<k→p (zs.getD j 0)=false)∧aA Nil w wr) (fun i _=>n-(intOf i).toNat)
 case atStart=>exact xW
 case round=>
  obtain ⟨k,rfl,hk,hj,hkr⟩:=hrel;by_cases hkn:k<n
  ·obtain ⟨b,off,rfl,ck⟩:=bA (HA.o.1.eO hkr) hkn;have hmem:zs.getD k 0∈zs:=by simp [List.getD,show k<zs.length by rw [HA.o.2.2.2.1];exact hkn]
   have hx64:=HA.o.2.2.1 _ hmem;have j0:(0:Int)≤(k:Int):=zZ;have j1:(k:Int)<(n:Int):=zZ;have HK:=jJ (aI3 hj hkr hx64);clear hj hkr hx64 hmem;obtain ⟨x,hx⟩:∃x,x=zs.getD k 0:=⟨_,rfl⟩;rw [←hx] at ck HK;have HX:=jJ hx;clear hx;cases hpx:p x
   ·have HPX:=jJ hpx;clear hpx;go_wp2_with (refine (HA.o.2.1.call _ x HK.o.2.1 HK.o.2.2).mono ?_;rintro e w1 ⟨rfl,hk1⟩;rw [HPX.o];have H1:=jJ hk1;clear hk1)
    go_roundw
    case rel=>exact oY
    case measure=>exact zI
   ·have HPX:=jJ hpx;clear hpx;go_wp2_with (refine (HA.o.2.1.call _ x HK.o.2.1 HK.o.2.2).mono ?_;rintro e w1 ⟨rfl,hk1⟩;rw [HPX.o];have H1:=jJ hk1;clear hk1)
    go_ret
    exact⟨⟨_,rfl,.inr ⟨k,rfl,by rw [HA.o.2.2.2.1];exact hkn,by rw [←HX.o];exact HPX.o,HK.o.1⟩⟩,HK.o.2.1.trans H1.o⟩
  ·obtain rfl:n=k:=zZ;have HK:=jJ (aI hj hkr);clear hj hkr;go_wp2_with fail
   go_ret
   refine ⟨⟨-1,rfl,.inl ⟨rfl,fun x hx=>?_⟩⟩,HK.o.2⟩;obtain ⟨i,hi,rfl⟩:=List.mem_iff_getElem.1 hx;have h1:=HK.o.1 i (by rw [←HA.o.2.2.2.1];exact hi);simpa [List.getD,hi] using h1
def lZ (p:Int→Bool) (zs:List Int):List Int:=zs.filter fun x=>!p x
theorem aDC (p:Int→Bool) (zs:List Int) (x:Int):lZ p (zs++[x])=if p x=true then lZ p zs else lZ p zs++[x]:=by
 unfold lZ;rw [List.filter_append];by_cases h:p x=true<;>simp [h]
theorem aDH {p:Int→Bool} {zs:List Int} (h:∀x∈zs,p x=false):lZ p zs=zs:=List.filter_eq_self.2 fun x hx=>by simp [h x hx]
theorem aL.bCE {M:Nat→Prop} {w:World} {B:Nat} {E:TypeId} {v:Value} {l:List Int} (h:aL w B E 1 v (aO l)) (hM:∀b,v.ownBlock=some b→¬M b):∃a c,v=.slice a l.length c∧cE M w a l.length c l:=by
 obtain ⟨a',c',e,h'⟩:=aL.sl (M:=M) (R:=RI) (d:=0) (xs:=l) h hM vA (fun i hi=>yI);rw [aJ] at e h';exact⟨a',c',e,h'⟩
section
variable {p:Int→Bool} {zs:List Int} {w:World} {a:Option Addr} {M:Nat→Prop} {fn:Nat} {v:Value}
theorem aKT {n c:Nat} {cap:Array Value} (h:cE M w a n c zs) (hp:FP prog w Nil fn cap p) (hi:∀x∈zs,fI x) (hn:n≤1000000000) :
  Calls prog 95 #[.slice a n c,.func (.func fn) #[] cap] w fun e w'=>e=.returned (.bool (zs.any p))∧aA Nil w w':=by
 have hx:=ZH h hp hi hn;have HX:=jJ hx;clear h hp hi hx;go_enter func95,ntmps95
 go_wp2_with (go_at_call 134;refine HX.o.mono ?_;rintro e w1 ⟨⟨r,rfl,hr⟩,hk1⟩;have H1:=jJ (aI hr hk1);clear hr hk1)
 go_ret
 exact⟨by rw [←H1.o.1.any];rfl,H1.o.2⟩
theorem aAI {B:Nat} {cap:Array Value} (h:aL w B 3 1 v (aO zs)) (hl:zs.length≤1000000000) (hp:FP prog w (Own v) fn cap p) (hi:∀x∈zs,fI x) :
  Calls prog 129 #[v,.func (.func fn) #[] cap] w fun e w'=>∃v',e=.returned v'∧aL w' B 3 1 v' (aO (lZ p zs))∧v'.ownBlock=v.ownBlock∧aA (Own v) w w':=by
 obtain ⟨a,c,rfl⟩:=h.isSlice;have hnl:(aO zs).length=zs.length:=aJ zs;rw [hnl] at h⊢;rcases Nat.eq_zero_or_pos zs.length with h0|h0
 ·obtain rfl:zs=[]:=fZ1 h0;have HO:=jJ h;clear h hp hi hnl;simp only [gZ2];go_enter func129,ntmps129
  go_wp2_with (go_at_call 134;refine ZA.mono ?_;rintro e w1 ⟨rfl,hk1⟩)
  go_ret
  exact⟨_,rfl,HO.o.eO hk1,rfl,hk1.of_nil⟩
 ·have hown:=h;obtain ⟨g,cs,rfl,hb,hr,hcl,hnc,hcm,htake⟩:=h.raw rfl h0;have hrow:aF w g 3 (zs.map fJ++cs.drop zs.length):=rD;obtain ⟨aN,cN,eN,hN⟩:=aL.bCE (M:=Nil) h fun _ _ h=>h;simp only [Value.slice.injEq] at eN;obtain ⟨rfl,-,rfl⟩:=eN;have hidx:=ZH hN (⟨hp.enters,fun W x q=>hp.call W x (q.mono fun _ h=>h.elim)⟩:FP prog w Nil fn cap p) hi hl;have heg:=hp.enters;have HI:=jJ hidx;have HR:=jJ (aI8 hr hcl hcm htake hb hown hp hi);clear hidx hr hcl htake hrow h hown hp hi hN;generalize hzl:zs.length=n at *
  have HL:=jJ hzl;clear hzl hnl;go_enter func129,ntmps129
  go_upto_region 2 with (go_at_call 134;refine HI.o.mono ?_;rintro e w1 ⟨⟨r,rfl,hr⟩,hk1⟩;have H1:=jJ (aI hr hk1);clear hr hk1)
  rcases H1.o.1 with ⟨rfl,hno⟩|⟨i,rfl,hid⟩
  ·have HNO:=jJ hno;clear hno;go_wp2_with fail
   go_ret
   have e:lZ p zs=zs:=aDH HNO.o;exact⟨_,rfl,tQ,rfl,H1.o.2.of_nil⟩
  ·have hin:i<n:=by have:=hid.1;rw [HL.o] at this;exact this
   have hne1:((i:Int)==-1)=false:=zW;have hstart:lZ p (zs.take (i+1))=zs.take i:=by
    have h1:i<zs.length:=hid.1;rw [List.take_succ_eq_append_getElem h1,aDC,if_pos qK];refine aDH fun x hx=>?_;obtain ⟨j,hj,rfl⟩:=jZ3 hx;have hj':j<i:=by rw [iZ1] at hj;omega
    have h2:=hid.2.2 j hj';simpa [List.getD,show j<zs.length by omega,List.getElem_take] using h2
   have HST:=jJ hstart;clear hid hstart;go_wp2_with fail
   go_loopw [5,6] (fun u v wr=>∃(k j:Nat) (ds:List Value),u=.int .i64 k∧v=.int .i64 j∧k<j∧j≤n∧aF wr g 3 ds∧ds.length=cs.length∧ds.take k=(lZ p (zs.take j)).map fJ∧(lZ p (zs.take j)).length=k∧(∀t,j≤t→t<n→ds[t]?=some (fJ (zs.getD t 0)))∧aA (One g) w wr) (fun _ v _=>n-(intOf v).toNat)
   case atStart=>exact oW
   case round=>
    obtain ⟨k,j,ds,rfl,rfl,hkj,hjn,hds,hdl,htk,hwl,hrest,hkr⟩:=hrel;have hgw:=hds.lt;by_cases hlt:j<n
    ·obtain ⟨x,hx⟩:∃x,x=zs.getD j 0:=⟨_,rfl⟩;have c0:wr.cell? ⟨g,j,none⟩=some (.int .i64 x):=by rw [hds.cell,hrest j (bZ2 _) hlt,hx];rfl
     obtain ⟨old,ho⟩:∃v0,ds[k]?=some v0:=⟨_,jZ2 (show k<ds.length by have:=HR.o.2.1;omega)⟩;have htj:zs.take (j+1)=zs.take j++[x]:=wL;have hxi:fI x:=by rw [hx];exact HR.o.r7 _ (by simp [List.getD,show j<zs.length by rw [HL.o];exact hlt])
     have hw:=aDC p (zs.take j) x;rw [←htj] at hw;have HW:=jJ (aI9 hw hds hdl htk hwl hrest hkr hxi ho);clear hw hds hdl htk hwl hrest hkr hxi ho hx htj;by_cases hxy:p x=true
     ·have e:p x=true:=hxy;have HXY:=jJ hxy;clear hxy;go_wp2_with (refine (HR.o.r6.1.call _ x (HW.o.r6.1.mono fun b hb=>yA) HW.o.r7.1).mono ?_;rintro e' w3 ⟨rfl,hk3⟩;try rw [e];have H3:=jJ hk3;clear hk3)
      go_roundw
      case rel=>exact pA
      case measure=>exact zI
     ·have e:p x=false:=by simpa using hxy
      have HXY:=jJ hxy;clear hxy;go_wp2_with (refine (HR.o.r6.1.call _ x (HW.o.r6.1.mono fun b hb=>yA) HW.o.r7.1).mono ?_;rintro e' w3 ⟨rfl,hk3⟩;try rw [e];have row3:=HW.o.2.1.keep hk3 id;have ck:w3.cell? ⟨g,k,none⟩=some old:=(by rw [row3.cell];exact HW.o.r8);have fk:=row3.frozen k;have H3:=jJ (aI hk3 row3);clear hk3 row3)
      go_roundw
      case rel=>exact zH
      case measure=>exact zI
    ·obtain rfl:j=n:=zZ;have htn:zs.take j=zs:=eZ1 (by rw [HL.o];omega);rw [htn] at htk hwl;have hclr:∀ty,(Builtin.clear_ #[56] ty #[.slice (some ⟨g,k,none⟩) (j-k) (c-k)]).run prog wr=.ok (.tuple #[]) (wr.setCells g k (List.replicate (j-k) (.int .i64 0))):=fun ty=>Lib.run_clear_slice (P:=prog) wr 56 3 ty (.int .i64 0) underlying56 (fun w=>zeroValue3 w) rfl rfl g k (j-k) (c-k) zZ (fun t ht=>pY) (fun t ht=>hds.frozen _);have HW:=jJ (aI5 hds hdl htk hwl hkr);clear hds hdl htk hwl hrest hkr htn;have HCL:=jJ hclr;clear hclr;obtain ⟨ys,y1,y2,y3,y4⟩:=aF.QU (List.replicate (j-k) (.int .i64 0)) k wr ds HW.o.1 sC;have HY:=jJ (aI4 y1 y2 y3 y4);clear y1 y2 y3 y4;go_wp2_with fail
     rw [HCL.o];generalize wr.setCells g k (List.replicate (j-k) (.int .i64 0))=wq at *
     go_wp2
     go_ret
     refine ⟨_,rfl,aL.ofRaw HR.o.r4.1 HY.o.1 (by rw [HY.o.2.1,HW.o.2.1];exact HR.o.2.1) HW.o.2.2.2.1 zZ hcm (by rw [HY.o.2.2.1];exact HW.o.2.2.1),rfl,(HW.o.r4.trans HY.o.2.2.2).mono fun b hb=>yA⟩
end
end Go.Proofs.Q
