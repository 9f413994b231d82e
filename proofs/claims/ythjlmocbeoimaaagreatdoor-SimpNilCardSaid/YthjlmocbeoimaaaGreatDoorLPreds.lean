/- What slices' IndexFunc and ContainsFunc do on integers, with a closure that tells a plain truth of each. Conditions: the closure's contract; room. -/
/- What slices' DeleteFunc and ContainsFunc do on integers, with a closure that tells a plain truth of each. Conditions: the closure's contract; room. -/
import Derived.Test.YthjlmocbeoimaaaGreatDoorLMadesC
import Derived.Test.YthjlmocbeoimaaaGreatDoorLNMap
set_option linter.unusedSimpArgs false
set_option linter.unusedVariables false
set_option maxRecDepth 100000
set_option maxHeartbeats 4000000
namespace Go.Rid
open Go.RowKit
structure PredB (P:Program) (w:World) (M:Nat→Prop) (fn:Nat) (cap:Array Value) (p:Int→Bool):Prop where
 enters:∀args w,(callFunc fn args).run P w=.ok (.enter fn args) w
 call:∀W x,aA M w W→I64' x→Calls P fn (#[.int .i64 x]++cap) W fun e w'=>e=.returned (.bool (p x))∧aA Nil W w'
def FirstP (p:Int→Bool) (zs:List Int) (r:Int):Prop:=(r=-1∧∀x∈zs,p x=false)∨∃i:Nat,r=i∧i<zs.length∧p (zs.getD i 0)=true∧∀j,j<i→p (zs.getD j 0)=false
theorem FirstP.any {p:Int→Bool} {zs:List Int} {r:Int} (h:FirstP p zs r):decide (0≤r)=zs.any p:=by
 rcases h with ⟨rfl,h⟩|⟨i,rfl,h1,h2,_⟩
 ·rw [List.any_eq_false.2 fun x hx=>by simp [h x hx]]
  rfl
 ·rw [List.any_eq_true.2 ⟨zs.getD i 0,by simp [List.getD,h1],h2⟩]
  simp
end Go.Rid
namespace Go.Proofs.YthjlmocbeoimaaaGreatDoor
open Go.RowKit Go.Rid
theorem indexFuncP_any {M:Nat→Prop} {w:World} {a:Option Addr} {n c fn:Nat} {cap:Array Value} {p:Int→Bool} {zs:List Int} (h:cC M w a n c zs) (hp:PredB Tryz.prog w Nil fn cap p) (hi:∀x∈zs,I64' x) (hn:n≤1000000000) :
  Calls Tryz.prog 70 #[.slice a n c,.func (.func fn) #[] cap] w fun e w'=>(∃r:Int,e=.returned (.int .i64 r)∧FirstP p zs r)∧aA Nil w w':=by
 have hln:zs.length=n:=SlOf.len h
 have heg:=hp.enters
 have HA:=jJ (aI h (aI hp (aI hi (aI hln hn))))
 clear h hp hi hln
 go_enter Tryz.func70,Tryz.ntmps70
 go_wp2_with fail
 go_loopw [8] (fun i wr=>∃k:Nat,i=.int .i64 k∧k≤n∧(∀j,j<k→p (zs.getD j 0)=false)∧aA Nil w wr) (fun i _=>n-(intOf i).toNat)
 case atStart=>exact⟨0,rfl,Nat.zero_le _,fun j hj=>by omega,aA.refl _ _⟩
 case round=>
  obtain ⟨k,rfl,hk,hj,hkr⟩:=hrel
  by_cases hkn:k<n
  ·obtain ⟨b,off,rfl,ck⟩:=bD (HA.out.1.keepNil hkr) hkn
   have hmem:zs.getD k 0∈zs:=by simp [List.getD,show k<zs.length by rw [HA.out.2.2.2.1];exact hkn]
   have hx64:=HA.out.2.2.1 _ hmem
   have j0:(0:Int)≤(k:Int):=by omega
   have j1:(k:Int)<(n:Int):=by omega
   have HK:=jJ (aI hj (aI hkr hx64))
   clear hj hkr hx64 hmem
   obtain ⟨x,hx⟩:∃x,x=zs.getD k 0:=⟨_,rfl⟩
   rw [←hx] at ck HK
   have HX:=jJ hx
   clear hx
   cases hpx:p x
   ·have HPX:=jJ hpx
    clear hpx
    go_wp2_with (refine (HA.out.2.1.call _ x HK.out.2.1 HK.out.2.2).mono ?_;rintro e w1 ⟨rfl,hk1⟩;rw [HPX.out];have H1:=jJ hk1;clear hk1)
    go_roundw
    case rel=>
     refine ⟨k+1,by go_num,hkn,fun j hj=>?_,HK.out.2.1.trans H1.out⟩
     rcases Nat.lt_succ_iff_lt_or_eq.1 hj with h|rfl
     ·exact HK.out.1 j h
     ·rw [←HX.out];exact HPX.out
    case measure=>simp [intOf];omega
   ·have HPX:=jJ hpx
    clear hpx
    go_wp2_with (refine (HA.out.2.1.call _ x HK.out.2.1 HK.out.2.2).mono ?_;rintro e w1 ⟨rfl,hk1⟩;rw [HPX.out];have H1:=jJ hk1;clear hk1)
    go_ret
    exact⟨⟨_,rfl,.inr ⟨k,rfl,by rw [HA.out.2.2.2.1];exact hkn,by rw [←HX.out];exact HPX.out,HK.out.1⟩⟩,HK.out.2.1.trans H1.out⟩
  ·obtain rfl:n=k:=by omega
   have HK:=jJ (aI hj hkr)
   clear hj hkr
   go_wp2_with fail
   go_ret
   refine ⟨⟨-1,rfl,.inl ⟨rfl,fun x hx=>?_⟩⟩,HK.out.2⟩
   obtain ⟨i,hi,rfl⟩:=List.mem_iff_getElem.1 hx
   have h1:=HK.out.1 i (by rw [←HA.out.2.2.2.1];exact hi)
   simpa [List.getD,hi] using h1
end Go.Proofs.YthjlmocbeoimaaaGreatDoor

namespace Go.Rid
open Go.RowKit
def dropP (p:Int→Bool) (zs:List Int):List Int:=zs.filter fun x=>!p x
theorem dropP_snoc (p:Int→Bool) (zs:List Int) (x:Int):dropP p (zs++[x])=if p x=true then dropP p zs else dropP p zs++[x]:=by
 unfold dropP
 rw [List.filter_append]
 by_cases h:p x=true<;>simp [h]
theorem dropP_none {p:Int→Bool} {zs:List Int} (h:∀x∈zs,p x=false):dropP p zs=zs:=List.filter_eq_self.2 fun x hx=>by simp [h x hx]
theorem aP.nums0 {M:Nat→Prop} {w:World} {B:Nat} {E:TypeId} {v:Value} {l:List Int} (h:aP w B E 1 v (aQ l)) (hM:∀b,v.ownBlock=some b→¬M b):∃a c,v=.slice a l.length c∧cC M w a l.length c l:=by
 obtain ⟨a',c',e,h'⟩:=aP.sl (M:=M) (R:=RI) (d:=0) (xs:=l) h hM (by rw [aM]) (fun i hi=>by rw [aM] at hi;simp [RI,aQ,List.getD,hi])
 rw [aM] at e h'
 exact⟨a',c',e,h'⟩
end Go.Rid
namespace Go.Proofs.YthjlmocbeoimaaaGreatDoor
open Go.RowKit Go.Rid
theorem containsFuncP_any {M:Nat→Prop} {w:World} {a:Option Addr} {n c fn:Nat} {cap:Array Value} {p:Int→Bool} {zs:List Int} (h:cC M w a n c zs) (hp:PredB Tryz.prog w Nil fn cap p) (hi:∀x∈zs,I64' x) (hn:n≤1000000000) :
  Calls Tryz.prog 46 #[.slice a n c,.func (.func fn) #[] cap] w fun e w'=>e=.returned (.bool (zs.any p))∧aA Nil w w':=by
 have hx:=indexFuncP_any h hp hi hn
 have HX:=jJ hx
 clear h hp hi hx
 go_enter Tryz.func46,Tryz.ntmps46
 go_wp2_with (go_at_call 70;refine HX.out.mono ?_;rintro e w1 ⟨⟨r,rfl,hr⟩,hk1⟩;have H1:=jJ (aI hr hk1);clear hr hk1)
 go_ret
 exact⟨by rw [←H1.out.1.any];rfl,H1.out.2⟩
theorem ideleteP_own {B fn:Nat} {w:World} {v:Value} {zs:List Int} {cap:Array Value} {p:Int→Bool} (h:aP w B 3 1 v (aQ zs)) (hl:zs.length≤1000000000) (hp:PredB Tryz.prog w (Own v) fn cap p) (hi:∀x∈zs,I64' x) :
  Calls Tryz.prog 39 #[v,.func (.func fn) #[] cap] w fun e w'=>∃v',e=.returned v'∧aP w' B 3 1 v' (aQ (dropP p zs))∧v'.ownBlock=v.ownBlock∧aA (Own v) w w':=by
 obtain ⟨a,c,rfl⟩:=h.isSlice
 have hnl:(aQ zs).length=zs.length:=aM zs
 rw [hnl] at h⊢
 rcases Nat.eq_zero_or_pos zs.length with h0|h0
 ·obtain rfl:zs=[]:=List.eq_nil_of_length_eq_zero h0
  have HO:=jJ h
  clear h hp hi hnl
  simp only [List.length_nil]
  go_enter Tryz.func39,Tryz.ntmps39
  go_wp2_with (go_at_call 70;refine indexFunc_zero.mono ?_;rintro e w1 ⟨rfl,hk1⟩)
  go_ret
  exact⟨_,rfl,HO.out.keepNil hk1,rfl,hk1.of_nil⟩
 ·have hown:=h
  obtain ⟨g,cs,rfl,hb,hr,hcl,hnc,hcm,htake⟩:=h.raw rfl h0
  have hrow:aF w g 3 (zs.map intV++cs.drop zs.length):=by rw [←htake,List.take_append_drop];exact hr
  obtain ⟨aN,cN,eN,hN⟩:=aP.nums0 (M:=Nil) h fun _ _ h=>h
  simp only [Value.slice.injEq] at eN
  obtain ⟨rfl,-,rfl⟩:=eN
  have hidx:=indexFuncP_any hN (⟨hp.enters,fun W x q=>hp.call W x (q.mono fun _ h=>h.elim)⟩:PredB Tryz.prog w Nil fn cap p) hi hl
  have heg:=hp.enters
  have HI:=jJ hidx
  have HR:=jJ (aI hr (aI hcl (aI hcm (aI htake (aI hb (aI hown (aI hp hi)))))))
  clear hidx hr hcl htake hrow h hown hp hi hN
  generalize hzl:zs.length=n at *
  have HL:=jJ hzl
  clear hzl hnl
  go_enter Tryz.func39,Tryz.ntmps39
  go_upto_region 2 with (go_at_call 70;refine HI.out.mono ?_;rintro e w1 ⟨⟨r,rfl,hr⟩,hk1⟩;have H1:=jJ (aI hr hk1);clear hr hk1)
  rcases H1.out.1 with ⟨rfl,hno⟩|⟨i,rfl,hid⟩
  ·have HNO:=jJ hno
   clear hno
   go_wp2_with fail
   go_ret
   have e:dropP p zs=zs:=dropP_none HNO.out
   exact⟨_,rfl,by rw [e];exact HR.out.r5.1.keepNil H1.out.2,rfl,H1.out.2.of_nil⟩
  ·have hin:i<n:=by have:=hid.1;rw [HL.out] at this;exact this
   have hne1:((i:Int)==-1)=false:=by simp
   have hstart:dropP p (zs.take (i+1))=zs.take i:=by
    have h1:i<zs.length:=hid.1
    rw [List.take_succ_eq_append_getElem h1,dropP_snoc,if_pos (by have:=hid.2.1;simpa [List.getD,h1] using this)]
    refine dropP_none fun x hx=>?_
    obtain ⟨j,hj,rfl⟩:=List.getElem_of_mem hx
    have hj':j<i:=by rw [List.length_take] at hj;omega
    have h2:=hid.2.2 j hj'
    simpa [List.getD,show j<zs.length by omega,List.getElem_take] using h2
   have HST:=jJ hstart
   clear hid hstart
   go_wp2_with fail
   go_loopw [5,6] (fun u v wr=>∃(k j:Nat) (ds:List Value),u=.int .i64 k∧v=.int .i64 j∧k<j∧j≤n∧aF wr g 3 ds∧ds.length=cs.length∧ds.take k=(dropP p (zs.take j)).map intV∧(dropP p (zs.take j)).length=k∧(∀t,j≤t→t<n→ds[t]?=some (intV (zs.getD t 0)))∧aA (One g) w wr) (fun _ v _=>n-(intOf v).toNat)
   case atStart=>
    refine ⟨i,i+1,cs,rfl,by go_num,by omega,hin,HR.out.1.keep H1.out.2 id,rfl,?_,?_,fun t _ ht=>?_,H1.out.2.of_nil⟩
    ·rw [HST.out,List.map_take,←HR.out.2.2.2.1,List.take_take,Nat.min_eq_left (by omega)]
    ·rw [HST.out,List.length_take,HL.out];omega
    ·have h1:(cs.take n)[t]?=(zs.map intV)[t]?:=by rw [HR.out.2.2.2.1]
     rw [List.getElem?_take,if_pos ht] at h1
     rw [h1]
     simp [List.getD,show t<zs.length by rw [HL.out];exact ht]
   case round=>
    obtain ⟨k,j,ds,rfl,rfl,hkj,hjn,hds,hdl,htk,hwl,hrest,hkr⟩:=hrel
    have hgw:=hds.lt
    by_cases hlt:j<n
    ·obtain ⟨x,hx⟩:∃x,x=zs.getD j 0:=⟨_,rfl⟩
     have c0:wr.cell? ⟨g,j,none⟩=some (.int .i64 x):=by rw [hds.cell,hrest j (Nat.le_refl _) hlt,hx];rfl
     obtain ⟨old,ho⟩:∃v0,ds[k]?=some v0:=⟨_,List.getElem?_eq_getElem (show k<ds.length by have:=HR.out.2.1;omega)⟩
     have htj:zs.take (j+1)=zs.take j++[x]:=by
      have h1:j<zs.length:=by rw [HL.out];exact hlt
      rw [List.take_succ_eq_append_getElem h1,hx];simp [List.getD,h1]
     have hxi:I64' x:=by rw [hx];exact HR.out.r7 _ (by simp [List.getD,show j<zs.length by rw [HL.out];exact hlt])
     have hw:=dropP_snoc p (zs.take j) x
     rw [←htj] at hw
     have HW:=jJ (aI hw (aI hds (aI hdl (aI htk (aI hwl (aI hrest (aI hkr (aI hxi ho))))))))
     clear hw hds hdl htk hwl hrest hkr hxi ho hx htj
     by_cases hxy:p x=true
     ·have e:p x=true:=hxy
      have HXY:=jJ hxy
      clear hxy
      go_wp2_with (refine (HR.out.r6.1.call _ x (HW.out.r6.1.mono fun b hb=>by rw [show b=g from hb];rfl) HW.out.r7.1).mono ?_;rintro e' w3 ⟨rfl,hk3⟩;try rw [e];have H3:=jJ hk3;clear hk3)
      go_roundw
      case rel=>
       have hw:=HW.out.1
       rw [if_pos HXY.out] at hw
       refine ⟨k,j+1,ds,rfl,by go_num,by omega,hlt,HW.out.2.1.keep H3.out id,HW.out.2.2.1,by rw [hw];exact HW.out.2.2.2.1,by rw [hw];exact HW.out.r4.1,fun t h1 h2=>HW.out.r5.1 t (by omega) h2,HW.out.r6.1.trans H3.out.of_nil⟩
      case measure=>simp [intOf];omega
     ·have e:p x=false:=by simpa using hxy
      have HXY:=jJ hxy
      clear hxy
      go_wp2_with (refine (HR.out.r6.1.call _ x (HW.out.r6.1.mono fun b hb=>by rw [show b=g from hb];rfl) HW.out.r7.1).mono ?_;rintro e' w3 ⟨rfl,hk3⟩;try rw [e];have row3:=HW.out.2.1.keep hk3 id;have ck:w3.cell? ⟨g,k,none⟩=some old:=(by rw [row3.cell];exact HW.out.r8);have fk:=row3.frozen k;have H3:=jJ (aI hk3 row3);clear hk3 row3)
      go_roundw
      case rel=>
       have hw:=HW.out.1
       rw [if_neg HXY.out] at hw
       refine ⟨k+1,j+1,_,by go_num,by go_num,by omega,hlt,H3.out.2.set k (.int .i64 x),by rw [List.length_set];exact HW.out.2.2.1,?_,by rw [hw,List.length_append,HW.out.r4.1];rfl,fun t h1 h2=>?_,(HW.out.r6.1.trans H3.out.1.of_nil).trans ((aA.refl (Rid.One g) w3).set1 k _)⟩
       ·have h1:k<ds.length:=by have:=HW.out.2.2.1;have:=HR.out.2.1;omega
        rw [List.take_succ_eq_append_getElem (by simpa using h1),List.take_set_of_le (Nat.le_refl _),HW.out.2.2.2.1,hw,List.map_append,List.getElem_set_self]
        rfl
       ·rw [List.getElem?_set_ne (by omega)]
        exact HW.out.r5.1 t (by omega) h2
      case measure=>simp [intOf];omega
    ·obtain rfl:j=n:=by omega
     have htn:zs.take j=zs:=List.take_of_length_le (by rw [HL.out];omega)
     rw [htn] at htk hwl
     have hclr:∀ty,(Builtin.clear_ #[22] ty #[.slice (some ⟨g,k,none⟩) (j-k) (c-k)]).run Tryz.prog wr=.ok (.tuple #[]) (wr.setCells g k (List.replicate (j-k) (.int .i64 0))):=fun ty=>Lib.run_clear_slice (P:=Tryz.prog) wr 22 3 ty (.int .i64 0) Tryz.underlying22 (fun w=>Tryz.zeroValue3 w) rfl rfl g k (j-k) (c-k) (by omega) (fun t ht=>by rw [hds.cell,List.getElem?_eq_getElem (by have:=HR.out.2.1;omega)];rfl) (fun t ht=>hds.frozen _)
     have HW:=jJ (aI hds (aI hdl (aI htk (aI hwl hkr))))
     clear hds hdl htk hwl hrest hkr htn
     have HCL:=jJ hclr
     clear hclr
     obtain ⟨ys,y1,y2,y3,y4⟩:=aF.setAll (List.replicate (j-k) (.int .i64 0)) k wr ds HW.out.1 (by rw [List.length_replicate,HW.out.2.1];have:=HR.out.2.1;omega)
     have HY:=jJ (aI y1 (aI y2 (aI y3 y4)))
     clear y1 y2 y3 y4
     go_wp2_with fail
     rw [HCL.out]
     generalize wr.setCells g k (List.replicate (j-k) (.int .i64 0))=wq at *
     go_wp2
     go_ret
     refine ⟨_,rfl,aP.ofRaw HR.out.r4.1 HY.out.1 (by rw [HY.out.2.1,HW.out.2.1];exact HR.out.2.1) HW.out.2.2.2.1 (by omega) hcm (by rw [HY.out.2.2.1];exact HW.out.2.2.1),rfl,(HW.out.r4.trans HY.out.2.2.2).mono fun b hb=>by rw [show b=g from hb];rfl⟩
end Go.Proofs.YthjlmocbeoimaaaGreatDoor
