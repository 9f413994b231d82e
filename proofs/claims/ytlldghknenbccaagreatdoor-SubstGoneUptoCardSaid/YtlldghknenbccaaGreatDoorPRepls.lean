/- Copy within and between rows, as a step of a region that draws; what two such copies leave. -/
import Derived.Test.YtlldghknenbccaaGreatDoorPPreds
import Derived.Lib.Overlaps
import Derived.Lib.AppendZerosOnto
set_option linter.unusedSimpArgs false
set_option linter.unusedVariables false
set_option maxRecDepth 100000
set_option maxHeartbeats 4000000
namespace Go.Proofs.Q
open Go.RowKit Tryz
theorem splice2_in {α:Type} (cs K D:List α) (i n:Nat) (hK:K.length=n) (h:i+n+D.length≤cs.length):(splice (splice cs (i+n) D) i K).take (i+n+D.length)=cs.take i++(K++D):=by
 have h1:(cs.take (i+n)).length=i+n:=by rw [iZ1];omega
 have e1:(splice cs (i+n) D).take i=cs.take i:=by
  unfold splice;rw [List.take_append_of_le_length (by omega),List.take_take,Nat.min_eq_left (by omega)]
 have e2:(splice cs (i+n) D).drop (i+n)=D++cs.drop (i+n+D.length):=by
  unfold splice;exact List.drop_left' h1
 have h3:(cs.take i).length=i:=by rw [iZ1];omega
 rw [splice,e1,hK,e2,←mZ2 K,←mZ2 (cs.take i)];refine List.take_left' ?_;simp only [aZ1];omega
theorem splice2_out {α:Type} (cs K D:List α) (i n:Nat) (hK:K.length=n) (h:i+n+D.length≤cs.length):(splice (splice cs i K) (i+n) D).take (i+n+D.length)=cs.take i++(K++D):=by
 have h3:(cs.take i).length=i:=by rw [iZ1];omega
 have e1:(splice cs i K).take (i+n)=cs.take i++K:=by
  unfold splice;rw [←mZ2];exact List.take_left' (by rw [aZ1,hK];omega)
 rw [splice,e1,←mZ2,←mZ2];refine List.take_left' ?_;simp only [aZ1];omega
theorem length_splice' {α:Type} (L:List α) (off:Nat) (cs:List α) (h:off+cs.length≤L.length):(splice L off cs).length=L.length:=by simp [splice];omega
theorem step_copy_rowM {M:Nat→Prop} {P:Program} {ops:Array Oper} {o:Oper} {a:Act} {w:World} {K:Act→World→Prop} {Q:Exit→Act→World→Prop} {E:Prop} (hgd:o.guard=none) (d s:Operand) (dT sT:TypeId)
  (ho:o.op=.call { callee:=.builtin .copy,args:=#[d,s],argTypes:=#[dT,sT] }) (elem:TypeId) (hu:P.underlying dT=some (.slice elem)) (hsz:(P.info? elem).map (·.size)=some 1)
  (dp sp:Option Addr) (dLen dCap sLen sCap:Nat) (hd:a.eval d=.slice dp dLen dCap) (hs:a.eval s=.slice sp sLen sCap)
  (g off:Nat) (cur:List Value) (t:TypeId) (hg:aC w g t cur) (cs:List Value) (hn:cs.length=Nat.min sLen dLen)
  (hpd:0<cs.length→dp=some ⟨g,off,none⟩) (hps:SrcIs M w sp cs)
  (hfit:off+cs.length≤cur.length) (h1:∀v∈cs,v.oneCell'=true)
  (h:∀w',aC w' g t (splice cur off cs)→aA (One g) w w'→K (a.put o.dst (goInt cs.length)) w') :
  if Region.wanted o (yielded ops a.tmps)=true then Oper.wp P o a w K Q else E:=by
 have hw:Region.wanted o (yielded ops a.tmps)=true:=by simp [Region.wanted,hgd]
 rw [if_pos hw];by_cases h0:cs.length=0
 ·obtain rfl:cs=[]:=fZ1 h0;have hrun:=run_copy_none (P:=P) w dT sT o.type elem dp sp dLen dCap sLen sCap hu hsz (by simpa using hn.symm);unfold Oper.wp;simp [execOp,ho,resolve,invoke,builtin,hd,hs,hrun,Result.andThen];exact h w (by simpa [splice] using hg) (aA.refl _ _)
 ·obtain ⟨b,so,rfl,hb,_,hsrc⟩:=hps (by omega);obtain rfl:=hpd (by omega);have hrun:=run_copy_row (P:=P) w dT sT o.type elem g off dLen dCap ⟨b,so,none⟩ sLen sCap cur.toArray t cs hu hsz hg.out hn (fun j v hj=>by rw [Addr.add_lit];exact hsrc j v hj) (by simpa using hfit) h1;unfold Oper.wp;simp [execOp,ho,resolve,invoke,builtin,hd,hs,hrun,Result.andThen];exact h _ (show _=_ by simpa [splice] using setRow_heap w g _ _ t _ hg.out) ⟨rfl,rfl,rfl,by simp [World.setRow],fun k _ hk=>setRow_other w g k _ hk⟩
theorem cB.src {M:Nat→Prop} {w:World} {a:Option Addr} {n c:Nat} {l:List Int} (h:cB M w a n c l):SrcIs M w a (l.map intV):=by
 intro hp;have hl:l.length=n:=SlOf.len h;rw [hZ1] at hp;obtain ⟨f,hs,hr⟩:=h.ex;obtain ⟨b,off,rfl,hb,hn,hc⟩:=hs.at (by omega);refine ⟨b,off,rfl,hb,hn,fun j v hj=>?_⟩;have hj':j<n:=by have:=(List.getElem?_eq_some_iff.1 hj).1;rw [hZ1] at this;omega
 obtain ⟨b2,off2,e,hc2⟩:=aZ h (i:=j) hj';cases e;rw [hc2];rw [List.getElem?_map,jZ2 (by omega)] at hj;simpa [intV,List.getD,show j<l.length by omega] using hj
section
variable {a:Option Addr} {M:Nat→Prop} {w:World} {B g:Nat} {zs ks:List Int} {cs:List Value} {v x:Value}
theorem size_int':(prog.info? 3).map (·.size)=some 1:=by kernel_rfl
theorem oneCell_ints (l:List Int):∀v∈l.map intV,v.oneCell'=true:=fun v hv=>by
 obtain ⟨z,_,rfl⟩:=iZ2.1 hv;rfl
theorem ireplace_end {i n c:Nat} (h:aL w B 3 1 v (aM zs)) (hk:cB M w a n c ks) (hi:zs.length=i+1) (h2:2≤n) (hl:(zs.length+n)*8≤140737488355328) (hB:B≤w.heap.size) :
  Calls prog 193 #[v,.int .i64 i,.int .i64 ((i:Int)+1),.slice a n c] w fun e w'=>∃v',e=.returned v'∧aL w' B 3 1 v' (aM (zs.take i++ks))∧aA (Own v) w w':=by
 obtain ⟨i1,hi1⟩:=info_parts info_int;have HI:=jJ hi1;obtain ⟨av,cv,rfl⟩:=h.isSlice;have hnl:(aM zs).length=i+1:=by rw [aJ];exact hi
 rw [hnl] at h⊢;have hkl:ks.length=n:=SlOf.len hk;obtain ⟨g,cs,rfl,hb,hr,hcl,hnc,hcm,htake⟩:=h.raw hi (by omega);have hcut:=h.cut hnl (k:=i) (by omega);rw [show (aM zs).take i=aM (zs.take i) by unfold aM;rw [List.map_take]] at hcut;have hcl':(aM (zs.take i)).length=i:=by rw [aJ,iZ1];omega
 obtain ⟨b2,off2,ea,_⟩:=aZ hk (i:=0) (by omega);subst ea;have hsrc:=hk.src (by rw [hZ1];omega);obtain ⟨b3,off3,e3,hb3,-,hcs3⟩:=hsrc;cases e3;have hcmm:cv≤9223372036854775807:=by unfold maxLen at hcm;omega
 have HA:=jJ (aI5 hcut hcl' hcs3 hkl hl);clear hi1 h hcut hcl' hcs3 hkl hk hr hcl hcm htake hnl;have hni:(0:Int)≤(i:Int):=by omega
 have hz1:¬((i:Int)=(i:Int)+1):=by omega
 have hb1:(0:Int)≤(i:Int)+1:=by omega
 have hb2:(i:Int)≤(i:Int)+1:=by omega
 have hb3:(i:Int)+1≤(cv:Int):=by omega
 have hb4:(i:Int)≤(cv:Int):=by omega
 have htn:((i:Int)+1).toNat=i+1:=by omega
 have hci:¬(cv=i):=by omega
 go_enter func193,ntmps193
 go_wp2_with (at_builtin;go_loud (refine cC _ rfl (.tmp 32) (.tmp 33) 56 rfl B 3 i1 (.int .i64 0) 1 8 underlying56 HI.o.1 HI.o.2.1 HI.o.2.2.1 HI.o.2.2.2 rfl (by decide) (.slice (some ⟨g,0,none⟩) i cv) _ rfl HA.o.1 ⟨b2,off2,none⟩ c n (aM ks) rfl (by rw [aJ];exact HA.o.2.2.2.1) (by simp [aM]) (fun j u hj=>by rw [Addr.add_lit];rw [bQ] at hj;exact HA.o.2.2.1 j u hj) (fun u hu=>by rw [bQ] at hu;exact oneCell_ints _ u hu) (by rw [HA.o.2.1];have:=HA.o.r4;omega) (by rw [HA.o.2.1];have:=HA.o.r4;omega) hB ?_);intro v' w2 ho hk2 hf2 _;obtain ⟨a7,c7,rfl⟩:=ho.isSlice;have e7:(aM (zs.take i)++aM ks).length=i+n:=(by rw [aZ1,HA.o.2.1,aJ,HA.o.2.2.2.1]);rw [e7] at ho⊢;have HO:=jJ (aI ho hk2);clear ho hk2 hf2 e7)
 go_ret
 exact⟨_,rfl,by have:=HO.o.1;rwa [show aM (zs.take i)++aM ks=aM (zs.take i++ks) by unfold aM;rw [cZ2]] at this,HO.o.2.mono fun b hb=>hb⟩
theorem overlaps_row {b2 off2:Nat} (hr:aC w g 3 cs) (h0:0<cs.length) (hbg:b2≠g) (hc0:w.cell? ⟨b2,off2,none⟩=some x) :
  ∀k la lb lc cb,(callFunc 210 #[.slice (some ⟨g,k,none⟩) la lb,.slice (some ⟨b2,off2,none⟩) lc cb]).run prog w=.ok (.value (.bool false)) w:=fun k la lb lc cb=>by
 obtain ⟨tA,kA,hsA,-,-⟩:=World.shape?_of_cell? ((hr.cell 0).trans (jZ2 h0));obtain ⟨tB,kB,hsB,hkB,-⟩:=World.shape?_of_cell? hc0;have hkB':off2<kB:=hkB;rw [run_callFunc_extern func210 (by kernel_rfl) (by kernel_rfl) (by kernel_rfl) (e:=Extern.SlicesOverlaps.overlaps #[56,56] #[4]) (by kernel_rfl),
  Lib.run_overlaps_apart w 56 4 3 underlying56 1 sizeOf3 ⟨g,k,none⟩ ⟨b2,off2,none⟩ la lb lc cb hbg.symm tA tB kA kB hsA hsB (by omega) (hr.frozen _) (hr.frozen _)]
 rfl
theorem ireplace_room {cv:Nat} {i r n c:Nat} (h:aL w B 3 1 (.slice (some ⟨g,0,none⟩) (i+1+r) cv) (aM zs)) (hk:cB M w a n c ks) (hM:M g) (hi:zs.length=i+1+r) (h0:0<r) (h2:2≤n) (hroom:i+n+r≤cv) :
  Calls prog 193 #[.slice (some ⟨g,0,none⟩) (i+1+r) cv,.int .i64 i,.int .i64 ((i:Int)+1),.slice a n c] w fun e w'=>∃v',e=.returned v'∧aL w' B 3 1 v' (aM (zs.take i++(ks++zs.drop (i+1))))∧aA (One g) w w':=by
 have hkl:ks.length=n:=SlOf.len hk;obtain ⟨g',cs,eg,hb,hr,hcl,hnc,hcm,htake⟩:=h.raw hi (by omega);cases eg;obtain ⟨b2,off2,ea,hc0⟩:=aZ hk (i:=0) (by omega);subst ea;rw [Nat.add_zero] at hc0;have hsrc:=hk.src;obtain ⟨b3,off3,e3,hb3,hnM,hcs3⟩:=hsrc (by rw [hZ1];omega);cases e3;have hbg:b2≠g:=fun e=>hnM (by rw [e];exact hM);have hcmm:cv≤9223372036854775807:=by unfold maxLen at hcm;omega
 have hdl:((zs.drop (i+1)).map intV).length=r:=by rw [hZ1,dZ3];omega
 have hdcell:∀(j:Nat) (v:Value),((zs.drop (i+1)).map intV)[j]?=some v→w.cell? ⟨g,i+1+j,none⟩=some v:=fun j v hj=>by
  have hj':j<r:=by have:=(List.getElem?_eq_some_iff.1 hj).1;omega
  rw [hr.cell];have h1:(cs.take (i+1+r))[i+1+j]?=some v:=by rw [htake,←hj,List.map_drop,List.getElem?_drop]
  rwa [List.getElem?_take,if_pos (by omega)] at h1
 have hsd:SrcIs Nil w (some ⟨g,i+1,none⟩) ((zs.drop (i+1)).map intV):=fun _=>⟨g,i+1,rfl,hr.lt,id,hdcell⟩;have hsk:SrcIs M w (some ⟨b2,off2,none⟩) (ks.map intV):=hsrc;have HA:=jJ (aI11 hr hsd hsk hdl hkl hcl hcm htake hb hM h0);have hb2w:b2<w.heap.size:=hb3;have hcl0:0<cs.length:=by omega
 have HC0:=jJ hc0;clear h hk hsrc hcs3 hr hsd hsk hdl hkl hcl hcm htake hb hdcell hc0 hb3;have hz1:¬((i:Int)=(i:Int)+1):=by omega
 have hb1:(0:Int)≤(i:Int)+1:=by omega
 have hb2:(i:Int)≤(i:Int)+1:=by omega
 have hb3:(i:Int)+1≤(cv:Int):=by omega
 have hb4:(i:Int)≤(cv:Int):=by omega
 have htn:((i:Int)+1).toNat=i+1:=by omega
 have hci:¬(cv=i):=by omega
 have hci1:¬(cv=i+1):=by omega
 have hci2:¬(cv=i+n):=by omega
 have hb5:(i:Int)+1≤(i:Int)+1+(r:Int):=by omega
 have hb6:(i:Int)≤(i:Int)+1+(r:Int):=by omega
 have hb7:¬((i:Int)+1=(i:Int)+1+(r:Int)):=by omega
 have hb8:¬((i:Int)+(n:Int)+(r:Int) > (cv:Int)):=by omega
 go_enter func193,ntmps193
 go_wp2_with fail
 go_quiet (fail)
 have kd:aA Nil w (w.drewN nq):=aA.drewN (aA.refl _ _) _;generalize w.drewN nq=wd at *
 have hov:=overlaps_row (HA.o.1.keep kd id) hcl0 hbg (kd.cellE hb2w id HC0.o);have HD:=jJ kd;clear kd;go_wp2_with (simp only [hov])
 have hw1:IntKind.i64.wrap ((i:Int)+(n:Int))=(i:Int)+(n:Int):=by rw [IntKind.wrap_i64];omega
 have hbn:(0:Int)≤(i:Int)+(n:Int):=by omega
 have hb9:(i:Int)≤(i:Int)+(n:Int)+(r:Int):=by omega
 have hbn2:(i:Int)+(n:Int)≤(i:Int)+(n:Int)+(r:Int):=by omega
 have htn2:((i:Int)+(n:Int)).toNat=i+n:=by omega
 go_region_law (go_loud (refine step_copy_rowM (M:=Nil) rfl _ _ 56 56 rfl 3 underlying56 size_int' (some ⟨g,i+n,none⟩) (some ⟨g,i+1,none⟩) r (cv-(i+n)) r (cv-(i+1)) (by simp [Act.eval,Act.put]) (by simp [Act.eval,Act.put]) g (i+n) cs 3 (HA.o.1.keep HD.o.drew id) ((zs.drop (i+1)).map intV) (by rw [HA.o.2.2.2.1];exact (Nat.min_self r).symm) (fun _=>rfl) (HA.o.2.1.keepNil HD.o.drew) (by rw [HA.o.2.2.2.1];have:=HA.o.r5.1;omega) (oneCell_ints _) ?_);intro w3 hr3 hk3;have H3:=jJ (aI hr3 hk3);clear hr3 hk3)
 go_upto_region 23 with (fail)
 go_wp2_with (with_reducible refine wpList_copy_row (M:=M) rfl (.tmp 133) (.tmp 134) 56 56 rfl 3 underlying56 size_int' (some ⟨g,i,none⟩) (some ⟨b2,off2,none⟩) (i+n+r-i) (cv-i) n c rfl rfl g i _ 3 H3.o.1 (ks.map intV) ?qn ?qd ?qs ?qf ?q1 ?_)
 case qn=>rw [hZ1,HA.o.r4.1];omega
 try (case qd=>exact fun _=>rfl)
 case qs=>exact HA.o.2.2.1.keep (HD.o.drew.of_nil.trans H3.o.2) fun b _ hb=>by rw [show b=g from hb];exact hM
 case qf=>rw [hZ1,HA.o.r4.1,length_splice' _ _ _ (by rw [HA.o.2.2.2.1];have:=HA.o.r5.1;omega)];have:=HA.o.r5.1;omega
 case q1=>exact oneCell_ints _
 intro w4 hr4 hk4;have H4:=jJ (aI hr4 hk4);clear hr4 hk4;go_wp2_with fail
 go_ret
 have hl1:i+n+((zs.drop (i+1)).map intV).length≤cs.length:=by rw [HA.o.2.2.2.1];have:=HA.o.r5.1;omega
 have hsp:=splice2_in cs (ks.map intV) ((zs.drop (i+1)).map intV) i n (by rw [hZ1];exact HA.o.r4.1) hl1;rw [HA.o.2.2.2.1] at hsp;have hti:cs.take i=(zs.take i).map intV:=by
  have h1:(cs.take (i+1+r)).take i=(zs.map intV).take i:=by rw [HA.o.r7.1]
  rwa [List.take_take,Nat.min_eq_left (by omega),←List.map_take] at h1
 have hr4:=H4.o.1;try rw [←List.map_drop] at hr4
 refine ⟨_,rfl,aL.ofRaw HA.o.r8.1 hr4 ?_ ?_ hroom HA.o.r6.1 ?_,(HD.o.drew.of_nil.trans H3.o.2).trans H4.o.2⟩
 ·rw [length_splice',length_splice' _ _ _ hl1]
  ·exact HA.o.r5.1
  ·rw [length_splice' _ _ _ hl1,hZ1,HA.o.r4.1];have:=HA.o.r5.1;omega
 ·have:=HA.o.2.2.2.1;rw [hZ1] at this;rw [aZ1,aZ1,iZ1,HA.o.r4.1,this];omega
 ·rw [hsp,hti,cZ2,cZ2]
end
theorem append_zeros_row {w:World} {g i cv k:Nat} {cs:List Value} (hr:aC w g 3 cs) (hi:i≤cs.length) (hic:i≤cv) (hroom:cv<i+k) (h0:0<k) (hl:(i+k)*8≤140737488355328) :
  ∃G w1 ys,(∀ty (x:Int),x=(k:Int)→(Builtin.append_ #[56,3] ty #[.slice (some ⟨g,0,none⟩) i cv,.int .i64 x]).run prog w=.ok (.slice (some ⟨w.heap.size,0,none⟩) (i+k) G) w1)∧aC w1 w.heap.size 3 (cs.take i++ys)∧i+k≤G∧G≤maxLen∧(cs.take i++ys).length=G∧aA Nil w w1:=by
 obtain ⟨i1,hi1,hz,hs,hb⟩:=info_parts info_int;have hold:(Builtin.firstCells i1.size i (.slice (some ⟨g,0,none⟩) i cv)).run prog w.drew=.ok (cs.take i).toArray w.drew:=by
  rw [hs];exact run_firstCells_some w.drew 1 i ⟨g,0,none⟩ i cv (cs.take i) (by rw [iZ1];omega) (fun j v hj=>by
   rw [Addr.add_lit,Nat.zero_add];rw [List.getElem?_take] at hj;split at hj
   ·exact (hr.cell j).trans hj
   ·cases hj)
 have hg:=grownCap_ge w (i+k) cv 3;have hm:=grownCap_le_maxLen w (i+k) cv 3 (by unfold maxLen;omega);refine ⟨grownCap w (i+k) cv 3,w.drew.alloc (.cells ((cs.take i).toArray++Builtin.zeroCells (Value.int .i64 0).cells k++Builtin.zeroCells (Value.int .i64 0).cells (grownCap w (i+k) cv 3-(i+k))) 3),(Builtin.zeroCells (Value.int .i64 0).cells k++Builtin.zeroCells (Value.int .i64 0).cells (grownCap w (i+k) cv 3-(i+k))).toList,fun ty x hx=>?_,?_,hg,hm,?_,?_⟩
 ·rw [hx];exact Lib.run_append_grow_zeros w 56 3 ty 3 i1 _ .i64 .i64 underlying56 underlying3 hi1 hz (some ⟨g,0,none⟩) i cv (cs.take i) hold k h0 (by omega) hroom (by omega) (by rw [hb];omega) (by rw [hb];exact growslice_fits (by omega) (by omega))
 ·have e:((cs.take i).toArray++Builtin.zeroCells (Value.int .i64 0).cells k++Builtin.zeroCells (Value.int .i64 0).cells (grownCap w (i+k) cv 3-(i+k)))=(cs.take i++(Builtin.zeroCells (Value.int .i64 0).cells k++Builtin.zeroCells (Value.int .i64 0).cells (grownCap w (i+k) cv 3-(i+k))).toList).toArray:=by
   apply Array.toList_inj.1;simp
  rw [e];exact aC.alloc
 ·simp [Builtin.zeroCells,Value.cells];omega
 ·exact aA.alloc (aA.drew (aA.refl _ _)) _
theorem ireplace_grow {B:Nat} {M:Nat→Prop} {w:World} {g cv:Nat} {zs ks:List Int} {i r n c:Nat} {a:Option Addr} (h:aL w B 3 1 (.slice (some ⟨g,0,none⟩) (i+1+r) cv) (aM zs)) (hk:cB M w a n c ks) (hi:zs.length=i+1+r) (h0:0<r) (h2:2≤n) (hroom:cv<i+n+r) (hl:(i+n+r)*8≤140737488355328) (hB:B≤w.heap.size) :
  Calls prog 193 #[.slice (some ⟨g,0,none⟩) (i+1+r) cv,.int .i64 i,.int .i64 ((i:Int)+1),.slice a n c] w fun e w'=>∃v',e=.returned v'∧aL w' B 3 1 v' (aM (zs.take i++(ks++zs.drop (i+1))))∧aA Nil w w':=by
 have hkl:ks.length=n:=SlOf.len hk;obtain ⟨g',cs,eg,hb,hr,hcl,hnc,hcm,htake⟩:=h.raw hi (by omega);cases eg;obtain ⟨b2,off2,ea,hc0⟩:=aZ hk (i:=0) (by omega);subst ea;have hsrc:=hk.src;obtain ⟨b3,off3,e3,hb3,hnM,hcs3⟩:=hsrc (by rw [hZ1];omega);cases e3;have hdl:((zs.drop (i+1)).map intV).length=r:=by rw [hZ1,dZ3];omega
 have hdcell:∀(j:Nat) (v:Value),((zs.drop (i+1)).map intV)[j]?=some v→w.cell? ⟨g,i+1+j,none⟩=some v:=fun j v hj=>by
  have hj':j<r:=by have:=(List.getElem?_eq_some_iff.1 hj).1;omega
  rw [hr.cell];have h1:(cs.take (i+1+r))[i+1+j]?=some v:=by rw [htake,←hj,List.map_drop,List.getElem?_drop]
  rwa [List.getElem?_take,if_pos (by omega)] at h1
 have hsd:SrcIs Nil w (some ⟨g,i+1,none⟩) ((zs.drop (i+1)).map intV):=fun _=>⟨g,i+1,rfl,hr.lt,id,hdcell⟩;have hsk:SrcIs Nil w (some ⟨b2,off2,none⟩) (ks.map intV):=fun hp=>by
  obtain ⟨b,off,e,q1,_,q2⟩:=hsrc hp;exact⟨b,off,e,q1,id,q2⟩
 have hcvm:cv≤9223372036854775807:=by unfold maxLen at hcm;omega
 have HA:=jJ (aI9 hr hsd hsk hdl hkl hcl hcm htake hb);have hics:i≤cs.length:=by omega
 clear h hk hsrc hcs3 hr hsd hsk hdl hkl hcl hcm htake hb hdcell hc0 hb3;have hz1:¬((i:Int)=(i:Int)+1):=by omega
 have hb1:(0:Int)≤(i:Int)+1:=by omega
 have hb2:(i:Int)≤(i:Int)+1:=by omega
 have hb3:(i:Int)+1≤(cv:Int):=by omega
 have hb4:(i:Int)≤(cv:Int):=by omega
 have htn:((i:Int)+1).toNat=i+1:=by omega
 have hci:¬(cv=i):=by omega
 have hci1:¬(cv=i+1):=by omega
 have hb5:(i:Int)+1≤(i:Int)+1+(r:Int):=by omega
 have hb6:(i:Int)≤(i:Int)+1+(r:Int):=by omega
 have hb7:¬((i:Int)+1=(i:Int)+1+(r:Int)):=by omega
 have hb8:(i:Int)+(n:Int)+(r:Int) > (cv:Int):=by omega
 go_enter func193,ntmps193
 go_wp2_with fail
 go_quiet (fail)
 have kd:aA Nil w (w.drewN nq):=aA.drewN (aA.refl _ _) _;have kdsz:w.heap.size≤(w.drewN nq).heap.size:=kd.size;generalize w.drewN nq=wd at *
 obtain ⟨G,w1,ys,q1,q2,q3,q4,q5,q6⟩:=append_zeros_row (cv:=cv) (k:=n+r) (HA.o.1.keep kd id) hics (by omega) (by omega) (by omega) (by omega);have HD:=jJ (aI5 q1 q2 q4 q5 (kd.trans q6));clear kd q1 q2 q4 q5 q6;have hBN:B≤wd.heap.size:=bZ1 hB kdsz;generalize hNN:wd.heap.size=N at *
 have HNB:=jJ hBN;have hNw:w.heap.size≤N:=kdsz;clear hNN;have hGm:G≤9223372036854775807:=by have:=HD.o.2.2.1;unfold maxLen at this;omega
 go_upto_region 11 with (fail)
 go_upto_region 12 with (at_builtin;refine Lib.wpList_append_run _ rfl _ _ _ _ rfl _ _ rfl rfl _ _ (HD.o.1 _ _ (by omega)) ?_)
 have hc1:¬(G=i):=by omega
 have hb9:(i:Int)≤(i:Int)+((n:Int)+(r:Int)):=by omega
 go_wp2_with (with_reducible refine wpList_copy_row (M:=Nil) rfl (.tmp 70) (.tmp 71) 56 56 rfl 3 underlying56 size_int' (some ⟨N,i,none⟩) (some ⟨b2,off2,none⟩) (n+r) (G-i) n c rfl rfl N i _ 3 HD.o.2.1 (ks.map intV) ?qn ?qd ?qs ?qf ?q1 ?_)
 case qn=>rw [hZ1,HA.o.r4.1];omega
 try (case qd=>exact fun _=>rfl)
 case qs=>exact HA.o.2.2.1.keepNil HD.o.r4
 case qf=>rw [hZ1,HA.o.r4.1,HD.o.2.2.2.1];omega
 case q1=>exact oneCell_ints _
 intro w3 hr3 hk3;have H3:=jJ (aI hr3 (HD.o.r4.own hNw hk3));clear hr3 hk3;have hw1:IntKind.i64.wrap ((i:Int)+(n:Int))=(i:Int)+(n:Int):=by rw [IntKind.wrap_i64];omega
 have hbn:(0:Int)≤(i:Int)+(n:Int):=by omega
 have hbn2:(i:Int)+(n:Int)≤(i:Int)+((n:Int)+(r:Int)):=by omega
 have htn2:((i:Int)+(n:Int)).toNat=i+n:=by omega
 have hc2:¬(G=i+n):=by omega
 have hl0:i+(ks.map intV).length≤(cs.take i++ys).length:=by rw [hZ1,HA.o.r4.1,HD.o.2.2.2.1];omega
 have hl1:(splice (cs.take i++ys) i (ks.map intV)).length=G:=by rw [length_splice' _ _ _ hl0];exact HD.o.2.2.2.1
 have HL:=jJ (aI hl0 hl1);clear hl0 hl1;go_wp2_with fail
 go_region_law (go_loud (refine step_copy_rowM (M:=Nil) rfl _ _ 56 56 rfl 3 underlying56 size_int' (some ⟨N,i+n,none⟩) (some ⟨g,i+1,none⟩) (i+(n+r)-(i+n)) (G-(i+n)) r (cv-(i+1)) (by simp [Act.eval,Act.put]) (by simp [Act.eval,Act.put]) N (i+n) _ 3 (H3.o.1.keep (aA.drew (aA.refl Nil _)) id) ((zs.drop (i+1)).map intV) (by rw [HA.o.2.2.2.1];simp only [Nat.min_def];split<;>omega) (fun _=>rfl) (HA.o.2.1.keepNil H3.o.2.drew) (by rw [HA.o.2.2.2.1,HL.o.2];omega) (oneCell_ints _) ?_);intro w4 hr4 hk4;have H4:=jJ (aI hr4 hk4);clear hr4 hk4)
 go_wp2_with fail
 go_ret
 have hsp:=splice2_out (cs.take i++ys) (ks.map intV) ((zs.drop (i+1)).map intV) i n (by rw [hZ1];exact HA.o.r4.1) (by rw [HA.o.2.2.2.1,HD.o.2.2.2.1];omega);rw [HA.o.2.2.2.1] at hsp;have hti:(cs.take i++ys).take i=(zs.take i).map intV:=by
  rw [List.take_left' (by rw [iZ1];omega)];have h1:(cs.take (i+1+r)).take i=(zs.map intV).take i:=by rw [HA.o.r7.1]
  rwa [List.take_take,Nat.min_eq_left (by omega),←List.map_take] at h1
 have hr4:=H4.o.1;try rw [←List.map_drop] at hr4
 refine ⟨_,rfl,aL.ofRaw HNB.o hr4 ?_ ?_ (by omega) HD.o.2.2.1 ?_,(H3.o.2.drew).own hNw H4.o.2⟩
 ·rw [length_splice',HL.o.2]
  ·exact bZ2 _
  ·rw [HL.o.2,HA.o.2.2.2.1];omega
 ·have:=HA.o.2.2.2.1;rw [hZ1] at this;rw [aZ1,aZ1,iZ1,HA.o.r4.1,this];omega
 ·rw [show i+(n+r)=i+n+r by omega,hsp,hti,cZ2,cZ2]
theorem ireplace_own {B:Nat} {M:Nat→Prop} {w:World} {v:Value} {zs ks:List Int} {i n c:Nat} {a:Option Addr} (h:aL w B 3 1 v (aM zs)) (hk:cB M w a n c ks) (hM:∀b,v.ownBlock=some b→M b) (hi:i<zs.length) (h2:2≤n) (hl:(zs.length+n)*8≤140737488355328) (hB:B≤w.heap.size) :
  Calls prog 193 #[v,.int .i64 i,.int .i64 ((i:Int)+1),.slice a n c] w fun e w'=>∃v',e=.returned v'∧aL w' B 3 1 v' (aM (zs.take i++(ks++zs.drop (i+1))))∧aA (Own v) w w':=by
 by_cases he:zs.length=i+1
 ·rw [List.drop_of_length_le (by omega),fZ2];exact ireplace_end h hk he h2 hl hB
 ·obtain ⟨r,hr⟩:∃r,zs.length=i+1+r:=⟨zs.length-(i+1),by omega⟩;obtain ⟨av,cv,rfl⟩:=h.isSlice;rw [aJ,hr] at h hM⊢;obtain ⟨g,cs,rfl,-,-,-,-,-,-⟩:=h.raw hr (by omega);rcases Nat.lt_or_ge cv (i+n+r) with hc|hc
  ·refine (ireplace_grow h hk hr (by omega) h2 hc (by omega) hB).mono ?_;rintro e w' ⟨v',rfl,q1,q2⟩;exact⟨v',rfl,q1,q2.of_nil⟩
  ·refine (ireplace_room h hk (hM g rfl) hr (by omega) h2 hc).mono ?_;rintro e w' ⟨v',rfl,q1,q2⟩;exact⟨v',rfl,q1,q2.mono fun b hb=>by rw [show b=g from hb];rfl⟩
end Go.Proofs.Q
