/- Copy within and between rows, as a step of a region that draws; what two such copies leave. -/
import Derived.Test.YtlldghknenbccaaGreatDoorRPreds
import Derived.Lib.Overlaps
import Derived.Lib.AppendZerosOnto
set_option linter.unusedSimpArgs false
set_option linter.unusedVariables false
set_option maxRecDepth 100000
set_option maxHeartbeats 4000000
namespace Go.Proofs.Q
open Go.RowKit Tryz
theorem aQW {α:Type} (cs K D:List α) (i n:Nat) (hK:K.length=n) (h:i+n+D.length≤cs.length):(splice (splice cs (i+n) D) i K).take (i+n+D.length)=cs.take i++(K++D):=by
 have h1:(cs.take (i+n)).length=i+n:=xV;have e1:(splice cs (i+n) D).take i=cs.take i:=by
  unfold splice;rw [List.take_append_of_le_length zZ,List.take_take,Nat.min_eq_left zZ]
 have e2:(splice cs (i+n) D).drop (i+n)=D++cs.drop (i+n+D.length):=by
  unfold splice;exact List.drop_left' h1
 have h3:(cs.take i).length=i:=xV;rw [splice,e1,hK,e2,←mZ2 K,←mZ2 (cs.take i)];refine List.take_left' ?_;simp only [aZ1];omega
theorem aPX {α:Type} (cs K D:List α) (i n:Nat) (hK:K.length=n) (h:i+n+D.length≤cs.length):(splice (splice cs i K) (i+n) D).take (i+n+D.length)=cs.take i++(K++D):=by
 have h3:(cs.take i).length=i:=xV;have e1:(splice cs i K).take (i+n)=cs.take i++K:=by
  unfold splice;rw [←mZ2];exact List.take_left' (by rw [aZ1,hK];omega)
 rw [splice,e1,←mZ2,←mZ2];refine List.take_left' ?_;simp only [aZ1];omega
theorem FV {α:Type} (L:List α) (off:Nat) (cs:List α) (h:off+cs.length≤L.length):(splice L off cs).length=L.length:=by simp [splice];omega
theorem YZ {M:Nat→Prop} {P:Program} {ops:Array Oper} {o:Oper} {a:Act} {w:World} {K:Act→World→Prop} {Q:Exit→Act→World→Prop} {E:Prop} (hgd:o.guard=none) (d s:Operand) (dT sT:TypeId)
  (ho:o.op=.call { callee:=.builtin .copy,args:=#[d,s],argTypes:=#[dT,sT] }) (elem:TypeId) (hu:P.underlying dT=some (.slice elem)) (hsz:(P.info? elem).map (·.size)=some 1)
  (dp sp:Option Addr) (dLen dCap sLen sCap:Nat) (hd:a.eval d=.slice dp dLen dCap) (hs:a.eval s=.slice sp sLen sCap)
  (g off:Nat) (cur:List Value) (t:TypeId) (hg:aF w g t cur) (cs:List Value) (hn:cs.length=Nat.min sLen dLen)
  (hpd:0<cs.length→dp=some ⟨g,off,none⟩) (hps:mE M w sp cs)
  (hfit:off+cs.length≤cur.length) (h1:∀v∈cs,v.oneCell'=true)
  (h:∀w',aF w' g t (splice cur off cs)→aA (One g) w w'→K (a.put o.dst (goInt cs.length)) w') :
  if Region.wanted o (yielded ops a.tmps)=true then Oper.wp P o a w K Q else E:=by
 have hw:Region.wanted o (yielded ops a.tmps)=true:=by simp [Region.wanted,hgd]
 rw [if_pos hw];by_cases h0:cs.length=0
 ·obtain rfl:cs=[]:=fZ1 h0;have hrun:=run_copy_none (P:=P) w dT sT o.type elem dp sp dLen dCap sLen sCap hu hsz (by simpa using hn.symm);unfold Oper.wp;simp [execOp,ho,resolve,invoke,builtin,hd,hs,hrun,Result.andThen];exact h w (by simpa [splice] using hg) (aA.refl _ _)
 ·obtain ⟨b,so,rfl,hb,_,hsrc⟩:=hps zZ;obtain rfl:=hpd zZ;have hrun:=run_copy_row (P:=P) w dT sT o.type elem g off dLen dCap ⟨b,so,none⟩ sLen sCap cur.toArray t cs hu hsz hg.out hn (fun j v hj=>by rw [Addr.add_lit];exact hsrc j v hj) (by simpa using hfit) h1;unfold Oper.wp;simp [execOp,ho,resolve,invoke,builtin,hd,hs,hrun,Result.andThen];exact h _ (show _=_ by simpa [splice] using setRow_heap w g _ _ t _ hg.out) ⟨rfl,rfl,rfl,by simp [World.setRow],fun k _ hk=>setRow_other w g k _ hk⟩
theorem cE.src {M:Nat→Prop} {w:World} {a:Option Addr} {n c:Nat} {l:List Int} (h:cE M w a n c l):mE M w a (l.map fJ):=by
 intro hp;have hl:l.length=n:=eU.len h;rw [hZ1] at hp;obtain ⟨f,hs,hr⟩:=h.ex;obtain ⟨b,off,rfl,hb,hn,hc⟩:=hs.at zZ;refine ⟨b,off,rfl,hb,hn,fun j v hj=>?_⟩;have hj':j<n:=by have:=(List.getElem?_eq_some_iff.1 hj).1;rw [hZ1] at this;omega
 obtain ⟨b2,off2,e,hc2⟩:=bA h (i:=j) hj';cases e;rw [hc2];rw [List.getElem?_map,jZ2 zZ] at hj;simpa [fJ,List.getD,show j<l.length by omega] using hj
section
variable {a:Option Addr} {M:Nat→Prop} {w:World} {B g:Nat} {zs ks:List Int} {cs:List Value} {v x:Value}
theorem OH:(prog.info? 3).map (·.size)=some 1:=zX
theorem JM (l:List Int):∀v∈l.map fJ,v.oneCell'=true:=fun v hv=>by
 obtain ⟨z,_,rfl⟩:=iZ2.1 hv;rfl
theorem aNX {i n c:Nat} (h:aL w B 3 1 v (aO zs)) (hk:cE M w a n c ks) (hi:zs.length=i+1) (h2:2≤n) (hl:(zs.length+n)*8≤140737488355328) (hB:B≤w.heap.size) :
  Calls prog 193 #[v,.int .i64 i,.int .i64 ((i:Int)+1),.slice a n c] w fun e w'=>∃v',e=.returned v'∧aL w' B 3 1 v' (aO (zs.take i++ks))∧aA (Own v) w w':=by
 obtain ⟨i1,hi1⟩:=info_parts BI;have HI:=jJ hi1;obtain ⟨av,cv,rfl⟩:=h.isSlice;have hnl:(aO zs).length=i+1:=by rw [aJ];exact hi
 rw [hnl] at h⊢;have hkl:ks.length=n:=eU.len hk;obtain ⟨g,cs,rfl,hb,hr,hcl,hnc,hcm,htake⟩:=h.raw hi zZ;have hcut:=h.cut hnl (k:=i) zZ;rw [show (aO zs).take i=aO (zs.take i) by unfold aO;rw [List.map_take]] at hcut;have hcl':(aO (zs.take i)).length=i:=by rw [aJ,iZ1];omega
 obtain ⟨b2,off2,ea,_⟩:=bA hk (i:=0) zZ;subst ea;have hsrc:=hk.src (by rw [hZ1];omega);obtain ⟨b3,off3,e3,hb3,-,hcs3⟩:=hsrc;cases e3;have hcmm:cv≤9223372036854775807:=wU;have HA:=jJ (aI5 hcut hcl' hcs3 hkl hl);clear hi1 h hcut hcl' hcs3 hkl hk hr hcl hcm htake hnl;have hni:(0:Int)≤(i:Int):=zZ;have hz1:¬((i:Int)=(i:Int)+1):=zZ;have hb1:(0:Int)≤(i:Int)+1:=zZ;have hb2:(i:Int)≤(i:Int)+1:=zZ;have hb3:(i:Int)+1≤(cv:Int):=zZ;have hb4:(i:Int)≤(cv:Int):=zZ;have htn:((i:Int)+1).toNat=i+1:=zZ;have hci:¬(cv=i):=zZ;go_enter func193,ntmps193
 go_wp2_with (at_builtin;go_loud (refine bY _ rfl (.tmp 32) (.tmp 33) 56 rfl B 3 i1 (.int .i64 0) 1 8 underlying56 HI.o.1 HI.o.2.1 HI.o.2.2.1 HI.o.2.2.2 rfl zY (.slice (some ⟨g,0,none⟩) i cv) _ rfl HA.o.1 ⟨b2,off2,none⟩ c n (aO ks) rfl (by rw [aJ];exact HA.o.2.2.2.1) tR (fun j u hj=>by rw [Addr.add_lit];rw [bU] at hj;exact HA.o.2.2.1 j u hj) (fun u hu=>by rw [bU] at hu;exact JM _ u hu) (by rw [HA.o.2.1];have:=HA.o.r4;omega) (by rw [HA.o.2.1];have:=HA.o.r4;omega) hB ?_);intro v' w2 ho hk2 hf2 _;obtain ⟨a7,c7,rfl⟩:=ho.isSlice;have e7:(aO (zs.take i)++aO ks).length=i+n:=(by rw [aZ1,HA.o.2.1,aJ,HA.o.2.2.2.1]);rw [e7] at ho⊢;have HO:=jJ (aI ho hk2);clear ho hk2 hf2 e7)
 go_ret
 exact⟨_,rfl,by have:=HO.o.1;rwa [show aO (zs.take i)++aO ks=aO (zs.take i++ks) by unfold aO;rw [cZ2]] at this,HO.o.2.mono fun b hb=>hb⟩
theorem aNO {b2 off2:Nat} (hr:aF w g 3 cs) (h0:0<cs.length) (hbg:b2≠g) (hc0:w.cell? ⟨b2,off2,none⟩=some x) :
  ∀k la lb lc cb,(callFunc 210 #[.slice (some ⟨g,k,none⟩) la lb,.slice (some ⟨b2,off2,none⟩) lc cb]).run prog w=.ok (.value (.bool false)) w:=fun k la lb lc cb=>by
 obtain ⟨tA,kA,hsA,-,-⟩:=World.shape?_of_cell? ((hr.cell 0).trans (jZ2 h0));obtain ⟨tB,kB,hsB,hkB,-⟩:=World.shape?_of_cell? hc0;have hkB':off2<kB:=hkB;rw [run_callFunc_extern func210 zX zX zX (e:=Extern.SlicesOverlaps.overlaps #[56,56] #[4]) zX,
  Lib.run_overlaps_apart w 56 4 3 underlying56 1 sizeOf3 ⟨g,k,none⟩ ⟨b2,off2,none⟩ la lb lc cb hbg.symm tA tB kA kB hsA hsB zZ (hr.frozen _) (hr.frozen _)]
 rfl
theorem aMH {cv:Nat} {i r n c:Nat} (h:aL w B 3 1 (.slice (some ⟨g,0,none⟩) (i+1+r) cv) (aO zs)) (hk:cE M w a n c ks) (hM:M g) (hi:zs.length=i+1+r) (h0:0<r) (h2:2≤n) (hroom:i+n+r≤cv) :
  Calls prog 193 #[.slice (some ⟨g,0,none⟩) (i+1+r) cv,.int .i64 i,.int .i64 ((i:Int)+1),.slice a n c] w fun e w'=>∃v',e=.returned v'∧aL w' B 3 1 v' (aO (zs.take i++(ks++zs.drop (i+1))))∧aA (One g) w w':=by
 have hkl:ks.length=n:=eU.len hk;obtain ⟨g',cs,eg,hb,hr,hcl,hnc,hcm,htake⟩:=h.raw hi zZ;cases eg;obtain ⟨b2,off2,ea,hc0⟩:=bA hk (i:=0) zZ;subst ea;rw [Nat.add_zero] at hc0;have hsrc:=hk.src;obtain ⟨b3,off3,e3,hb3,hnM,hcs3⟩:=hsrc (by rw [hZ1];omega);cases e3;have hbg:b2≠g:=fun e=>hnM (by rw [e];exact hM);have hcmm:cv≤9223372036854775807:=wU;have hdl:((zs.drop (i+1)).map fJ).length=r:=by rw [hZ1,gZ3];omega
 have hdcell:∀(j:Nat) (v:Value),((zs.drop (i+1)).map fJ)[j]?=some v→w.cell? ⟨g,i+1+j,none⟩=some v:=fun j v hj=>xZ;have hsd:mE Nil w (some ⟨g,i+1,none⟩) ((zs.drop (i+1)).map fJ):=fun _=>⟨g,i+1,rfl,hr.lt,id,hdcell⟩;have hsk:mE M w (some ⟨b2,off2,none⟩) (ks.map fJ):=hsrc;have HA:=jJ (YG hr hsd hsk hdl hkl hcl hcm htake hb hM h0);have hb2w:b2<w.heap.size:=hb3;have hcl0:0<cs.length:=zZ;have HC0:=jJ hc0;clear h hk hsrc hcs3 hr hsd hsk hdl hkl hcl hcm htake hb hdcell hc0 hb3;have hz1:¬((i:Int)=(i:Int)+1):=zZ;have hb1:(0:Int)≤(i:Int)+1:=zZ;have hb2:(i:Int)≤(i:Int)+1:=zZ;have hb3:(i:Int)+1≤(cv:Int):=zZ;have hb4:(i:Int)≤(cv:Int):=zZ;have htn:((i:Int)+1).toNat=i+1:=zZ;have hci:¬(cv=i):=zZ;have hci1:¬(cv=i+1):=zZ;have hci2:¬(cv=i+n):=zZ;have hb5:(i:Int)+1≤(i:Int)+1+(r:Int):=zZ;have hb6:(i:Int)≤(i:Int)+1+(r:Int):=zZ;have hb7:¬((i:Int)+1=(i:Int)+1+(r:Int)):=zZ;have hb8:¬((i:Int)+(n:Int)+(r:Int) > (cv:Int)):=zZ;go_enter func193,ntmps193
 go_wp2_with fail
 go_quiet (fail)
 have kd:aA Nil w (w.drewN nq):=aA.drewN (aA.refl _ _) _;generalize w.drewN nq=wd at *
 have hov:=aNO (HA.o.1.keep kd id) hcl0 hbg (kd.eY hb2w id HC0.o);have HD:=jJ kd;clear kd;go_wp2_with (simp only [hov])
 have hw1:IntKind.i64.wrap ((i:Int)+(n:Int))=(i:Int)+(n:Int):=by rw [IntKind.wrap_i64];omega
 have hbn:(0:Int)≤(i:Int)+(n:Int):=zZ;have hb9:(i:Int)≤(i:Int)+(n:Int)+(r:Int):=zZ;have hbn2:(i:Int)+(n:Int)≤(i:Int)+(n:Int)+(r:Int):=zZ;have htn2:((i:Int)+(n:Int)).toNat=i+n:=zZ;go_region_law (go_loud (refine YZ (M:=Nil) rfl _ _ 56 56 rfl 3 underlying56 OH (some ⟨g,i+n,none⟩) (some ⟨g,i+1,none⟩) r (cv-(i+n)) r (cv-(i+1)) tZ tZ g (i+n) cs 3 (HA.o.1.keep HD.o.drew id) ((zs.drop (i+1)).map fJ) (by rw [HA.o.2.2.2.1];exact (Nat.min_self r).symm) (fun _=>rfl) (HA.o.2.1.eO HD.o.drew) uF (JM _) ?_);intro w3 hr3 hk3;have H3:=jJ (aI hr3 hk3);clear hr3 hk3)
 go_upto_region 23 with (fail)
 go_wp2_with (with_reducible refine YW (M:=M) rfl (.tmp 133) (.tmp 134) 56 56 rfl 3 underlying56 OH (some ⟨g,i,none⟩) (some ⟨b2,off2,none⟩) (i+n+r-i) (cv-i) n c rfl rfl g i _ 3 H3.o.1 (ks.map fJ) ?qn ?qd ?qs ?qf ?q1 ?_)
 case qn=>rw [hZ1,HA.o.r4.1];omega
 try (case qd=>exact fun _=>rfl)
 case qs=>exact HA.o.2.2.1.keep (HD.o.drew.of_nil.trans H3.o.2) fun b _ hb=>by rw [show b=g from hb];exact hM
 case qf=>rw [hZ1,HA.o.r4.1,FV _ _ _ uF];have:=HA.o.r5.1;omega
 case q1=>exact JM _
 intro w4 hr4 hk4;have H4:=jJ (aI hr4 hk4);clear hr4 hk4;go_wp2_with fail
 go_ret
 have hl1:i+n+((zs.drop (i+1)).map fJ).length≤cs.length:=uF;have hsp:=aQW cs (ks.map fJ) ((zs.drop (i+1)).map fJ) i n (by rw [hZ1];exact HA.o.r4.1) hl1;rw [HA.o.2.2.2.1] at hsp;have hti:cs.take i=(zs.take i).map fJ:=by
  have h1:(cs.take (i+1+r)).take i=(zs.map fJ).take i:=by rw [HA.o.r7.1]
  rwa [List.take_take,Nat.min_eq_left zZ,←List.map_take] at h1
 have hr4:=H4.o.1;try rw [←List.map_drop] at hr4
 refine ⟨_,rfl,aL.ofRaw HA.o.r8.1 hr4 ?_ ?_ hroom HA.o.r6.1 ?_,(HD.o.drew.of_nil.trans H3.o.2).trans H4.o.2⟩
 ·rw [FV,FV _ _ _ hl1]
  ·exact HA.o.r5.1
  ·rw [FV _ _ _ hl1,hZ1,HA.o.r4.1];have:=HA.o.r5.1;omega
 ·exact sU
 ·rw [hsp,hti,cZ2,cZ2]
end
theorem aKY {w:World} {g i cv k:Nat} {cs:List Value} (hr:aF w g 3 cs) (hi:i≤cs.length) (hic:i≤cv) (hroom:cv<i+k) (h0:0<k) (hl:(i+k)*8≤140737488355328) :
  ∃G w1 ys,(∀ty (x:Int),x=(k:Int)→(Builtin.append_ #[56,3] ty #[.slice (some ⟨g,0,none⟩) i cv,.int .i64 x]).run prog w=.ok (.slice (some ⟨w.heap.size,0,none⟩) (i+k) G) w1)∧aF w1 w.heap.size 3 (cs.take i++ys)∧i+k≤G∧G≤maxLen∧(cs.take i++ys).length=G∧aA Nil w w1:=by
 obtain ⟨i1,hi1,hz,hs,hb⟩:=info_parts BI;have hold:(Builtin.firstCells i1.size i (.slice (some ⟨g,0,none⟩) i cv)).run prog w.drew=.ok (cs.take i).toArray w.drew:=by
  rw [hs];exact run_firstCells_some w.drew 1 i ⟨g,0,none⟩ i cv (cs.take i) xV (fun j v hj=>by
   rw [Addr.add_lit,Nat.zero_add];rw [List.getElem?_take] at hj;split at hj
   ·exact (hr.cell j).trans hj
   ·cases hj)
 have hg:=grownCap_ge w (i+k) cv 3;have hm:=grownCap_le_maxLen w (i+k) cv 3 zC;refine ⟨grownCap w (i+k) cv 3,w.drew.alloc (.cells ((cs.take i).toArray++Builtin.zeroCells (Value.int .i64 0).cells k++Builtin.zeroCells (Value.int .i64 0).cells (grownCap w (i+k) cv 3-(i+k))) 3),(Builtin.zeroCells (Value.int .i64 0).cells k++Builtin.zeroCells (Value.int .i64 0).cells (grownCap w (i+k) cv 3-(i+k))).toList,fun ty x hx=>?_,?_,hg,hm,?_,?_⟩
 ·rw [hx];exact Lib.run_append_grow_zeros w 56 3 ty 3 i1 _ .i64 .i64 underlying56 underlying3 hi1 hz (some ⟨g,0,none⟩) i cv (cs.take i) hold k h0 zZ hroom zZ (by rw [hb];omega) (by rw [hb];exact growslice_fits zZ zZ)
 ·have e:((cs.take i).toArray++Builtin.zeroCells (Value.int .i64 0).cells k++Builtin.zeroCells (Value.int .i64 0).cells (grownCap w (i+k) cv 3-(i+k)))=(cs.take i++(Builtin.zeroCells (Value.int .i64 0).cells k++Builtin.zeroCells (Value.int .i64 0).cells (grownCap w (i+k) cv 3-(i+k))).toList).toArray:=by
   apply Array.toList_inj.1;simp
  rw [e];exact aF.alloc
 ·simp [Builtin.zeroCells,Value.cells];omega
 ·exact aA.alloc (aA.drew (aA.refl _ _)) _
theorem aMI {B:Nat} {M:Nat→Prop} {w:World} {g cv:Nat} {zs ks:List Int} {i r n c:Nat} {a:Option Addr} (h:aL w B 3 1 (.slice (some ⟨g,0,none⟩) (i+1+r) cv) (aO zs)) (hk:cE M w a n c ks) (hi:zs.length=i+1+r) (h0:0<r) (h2:2≤n) (hroom:cv<i+n+r) (hl:(i+n+r)*8≤140737488355328) (hB:B≤w.heap.size) :
  Calls prog 193 #[.slice (some ⟨g,0,none⟩) (i+1+r) cv,.int .i64 i,.int .i64 ((i:Int)+1),.slice a n c] w fun e w'=>∃v',e=.returned v'∧aL w' B 3 1 v' (aO (zs.take i++(ks++zs.drop (i+1))))∧aA Nil w w':=by
 have hkl:ks.length=n:=eU.len hk;obtain ⟨g',cs,eg,hb,hr,hcl,hnc,hcm,htake⟩:=h.raw hi zZ;cases eg;obtain ⟨b2,off2,ea,hc0⟩:=bA hk (i:=0) zZ;subst ea;have hsrc:=hk.src;obtain ⟨b3,off3,e3,hb3,hnM,hcs3⟩:=hsrc (by rw [hZ1];omega);cases e3;have hdl:((zs.drop (i+1)).map fJ).length=r:=by rw [hZ1,gZ3];omega
 have hdcell:∀(j:Nat) (v:Value),((zs.drop (i+1)).map fJ)[j]?=some v→w.cell? ⟨g,i+1+j,none⟩=some v:=fun j v hj=>xZ;have hsd:mE Nil w (some ⟨g,i+1,none⟩) ((zs.drop (i+1)).map fJ):=fun _=>⟨g,i+1,rfl,hr.lt,id,hdcell⟩;have hsk:mE Nil w (some ⟨b2,off2,none⟩) (ks.map fJ):=fun hp=>by
  obtain ⟨b,off,e,q1,_,q2⟩:=hsrc hp;exact⟨b,off,e,q1,id,q2⟩
 have hcvm:cv≤9223372036854775807:=wU;have HA:=jJ (aI9 hr hsd hsk hdl hkl hcl hcm htake hb);have hics:i≤cs.length:=zZ;clear h hk hsrc hcs3 hr hsd hsk hdl hkl hcl hcm htake hb hdcell hc0 hb3;have hz1:¬((i:Int)=(i:Int)+1):=zZ;have hb1:(0:Int)≤(i:Int)+1:=zZ;have hb2:(i:Int)≤(i:Int)+1:=zZ;have hb3:(i:Int)+1≤(cv:Int):=zZ;have hb4:(i:Int)≤(cv:Int):=zZ;have htn:((i:Int)+1).toNat=i+1:=zZ;have hci:¬(cv=i):=zZ;have hci1:¬(cv=i+1):=zZ;have hb5:(i:Int)+1≤(i:Int)+1+(r:Int):=zZ;have hb6:(i:Int)≤(i:Int)+1+(r:Int):=zZ;have hb7:¬((i:Int)+1=(i:Int)+1+(r:Int)):=zZ;have hb8:(i:Int)+(n:Int)+(r:Int) > (cv:Int):=zZ;go_enter func193,ntmps193
 go_wp2_with fail
 go_quiet (fail)
 have kd:aA Nil w (w.drewN nq):=aA.drewN (aA.refl _ _) _;have kdsz:w.heap.size≤(w.drewN nq).heap.size:=kd.size;generalize w.drewN nq=wd at *
 obtain ⟨G,w1,ys,q1,q2,q3,q4,q5,q6⟩:=aKY (cv:=cv) (k:=n+r) (HA.o.1.keep kd id) hics zZ zZ zZ zZ;have HD:=jJ (aI5 q1 q2 q4 q5 (kd.trans q6));clear kd q1 q2 q4 q5 q6;have hBN:B≤wd.heap.size:=bZ1 hB kdsz;generalize hNN:wd.heap.size=N at *
 have HNB:=jJ hBN;have hNw:w.heap.size≤N:=kdsz;clear hNN;have hGm:G≤9223372036854775807:=by have:=HD.o.2.2.1;unfold maxLen at this;omega
 go_upto_region 11 with (fail)
 go_upto_region 12 with (at_builtin;refine Lib.wpList_append_run _ rfl _ _ _ _ rfl _ _ rfl rfl _ _ (HD.o.1 _ _ zZ) ?_)
 have hc1:¬(G=i):=zZ;have hb9:(i:Int)≤(i:Int)+((n:Int)+(r:Int)):=zZ;go_wp2_with (with_reducible refine YW (M:=Nil) rfl (.tmp 70) (.tmp 71) 56 56 rfl 3 underlying56 OH (some ⟨N,i,none⟩) (some ⟨b2,off2,none⟩) (n+r) (G-i) n c rfl rfl N i _ 3 HD.o.2.1 (ks.map fJ) ?qn ?qd ?qs ?qf ?q1 ?_)
 case qn=>rw [hZ1,HA.o.r4.1];omega
 try (case qd=>exact fun _=>rfl)
 case qs=>exact HA.o.2.2.1.eO HD.o.r4
 case qf=>rw [hZ1,HA.o.r4.1,HD.o.2.2.2.1];omega
 case q1=>exact JM _
 intro w3 hr3 hk3;have H3:=jJ (aI hr3 (HD.o.r4.own hNw hk3));clear hr3 hk3;have hw1:IntKind.i64.wrap ((i:Int)+(n:Int))=(i:Int)+(n:Int):=by rw [IntKind.wrap_i64];omega
 have hbn:(0:Int)≤(i:Int)+(n:Int):=zZ;have hbn2:(i:Int)+(n:Int)≤(i:Int)+((n:Int)+(r:Int)):=zZ;have htn2:((i:Int)+(n:Int)).toNat=i+n:=zZ;have hc2:¬(G=i+n):=zZ;have hl0:i+(ks.map fJ).length≤(cs.take i++ys).length:=by rw [hZ1,HA.o.r4.1,HD.o.2.2.2.1];omega
 have hl1:(splice (cs.take i++ys) i (ks.map fJ)).length=G:=by rw [FV _ _ _ hl0];exact HD.o.2.2.2.1
 have HL:=jJ (aI hl0 hl1);clear hl0 hl1;go_wp2_with fail
 go_region_law (go_loud (refine YZ (M:=Nil) rfl _ _ 56 56 rfl 3 underlying56 OH (some ⟨N,i+n,none⟩) (some ⟨g,i+1,none⟩) (i+(n+r)-(i+n)) (G-(i+n)) r (cv-(i+1)) tZ tZ N (i+n) _ 3 (H3.o.1.keep (aA.drew (aA.refl Nil _)) id) ((zs.drop (i+1)).map fJ) (by rw [HA.o.2.2.2.1];simp only [Nat.min_def];split<;>omega) (fun _=>rfl) (HA.o.2.1.eO H3.o.2.drew) (by rw [HA.o.2.2.2.1,HL.o.2];omega) (JM _) ?_);intro w4 hr4 hk4;have H4:=jJ (aI hr4 hk4);clear hr4 hk4)
 go_wp2_with fail
 go_ret
 have hsp:=aPX (cs.take i++ys) (ks.map fJ) ((zs.drop (i+1)).map fJ) i n (by rw [hZ1];exact HA.o.r4.1) (by rw [HA.o.2.2.2.1,HD.o.2.2.2.1];omega);rw [HA.o.2.2.2.1] at hsp;have hti:(cs.take i++ys).take i=(zs.take i).map fJ:=by
  rw [List.take_left' xV];have h1:(cs.take (i+1+r)).take i=(zs.map fJ).take i:=by rw [HA.o.r7.1]
  rwa [List.take_take,Nat.min_eq_left zZ,←List.map_take] at h1
 have hr4:=H4.o.1;try rw [←List.map_drop] at hr4
 refine ⟨_,rfl,aL.ofRaw HNB.o hr4 ?_ ?_ zZ HD.o.2.2.1 ?_,(H3.o.2.drew).own hNw H4.o.2⟩
 ·rw [FV,HL.o.2]
  ·exact bZ2 _
  ·rw [HL.o.2,HA.o.2.2.2.1];omega
 ·exact sU
 ·rw [show i+(n+r)=i+n+r by omega,hsp,hti,cZ2,cZ2]
theorem aNS {B:Nat} {M:Nat→Prop} {w:World} {v:Value} {zs ks:List Int} {i n c:Nat} {a:Option Addr} (h:aL w B 3 1 v (aO zs)) (hk:cE M w a n c ks) (hM:∀b,v.ownBlock=some b→M b) (hi:i<zs.length) (h2:2≤n) (hl:(zs.length+n)*8≤140737488355328) (hB:B≤w.heap.size) :
  Calls prog 193 #[v,.int .i64 i,.int .i64 ((i:Int)+1),.slice a n c] w fun e w'=>∃v',e=.returned v'∧aL w' B 3 1 v' (aO (zs.take i++(ks++zs.drop (i+1))))∧aA (Own v) w w':=by
 by_cases he:zs.length=i+1
 ·rw [List.drop_of_length_le zZ,fZ2];exact aNX h hk he h2 hl hB
 ·obtain ⟨r,hr⟩:∃r,zs.length=i+1+r:=⟨zs.length-(i+1),zZ⟩;obtain ⟨av,cv,rfl⟩:=h.isSlice;rw [aJ,hr] at h hM⊢;obtain ⟨g,cs,rfl,-,-,-,-,-,-⟩:=h.raw hr zZ;rcases Nat.lt_or_ge cv (i+n+r) with hc|hc
  ·refine (aMI h hk hr zZ h2 hc zZ hB).mono ?_;rintro e w' ⟨v',rfl,q1,q2⟩;exact⟨v',rfl,q1,q2.of_nil⟩
  ·refine (aMH h hk (hM g rfl) hr zZ h2 hc).mono ?_;rintro e w' ⟨v',rfl,q1,q2⟩;exact⟨v',rfl,q1,q2.mono fun b hb=>yA⟩
end Go.Proofs.Q
