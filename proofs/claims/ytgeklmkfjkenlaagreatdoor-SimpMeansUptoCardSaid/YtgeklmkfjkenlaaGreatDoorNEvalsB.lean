/- Where a value of a variable stands in a list of values; what term.Eval's closure tells. -/
import Derived.Test.YtgeklmkfjkenlaaGreatDoorNPreds
import Derived.Test.YtgeklmkfjkenlaaGreatDoorNReadsB
set_option linter.unusedSimpArgs false
set_option linter.unusedVariables false
set_option maxRecDepth 100000
set_option maxHeartbeats 4000000
namespace Go.Proofs.Q
open Go.RowKit Tryz
structure PredV (P:Program) (w:World) (fn:Nat) (cap:Array Value) (p:Int→Bool):Prop where
 enters:∀args w,(callFunc fn args).run P w=.ok (.enter fn args) w
 call:∀W v g a n c,aA Nil w W→Calls P fn (#[.agg #[.int .i64 v,.bool g,.slice a n c]]++cap) W fun e w'=>e=.returned (.bool (p v))∧aA Nil W w'
def valueOf (vals:aM) (v:Int):Option Int:=(vals.find? fun p=>p.1==v).map (·.2)
theorem FirstP.value {vals:aM} {v r:Int} (h:FirstP (fun x=>x==v) (vals.map (·.1)) r):(r=-1∧valueOf vals v=none)∨∃i:Nat,r=i∧i<vals.length∧valueOf vals v=some (pth vals i).2:=by
 unfold valueOf;rcases h with ⟨rfl,h⟩|⟨i,rfl,h1,h2,h3⟩
 ·refine .inl ⟨rfl,?_⟩;have:vals.find? (fun p=>p.1==v)=none:=List.find?_eq_none.2 fun p hp=>by
   have:=h p.1 (iZ2.2 ⟨p,hp,rfl⟩);simpa using this
  rw [this];rfl
 ·rw [hZ1] at h1;refine .inr ⟨i,rfl,h1,?_⟩;have e:∀j,j<vals.length→(vals.map (·.1)).getD j 0=(pth vals j).1:=fun j hj=>by simp [pth,List.getD,hj]
  have hf:vals.find? (fun p=>p.1==v)=some (pth vals i):=by
   rw [List.find?_eq_some_iff_getElem];refine ⟨by rw [←e i h1];exact h2,i,h1,(pth_lt h1).symm,fun j hj=>?_⟩;have h4:=h3 j hj;rw [e j (by omega),pth_lt (by omega)] at h4;simpa using h4
  rw [hf];rfl
theorem valIdx_any {M M2:Nat→Prop} {w:World} {a:Option Addr} {n c fn:Nat} {cap:Array Value} {p:Int→Bool} {vals:aM} (h:bU M M2 w a n c vals) (hp:PredV prog w fn cap p) (hn:n≤1000000000) :
  Calls prog 147 #[.slice a n c,.func (.func fn) #[] cap] w fun e w'=>(∃r:Int,e=.returned (.int .i64 r)∧FirstP p (vals.map (·.1)) r)∧aA Nil w w':=by
 have hln:vals.length=n:=SlOf.len h;have heg:=hp.enters;have HA:=jJ (aI4 h hp hln hn);clear h hp hln;go_enter func147,ntmps147
 go_wp2_with fail
 go_loopw [8] (fun i wr=>∃k:Nat,i=.int .i64 k∧k≤n∧(∀j,j<k→p (pth vals j).1=false)∧aA Nil w wr) (fun i _=>n-(intOf i).toNat)
 case atStart=>exact⟨0,rfl,aZ2 _,fun j hj=>by omega,aA.refl _ _⟩
 case round=>
  obtain ⟨k,rfl,hk,hj,hkr⟩:=hrel;by_cases hkn:k<n
  ·obtain ⟨b,off,g,a',n',c',rfl,hb,-,d0,d1,d2,hz,-,x0,x1⟩:=(HA.o.1.keepNil hkr).at hkn;have j0:(0:Int)≤(k:Int):=by omega
   have j1:(k:Int)<(n:Int):=by omega
   have HK:=jJ (aI3 hj hkr hz);clear hj hkr hz;obtain ⟨x,hx⟩:∃x,x=(pth vals k).1:=⟨_,rfl⟩;rw [←hx] at d0 x0 x1;have HX:=jJ hx;clear hx;cases hpx:p x
   ·have HPX:=jJ hpx;clear hpx;go_wp2_with (refine (HA.o.2.1.call _ x g a' n' c' HK.o.2.1).mono ?_;rintro e w1 ⟨rfl,hk1⟩;rw [HPX.o];have H1:=jJ hk1;clear hk1)
    go_roundw
    case rel=>
     refine ⟨k+1,by go_num,hkn,fun j hj=>?_,HK.o.2.1.trans H1.o⟩;rcases Nat.lt_succ_iff_lt_or_eq.1 hj with h|rfl
     ·exact HK.o.1 j h
     ·rw [←HX.o];exact HPX.o
    case measure=>simp [intOf];omega
   ·have HPX:=jJ hpx;clear hpx;go_wp2_with (refine (HA.o.2.1.call _ x g a' n' c' HK.o.2.1).mono ?_;rintro e w1 ⟨rfl,hk1⟩;rw [HPX.o];have H1:=jJ hk1;clear hk1)
    go_ret
    refine ⟨⟨_,rfl,.inr ⟨k,rfl,by rw [hZ1,HA.o.2.2.1];exact hkn,?_,fun j hj=>?_⟩⟩,HK.o.2.1.trans H1.o⟩
    ·rw [show (vals.map (·.1)).getD k 0=(pth vals k).1 by simp [pth,List.getD,show k<vals.length by rw [HA.o.2.2.1];exact hkn],←HX.o];exact HPX.o
    ·rw [show (vals.map (·.1)).getD j 0=(pth vals j).1 by simp [pth,List.getD,show j<vals.length by rw [HA.o.2.2.1];omega]];exact HK.o.1 j hj
  ·have hkn':k=n:=by omega
   subst hkn';have HK:=jJ (aI hj hkr);clear hj hkr;go_wp2_with fail
   go_ret
   refine ⟨⟨_,rfl,.inl ⟨rfl,fun x hx=>?_⟩⟩,HK.o.2⟩;obtain ⟨q,hq,rfl⟩:=iZ2.1 hx;obtain ⟨i,hi,rfl⟩:=hZ3 hq;rw [←pth_lt hi];exact HK.o.1 i (by rw [←HA.o.2.2.1];exact hi)
theorem eval1_pred {w:World} {b:Nat} {u:Int} {v1 v2:Value} (h:aC w b 117 [.int .i64 u,v1,v2]):PredV prog w 148 #[.pointer (some ⟨b,0,none⟩)] (fun x=>x==u):=by
 refine ⟨enters_of func148 (by kernel_rfl) rfl,fun W v g a n c k=>?_⟩;have hr:aC W b 117 [.int .i64 u,v1,v2]:=h.keep k id;have HR:=jJ hr;clear h k hr;show Calls prog 148 #[.agg #[.int .i64 v,.bool g,.slice a n c],.pointer (some ⟨b,0,none⟩)] W _
 go_enter func148,ntmps148
 go_upto_region 1 with (fail)
 obtain ⟨w0,e_1,k0,r0⟩:=bx1 W 47 [.int .i64 v,.bool g,.slice a n c];rw [e_1];clear e_1;have d0:w0.cell? ⟨W.heap.size,0,none⟩=some (.int .i64 v):=r0.cell 0;have d1:w0.cell? ⟨b,0,none⟩=some (.int .i64 u):=(HR.o.keep k0 id).cell 0;have H0:=jJ k0;clear k0 r0;go_wp2_with fail
 go_ret
 exact⟨rfl,H0.o⟩
section
variable {o:Option Int} {s:Int} {a:Option Addr} {w' w:World} {g:Bool} {l:aM}
def evalP (vals:aM):aM→Int→Option Int
 | [],s=>some s
 | p::l,s=>match valueOf vals p.1 with
  | none=>none
  | some x=>evalP vals l (s+p.2*x)
theorem evalP_snoc (vals:aM):∀(l:aM) (p:Int × Int) (s:Int),evalP vals (l++[p]) s=(evalP vals l s).bind fun t=>(valueOf vals p.1).map fun x=>t+p.2*x
 | [],p,s=>by
  simp only [gZ3,evalP,Option.bind_some];cases valueOf vals p.1<;>rfl
 | q::l,p,s=>by
  simp only [fZ3,evalP];cases valueOf vals q.1 with
  | none=>rfl
  | some x=>exact evalP_snoc vals l p _
theorem evalP_none (vals:aM) (h:evalP vals l s=none) (m:aM):evalP vals (l++m) s=none:=by
 induction l generalizing s with
 | nil=>simp [evalP] at h
 | cons q l ih=>
  simp only [fZ3,evalP] at h⊢;cases hv:valueOf vals q.1 with
  | none=>rfl
  | some x=>rw [hv] at h;exact ih h
theorem nlen_addZ {x y:Int} {a b:Nat} (h1:nlen x.natAbs≤a) (h2:nlen y.natAbs≤b):nlen (x+y).natAbs≤max a b+1:=by
 have h3:=nlen_mono (Int.natAbs_add_le x y);have h4:=nlen_add x.natAbs y.natAbs;omega
def EvalRet (o:Option Int) (w:World) (e:Ending) (w':World):Prop:=(∃g a n c,e=.returned (.tuple #[.agg #[.bool g,.slice a n c],.int .i64 (if o.isSome then 0 else 170)])∧ZN Nil w' g a n c (o.getD 0)∧nlen (o.getD 0).natAbs≤2164260864)∧aA Nil w w'
theorem EvalRet.no (h:o=none) (k:aA Nil w w'):EvalRet o w (.returned (.tuple #[.agg #[.bool false,.slice none 0 0],.int .i64 170])) w':=by
 subst h;exact⟨⟨_,_,_,_,rfl,zn_zero Nil w',by simp [nlen0]⟩,k⟩
theorem EvalRet.yes {n c:Nat} (h:o=some s) (hz:ZN Nil w' g a n c s) (hn:nlen s.natAbs≤2164260864) (k:aA Nil w w'):EvalRet o w (.returned (.tuple #[.agg #[.bool g,.slice a n c],.int .i64 0])) w':=by
 subst h;exact⟨⟨_,_,_,_,rfl,hz,hn⟩,k⟩
end
theorem eval_any {M1 M2 M3 M4:Nat→Prop} {w:World} {gk:Bool} {ap ak av:Option Addr} {np cp nk ck nv cv:Nat} {z:Int} {l vals:aM} (h:bU M1 M2 w ap np cp l) (hk:ZAt Nil w gk ak nk ck z) (h1:np≤16777216) (h2:nk≤1073741824) (hw:Wee (bE ⟨l,z⟩)) (hv:bU M3 M4 w av nv cv vals) (hnv:nv≤1000000000) :
  Calls prog 100 #[.agg #[.slice ap np cp,.bool gk,.slice ak nk ck],.slice av nv cv] w fun e w'=>EvalRet (evalP vals (bE ⟨l,z⟩).parts (bE ⟨l,z⟩).k) w e w':=by
 have HA:=jJ (aI7 h hk h1 h2 hw hv hnv);clear h hk hw hv;go_enter func100,ntmps100
 go_upto_region 1 with (fail)
 obtain ⟨w0,e_1,q0,r0,r1⟩:=bx2 w 43 [.slice ap np cp,.bool gk,.slice ak nk ck] 41 [.bool false,.slice none 0 0];rw [e_1];clear e_1;obtain ⟨d0,d1,d2⟩:=r0.three;have H0:=jJ (aI3 q0 r0 r1);clear q0 r0 r1;go_upto_region 2 with (go_at_call 95;refine (tnorm_any (M:=Old w0) (MB.old w0) (HA.o.1.keepNil H0.o.1) (HA.o.2.1.keepNil H0.o.1) HA.o.2.2.1 HA.o.2.2.2.1).mono ?_;rintro e w1 ⟨v,rfl,⟨bp,mp,dp,gb,ab,nb,cb,rfl,ht⟩,hk1⟩;have s0:=H0.o.2.1.keep hk1 id;have s1:=H0.o.2.2.keep hk1 id;obtain ⟨y0,y1,y2⟩:=s0.three;obtain ⟨y3,y4,y5⟩:=s0.marks3)
 have ks1:=aA.triple (w:=w1) (g:=w.heap.size) (.slice bp mp dp) (.bool gb) (.slice ab nb cb);have l0:w.heap.size<w0.heap.size:=H0.o.2.1.lt;have ra:=s0.triple (.slice bp mp dp) (.bool gb) (.slice ab nb cb);have rb:=s1.keep ks1 (show ¬_=_ by omega);have q1:=ht.out (M:=Old w0) (by omega) (fun _ hb=>hb) ks1;have kq:aA Nil w _:=(H0.o.1.trans hk1).own (bZ2 _) ks1;have l2:=bZ1 hk1.size ks1.size;have l1:w.heap.size+1<w0.heap.size:=H0.o.2.2.lt;clear y0 y1 y2 y3 y4 y5 ht ks1 s0 s1;generalize ((w1.setCell ⟨w.heap.size,0,none⟩ (.slice bp mp dp)).setCell ⟨w.heap.size,1,none⟩ (.bool gb)).setCell ⟨w.heap.size,2,none⟩ (.slice ab nb cb)=w2 at *
 obtain ⟨d0,d1,d2⟩:=ra.three;have H2:=jJ (aI4 ra rb q1 kq);clear ra rb q1 kq;go_upto_region 3 with (fail)
 have r6:=aC.alloc (w:=w2) (E:=41) (xs:=[.bool gb,.slice ab nb cb]);change aC (w2.alloc (.cells #[.bool gb,.slice ab nb cb] 41)) _ _ _ at r6;have k6:aA Nil w2 (w2.alloc (.cells #[.bool gb,.slice ab nb cb] 41)):=kOf;have l6:(w2.alloc (.cells #[.bool gb,.slice ab nb cb] 41)).heap.size=w2.heap.size+1:=by simp
 generalize w2.alloc (.cells #[.bool gb,.slice ab nb cb] 41)=w3 at *
 obtain ⟨b6,hb6⟩:∃b6,b6=w2.heap.size:=⟨_,rfl⟩;rw [←hb6] at r6 l6⊢;obtain ⟨MM,hMM⟩:∃MM:Nat→Prop,MM=fun b=>b=b6∨b<w0.heap.size:=⟨_,rfl⟩;have hMb:∀b,b<b6→MM b→Old w0 b:=fun b hb hm=>by
  rw [hMM] at hm;rcases hm with hm|hm
  ·omega
  ·exact hm
 have hMo:∀b,One b6 b→MM b:=fun b (hb:b=b6)=>by rw [hMM];exact .inl hb
 have hMt:∀b,b=w.heap.size+1→MM b:=fun b hb=>by rw [hMM];exact .inr (by omega)
 have hMs:∀b,MM b→b<b6+1:=fun b hb=>by
  rw [hMM] at hb;rcases hb with hb|hb<;>omega
 obtain ⟨q,hq⟩:∃q,q=(bE ⟨l,z⟩).parts:=⟨_,rfl⟩;obtain ⟨kz,hkz'⟩:∃kz,kz=(bE ⟨l,z⟩).k:=⟨_,rfl⟩;have hwe:=HA.o.r4.1;have hp3:cQ MM MM w3 bp mp dp q:=by
  rw [hq];exact (H2.o.2.2.1.1.move (M:=Nil) (aA.refl Nil w2) (fun _ _ h=>h.elim) (fun b hb hm=>hMb b (by omega) hm) (fun _ _ h=>h.elim) (fun b hb hm=>hMb b (by omega) hm)).keepNil k6
 have hz3:ZN MM w3 gb ab nb cb kz:=by
  rw [hkz'];exact (show ZN MM w2 gb ab nb cb (bE ⟨l,z⟩).k from ⟨H2.o.2.2.1.2.1,H2.o.2.2.1.2.2.turn fun b hb hm=>hMb b (by omega) hm⟩).keepNil k6
 have hqp:∀p∈q,nlen p.2.natAbs≤536870912:=fun p hp=>hwe.parts p (by rw [←hq];exact hp);have hkk:nlen kz.natAbs≤536870912:=by rw [hkz'];exact hwe.k
 have hql:q.length≤16777216:=by rw [hq];exact hwe.few
 have hmp:q.length=mp:=SlOf.len hp3;have kw3:aA Nil w w3:=H2.o.2.2.2.trans k6;have b6w:w.heap.size+1<b6:=by omega
 have hv3:bU M3 M4 w3 av nv cv vals:=HA.o.r5.1.keepNil kw3;have hcapq:=SlOf.cap hp3;have hleq:=SlOf.le hp3;have r4:=H2.o.2.1.keep k6 id;have H3:=jJ (aI8 hp3 hv3 hqp kw3 b6w r4 hq hkz');have HMM:=jJ (aI3 hMo hMt hMs);have H3b:=jJ (aI4 r6 hz3 hkk l6);have d3:=(H2.o.1.keep k6 id).cell 0;change w3.cell? ⟨w.heap.size,0,none⟩=some (.slice bp mp dp) at d3;clear hMM hMb hMo hMt hMs r6 k6 l6 hp3 hz3 hqp hkk kw3 b6w hv3 r4 hwe hq hkz';go_wp2_with fail
 have hmp2:mp≤16777216:=by omega
 go_loopw [17] (fun iv wr=>∃(k:Nat) (gs:Bool) (as1:Option Addr) (ns cs:Nat) (sv:Int),k≤mp∧iv=.int .i64 (k:Int)∧evalP vals (q.take k) kz=some sv∧aC wr b6 41 [.bool gs,.slice as1 ns cs]∧ZN MM wr gs as1 ns cs sv∧nlen sv.natAbs≤2147483648+k∧aA (One b6) w3 wr) (fun iv _=>mp-(intOf iv).toNat)
 case atStart=>exact⟨0,gb,ab,nb,cb,kz,aZ2 _,rfl,rfl,H3b.o.1,H3b.o.2.1,by have:=H3b.o.2.2.1;omega,aA.refl _ _⟩
 case round=>
  obtain ⟨k,gs,as1,ns,cs,sv,hk,rfl,hev,hr6,hzs,hns,hkr⟩:=hrel;have hws:w3.heap.size≤wr.heap.size:=hkr.size;by_cases hlt:k<mp
  ·have hp4:cQ MM MM wr bp mp dp q:=H3.o.1.move hkr (fun b _ h=>HMM.o.1 b h) (fun _ _ h=>h) (fun b _ h=>HMM.o.1 b h) (fun _ _ h=>h);obtain ⟨b,off,g,a',n',c',hae,hb,-,x0,x1,x2,hzz,i1',i2'⟩:=hp4.at hlt;subst hae;have j0:(0:Int)≤(k:Int):=by omega
   have j1:(k:Int)<(mp:Int):=by omega
   have hsn:evalP vals (q.take (k+1)) kz=(evalP vals (q.take k) kz).bind fun t=>(valueOf vals (pth q k).1).map fun x=>t+(pth q k).2*x:=by
    rw [List.take_succ_eq_append_getElem (by omega),←pth_lt (by omega),evalP_snoc]
   have hdr:evalP vals q kz=evalP vals (q.take (k+1)++q.drop (k+1)) kz:=by rw [aZ3]
   have hcn:=H3.o.2.2.1 (pth q k) (by rw [pth_lt (by omega)];exact List.getElem_mem _);rw [hev] at hsn;have HC:=jJ (aI9 hev hr6 hzs hns hkr hsn hdr hcn hzz);clear hev hr6 hzs hns hkr hsn hdr hcn hzz hp4;generalize (pth q k).1=v at *
   generalize (pth q k).2=x at *
   go_upto_region 6 with (fail)
   have r8:=aC.alloc (w:=wr) (E:=117) (xs:=[.int .i64 v,.bool g,.slice a' n' c']);change aC (wr.alloc (.cells #[.int .i64 v,.bool g,.slice a' n' c'] 117)) _ _ _ at r8;have k8:aA Nil wr (wr.alloc (.cells #[.int .i64 v,.bool g,.slice a' n' c'] 117)):=kOf;generalize wr.alloc (.cells #[.int .i64 v,.bool g,.slice a' n' c'] 117)=wb at *
   have hvb:bU M3 M4 wb av nv cv vals:=by
    have k9:=(H3.o.2.2.2.1.own (by have:=H3.o.r4.1;omega) HC.o.r4.1).trans k8;exact HA.o.r5.1.keepNil k9
   have HB:=jJ (aI3 r8 k8 hvb);clear r8 k8 hvb;go_upto_region 7 with (go_at_call 147;refine (valIdx_any HB.o.2.2 (eval1_pred HB.o.1) HA.o.r6).mono ?_;rintro e w5 ⟨⟨r,rfl,hf⟩,hk5⟩;have H5:=jJ (aI hf.value hk5);clear hf hk5)
   rcases H5.o.1 with ⟨rfl,hvn⟩|⟨i,rfl,hi,hvi⟩
   ·have HN:=jJ hvn;clear hvn;have c4:=(((H3.o.r5.1.keep HC.o.r4.1 (show ¬_=_ by have:=H3.o.r4.1;omega)).keep HB.o.2.1 id).keep H5.o.2 id);obtain ⟨y0,y1,y2,y3⟩:=c4.two;have ks:=aA.pair (w:=w5) (g:=w.heap.size+1) (.bool false) (.slice none 0 0);have rp:=c4.pair (u':=.bool false) (v':=.slice none 0 0);have hno:evalP vals q kz=none:=by
     rw [HC.o.r6.1];exact evalP_none vals (by rw [HC.o.r5.1,HN.o];rfl) _
    have kall:aA Nil w _:=(((H3.o.2.2.2.1.own (by have:=H3.o.r4.1;omega) HC.o.r4.1).trans (HB.o.2.1.trans H5.o.2))).own (Nat.le_succ _) ks;have HR:=jJ (aI3 hno kall rp);clear ks rp hno kall;go_wp2_with fail
    obtain ⟨t0,t1,-,-⟩:=HR.o.2.2.two;exact bodyPost_ret (v:=.tuple #[.agg #[.bool false,.slice none 0 0],.int .i64 170]) (by simp [results,results100,go_sem,t0,t1]) rfl (by rw [←H3.o.r6.1,←H3.o.r7];exact EvalRet.no HR.o.1 HR.o.2.1)
   ·have i0:¬(i:Int)<0:=by omega
    have hv5:bU M3 M4 w5 av nv cv vals:=HB.o.2.2.keepNil H5.o.2;have hiv:i<nv:=by have:=SlOf.len hv5;omega
    have hcv:=SlOf.cap hv5;have hlv:=SlOf.le hv5;obtain ⟨b9,off9,gy,ay,ny,cy,rfl,hb9,-,-,z1,z2,hzy,hny,-,-⟩:=hv5.at hiv;rw [show (pth vals i).2=(pth vals i).2 from rfl] at hzy;obtain ⟨y,hy⟩:∃y,y=(pth vals i).2:=⟨_,rfl⟩;rw [←hy] at hzy hvi;have i2:(i:Int)<(nv:Int):=by omega
    have k35:=HB.o.2.1.trans H5.o.2;have row6:=HC.o.2.1.keep k35 id;have row8:=HB.o.1.keep H5.o.2 id;have hxz:=HC.o.r8;have hsz:=HC.o.2.2.1;have hx:=hxz.zat (by have:=HC.o.r7.1;omega);have hs:=hsz.zat (by have:=HC.o.2.2.2.1;omega);have hxl:=hxz.len;have hsl:=hsz.len;have hyn:=hzy.nlen_le;have HV:=jJ (aI12 hvi row6 row8 (hx.keepNil k35) (hs.keepNil k35) (aI3 hb9 z1 z2) hzy.toNil hny hxl hsl hyn k35);clear hvi row6 row8 hx hs hb9 z1 z2 hzy hny hxl hsl hyn k35 hv5 hxz hsz hy hi;go_upto_region 9 with (fail)
    subst hb6;refine aX 11 [10] [27,28,29,30,31,32,33,34,35,36,1046] [27,28,29,30,31,32,33,34,35,36] [Un (LitV ?v2_0),Un (LitV ?v2_1),Un (LitV ?v2_2),Un (LitV ?v2_3),Un (LitV ?v2_4),Un (LitV ?v2_5),Un (LitV ?v2_6),Un (LitV ?v2_7),Un (ZV Nil (x*y)),Un (ZV MM (sv+x*y)),nothing] (aB.sk (aB.nx ?r2_9 (aB.nx ?r2_8 (aB.nx ?r2_7 (aB.nx ?r2_6 (aB.nx ?r2_5 (aB.nx ?r2_4 (aB.nx ?r2_3 (aB.nx ?r2_2 (aB.nx ?r2_1 (aB.nx ?r2_0 aB.zero))))))))))) ?rfn2
    case' r2_0|r2_1|r2_2|r2_3|r2_4|r2_5|r2_6|r2_7|r2_8|r2_9=>
     intro us wj hk hp K hK;try simp only [aP,Act.put,sL] at hK⊢
     obtain ⟨d0,d1,-,-⟩:=(HV.o.2.1.keep hk id).two;obtain ⟨f0,f1,f2⟩:=(HV.o.2.2.1.keep hk id).three;have z1:=hk.cellE HV.o.r5.1.1 id HV.o.r5.1.2.1;have z2:=hk.cellE HV.o.r5.1.1 id HV.o.r5.1.2.2
    case' r2_0|r2_1|r2_3|r2_4=>
     go_simp
     refine hK.out _ _ (aA.refl _ _) ?_;exact rfl
    case' r2_2=>
     have e1:us 28=_:=hp 1;rw [e1] at hK⊢;go_simp
     refine hK.out _ _ (aA.refl _ _) ?_;exact rfl
    case' r2_5=>
     have e3:us 30=_:=hp 3;have e4:us 31=_:=hp 4;rw [e3,e4] at hK⊢;go_simp
     refine hK.out _ _ (aA.refl _ _) ?_;exact rfl
    case' r2_6=>
     have e5:us 32=_:=hp 5;rw [e5] at hK⊢;go_simp
     refine hK.out _ _ (aA.refl _ _) ?_;exact rfl
    case' r2_7=>
     have e6:us 33=_:=hp 6;rw [e6] at hK⊢;go_simp
     refine hK.out _ _ (aA.refl _ _) ?_;exact rfl
    case' r2_8=>
     have e2:us 29=_:=hp 2;have e7:us 34=_:=hp 7;rw [e2,e7] at hK⊢;go_simp
     refine (zmul_any (M:=Nil) (MB.nil _) (HV.o.2.2.2.1.keepNil hk) (HV.o.r6.1.keepNil hk) (by have:=HV.o.r7.1;have:=HV.o.r8.1;have:=HC.o.r7.1;omega)).mono ?_;rintro e wk ⟨g8,a8,n8,c8,rfl,hz8,hk2⟩;exact hK.out _ _ hk2 (⟨_,_,_,_,rfl,hz8⟩)
    case' r2_9=>
     have e0:us 27=_:=hp 0;obtain ⟨g8,a8,n8,c8,e8,h8⟩:(ZV Nil (x*y)) (us 35) wj:=hp 8;rw [e0,e8] at hK⊢;go_simp
     refine (zadd_any (M:=MM) (fun b hb=>by have h1:=HMM.o.2.2 b hb;have h2:=H3b.o.2.2.2;have h3:=HC.o.r4.1.size;have h4:=HV.o.r11.size;have h5:=hk.size;show b<_;omega) (HV.o.r4.1.keepNil hk) (h8.zat (by have h1:=nlen_mul_le (bZ2 (nlen x.natAbs)) (bZ2 (nlen y.natAbs));have:=HV.o.r7.1;have:=HV.o.r10.1;have:=HC.o.r7.1;omega)) (by have:=HV.o.r9.1;have:=HC.o.2.2.2.1;omega) (by have h1:=nlen_mul_le (bZ2 (nlen x.natAbs)) (bZ2 (nlen y.natAbs));have h2:=h8.len;have:=HV.o.r7.1;have:=HV.o.r10.1;have:=HC.o.r7.1;omega)).mono ?_;rintro e wk ⟨g9,a9,n9,c9,rfl,hz9,hk2⟩;exact hK.out _ _ hk2 (⟨_,_,_,_,rfl,hz9⟩)
    case' rfn2=>
    intro us wz hkz hf;simp only [aP,Act.put,sL];have e0:us 27=_:=hf 0;have e1:us 28=_:=hf 1;have e2:us 29=_:=hf 2;have e3:us 30=_:=hf 3;have e4:us 31=_:=hf 4;have e5:us 32=_:=hf 5;have e6:us 33=_:=hf 6;have e7:us 34=_:=hf 7;obtain ⟨g8,a8,n8,c8,e8,h8⟩:(ZV Nil (x*y)) (us 35) wz:=hf 8;obtain ⟨g9,a9,n9,c9,e9,h9⟩:(ZV MM (sv+x*y)) (us 36) wz:=hf 9;clear hf;simp only [e0,e1,e2,e3,e4,e5,e6,e7,e8,e9];clear e0 e1 e2 e3 e4 e5 e6 e7 e8 e9 us;refine aK 10 fun K hK=>?_;obtain ⟨t0,t1,t2,t3⟩:=(HV.o.2.1.keep hkz id).two;go_simp
    refine mK ?_;clear hK K;refine aQ (by kernel_rfl) ?_ _;go_wp2_with fail
    have ks:=aA.pair (w:=wz) (g:=w2.heap.size) (.bool g9) (.slice a9 n9 c9);have rp:=(HV.o.2.1.keep hkz id).pair (u':=.bool g9) (v':=.slice a9 n9 c9);have hev2:evalP vals (q.take (k+1)) kz=some (sv+x*y):=(by rw [HC.o.r5.1,HV.o.1];rfl);have hn2:nlen (sv+x*y).natAbs≤2147483648+(k+1):=(by have h1:=nlen_addZ HC.o.2.2.2.1 (nlen_mul_le HC.o.r7.1 HV.o.r10.1);have:=HV.o.r7.1;omega);have hz9:=h9.move ks (fun b _ h=>HMM.o.1 b h) (fun _ _ h=>h);have kall:aA (One w2.heap.size) w3 _:=(((HC.o.r4.1.trans' HV.o.r11 fun _ h=>h.elim).trans' hkz fun _ h=>h.elim).trans' ks fun _ h=>.inl h);have HW:=jJ (aI5 rp hev2 hn2 hz9 kall);clear ks rp hev2 hn2 hz9 kall t0 t1 t2 t3 h8 h9 hkz;generalize (wz.setCell ⟨w2.heap.size,0,none⟩ (.bool g9)).setCell ⟨w2.heap.size,1,none⟩ (.slice a9 n9 c9)=wq at *
    go_wp2_with fail
    go_roundw
    case rel=>exact⟨k+1,g9,a9,n9,c9,sv+x*y,by omega,by go_num,HW.o.2.1,HW.o.1,HW.o.2.2.2.1,HW.o.2.2.1,HW.o.r4⟩
    case measure=>simp [intOf];omega
  ·have hkm:k=mp:=by omega
   subst hkm;have htk:q.take k=q:=eZ1 (by omega);rw [htk] at hev;have e0:decide ((k:Int)<(k:Int))=false:=by simp
   have c4:=H3.o.r5.1.keep hkr (show ¬_=_ by have:=H3.o.r4.1;omega);obtain ⟨y0,y1,y2,y3⟩:=c4.two;obtain ⟨d0,d1,-,-⟩:=hr6.two;have ks:=aA.pair (w:=wr) (g:=w.heap.size+1) (.bool gs) (.slice as1 ns cs);have rp:=c4.pair (u':=.bool gs) (v':=.slice as1 ns cs);have hz9:ZN Nil _ gs as1 ns cs sv:=hzs.move ks (fun b _ h=>HMM.o.2.1 b h) (fun _ _ h=>h.elim);have kall:aA Nil w _:=(H3.o.2.2.2.1.own (by have:=H3.o.r4.1;omega) hkr).own (Nat.le_succ _) ks;have hn9:nlen sv.natAbs≤2164260864:=by omega
   have HR:=jJ (aI5 hev rp hz9 hn9 kall);clear hev rp hz9 hn9 kall ks hzs hns hkr hr6 c4;subst hb6;go_wp2_with fail
   obtain ⟨t0,t1,-,-⟩:=HR.o.2.1.two;exact bodyPost_ret (v:=.tuple #[.agg #[.bool gs,.slice as1 ns cs],.int .i64 0]) (by simp [results,results100,go_sem,t0,t1]) rfl (by rw [←H3.o.r6.1,←H3.o.r7];exact EvalRet.yes HR.o.1 HR.o.2.2.1 HR.o.2.2.2.1 HR.o.r4)
end Go.Proofs.Q
