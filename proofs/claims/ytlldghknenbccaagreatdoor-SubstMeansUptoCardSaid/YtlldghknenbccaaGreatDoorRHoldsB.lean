/- What the laws' light of layer 9 does: it answers a number below what it was given, and changes nothing. -/
import Derived.Test.YtlldghknenbccaaGreatDoorROpens
import Derived.Test.YtlldghknenbccaaGreatDoorRReadsB
set_option linter.unusedSimpArgs false
set_option linter.unusedVariables false
set_option maxRecDepth 100000
set_option maxHeartbeats 8000000
namespace Go.Proofs.Q
open Go.RowKit Tryz

structure aKM (P:Program) (w:World) (fn:Nat) (cap:Array Value) (p:Int→Bool):Prop where
 enters:∀args w,(callFunc fn args).run P w=.ok (.enter fn args) w
 call:∀W v g a n c,aA Nil w W→Calls P fn (#[.agg #[.int .i64 v,.bool g,.slice a n c]]++cap) W fun e w'=>e=.returned (.bool (p v))∧aA Nil W w'
def valueOf (vals:aM) (v:Int):Option Int:=(vals.find? fun p=>p.1==v).map (·.2)
theorem FD.value {vals:aM} {v r:Int} (h:FD (fun x=>x==v) (vals.map (·.1)) r):(r=-1∧valueOf vals v=none)∨∃i:Nat,r=i∧i<vals.length∧valueOf vals v=some (pth vals i).2:=by
 unfold valueOf;rcases h with ⟨rfl,h⟩|⟨i,rfl,h1,h2,h3⟩
 ·refine .inl ⟨rfl,?_⟩;have:vals.find? (fun p=>p.1==v)=none:=List.find?_eq_none.2 fun p hp=>by
   have:=h p.1 (iZ2.2 ⟨p,hp,rfl⟩);simpa using this
  rw [this];rfl
 ·rw [hZ1] at h1;refine .inr ⟨i,rfl,h1,?_⟩;have e:∀j,j<vals.length→(vals.map (·.1)).getD j 0=(pth vals j).1:=fun j hj=>by simp [pth,List.getD,hj]
  have hf:vals.find? (fun p=>p.1==v)=some (pth vals i):=by
   rw [List.find?_eq_some_iff_getElem];refine ⟨by rw [←e i h1];exact h2,i,h1,(iR h1).symm,fun j hj=>?_⟩;have h4:=h3 j hj;rw [e j zZ,iR zZ] at h4;simpa using h4
  rw [hf];rfl
theorem aSB {M M2:Nat→Prop} {w:World} {a:Option Addr} {n c fn:Nat} {cap:Array Value} {p:Int→Bool} {vals:aM} (h:bI M M2 w a n c vals) (hp:aKM prog w fn cap p) (hn:n≤1000000000) :
  Calls prog 84 #[.slice a n c,.func (.func fn) #[] cap] w fun e w'=>(∃r:Int,e=.returned (.int .i64 r)∧FD p (vals.map (·.1)) r)∧aA Nil w w':=by
 have hln:vals.length=n:=eU.len h;have heg:=hp.enters;have HA:=jJ (aI4 h hp hln hn);clear h hp hln;go_enter func84,ntmps84
 go_wp2_with fail
 go_loopw [8] (fun i wr=>∃k:Nat,i=.int .i64 k∧k≤n∧(∀j,j<k→p (pth vals j).1=false)∧aA Nil w wr) (fun i _=>n-(intOf i).toNat)
 case atStart=>exact xW
 case round=>
  obtain ⟨k,rfl,hk,hj,hkr⟩:=hrel;by_cases hkn:k<n
  ·obtain ⟨b,off,g,a',n',c',rfl,hb,-,d0,d1,d2,hz,-,x0,x1⟩:=(HA.o.1.eO hkr).at hkn;have j0:(0:Int)≤(k:Int):=zZ;have j1:(k:Int)<(n:Int):=zZ;have HK:=jJ (aI3 hj hkr hz);clear hj hkr hz;obtain ⟨x,hx⟩:∃x,x=(pth vals k).1:=⟨_,rfl⟩;rw [←hx] at d0 x0 x1;have HX:=jJ hx;clear hx;cases hpx:p x
   ·have HPX:=jJ hpx;clear hpx;go_wp2_with (refine (HA.o.2.1.call _ x g a' n' c' HK.o.2.1).mono ?_;rintro e w1 ⟨rfl,hk1⟩;rw [HPX.o];have H1:=jJ hk1;clear hk1)
    go_roundw
    case rel=>exact oY
    case measure=>exact zI
   ·have HPX:=jJ hpx;clear hpx;go_wp2_with (refine (HA.o.2.1.call _ x g a' n' c' HK.o.2.1).mono ?_;rintro e w1 ⟨rfl,hk1⟩;rw [HPX.o];have H1:=jJ hk1;clear hk1)
    go_ret
    refine ⟨⟨_,rfl,.inr ⟨k,rfl,by rw [hZ1,HA.o.2.2.1];exact hkn,?_,fun j hj=>?_⟩⟩,HK.o.2.1.trans H1.o⟩
    ·rw [show (vals.map (·.1)).getD k 0=(pth vals k).1 by simp [pth,List.getD,show k<vals.length by rw [HA.o.2.2.1];exact hkn],←HX.o];exact HPX.o
    ·rw [show (vals.map (·.1)).getD j 0=(pth vals j).1 by simp [pth,List.getD,show j<vals.length by rw [HA.o.2.2.1];omega]];exact HK.o.1 j hj
  ·have hkn':k=n:=zZ;subst hkn';have HK:=jJ (aI hj hkr);clear hj hkr;go_wp2_with fail
   go_ret
   refine ⟨⟨_,rfl,.inl ⟨rfl,fun x hx=>?_⟩⟩,HK.o.2⟩;obtain ⟨q,hq,rfl⟩:=iZ2.1 hx;obtain ⟨i,hi,rfl⟩:=jZ3 hq;rw [←iR hi];exact HK.o.1 i (by rw [←HA.o.2.2.1];exact hi)
theorem aRP {w:World} {b:Nat} {u:Int} {v1 v2:Value} (h:aF w b 96 [.int .i64 u,v1,v2]):aKM prog w 85 #[.pointer (some ⟨b,0,none⟩)] (fun x=>x==u):=by
 refine ⟨enters_of func85 zX rfl,fun W v g a n c k=>?_⟩;have hr:aF W b 96 [.int .i64 u,v1,v2]:=h.keep k id;have HR:=jJ hr;clear h k hr;show Calls prog 85 #[.agg #[.int .i64 v,.bool g,.slice a n c],.pointer (some ⟨b,0,none⟩)] W _
 go_enter func85,ntmps85
 go_upto_region 1 with (fail)
 obtain ⟨w0,e_1,k0,r0⟩:=bx1 W 34 [.int .i64 v,.bool g,.slice a n c];rw [e_1];clear e_1;have d0:w0.cell? ⟨W.heap.size,0,none⟩=some (.int .i64 v):=r0.cell 0;have d1:w0.cell? ⟨b,0,none⟩=some (.int .i64 u):=(HR.o.keep k0 id).cell 0;have H0:=jJ k0;clear k0 r0;go_wp2_with fail
 go_ret
 exact⟨rfl,H0.o⟩
section
variable {o:Option Int} {s:Int} {a:Option Addr} {w' w:World} {g:Bool} {l:aM}
def iC (vals:aM):aM→Int→Option Int
 | [],s=>some s
 | p::l,s=>match valueOf vals p.1 with
  | none=>none
  | some x=>iC vals l (s+p.2*x)
theorem aCB (vals:aM):∀(l:aM) (p:Int × Int) (s:Int),iC vals (l++[p]) s=(iC vals l s).bind fun t=>(valueOf vals p.1).map fun x=>t+p.2*x
 | [],p,s=>by
  simp only [iZ3,iC,Option.bind_some];cases valueOf vals p.1<;>rfl
 | q::l,p,s=>by
  simp only [hZ3,iC];cases valueOf vals q.1 with
  | none=>rfl
  | some x=>exact aCB vals l p _
theorem aQL (vals:aM) (h:iC vals l s=none) (m:aM):iC vals (l++m) s=none:=by
 induction l generalizing s with
 | nil=>simp [iC] at h
 | cons q l ih=>
  simp only [hZ3,iC] at h⊢;cases hv:valueOf vals q.1 with
  | none=>rfl
  | some x=>rw [hv] at h;exact ih h
theorem aUC {x y:Int} {a b:Nat} (h1:eP x.natAbs≤a) (h2:eP y.natAbs≤b):eP (x+y).natAbs≤max a b+1:=by
 have h3:=lQ (Int.natAbs_add_le x y);have h4:=WT x.natAbs y.natAbs;omega
def EY (o:Option Int) (w:World) (e:Ending) (w':World):Prop:=(∃g a n c,e=.returned (.tuple #[.agg #[.bool g,.slice a n c],.int .i64 (if o.isSome then 0 else 170)])∧ZN (Old w) w' g a n c (o.getD 0)∧eP (o.getD 0).natAbs≤2164260864)∧aA Nil w w'
theorem EY.no (h:o=none) (k:aA Nil w w'):EY o w (.returned (.tuple #[.agg #[.bool false,.slice none 0 0],.int .i64 170])) w':=by
 subst h;exact⟨⟨_,_,_,_,rfl,nR _ w',wB⟩,k⟩
theorem EY.yes {n c:Nat} (h:o=some s) (hz:ZN (Old w) w' g a n c s) (hn:eP s.natAbs≤2164260864) (k:aA Nil w w'):EY o w (.returned (.tuple #[.agg #[.bool g,.slice a n c],.int .i64 0])) w':=by
 subst h;exact⟨⟨_,_,_,_,rfl,hz,hn⟩,k⟩
end
theorem aIA {M1 M2 M3 M4:Nat→Prop} {w:World} {gk:Bool} {ap ak av:Option Addr} {np cp nk ck nv cv:Nat} {z:Int} {l vals:aM} (h:bI M1 M2 w ap np cp l) (hk:ZAt Nil w gk ak nk ck z) (h1:np≤16777216) (h2:nk≤1073741824) (hw:Wee (bC ⟨l,z⟩)) (hv:bI M3 M4 w av nv cv vals) (hnv:nv≤1000000000) :
  Calls prog 35 #[.agg #[.slice ap np cp,.bool gk,.slice ak nk ck],.slice av nv cv] w fun e w'=>EY (iC vals (bC ⟨l,z⟩).parts (bC ⟨l,z⟩).k) w e w':=by
 have HA:=jJ (aI7 h hk h1 h2 hw hv hnv);clear h hk hw hv;go_enter func35,ntmps35
 go_upto_region 1 with (fail)
 obtain ⟨w0,e_1,q0,r0,r1⟩:=bx2 w 27 [.slice ap np cp,.bool gk,.slice ak nk ck] 25 [.bool false,.slice none 0 0];rw [e_1];clear e_1;obtain ⟨d0,d1,d2⟩:=r0.three;have H0:=jJ (aI3 q0 r0 r1);clear q0 r0 r1;go_upto_region 2 with (go_at_call 83;refine (DN (M:=Old w0) (MB.old w0) (HA.o.1.eO H0.o.1) (HA.o.2.1.eO H0.o.1) HA.o.2.2.1 HA.o.2.2.2.1).mono ?_;rintro e w1 ⟨v,rfl,⟨bp,mp,dp,gb,ab,nb,cb,rfl,ht⟩,hk1⟩;have s0:=H0.o.2.1.keep hk1 id;have s1:=H0.o.2.2.keep hk1 id;obtain ⟨y0,y1,y2⟩:=s0.three;obtain ⟨y3,y4,y5⟩:=s0.iZ)
 have ks1:=aA.triple (w:=w1) (g:=w.heap.size) (.slice bp mp dp) (.bool gb) (.slice ab nb cb);have l0:w.heap.size<w0.heap.size:=H0.o.2.1.lt;have ra:=s0.triple (.slice bp mp dp) (.bool gb) (.slice ab nb cb);have rb:=s1.keep ks1 (show ¬_=_ by omega);have q1:=ht.out (M:=Old w0) zZ (fun _ hb=>hb) ks1;have kq:aA Nil w _:=(H0.o.1.trans hk1).own (bZ2 _) ks1;have l2:=bZ1 hk1.size ks1.size;have l1:w.heap.size+1<w0.heap.size:=H0.o.2.2.lt;clear y0 y1 y2 y3 y4 y5 ht ks1 s0 s1;generalize ((w1.setCell ⟨w.heap.size,0,none⟩ (.slice bp mp dp)).setCell ⟨w.heap.size,1,none⟩ (.bool gb)).setCell ⟨w.heap.size,2,none⟩ (.slice ab nb cb)=w2 at *
 obtain ⟨d0,d1,d2⟩:=ra.three;have H2:=jJ (aI4 ra rb q1 kq);clear ra rb q1 kq;go_upto_region 3 with (fail)
 have r6:=aF.alloc (w:=w2) (E:=25) (xs:=[.bool gb,.slice ab nb cb]);change aF (w2.alloc (.cells #[.bool gb,.slice ab nb cb] 25)) _ _ _ at r6;have k6:aA Nil w2 (w2.alloc (.cells #[.bool gb,.slice ab nb cb] 25)):=kOf;have l6:(w2.alloc (.cells #[.bool gb,.slice ab nb cb] 25)).heap.size=w2.heap.size+1:=zW;generalize w2.alloc (.cells #[.bool gb,.slice ab nb cb] 25)=w3 at *
 obtain ⟨b6,hb6⟩:∃b6,b6=w2.heap.size:=⟨_,rfl⟩;rw [←hb6] at r6 l6⊢;obtain ⟨MM,hMM⟩:∃MM:Nat→Prop,MM=fun b=>b=b6∨b<w0.heap.size:=⟨_,rfl⟩;have hMb:∀b,b<b6→MM b→Old w0 b:=fun b hb hm=>by
  rw [hMM] at hm;rcases hm with hm|hm
  ·omega
  ·exact hm
 have hMo:∀b,One b6 b→MM b:=fun b (hb:b=b6)=>by rw [hMM];exact .inl hb
 have hMt:∀b,b=w.heap.size+1→MM b:=fun b hb=>by rw [hMM];exact .inr zZ
 have hMs:∀b,MM b→b<b6+1:=fun b hb=>by
  rw [hMM] at hb;rcases hb with hb|hb<;>omega
 have hMw:∀b,Old w b→MM b:=fun b (hb:b<w.heap.size)=>by rw [hMM];exact .inr zZ
 have HMW:=jJ hMw;clear hMw;obtain ⟨q,hq⟩:∃q,q=(bC ⟨l,z⟩).parts:=⟨_,rfl⟩;obtain ⟨kz,hkz'⟩:∃kz,kz=(bC ⟨l,z⟩).k:=⟨_,rfl⟩;have hwe:=HA.o.r4.1;have hp3:cV MM MM w3 bp mp dp q:=by
  rw [hq];exact (H2.o.2.2.1.1.move (M:=Nil) (aA.refl Nil w2) (fun _ _ h=>h.elim) (fun b hb hm=>hMb b zZ hm) (fun _ _ h=>h.elim) (fun b hb hm=>hMb b zZ hm)).eO k6
 have hz3:ZN MM w3 gb ab nb cb kz:=by
  rw [hkz'];exact (show ZN MM w2 gb ab nb cb (bC ⟨l,z⟩).k from ⟨H2.o.2.2.1.2.1,H2.o.2.2.1.2.2.turn fun b hb hm=>hMb b zZ hm⟩).eO k6
 have hqp:∀p∈q,eP p.2.natAbs≤536870912:=fun p hp=>hwe.parts p (by rw [←hq];exact hp);have hkk:eP kz.natAbs≤536870912:=by rw [hkz'];exact hwe.k
 have hql:q.length≤16777216:=by rw [hq];exact hwe.few
 have hmp:q.length=mp:=eU.len hp3;have kw3:aA Nil w w3:=H2.o.2.2.2.trans k6;have b6w:w.heap.size+1<b6:=zZ;have hv3:bI M3 M4 w3 av nv cv vals:=HA.o.r5.1.eO kw3;have hcapq:=eU.cap hp3;have hleq:=eU.le hp3;have r4:=H2.o.2.1.keep k6 id;have H3:=jJ (aI8 hp3 hv3 hqp kw3 b6w r4 hq hkz');have HMM:=jJ (aI3 hMo hMt hMs);have H3b:=jJ (aI4 r6 hz3 hkk l6);have d3:=(H2.o.1.keep k6 id).cell 0;change w3.cell? ⟨w.heap.size,0,none⟩=some (.slice bp mp dp) at d3;clear hMM hMb hMo hMt hMs r6 k6 l6 hp3 hz3 hqp hkk kw3 b6w hv3 r4 hwe hq hkz';go_wp2_with fail
 have hmp2:mp≤16777216:=zZ;go_loopw [17] (fun iv wr=>∃(k:Nat) (gs:Bool) (as1:Option Addr) (ns cs:Nat) (sv:Int),k≤mp∧iv=.int .i64 (k:Int)∧iC vals (q.take k) kz=some sv∧aF wr b6 25 [.bool gs,.slice as1 ns cs]∧ZN MM wr gs as1 ns cs sv∧eP sv.natAbs≤2147483648+k∧aA (One b6) w3 wr) (fun iv _=>mp-(intOf iv).toNat)
 case atStart=>exact⟨0,gb,ab,nb,cb,kz,aZ2 _,rfl,rfl,H3b.o.1,H3b.o.2.1,by have:=H3b.o.2.2.1;omega,aA.refl _ _⟩
 case round=>
  obtain ⟨k,gs,as1,ns,cs,sv,hk,rfl,hev,hr6,hzs,hns,hkr⟩:=hrel;have hws:w3.heap.size≤wr.heap.size:=hkr.size;by_cases hlt:k<mp
  ·have hp4:cV MM MM wr bp mp dp q:=H3.o.1.move hkr (fun b _ h=>HMM.o.1 b h) (fun _ _ h=>h) (fun b _ h=>HMM.o.1 b h) (fun _ _ h=>h);obtain ⟨b,off,g,a',n',c',hae,hb,-,x0,x1,x2,hzz,i1',i2'⟩:=hp4.at hlt;subst hae;have j0:(0:Int)≤(k:Int):=zZ;have j1:(k:Int)<(mp:Int):=zZ;have hsn:iC vals (q.take (k+1)) kz=(iC vals (q.take k) kz).bind fun t=>(valueOf vals (pth q k).1).map fun x=>t+(pth q k).2*x:=by
    rw [List.take_succ_eq_append_getElem zZ,←iR zZ,aCB]
   have hdr:iC vals q kz=iC vals (q.take (k+1)++q.drop (k+1)) kz:=by rw [aZ3]
   have hcn:=H3.o.2.2.1 (pth q k) (by rw [iR zZ];exact List.getElem_mem _);rw [hev] at hsn;have HC:=jJ (aI9 hev hr6 hzs hns hkr hsn hdr hcn hzz);clear hev hr6 hzs hns hkr hsn hdr hcn hzz hp4;generalize (pth q k).1=v at *
   generalize (pth q k).2=x at *
   go_upto_region 6 with (fail)
   have r8:=aF.alloc (w:=wr) (E:=96) (xs:=[.int .i64 v,.bool g,.slice a' n' c']);change aF (wr.alloc (.cells #[.int .i64 v,.bool g,.slice a' n' c'] 96)) _ _ _ at r8;have k8:aA Nil wr (wr.alloc (.cells #[.int .i64 v,.bool g,.slice a' n' c'] 96)):=kOf;generalize wr.alloc (.cells #[.int .i64 v,.bool g,.slice a' n' c'] 96)=wb at *
   have hvb:bI M3 M4 wb av nv cv vals:=by
    have k9:=(H3.o.2.2.2.1.own qI HC.o.r4.1).trans k8;exact HA.o.r5.1.eO k9
   have HB:=jJ (aI3 r8 k8 hvb);clear r8 k8 hvb;go_upto_region 7 with (go_at_call 84;refine (aSB HB.o.2.2 (aRP HB.o.1) HA.o.r6).mono ?_;rintro e w5 ⟨⟨r,rfl,hf⟩,hk5⟩;have H5:=jJ (aI hf.value hk5);clear hf hk5)
   rcases H5.o.1 with ⟨rfl,hvn⟩|⟨i,rfl,hi,hvi⟩
   ·have HN:=jJ hvn;clear hvn;have c4:=(((H3.o.r5.1.keep HC.o.r4.1 (show ¬_=_ by have:=H3.o.r4.1;omega)).keep HB.o.2.1 id).keep H5.o.2 id);obtain ⟨y0,y1,y2,y3⟩:=c4.two;have ks:=aA.pair (w:=w5) (g:=w.heap.size+1) (.bool false) (.slice none 0 0);have rp:=c4.pair (u':=.bool false) (v':=.slice none 0 0);have hno:iC vals q kz=none:=by
     rw [HC.o.r6.1];exact aQL vals (by rw [HC.o.r5.1,HN.o];rfl) _
    have kall:aA Nil w _:=(((H3.o.2.2.2.1.own qI HC.o.r4.1).trans (HB.o.2.1.trans H5.o.2))).own (Nat.le_succ _) ks;have HR:=jJ (aI3 hno kall rp);clear ks rp hno kall;go_wp2_with fail
    obtain ⟨t0,t1,-,-⟩:=HR.o.2.2.two;exact bodyPost_ret (v:=.tuple #[.agg #[.bool false,.slice none 0 0],.int .i64 170]) (by simp [results,results35,go_sem,t0,t1]) rfl (by rw [←H3.o.r6.1,←H3.o.r7];exact EY.no HR.o.1 HR.o.2.1)
   ·have i0:¬(i:Int)<0:=zZ;have hv5:bI M3 M4 w5 av nv cv vals:=HB.o.2.2.eO H5.o.2;have hiv:i<nv:=by have:=eU.len hv5;omega
    have hcv:=eU.cap hv5;have hlv:=eU.le hv5;obtain ⟨b9,off9,gy,ay,ny,cy,rfl,hb9,-,-,z1,z2,hzy,hny,-,-⟩:=hv5.at hiv;rw [show (pth vals i).2=(pth vals i).2 from rfl] at hzy;obtain ⟨y,hy⟩:∃y,y=(pth vals i).2:=⟨_,rfl⟩;rw [←hy] at hzy hvi;have i2:(i:Int)<(nv:Int):=zZ;have k35:=HB.o.2.1.trans H5.o.2;have row6:=HC.o.2.1.keep k35 id;have row8:=HB.o.1.keep H5.o.2 id;have hxz:=HC.o.r8;have hsz:=HC.o.2.2.1;have hx:=hxz.zat (by have:=HC.o.r7.1;omega);have hs:=hsz.zat uB;have hxl:=hxz.len;have hsl:=hsz.len;have hyn:=hzy.iD;have HV:=jJ (MG hvi row6 row8 (hx.eO k35) (hs.eO k35) (aI3 hb9 z1 z2) hzy.gK hny hxl hsl hyn k35);clear hvi row6 row8 hx hs hb9 z1 z2 hzy hny hxl hsl hyn k35 hv5 hxz hsz hy hi;go_upto_region 9 with (fail)
    subst hb6;refine aX 11 [10] [27,28,29,30,31,32,33,34,35,36,1046] [27,28,29,30,31,32,33,34,35,36] [Un (eT ?v2_0),Un (eT ?v2_1),Un (eT ?v2_2),Un (eT ?v2_3),Un (eT ?v2_4),Un (eT ?v2_5),Un (eT ?v2_6),Un (eT ?v2_7),Un (ZV Nil (x*y)),Un (ZV MM (sv+x*y)),nothing] (aB.sk (aB.nx ?r2_9 (aB.nx ?r2_8 (aB.nx ?r2_7 (aB.nx ?r2_6 (aB.nx ?r2_5 (aB.nx ?r2_4 (aB.nx ?r2_3 (aB.nx ?r2_2 (aB.nx ?r2_1 (aB.nx ?r2_0 aB.zero))))))))))) ?rfn2
    case' r2_0|r2_1|r2_2|r2_3|r2_4|r2_5|r2_6|r2_7|r2_8|r2_9=>
     intro us wj hk hp K hK;try simp only [aQ,Act.put,sL] at hK⊢
     obtain ⟨d0,d1,-,-⟩:=(HV.o.2.1.keep hk id).two;obtain ⟨f0,f1,f2⟩:=(HV.o.2.2.1.keep hk id).three;have z1:=hk.eY HV.o.r5.1.1 id HV.o.r5.1.2.1;have z2:=hk.eY HV.o.r5.1.1 id HV.o.r5.1.2.2
    case' r2_0|r2_1|r2_3|r2_4=>
     go_simp
     refine hK.out _ _ (aA.refl _ _) ?_;exact rfl
    case' r2_2=>
     have e1:us 28=_:=hp 1;rw [e1] at hK⊢;go_simp
     refine hK.out _ _ (aA.refl _ _) ?_;exact rfl
    case' r2_5=>
     have e3:us 30=_:=hp 3;have e4:us 31=_:=hp 4;rw [e3,e4] at hK⊢;go_simp
     refine hK.out _ _ (aA.refl _ _) ?_;exact rfl
    case' r2_6=>
     have e5:us 32=_:=hp 5;rw [e5] at hK⊢;go_simp
     refine hK.out _ _ (aA.refl _ _) ?_;exact rfl
    case' r2_7=>
     have e6:us 33=_:=hp 6;rw [e6] at hK⊢;go_simp
     refine hK.out _ _ (aA.refl _ _) ?_;exact rfl
    case' r2_8=>
     have e2:us 29=_:=hp 2;have e7:us 34=_:=hp 7;rw [e2,e7] at hK⊢;go_simp
     refine (KV (M:=Nil) (MB.nil _) (HV.o.2.2.2.1.eO hk) (HV.o.r6.1.eO hk) (by have:=HV.o.r7.1;have:=HV.o.r8.1;have:=HC.o.r7.1;omega)).mono ?_;rintro e wk ⟨g8,a8,n8,c8,rfl,hz8,hk2⟩;exact hK.out _ _ hk2 (⟨_,_,_,_,rfl,hz8⟩)
    case' r2_9=>
     have e0:us 27=_:=hp 0;obtain ⟨g8,a8,n8,c8,e8,h8⟩:(ZV Nil (x*y)) (us 35) wj:=hp 8;rw [e0,e8] at hK⊢;go_simp
     refine (CP (M:=MM) (fun b hb=>by have h1:=HMM.o.2.2 b hb;have h2:=H3b.o.2.2.2;have h3:=HC.o.r4.1.size;have h4:=HV.o.r11.size;have h5:=hk.size;show b<_;omega) (HV.o.r4.1.eO hk) (h8.zat (by have h1:=BF (bZ2 (eP x.natAbs)) (bZ2 (eP y.natAbs));have:=HV.o.r7.1;have:=HV.o.r10.1;have:=HC.o.r7.1;omega)) (by have:=HV.o.r9.1;have:=HC.o.2.2.2.1;omega) (by have h1:=BF (bZ2 (eP x.natAbs)) (bZ2 (eP y.natAbs));have h2:=h8.len;have:=HV.o.r7.1;have:=HV.o.r10.1;have:=HC.o.r7.1;omega)).mono ?_;rintro e wk ⟨g9,a9,n9,c9,rfl,hz9,hk2⟩;exact hK.out _ _ hk2 (⟨_,_,_,_,rfl,hz9⟩)
    case' rfn2=>
    intro us wz hkz hf;simp only [aQ,Act.put,sL];have e0:us 27=_:=hf 0;have e1:us 28=_:=hf 1;have e2:us 29=_:=hf 2;have e3:us 30=_:=hf 3;have e4:us 31=_:=hf 4;have e5:us 32=_:=hf 5;have e6:us 33=_:=hf 6;have e7:us 34=_:=hf 7;obtain ⟨g8,a8,n8,c8,e8,h8⟩:(ZV Nil (x*y)) (us 35) wz:=hf 8;obtain ⟨g9,a9,n9,c9,e9,h9⟩:(ZV MM (sv+x*y)) (us 36) wz:=hf 9;clear hf;simp only [e0,e1,e2,e3,e4,e5,e6,e7,e8,e9];clear e0 e1 e2 e3 e4 e5 e6 e7 e8 e9 us;refine aK 10 fun K hK=>?_;obtain ⟨t0,t1,t2,t3⟩:=(HV.o.2.1.keep hkz id).two;go_simp
    refine mK ?_;clear hK K;refine aR zX ?_ _;go_wp2_with fail
    have ks:=aA.pair (w:=wz) (g:=w2.heap.size) (.bool g9) (.slice a9 n9 c9);have rp:=(HV.o.2.1.keep hkz id).pair (u':=.bool g9) (v':=.slice a9 n9 c9);have hev2:iC vals (q.take (k+1)) kz=some (sv+x*y):=(by rw [HC.o.r5.1,HV.o.1];rfl);have hn2:eP (sv+x*y).natAbs≤2147483648+(k+1):=(by have h1:=aUC HC.o.2.2.2.1 (BF HC.o.r7.1 HV.o.r10.1);have:=HV.o.r7.1;omega);have hz9:=h9.move ks (fun b _ h=>HMM.o.1 b h) (fun _ _ h=>h);have kall:aA (One w2.heap.size) w3 _:=(((HC.o.r4.1.trans' HV.o.r11 fun _ h=>h.elim).trans' hkz fun _ h=>h.elim).trans' ks fun _ h=>.inl h);have HW:=jJ (aI5 rp hev2 hn2 hz9 kall);clear ks rp hev2 hn2 hz9 kall t0 t1 t2 t3 h8 h9 hkz;generalize (wz.setCell ⟨w2.heap.size,0,none⟩ (.bool g9)).setCell ⟨w2.heap.size,1,none⟩ (.slice a9 n9 c9)=wq at *
    go_wp2_with fail
    go_roundw
    case rel=>exact⟨k+1,g9,a9,n9,c9,sv+x*y,zZ,zF,HW.o.2.1,HW.o.1,HW.o.2.2.2.1,HW.o.2.2.1,HW.o.r4⟩
    case measure=>exact zI
  ·have hkm:k=mp:=zZ;subst hkm;have htk:q.take k=q:=eZ1 zZ;rw [htk] at hev;have e0:decide ((k:Int)<(k:Int))=false:=zW;have c4:=H3.o.r5.1.keep hkr (show ¬_=_ by have:=H3.o.r4.1;omega);obtain ⟨y0,y1,y2,y3⟩:=c4.two;obtain ⟨d0,d1,-,-⟩:=hr6.two;have ks:=aA.pair (w:=wr) (g:=w.heap.size+1) (.bool gs) (.slice as1 ns cs);have rp:=c4.pair (u':=.bool gs) (v':=.slice as1 ns cs);have hz9:ZN (Old w) _ gs as1 ns cs sv:=hzs.move ks (fun b _ h=>HMM.o.2.1 b h) (fun b _ h=>HMW.o b h);have kall:aA Nil w _:=(H3.o.2.2.2.1.own qI hkr).own (Nat.le_succ _) ks;have hn9:eP sv.natAbs≤2164260864:=zZ;have HR:=jJ (aI5 hev rp hz9 hn9 kall);clear hev rp hz9 hn9 kall ks hzs hns hkr hr6 c4;subst hb6;go_wp2_with fail
   obtain ⟨t0,t1,-,-⟩:=HR.o.2.1.two;exact bodyPost_ret (v:=.tuple #[.agg #[.bool gs,.slice as1 ns cs],.int .i64 0]) (by simp [results,results35,go_sem,t0,t1]) rfl (by rw [←H3.o.r6.1,←H3.o.r7];exact EY.yes HR.o.1 HR.o.2.2.1 HR.o.2.2.2.1 HR.o.r4)
def isR (X:aY) (x:Int):Bool:=if X.kind=2 then decide (0<x) else if X.kind=3∨X.kind=4 then (x.fmod X.d==0)==decide (X.kind=3) else decide (X.kind=1)
def iH (vals:aM) (X:aY):Bool × Int:=
 if (bJ X).1=0 then
  match iC vals (bC (bJ X).2.t).parts (bC (bJ X).2.t).k with
  | none=>(false,170)
  | some x=>(isR (bJ X).2 x,0)
 else (false,(bJ X).1)
structure XR (X:aY):Prop where
 wee:Wee X.t
 bCW:Wee (bC X.t)
 d:eP X.d.natAbs≤536870912
 nd:X.kind=3∨X.kind=4→0<X.d
theorem aTN {M1 M2 M3 M4:Nat→Prop} {w:World} {k:Int} {ad ap ak av:Option Addr} {nd cd np cp nk ck nv cv:Nat} {gd gk:Bool} {d z:Int} {l vals:aM} (hd:ZAt Nil w gd ad nd cd d) (h:bI M1 M2 w ap np cp l) (hk:ZAt Nil w gk ak nk ck z) (h1:np≤16777216) (h2:nk≤1073741824) (hw:Wee (bC ⟨l,z⟩)) (hwd:eP d.natAbs≤536870912) (hv:bI M3 M4 w av nv cv vals) (hnv:nv≤1000000000) (hO:XR (bJ ⟨k,d,⟨l,z⟩⟩).2) :
  Calls prog 87 #[.agg #[.int .i64 k,.bool gd,.slice ad nd cd,.slice ap np cp,.bool gk,.slice ak nk ck],.slice av nv cv] w fun e w'=>e=.returned (.tuple #[.bool (iH vals ⟨k,d,⟨l,z⟩⟩).1,.int .i64 (iH vals ⟨k,d,⟨l,z⟩⟩).2])∧aA Nil w w':=by
 obtain ⟨hr,hhr⟩:∃hr,hr=iH vals ⟨k,d,⟨l,z⟩⟩:=⟨_,rfl⟩;rw [←hhr];obtain ⟨N,hN⟩:∃N,N=bJ ⟨k,d,⟨l,z⟩⟩:=⟨_,rfl⟩;unfold iH at hhr;rw [←hN] at hhr hO;have HNN:=jJ hN;clear hN;have HA:=jJ (aI9 hd h hk hw hwd hv hnv hO hhr);clear hd h hk hw hwd hv hnv hO hhr;go_enter func87,ntmps87
 go_upto_region 1 with (fail)
 obtain ⟨w0,e_1,q0,r0⟩:=bx1 w 82 [.int .i64 k,.bool gd,.slice ad nd cd,.slice ap np cp,.bool gk,.slice ak nk ck];rw [e_1];clear e_1;obtain ⟨c0,c1,c2,c3,c4,c5⟩:=r0.eZ;have H0:=jJ (aI q0 r0);clear q0 r0;go_upto_region 2 with (go_at_call 88;refine (OL (M:=Old w0) (MB.old w0) (HA.o.1.eO H0.o.1) (HA.o.2.1.eO H0.o.1) (HA.o.2.2.1.eO H0.o.1) h1 h2 HA.o.2.2.2.1 HA.o.r4.1).mono ?_;rintro e w1 ⟨v,rfl,⟨gd',ad',nd',cd',ap',np',cp',gk',ak',nk',ck',rfl,ha⟩,hk1⟩;rw [←HNN.o] at ha⊢;have r1:=H0.o.2.keep hk1 id;obtain ⟨z0,z1,z2,z3,z4,z5⟩:=r1.eZ;obtain ⟨y0,y1,y2,y3,y4,y5⟩:=r1.iY;have H1:=jJ (aI3 ha hk1 r1);clear ha hk1 r1)
 have lr:=H0.o.2.lt;have r6:=H1.o.2.2.six (.int .i64 N.2.kind) (.bool gd') (.slice ad' nd' cd') (.slice ap' np' cp') (.bool gk') (.slice ak' nk' ck');have ks:=aA.six (w:=w1) (g:=w.heap.size) (.int .i64 N.2.kind) (.bool gd') (.slice ad' nd' cd') (.slice ap' np' cp') (.bool gk') (.slice ak' nk' ck');have ha2:=H1.o.1.out (M:=Nil) lr (fun _ hb=>hb.elim) ks;have kq:aA Nil w _:=(H0.o.1.trans H1.o.2.1).own (bZ2 _) ks;clear ks;generalize (((((w1.setCell ⟨w.heap.size,0,none⟩ (.int .i64 N.2.kind)).setCell ⟨w.heap.size,1,none⟩ (.bool gd')).setCell ⟨w.heap.size,2,none⟩ (.slice ad' nd' cd')).setCell ⟨w.heap.size,3,none⟩ (.slice ap' np' cp')).setCell ⟨w.heap.size,4,none⟩ (.bool gk')).setCell ⟨w.heap.size,5,none⟩ (.slice ak' nk' ck')=w2 at *
 obtain ⟨er,X⟩:=N;simp only at r6 ha2;obtain ⟨c0,c1,c2,c3,c4,c5⟩:=r6.eZ;have hhr:=HA.o.r8;have hO:=HA.o.r7.1;simp only at hhr hO;have H2:=jJ (aI4 ha2 kq r6 hO);have HH:=jJ hhr;clear ha2 kq r6 hhr hO;by_cases he:¬er=0
 ·have e1:(er==0)=false:=by simp [he]
  go_wp2_with fail
  go_ret2
  rw [HH.o,if_neg he];exact⟨rfl,H2.o.2.1⟩
 obtain rfl:=Decidable.not_not.1 he;have e1:((0:Int)==0)=true:=rfl;have hpr:bI Nil Nil w2 ap' np' cp' X.t.parts:=cV.raw H2.o.1.2.1 fun p hp=>by have:=H2.o.2.2.2.wee.parts p hp;omega
 have hkr:ZAt Nil w2 gk' ak' nk' ck' X.t.k:=H2.o.1.2.2.zat (by have:=H2.o.2.2.2.wee.k;omega);have hnp:np'≤16777216:=by have:=eU.len hpr;have:=H2.o.2.2.2.wee.few;omega
 have hnk:nk'≤1073741824:=by have h3:=H2.o.1.2.2.len;have h4:=H2.o.2.2.2.wee.k;omega
 have hev:=aIA hpr hkr hnp hnk H2.o.2.2.2.bCW (HA.o.r5.1.eO H2.o.2.1) HA.o.r6.1;obtain ⟨o,ho⟩:∃o,o=iC vals (bC X.t).parts (bC X.t).k:=⟨_,rfl⟩;rw [show (⟨X.t.parts,X.t.k⟩:aV)=X.t from rfl,←ho] at hev;have hhr:=HH.o;rw [if_pos rfl,←ho] at hhr;have HEV:=jJ hev;have HHR:=jJ hhr;clear hpr hkr hnp hnk hev ho hhr;go_upto_region 5 with (go_at_call 35;refine HEV.o.mono ?_;rintro e w3 ⟨⟨g3,a3,n3,c3,rfl,hz3,hn3⟩,hk3⟩;have H3:=jJ (aI3 hz3 hk3 hn3);clear hz3 hk3 hn3)
 have r7:=aF.alloc (w:=w3) (E:=25) (xs:=[.bool g3,.slice a3 n3 c3]);change aF (w3.alloc (.cells #[.bool g3,.slice a3 n3 c3] 25)) _ _ _ at r7;have k7:aA Nil w3 (w3.alloc (.cells #[.bool g3,.slice a3 n3 c3] 25)):=kOf;generalize w3.alloc (.cells #[.bool g3,.slice a3 n3 c3] 25)=w4 at *
 have k24:=H3.o.2.1.trans k7;have r24:=H2.o.2.2.1.keep k24 id;obtain ⟨c0,c1,c2,c3',c4,c5⟩:=r24.eZ;obtain ⟨d0,d1,-,-⟩:=r7.two;have H4:=jJ (aI4 r7 r24 k24 (H3.o.1.eO k7));clear r7 k7 k24 r24;cases o with
 | none=>
  have hhr:=HHR.o;have H5:=jJ hhr;clear hhr;rw [show (if (none:Option Int).isSome=true then (0:Int) else 170)=170 from rfl];go_wp2_with fail
  go_ret2
  rw [H5.o];exact⟨rfl,H2.o.2.1.trans H4.o.2.2.1⟩
 | some x=>
  have hhr:hr=(isR X x,0):=HHR.o;have hz4:ZN Nil w4 g3 a3 n3 c3 x:=H4.o.2.2.2.gK;have hxn:eP x.natAbs≤2164260864:=H3.o.2.2;have hza:=hz4.zat zZ;have H5:=jJ (aI4 hhr hza (H2.o.2.1.trans H4.o.2.2.1) hxn);clear hhr hz4 hza;rw [show (if (some x).isSome=true then (0:Int) else 170)=0 from rfl];by_cases k2:X.kind=2
  ·rw [k2] at c0;go_wp2_with (go_at_call 55;refine (kY H5.o.2.1).mono ?_;rintro e w5 ⟨rfl,hk5⟩;have H6:=jJ hk5;clear hk5)
   go_ret2
   rw [H5.o.1];unfold isR;rw [if_pos k2];exact⟨rfl,H5.o.2.2.1.trans H6.o⟩
  by_cases k34:X.kind=3∨X.kind=4
  ·have hda:=H2.o.1.1.eO H4.o.2.2.1;have hd4:=hda.zat (by have:=H2.o.2.2.2.d;omega);have hdn:nd'≤4294967296:=by have h3:=hda.len;have h4:=H2.o.2.2.2.d;omega
   have hdz:=H2.o.2.2.2.nd k34;have hdz':X.d≠0:=zZ;have hg3:n3≤8589934592:=by have h3:=H3.o.1.len;have h4:=H5.o.2.2.2;simp only [Option.getD_some] at h3;omega
   have hfl:eP (x.fmod X.d).natAbs≤536870912:=bZ1 (AZ _ hdz) H2.o.2.2.2.d;have HD:=jJ (aI5 hd4 hdz' hdn hg3 hfl);clear hda hd4 hdn hdz hdz' hg3 hfl;have hegm:∀args w,(callFunc 176 args).run prog w=.ok (.enter 176 args) w:=enters_of func176 zX rfl;rcases k34 with k3|k4
   ·rw [k3] at c0;have HK:=jJ k3;have hsg:((x.fmod X.d).sign==0)=(x.fmod X.d==0):=uU;have hfin:isR X x=((x.fmod X.d).sign==0):=by
     unfold isR;rw [k3,if_neg zY,if_pos zY,hsg];simp
    clear hsg;have HFI:=jJ hfin;clear hfin;clear k3 k2;go_upto_region 12 with (fail)
    refine aX 13 [11,12] [36,37,38,39,40,41,42,43,44,45,46,4,5] [36,37,38,39,40,41,42,43,44,45,46] [Un (eT ?v2_0),Un (eT ?v2_1),Un (oD 176 25 [.bool gd',.slice ad' nd' cd'] w4.heap.size),Un (eT ?v2_3),Un (ZV Nil (x.fmod X.d)),Un (eT (.int .i64 (x.fmod X.d).sign)),Un (eT ?v2_6),Un (eT ?v2_7),Un (eT ?v2_8),Un (eT ?v2_9),Un (eT ?v2_10),nothing,nothing] (aB.sk (aB.sk (aB.nx ?r2_10 (aB.nx ?r2_9 (aB.nx ?r2_8 (aB.nx ?r2_7 (aB.nx ?r2_6 (aB.nx ?r2_5 (aB.nx ?r2_4 (aB.nx ?r2_3 (aB.nx ?r2_2 (aB.nx ?r2_1 (aB.nx ?r2_0 aB.zero))))))))))))) ?rfn2
    case' r2_0|r2_1|r2_2|r2_3|r2_4|r2_5|r2_6|r2_7|r2_8|r2_9|r2_10=>
     intro us wj hk hp K hK;try simp only [aQ,Act.put,sL] at hK⊢
     obtain ⟨f0,f1,f2,f3,f4,f5⟩:=(H4.o.2.1.keep hk id).eZ;rw [HK.o] at f0;obtain ⟨d0,d1,-,-⟩:=(H4.o.1.keep hk id).two
    case' r2_0|r2_3|r2_7=>
     go_simp
     refine hK.out _ _ (aA.refl _ _) ?_;exact rfl
    case' r2_1=>
     have e0:us 36=_:=hp 0;rw [e0] at hK⊢;go_simp
     refine hK.out _ _ (aA.refl _ _) ?_;exact rfl
    case' r2_2=>
     have e1:us 37=_:=hp 1;rw [e1] at hK⊢;go_simp
     refine (KD).mono ?_;rintro e wk ⟨v,rfl,⟨b,rfl,hr,hb⟩,hk2⟩;exact hK.out _ _ hk2 (⟨b,rfl,hr,bZ1 hk.size hb⟩)
    case' r2_4=>
     obtain ⟨b2,e2,h2,q2⟩:(oD 176 25 [.bool gd',.slice ad' nd' cd'] w4.heap.size) (us 38) wj:=hp 2;have e3:us 39=_:=hp 3;rw [e2,e3] at hK⊢;go_simp
     refine ((GA h2 (HD.o.1.eO hk) HD.o.2.1 HD.o.2.2.1).call Nil _ g3 a3 n3 c3 x (aA.refl _ _) (MB.nil _) (H5.o.2.1.eO hk) HD.o.2.2.2.1).mono ?_;rintro e wk ⟨g,a,n,c,rfl,h,hk2⟩;exact hK.out _ _ hk2 (⟨g,a,n,c,rfl,h⟩)
    case' r2_5=>
     obtain ⟨g4,a4,n4,c4,e4,h4⟩:(ZV Nil (x.fmod X.d)) (us 40) wj:=hp 4;rw [e4] at hK⊢;go_simp
     refine (kY (h4.zat (by have:=HD.o.r4;omega))).mono ?_;rintro e wk ⟨rfl,hk2⟩;exact hK.out _ _ hk2 (rfl)
    case' r2_6=>
     have e5:us 41=_:=hp 5;rw [e5] at hK⊢;go_simp
     refine hK.out _ _ (aA.refl _ _) ?_;exact rfl
    case' r2_8=>
     have e7:us 43=_:=hp 7;rw [e7] at hK⊢;go_simp
     refine hK.out _ _ (aA.refl _ _) ?_;exact rfl
    case' r2_9=>
     have e8:us 44=_:=hp 8;rw [e8] at hK⊢;go_simp
     refine hK.out _ _ (aA.refl _ _) ?_;exact rfl
    case' r2_10=>
     have e6:us 42=_:=hp 6;have e9:us 45=_:=hp 9;rw [e6,e9] at hK⊢;go_simp
     refine hK.out _ _ (aA.refl _ _) ?_;exact rfl
    case' rfn2=>
    intro us wz hkz hf;simp only [aQ,Act.put,sL];have e0:us 36=_:=hf 0;have e1:us 37=_:=hf 1;obtain ⟨b2,e2,h2,q2⟩:(oD 176 25 [.bool gd',.slice ad' nd' cd'] w4.heap.size) (us 38) wz:=hf 2;have e3:us 39=_:=hf 3;obtain ⟨g4,a4,n4,c4,e4,h4⟩:(ZV Nil (x.fmod X.d)) (us 40) wz:=hf 4;have e5:us 41=_:=hf 5;have e6:us 42=_:=hf 6;have e7:us 43=_:=hf 7;have e8:us 44=_:=hf 8;have e9:us 45=_:=hf 9;have e10:us 46=_:=hf 10;clear hf;simp only [e0,e1,e2,e3,e4,e5,e6,e7,e8,e9,e10];clear e0 e1 e2 e3 e4 e5 e6 e7 e8 e9 e10 us;refine aK 11 fun K hK=>?_;go_simp
    refine mK ?_;clear hK K;refine aK 12 fun K hK=>?_;go_simp
    refine mK ?_;clear hK K;refine aR zX ?_ _;go_wp2_with fail
    go_ret2
    rw [H5.o.1];exact⟨congrArg (fun b=>Ending.returned (.tuple #[.bool b,.int .i64 0])) HFI.o.symm,H5.o.2.2.1.trans hkz⟩
   ·rw [k4] at c0;have HK:=jJ k4;have hsg:((x.fmod X.d).sign==0)=(x.fmod X.d==0):=uU;have hfin:isR X x=(!((x.fmod X.d).sign==0)):=by
     unfold isR;rw [k4,if_neg zY,if_pos zY,hsg];simp
    clear hsg;have HFI:=jJ hfin;clear hfin;clear k4 k2;go_upto_region 12 with (fail)
    refine aX 13 [11,12] [36,37,38,39,40,41,42,43,44,45,46,4,5] [36,37,38,39,40,41,42,43,44,45,46] [Un (eT ?v3_0),Un (eT ?v3_1),Un (oD 176 25 [.bool gd',.slice ad' nd' cd'] w4.heap.size),Un (eT ?v3_3),Un (ZV Nil (x.fmod X.d)),Un (eT (.int .i64 (x.fmod X.d).sign)),Un (eT ?v3_6),Un (eT ?v3_7),Un (eT ?v3_8),Un (eT ?v3_9),Un (eT ?v3_10),nothing,nothing] (aB.sk (aB.sk (aB.nx ?r3_10 (aB.nx ?r3_9 (aB.nx ?r3_8 (aB.nx ?r3_7 (aB.nx ?r3_6 (aB.nx ?r3_5 (aB.nx ?r3_4 (aB.nx ?r3_3 (aB.nx ?r3_2 (aB.nx ?r3_1 (aB.nx ?r3_0 aB.zero))))))))))))) ?rfn3
    case' r3_0|r3_1|r3_2|r3_3|r3_4|r3_5|r3_6|r3_7|r3_8|r3_9|r3_10=>
     intro us wj hk hp K hK;try simp only [aQ,Act.put,sL] at hK⊢
     obtain ⟨f0,f1,f2,f3,f4,f5⟩:=(H4.o.2.1.keep hk id).eZ;rw [HK.o] at f0;obtain ⟨d0,d1,-,-⟩:=(H4.o.1.keep hk id).two
    case' r3_0|r3_3|r3_7=>
     go_simp
     refine hK.out _ _ (aA.refl _ _) ?_;exact rfl
    case' r3_1=>
     have e0:us 36=_:=hp 0;rw [e0] at hK⊢;go_simp
     refine hK.out _ _ (aA.refl _ _) ?_;exact rfl
    case' r3_2=>
     have e1:us 37=_:=hp 1;rw [e1] at hK⊢;go_simp
     refine (KD).mono ?_;rintro e wk ⟨v,rfl,⟨b,rfl,hr,hb⟩,hk2⟩;exact hK.out _ _ hk2 (⟨b,rfl,hr,bZ1 hk.size hb⟩)
    case' r3_4=>
     obtain ⟨b2,e2,h2,q2⟩:(oD 176 25 [.bool gd',.slice ad' nd' cd'] w4.heap.size) (us 38) wj:=hp 2;have e3:us 39=_:=hp 3;rw [e2,e3] at hK⊢;go_simp
     refine ((GA h2 (HD.o.1.eO hk) HD.o.2.1 HD.o.2.2.1).call Nil _ g3 a3 n3 c3 x (aA.refl _ _) (MB.nil _) (H5.o.2.1.eO hk) HD.o.2.2.2.1).mono ?_;rintro e wk ⟨g,a,n,c,rfl,h,hk2⟩;exact hK.out _ _ hk2 (⟨g,a,n,c,rfl,h⟩)
    case' r3_5=>
     obtain ⟨g4,a4,n4,c4,e4,h4⟩:(ZV Nil (x.fmod X.d)) (us 40) wj:=hp 4;rw [e4] at hK⊢;go_simp
     refine (kY (h4.zat (by have:=HD.o.r4;omega))).mono ?_;rintro e wk ⟨rfl,hk2⟩;exact hK.out _ _ hk2 (rfl)
    case' r3_6=>
     have e5:us 41=_:=hp 5;rw [e5] at hK⊢;go_simp
     refine hK.out _ _ (aA.refl _ _) ?_;exact rfl
    case' r3_8=>
     have e7:us 43=_:=hp 7;rw [e7] at hK⊢;go_simp
     refine hK.out _ _ (aA.refl _ _) ?_;exact rfl
    case' r3_9=>
     have e8:us 44=_:=hp 8;rw [e8] at hK⊢;go_simp
     refine hK.out _ _ (aA.refl _ _) ?_;exact rfl
    case' r3_10=>
     have e6:us 42=_:=hp 6;have e9:us 45=_:=hp 9;rw [e6,e9] at hK⊢;go_simp
     refine hK.out _ _ (aA.refl _ _) ?_;exact rfl
    case' rfn3=>
    intro us wz hkz hf;simp only [aQ,Act.put,sL];have e0:us 36=_:=hf 0;have e1:us 37=_:=hf 1;obtain ⟨b2,e2,h2,q2⟩:(oD 176 25 [.bool gd',.slice ad' nd' cd'] w4.heap.size) (us 38) wz:=hf 2;have e3:us 39=_:=hf 3;obtain ⟨g4,a4,n4,c4,e4,h4⟩:(ZV Nil (x.fmod X.d)) (us 40) wz:=hf 4;have e5:us 41=_:=hf 5;have e6:us 42=_:=hf 6;have e7:us 43=_:=hf 7;have e8:us 44=_:=hf 8;have e9:us 45=_:=hf 9;have e10:us 46=_:=hf 10;clear hf;simp only [e0,e1,e2,e3,e4,e5,e6,e7,e8,e9,e10];clear e0 e1 e2 e3 e4 e5 e6 e7 e8 e9 e10 us;refine aK 11 fun K hK=>?_;go_simp
    refine mK ?_;clear hK K;refine aK 12 fun K hK=>?_;go_simp
    refine mK ?_;clear hK K;refine aR zX ?_ _;go_wp2_with fail
    go_ret2
    rw [H5.o.1];exact⟨congrArg (fun b=>Ending.returned (.tuple #[.bool b,.int .i64 0])) HFI.o.symm,H5.o.2.2.1.trans hkz⟩
  ·have k2':(X.kind==2)=false:=by simp [k2]
   have k3':(X.kind==3)=false:=zV;have k4':(X.kind==4)=false:=zV;go_wp2_with fail
   go_ret2
   rw [H5.o.1];unfold isR;rw [if_neg k2,if_neg k34];exact⟨rfl,H5.o.2.2.1⟩
theorem aTL {vals:aM} {X:aY} (h:(iH vals X).2≠0):(iH vals X).1=false:=by
 unfold iH at h⊢;split at h
 ·rename_i h0;rw [if_pos h0];split at h
  ·rfl
  ·exact absurd rfl h
 ·rename_i h0;rw [if_neg h0]
def kD (f:Int→Option Bool) (kind:Int):List Int→Bool→Option Bool
 | [],out=>some out
 | k::l,out=>match f k with
  | none=>none
  | some b=>kD f kind l (if kind=5 then out&&b else out||b)
theorem JU {f g:Int→Option Bool} {kind:Int}:∀{l:List Int} {out:Bool},(∀k∈l,f k=g k)→kD f kind l out=kD g kind l out
 | [],_,_=>rfl
 | x::l,out,h=>by
  simp only [kD];rw [h x (kZ1 ..)];cases g x with
  | none=>rfl
  | some b=>exact JU fun k hk=>h k (lZ1 _ hk)
def iT (vals:aM) (L:List aS):Nat→Int→Option Bool
 | 0,_=>none
 | f+1,x=>
  if (L.getD x.toNat aP).kind=7∨(L.getD x.toNat aP).kind=8 then none
  else if (L.getD x.toNat aP).kind=5∨(L.getD x.toNat aP).kind=6 then kD (iT vals L f) (L.getD x.toNat aP).kind (L.getD x.toNat aP).kids (decide ((L.getD x.toNat aP).kind=5))
  else if (iH vals ⟨(L.getD x.toNat aP).kind,(L.getD x.toNat aP).d,(L.getD x.toNat aP).t⟩).2=0 then some (iH vals ⟨(L.getD x.toNat aP).kind,(L.getD x.toNat aP).d,(L.getD x.toNat aP).t⟩).1 else none
theorem aBC {vals:aM} {L:List aS} (hB:Below L):∀(f g:Nat) (x:Int),0≤x→x<(L.length:Int)→x.toNat<f→x.toNat<g→iT vals L f x=iT vals L g x
 | 0,_,_,_,_,h,_=>zZ
 | _,0,_,_,_,_,h=>zZ
 | f+1,g+1,x,h0,h1,hf,hg=>by
  simp only [iT];split
  ·rfl
  split
  ·refine JU fun k hk=>?_;have:=hB.kid h0 h1 hk;exact aBC hB f g k this.1 zZ zZ zZ
  ·rfl
structure aJS (N:aS):Prop where
 wee:Wee (bC N.t)
 d:eP N.d.natAbs≤536870912
 hold:XR (bJ ⟨N.kind,N.d,N.t⟩).2
def gX (f:Int→Int→Option (Bool × Int)) (kind:Int):List Int→Bool→Int→Option (Bool × Int)
 | [],out,left=>some (out,left)
 | k::l,out,left=>match f k (left-1) with
  | none=>none
  | some q=>gX f kind l (if kind=5 then out&&q.1 else out||q.1) q.2
theorem aBZ (f:Int→Int→Option (Bool × Int)) (kind:Int):∀(l:List Int) (k:Int) (out:Bool) (left:Int),gX f kind (l++[k]) out left=(gX f kind l out left).bind fun t=>(f k (t.2-1)).map fun q=>(if kind=5 then t.1&&q.1 else t.1||q.1,q.2)
 | [],k,out,left=>by
  simp only [iZ3,gX,Option.bind_some];cases f k (left-1)<;>rfl
 | x::l,k,out,left=>by
  simp only [hZ3,gX];cases f x (left-1) with
  | none=>rfl
  | some q=>exact aBZ f kind l k _ _
theorem aCC {f:Int→Int→Option (Bool × Int)} {kind:Int}:∀{l:List Int} {out:Bool} {left:Int},gX f kind l out left=none→∀m:List Int,gX f kind (l++m) out left=none
 | [],_,_,h,_=>by simp [gX] at h
 | q::l,out,left,h,m=>by
  simp only [hZ3,gX] at h⊢;cases hv:f q (left-1) with
  | none=>rfl
  | some x=>rw [hv] at h;exact aCC h m
theorem aAS {f g:Int→Int→Option (Bool × Int)} {kind:Int}:∀{l:List Int} {out:Bool} {left:Int},(∀k∈l,∀z,f k z=g k z)→gX f kind l out left=gX g kind l out left
 | [],_,_,_=>rfl
 | x::l,out,left,h=>by
  simp only [gX];rw [h x (kZ1 ..)];cases g x (left-1) with
  | none=>rfl
  | some b=>exact aAS fun k hk=>h k (lZ1 _ hk)
def jP (vals:aM) (L:List aS):Nat→Int→Int→Option (Bool × Int)
 | 0,_,_=>none
 | f+1,x,left=>
  if (L.getD x.toNat aP).kind=7∨(L.getD x.toNat aP).kind=8∨left≤0 then none
  else if (L.getD x.toNat aP).kind=5∨(L.getD x.toNat aP).kind=6 then gX (jP vals L f) (L.getD x.toNat aP).kind (L.getD x.toNat aP).kids (decide ((L.getD x.toNat aP).kind=5)) left
  else if (iH vals ⟨(L.getD x.toNat aP).kind,(L.getD x.toNat aP).d,(L.getD x.toNat aP).t⟩).2=0 then some ((iH vals ⟨(L.getD x.toNat aP).kind,(L.getD x.toNat aP).d,(L.getD x.toNat aP).t⟩).1,left-1) else none
theorem aBL {vals:aM} {L:List aS} (hB:Below L):∀(f g:Nat) (x left:Int),0≤x→x<(L.length:Int)→x.toNat<f→x.toNat<g→jP vals L f x left=jP vals L g x left
 | 0,_,_,_,_,_,h,_=>zZ
 | _,0,_,_,_,_,_,h=>zZ
 | f+1,g+1,x,left,h0,h1,hf,hg=>by
  simp only [jP];split
  ·rfl
  split
  ·refine aAS fun k hk z=>?_;have:=hB.kid h0 h1 hk;exact aBL hB f g k z this.1 zZ zZ zZ
  ·rfl
theorem aCP {f:Int→Int→Option (Bool × Int)} {kind:Int} (hf:∀k z q,f k z=some q→0≤q.2∧q.2≤z):∀{l:List Int} {out:Bool} {left:Int} {q:Bool × Int},0≤left→gX f kind l out left=some q→0≤q.2∧q.2≤left
 | [],_,_,_,h0,h=>by cases h;exact⟨h0,Int.le_refl _⟩
 | x::l,out,left,q,h0,h=>by
  simp only [gX] at h;cases hv:f x (left-1) with
  | none=>rw [hv] at h;cases h
  | some y=>
   rw [hv] at h;have h1:=hf _ _ _ hv;have h2:=aCP hf h1.1 h;omega
theorem aBJ {vals:aM} {L:List aS}:∀(f:Nat) (x left:Int) (q:Bool × Int),jP vals L f x left=some q→0≤q.2∧q.2≤left
 | 0,_,_,_,h=>wZ
 | f+1,x,left,q,h=>by
  simp only [jP] at h;split at h
  ·exact wZ
  rename_i h0;have hl:0<left:=zZ;split at h
  ·exact aCP (fun k z q=>aBJ f k z q) zZ h
  split at h
  ·cases h
   simp only;omega
  ·exact wZ
def aGF (o:Option (Bool × Int)) (w:World) (e:Ending) (w':World):Prop:=(∃z:Int,e=.returned (.tuple #[.bool ((o.map (·.1)).getD false),.bool o.isSome,.int .i64 z])∧∀p,o=some p→z=p.2)∧aA Nil w w'
theorem aRO {O M3 M4:Nat→Prop} {g gm:Nat} {A:aC} {vals:aM} {av:Option Addr} {nv cv:Nat} (hlen:A.nodes.length≤1000000) (hz:∀i,i<A.nodes.length→FQ (A.nodes.getD i aP)) (hH:∀i,i<A.nodes.length→aJS (A.nodes.getD i aP)) (hb:Below A.nodes) (hnv:nv≤1000000000) :
  ∀(i:Nat) (left:Int) (w:World),-1≤left→left≤3000→bW O w g gm A→bI M3 M4 w av nv cv vals→i<A.nodes.length →
  Calls prog 36 #[.pointer (some ⟨g,0,none⟩),.int .i64 (i:Int),.slice av nv cv,.int .i64 left] w fun e w'=>aGF (jP vals A.nodes (i+1) (i:Int) left) w e w':=by
 intro i;induction i using Nat.strongRecOn with
 | ind i ih=>
  intro left w hl0 hl1 hA hv hi;have hnode:=DL hA hi hlen (hz i hi);obtain ⟨N,hN⟩:∃N,N=A.nodes.getD i aP:=⟨_,rfl⟩;have hsz:=hz i hi;have hok:=hH i hi;rw [←hN] at hnode hsz hok;have hkb:∀k∈N.kids,0≤k∧k<(i:Int):=fun k hk=>hb i hi k (by rw [←hN];exact hk);have htr:jP vals A.nodes (i+1) (i:Int) left=if N.kind=7∨N.kind=8∨left≤0 then none else if N.kind=5∨N.kind=6 then gX (jP vals A.nodes i) N.kind N.kids (decide (N.kind=5)) left else if (iH vals ⟨N.kind,N.d,N.t⟩).2=0 then some ((iH vals ⟨N.kind,N.d,N.t⟩).1,left-1) else none:=by
   rw [hN];rfl
  have hfu:∀m:Nat,m<i→∀z,jP vals A.nodes (m+1) (m:Int) z=jP vals A.nodes i (m:Int) z:=fun m hm z=>aBL hb _ _ _ _ zZ zZ zZ zZ;obtain ⟨o,ho⟩:∃o,o=jP vals A.nodes (i+1) (i:Int) left:=⟨_,rfl⟩;rw [←ho] at htr⊢;obtain ⟨kd,hkd⟩:∃kd,kd=N.kind:=⟨_,rfl⟩;rw [←hkd] at htr;have hok2:Wee (bC N.t)∧eP N.d.natAbs≤536870912∧XR (bJ ⟨kd,N.d,N.t⟩).2:=by rw [hkd];exact⟨hok.wee,hok.d,hok.hold⟩
  have hTl:=fun (m left:Int) (q:Bool × Int)=>aBJ (vals:=vals) (L:=A.nodes) i m left q;obtain ⟨T,hT⟩:∃T,T=jP vals A.nodes i:=⟨_,rfl⟩;rw [←hT] at htr hfu hTl;have HA:=jJ (aI5 hA hi hnode hkb ih);have HB:=jJ (aI6 hv hsz hok2 htr hfu hTl);have HKD:=jJ hkd;clear hA hi hnode hkb ih hv hsz hok hok2 htr hfu hTl ho hN hkd hT hz hH hb;go_enter func36,ntmps36
  go_upto_region 2 with (go_at_call 23;refine HA.o.2.2.1.mono ?_;rintro e w1 ⟨gd,ad,nd,cd,ap,np,cp,gk,ak,nk,ck,aq,nq,cq,els,rfl,ha,ho,hq,hk1⟩;rw [←HKD.o];have H1:=jJ (aI3 ha hq hk1);clear ha ho hq hk1)
  have r7:=aF.alloc (w:=w1) (E:=59) (xs:=[.int .i64 kd,.bool gd,.slice ad nd cd,.slice ap np cp,.bool gk,.slice ak nk ck,.int .i64 N.var,.slice aq nq cq]);change aF (w1.alloc (.cells #[.int .i64 kd,.bool gd,.slice ad nd cd,.slice ap np cp,.bool gk,.slice ak nk ck,.int .i64 N.var,.slice aq nq cq] 59)) _ _ _ at r7;have k7:aA Nil w1 (w1.alloc (.cells #[.int .i64 kd,.bool gd,.slice ad nd cd,.slice ap np cp,.bool gk,.slice ak nk ck,.int .i64 N.var,.slice aq nq cq] 59)):=kOf;generalize w1.alloc (.cells #[.int .i64 kd,.bool gd,.slice ad nd cd,.slice ap np cp,.bool gk,.slice ak nk ck,.int .i64 N.var,.slice aq nq cq] 59)=w2 at *
  have hnq:N.kids.length=nq:=by
   obtain ⟨a',c',e⟩:=H1.o.2.1.isSlice;rw [aJ] at e;cases e;rfl
  have hks:cE Nil w2 aq nq cq N.kids:=(kG (M:=Nil) H1.o.2.1 (fun _ _ h=>h) hnq).eO k7;have hcap:=eU.cap hks;have hle:=eU.le hks;obtain ⟨d0,d1,d2,d3,d4,d5,d6,d7⟩:=r7.fV;have H2:=jJ (aI5 r7 (H1.o.2.2.trans k7) hks hnq k7);clear r7 k7 hks hnq;by_cases h78:kd=7∨kd=8∨left≤0
  ·have hno:o=none:=by rw [HB.o.2.2.2.1,if_pos h78]
   have HN:=jJ hno;clear hno;by_cases h7:kd=7
   ·subst h7;clear h78;go_wp2_with fail
    go_ret3
    rw [HN.o];exact⟨⟨0,rfl,fun p hp=>xC⟩,H2.o.2.1⟩
   have n7:(kd==7)=false:=zV;by_cases h8:kd=8
   ·subst h8;clear h78;go_wp2_with fail
    go_ret3
    rw [HN.o];exact⟨⟨0,rfl,fun p hp=>xC⟩,H2.o.2.1⟩
   have n8:(kd==8)=false:=zV;have nl:left≤0:=zZ;clear h78 h7 h8;go_wp2_with fail
   go_ret3
   rw [HN.o];exact⟨⟨0,rfl,fun p hp=>xC⟩,H2.o.2.1⟩
  have n7:(kd==7)=false:=zV;have n8:(kd==8)=false:=zV;have nl:¬left≤0:=zZ;by_cases h56:¬(kd=5∨kd=6)
  ·have hno:o=if (iH vals ⟨kd,N.d,N.t⟩).2=0 then some ((iH vals ⟨kd,N.d,N.t⟩).1,left-1) else none:=by rw [HB.o.2.2.2.1,if_neg h78,if_neg h56]
   have n5:(kd != 5)=true:=zV;have n6:(kd != 6)=true:=zV;have hpr:bI (Old w) (Old w) w2 ap np cp N.t.parts:=(cV.raw H1.o.1.t.1 HB.o.2.1.nums).eO H2.o.r4;have hkr:ZAt Nil w2 gk ak nk ck N.t.k:=(H1.o.1.t.2.zat (by have:=HB.o.2.1.k;omega)).eO H2.o.r4;have hdr:ZAt Nil w2 gd ad nd cd N.d:=(H1.o.1.d.zat (by have:=HB.o.2.1.d;omega)).eO H2.o.r4;have hnp:np≤16777216:=by have h3:=eU.len hpr;have h4:=HB.o.2.1.parts;omega
   have hnk:nk≤1073741824:=by have h3:=H1.o.1.t.2.len;have h4:=HB.o.2.1.k;omega
   have hh:=aTN (k:=kd) hdr hpr hkr hnp hnk HB.o.2.2.1.1 HB.o.2.2.1.2.1 (HB.o.1.eO H2.o.2.1) hnv HB.o.2.2.1.2.2;obtain ⟨r,hr⟩:∃r,r=iH vals ⟨kd,N.d,⟨N.t.parts,N.t.k⟩⟩:=⟨_,rfl⟩;rw [←hr] at hh;have hre:r.2≠0→r.1=false:=fun h=>by rw [hr] at h⊢;exact aTL h
   have hno2:o=if r.2=0 then some (r.1,left-1) else none:=by rw [hr];exact hno
   obtain ⟨rb,re⟩:=r;simp only at hh hre hno2;have HH:=jJ (aI3 hh hre hno2);clear hpr hkr hdr hnp hnk hh hr hre hno2 hno h78 h56;go_wp2_with (go_at_call 87;go_loud (refine HH.o.1.mono ?_;rintro e w5 ⟨rfl,hk5⟩;have H5:=jJ hk5;clear hk5))
   go_ret3
   have hfin:Ending.returned (.tuple #[.bool rb,.bool (re==0),.int .i64 (left-1)])=Ending.returned (.tuple #[.bool ((o.map (·.1)).getD false),.bool o.isSome,.int .i64 (left-1)]):=by
    rw [HH.o.2.2];by_cases h0:re=0
    ·rw [if_pos h0,h0];rfl
    ·rw [if_neg h0,HH.o.2.1 h0,show (re==0)=false by simp [h0]];rfl
   refine ⟨⟨left-1,hfin,fun p hp=>?_⟩,H2.o.2.1.trans H5.o⟩;rw [HH.o.2.2] at hp;split at hp
   ·cases hp;rfl
   ·exact xC
  have h56':=Decidable.not_not.1 h56;have hno:o=gX T kd N.kids (decide (kd=5)) left:=by rw [HB.o.2.2.2.1,if_neg h78,if_pos h56']
  have HO:=jJ hno;clear hno h78 h56;rcases h56' with rfl|rfl
  ·have HO5:=jJ (show o=gX T 5 N.kids true left from HO.o);clear HO;go_wp2_with fail
   go_loopw [3,15,16] (fun lv ov iv wr=>∃(j:Nat) (out:Bool) (lf:Int),j≤nq∧iv=.int .i64 (j:Int)∧ov=.bool out∧lv=.int .i64 lf∧0≤lf∧lf≤3000∧gX T 5 (N.kids.take j) true left=some (out,lf)∧aA Nil w2 wr) (fun _ _ iv _=>nq-(intOf iv).toNat)
   case atStart=>exact⟨0,true,left,aZ2 _,rfl,rfl,rfl,zZ,zZ,rfl,aA.refl _ _⟩
   case round=>
    obtain ⟨j,out,lf,hj,rfl,rfl,rfl,hlf0,hlf1,hkt,hkr⟩:=hrel;have rr:=H2.o.1.keep hkr id;obtain ⟨d0,d1,d2,d3,d4,d5,d6,d7⟩:=rr.fV;have HRR:=jJ rr;clear rr;by_cases hlt:j<nq
    ·obtain ⟨b,off,rfl,ck'⟩:=bA (H2.o.2.2.1.eO hkr) hlt;have hjl:j<N.kids.length:=by rw [H2.o.2.2.2.1];exact hlt
     have hkj:=HA.o.2.2.2.1 (N.kids.getD j 0) (cK 0 hjl);obtain ⟨m,hm⟩:∃m:Nat,N.kids.getD j 0=(m:Int):=⟨(N.kids.getD j 0).toNat,zZ⟩;have hsn:gX T 5 (N.kids.take (j+1)) true left=(T (m:Int) (lf-1)).map fun q=>(if (5:Int)=5 then out&&q.1 else out||q.1,q.2):=rU;have hdr:gX T 5 N.kids true left=gX T 5 (N.kids.take (j+1)++N.kids.drop (j+1)) true left:=by rw [aZ3]
     rw [hm] at ck' hkj;have hmi:m<i:=zZ;have j0:(0:Int)≤(j:Int):=zZ;have j1:(j:Int)<(nq:Int):=zZ;have hcall:=HA.o.r4 m hmi (lf-1) wr zZ zZ (HA.o.1.keep (H2.o.2.1.trans hkr) fun _ h=>h.elim) (HB.o.1.eO (H2.o.2.1.trans hkr)) (by have:=HA.o.2.1;omega);rw [HB.o.r4.1 m hmi] at hcall;have htl:=HB.o.r5 (m:Int) (lf-1);obtain ⟨t,ht⟩:∃t,t=T (m:Int) (lf-1):=⟨_,rfl⟩;rw [←ht] at hcall hsn htl;have HC:=jJ (aI4 hcall hkr hsn hdr);have HTL:=jJ htl;clear hcall hkr hkt hm hkj hmi hsn hdr ht htl;cases t with
     | none=>
      go_wp2_with (go_at_call 36;refine HC.o.1.mono ?_;rintro e w5 ⟨⟨z,rfl,-⟩,hk5⟩;have H5:=jJ hk5;clear hk5;rw [show ((none:Option (Bool × Int)).map (·.1)).getD false=false from rfl,show (none:Option (Bool × Int)).isSome=false from rfl])
      go_ret3
      have hno:o=none:=oT;rw [hno];exact⟨⟨0,rfl,fun p hp=>xC⟩,H2.o.2.1.trans (HC.o.2.1.trans H5.o)⟩
     | some q=>
      obtain ⟨bb,lz⟩:=q;have hlz:=HTL.o (bb,lz) rfl;simp only at hlz;have z0:0≤lz:=hlz.1;have z1:lz≤3000:=zZ;clear hlz;cases out<;>cases bb
      ·exact zP
      ·go_wp2_with (go_at_call 36;refine HC.o.1.mono ?_;rintro e w5 ⟨⟨z,rfl,hz⟩,hk5⟩;obtain rfl:z=lz:=hz _ rfl;have rr:=HRR.o.keep hk5 id;obtain ⟨x0,x1,x2,x3,x4,x5,x6,x7⟩:=rr.fV;have H5:=jJ hk5;clear hk5 rr hz;rw [show ((some (true,z):Option (Bool × Int)).map (·.1)).getD false=true from rfl,show (some (true,z):Option (Bool × Int)).isSome=true from rfl])
       go_roundw
       case rel=>exact oM
       case measure=>exact zI
      ·exact zP
      ·exact zO
    ·exact yR
  ·have HO5:=jJ (show o=gX T 6 N.kids false left from HO.o);clear HO;go_wp2_with fail
   go_loopw [3,15,16] (fun lv ov iv wr=>∃(j:Nat) (out:Bool) (lf:Int),j≤nq∧iv=.int .i64 (j:Int)∧ov=.bool out∧lv=.int .i64 lf∧0≤lf∧lf≤3000∧gX T 6 (N.kids.take j) false left=some (out,lf)∧aA Nil w2 wr) (fun _ _ iv _=>nq-(intOf iv).toNat)
   case atStart=>exact⟨0,false,left,aZ2 _,rfl,rfl,rfl,zZ,zZ,rfl,aA.refl _ _⟩
   case round=>
    obtain ⟨j,out,lf,hj,rfl,rfl,rfl,hlf0,hlf1,hkt,hkr⟩:=hrel;have rr:=H2.o.1.keep hkr id;obtain ⟨d0,d1,d2,d3,d4,d5,d6,d7⟩:=rr.fV;have HRR:=jJ rr;clear rr;by_cases hlt:j<nq
    ·obtain ⟨b,off,rfl,ck'⟩:=bA (H2.o.2.2.1.eO hkr) hlt;have hjl:j<N.kids.length:=by rw [H2.o.2.2.2.1];exact hlt
     have hkj:=HA.o.2.2.2.1 (N.kids.getD j 0) (cK 0 hjl);obtain ⟨m,hm⟩:∃m:Nat,N.kids.getD j 0=(m:Int):=⟨(N.kids.getD j 0).toNat,zZ⟩;have hsn:gX T 6 (N.kids.take (j+1)) false left=(T (m:Int) (lf-1)).map fun q=>(if (6:Int)=5 then out&&q.1 else out||q.1,q.2):=rU;have hdr:gX T 6 N.kids false left=gX T 6 (N.kids.take (j+1)++N.kids.drop (j+1)) false left:=by rw [aZ3]
     rw [hm] at ck' hkj;have hmi:m<i:=zZ;have j0:(0:Int)≤(j:Int):=zZ;have j1:(j:Int)<(nq:Int):=zZ;have hcall:=HA.o.r4 m hmi (lf-1) wr zZ zZ (HA.o.1.keep (H2.o.2.1.trans hkr) fun _ h=>h.elim) (HB.o.1.eO (H2.o.2.1.trans hkr)) (by have:=HA.o.2.1;omega);rw [HB.o.r4.1 m hmi] at hcall;have htl:=HB.o.r5 (m:Int) (lf-1);obtain ⟨t,ht⟩:∃t,t=T (m:Int) (lf-1):=⟨_,rfl⟩;rw [←ht] at hcall hsn htl;have HC:=jJ (aI4 hcall hkr hsn hdr);have HTL:=jJ htl;clear hcall hkr hkt hm hkj hmi hsn hdr ht htl;cases t with
     | none=>
      go_wp2_with (go_at_call 36;refine HC.o.1.mono ?_;rintro e w5 ⟨⟨z,rfl,-⟩,hk5⟩;have H5:=jJ hk5;clear hk5;rw [show ((none:Option (Bool × Int)).map (·.1)).getD false=false from rfl,show (none:Option (Bool × Int)).isSome=false from rfl])
      go_ret3
      have hno:o=none:=oT;rw [hno];exact⟨⟨0,rfl,fun p hp=>xC⟩,H2.o.2.1.trans (HC.o.2.1.trans H5.o)⟩
     | some q=>
      obtain ⟨bb,lz⟩:=q;have hlz:=HTL.o (bb,lz) rfl;simp only at hlz;have z0:0≤lz:=hlz.1;have z1:lz≤3000:=zZ;clear hlz;cases out<;>cases bb
      ·exact zP
      ·exact zO
      ·go_wp2_with (go_at_call 36;refine HC.o.1.mono ?_;rintro e w5 ⟨⟨z,rfl,hz⟩,hk5⟩;obtain rfl:z=lz:=hz _ rfl;have rr:=HRR.o.keep hk5 id;obtain ⟨x0,x1,x2,x3,x4,x5,x6,x7⟩:=rr.fV;have H5:=jJ hk5;clear hk5 rr hz;rw [show ((some (false,z):Option (Bool × Int)).map (·.1)).getD false=false from rfl,show (some (false,z):Option (Bool × Int)).isSome=true from rfl])
       go_roundw
       case rel=>exact oL
       case measure=>exact zI
      ·exact zO
    ·exact yR
end Go.Proofs.Q
