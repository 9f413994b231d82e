/- What the library's DeleteFunc does at one's own parts, with Without's closure. -/
import Derived.Test.YtlldghknenbccaaGreatDoorRArenasA
set_option linter.unusedSimpArgs false
set_option linter.unusedVariables false
set_option maxRecDepth 100000
set_option maxHeartbeats 8000000
namespace Go.Proofs.Q
open Go.RowKit Tryz
section
variable {E:TypeId} {w:World} {ds cs:List Value} {B k c:Nat} {a:Option Addr} {y:Int}
abbrev PZ:=List Value × (Int × Int)
def mX (zs:List PZ):Prop:=∀z∈zs,∃g a n c,z.1=[.int .i64 z.2.1,.bool g,.slice a n c]
def jI (zs:List PZ):List Value:=(zs.map (·.1)).flatten
def zAt (zs:List PZ) (i:Nat):PZ:=zs.getD i ([],(0,0))
theorem mX.len {zs:List PZ} (h:mX zs):∀c∈zs.map (·.1),c.length=3:=fun c hc=>by
 obtain ⟨z,hz,rfl⟩:=iZ2.1 hc;obtain ⟨g,a,n,c,e⟩:=h z hz;rw [e];rfl
theorem aPO {zs:List PZ} (h:mX zs):(jI zs).length=zs.length*3:=by
 unfold jI;rw [bL _ h.len,hZ1]
theorem mX.at {zs:List PZ} (h:mX zs) {i:Nat} (hi:i<zs.length) (rest:List Value):∃g a n c,(zAt zs i).1=[.int .i64 (zAt zs i).2.1,.bool g,.slice a n c]∧(jI zs++rest)[i*3]?=some (.int .i64 (zAt zs i).2.1)∧(jI zs++rest)[i*3+1]?=some (.bool g)∧(jI zs++rest)[i*3+2]?=some (.slice a n c):=by
 have hm:zAt zs i∈zs:=by rw [show zAt zs i=zs[i] by simp [zAt,List.getD,hi]];exact List.getElem_mem _
 obtain ⟨g,a,n,c,e⟩:=h _ hm;have hl:=aPO h;have hg:∀j,j<3→(jI zs++rest)[i*3+j]?=some ((zAt zs i).1.getD j undef):=fun j hj=>by
  rw [List.getElem?_append_left zZ];have:=DI (zs.map (·.1)) h.len i j (by rw [hZ1];exact hi) hj;rw [show (zs.map (·.1)).getD i []=(zAt zs i).1 by simp [zAt,List.getD,hi]] at this;exact this
 rw [e] at hg;exact⟨g,a,n,c,e,hg 0 zY,hg 1 zY,hg 2 zY⟩
def kM (y:Int) (zs:List PZ):List PZ:=zs.filter fun z=>!(z.2.1==y)
theorem aCA (y:Int) (zs:List PZ) (z:PZ):kM y (zs++[z])=if z.2.1=y then kM y zs else kM y zs++[z]:=by
 unfold kM;rw [List.filter_append];by_cases h:z.2.1=y<;>simp [h]
theorem aCI {zs:List PZ} (h:∀j,j<zs.length→(zAt zs j).2.1≠y):kM y zs=zs:=List.filter_eq_self.2 fun x hx=>by
 obtain ⟨i,hi,rfl⟩:=jZ3 hx;have:=h i hi;simp [zAt,List.getD,hi] at this;simpa using this
theorem mX.kM {zs:List PZ} (h:mX zs) (y:Int):mX (kM y zs):=fun z hz=>h z (kZ3.1 hz).1
theorem aVU (zs:List PZ) (z:PZ):jI (zs++[z])=jI zs++z.1:=by simp [jI]
theorem aVK {zs:List PZ} (h:mX zs) (k:Nat):jI (zs.take k)=(jI zs).take (k*3):=by
 induction k generalizing zs with
 | zero=>simp [jI]
 | succ k ih=>
  cases zs with
  | nil=>simp [jI]
  | cons z zs=>
   obtain ⟨g,a,n,c,e⟩:=h z (kZ1 ..);have ih:=ih (zs:=zs) fun x hx=>h x (lZ1 _ hx);have e1:∀l:List PZ,jI (z::l)=z.1++jI l:=fun l=>by simp [jI]
   rw [List.take_succ_cons,e1,e1,ih,e,show (k+1)*3=k*3+1+1+1 by omega];rfl
theorem aUJ (h:k*3+3≤ds.length) (a b c:Value):(((ds.set (k*3) a).set (k*3+1) b).set (k*3+2) c).take ((k+1)*3)=ds.take (k*3)++[a,b,c]:=by
 rw [show (k+1)*3=k*3+1+1+1 by omega];rw [List.take_succ_eq_append_getElem zV,List.take_set_of_le (bZ2 _),List.getElem_set_self,List.take_succ_eq_append_getElem zV,List.take_set_of_le (bZ2 _),List.getElem_set_self,List.take_succ_eq_append_getElem zV,List.take_set_of_le (bZ2 _),List.getElem_set_self];simp
theorem aL.bDG {n:Nat} {zs:List PZ} (h:aL w B E 3 (.slice a n c) (zs.map (·.1))) (hn:zs.length=n) (h0:0<n):∃g cs,a=some ⟨g,0,none⟩∧B≤g∧aF w g E cs∧c*3≤cs.length∧n≤c∧c≤maxLen∧cs.take (n*3)=jI zs:=by
 rcases h.row.2 with ⟨e,hx⟩|⟨g,cap,cur,e,hb,hg,hnc,hcm,hcs,htake⟩
 ·rw [hZ1] at hx;omega
 ·obtain ⟨rfl,-,rfl⟩:a=some ⟨g,0,none⟩∧n=(zs.map (·.1)).length∧c=cap:=by simpa using e
  rw [hZ1,hn] at htake hnc;exact⟨g,cur.toList,rfl,hb,by unfold aF;simpa using hg,by simpa using hcs,hnc,hcm,htake⟩
theorem aL.bBP {g:Nat} {zs:List PZ} (hb:B≤g) (h:aF w g E cs) (hl:c*3≤cs.length) (hz:mX zs) (hk:zs.length=k) (hc:k≤c) (hm:c≤maxLen) (ht:cs.take (k*3)=jI zs):aL w B E 3 (.slice (some ⟨g,0,none⟩) k c) (zs.map (·.1)):=by
 refine ⟨⟨by rw [bL _ hz.len],.inr ⟨g,c,cs.toArray,by rw [hZ1,hk],hb,h,by rw [hZ1,hk];exact hc,hm,sQ,?_⟩⟩,hz.len⟩;rw [hZ1,hk];exact ht
end
section
variable {w:World} {a:Option Addr} {gn c g n B:Nat} {y:Int} {rest xs cn:List Value} {E T:TypeId} {f v:Value}
def IX (n:Nat):List Value:=(Builtin.zeroCells (Value.agg #[.int .i64 0,.bool false,.slice none 0 0]).cells n).toList
theorem ZO (n:Nat):(IX n).length=n*3:=by simp [IX,Builtin.zeroCells,Value.cells]
theorem aLM (h:aF w g E xs) {o:Nat} (hn:0<n) (hfit:o+n*3≤xs.length) (ty:TypeId) :
  (Builtin.clear_ #[22] ty #[.slice (some ⟨g,o,none⟩) n c]).run prog w=.ok (.tuple #[]) (w.setCells g o (IX n)):=by
 have hl:=ZO n;unfold IX at *
 have hst:=run_storeCells_cells (P:=prog) g o (Builtin.zeroCells (Value.agg #[.int .i64 0,.bool false,.slice none 0 0]).cells n).toList 0 w (fun j hj=>by rw [h.cell,jZ2 zZ];rfl) (fun j hj=>h.frozen _) (by
  intro v hv;obtain ⟨i,hi,rfl⟩:=List.mem_iff_getElem.1 hv;simp only [Builtin.zeroCells,Value.cells] at hi⊢;simp;have:i % 3<3:=Nat.mod_lt _ zY;rcases (show i % 3=0∨i % 3=1∨i % 3=2 by omega) with e|e|e<;>simp [e,Value.cells,Value.oneCell'])
 simp only [Nat.add_zero] at hst;obtain ⟨m,rfl⟩:∃m,n=m+1:=⟨n-1,zZ⟩;simp [Builtin.clear_,run_underlying underlying22,zeroValue96,hst]
theorem MV {x:Int} {g:Bool} (hg:gn<w.heap.size) (h:w.cell? ⟨gn,0,none⟩=some (.int .i64 y)) :
  Calls prog 104 #[.agg #[.int .i64 x,.bool g,.slice a n c],.pointer (some ⟨gn,0,none⟩)] w fun e w'=>e=.returned (.bool (x==y))∧aA Nil w w':=by
 go_enter func104,ntmps104
 go_wp2_with fail
 go_ret
 exact⟨rfl,kOf⟩
def aKP (zs:List PZ) (y:Int):Nat→Prop:=fun i=>i<zs.length∧(zAt zs i).2.1=y∧∀j,j<i→(zAt zs j).2.1≠y
theorem aLT {zs:List PZ} (hr:aF w g 96 (jI zs++rest)) (hz:mX zs) (hg:gn<w.heap.size) (h:w.cell? ⟨gn,0,none⟩=some (.int .i64 y)) (h1:zs.length≤c) (h2:c≤9223372036854775807) :
  Calls prog 142 #[.slice (some ⟨g,0,none⟩) zs.length c,.func (.func 104) #[] #[.pointer (some ⟨gn,0,none⟩)]] w fun e w'=>(∃r:Int,e=.returned (.int .i64 r)∧((r=-1∧∀j,j<zs.length→(zAt zs j).2.1≠y)∨∃i:Nat,r=i∧aKP zs y i))∧aA Nil w w':=by
 have HR:=jJ (aI hr hz);have HN:=jJ h;clear hr h hz;generalize hn:zs.length=n at *
 have HL:=jJ hn;clear hn;go_enter func142,ntmps142
 go_wp2_with fail
 go_loopw [8] (fun i wr=>∃k:Nat,i=.int .i64 k∧k≤n∧(∀j,j<k→(zAt zs j).2.1≠y)∧aA Nil w wr) (fun i _=>n-(intOf i).toNat)
 case atStart=>exact xW
 case round=>
  obtain ⟨k,rfl,hk,hj,hkr⟩:=hrel;have HK:=jJ (aI hj hkr);clear hj hkr;by_cases hkn:k<n
  ·obtain ⟨s,a,m,d,-,q0,q1,q2⟩:=HR.o.2.at (i:=k) (by rw [HL.o];exact hkn) rest;have hrr:=HR.o.1.keep HK.o.2 id;have c0:=(hrr.cell (k*3)).trans q0;have c1:=(hrr.cell (k*3+1)).trans q1;have c2:=(hrr.cell (k*3+2)).trans q2;have hgr:g<wr.heap.size:=hrr.lt;have hnr:gn<wr.heap.size:=cZ1 hg HK.o.2.size;obtain ⟨x,hx⟩:∃x,x=(zAt zs k).2.1:=⟨_,rfl⟩;rw [←hx] at c0;have HX:=jJ hx;clear hx q0 q1 q2 hrr;by_cases hxy:x=y
   ·have e:(x==y)=true:=by simpa using hxy
    have HXY:=jJ hxy;clear hxy;go_wp2_with (go_at_call 104;refine (MV (w:=wr) (x:=x) hnr (HK.o.2.eY hg id HN.o)).mono ?_;rintro e w1 ⟨rfl,hk1⟩;try rw [e])
    go_ret
    have hid:aKP zs y k:=vD;exact⟨⟨(k:Int),rfl,.inr ⟨k,rfl,hid⟩⟩,HK.o.2.trans hk1⟩
   ·have e:(x==y)=false:=by simpa using hxy
    go_wp2_with (go_at_call 104;refine (MV (w:=wr) (x:=x) hnr (HK.o.2.eY hg id HN.o)).mono ?_;rintro e w1 ⟨rfl,hk1⟩;try rw [e])
    go_roundw
    case rel=>exact oX
    case measure=>exact zI
  ·exact vG
theorem aLC:Calls prog 142 #[.slice a 0 c,f] w fun e w'=>e=.returned (.int .i64 (-1))∧aA Nil w w':=by
 go_enter func142,ntmps142
 go_wp2_with fail
 refine wp_loop_rounds 1 ?_;rw [rounds_succ];go_wp2_with fail
 go_ret
 exact⟨rfl,kOf⟩
theorem aPS {zs:List PZ} (h:aL w B 96 3 v (zs.map (·.1))) (hz:mX zs) (hl:zs.length≤1000000000) (hn:aF w gn T cn) (hT:(96:TypeId)≠T) (hy:cn[0]?=some (.int .i64 y)) :
  Calls prog 103 #[v,.func (.func 104) #[] #[.pointer (some ⟨gn,0,none⟩)]] w fun e w'=>∃v',e=.returned v'∧aL w' B 96 3 v' ((kM y zs).map (·.1))∧v'.ownBlock=v.ownBlock∧aA (Own v) w w':=by
 obtain ⟨a,c,rfl⟩:=h.isSlice;have hnl:(zs.map (·.1)).length=zs.length:=hZ1 ..;rw [hnl] at h⊢;rcases Nat.eq_zero_or_pos zs.length with h0|h0
 ·obtain rfl:zs=[]:=fZ1 h0;have HO:=jJ h;clear h hn hy hnl;simp only [gZ2];go_enter func103,ntmps103
  go_wp2_with (go_at_call 142;refine aLC.mono ?_;rintro e w1 ⟨rfl,hk1⟩)
  go_ret
  exact⟨_,rfl,HO.o.eO hk1,rfl,hk1.of_nil⟩
 ·have hown:=h;obtain ⟨g,cs,rfl,hb,hr,hcl,hnc,hcm,htake⟩:=h.bDG rfl h0;have hne:gn≠g:=fun e=>wM;have hrow:aF w g 96 (jI zs++cs.drop (zs.length*3)):=rD;have hidx:=aLT (gn:=gn) (y:=y) hrow hz hn.lt (by rw [hn.cell];exact hy) hnc wU;have HI:=jJ hidx;have HR:=jJ (aI8 hr hcl hcm htake hb hown hn hy);have HZ:=jJ hz;clear hidx hr hcl htake hrow h hown hn hy hz;generalize hzl:zs.length=n at *
  have HL:=jJ hzl;clear hzl hnl;go_enter func103,ntmps103
  go_upto_region 2 with (go_at_call 142;refine HI.o.mono ?_;rintro e w1 ⟨⟨r,rfl,hr⟩,hk1⟩;have H1:=jJ (aI hr hk1);clear hr hk1)
  rcases H1.o.1 with ⟨rfl,hno⟩|⟨i,rfl,hid⟩
  ·have HNO:=jJ hno;clear hno;go_wp2_with fail
   go_ret
   have e:kM y zs=zs:=aCI fun j hj=>HNO.o j (by rw [←HL.o];exact hj);exact⟨_,rfl,tQ,rfl,H1.o.2.of_nil⟩
  ·have hin:i<n:=by have:=hid.1;rw [HL.o] at this;exact this
   have hne1:((i:Int)==-1)=false:=zW;have hstart:kM y (zs.take (i+1))=zs.take i:=by
    have h1:i<zs.length:=hid.1;rw [List.take_succ_eq_append_getElem h1,aCA,if_pos (by have:=hid.2.1;simpa [zAt,List.getD,h1] using this)];refine aCI fun j hj=>?_;have hj':j<i:=by rw [iZ1] at hj;omega
    have h2:=hid.2.2 j hj';simpa [zAt,List.getD,List.getElem?_take,hj'] using h2
   have HST:=jJ hstart;clear hid hstart;go_wp2_with fail
   go_loopw [5,6] (fun u v wr=>∃(k j:Nat) (ds:List Value),u=.int .i64 k∧v=.int .i64 j∧k<j∧j≤n∧aF wr g 96 ds∧ds.length=cs.length∧ds.take (k*3)=jI (kM y (zs.take j))∧(kM y (zs.take j)).length=k∧(∀t,j*3≤t→t<n*3→ds[t]?=(jI zs)[t]?)∧aA (One g) w wr) (fun _ v _=>n-(intOf v).toNat)
   case atStart=>
    refine ⟨i,i+1,cs,rfl,zF,zZ,hin,HR.o.1.keep H1.o.2 id,rfl,?_,?_,fun t _ ht=>?_,H1.o.2.of_nil⟩
    ·rw [HST.o,aVK HZ.o,←HR.o.2.2.2.1,List.take_take,Nat.min_eq_left zZ]
    ·rw [HST.o,iZ1,HL.o];omega
    ·rw [←HR.o.2.2.2.1,List.getElem?_take,if_pos ht]
   case round=>
    obtain ⟨k,j,ds,rfl,rfl,hkj,hjn,hds,hdl,htk,hwl,hrest,hkr⟩:=hrel;have hnw:aF wr gn T cn:=HR.o.r6.1.keep hkr (show ¬gn=g from hne);have hgw:=hds.lt;have hnlt:=hnw.lt;by_cases hlt:j<n
    ·have hjl:j<zs.length:=by rw [HL.o];exact hlt
     obtain ⟨s,a,m,d,hz1,q0,q1,q2⟩:=HZ.o.at hjl [];rw [fZ2] at q0 q1 q2;have c0:=(hds.cell (j*3)).trans ((hrest (j*3) (bZ2 _) zZ).trans q0);have c1:=(hds.cell (j*3+1)).trans ((hrest (j*3+1) zZ zZ).trans q1);have c2:=(hds.cell (j*3+2)).trans ((hrest (j*3+2) zZ zZ).trans q2);obtain ⟨x,hx⟩:∃x,x=(zAt zs j).2.1:=⟨_,rfl⟩;rw [←hx] at c0 hz1;have htj:zs.take (j+1)=zs.take j++[zAt zs j]:=by
      rw [List.take_succ_eq_append_getElem hjl];simp [zAt,List.getD,hjl]
     have hw:=aCA y (zs.take j) (zAt zs j);rw [←htj,←hx] at hw;have hkl:k*3+3≤ds.length:=by rw [hdl];have:=HR.o.2.1;omega
     have HW:=jJ (FU hw hds hdl htk hwl hrest hkr hnw hz1 hkl);clear hw hds hdl htk hwl hrest hkr hnw hx htj q0 q1 q2 hz1 hkl;go_upto_region 8 with (fail)
     obtain ⟨wb,eb,kb,rb⟩:=bx1 wr 96 [.int .i64 x,.bool s,.slice a m d];rw [eb];clear eb;obtain ⟨d0,d1,d2⟩:=rb.three;have hgb:g<wb.heap.size:=cZ1 hgw kb.size;have hnb:gn<wb.heap.size:=cZ1 hnlt kb.size;have HB:=jJ (aI kb rb);clear kb rb c0 c1 c2;by_cases hxy:x=y
     ·have e:(x==y)=true:=by simpa using hxy
      have HXY:=jJ hxy;clear hxy;go_wp2_with (go_at_call 104;refine (MV (w:=wb) (x:=x) (y:=y) hnb rH).mono ?_;rintro e' w3 ⟨rfl,hk3⟩;try rw [e];have H3:=jJ (HB.o.1.trans hk3);clear hk3)
      go_roundw
      case rel=>exact pA
      case measure=>exact zI
     ·have e:(x==y)=false:=by simpa using hxy
      have HXY:=jJ hxy;clear hxy;obtain ⟨u0,hu0⟩:∃v0,ds[k*3]?=some v0:=⟨_,jZ2 pQ⟩;obtain ⟨u1,hu1⟩:∃v0,ds[k*3+1]?=some v0:=⟨_,jZ2 pQ⟩;obtain ⟨u2,hu2⟩:∃v0,ds[k*3+2]?=some v0:=⟨_,jZ2 pQ⟩;have HU:=jJ (aI3 hu0 hu1 hu2);clear hu0 hu1 hu2;go_wp2_with (go_at_call 104;refine (MV (w:=wb) (x:=x) (y:=y) hnb rH).mono ?_;rintro e' w3 ⟨rfl,hk3⟩;try rw [e];have k3:=HB.o.1.trans hk3;have row3:=HW.o.2.1.keep k3 id;have rb3:=HB.o.2.keep hk3 id;obtain ⟨b0,b1,b2⟩:=rb3.three;have o0:=(row3.cell (k*3)).trans HU.o.1;have o1:=(row3.cell (k*3+1)).trans HU.o.2.1;have o2:=(row3.cell (k*3+2)).trans HU.o.2.2;have f0:=row3.frozen (k*3);have f1:=row3.frozen (k*3+1);have f2:=row3.frozen (k*3+2);have H3:=jJ (aI k3 row3);clear hk3 row3 k3 rb3)
      go_roundw
      case rel=>
       have hw:=HW.o.1;rw [if_neg HXY.o] at hw;have hkl:=HW.o.r9;refine ⟨k+1,j+1,_,zF,zF,zZ,hlt,((H3.o.2.set (k*3) (.int .i64 x)).set (k*3+1) (.bool s)).set (k*3+2) (.slice a m d),by rw [List.length_set,List.length_set,List.length_set];exact HW.o.2.2.1,?_,by rw [hw,aZ1,HW.o.r4.1];rfl,fun t h1 h2=>?_,(HW.o.r6.1.trans H3.o.1.of_nil).trans ((((aA.refl (Go.Proofs.Q.One g) w3).set1 (k*3) _).set1 (k*3+1) _).set1 (k*3+2) _)⟩
       ·rw [aUJ hkl,hw,aVU,HW.o.2.2.2.1,HW.o.r8.1]
       ·rw [List.getElem?_set_ne zZ,List.getElem?_set_ne zZ,List.getElem?_set_ne zZ];exact HW.o.r5.1 t zZ h2
      case measure=>exact zI
    ·obtain rfl:j=n:=zZ;have htn:zs.take j=zs:=eZ1 (by rw [HL.o];omega);rw [htn] at htk hwl;have hclr:=fun ty=>aLM (ty:=ty) (o:=k*3) (n:=j-k) (c:=c-k) hds zZ (by rw [hdl];have:=HR.o.2.1;omega);obtain ⟨ys,y1,y2,y3,y4⟩:=aF.QU (IX (j-k)) (k*3) wr ds hds (by rw [ZO,hdl];have:=HR.o.2.1;omega);have HW:=jJ (aI4 hdl htk hwl hkr);have HY:=jJ (aI4 y1 y2 y3 y4);have HCL:=jJ hclr;clear hds hdl htk hwl hrest hkr hnw htn hclr y1 y2 y3 y4;go_wp2_with fail
     rw [HCL.o];generalize wr.setCells g (k*3) (IX (j-k))=wq at *
     go_wp2
     go_ret
     refine ⟨_,rfl,aL.bBP HR.o.r4.1 HY.o.1 (by rw [HY.o.2.1,HW.o.1];exact HR.o.2.1) (HZ.o.kM y) HW.o.2.2.1 zZ hcm (by rw [HY.o.2.2.1];exact HW.o.2.1),rfl,(HW.o.2.2.2.trans HY.o.2.2.2).mono fun b hb=>yA⟩
end
theorem bI.widen {M1 M2 M M':Nat→Prop} {w w':World} {a:Option Addr} {n c:Nat} {l:aM} (h:bI M1 M2 w a n c l) (k:aA M' w w') (h1:∀b,b<w.heap.size→M' b→M1 b∧M2 b) (h2:∀b,b<w.heap.size→M b→M1 b∧M2 b):bI M M w' a n c l:=eU.move h k (fun b hb hm=>(h1 b hb hm).1) (fun b hb hm=>(h2 b hb hm).1) fun _ _ hx=>iM.moves hx k (fun b hb hm=>(h1 b hb hm).2) fun b hb hm=>(h2 b hb hm).2
def dQ (v:Int) (l:aM):aM:=l.filter fun p=>!(p.1==v)
def iX (t:aV) (v:Int) (u:aV):aV:=gU 1 (bC ⟨dQ v t.parts,t.k⟩) (bD t.parts v) u
theorem aAY (v:Int) (zs:List PZ):(kM v zs).map (·.2)=dQ v (zs.map (·.2)):=by
 unfold kM dQ;rw [List.filter_map];rfl
section
variable {w:World} {ga:Bool} {aa ap:Option Addr} {M1 M2 M:Nat→Prop} {l:aM} {v z:Int} {na ca np cp:Nat}
theorem aVA (hM:MB M w) (ha:bI M1 M2 w ap np cp l) (h5:np≤16777216) :
  Calls prog 54 #[.agg #[.slice ap np cp,.bool ga,.slice aa na ca],.int .i64 v] w fun e w'=>Gives Nil (ZV M (bD l v)) w e w':=by
 have hw:bI (fun b=>w.heap.size≤b) (fun b=>w.heap.size≤b) w ap np cp l:=ha.widen (aA.refl Nil w) (fun _ _ h=>h.elim) fun b hb hx=>zZ;have hlen:l.length=np:=eU.len ha;have hcap:=eU.cap ha;have hle:=eU.le ha;have HA:=jJ (aI3 hw hM hlen);clear ha hw hM hlen;go_enter func54,ntmps54
 go_upto_region 2 with (fail)
 obtain ⟨w0,e_1,k0,r0,r1,r2⟩:=bx3 w 27 [.slice ap np cp,.bool ga,.slice aa na ca] 25 [.bool false,.slice none 0 0] 25 [.bool false,.slice none 0 0];rw [e_1];clear e_1;obtain ⟨d0,d1,d2⟩:=r0.three;have l2:=r2.lt;have l1:=r1.lt;obtain ⟨b2,hb2⟩:∃b,b=w.heap.size+1+1:=⟨_,rfl⟩;rw [←hb2] at r2 l2⊢;have HB:=jJ hb2;have H0:=jJ (aI6 k0 r1 r2 (HA.o.1.eO k0) l2 l1);clear k0 r0 r1 r2 l2 l1 hb2;go_wp2_with fail
 go_loopw [11] (fun iv wr=>∃(k:Nat) (gs:Bool) (as1:Option Addr) (ns cs:Nat) (sv:Int),k≤np∧iv=.int .i64 (k:Int)∧sv=bD (l.take k) v∧aF wr b2 25 [.bool gs,.slice as1 ns cs]∧ZN (Old w0) wr gs as1 ns cs sv∧eP sv.natAbs≤1073741824+k∧aA (One b2) w0 wr) (fun iv _=>np-(intOf iv).toNat)
 case atStart=>exact⟨0,false,none,0,0,0,aZ2 _,rfl,rfl,H0.o.2.2.1,nR _ _,sP,aA.refl _ _⟩
 case round=>
  obtain ⟨k,gs,as1,ns,cs,sv,hk,rfl,hsv,hr2,hzs,hns,hkr⟩:=hrel;have hws:w0.heap.size≤wr.heap.size:=hkr.size;by_cases hlt:k<np
  ·have hp4:bI (fun b=>w.heap.size≤b) (fun b=>w.heap.size≤b) wr ap np cp l:=H0.o.2.2.2.1.widen hkr (fun b _ (h:b=b2)=>by have:=HB.o;omega) fun b _ h=>⟨h,h⟩;obtain ⟨b,off,g,a',n',c',hae,hb,-,x0,x1,x2,hzz,hn',i1',i2'⟩:=hp4.at hlt;subst hae;have j0:(0:Int)≤(k:Int):=zZ;have j1:(k:Int)<(np:Int):=zZ;have hsn:bD (l.take (k+1)) v=bD (l.take k) v+(if (pth l k).1=v then (pth l k).2 else 0):=by
    rw [List.take_succ_eq_append_getElem (by rw [HA.o.2.2];exact hlt),←iR (by rw [HA.o.2.2];exact hlt),aCJ]
   rw [←hsv] at hsn;have hxn:eP (pth l k).2.natAbs≤1073741824:=bZ1 hzz.iD hn';have HC:=jJ (aI8 hsn hr2 hzs hns hkr hzz.gK hn' hxn);clear hsv hr2 hzs hns hkr hsn hzz hp4 hn' hxn i1' i2';generalize (pth l k).1=u at *
   generalize (pth l k).2=x at *
   go_upto_region 5 with (fail)
   obtain ⟨wb,eb,kb,rb⟩:=bx1 wr 96 [.int .i64 u,.bool g,.slice a' n' c'];rw [eb];clear eb;obtain ⟨t0,t1,t2⟩:=rb.three;have lrb:=rb.lt;have HP:=jJ (aI kb rb);clear kb rb x0 x1 x2;by_cases huv:u=v
   ·have e:(u==v)=true:=by simpa using huv
    have HE:=jJ huv;have row2:=HC.o.2.1.keep HP.o.1 id;obtain ⟨y0,y1,y2,y3⟩:=row2.two;have hs:=HC.o.2.2.1.zat uB;have hsl:=HC.o.2.2.1.len;have hadd:=CP (M:=Old w0) (w:=wb) (fun b hb=>by have h3:=HP.o.1.size;show b<_;have hb':b<w0.heap.size:=hb;omega) (hs.eO HP.o.1) (HC.o.r5.1.eO HP.o.1) uB (by have:=HC.o.r6.1;omega);have HD:=jJ (aI hadd row2);clear hadd row2 hs hsl huv;go_wp2_with (go_at_call 86;refine HD.o.1.mono ?_;rintro e' w5 ⟨g9,a9,n9,c9,rfl,hz9,hk9⟩;have row5:=HD.o.2.keep hk9 id;obtain ⟨q0,q1,q2,q3⟩:=row5.two;have H5:=jJ (aI3 hz9 hk9 row5);clear hz9 hk9 row5)
    go_roundw
    case rel=>
     have ks:=aA.pair (w:=w5) (g:=b2) (.bool g9) (.slice a9 n9 c9);have hsn:=HC.o.1;rw [if_pos HE.o] at hsn;refine ⟨k+1,g9,a9,n9,c9,sv+x,hlt,zF,hsn.symm,H5.o.2.2.pair,H5.o.1.move ks (fun b _ (hm:b=b2)=>by show b<w0.heap.size;rw [hm];exact H0.o.r4.1) (fun _ _ h=>h),?_,((HC.o.r4.1.trans HP.o.1.of_nil).trans H5.o.2.1.of_nil).trans ks⟩;have h1:=dK sv x;have h2:=HC.o.2.2.2.1;have h3:=HC.o.r7;omega
    case measure=>exact zI
   ·have e:(u==v)=false:=by simpa using huv
    have HE:=jJ huv;clear huv;go_wp2_with fail
    go_roundw
    case rel=>
     have hsn:=HC.o.1;rw [if_neg HE.o,Int.add_zero] at hsn;exact⟨k+1,gs,as1,ns,cs,sv,hlt,zF,hsn.symm,HC.o.2.1.keep HP.o.1 id,HC.o.2.2.1.eO HP.o.1,uB,HC.o.r4.1.trans HP.o.1.of_nil⟩
    case measure=>exact zI
  ·have hkn:k=np:=zZ;subst hkn;have hall:bD l v=sv:=by rw [hsv,eZ1 (by rw [HA.o.2.2];exact bZ2 _)]
   have e0:decide ((k:Int)<(k:Int))=false:=zW;obtain ⟨y0,y1,y2,y3⟩:=hr2.two;have hs:=hzs.zat zZ;have hr1:=H0.o.2.1.keep hkr (show ¬_=_ by have:=HB.o;omega);have HC:=jJ (aI4 hall hs hkr hr1);clear hall hs hkr hr1 hsv hr2 hzs hlt;go_wp2_with (go_at_call 91;refine (EX (M:=Old w0) (fun b hb=>cZ1 hb HC.o.2.2.1.size) HC.o.2.1).mono ?_;rintro e' w5 ⟨g9,a9,n9,c9,rfl,hz9,hk9⟩;have row5:=HC.o.2.2.2.keep hk9 id;obtain ⟨q0,q1,q2,q3⟩:=row5.two;have H5:=jJ (aI3 hz9 hk9 row5);clear hz9 hk9 row5)
   have r6:=H5.o.2.2.pair (u':=.bool g9) (v':=.slice a9 n9 c9);obtain ⟨p0,p1,-,-⟩:=r6.two;have ks:=aA.pair (w:=w5) (g:=w.heap.size+1) (.bool g9) (.slice a9 n9 c9);refine bodyPost_ret (v:=.agg #[.bool g9,.slice a9 n9 c9]) (by simp [results,results54,go_sem,p0,p1]) rfl ⟨_,rfl,⟨g9,a9,n9,c9,rfl,?_⟩,?_⟩
   ·rw [HC.o.1];exact H5.o.1.move ks (fun b _ (hm:b=w.heap.size+1)=>by show b<w0.heap.size;rw [hm];exact H0.o.r5) fun b hb hm=>by show b<w0.heap.size;have:=HA.o.2.1 b hm;have:=H0.o.1.size;omega
   ·exact ((H0.o.1.own (by have:=HB.o;omega) HC.o.2.2.1).trans H5.o.2.1).own (Nat.le_succ _) ks
theorem aNW (hM:MB M w) (ha:bI M1 M2 w ap np cp l) (hz:ZAt Nil w ga aa na ca z) (h3:na≤1073741824) (h5:np≤16777216) :
  Calls prog 60 #[.agg #[.slice ap np cp,.bool ga,.slice aa na ca],.int .i64 v] w fun e w'=>Gives Nil (TV M (bC ⟨dQ v l,z⟩)) w e w':=by
 have hlen:l.length=np:=eU.len ha;have hcap:=eU.cap ha;have hle:=eU.le ha;have hne:(96:TypeId)≠3:=zY;have HA:=jJ (aI5 ha hM hlen hz hne);clear ha hM hlen hz hne;go_enter func60,ntmps60
 go_upto_region 1 with (fail)
 obtain ⟨w0,e_2,k0,r0,r1,r2⟩:=bx3 w 27 [.slice ap np cp,.bool ga,.slice aa na ca] 3 [.int .i64 v] 27 [.slice none 0 0,.bool false,.slice none 0 0];rw [e_2];clear e_2;obtain ⟨d0,d1,d2⟩:=r0.three;have l0:=r0.lt;have l2:=r2.lt;have H0:=jJ (aI6 k0 r1 r2 (HA.o.1.eO k0) (HA.o.2.2.2.1.eO k0) l2);clear k0 r0 r1 r2 l2;refine dJ (aA Nil w0) [9] zX ?_;have hS:aA Nil w0 (World.drew w0):=kOf;refine aH 0 (bM9 104 10) hS ?_;refine aH 1 (bM9 105 10) hS ?_;refine aH 3 (bM9 103 10) hS ?_;refine aH 5 (bM9 31 10) hS ?_;refine aH 6 (bM9 63 10) hS ?_;refine aK 2 fun K hK=>?_;go_simp
 refine (RV VX (H0.o.2.2.2.1.eO hS) h5).mono ?_;rintro e w1 ⟨va,vc,els,rfl,ho,hel,hre,hk⟩;refine hK.out _ _ (fun h=>h.trans hk) ?_;clear hK K;try simp only [Act.put,sN,sL]
 replace hS:=hS.trans hk;have hln:=HA.o.2.2.1;obtain ⟨zs,hz1,hz2⟩:∃zs:List PZ,zs.map (·.1)=els∧zs.map (·.2)=l:=⟨els.zip l,List.map_fst_zip zZ,List.map_snd_zip zZ⟩;have hzl:zs.length=np:=by rw [←hln,←hz2,hZ1]
 have hzR:∀z∈zs,iM Nil (World.drew w0) z.1 z.2:=fun z hz=>by
  obtain ⟨i,hi,rfl⟩:=jZ3 hz;have h1:=hre i zZ;rw [←hz1,←hz2] at h1;have h2:iM M2 (World.drew w0) (zs[i]).1 (zs[i]).2:=by simpa [List.getD,hi] using h1
  exact iM.moves h2 (aA.refl Nil _) (fun _ _ h=>h.elim) fun _ _ h=>h.elim
 have hzT:mX zs:=fun z hz=>by
  obtain ⟨g,a,n,c,e,-⟩:=hzR z hz;exact⟨g,a,n,c,e⟩
 rw [←hz1] at ho;have hown:∀b,Own (.slice va np vc) b→Nil b∨w0.heap.size≤b:=fun b hb=>.inr (ho.lt b hb).1;have hdel:=aPS ho hzT zZ (H0.o.2.1.keep hS id) HA.o.r4 (y:=v) rfl;have HD:=jJ (aI7 hdel hown hz2 hzR hzT hzl hk);clear ho hel hre hln hz1 hz2 hzl hzR hzT hown hdel hk;refine aK 4 fun K hK=>?_;go_simp
 refine HD.o.1.mono ?_;rintro e w2 ⟨v2,rfl,ho2,-,hk2⟩;obtain ⟨a2,c2,rfl⟩:=ho2.isSlice;obtain ⟨n2,hn2⟩:∃n,n=((kM v zs).map (·.1)).length:=⟨_,rfl⟩;rw [←hn2] at ho2⊢;refine hK.out _ _ (fun h=>h.trans' hk2 HD.o.2.1) ?_;clear hK K;try simp only [Act.put,sN,sL]
 have hS2:=hS.trans' hk2 HD.o.2.1;have hd2:=HD.o.r6.trans' hk2 HD.o.2.1;have hS:=hS2;have hl2:(dQ v l).length=n2:=by rw [hn2,←HD.o.2.2.1,←aAY,hZ1,hZ1]
 have hp2:bI Nil Nil w2 a2 n2 c2 (dQ v l):=by
  obtain ⟨a,c,e,hq⟩:=aL.sl (M:=Nil) (R:=iM Nil w2) (d:=(0,0)) (xs:=dQ v l) ho2 (fun _ _ h=>h) (by rw [hl2,hn2]) (fun i hi=>by
   rw [←HD.o.2.2.1,←aAY];rw [hZ1] at hi;have hm:(kM v zs)[i]∈zs:=(kZ3.1 (List.getElem_mem hi)).1;have h1:=iM.moves (M2:=Nil) (HD.o.2.2.2.1 _ hm) hd2 (fun _ _ h=>h.elim) fun _ _ h=>h.elim;simpa [List.getD,hi] using h1)
  rw [←hn2] at e hq;cases e;exact hq
 have hn25:n2≤16777216:=by
  have h1:(dQ v l).length≤l.length:=List.length_filter_le ..;have:=HA.o.2.2.1;omega
 have hnm:=DN (M:=Old w0) (fun b hb=>cZ1 hb hS2.size) hp2 (H0.o.r4.1.eO hS2) hn25 h3;have HN:=jJ hnm;clear ho2 hk2 hp2 hl2 hn2 hnm hS2 hd2;refine aH 7 (bM9 127 10) hS ?_;refine aK 8 fun K hK=>?_;go_simp
 refine (HN.o).mono ?_;rintro e w1 ⟨v8,rfl,⟨ap',np',cp',gk',ak',nk',ck',rfl,ht⟩,hk⟩;refine hK.out _ _ (fun h=>h.trans hk) ?_;clear hK K;try simp only [Act.put,sN,sL]
 replace hS:=hS.trans hk;have rr:=H0.o.2.2.1.keep hS id;obtain ⟨z0,z1,z2⟩:=rr.three;obtain ⟨y0,y1,y2⟩:=rr.iZ;have HT:=jJ (aI3 ht hS rr);clear ht rr;refine bV (rs:=[9]) zX zW ?_;refine aZ.LU rfl zY (fun K hK=>?_) aZ.nil;go_simp
 refine hK.out _ _ ?_;clear hK K;try simp only [Act.put,sL]
 refine BA zX ?_ _;go_wp2_with fail
 have r6:=HT.o.2.2.triple (.slice ap' np' cp') (.bool gk') (.slice ak' nk' ck');obtain ⟨x0,x1,x2⟩:=r6.three;exact bodyPost_ret (v:=.agg #[.slice ap' np' cp',.bool gk',.slice ak' nk' ck']) (by simp [results,results60,go_sem,x0,x1,x2]) rfl ⟨_,rfl,⟨_,_,_,_,_,_,_,rfl,HT.o.1.out (M:=M) H0.o.r5 (fun b hb=>by have:=HA.o.2.1 b hb;have:=H0.o.1.size;omega) (aA.triple (g:=w.heap.size+1+1) (.slice ap' np' cp') (.bool gk') (.slice ak' nk' ck'))⟩,(H0.o.1.trans HT.o.2.1).own zZ (aA.triple _ _ _)⟩
theorem aYA {M3 M4:Nat→Prop} {gb:Bool} {ab bp:Option Addr} {nb cb mp dp:Nat} {zb:Int} {lb:aM} (hM:MB M w) (ha:bI M1 M2 w ap np cp l) (hz:ZAt Nil w ga aa na ca z) (hb:bI M3 M4 w bp mp dp lb) (hzb:ZAt Nil w gb ab nb cb zb) (h3:na≤1073741824) (h4:nb≤1073741824) (h5:np≤16777216) (h6':mp≤16777216) (hw:Wee (bC ⟨dQ v l,z⟩)) (hc:eP (bD l v).natAbs≤536870912) :
  Calls prog 135 #[.agg #[.slice ap np cp,.bool ga,.slice aa na ca],.int .i64 v,.agg #[.slice bp mp dp,.bool gb,.slice ab nb cb]] w fun e w'=>Gives Nil (TV M (iX ⟨l,z⟩ v ⟨lb,zb⟩)) w e w':=by
 have HA:=jJ (aI7 hM ha hz hb hzb hw hc);clear hM ha hz hb hzb hw hc;go_enter func135,ntmps135
 go_upto_region 1 with (fail)
 obtain ⟨w0,e_9,k0,r0,r1,r2⟩:=bx3 w 27 [.slice ap np cp,.bool ga,.slice aa na ca] 27 [.slice bp mp dp,.bool gb,.slice ab nb cb] 27 [.slice none 0 0,.bool false,.slice none 0 0];rw [e_9];clear e_9;have lr:=r2.lt;have H0:=jJ (aI4 k0 r0 r1 r2);clear k0 r0 r1 r2;refine aX 10 [9] [7,8,9,10,11,12,13,14,15,1024] [7,8,9,10,11,12,13,14,15] [Un (ZV Nil 1),Un (eT ?v10_1),Un (eT ?v10_2),Un (TV (Old w0) (bC ⟨dQ v l,z⟩)),Un (eT ?v10_4),Un (eT ?v10_5),Un (ZV Nil (bD l v)),Un (eT ?v10_7),Un (TV (Old w0) (iX ⟨l,z⟩ v ⟨lb,zb⟩)),nothing] (aB.sk (aB.nx ?r10_8 (aB.nx ?r10_7 (aB.nx ?r10_6 (aB.nx ?r10_5 (aB.nx ?r10_4 (aB.nx ?r10_3 (aB.nx ?r10_2 (aB.nx ?r10_1 (aB.nx ?r10_0 aB.zero)))))))))) ?rfn10
 case' r10_0|r10_1|r10_2|r10_3|r10_4|r10_5|r10_6|r10_7|r10_8=>
  intro us wj hk hp K hK;try simp only [aQ,Act.put,sL] at hK⊢
  obtain ⟨d0,d1,d2⟩:=(H0.o.2.1.keep hk id).three;obtain ⟨e0',e1',e2'⟩:=(H0.o.2.2.1.keep hk id).three
 case' r10_0=>
  go_simp
  refine (kZ (M:=Nil) (z:=1) (MB.nil _) zZ zZ).mono ?_;rintro e wk ⟨g,a,n,c,rfl,h,hk2⟩;exact hK.out _ _ hk2 (⟨g,a,n,c,rfl,h⟩)
 case' r10_1|r10_2|r10_4|r10_5|r10_7=>
  go_simp
  refine hK.out _ _ (aA.refl _ _) ?_;exact rfl
 case' r10_3=>
  have e1:us 8=_:=hp 1;have e2:us 9=_:=hp 2;rw [e1,e2] at hK⊢;go_simp
  refine (aNW (M:=Old w0) (MB.gY hk.size) (HA.o.2.1.eO (H0.o.1.trans hk)) (HA.o.2.2.1.eO (H0.o.1.trans hk)) h3 h5).mono ?_;rintro e wk ⟨v,rfl,⟨ap,np,cp,gk,ak,nk,ck,rfl,h⟩,hk2⟩;exact hK.out _ _ hk2 (⟨_,_,_,_,_,_,_,rfl,h⟩)
 case' r10_6=>
  have e4:us 11=_:=hp 4;have e5:us 12=_:=hp 5;rw [e4,e5] at hK⊢;go_simp
  refine (aVA (M:=Nil) (MB.nil _) (HA.o.2.1.eO (H0.o.1.trans hk)) h5).mono ?_;rintro e wk ⟨v,rfl,⟨g,a,n,c,rfl,h⟩,hk2⟩;exact hK.out _ _ hk2 (⟨_,_,_,_,rfl,h⟩)
 case' r10_8=>
  obtain ⟨g0,a0,n0,c0,e0,h0⟩:(ZV Nil 1) (us 7) wj:=hp 0;obtain ⟨ap3,np3,cp3,gk3,ak3,nk3,ck3,e3,h3⟩:(TV (Old w0) (bC ⟨dQ v l,z⟩)) (us 10) wj:=hp 3;obtain ⟨g6,a6,n6,c6,e6,h6⟩:(ZV Nil (bD l v)) (us 13) wj:=hp 6;have e7:us 14=_:=hp 7;rw [e0,e3,e6,e7] at hK⊢;go_simp
  refine (LC (M:=Old w0) (MB.gY hk.size) (h0.zat nQ) (h6.zat (by have:=HA.o.r6;omega)) (cV.raw h3.1 fun p hp=>by have:=HA.o.r5.1.parts p hp;omega) (HA.o.2.2.2.1.eO (H0.o.1.trans hk)) (h3.2.zat (by have:=HA.o.r5.1.k;omega)) (HA.o.r4.1.eO (H0.o.1.trans hk)) vI (by have:=h6.len;have:=HA.o.r6;omega) (by have:=h3.2.len;have:=HA.o.r5.1.k;omega) h4 (by have:=eU.len h3.1;have:=HA.o.r5.1.few;omega) h6').mono ?_;rintro e wk ⟨v,rfl,hv,hk2⟩;exact hK.out _ _ hk2 (hv)
 case' rfn10=>
 intro us wz hkz hf;simp only [aQ,Act.put,sL];obtain ⟨g0,a0,n0,c0,e0,h0⟩:(ZV Nil 1) (us 7) wz:=hf 0;have e1:us 8=_:=hf 1;have e2:us 9=_:=hf 2;obtain ⟨ap3,np3,cp3,gk3,ak3,nk3,ck3,e3,h3⟩:(TV (Old w0) (bC ⟨dQ v l,z⟩)) (us 10) wz:=hf 3;have e4:us 11=_:=hf 4;have e5:us 12=_:=hf 5;obtain ⟨g6,a6,n6,c6,e6,h6⟩:(ZV Nil (bD l v)) (us 13) wz:=hf 6;have e7:us 14=_:=hf 7;obtain ⟨ap8,np8,cp8,gk8,ak8,nk8,ck8,e8,h8⟩:(TV (Old w0) (iX ⟨l,z⟩ v ⟨lb,zb⟩)) (us 15) wz:=hf 8;clear hf;simp only [e0,e1,e2,e3,e4,e5,e6,e7,e8];clear e0 e1 e2 e3 e4 e5 e6 e7 e8 us;refine aK 9 fun K hK=>?_;obtain ⟨z0,z1,z2⟩:=(H0.o.2.2.2.keep hkz id).three;obtain ⟨z3,z4,z5⟩:=(H0.o.2.2.2.keep hkz id).iZ;go_simp
 refine mK ?_;clear hK K;refine aR zX ?_ _;go_wp2_with fail
 have r6:=(H0.o.2.2.2.keep hkz id).triple (.slice ap8 np8 cp8) (.bool gk8) (.slice ak8 nk8 ck8);obtain ⟨y0,y1,y2⟩:=r6.three;exact bodyPost_ret (v:=.agg #[.slice ap8 np8 cp8,.bool gk8,.slice ak8 nk8 ck8]) (by simp [results,results135,go_sem,y0,y1,y2]) rfl ⟨_,rfl,⟨_,_,_,_,_,_,_,rfl,h8.out (M:=M) lr (fun b hb=>uE) (aA.triple (g:=w.heap.size+1+1) (.slice ap8 np8 cp8) (.bool gk8) (.slice ak8 nk8 ck8))⟩,(H0.o.1.trans hkz).own zZ (aA.triple _ _ _)⟩
end
def gF (A:aY) (v:Int) (u:aV):aY:=if (bJ A).1≠0 then ⟨0,0,bK⟩ else (bJ ⟨(bJ A).2.kind,(bJ A).2.d,iX (bJ A).2.t v u⟩).2
theorem st6 {w:World} {g:Nat} {E:TypeId} {a b c d e f:Value} (h:aF w g E [a,b,c,d,e,f]) (a' b' c' d' e' f':Value):∃w',((((((w.setCell ⟨g,0,none⟩ a').setCell ⟨g,1,none⟩ b').setCell ⟨g,2,none⟩ c').setCell ⟨g,3,none⟩ d').setCell ⟨g,4,none⟩ e').setCell ⟨g,5,none⟩ f')=w'∧aF w' g E [a',b',c',d',e',f']∧aA (One g) w w':=⟨_,rfl,h.six ..,aA.six ..⟩
theorem bCQ {w:World} {g:Nat} {E:TypeId} {a b c d e f:Value} (h:aF w g E [a,b,c,d,e,f]) (d' e' f':Value):∃w',(((w.setCell ⟨g,3,none⟩ d').setCell ⟨g,4,none⟩ e').setCell ⟨g,5,none⟩ f')=w'∧aF w' g E [a,b,c,d',e',f']∧aA (One g) w w':=⟨_,rfl,((h.set 3 d').set 4 e').set 5 f',(((aA.refl (One g) w).set1 3 d').set1 4 e').set1 5 f'⟩
structure LW (A:aY) (v:Int) (u:aV):Prop where
 wee:Wee (bJ A).2.t
 d:eP (bJ A).2.d.natAbs≤536870912
 other:Wee (bC ⟨dQ v (bJ A).2.t.parts,(bJ A).2.t.k⟩)
 JD:eP (bD (bJ A).2.t.parts v).natAbs≤536870912
 put:Wee (iX (bJ A).2.t v u)
 res:Wee (bC (iX (bJ A).2.t v u))
theorem aYN {M M1 M2 M3 M4:Nat→Prop} {w:World} {k v:Int} {ad ap ak ab bp:Option Addr} {nd cd np cp nk ck nb cb mp dp:Nat} {gd gk gb:Bool} {d z zb:Int} {l lb:aM} (hM:MB M w) (hd:ZAt Nil w gd ad nd cd d) (h:bI M1 M2 w ap np cp l) (hk:ZAt Nil w gk ak nk ck z) (h1:np≤16777216) (h2:nk≤1073741824) (hw:Wee (bC ⟨l,z⟩)) (hwd:eP d.natAbs≤536870912)
  (hb:bI M3 M4 w bp mp dp lb) (hzb:ZAt Nil w gb ab nb cb zb) (h4:nb≤1073741824) (h6:mp≤16777216) (hO:LW ⟨k,d,⟨l,z⟩⟩ v ⟨lb,zb⟩) :
  Calls prog 96 #[.agg #[.int .i64 k,.bool gd,.slice ad nd cd,.slice ap np cp,.bool gk,.slice ak nk ck],.int .i64 v,.agg #[.slice bp mp dp,.bool gb,.slice ab nb cb]] w fun e w'=>Gives Nil (AV M (gF ⟨k,d,⟨l,z⟩⟩ v ⟨lb,zb⟩)) w e w':=by
 have hnm:=fun (W:World) (q:aA Nil w W)=>OL (M:=Old W) (k:=k) (MB.old W) (hd.eO q) (h.eO q) (hk.eO q) h1 h2 hw hwd;obtain ⟨r,hr⟩:∃r,bJ ⟨k,d,⟨l,z⟩⟩=r:=⟨_,rfl⟩;have hput:gF ⟨k,d,⟨l,z⟩⟩ v ⟨lb,zb⟩=if r.1≠0 then ⟨0,0,bK⟩ else (bJ ⟨r.2.kind,r.2.d,iX r.2.t v ⟨lb,zb⟩⟩).2:=by unfold gF;rw [hr]
 have o1:=hO.wee;have o2:=hO.d;have o3:=hO.other;have o4:=hO.JD;have o5:=hO.put;have o6:=hO.res;rw [hr] at hnm o1 o2 o3 o4 o5 o6;obtain ⟨er,kX,dX,tX⟩:=r;simp only at o1 o2 o3 o4 o5 o6 hput;have HA:=jJ (aI5 hM hnm hput hb hzb);have HO:=jJ (aI6 o1 o2 o3 o4 o5 o6);clear hd h hk hM hw hwd hnm hput hb hzb hr hO o1 o2 o3 o4 o5 o6;go_enter func96,ntmps96
 go_upto_region 1 with (fail)
 obtain ⟨w0,e_1,q0,r0,r1,r2⟩:=bx3 w 82 [.int .i64 k,.bool gd,.slice ad nd cd,.slice ap np cp,.bool gk,.slice ak nk ck] 27 [.slice bp mp dp,.bool gb,.slice ab nb cb] 82 [.int .i64 0,.bool false,.slice none 0 0,.slice none 0 0,.bool false,.slice none 0 0];rw [e_1];clear e_1;obtain ⟨c0,c1,c2,c3,c4,c5⟩:=r0.eZ;have lr0:=r0.lt;have lr2:=r2.lt;have H0:=jJ (aI4 q0 r0 r1 r2);clear q0 r0 r1 r2;go_upto_region 2 with (go_at_call 88;refine (HA.o.2.1 _ H0.o.1).mono ?_;rintro e w1 ⟨v1,rfl,⟨gd',ad',nd',cd',ap',np',cp',gk',ak',nk',ck',rfl,hv⟩,hk1⟩;have rr:=H0.o.2.1.keep hk1 id;obtain ⟨z0,z1,z2,z3,z4,z5⟩:=rr.eZ;obtain ⟨y0,y1,y2,y3,y4,y5⟩:=rr.iY;have H1:=jJ (aI3 hv hk1 rr);clear hv hk1 rr)
 obtain ⟨w2,e2,s0,ks⟩:=st6 H1.o.2.2 (.int .i64 kX) (.bool gd') (.slice ad' nd' cd') (.slice ap' np' cp') (.bool gk') (.slice ak' nk' ck');rw [e2];have hv2:=H1.o.1.out (M:=Old w0) lr0 (fun b hb=>hb) ks;have s1:=(H0.o.2.2.1.keep H1.o.2.1 id).keep ks (show ¬_=_ by omega);have s2:=(H0.o.2.2.2.keep H1.o.2.1 id).keep ks (show ¬_=_ by omega);have kw:=(H0.o.1.trans H1.o.2.1).own (bZ2 _) ks;have hsz:=bZ1 H1.o.2.1.size ks.size;clear e2 z0 z1 z2 z3 z4 z5 y0 y1 y2 y3 y4 y5 c0 c1 c2 c3 c4 c5 ks;obtain ⟨u0,u1,u2,u3,u4,u5⟩:=s0.eZ;have H2:=jJ (aI6 hv2 s0 s1 s2 kw hsz);clear hv2 s0 s1 s2 kw hsz;by_cases he:¬er=0
 ·have e1:(er != 0)=true:=by simp [he]
  have hp:=HA.o.2.2.1;rw [if_pos he] at hp;have HP:=jJ hp;clear hp;obtain ⟨v0,v1,v2,v3,v4,v5⟩:=H2.o.2.2.2.1.eZ;obtain ⟨t0,t1,t2,t3,t4,t5⟩:=H2.o.2.2.2.1.iY;go_wp2_with fail
  have r6:=H2.o.2.2.2.1.six (.int .i64 0) (.bool false) (.slice none 0 0) (.slice none 0 0) (.bool false) (.slice none 0 0);obtain ⟨x0,x1,x2,x3,x4,x5⟩:=r6.eZ;rw [HP.o];exact bodyPost_ret (v:=.agg #[.int .i64 0,.bool false,.slice none 0 0,.slice none 0 0,.bool false,.slice none 0 0]) qX rfl ⟨_,rfl,⟨_,_,_,_,_,_,_,_,_,_,_,rfl,jA.zero⟩,H2.o.r4.1.own zZ (aA.six _ _ _ _ _ _)⟩
 ·obtain rfl:=Decidable.not_not.1 he;have e1:((0:Int) != 0)=false:=rfl;have hp:=HA.o.2.2.1;rw [if_neg zW] at hp;have HP:=jJ hp;clear hp;obtain ⟨b0,b1,b2⟩:=H2.o.2.2.1.three;have ht:eI (Old w0) w2 ap' np' cp' gk' ak' nk' ck' tX:=H2.o.1.2;have hl:=eU.len ht.1;have hkl:=ht.2.len;have hput:=aYA (M:=Old w0) (v:=v) (fun b hb=>cZ1 hb H2.o.r5) (cV.raw ht.1 fun p hp=>by have:=HO.o.1.parts p hp;omega) (ht.2.zat (by have:=HO.o.1.k;omega)) (HA.o.2.2.2.1.eO H2.o.r4.1) (HA.o.r4.eO H2.o.r4.1) (by have:=HO.o.1.k;omega) h4 (by have:=HO.o.1.few;omega) h6 HO.o.2.2.1 HO.o.2.2.2.1;rw [show (⟨tX.parts,tX.k⟩:aV)=tX from rfl] at hput;have HPT:=jJ hput;clear ht hl hkl hput he;go_upto_region 5 with (go_at_call 135;refine HPT.o.mono ?_;rintro e w3 ⟨v3,rfl,⟨ap3,np3,cp3,gk3,ak3,nk3,ck3,rfl,ht⟩,hk3⟩;have rr:=H2.o.2.1.keep hk3 id;obtain ⟨z0,z1,z2,z3,z4,z5⟩:=rr.eZ;obtain ⟨y0,y1,y2,y3,y4,y5⟩:=rr.iY;have H3:=jJ (aI3 ht hk3 rr);clear ht hk3 rr)
  obtain ⟨w4,e4,s4,ks⟩:=bCQ H3.o.2.2 (.slice ap3 np3 cp3) (.bool gk3) (.slice ak3 nk3 ck3);rw [e4];have hd4:=((show ZN (Old w0) w2 gd' ad' nd' cd' dX from H2.o.1.1).eO H3.o.2.1).move (M2:=Old w0) ks (fun b _ (hm:b=w.heap.size)=>by rw [hm];exact lr0) (fun _ _ h=>h);have ht4:=H3.o.1.out (M:=Old w0) lr0 (fun b hb=>hb) ks;have s24:=(H2.o.2.2.2.1.keep H3.o.2.1 id).keep ks (show ¬_=_ by omega);have kw4:=(H2.o.r4.1.trans H3.o.2.1).own (bZ2 _) ks;have hsz4:=bZ1 H2.o.r5 (bZ1 H3.o.2.1.size ks.size);clear e4 z0 z1 z2 z3 z4 z5 y0 y1 y2 y3 y4 y5 u0 u1 u2 u3 u4 u5 b0 b1 b2 ks;obtain ⟨u0,u1,u2,u3,u4,u5⟩:=s4.eZ;have hl:=eU.len ht4.1;have hkl:=ht4.2.len;have hdl:=hd4.len;have hnm:=OL (M:=Old w0) (k:=kX) (fun b hb=>cZ1 hb hsz4) (hd4.zat (by have:=HO.o.2.1;omega)) (cV.raw ht4.1 fun p hp=>by have:=HO.o.r4.1.parts p hp;omega) (ht4.2.zat (by have:=HO.o.r4.1.k;omega)) (by have:=HO.o.r4.1.few;omega) (by have:=HO.o.r4.1.k;omega) HO.o.r5 HO.o.2.1;rw [show (⟨(iX tX v ⟨lb,zb⟩).parts,(iX tX v ⟨lb,zb⟩).k⟩:aV)=iX tX v ⟨lb,zb⟩ from rfl] at hnm;obtain ⟨q,hq⟩:∃q,q=bJ ⟨kX,dX,iX tX v ⟨lb,zb⟩⟩:=⟨_,rfl⟩;rw [←hq] at hnm;have hp:=HP.o;rw [←hq] at hp;have HN:=jJ (aI hnm hp);have H4:=jJ (aI3 s4 s24 kw4);clear hl hkl hdl hd4 ht4 hnm hq hp s4 s24 kw4 hsz4;go_upto_region 6 with (go_at_call 88;refine HN.o.1.mono ?_;rintro e w5 ⟨v5,rfl,⟨gd5,ad5,nd5,cd5,ap5,np5,cp5,gk5,ak5,nk5,ck5,rfl,hv⟩,hk5⟩;have rr:=H4.o.1.keep hk5 id;obtain ⟨z0,z1,z2,z3,z4,z5⟩:=rr.eZ;obtain ⟨y0,y1,y2,y3,y4,y5⟩:=rr.iY;have H5:=jJ (aI3 hv hk5 rr);clear hv hk5 rr)
  obtain ⟨w6,e6,s6,ks⟩:=st6 H5.o.2.2 (.int .i64 q.2.kind) (.bool gd5) (.slice ad5 nd5 cd5) (.slice ap5 np5 cp5) (.bool gk5) (.slice ak5 nk5 ck5);rw [e6];have hv6:=H5.o.1.out (M:=Old w0) lr0 (fun b hb=>hb) ks;have s26:=(H4.o.2.1.keep H5.o.2.1 id).keep ks (show ¬_=_ by omega);have kw6:=(H4.o.2.2.trans H5.o.2.1).own (bZ2 _) ks;clear e6 z0 z1 z2 z3 z4 z5 y0 y1 y2 y3 y4 y5 u0 u1 u2 u3 u4 u5 ks;obtain ⟨u0,u1,u2,u3,u4,u5⟩:=s6.eZ;obtain ⟨z0,z1,z2,z3,z4,z5⟩:=s26.eZ;obtain ⟨y0,y1,y2,y3,y4,y5⟩:=s26.iY;have H6:=jJ (aI3 hv6 s26 kw6);clear hv6 s26 kw6 s6;go_wp2_with fail
  have r6:=H6.o.2.1.six (.int .i64 q.2.kind) (.bool gd5) (.slice ad5 nd5 cd5) (.slice ap5 np5 cp5) (.bool gk5) (.slice ak5 nk5 ck5);obtain ⟨x0,x1,x2,x3,x4,x5⟩:=r6.eZ;rw [HN.o.2];exact bodyPost_ret (v:=.agg #[.int .i64 q.2.kind,.bool gd5,.slice ad5 nd5 cd5,.slice ap5 np5 cp5,.bool gk5,.slice ak5 nk5 ck5]) qX rfl ⟨_,rfl,⟨_,_,_,_,_,_,_,_,_,_,_,rfl,H6.o.1.out (M:=M) lr2 (fun b hb=>uE) (aA.six _ _ _ _ _ _)⟩,H6.o.2.2.own zZ (aA.six _ _ _ _ _ _)⟩
theorem aOH {M M1 M2 M3 M4:Nat→Prop} {w:World} {k v:Int} {ad ap ak ab bp:Option Addr} {nd cd np cp nk ck nb cb mp dp:Nat} {gd gk gb:Bool} {d z zb:Int} {l lb:aM} (hM:MB M w) (hd:ZAt Nil w gd ad nd cd d) (h:bI M1 M2 w ap np cp l) (hk:ZAt Nil w gk ak nk ck z) (h1:np≤16777216) (h2:nk≤1073741824) (hw:Wee (bC ⟨l,z⟩)) (hwd:eP d.natAbs≤536870912)
  (hb:bI M3 M4 w bp mp dp lb) (hzb:ZAt Nil w gb ab nb cb zb) (h4:nb≤1073741824) (h6:mp≤16777216) (hO:LW ⟨k,d,⟨l,z⟩⟩ v ⟨lb,zb⟩) :
  Calls prog 44 #[.agg #[.int .i64 v,.slice bp mp dp,.bool gb,.slice ab nb cb],.agg #[.int .i64 k,.bool gd,.slice ad nd cd,.slice ap np cp,.bool gk,.slice ak nk ck]] w fun e w'=>Gives Nil (AV M (gF ⟨k,d,⟨l,z⟩⟩ v ⟨lb,zb⟩)) w e w':=by
 have hp:=fun (W:World) (q:aA Nil w W)=>aYN (M:=Old W) (k:=k) (v:=v) (MB.old W) (hd.eO q) (h.eO q) (hk.eO q) h1 h2 hw hwd (hb.eO q) (hzb.eO q) h4 h6 hO;obtain ⟨X,hX⟩:∃X,gF ⟨k,d,⟨l,z⟩⟩ v ⟨lb,zb⟩=X:=⟨_,rfl⟩;rw [hX] at hp⊢;have HA:=jJ (aI hM hp);clear hM hd h hk h1 h2 hw hwd hb hzb h4 h6 hO hp hX;go_enter func44,ntmps44
 go_upto_region 1 with (fail)
 obtain ⟨w0,e_1,q0,r0,r1,r2⟩:=bx3 w 88 [.int .i64 v,.slice bp mp dp,.bool gb,.slice ab nb cb] 82 [.int .i64 k,.bool gd,.slice ad nd cd,.slice ap np cp,.bool gk,.slice ak nk ck] 82 [.int .i64 0,.bool false,.slice none 0 0,.slice none 0 0,.bool false,.slice none 0 0];rw [e_1];clear e_1;have b0:=r0.cell 0;have b1:=r0.cell 1;have b2:=r0.cell 2;have b3:=r0.cell 3;obtain ⟨c0,c1,c2,c3,c4,c5⟩:=r1.eZ;have lr2:=r2.lt;have H0:=jJ (aI q0 r2);clear q0 r0 r1 r2;go_wp2_with (go_at_call 96;refine (HA.o.2 w0 H0.o.1).mono ?_;rintro e w1 ⟨v1,rfl,⟨ge,ae,ne,ce,be,me,de,he,fe,ie,je,rfl,hv⟩,hk1⟩;have r1:=H0.o.2.keep hk1 id;obtain ⟨z0,z1,z2,z3,z4,z5⟩:=r1.eZ;obtain ⟨y0,y1,y2,y3,y4,y5⟩:=r1.iY;have H1:=jJ (aI3 hv hk1 r1);clear hv hk1 r1)
 have r6:=H1.o.2.2.six (.int .i64 X.kind) (.bool ge) (.slice ae ne ce) (.slice be me de) (.bool he) (.slice fe ie je);obtain ⟨x0,x1,x2,x3,x4,x5⟩:=r6.eZ;exact bodyPost_ret (v:=.agg #[.int .i64 X.kind,.bool ge,.slice ae ne ce,.slice be me de,.bool he,.slice fe ie je]) (by simp [results,results44,go_sem,x0,x1,x2,x3,x4,x5]) rfl ⟨_,rfl,⟨_,_,_,_,_,_,_,_,_,_,_,rfl,H1.o.1.out lr2 (fun b hb=>uE) (aA.six _ _ _ _ _ _)⟩,(H0.o.1.trans H1.o.2.1).own zZ (aA.six _ _ _ _ _ _)⟩
end Go.Proofs.Q
