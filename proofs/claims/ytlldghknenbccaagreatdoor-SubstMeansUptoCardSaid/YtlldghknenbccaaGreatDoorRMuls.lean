/- What nat.Mul does. -/
import Derived.Test.YtlldghknenbccaaGreatDoorRNumsC
import Derived.Test.YtlldghknenbccaaGreatDoorRZints
set_option linter.unusedSimpArgs false
set_option linter.unusedVariables false
set_option maxRecDepth 100000
set_option maxHeartbeats 4000000
namespace Go.Proofs.Q
open Go.RowKit Tryz
def gW (b:List Nat) (x:Nat) (d:List Nat):Nat→List Nat × Nat
 | 0=>([],0)
 | k+1=>((gW b x d k).1++[(x*lim b k+lim d k+(gW b x d k).2) % Bs],(x*lim b k+lim d k+(gW b x d k).2) / Bs)
theorem aJV {x y o c:Nat} (hx:x<4294967296) (hy:y<4294967296) (ho:o<4294967296) (hc:c<4294967296):x*y≤18446744065119617025∧x*y+o+c<18446744073709551616:=by
 have:x*y≤4294967295*4294967295:=Nat.mul_le_mul zZ zZ;omega
theorem VH {b d:List Nat} {x:Nat} (hb:Small b) (hd:Small d) (hx:x<4294967296):∀k,(gW b x d k).1.length=k∧Small (gW b x d k).1∧(gW b x d k).2<4294967296∧nval (gW b x d k).1+Bs ^ k*(gW b x d k).2=x*nval (b.take k)+nval (d.take k)
 | 0=>⟨rfl,Small.nil,by simp [gW],by simp [gW,nval]⟩
 | k+1=>by
  obtain ⟨h1,h2,h3,h4⟩:=VH hb hd hx k;have lb:=bX hb k;have ld:=bX hd k;have hf:=aJV hx lb ld h3;refine ⟨by simp [gW,h1],CB h2 (by have:=Nat.mod_lt (x*lim b k+lim d k+(gW b x d k).2) iI;rw [cY] at this⊢;exact this),?_,?_⟩
  ·simp only [gW];rw [cY];omega
  ·simp only [gW];have hc:=TK k (x*lim b k+lim d k+(gW b x d k).2);rw [CK,h1,bS,bS,Nat.add_assoc,hc,Nat.mul_add,Nat.mul_add,Nat.mul_add,Nat.mul_left_comm x (Bs ^ k)];omega
theorem aCU {l:List Nat} (h:Small l) (k:Nat):Small (l.drop k):=fun y hy=>h y (List.mem_of_mem_drop hy)
def gZ (a b:List Nat):Nat→List Nat
 | 0=>List.replicate b.length 0
 | i+1=>(gZ a b i).take i++((gW b (lim a i) ((gZ a b i).drop i) b.length).1++[(gW b (lim a i) ((gZ a b i).drop i) b.length).2])
theorem aEE {a b:List Nat} (ha:Small a) (hb:Small b):∀i,(gZ a b i).length=i+b.length∧Small (gZ a b i)∧nval (gZ a b i)=nval (a.take i)*nval b
 | 0=>⟨by simp [gZ],fun x hx=>by simp [gZ] at hx;omega,by simp [gZ,aLR,nval]⟩
 | i+1=>by
  obtain ⟨h1,h2,h3⟩:=aEE ha hb i;obtain ⟨m1,m2,m3,m4⟩:=VH hb (aCU h2 i) (bX ha i) b.length;have ht:((gZ a b i).take i).length=i:=xV;rw [List.take_length,eZ1 qR] at m4;refine ⟨by simp only [gZ,aZ1,ht,m1,List.length_singleton];omega,(h2.take i).append (CB m2 m3),?_⟩;have hs:=GN (gZ a b i) i zZ;simp only [gZ];rw [JY,ht,CK,m1,m4,bS,Nat.add_mul,←h3,hs,Nat.mul_add,Nat.mul_assoc];omega
theorem aTJ {M:Nat→Prop} {a a2:Option Addr} {n c n2 c2:Nat} {l l2:List Nat} {w:World} (hM:MB M w) (h:aU Nil w a n c l) (h2:aU Nil w a2 n2 c2 l2) (hr:(n+n2)*4≤140737488355328) :
  Calls prog 102 #[.slice a n c,.slice a2 n2 c2] w fun e w'=>∃a' c',e=.returned (.slice a' (eP (nval l*nval l2)) c')∧aU M w' a' (eP (nval l*nval l2)) c' (bH (nval l*nval l2))∧aA Nil w w':=by
 obtain ⟨i0,hi⟩:=info_parts EO;have HI:=jJ hi;have ba:=h.bare;have bb:=h2.bare;have hva:=dC l;have hvb:=dC l2;have hal:(trim l).length=top l:=dG l;have hbl:(trim l2).length=top l2:=dG l2;have htn:top l≤n:=xI;have htn2:top l2≤n2:=sJ;have HH:=jJ (aI h h2);rw [←hva,←hvb];generalize hta:trim l=ta at *
 generalize htb:trim l2=tb at *
 generalize hna:top l=na at *
 generalize hnb:top l2=nb at *
 have HTN:=jJ (aI hna hnb);have HA:=jJ (aI4 ba bb hal hbl);have HM:=jJ hM;have han:na≤35184372088832:=zZ;have hbn:nb≤35184372088832:=zZ;have hsum:na+nb≤35184372088832:=zZ;clear h h2 ba bb hva hvb hal hbl htn htn2 hta htb hna hnb hM hi hr;go_enter func102,ntmps102
 go_upto_region 2 with (first|(go_at_call_of 136 (Value.slice a n c);refine (dS HH.o.1).mono ?_;rintro e w' ⟨rfl,rfl⟩;rw [HTN.o.1])|(go_at_call_of 136 (Value.slice a2 n2 c2);refine (dS HH.o.2).mono ?_;rintro e w' ⟨rfl,rfl⟩;rw [HTN.o.2]))
 obtain ⟨S,hS⟩:∃S,S=na+nb:=⟨_,rfl⟩;have s1:(na:Int)+(nb:Int)=(S:Int):=zZ;have hSl:S≤35184372088832:=zZ;have HS:=jJ hS;clear hS hsum;go_upto_region 3 with (at_make;refine wpList_make_row _ rfl _ _ 23 rfl 112 i0 (.int .u32 0) underlying23 HI.o.1 HI.o.2.1 HI.o.2.2.1 rfl .i64 .i64 _ _ S rfl rfl zZ zZ qN zZ ?_;intro w1 hrow hk1 hsz1;have HR:=jJ (aI3 hrow hk1 hsz1);clear hrow hk1 hsz1)
 obtain ⟨g,hg⟩:∃g,g=w.heap.size:=⟨_,rfl⟩;have HG:=jJ hg;rw [←hg];have hr0:=HR.o.1;rw [←hg] at hr0;have HR0:=jJ (aI hr0 HR.o.2.1);clear hr0 HR hg;go_wp2_with fail
 go_loopw [23] (fun iv wr=>∃i:Nat,i≤na∧iv=.int .i64 (i:Int)∧aF wr g 112 (eX (gZ ta tb i)++zeros (na-i) (.int .u32 0))∧aA Nil w wr) (fun iv _=>na-(intOf iv).toNat)
 case atStart=>
  refine ⟨0,aZ2 _,rfl,?_,HR0.o.2⟩;have:=HR0.o.1;rw [HS.o] at this;have e:eX (gZ ta tb 0)++zeros (na-0) (.int .u32 0)=zeros (na+nb) (.int .u32 0):=by
   simp only [gZ,eX,zeros,List.map_replicate,Nat.sub_zero,HA.o.2.2.2,Go.Proofs.Q.u32];rw [Nat.add_comm na nb,←List.replicate_append_replicate];rfl
  rw [e];exact this
 case round=>
  clear HR0;rename World=>wi;obtain ⟨i,hi,rfl,hrow,hkr⟩:=hrel;obtain ⟨m1,m2,m3⟩:=aEE HA.o.1.lt HA.o.2.1.lt i;rw [HA.o.2.2.2] at m1;by_cases hin:i<na
  ·have lx:=bX HA.o.1.lt i;obtain ⟨b0,o0,hae,hb0,_,hx⟩:=(HA.o.1.eO hkr).cell hin;have hpre:((gZ ta tb i).take i).length=i:=xV;have hdl:((gZ ta tb i).drop i).length=nb:=qR;have hds:Small ((gZ ta tb i).drop i):=aCU m2 i;have e1:gZ ta tb (i+1)=(gZ ta tb i).take i++((gW tb (lim ta i) ((gZ ta tb i).drop i) tb.length).1++[(gW tb (lim ta i) ((gZ ta tb i).drop i) tb.length).2]):=rfl;rw [HA.o.2.2.2] at e1;have hrow2:aF wi g 112 (eX ((gZ ta tb i).take i)++(eX []++(eX ((gZ ta tb i).drop i)++zeros (na-i) (.int .u32 0)))):=by
    have:eX (gZ ta tb i)=eX ((gZ ta tb i).take i)++eX ((gZ ta tb i).drop i):=by unfold eX;rw [←cZ2,aZ3]
    rw [this,mZ2] at hrow;exact hrow
   have hz:zeros (na-i) (Value.int .u32 0)=eX [0]++zeros (na-(i+1)) (.int .u32 0):=by
    rw [show na-i=(na-(i+1))+1 by omega];rfl
   generalize hpp:(gZ ta tb i).take i=pre at *
   generalize hdd:(gZ ta tb i).drop i=d at *
   generalize hxx:lim ta i=x at *
   have HP:=jJ (aI7 hrow2 hkr hpre hdl hds e1 hz);subst hae;have j0:(0:Int)≤(i:Int):=zZ;have j1:(i:Int)<(na:Int):=zZ;clear hrow hrow2 hkr m1 m2 m3 hpre hdl hds e1 hpp hdd hxx hz;go_wp2_with fail
   go_loopw [8,30] (fun cv kv wr=>∃K:Nat,K≤nb∧kv=.int .i64 (K:Int)∧cv=.int .u64 ((gW tb x d K).2:Int)∧aF wr g 112 (eX pre++(eX (gW tb x d K).1++(eX (d.drop K)++zeros (na-i) (.int .u32 0))))∧aA Nil w wr) (fun _ kv _=>nb-(intOf kv).toNat)
   case atStart=>exact⟨0,aZ2 _,rfl,rfl,HP.o.1,HP.o.2.1⟩
   case round=>
    rename World=>wk;obtain ⟨K,hK,rfl,rfl,hrow,hkr⟩:=hrel;obtain ⟨q1,q2,q3,q4⟩:=VH HA.o.2.1.lt HP.o.r4.1 lx K;have hgk:=hrow.lt;have hfz:=hrow.frozen (i+K);by_cases hKn:K<nb
    ·have hx2:=KU hrow HP.o.2.2.1 q1 (show K<d.length by rw [HP.o.2.2.2.1];exact hKn);obtain ⟨b3,o3,hae,hb3,_,hy⟩:=(HA.o.2.1.eO hkr).cell hKn;subst hae;have ly:=bX HA.o.2.1.lt K;have lo:=bX HP.o.r4.1 K;have hdrop:d.drop K=lim d K::d.drop (K+1):=by rw [List.drop_eq_getElem_cons (by rw [HP.o.2.2.2.1];exact hKn),jB (by rw [HP.o.2.2.2.1];exact hKn)]
     have e2:(gW tb x d (K+1)).2=(x*lim tb K+lim d K+(gW tb x d K).2) / Bs:=rfl;have e3:(gW tb x d (K+1)).1=(gW tb x d K).1++[(x*lim tb K+lim d K+(gW tb x d K).2) % Bs]:=rfl;rw [cY] at e2 e3;rw [hdrop] at hrow;have hf:=aJV lx ly lo q3;obtain ⟨iK,hiK⟩:∃iK,iK=i+K:=⟨_,rfl⟩;have j2:(0:Int)≤(K:Int):=zZ;have j3:(K:Int)<(nb:Int):=zZ;have j4:(i:Int)+(K:Int)=(iK:Int):=zZ;have j5:(0:Int)≤(iK:Int):=zZ;have j6:(iK:Int)<(S:Int):=by have:=HS.o;omega
     have j7:IntKind.i64.wrap (iK:Int)=(iK:Int):=IntWalk.i64_in _ zZ;rw [←hiK] at hx2 hfz;generalize hcc:(gW tb x d K).2=cc at *
     generalize hyy:lim tb K=y at *
     generalize hoo:lim d K=o at *
     obtain ⟨t,ht⟩:∃t,t=x*y:=⟨_,rfl⟩;obtain ⟨t2,ht2⟩:∃t2,t2=t+o:=⟨_,rfl⟩;obtain ⟨t3,ht3⟩:∃t3,t3=t2+cc:=⟨_,rfl⟩;rw [←ht,←ht2,←ht3] at e2 e3;rw [←ht] at hf;have b1:(x:Int)*(y:Int)=(t:Int):=by rw [ht,Int.natCast_mul]
     have b2':IntKind.u64.wrap (t:Int)=(t:Int):=cI zZ;have b3':(t:Int)+(o:Int)=(t2:Int):=zZ;have b4:IntKind.u64.wrap (t2:Int)=(t2:Int):=cI zZ;have b5:(cc:Int)+(t2:Int)=(t3:Int):=zZ;have b6:IntKind.u64.wrap (t3:Int)=(t3:Int):=cI zZ;obtain ⟨cl,hcl⟩:∃cl,cl=t3 % 4294967296:=⟨_,rfl⟩;obtain ⟨ch,hch⟩:∃ch,ch=t3 / 4294967296:=⟨_,rfl⟩;have b7:(t3:Int) % 4294967296=(cl:Int):=zZ;have b8:(t3:Int) / 4294967296=(ch:Int):=zZ;rw [←hcl] at e3;rw [←hch] at e2;have HRW:=jJ (aI6 hrow hkr q1 e2 e3 hiK);clear hrow hkr q1 q2 q3 q4 e2 e3 hcc hyy hoo ht ht2 ht3 hcl hch hiK hdrop hf;go_wp2_with fail
     go_roundw
     case rel=>exact⟨K+1,zZ,zF,congrArg (Value.int .u64) (by rw [HRW.o.2.2.2.1]),by rw [HRW.o.r4.1,HRW.o.r5];exact IK HRW.o.1 HP.o.2.2.1 HRW.o.2.2.1 rfl,HRW.o.2.1.setCell (p:=⟨g,iK,none⟩) (.inr (by rw [HG.o];exact bZ2 _)) _⟩
     case measure=>exact zI
    ·obtain rfl:K=nb:=zZ;have hd2:d.drop K=[]:=List.drop_eq_nil_of_le (by rw [HP.o.2.2.2.1];exact bZ2 _);rw [hd2,HP.o.r6] at hrow;have hcell:wk.cell? ⟨g,i+K,none⟩=some (.int .u32 0):=by
      have h':aF wk g 112 (eX pre++(eX ((gW tb x d K).1++[0])++zeros (na-(i+1)) (.int .u32 0))):=by simpa [eX] using hrow
      have:=KT (k:=K) h' HP.o.2.2.1 (by rw [aZ1,q1];simp);rw [this];have e:=TP (gW tb x d K).1 0;rw [q1] at e;rw [e];rfl
     obtain ⟨iK,hiK⟩:∃iK,iK=i+K:=⟨_,rfl⟩;have j4:(i:Int)+(K:Int)=(iK:Int):=zZ;have j5:(0:Int)≤(iK:Int):=zZ;have j6:(iK:Int)<(S:Int):=by have:=HS.o;omega
     have j7:IntKind.i64.wrap (iK:Int)=(iK:Int):=IntWalk.i64_in _ zZ;rw [←hiK] at hcell hfz;generalize hcc:(gW tb x d K).2=cc at *
     have b7:(cc:Int) % 4294967296=(cc:Int):=zZ;have HRW:=jJ (aI5 hrow hkr q1 hiK hcc);clear hrow hkr q1 q2 q3 q4 hd2 hiK hcc;go_wp2_with fail
     go_roundw
     case rel=>
      refine ⟨i+1,zZ,zF,?_,HRW.o.2.1.setCell (p:=⟨g,iK,none⟩) (.inr (by rw [HG.o];exact bZ2 _)) _⟩;rw [HP.o.r5.1,HRW.o.2.2.2.1];have:=IK (x:=cc) (v:=.int .u32 (cc:Int)) (o:=(gW tb x d K).1) (y:=0) (t:=[]) (rest:=zeros (na-(i+1)) (.int .u32 0)) (by simpa [eX] using HRW.o.1) HP.o.2.2.1 HRW.o.2.2.1 rfl;simpa [eX] using this
     case measure=>exact zI
  ·obtain rfl:i=na:=zZ;rw [Nat.sub_self,show zeros 0 (Value.int .u32 0)=[] from rfl,fZ2] at hrow;have hL:=aU.ofRow (M:=Nil) hrow m2 (fun h=>h.elim) (by rw [m1];have:=HS.o;omega);rw [m1,←HS.o] at hL;rw [eZ1 (by rw [HA.o.2.2.1];exact bZ2 _)] at m3;have HL:=jJ (aI4 hL m2 m3 hkr);clear hrow hkr m1 m2 m3 hL;go_wp2_with (go_at_call 133;refine (AL (M:=M) (HM.o.keep HL.o.2.2.2) HL.o.1 zZ).mono ?_;rintro e w5 ⟨a5,c5,rfl,h5,hk5⟩)
   go_ret
   rw [mQ HL.o.2.1,iN HL.o.2.1,HL.o.2.2.1] at h5;rw [iN HL.o.2.1,HL.o.2.2.1];exact⟨_,_,rfl,h5,HL.o.2.2.2.trans hk5⟩
theorem aGW (g:Bool) (l:List Nat):ival (g,l)=if g=true then -(nval l:Int) else (nval l:Int):=by
 cases g<;>simp [ival]
theorem aYZ {g g2:Bool} {l l2:List Nat} {z z2:Int} (h:ival (g,l)=z) (h2:ival (g2,l2)=z2):(if (g != g2)=true then -((nval l*nval l2:Nat):Int) else ((nval l*nval l2:Nat):Int))=z*z2:=by
 rw [←h,←h2,aGW,aGW,Int.natCast_mul];cases g<;>cases g2<;>simp [Int.neg_mul,Int.mul_neg]
theorem KV {M:Nat→Prop} {g g2:Bool} {a a2:Option Addr} {n c n2 c2:Nat} {z z2:Int} {w:World} (hM:MB M w) (h:ZAt Nil w g a n c z) (h2:ZAt Nil w g2 a2 n2 c2 z2) (hn:(n+n2)*4≤140737488355328) :
  Calls prog 59 #[.agg #[.bool g,.slice a n c],.agg #[.bool g2,.slice a2 n2 c2]] w fun e w'=>nI M w (z*z2) e w':=by
 obtain ⟨l,hl,hln,hz⟩:=h;obtain ⟨l2,hl2,hln2,hz2⟩:=h2;have hzz:=aYZ hz hz2;have hlen:eP (nval l*nval l2)≤n+n2:=bZ1 (aIQ _ _) (by have:=iD hl.lt;have:=iD hl2.lt;rw [hl.len] at *;rw [hl2.len] at *;omega);have HA:=jJ (aI hl hl2);have HM:=jJ hM;have HN:=jJ (aI3 hn (show eP (nval l*nval l2)*4≤140737488355328 by omega) hzz);have HRS:=jJ (QY w 25 (.bool g) (.slice a n c) (.bool g2) (.slice a2 n2 c2) (.bool false) (.slice none 0 0));obtain ⟨P,hP⟩:∃P,P=nval l*nval l2:=⟨_,rfl⟩;rw [←hP] at HN;have HPP:=jJ hP;clear hM hn hl hl2 hln hln2 hz hz2 hzz hlen hP;go_enter func59,ntmps59
 go_wp2_with fail
 obtain ⟨r0,r1,r2,hk0⟩:=HRS.o;clear HRS;generalize (((w.alloc (.cells #[.bool g,.slice a n c] 25)).alloc (.cells #[.bool g2,.slice a2 n2 c2] 25)).alloc (.cells #[.bool false,.slice none 0 0] 25))=w0 at *
 obtain ⟨c00,c01,_,_⟩:=r0.two;obtain ⟨c10,c11,_,_⟩:=r1.two;obtain ⟨c20,c21,f20,f21⟩:=r2.two;have b0:=r0.lt;have b1:=r1.lt;have b2:=r2.lt;have H0:=jJ (aI hk0 r2);clear hk0 r0 r1 r2;have ne1:¬w.heap.size=w.heap.size+1+1:=zZ;have ne2:¬w.heap.size+1+1=w.heap.size:=zZ;go_region_held3 (fun w'=>w'.cell? ⟨w.heap.size,0,none⟩=some (.bool g)∧w'.cell? ⟨w.heap.size,1,none⟩=some (.slice a n c)∧w'.cell? ⟨w.heap.size+1,0,none⟩=some (.bool g2)∧w'.cell? ⟨w.heap.size+1,1,none⟩=some (.slice a2 n2 c2)) (go_keep) (first|(go_at_call 102;refine (aTJ (M:=Nil) (MB.nil _) ((HA.o.1.eO H0.o.1).eO kOf) ((HA.o.2.eO H0.o.1).eO kOf) HN.o.1).mono ?_;rw [←HPP.o];rintro e w1 ⟨a1,c1,rfl,h1,hk1⟩;have d00:=hk1.eY b0 id c00;have d01:=hk1.eY b0 id c01;have d10:=hk1.eY b1 id c10;have d11:=hk1.eY b1 id c11;have H1:=jJ h1;clear h1)|(go_at_call 92;refine (nL (M:=With M (w.heap.size+1+1)) ((((HM.o.keep H0.o.1).with b2).keep (M':=Nil) kOf).keep hk1) (FE (g != g2) (H1.o.eO kOf) HN.o.2.1)).mono ?_;rw [HN.o.2.2];rintro e w2 ⟨g',a',n',c',rfl,h',hk2⟩;have e00:=hk2.eY (cZ1 b0 hk1.size) id d00;have e01:=hk2.eY (cZ1 b0 hk1.size) id d01;have e10:=hk2.eY (cZ1 b1 hk1.size) id d10;have e11:=hk2.eY (cZ1 b1 hk1.size) id d11;have r2':=(H0.o.2.keep (M:=Nil) (show aA Nil w0 w1 from kkA) id).keep (show aA Nil w1 w2 from kkA) id;obtain ⟨c0,c1',f0,f1⟩:=r2'.two;have HT:=jJ h';clear h' r2'))
 go_wp2
 exact bodyPost_ret (v:=.agg #[.bool g',.slice a' n' c']) (by simp [results,results59,go_sem,c0,c1']) rfl ⟨_,_,_,_,rfl,HT.o.less (aA.pair _ _),((((H0.o.1.trans kOf).trans hk1).trans kOf).trans hk2).own zZ (aA.pair _ _)⟩
theorem VF {k:Nat} (hk:k<32):2 ^ k*2 ^ (32-k)=4294967296:=uT
theorem bBA {x k c:Nat} (hk:k<32) (hc:c<2 ^ k):(x*2 ^ k+c) % 4294967296=x*2 ^ k % 4294967296+c∧(x*2 ^ k+c) / 4294967296=x*2 ^ k / 4294967296∧c ||| x*2 ^ k % 4294967296=x*2 ^ k % 4294967296+c:=by
 have hp:=VF hk;have hm:x*2 ^ k % 4294967296=x % 2 ^ (32-k)*2 ^ k:=by
  rw [←hp,Nat.mul_comm x,Nat.mul_mod_mul_left,Nat.mul_comm]
 have hlt:x % 2 ^ (32-k)*2 ^ k+2 ^ k≤4294967296:=by
  rw [←hp,←Nat.succ_mul,Nat.mul_comm (2 ^ k)];exact Nat.mul_le_mul_right _ (Nat.mod_lt _ (Nat.two_pow_pos _))
 have hd:=Nat.div_add_mod (x*2 ^ k) 4294967296;refine ⟨zZ,zZ,?_⟩;rw [hm,Nat.or_comm,←Nat.shiftLeft_eq];exact (Nat.shiftLeft_add_eq_or_of_lt hc _).symm
theorem VZ {x k:Nat} (hk:k<32) (hx:x<4294967296):x*2 ^ k / 4294967296<2 ^ k∧x*2 ^ k<18446744073709551616:=by
 have h1:x*2 ^ k<2 ^ k*4294967296:=by rw [Nat.mul_comm];exact Nat.mul_lt_mul_of_pos_left hx (Nat.two_pow_pos _)
 have h2:2 ^ k≤2 ^ 31:=Nat.pow_le_pow_right zY zZ;exact⟨by rw [Nat.div_lt_iff_lt_mul zY];exact h1,zZ⟩
theorem GX {k:Nat} (hk:k<32):2 ^ k<4294967296:=by
 have h2:2 ^ k≤2 ^ 31:=Nat.pow_le_pow_right zY zZ;omega
theorem aFQ {l:List Nat} {p:Nat} (hs:Small l) (hp:0<p):∀i,(cA l p 0 i).2<p
 | 0=>hp
 | i+1=>by
  have h:=aFQ hs hp i;have hx:=bX hs i;show (lim l i*p+(cA l p 0 i).2) / Bs<p
  rw [Nat.div_lt_iff_lt_mul iI,cY]
  calc lim l i*p+(cA l p 0 i).2<lim l i*p+p:=zZ
   _=(lim l i+1)*p:=by rw [Nat.add_mul,Nat.one_mul]
   _≤4294967296*p:=Nat.mul_le_mul_right _ hx
   _=p*4294967296:=Nat.mul_comm _ _
theorem aGN {M:Nat→Prop} {a:Option Addr} {n c k:Nat} {l:List Nat} {w:World} (h:aU M w a n c l) (hr:n*4+4≤140737488355328) (hk:k<32) :
  Calls prog 139 #[.slice a n c,.int .u64 (k:Int)] w fun e w'=>e=.returned (.slice (some ⟨w.heap.size,0,none⟩) (n+1) (n+1))∧aF w' w.heap.size 112 (eX (iQ l (2 ^ k)))∧aA Nil w w':=by
 obtain ⟨i0,hi,hz0,hz1,hz2⟩:=info_parts EO;have HH:=jJ h.gK;have hcap:=h.sl.cap;have hle:=h.sl.le;have hs:=h.lt;have hln:=h.len;have HI:=jJ (aI4 hi hz0 hz1 hz2);have tl:n≤35184372088831:=zZ;clear h hi hz0 hz1 hz2 hr;go_enter func139,ntmps139
 go_wp2_with (at_make;refine wpList_make_row _ rfl _ _ 23 rfl 112 i0 (.int .u32 0) underlying23 HI.o.1 HI.o.2.1 HI.o.2.2.1 rfl .i64 .i64 _ _ (n+1) rfl rfl zZ zZ qN zZ ?_;intro w1 hrow hk1 hsz1;have HR:=jJ (aI3 hrow hk1 hsz1);clear hrow hk1 hsz1)
 have hg:=HR.o.1.lt;go_loopw [15] (fun kv wr=>∃K:Nat,K≤n∧kv=.int .i64 K∧aF wr w.heap.size 112 (eX (cA l (2 ^ k) 0 K).1++(eX [(cA l (2 ^ k) 0 K).2]++zeros (n-K) (.int .u32 0)))∧aA Nil w wr) (fun kv _=>n-(intOf kv).toNat)
 case atStart=>exact⟨0,aZ2 _,rfl,HR.o.1,HR.o.2.1⟩
 case round=>
  obtain ⟨K,hK,rfl,hrow,hkk⟩:=hrel;obtain ⟨q1,q2,q3,q4⟩:=MZ (more:=0) hs (GX hk) zY K;have hgr:=hrow.lt;by_cases hKn:K<n
  ·have lx:=bX hs K;obtain ⟨b3,o3,hae,hb3,hng3,hy⟩:=(HH.o.eO hkk).cell hKn;subst hae;have hc:=(VZ (x:=lim l K) hk lx).1;have hz:zeros (n-K) (Value.int .u32 0)=eX [0]++zeros (n-(K+1)) (.int .u32 0):=by
    rw [show n-K=(n-(K+1))+1 by omega];rfl
   have hck:=aFQ hs (Nat.two_pow_pos k) K;have hlo:=bBA (x:=lim l K) hk hck;have c0:=hrow.cell K;have c1:=hrow.cell (K+1);have f0:=hrow.frozen K;have f1:=hrow.frozen (K+1);rw [List.getElem?_append_right (by rw [dV,q1];exact bZ2 _),dV,q1,Nat.sub_self] at c0;rw [List.getElem?_append_right (by rw [dV,q1];omega),dV,q1,show K+1-K=1 by omega,hz] at c1;simp only [eX,dZ2,List.map_nil,hZ3,iZ3,List.getElem?_cons_zero,List.getElem?_cons_succ,Go.Proofs.Q.u32] at c0 c1;have HROW:=jJ (aI4 hrow hkk q1 hz);clear hrow hkk q1 q2 q4 hz;have j3:(0:Int)≤(K:Int):=zZ;have j4:(K:Int)<(n:Int):=zZ;have e0:IntKind.u64.wrap ((lim l K:Int)*2 ^ k)=((lim l K*2 ^ k:Nat):Int):=by
    have:=cI (VZ (x:=lim l K) hk lx).2;rw [Int.natCast_mul,Int.natCast_pow] at this;rw [Int.natCast_mul,Int.natCast_pow];exact this
   have e1:(cA l (2 ^ k) 0 (K+1)).1=(cA l (2 ^ k) 0 K).1++[(lim l K*2 ^ k+(cA l (2 ^ k) 0 K).2) % Bs]:=rfl;have e2:(cA l (2 ^ k) 0 (K+1)).2=(lim l K*2 ^ k+(cA l (2 ^ k) 0 K).2) / Bs:=rfl;rw [cY] at e1 e2;have HE:=jJ (aI4 e0 e1 e2 hlo);have HS:=jJ hs;clear e0 e1 e2 hlo hck hs hc;generalize hcc:(cA l (2 ^ k) 0 K).2=cc at *
   have HC:=jJ hcc;clear hcc;go_wp2_with fail
   go_roundw
   case rel=>
    have hl:=HE.o.2.2.2;have r1:=EN (x:=(lim l K*2 ^ k+cc) % 4294967296) (v:=.int .u32 (bits .or .u32 (cc:Int) (IntKind.u64.wrap ((lim l K:Int)*2 ^ k) % 4294967296))) (t:=[]) HROW.o.1 HROW.o.2.2.1 (congrArg (Value.int .u32) (by
     rw [HE.o.1,show (((lim l K*2 ^ k:Nat):Int) % 4294967296)=((lim l K*2 ^ k % 4294967296:Nat):Int) by omega,SQ _ _ q3 (Nat.mod_lt _ zY),hl.2.2,hl.1]))
    rw [HROW.o.2.2.2] at r1;have r2:=EN (x:=(lim l K*2 ^ k+cc) / 4294967296) (v:=.int .u32 (IntKind.u64.wrap ((lim l K:Int)*2 ^ k) / 4294967296 % 4294967296)) (k:=K+1) (o:=(cA l (2 ^ k) 0 K).1++[(lim l K*2 ^ k+cc) % 4294967296]) (y:=0) (t:=[]) (rest:=zeros (n-(K+1)) (.int .u32 0)) (by simpa [eX] using r1) (by rw [aZ1,HROW.o.2.2.1];rfl) (congrArg (Value.int .u32) (by
     have:=(VZ (x:=lim l K) hk lx).1;have:=GX hk;rw [HE.o.1,hl.2.1];omega))
    exact⟨K+1,zZ,zF,by rw [HE.o.2.1,HE.o.2.2.1];simpa [eX] using r2,(HROW.o.2.1.setCell (p:=⟨w.heap.size,K,none⟩) (.inr (bZ2 _)) _).setCell (p:=⟨w.heap.size,K+1,none⟩) (.inr (bZ2 _)) _⟩
   case measure=>exact zI
  ·obtain rfl:K=n:=zZ;have hfin:aF wr w.heap.size 112 (eX (iQ l (2 ^ k))):=by
    rw [Nat.sub_self] at hrow;unfold iQ;rw [hln];simpa [eX,zeros] using hrow
   have HF:=jJ (aI hfin hkk);clear hrow hkk q1 q2 q4 hfin hs;go_wp2_with fail
   go_ret
   exact⟨rfl,HF.o.1,HF.o.2⟩
end Go.Proofs.Q
