/- What nat.Mul does. -/
import Derived.Test.YtlldghknenbccaaGreatDoorPNatDigit
import Derived.Test.YtlldghknenbccaaGreatDoorPZints
set_option linter.unusedSimpArgs false
set_option linter.unusedVariables false
set_option maxRecDepth 100000
set_option maxHeartbeats 4000000
namespace Go.Proofs.Q
open Go.RowKit Tryz
def macK (b:List Nat) (x:Nat) (d:List Nat):Nat→List Nat × Nat
 | 0=>([],0)
 | k+1=>((macK b x d k).1++[(x*lim b k+lim d k+(macK b x d k).2) % Bs],(x*lim b k+lim d k+(macK b x d k).2) / Bs)
theorem mac_fit {x y o c:Nat} (hx:x<4294967296) (hy:y<4294967296) (ho:o<4294967296) (hc:c<4294967296):x*y≤18446744065119617025∧x*y+o+c<18446744073709551616:=by
 have:x*y≤4294967295*4294967295:=Nat.mul_le_mul (by omega) (by omega);omega
theorem macK_spec {b d:List Nat} {x:Nat} (hb:Small b) (hd:Small d) (hx:x<4294967296):∀k,(macK b x d k).1.length=k∧Small (macK b x d k).1∧(macK b x d k).2<4294967296∧nval (macK b x d k).1+Bs ^ k*(macK b x d k).2=x*nval (b.take k)+nval (d.take k)
 | 0=>⟨rfl,Small.nil,by simp [macK],by simp [macK,nval]⟩
 | k+1=>by
  obtain ⟨h1,h2,h3,h4⟩:=macK_spec hb hd hx k;have lb:=bT hb k;have ld:=bT hd k;have hf:=mac_fit hx lb ld h3;refine ⟨by simp [macK,h1],small_snoc h2 (by have:=Nat.mod_lt (x*lim b k+lim d k+(macK b x d k).2) Bs_pos;rw [cL] at this⊢;exact this),?_,?_⟩
  ·simp only [macK];rw [cL];omega
  ·simp only [macK];have hc:=carry_split k (x*lim b k+lim d k+(macK b x d k).2);rw [nval_snoc,h1,bL,bL,Nat.add_assoc,hc,Nat.mul_add,Nat.mul_add,Nat.mul_add,Nat.mul_left_comm x (Bs ^ k)];omega
theorem small_drop {l:List Nat} (h:Small l) (k:Nat):Small (l.drop k):=fun y hy=>h y (List.mem_of_mem_drop hy)
def mulK (a b:List Nat):Nat→List Nat
 | 0=>List.replicate b.length 0
 | i+1=>(mulK a b i).take i++((macK b (lim a i) ((mulK a b i).drop i) b.length).1++[(macK b (lim a i) ((mulK a b i).drop i) b.length).2])
theorem mulK_spec {a b:List Nat} (ha:Small a) (hb:Small b):∀i,(mulK a b i).length=i+b.length∧Small (mulK a b i)∧nval (mulK a b i)=nval (a.take i)*nval b
 | 0=>⟨by simp [mulK],fun x hx=>by simp [mulK] at hx;omega,by simp [mulK,nval_replicate,nval]⟩
 | i+1=>by
  obtain ⟨h1,h2,h3⟩:=mulK_spec ha hb i;obtain ⟨m1,m2,m3,m4⟩:=macK_spec hb (small_drop h2 i) (bT ha i) b.length;have ht:((mulK a b i).take i).length=i:=by rw [iZ1];omega
  rw [List.take_length,eZ1 (by rw [dZ3];omega)] at m4;refine ⟨by simp only [mulK,aZ1,ht,m1,List.length_singleton];omega,(h2.take i).append (small_snoc m2 m3),?_⟩;have hs:=nval_split (mulK a b i) i (by omega);simp only [mulK];rw [nval_append,ht,nval_snoc,m1,m4,bL,Nat.add_mul,←h3,hs,Nat.mul_add,Nat.mul_assoc];omega
theorem natMul_any {M:Nat→Prop} {a a2:Option Addr} {n c n2 c2:Nat} {l l2:List Nat} {w:World} (hM:MB M w) (h:aR Nil w a n c l) (h2:aR Nil w a2 n2 c2 l2) (hr:(n+n2)*4≤140737488355328) :
  Calls prog 102 #[.slice a n c,.slice a2 n2 c2] w fun e w'=>∃a' c',e=.returned (.slice a' (nlen (nval l*nval l2)) c')∧aR M w' a' (nlen (nval l*nval l2)) c' (bD (nval l*nval l2))∧aA Nil w w':=by
 obtain ⟨i0,hi⟩:=info_parts info_u32;have HI:=jJ hi;have ba:=h.bare;have bb:=h2.bare;have hva:=cQ l;have hvb:=cQ l2;have hal:(trim l).length=top l:=cY l;have hbl:(trim l2).length=top l2:=cY l2;have htn:top l≤n:=by rw [←h.len];exact top_le l
 have htn2:top l2≤n2:=by rw [←h2.len];exact top_le l2
 have HH:=jJ (aI h h2);rw [←hva,←hvb];generalize hta:trim l=ta at *
 generalize htb:trim l2=tb at *
 generalize hna:top l=na at *
 generalize hnb:top l2=nb at *
 have HTN:=jJ (aI hna hnb);have HA:=jJ (aI4 ba bb hal hbl);have HM:=jJ hM;have han:na≤35184372088832:=by omega
 have hbn:nb≤35184372088832:=by omega
 have hsum:na+nb≤35184372088832:=by omega
 clear h h2 ba bb hva hvb hal hbl htn htn2 hta htb hna hnb hM hi hr;go_enter func102,ntmps102
 go_upto_region 2 with (first|(go_at_call_of 136 (Value.slice a n c);refine (dJ HH.o.1).mono ?_;rintro e w' ⟨rfl,rfl⟩;rw [HTN.o.1])|(go_at_call_of 136 (Value.slice a2 n2 c2);refine (dJ HH.o.2).mono ?_;rintro e w' ⟨rfl,rfl⟩;rw [HTN.o.2]))
 obtain ⟨S,hS⟩:∃S,S=na+nb:=⟨_,rfl⟩;have s1:(na:Int)+(nb:Int)=(S:Int):=by omega
 have hSl:S≤35184372088832:=by omega
 have HS:=jJ hS;clear hS hsum;go_upto_region 3 with (at_make;refine wpList_make_row _ rfl _ _ 23 rfl 112 i0 (.int .u32 0) underlying23 HI.o.1 HI.o.2.1 HI.o.2.2.1 rfl .i64 .i64 _ _ S rfl rfl (by omega) (by omega) (by rw [HI.o.2.2.2];omega) (by omega) ?_;intro w1 hrow hk1 hsz1;have HR:=jJ (aI3 hrow hk1 hsz1);clear hrow hk1 hsz1)
 obtain ⟨g,hg⟩:∃g,g=w.heap.size:=⟨_,rfl⟩;have HG:=jJ hg;rw [←hg];have hr0:=HR.o.1;rw [←hg] at hr0;have HR0:=jJ (aI hr0 HR.o.2.1);clear hr0 HR hg;go_wp2_with fail
 go_loopw [23] (fun iv wr=>∃i:Nat,i≤na∧iv=.int .i64 (i:Int)∧aC wr g 112 (u32s (mulK ta tb i)++zeros (na-i) (.int .u32 0))∧aA Nil w wr) (fun iv _=>na-(intOf iv).toNat)
 case atStart=>
  refine ⟨0,aZ2 _,rfl,?_,HR0.o.2⟩;have:=HR0.o.1;rw [HS.o] at this;have e:u32s (mulK ta tb 0)++zeros (na-0) (.int .u32 0)=zeros (na+nb) (.int .u32 0):=by
   simp only [mulK,u32s,zeros,List.map_replicate,Nat.sub_zero,HA.o.2.2.2,Go.Proofs.Q.u32];rw [Nat.add_comm na nb,←List.replicate_append_replicate];rfl
  rw [e];exact this
 case round=>
  clear HR0;rename World=>wi;obtain ⟨i,hi,rfl,hrow,hkr⟩:=hrel;obtain ⟨m1,m2,m3⟩:=mulK_spec HA.o.1.lt HA.o.2.1.lt i;rw [HA.o.2.2.2] at m1;by_cases hin:i<na
  ·have lx:=bT HA.o.1.lt i;obtain ⟨b0,o0,hae,hb0,_,hx⟩:=(HA.o.1.keepNil hkr).cell hin;have hpre:((mulK ta tb i).take i).length=i:=by rw [iZ1];omega
   have hdl:((mulK ta tb i).drop i).length=nb:=by rw [dZ3];omega
   have hds:Small ((mulK ta tb i).drop i):=small_drop m2 i;have e1:mulK ta tb (i+1)=(mulK ta tb i).take i++((macK tb (lim ta i) ((mulK ta tb i).drop i) tb.length).1++[(macK tb (lim ta i) ((mulK ta tb i).drop i) tb.length).2]):=rfl;rw [HA.o.2.2.2] at e1;have hrow2:aC wi g 112 (u32s ((mulK ta tb i).take i)++(u32s []++(u32s ((mulK ta tb i).drop i)++zeros (na-i) (.int .u32 0)))):=by
    have:u32s (mulK ta tb i)=u32s ((mulK ta tb i).take i)++u32s ((mulK ta tb i).drop i):=by unfold u32s;rw [←cZ2,aZ3]
    rw [this,mZ2] at hrow;exact hrow
   have hz:zeros (na-i) (Value.int .u32 0)=u32s [0]++zeros (na-(i+1)) (.int .u32 0):=by
    rw [show na-i=(na-(i+1))+1 by omega];rfl
   generalize hpp:(mulK ta tb i).take i=pre at *
   generalize hdd:(mulK ta tb i).drop i=d at *
   generalize hxx:lim ta i=x at *
   have HP:=jJ (aI7 hrow2 hkr hpre hdl hds e1 hz);subst hae;have j0:(0:Int)≤(i:Int):=by omega
   have j1:(i:Int)<(na:Int):=by omega
   clear hrow hrow2 hkr m1 m2 m3 hpre hdl hds e1 hpp hdd hxx hz;go_wp2_with fail
   go_loopw [8,30] (fun cv kv wr=>∃K:Nat,K≤nb∧kv=.int .i64 (K:Int)∧cv=.int .u64 ((macK tb x d K).2:Int)∧aC wr g 112 (u32s pre++(u32s (macK tb x d K).1++(u32s (d.drop K)++zeros (na-i) (.int .u32 0))))∧aA Nil w wr) (fun _ kv _=>nb-(intOf kv).toNat)
   case atStart=>exact⟨0,aZ2 _,rfl,rfl,HP.o.1,HP.o.2.1⟩
   case round=>
    rename World=>wk;obtain ⟨K,hK,rfl,rfl,hrow,hkr⟩:=hrel;obtain ⟨q1,q2,q3,q4⟩:=macK_spec HA.o.2.1.lt HP.o.r4.1 lx K;have hgk:=hrow.lt;have hfz:=hrow.frozen (i+K);by_cases hKn:K<nb
    ·have hx2:=win_next hrow HP.o.2.2.1 q1 (show K<d.length by rw [HP.o.2.2.2.1];exact hKn);obtain ⟨b3,o3,hae,hb3,_,hy⟩:=(HA.o.2.1.keepNil hkr).cell hKn;subst hae;have ly:=bT HA.o.2.1.lt K;have lo:=bT HP.o.r4.1 K;have hdrop:d.drop K=lim d K::d.drop (K+1):=by rw [List.drop_eq_getElem_cons (by rw [HP.o.2.2.2.1];exact hKn),lim_lt (by rw [HP.o.2.2.2.1];exact hKn)]
     have e2:(macK tb x d (K+1)).2=(x*lim tb K+lim d K+(macK tb x d K).2) / Bs:=rfl;have e3:(macK tb x d (K+1)).1=(macK tb x d K).1++[(x*lim tb K+lim d K+(macK tb x d K).2) % Bs]:=rfl;rw [cL] at e2 e3;rw [hdrop] at hrow;have hf:=mac_fit lx ly lo q3;obtain ⟨iK,hiK⟩:∃iK,iK=i+K:=⟨_,rfl⟩;have j2:(0:Int)≤(K:Int):=by omega
     have j3:(K:Int)<(nb:Int):=by omega
     have j4:(i:Int)+(K:Int)=(iK:Int):=by omega
     have j5:(0:Int)≤(iK:Int):=by omega
     have j6:(iK:Int)<(S:Int):=by have:=HS.o;omega
     have j7:IntKind.i64.wrap (iK:Int)=(iK:Int):=IntWalk.i64_in _ (by omega);rw [←hiK] at hx2 hfz;generalize hcc:(macK tb x d K).2=cc at *
     generalize hyy:lim tb K=y at *
     generalize hoo:lim d K=o at *
     obtain ⟨t,ht⟩:∃t,t=x*y:=⟨_,rfl⟩;obtain ⟨t2,ht2⟩:∃t2,t2=t+o:=⟨_,rfl⟩;obtain ⟨t3,ht3⟩:∃t3,t3=t2+cc:=⟨_,rfl⟩;rw [←ht,←ht2,←ht3] at e2 e3;rw [←ht] at hf;have b1:(x:Int)*(y:Int)=(t:Int):=by rw [ht,Int.natCast_mul]
     have b2':IntKind.u64.wrap (t:Int)=(t:Int):=cD (by omega);have b3':(t:Int)+(o:Int)=(t2:Int):=by omega
     have b4:IntKind.u64.wrap (t2:Int)=(t2:Int):=cD (by omega);have b5:(cc:Int)+(t2:Int)=(t3:Int):=by omega
     have b6:IntKind.u64.wrap (t3:Int)=(t3:Int):=cD (by omega);obtain ⟨cl,hcl⟩:∃cl,cl=t3 % 4294967296:=⟨_,rfl⟩;obtain ⟨ch,hch⟩:∃ch,ch=t3 / 4294967296:=⟨_,rfl⟩;have b7:(t3:Int) % 4294967296=(cl:Int):=by omega
     have b8:(t3:Int) / 4294967296=(ch:Int):=by omega
     rw [←hcl] at e3;rw [←hch] at e2;have HRW:=jJ (aI6 hrow hkr q1 e2 e3 hiK);clear hrow hkr q1 q2 q3 q4 e2 e3 hcc hyy hoo ht ht2 ht3 hcl hch hiK hdrop hf;go_wp2_with fail
     go_roundw
     case rel=>exact⟨K+1,by omega,by go_num,congrArg (Value.int .u64) (by rw [HRW.o.2.2.2.1]),by rw [HRW.o.r4.1,HRW.o.r5];exact row_win HRW.o.1 HP.o.2.2.1 HRW.o.2.2.1 rfl,HRW.o.2.1.setCell (p:=⟨g,iK,none⟩) (.inr (by rw [HG.o];exact bZ2 _)) _⟩
     case measure=>simp [intOf];omega
    ·obtain rfl:K=nb:=by omega
     have hd2:d.drop K=[]:=List.drop_eq_nil_of_le (by rw [HP.o.2.2.2.1];exact bZ2 _);rw [hd2,HP.o.r6] at hrow;have hcell:wk.cell? ⟨g,i+K,none⟩=some (.int .u32 0):=by
      have h':aC wk g 112 (u32s pre++(u32s ((macK tb x d K).1++[0])++zeros (na-(i+1)) (.int .u32 0))):=by simpa [u32s] using hrow
      have:=win_cell (k:=K) h' HP.o.2.2.1 (by rw [aZ1,q1];simp);rw [this];have e:=lim_snoc_eq (macK tb x d K).1 0;rw [q1] at e;rw [e];rfl
     obtain ⟨iK,hiK⟩:∃iK,iK=i+K:=⟨_,rfl⟩;have j4:(i:Int)+(K:Int)=(iK:Int):=by omega
     have j5:(0:Int)≤(iK:Int):=by omega
     have j6:(iK:Int)<(S:Int):=by have:=HS.o;omega
     have j7:IntKind.i64.wrap (iK:Int)=(iK:Int):=IntWalk.i64_in _ (by omega);rw [←hiK] at hcell hfz;generalize hcc:(macK tb x d K).2=cc at *
     have b7:(cc:Int) % 4294967296=(cc:Int):=by omega
     have HRW:=jJ (aI5 hrow hkr q1 hiK hcc);clear hrow hkr q1 q2 q3 q4 hd2 hiK hcc;go_wp2_with fail
     go_roundw
     case rel=>
      refine ⟨i+1,by omega,by go_num,?_,HRW.o.2.1.setCell (p:=⟨g,iK,none⟩) (.inr (by rw [HG.o];exact bZ2 _)) _⟩;rw [HP.o.r5.1,HRW.o.2.2.2.1];have:=row_win (x:=cc) (v:=.int .u32 (cc:Int)) (o:=(macK tb x d K).1) (y:=0) (t:=[]) (rest:=zeros (na-(i+1)) (.int .u32 0)) (by simpa [u32s] using HRW.o.1) HP.o.2.2.1 HRW.o.2.2.1 rfl;simpa [u32s] using this
     case measure=>simp [intOf];omega
  ·obtain rfl:i=na:=by omega
   rw [Nat.sub_self,show zeros 0 (Value.int .u32 0)=[] from rfl,fZ2] at hrow;have hL:=aR.ofRow (M:=Nil) hrow m2 (fun h=>h.elim) (by rw [m1];have:=HS.o;omega);rw [m1,←HS.o] at hL;rw [eZ1 (by rw [HA.o.2.2.1];exact bZ2 _)] at m3;have HL:=jJ (aI4 hL m2 m3 hkr);clear hrow hkr m1 m2 m3 hL;go_wp2_with (go_at_call 133;refine (own_any (M:=M) (HM.o.keep HL.o.2.2.2) HL.o.1 (by omega)).mono ?_;rintro e w5 ⟨a5,c5,rfl,h5,hk5⟩)
   go_ret
   rw [trim_eq HL.o.2.1,top_eq HL.o.2.1,HL.o.2.2.1] at h5;rw [top_eq HL.o.2.1,HL.o.2.2.1];exact⟨_,_,rfl,h5,HL.o.2.2.2.trans hk5⟩
theorem ival_nat (g:Bool) (l:List Nat):ival (g,l)=if g=true then -(nval l:Int) else (nval l:Int):=by
 cases g<;>simp [ival]
theorem ival_mul {g g2:Bool} {l l2:List Nat} {z z2:Int} (h:ival (g,l)=z) (h2:ival (g2,l2)=z2):(if (g != g2)=true then -((nval l*nval l2:Nat):Int) else ((nval l*nval l2:Nat):Int))=z*z2:=by
 rw [←h,←h2,ival_nat,ival_nat,Int.natCast_mul];cases g<;>cases g2<;>simp [Int.neg_mul,Int.mul_neg]
theorem zmul_any {M:Nat→Prop} {g g2:Bool} {a a2:Option Addr} {n c n2 c2:Nat} {z z2:Int} {w:World} (hM:MB M w) (h:ZAt Nil w g a n c z) (h2:ZAt Nil w g2 a2 n2 c2 z2) (hn:(n+n2)*4≤140737488355328) :
  Calls prog 59 #[.agg #[.bool g,.slice a n c],.agg #[.bool g2,.slice a2 n2 c2]] w fun e w'=>ZRet M w (z*z2) e w':=by
 obtain ⟨l,hl,hln,hz⟩:=h;obtain ⟨l2,hl2,hln2,hz2⟩:=h2;have hzz:=ival_mul hz hz2;have hlen:nlen (nval l*nval l2)≤n+n2:=bZ1 (nlen_mul _ _) (by have:=nlen_le hl.lt;have:=nlen_le hl2.lt;rw [hl.len] at *;rw [hl2.len] at *;omega);have HA:=jJ (aI hl hl2);have HM:=jJ hM;have HN:=jJ (aI3 hn (show nlen (nval l*nval l2)*4≤140737488355328 by omega) hzz);have HRS:=jJ (rows3 w 25 (.bool g) (.slice a n c) (.bool g2) (.slice a2 n2 c2) (.bool false) (.slice none 0 0));obtain ⟨P,hP⟩:∃P,P=nval l*nval l2:=⟨_,rfl⟩;rw [←hP] at HN;have HPP:=jJ hP;clear hM hn hl hl2 hln hln2 hz hz2 hzz hlen hP;go_enter func59,ntmps59
 go_wp2_with fail
 obtain ⟨r0,r1,r2,hk0⟩:=HRS.o;clear HRS;generalize (((w.alloc (.cells #[.bool g,.slice a n c] 25)).alloc (.cells #[.bool g2,.slice a2 n2 c2] 25)).alloc (.cells #[.bool false,.slice none 0 0] 25))=w0 at *
 obtain ⟨c00,c01,_,_⟩:=r0.two;obtain ⟨c10,c11,_,_⟩:=r1.two;obtain ⟨c20,c21,f20,f21⟩:=r2.two;have b0:=r0.lt;have b1:=r1.lt;have b2:=r2.lt;have H0:=jJ (aI hk0 r2);clear hk0 r0 r1 r2;have ne1:¬w.heap.size=w.heap.size+1+1:=by omega
 have ne2:¬w.heap.size+1+1=w.heap.size:=by omega
 go_region_held3 (fun w'=>w'.cell? ⟨w.heap.size,0,none⟩=some (.bool g)∧w'.cell? ⟨w.heap.size,1,none⟩=some (.slice a n c)∧w'.cell? ⟨w.heap.size+1,0,none⟩=some (.bool g2)∧w'.cell? ⟨w.heap.size+1,1,none⟩=some (.slice a2 n2 c2)) (go_keep) (first|(go_at_call 102;refine (natMul_any (M:=Nil) (MB.nil _) ((HA.o.1.keepNil H0.o.1).keepNil kOf) ((HA.o.2.keepNil H0.o.1).keepNil kOf) HN.o.1).mono ?_;rw [←HPP.o];rintro e w1 ⟨a1,c1,rfl,h1,hk1⟩;have d00:=hk1.cellE b0 id c00;have d01:=hk1.cellE b0 id c01;have d10:=hk1.cellE b1 id c10;have d11:=hk1.cellE b1 id c11;have H1:=jJ h1;clear h1)|(go_at_call 92;refine (made_any (M:=With M (w.heap.size+1+1)) ((((HM.o.keep H0.o.1).with b2).keep (M':=Nil) kOf).keep hk1) (zat_of (g != g2) (H1.o.keepNil kOf) HN.o.2.1)).mono ?_;rw [HN.o.2.2];rintro e w2 ⟨g',a',n',c',rfl,h',hk2⟩;have e00:=hk2.cellE (cZ1 b0 hk1.size) id d00;have e01:=hk2.cellE (cZ1 b0 hk1.size) id d01;have e10:=hk2.cellE (cZ1 b1 hk1.size) id d10;have e11:=hk2.cellE (cZ1 b1 hk1.size) id d11;have r2':=(H0.o.2.keep (M:=Nil) (show aA Nil w0 w1 from kkA) id).keep (show aA Nil w1 w2 from kkA) id;obtain ⟨c0,c1',f0,f1⟩:=r2'.two;have HT:=jJ h';clear h' r2'))
 go_wp2
 exact bodyPost_ret (v:=.agg #[.bool g',.slice a' n' c']) (by simp [results,results59,go_sem,c0,c1']) rfl ⟨_,_,_,_,rfl,HT.o.less (aA.pair _ _),((((H0.o.1.trans kOf).trans hk1).trans kOf).trans hk2).own (by omega) (aA.pair _ _)⟩
theorem pow_split {k:Nat} (hk:k<32):2 ^ k*2 ^ (32-k)=4294967296:=by
 rw [←Nat.pow_add,show k+(32-k)=32 by omega]
theorem shl_low {x k c:Nat} (hk:k<32) (hc:c<2 ^ k):(x*2 ^ k+c) % 4294967296=x*2 ^ k % 4294967296+c∧(x*2 ^ k+c) / 4294967296=x*2 ^ k / 4294967296∧c ||| x*2 ^ k % 4294967296=x*2 ^ k % 4294967296+c:=by
 have hp:=pow_split hk;have hm:x*2 ^ k % 4294967296=x % 2 ^ (32-k)*2 ^ k:=by
  rw [←hp,Nat.mul_comm x,Nat.mul_mod_mul_left,Nat.mul_comm]
 have hlt:x % 2 ^ (32-k)*2 ^ k+2 ^ k≤4294967296:=by
  rw [←hp,←Nat.succ_mul,Nat.mul_comm (2 ^ k)];exact Nat.mul_le_mul_right _ (Nat.mod_lt _ (Nat.two_pow_pos _))
 have hd:=Nat.div_add_mod (x*2 ^ k) 4294967296;refine ⟨by omega,by omega,?_⟩;rw [hm,Nat.or_comm,←Nat.shiftLeft_eq];exact (Nat.shiftLeft_add_eq_or_of_lt hc _).symm
theorem shl_high {x k:Nat} (hk:k<32) (hx:x<4294967296):x*2 ^ k / 4294967296<2 ^ k∧x*2 ^ k<18446744073709551616:=by
 have h1:x*2 ^ k<2 ^ k*4294967296:=by rw [Nat.mul_comm];exact Nat.mul_lt_mul_of_pos_left hx (Nat.two_pow_pos _)
 have h2:2 ^ k≤2 ^ 31:=Nat.pow_le_pow_right (by decide) (by omega);exact⟨by rw [Nat.div_lt_iff_lt_mul (by decide)];exact h1,by omega⟩
theorem pow_small {k:Nat} (hk:k<32):2 ^ k<4294967296:=by
 have h2:2 ^ k≤2 ^ 31:=Nat.pow_le_pow_right (by decide) (by omega);omega
theorem timesK_lt {l:List Nat} {p:Nat} (hs:Small l) (hp:0<p):∀i,(bY l p 0 i).2<p
 | 0=>hp
 | i+1=>by
  have h:=timesK_lt hs hp i;have hx:=bT hs i;show (lim l i*p+(bY l p 0 i).2) / Bs<p
  rw [Nat.div_lt_iff_lt_mul Bs_pos,cL]
  calc lim l i*p+(bY l p 0 i).2<lim l i*p+p:=by omega
   _=(lim l i+1)*p:=by rw [Nat.add_mul,Nat.one_mul]
   _≤4294967296*p:=Nat.mul_le_mul_right _ hx
   _=p*4294967296:=Nat.mul_comm _ _
theorem left_row {M:Nat→Prop} {a:Option Addr} {n c k:Nat} {l:List Nat} {w:World} (h:aR M w a n c l) (hr:n*4+4≤140737488355328) (hk:k<32) :
  Calls prog 139 #[.slice a n c,.int .u64 (k:Int)] w fun e w'=>e=.returned (.slice (some ⟨w.heap.size,0,none⟩) (n+1) (n+1))∧aC w' w.heap.size 112 (u32s (timesL l (2 ^ k)))∧aA Nil w w':=by
 obtain ⟨i0,hi,hz0,hz1,hz2⟩:=info_parts info_u32;have HH:=jJ h.toNil;have hcap:=h.sl.cap;have hle:=h.sl.le;have hs:=h.lt;have hln:=h.len;have HI:=jJ (aI4 hi hz0 hz1 hz2);have tl:n≤35184372088831:=by omega
 clear h hi hz0 hz1 hz2 hr;go_enter func139,ntmps139
 go_wp2_with (at_make;refine wpList_make_row _ rfl _ _ 23 rfl 112 i0 (.int .u32 0) underlying23 HI.o.1 HI.o.2.1 HI.o.2.2.1 rfl .i64 .i64 _ _ (n+1) rfl rfl (by omega) (by omega) (by rw [HI.o.2.2.2];omega) (by omega) ?_;intro w1 hrow hk1 hsz1;have HR:=jJ (aI3 hrow hk1 hsz1);clear hrow hk1 hsz1)
 have hg:=HR.o.1.lt;go_loopw [15] (fun kv wr=>∃K:Nat,K≤n∧kv=.int .i64 K∧aC wr w.heap.size 112 (u32s (bY l (2 ^ k) 0 K).1++(u32s [(bY l (2 ^ k) 0 K).2]++zeros (n-K) (.int .u32 0)))∧aA Nil w wr) (fun kv _=>n-(intOf kv).toNat)
 case atStart=>exact⟨0,aZ2 _,rfl,HR.o.1,HR.o.2.1⟩
 case round=>
  obtain ⟨K,hK,rfl,hrow,hkk⟩:=hrel;obtain ⟨q1,q2,q3,q4⟩:=timesK_spec (more:=0) hs (pow_small hk) (by decide) K;have hgr:=hrow.lt;by_cases hKn:K<n
  ·have lx:=bT hs K;obtain ⟨b3,o3,hae,hb3,hng3,hy⟩:=(HH.o.keepNil hkk).cell hKn;subst hae;have hc:=(shl_high (x:=lim l K) hk lx).1;have hz:zeros (n-K) (Value.int .u32 0)=u32s [0]++zeros (n-(K+1)) (.int .u32 0):=by
    rw [show n-K=(n-(K+1))+1 by omega];rfl
   have hck:=timesK_lt hs (Nat.two_pow_pos k) K;have hlo:=shl_low (x:=lim l K) hk hck;have c0:=hrow.cell K;have c1:=hrow.cell (K+1);have f0:=hrow.frozen K;have f1:=hrow.frozen (K+1);rw [List.getElem?_append_right (by rw [dL,q1];exact bZ2 _),dL,q1,Nat.sub_self] at c0;rw [List.getElem?_append_right (by rw [dL,q1];omega),dL,q1,show K+1-K=1 by omega,hz] at c1;simp only [u32s,dZ2,List.map_nil,eZ3,fZ3,List.getElem?_cons_zero,List.getElem?_cons_succ,Go.Proofs.Q.u32] at c0 c1;have HROW:=jJ (aI4 hrow hkk q1 hz);clear hrow hkk q1 q2 q4 hz;have j3:(0:Int)≤(K:Int):=by omega
   have j4:(K:Int)<(n:Int):=by omega
   have e0:IntKind.u64.wrap ((lim l K:Int)*2 ^ k)=((lim l K*2 ^ k:Nat):Int):=by
    have:=cD (shl_high (x:=lim l K) hk lx).2;rw [Int.natCast_mul,Int.natCast_pow] at this;rw [Int.natCast_mul,Int.natCast_pow];exact this
   have e1:(bY l (2 ^ k) 0 (K+1)).1=(bY l (2 ^ k) 0 K).1++[(lim l K*2 ^ k+(bY l (2 ^ k) 0 K).2) % Bs]:=rfl;have e2:(bY l (2 ^ k) 0 (K+1)).2=(lim l K*2 ^ k+(bY l (2 ^ k) 0 K).2) / Bs:=rfl;rw [cL] at e1 e2;have HE:=jJ (aI4 e0 e1 e2 hlo);have HS:=jJ hs;clear e0 e1 e2 hlo hck hs hc;generalize hcc:(bY l (2 ^ k) 0 K).2=cc at *
   have HC:=jJ hcc;clear hcc;go_wp2_with fail
   go_roundw
   case rel=>
    have hl:=HE.o.2.2.2;have r1:=row_over (x:=(lim l K*2 ^ k+cc) % 4294967296) (v:=.int .u32 (bits .or .u32 (cc:Int) (IntKind.u64.wrap ((lim l K:Int)*2 ^ k) % 4294967296))) (t:=[]) HROW.o.1 HROW.o.2.2.1 (congrArg (Value.int .u32) (by
     rw [HE.o.1,show (((lim l K*2 ^ k:Nat):Int) % 4294967296)=((lim l K*2 ^ k % 4294967296:Nat):Int) by omega,bits_or_u32' _ _ q3 (Nat.mod_lt _ (by decide)),hl.2.2,hl.1]))
    rw [HROW.o.2.2.2] at r1;have r2:=row_over (x:=(lim l K*2 ^ k+cc) / 4294967296) (v:=.int .u32 (IntKind.u64.wrap ((lim l K:Int)*2 ^ k) / 4294967296 % 4294967296)) (k:=K+1) (o:=(bY l (2 ^ k) 0 K).1++[(lim l K*2 ^ k+cc) % 4294967296]) (y:=0) (t:=[]) (rest:=zeros (n-(K+1)) (.int .u32 0)) (by simpa [u32s] using r1) (by rw [aZ1,HROW.o.2.2.1];rfl) (congrArg (Value.int .u32) (by
     have:=(shl_high (x:=lim l K) hk lx).1;have:=pow_small hk;rw [HE.o.1,hl.2.1];omega))
    exact⟨K+1,by omega,by go_num,by rw [HE.o.2.1,HE.o.2.2.1];simpa [u32s] using r2,(HROW.o.2.1.setCell (p:=⟨w.heap.size,K,none⟩) (.inr (bZ2 _)) _).setCell (p:=⟨w.heap.size,K+1,none⟩) (.inr (bZ2 _)) _⟩
   case measure=>simp [intOf];omega
  ·obtain rfl:K=n:=by omega
   have hfin:aC wr w.heap.size 112 (u32s (timesL l (2 ^ k))):=by
    rw [Nat.sub_self] at hrow;unfold timesL;rw [hln];simpa [u32s,zeros] using hrow
   have HF:=jJ (aI hfin hkk);clear hrow hkk q1 q2 q4 hfin hs;go_wp2_with fail
   go_ret
   exact⟨rfl,HF.o.1,HF.o.2⟩
end Go.Proofs.Q
