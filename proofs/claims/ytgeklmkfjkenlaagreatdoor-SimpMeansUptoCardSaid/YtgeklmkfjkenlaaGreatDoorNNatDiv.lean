/- What nat.DivMod does at any divisor but 0. -/
import Derived.Test.YtgeklmkfjkenlaaGreatDoorNMuls
import Derived.Test.YtgeklmkfjkenlaaGreatDoorNShelf
import Derived.Test.YtgeklmkfjkenlaaGreatDoorNZDiv
set_option linter.unusedSimpArgs false
set_option linter.unusedVariables false
set_option maxRecDepth 100000
set_option maxHeartbeats 4000000
namespace Go.Proofs.Q
open Go.RowKit Tryz
theorem bitLen_gt (f x:Nat) (h:x<2 ^ f):x<2 ^ Lib.bitLenAux f x:=by
 induction f generalizing x with
 | zero=>simpa [Lib.bitLenAux] using h
 | succ f ih=>
  unfold Lib.bitLenAux;split
  ·rename_i h0;subst h0;exact Nat.two_pow_pos _
  ·have:=ih (x / 2) (by rw [Nat.pow_succ] at h;omega);rw [Nat.add_comm,Nat.pow_succ];omega
theorem nlen_gt {n k:Nat} (h:Bs ^ k≤n):k<nlen n:=by
 rcases Nat.lt_or_ge k (nlen n) with h1|h1
 ·exact h1
 ·have:=lt_pow_nlen n;have:=Nat.pow_le_pow_right Bs_pos h1;omega
theorem left_top {tb:List Nat} {nb m1 k:Nat} (hs:Small tb) (hl:tb.length=nb) (hm:nb=m1+1) (hk:k<32) (h0:lim tb m1≠0) (hlt:lim tb m1*2 ^ k<4294967296) :
  top (timesL tb (2 ^ k))=nb∧nval (timesL tb (2 ^ k))=nval tb*2 ^ k∧nval tb*2 ^ k<Bs ^ nb∧Bs ^ m1≤nval tb:=by
 obtain ⟨t1,t2,t3⟩:=timesL_spec hs (pow_small hk);have hv:=bL tb m1;rw [eZ1 (by omega)] at hv;have hlow:=nval_lt (hs.take m1);rw [iZ1,Nat.min_eq_left (by omega)] at hlow;have hp:2 ^ k*2 ^ (32-k)=4294967296:=pow_split hk;have hb1:lim tb m1+1≤2 ^ (32-k):=by
  have:lim tb m1*2 ^ k<2 ^ (32-k)*2 ^ k:=by rw [Nat.mul_comm (2 ^ (32-k)),hp];exact hlt
  exact Nat.lt_of_mul_lt_mul_right this
 have hge:Bs ^ m1≤nval tb:=by
  rw [hv];have:Bs ^ m1*1≤Bs ^ m1*lim tb m1:=Nat.mul_le_mul_left _ (by omega);omega
 have hup:nval tb*2 ^ k<Bs ^ nb:=by
  have h1:nval tb<Bs ^ m1*2 ^ (32-k):=by
   have:Bs ^ m1*(lim tb m1+1)≤Bs ^ m1*2 ^ (32-k):=Nat.mul_le_mul_left _ hb1;rw [Nat.mul_add,Nat.mul_one] at this;omega
  calc nval tb*2 ^ k<Bs ^ m1*2 ^ (32-k)*2 ^ k:=Nat.mul_lt_mul_of_pos_right h1 (Nat.two_pow_pos _)
   _=Bs ^ nb:=by rw [Nat.mul_assoc,Nat.mul_comm (2 ^ (32-k)),hp,hm,Nat.pow_succ,cR]
 have hval:nval (timesL tb (2 ^ k))=nval tb*2 ^ k:=by rw [t3,Nat.mul_comm]
 refine ⟨?_,hval,hup,hge⟩;rw [top_eq t2,hval];have h1:nlen (nval tb*2 ^ k)≤nb:=dB hup;have h2:m1<nlen (nval tb*2 ^ k):=nlen_gt (bZ1 hge (Nat.le_mul_of_pos_right _ (Nat.two_pow_pos _)));show nlen _=nb
 omega
theorem left_fits {A B na m1 nb L k:Nat} (hA:A<Bs ^ na) (hB:Bs ^ m1≤B) (hm:nb=m1+1) (hL:L+nb=na+1):A*2 ^ k<B*2 ^ k*Bs ^ L:=by
 have h1:Bs ^ na=Bs ^ m1*Bs ^ L:=by rw [←Nat.pow_add];congr 1;omega
 have h2:Bs ^ m1*Bs ^ L≤B*Bs ^ L:=Nat.mul_le_mul_right _ hB
 calc A*2 ^ k<B*Bs ^ L*2 ^ k:=Nat.mul_lt_mul_of_pos_right (by omega) (Nat.two_pow_pos _)
  _=B*2 ^ k*Bs ^ L:=by rw [Nat.mul_assoc,Nat.mul_comm (Bs ^ L),←Nat.mul_assoc]
section
variable {w:World} {M:Nat→Prop} {a2 a:Option Addr} {nb g b m:Nat} {l2 tb ul l X:List Nat} {E:TypeId}
theorem or_limb {xl y k kr:Nat} (hk:k<32) (hkr:kr=32-k) (hx:xl<2 ^ kr) (hy:y<4294967296):bits .or .u32 (xl:Int) ((y:Int)*2 ^ kr % 4294967296)=((xl+y % 2 ^ k*2 ^ kr:Nat):Int):=by
 have hp:2 ^ k*2 ^ kr=4294967296:=by rw [hkr];exact pow_split hk
 have e1:((y:Int)*2 ^ kr % 4294967296)=((y % 2 ^ k*2 ^ kr:Nat):Int):=by
  have:(y*2 ^ kr) % 4294967296=y % 2 ^ k*2 ^ kr:=by rw [←hp,Nat.mul_mod_mul_right]
  rw [←this,Int.natCast_emod,Int.natCast_mul,Int.natCast_pow];rfl
 have h2:(y % 2 ^ k+1)*2 ^ kr≤2 ^ k*2 ^ kr:=Nat.mul_le_mul_right _ (Nat.mod_lt _ (Nat.two_pow_pos _));rw [hp,Nat.add_mul,Nat.one_mul] at h2;rw [e1,bits_or_u32' _ _ (by omega) (by omega),Nat.or_comm,Nat.add_comm,←Nat.shiftLeft_eq];congr 1;exact (Nat.shiftLeft_add_eq_or_of_lt hx _).symm
theorem lz_any (h0:b≠0) (h1:b<4294967296) :
  Calls prog 167 #[.int .u32 (b:Int)] w fun e w'=>∃L:Nat,L<32∧b*2 ^ L<4294967296∧e=.returned (.int .i64 (L:Int))∧w=w':=by
 refine (Tryz.bits_LeadingZeros32 (b:Int) w (by omega) (by omega)).mono ?_;rintro e w' ⟨rfl,rfl⟩;have hle:Lib.bitLen b≤32:=Lib.bitLen_le b 32 (by decide) (by omega);have hgt:b<2 ^ Lib.bitLen b:=bitLen_gt 64 b (by omega);have hpos:1≤Lib.bitLen b:=by
  rcases Nat.eq_zero_or_pos (Lib.bitLen b) with h|h
  ·rw [h] at hgt;omega
  ·exact h
 refine ⟨32-Lib.bitLen b,by omega,?_,?_,rfl⟩
 ·calc b*2 ^ (32-Lib.bitLen b)<2 ^ Lib.bitLen b*2 ^ (32-Lib.bitLen b):=Nat.mul_lt_mul_of_pos_right hgt (Nat.two_pow_pos _)
   _=4294967296:=by rw [←Nat.pow_add,show Lib.bitLen b+(32-Lib.bitLen b)=32 by omega]
 ·rw [Int.toNat_natCast];congr 2;omega
theorem left_limbs {k:Nat} (hs:Small tb) (hl:tb.length=nb) (hk:k<32) (hr:aC w g 131 (u32s (timesL tb (2 ^ k)))) (hb:nb*4+4≤140737488355328):aS Nil w (some ⟨g,0,none⟩) (nb+1) (nb+1) (timesL tb (2 ^ k)):=by
 obtain ⟨t1,t2,_⟩:=timesL_spec hs (pow_small hk);have:=aS.ofRow hr t2 (M:=Nil) (fun h=>h.elim) (by rw [t1,hl];omega);rw [t1,hl] at this;exact this
theorem tv_limbs (hs:Small X) (hl:X.length=nb+1) (ht:top X=nb) (hr:aC w g 131 (u32s X)) (hM:¬M g) (hb:nb*4+4≤140737488355328):aS M w (some ⟨g,0,none⟩) nb nb (trim X):=by
 have:=(aS.ofRow hr hs hM (by rw [hl];omega)).bare;rw [ht] at this;exact this
theorem row_window {i:Nat} (h:aC w g E (u32s ul)):aC w g E (u32s (ul.take i)++(u32s (win ul i nb)++u32s (ul.drop (i+nb+1)))):=by
 have e:ul=ul.take i++(win ul i nb++ul.drop (i+nb+1)):=by
  unfold win;rw [show i+nb+1=i+(nb+1) by omega,←List.drop_drop,aZ3,aZ3]
 rw [e] at h;simpa [u32s] using h
def DivRet (M:Nat→Prop) (w:World) (A B:Nat) (e:Ending) (w':World):Prop:=
 ∃a' c' a4 c4,e=.returned (.tuple #[.slice a' (nlen (A / B)) c',.slice a4 (nlen (A % B)) c4,.int .i64 0])∧aS M w' a' (nlen (A / B)) c' (bC (A / B))∧aS M w' a4 (nlen (A % B)) c4 (bC (A % B))∧aA Nil w w'
theorem divmod_long {n c n2 c2:Nat} (hM:MB M w) (h:aS Nil w a n c l) (h2:aS Nil w a2 n2 c2 l2) (hr:n*4+4≤140737488355328) (hr2:n2*4+4≤140737488355328) (hb:2≤top l2) (hle:nval l2≤nval l) :
  Calls prog 123 #[.slice a n c,.slice a2 n2 c2] w fun e w'=>DivRet M w (nval l) (nval l2) e w':=by
 have ba:=h.bare;have bb:=h2.bare;have hva:=cS l;have hvb:=cS l2;have hba:=bare_trim l2;have hal:(trim l).length=top l:=dA l;have hbl:(trim l2).length=top l2:=dA l2;have htn:top l≤n:=by rw [←h.len];exact top_le l
 have htn2:top l2≤n2:=by rw [←h2.len];exact top_le l2
 have hnn:top l2≤top l:=by rw [top_eq h2.lt,top_eq h.lt];exact nlen_mono hle
 have HH:=jJ h;have HH2:=jJ h2;rw [←hva,←hvb];rw [←hva,←hvb] at hle;generalize hA:nval (trim l)=A at *
 generalize hB:nval (trim l2)=B at *
 generalize hta:trim l=ta at *
 generalize htb:trim l2=tb at *
 generalize hna:top l=na at *
 generalize hnb:top l2=nb at *
 have HTN:=jJ (aI hna hnb);obtain ⟨m1,hm1⟩:∃m1,nb=m1+1:=⟨nb-1,by omega⟩;have hbt0:lim tb m1≠0:=by
  rcases hba with h0|h0
  ·rw [h0] at hbl;simp at hbl;omega
  ·rw [hbl,hm1] at h0;simpa using h0
 obtain ⟨b0,o0,hae,hb0,_,y0⟩:=bb.cell (k:=m1) (by omega);subst hae;have lbt:=bR bb.lt m1;have i1:IntKind.i64.wrap ((nb:Int)-1)=(m1:Int):=by rw [show (nb:Int)-1=(m1:Int) by omega];exact IntWalk.i64_in _ (by omega)
 have j0:(0:Int)≤(m1:Int):=by omega
 have j1:(m1:Int)<(nb:Int):=by omega
 have j2:¬(nb:Int)=0:=by omega
 have j3:¬(nb:Int)=1:=by omega
 have j4:¬nb=0:=by omega
 have j5:¬nb=1:=by omega
 have hcm:¬cmpN A B<0:=by
  unfold cmpN;rw [if_neg (by omega)];split<;>omega
 have HA:=jJ (aI8 ba bb hal hbl hA hB hnn hm1);have HM:=jJ hM;have ran:na*4+4≤140737488355328:=by omega
 have rbn:nb*4+4≤140737488355328:=by omega
 have HRN:=jJ (aI5 ran rbn hb lbt hbt0);clear h h2 ba bb hva hvb hba hal hbl htn htn2 hnn hA hB hta htb hna hnb hr hr2 hle hM hm1 ran rbn hb hbt0;generalize hbt:lim tb m1=bt at *
 have HBT:=jJ hbt;clear hbt;go_enter func123,ntmps123
 go_upto_region 9 with (first|(go_at_call_of 165 (Value.slice a n c);refine (dF HH.o).mono ?_;rintro e w' ⟨rfl,rfl⟩;rw [HTN.o.1])|(go_at_call_of 165 (Value.slice (some ⟨b0,o0,none⟩) n2 c2);refine (dF HH2.o).mono ?_;rintro e w' ⟨rfl,rfl⟩;rw [HTN.o.2])|(go_at_call 128;refine (cmp_any HA.o.1.toNil HA.o.2.1.toNil).mono ?_;rintro e w1 ⟨rfl,hk1⟩;rw [HA.o.r4.1,HA.o.r5.1];have HK1:=jJ hk1;clear hk1))
 have y1:=HK1.o.cellE hb0 id y0;clear y0;go_upto_region 10 with (go_at_call 167;refine (lz_any HRN.o.r4 lbt).mono ?_;rintro e w' ⟨k,hk,hbk,rfl,rfl⟩)
 have hk2:IntKind.u64.wrap (k:Int)=(k:Int):=cC (by omega);have HB2:=jJ (aI hk hbk);have HLT:=jJ (left_top (k:=k) HA.o.2.1.lt HA.o.2.2.2.1 HA.o.r7 hk (by rw [HBT.o];exact HRN.o.r4) (by rw [HBT.o];exact hbk));clear hbk;go_upto_region 11 with (first|(go_at_call_of 168 (Value.slice a na na);refine (left_row (HA.o.1.keepNil HK1.o) HRN.o.1 hk).mono ?_;rintro e w2 ⟨rfl,hrow2,hk2'⟩;have H2:=jJ (aI hrow2 hk2');clear hrow2 hk2')|(go_at_call_of 168 (Value.slice (some ⟨b0,o0,none⟩) nb nb);refine (left_row ((HA.o.2.1.keepNil HK1.o).keepNil H2.o.2) HRN.o.2.1 hk).mono ?_;rintro e w3 ⟨rfl,hrow3,hk3'⟩;have H3:=jJ (aI hrow3 hk3');clear hrow3 hk3')|(go_at_call 165;refine (dF (left_limbs HA.o.2.1.lt HA.o.2.2.2.1 hk H3.o.1 HRN.o.2.1)).mono ?_;rintro e w' ⟨rfl,rfl⟩;rw [HLT.o.1]))
 obtain ⟨L,hL⟩:∃L,L+nb=na+1:=⟨na+1-nb,by have:=HA.o.r6.1;omega⟩;have hLs:L≤35184372088832:=by have:=HRN.o.1;omega
 have HLL:=jJ hL;clear hL;obtain ⟨i0,hi⟩:=info_parts info_u32;have HI:=jJ hi;clear hi;have hbn:nb≤35184372088831:=by have:=HRN.o.2.1;omega
 have han:na≤35184372088831:=by have:=HRN.o.1;omega
 have s1:(na:Int)+1-(nb:Int)=(L:Int):=by have:=HLL.o;omega
 go_upto_region 12 with (at_make;refine wpList_make_row _ rfl _ _ 39 rfl 131 i0 (.int .u32 0) underlying39 HI.o.1 HI.o.2.1 HI.o.2.2.1 rfl .i64 .i64 _ _ L rfl rfl (by have:=HLL.o;omega) (by have:=HLL.o;omega) (by rw [HI.o.2.2.2];omega) (by omega) ?_;intro w4 hrow4 hk4 hsz4;have H4:=jJ (aI3 hrow4 hk4 hsz4);clear hrow4 hk4 hsz4)
 obtain ⟨gu,hgu⟩:∃gu,gu=w1.heap.size:=⟨_,rfl⟩;obtain ⟨gv,hgv⟩:∃gv,gv=w2.heap.size:=⟨_,rfl⟩;obtain ⟨gq,hgq⟩:∃gq,gq=w3.heap.size:=⟨_,rfl⟩;rw [←hgu,←hgv,←hgq];have ru:=(H2.o.1.keep H3.o.2 id).keep H4.o.2.1 id;have rv:=H3.o.1.keep H4.o.2.1 id;have rq:=H4.o.1;rw [←hgu] at ru;rw [←hgv] at rv;rw [←hgq] at rq;have z1:=HK1.o.size;have z2:=H2.o.1.lt;have z3:=H3.o.1.lt;have hne:gv≠gu∧gq≠gu∧gq≠gv∧w.heap.size≤gu∧w.heap.size≤gv∧w.heap.size≤gq:=by have:=H3.o.2.size;omega
 have HK4:=jJ (((HK1.o.trans H2.o.2).trans H3.o.2).trans H4.o.2.1);obtain ⟨u1,u2,u3⟩:=timesL_spec HA.o.1.lt (pow_small hk);obtain ⟨v1,v2,v3⟩:=timesL_spec HA.o.2.1.lt (pow_small hk);rw [HA.o.2.2.1] at u1;rw [HA.o.2.2.2.1] at v1;obtain ⟨U,hU⟩:∃U,U=timesL ta (2 ^ k):=⟨_,rfl⟩;obtain ⟨X,hX⟩:∃X,X=timesL tb (2 ^ k):=⟨_,rfl⟩;rw [←hU] at ru u1 u2 u3;rw [←hX] at rv v1 v2 v3;have hXt:top X=nb:=by rw [hX];exact HLT.o.1
 have hVX:nval (trim X)=B*2 ^ k:=by rw [cS,hX,HLT.o.2.1,HA.o.r5.1]
 obtain ⟨V,hV⟩:∃V,V=nval (trim X):=⟨_,rfl⟩;have hVb:V≤Bs ^ nb:=by
  rw [hV,hVX,←HA.o.r5.1];exact Nat.le_of_lt HLT.o.2.2.1
 have hB0:0<B:=by
  have h1:=HLT.o.2.2.2;rw [HA.o.r5.1] at h1;exact cZ1 (Nat.pow_pos Bs_pos) h1
 have hV0:0<V:=by rw [hV,hVX];exact Nat.mul_pos hB0 (Nat.two_pow_pos _)
 have hUv:nval U=A*2 ^ k:=by rw [u3,HA.o.r4.1,Nat.mul_comm]
 have hstart:DivAt U U [] V L L:=by
  refine DivAt.start u2 (by rw [u1];have:=HLL.o;have:=HRN.o.2.2.1;omega) ?_;rw [hUv,hV,hVX];refine left_fits (na:=na) (nb:=nb) (m1:=m1) ?_ ?_ HA.o.r7 HLL.o
  ·rw [←HA.o.r4.1,←HA.o.2.2.1];exact nval_lt HA.o.1.lt
  ·have h1:=HLT.o.2.2.2;rwa [HA.o.r5.1] at h1
 have htl1:lim (trim X) m1≠0:=by
  rcases bare_trim X with h0|h0
  ·have:=dA X;rw [h0,hXt] at this;simp at this;have:=HRN.o.2.2.1;omega
  ·rw [dA,hXt,HA.o.r7] at h0;simpa using h0
 have HS:=jJ (aI4 ru rv rq hstart);have HX:=jJ (aI12 hXt hVX hV hVb hV0 hUv htl1 v1 v2 u1 u2 hne);have HB0:=jJ hB0;have HG:=jJ (aI3 hgu hgv hgq);clear ru rv rq hstart hXt hVX hV hVb hV0 hUv htl1 v1 v2 v3 u1 u2 u3 z1 z2 z3 hne hU hX hgu hgv hgq H2 H3 H4 HK1 hB0 y1 s1 i1 hk2 hcm;generalize hN:na+1=NU at *
 have HNU:=jJ hN;clear hN;have hLi:IntKind.i64.wrap ((L:Int)-1)=(L:Int)-1:=IntWalk.i64_in _ (by omega);go_wp2_with fail
 go_loopw [13] (fun iv wr=>∃(j:Nat) (ul qs:List Nat),j≤L∧iv=.int .i64 ((j:Int)-1)∧DivAt U ul qs V j L∧aC wr gu 131 (u32s ul)∧aC wr gv 131 (u32s X)∧aC wr gq 131 (zeros j (.int .u32 0)++u32s qs)∧aA Nil w wr) (fun iv _=>(intOf iv+1).toNat)
 case atStart=>exact⟨L,U,[],bZ2 _,rfl,HS.o.2.2.2,HS.o.1,HS.o.2.1,by simpa [u32s] using HS.o.2.2.1,HK4.o⟩
 case round=>
  clear HS HK4;obtain ⟨j,ul,qs,hj,rfl,hd,ru,rv,rq,hkr⟩:=hrel;cases j with
  | succ i=>
   rw [show (((i+1:Nat):Int)-1)=(i:Int) by omega];have hlen:=hd.len;have hul:ul.length=NU:=by rw [hlen,HX.o.r9.1]
   have hin:i+nb+1≤NU:=by have:=HLL.o;have:=HNU.o;omega
   obtain ⟨q1,q2,q3,q4⟩:=hd.win HX.o.2.2.2.1 (by omega);have hvl:=tv_limbs (M:=One gu) HX.o.r8.1 HX.o.r7.1 HX.o.1 rv HX.o.r11.1 HRN.o.2.1;obtain ⟨e2,he2⟩:∃e2,e2=i+nb+1:=⟨_,rfl⟩;have hdig:=digit_any (i:=i) (N:=e2-i) (c:=NU-i) (m:=nb-2) (w:=wr) (row_window (nb:=nb) ru) (by rw [iZ1];omega) q2 (by have:=HRN.o.2.2.1;omega) (by have:=HRN.o.2.2.1;omega) (by rw [q1];omega) (by omega) (by have:=HNU.o;have:=HRN.o.1;omega) hvl (by
    have h1:=HX.o.r6.1;have h2:=HA.o.r7;have h3:=HRN.o.2.2.1;rw [show nb-2+1=m1 by omega];exact h1) (by rw [←HX.o.2.2.1];exact q4)
   have i1:(i:Int)+(nb:Int)+1=(e2:Int):=by omega
   have hnu:NU≤35184372088832:=by have:=HNU.o;omega
   have j6:(0:Int)≤(i:Int):=by omega
   have j7:(i:Int)≤(e2:Int):=by omega
   have j8:(e2:Int)≤(NU:Int):=by omega
   have j9:(i:Int)<(L:Int):=by omega
   have HD:=jJ (aI11 hd ru rv rq hkr hdig he2 hul hin q4 q1);clear hd ru rv rq hkr hdig he2 hul hin q1 q2 q3 q4 hvl hlen hLi;have c0:=HD.o.2.2.2.1.cell i;have f0:=HD.o.2.2.2.1.frozen i;have hq0:wr.cell? ⟨gq,i,none⟩=some (.int .u32 0):=by
    rw [c0,List.getElem?_append_left (by simp [zeros])];simp [zeros]
   clear c0;go_wp2_with (go_at_call 169;refine HD.o.r5.1.mono ?_;rintro e w4 hdr;obtain ⟨r,rfl,hrl,hrs,hrv,hrow4,hk4⟩:=hdr;have hq4:w4.cell? ⟨gq,i,none⟩=some (.int .u32 0):=(hk4.cell (p:=⟨gq,i,none⟩) HD.o.2.2.2.1.lt (by have:=HX.o.r12.1;exact fun h=>this h)).trans hq0;have f4:w4.frozen? ⟨gq,i,none⟩=false:=(hk4.frozen (p:=⟨gq,i,none⟩) HD.o.2.2.2.1.lt (by have:=HX.o.r12.1;exact fun h=>this h)).trans f0;have HW:=jJ (aI5 hrl hrs hrv hrow4 hk4);clear hrl hrs hrv hrow4 hk4 hq0 f0)
   go_roundw
   case rel=>
    have hnn:=HX.o.r11;have hst:=HD.o.1.step (r:=r) HX.o.2.2.2.1 HX.o.r4.1 (by have:=HD.o.r7.1;have:=HD.o.r8.1;omega) (HW.o.1.trans HD.o.r10) HW.o.2.1 (by rw [HX.o.2.2.1];exact HW.o.2.2.1);have r1:aC w4 gu 131 (u32s (ul.take i++(r++ul.drop (i+nb+1)))):=by simpa [u32s] using HW.o.2.2.2.1
    have r2:=HD.o.2.2.1.keep HW.o.r4 (fun h=>hnn.1 h);have r3:=HD.o.2.2.2.1.keep HW.o.r4 (fun h=>hnn.2.1 h);refine ⟨i,_,_,by omega,rfl,hst,r1.setOther (fun e=>hnn.2.1 e.symm),r2.setOther (fun e=>hnn.2.2.1 e.symm),?_,?_⟩
    ·exact row_back r3 (congrArg (Value.int .u32) (by rw [HX.o.2.2.1];exact (Int.natCast_ediv _ _).symm))
    ·exact (HD.o.r4.1.trans' HW.o.r4 (fun b hb=>.inr (by rw [show b=gu from hb];exact hnn.2.2.2.1))).setCell (p:=⟨gq,i,none⟩) (.inr hnn.r5) _
   case measure=>simp [intOf]
  | zero=>
   rw [show (((0:Nat):Int)-1)=-1 from rfl];rw [show zeros 0 (Value.int .u32 0)=[] from rfl,gZ3] at rq;obtain ⟨d1,d2⟩:=hd.last HX.o.r4.1;have hul:ul.length=NU:=by rw [hd.len,HX.o.r9.1]
   have hql:qs.length=L:=by have:=hd.ql;omega
   have hp:=Nat.two_pow_pos k;have e1:nval qs=A / B:=by
    rw [d1,HX.o.r5.1,HX.o.2.2.1,HX.o.2.1,Nat.mul_div_mul_right _ _ hp]
   have e2:nval ul=A % B*2 ^ k:=by
    rw [d2,HX.o.r5.1,HX.o.2.2.1,HX.o.2.1,Nat.mul_mod_mul_right]
   have hlt:nval ul<Bs ^ nb:=by
    rw [d2];exact cZ1 (Nat.mod_lt _ HX.o.r4.1) HX.o.2.2.2.1
   have hnb:nb<NU:=by have:=HNU.o;have:=HA.o.r6.1;omega
   have hsp:=nval_split ul nb (by omega);have hz:nval (ul.drop nb)=0:=by
    rcases Nat.eq_zero_or_pos (nval (ul.drop nb)) with h3|h3
    ·exact h3
    ·have:=Nat.mul_le_mul_left (Bs ^ nb) h3;omega
   have hz1:lim ul nb=0:=by
    have:=nval_drop (l:=ul) (i:=nb) (by omega);rw [hz] at this;omega
   rw [hz,Nat.mul_zero,Nat.add_zero,e2] at hsp;have HZ:=jJ (aI7 e1 hd.small hd.sq hz1 hsp.symm hul hql);have HR:=jJ (aI4 ru rv rq hkr);have hgu:=ru.lt;clear hd ru rv rq hkr d1 d2 hul hql e1 e2 hlt hsp hz hz1 hp hj hLi;go_wp2_with fail
   go_loopw [90] (fun iv wr=>∃(i:Nat),i≤nb∧iv=.int .i64 (i:Int)∧aC wr gu 131 (u32s (shrK ul k i)++(u32s (ul.drop i)++[]))∧aC wr gv 131 (u32s X)∧aC wr gq 131 (u32s qs)∧aA Nil w wr) (fun iv _=>nb-(intOf iv).toNat)
   case atStart=>exact⟨0,aZ2 _,rfl,by simpa [shrK,u32s] using HR.o.1,HR.o.2.1,HR.o.2.2.1,HR.o.2.2.2⟩
   case round=>
    clear HR hgu;rename World=>wk;obtain ⟨i,hi,rfl,ru,rv,rq,hkr⟩:=hrel;obtain ⟨q1,q2,q3⟩:=shrK_spec HZ.o.2.1 hk i;have hul:=HZ.o.r5.1;have hgu:=ru.lt;by_cases hin:i<nb
    ·have hx:=win_next (pre:=[]) (i:=0) (show aC wk gu _ (u32s []++(u32s (shrK ul k i)++(u32s (ul.drop i)++[]))) from ru) rfl q1 (show i<ul.length by omega);have hf:=ru.frozen i;have lx:=bR HZ.o.2.1 i;have ly:=bR HZ.o.2.1 (i+1);rw [Nat.zero_add] at hx;have hdi:=drop_cons (l:=ul) (i:=i) (by omega);have hdi2:=drop_cons (l:=ul) (i:=i+1) (by omega);have e1:shrK ul k (i+1)=shrK ul k i++[lim ul i / 2 ^ k+lim ul (i+1) % 2 ^ k*2 ^ (32-k)]:=rfl;have hy0:i+1=nb→lim ul (i+1)=0:=fun h=>by rw [h];exact HZ.o.2.2.2.1
     generalize hxx:lim ul i=x at *
     generalize hyy:lim ul (i+1)=y at *
     obtain ⟨xl,hxl⟩:∃xl,xl=x / 2 ^ k:=⟨_,rfl⟩;have lxl:xl<4294967296:=by rw [hxl];exact Nat.lt_of_le_of_lt (Nat.div_le_self _ _) lx
     have k1:(x:Int) / 2 ^ k=(xl:Int):=by rw [hxl,Int.natCast_ediv,Int.natCast_pow];rfl
     rw [hdi] at ru;have ru1:aC (wk.setCell ⟨gu,i,none⟩ (.int .u32 (xl:Int))) gu 131 (u32s (shrK ul k i++[xl])++(u32s (ul.drop (i+1))++[])):=by
      have:=row_over (x:=xl) (v:=.int .u32 (xl:Int)) (t:=ul.drop (i+1)) ru q1 rfl;exact this
     have c1:=ru1.cell i;have c2:=ru1.cell (i+1);rw [List.getElem?_append_left (by simp [u32s,q1]),u32s,List.getElem?_map,List.getElem?_append_right (by omega),q1,Nat.sub_self] at c1;rw [List.getElem?_append_right (by simp [u32s,q1]),dH,aZ1,q1,List.length_singleton,Nat.sub_self,hdi2] at c2;simp only [u32s,List.getElem?_cons_zero,Option.map_some,dZ2,fZ3,Go.Proofs.Q.u32] at c1 c2;have hnn:=HX.o.r11;have rv1:=rv.setOther (g':=gu) (o:=i) (v:=.int .u32 (xl:Int)) hnn.1;have rq1:=rq.setOther (g':=gu) (o:=i) (v:=.int .u32 (xl:Int)) hnn.2.1;have hkr1:=hkr.setCell (p:=⟨gu,i,none⟩) (.inr hnn.2.2.2.1) (.int .u32 (xl:Int));have HRW:=jJ (aI8 ru1 rv1 rq1 hkr1 q1 e1 hy0 hdi2);have hxl2:xl<2 ^ (32-k):=by rw [hxl];exact (shr_limb (y:=0) lx hk).1
     have HXL2:=jJ hxl2;have j6:(0:Int)≤(i:Int):=by omega
     have j7:(i:Int)<(NU:Int):=by omega
     obtain ⟨ip,hip⟩:∃ip,ip=i+1:=⟨_,rfl⟩;have j8:(i:Int)+1=(ip:Int):=by omega
     have j9:(0:Int)≤(ip:Int):=by omega
     have j10:(ip:Int)<(NU:Int):=by omega
     have j11:IntKind.i64.wrap (ip:Int)=(ip:Int):=IntWalk.i64_in _ (by have:=HNU.o;omega);rw [←hip] at c2;have HIP:=jJ hip;have hsz:gu<(wk.setCell ⟨gu,i,none⟩ (.int .u32 (xl:Int))).heap.size:=ru1.lt;have fz1:=ru1.frozen i;have HXL:=jJ (aI3 hxl hxx hyy);clear ru ru1 rv rq hkr q1 q2 q3 e1 hy0 hdi hdi2 hul hxl hxx hyy hnn rv1 rq1 hkr1 hxl2;by_cases hgd:0<k∧i+1<nb
     ·obtain ⟨g1,g2⟩:=hgd;have g1':(0:Int)<(k:Int):=by omega
      have g2':(ip:Int)<(nb:Int):=by omega
      clear hip;go_upto_region 20 with (fail)
      generalize wk.setCell ⟨gu,i,none⟩ (.int .u32 (xl:Int))=wm at *
      go_wp2_with fail
      obtain ⟨kr,hkr⟩:∃kr,kr=32-k:=⟨_,rfl⟩;have k2:(32:Int)-(k:Int)=(kr:Int):=by omega
      have k3:IntKind.u64.wrap (kr:Int)=(kr:Int):=cC (by omega);have k4:kr<32:=by omega
      have k5:(kr:Int)<32:=by omega
      have HKR:=jJ hkr;clear hkr;refine wp_region_tillN (aA Nil wm) [14] (by kernel_rfl) ?_;have hS:aA Nil wm (World.drew wm):=kOf;refine aJ 0 (bM9 4082 15) hS ?_;refine aJ 1 (bM9 4081 15) hS ?_;refine aJ 2 (bM9 12275 15) hS ?_;refine aJ 3 (bM9 12279 15) hS ?_;refine aJ 4 (bM9 9839 15) hS ?_;refine aJ 5 (bM9 9759 15) hS ?_;refine aJ 6 (bM9 9791 15) hS ?_;refine aJ 7 (bM9 9855 15) hS ?_;refine aJ 8 (bM9 9983 15) hS ?_;refine aJ 9 (bM9 8703 15) hS ?_;refine aJ 10 (bM9 9215 15) hS ?_;refine aJ 11 (bM9 10239 15) hS ?_;refine aJ 12 (bM9 12287 15) hS ?_;refine aJ 13 (bM9 8191 15) hS ?_;clear hS;refine cE (rs:=[14]) (by kernel_rfl) (by simp) ?_;refine bD.consT rfl (by decide) (fun K hK=>?_) bD.nil;go_simp
      refine hK.out _ _ ?_;clear hK K;try simp only [Act.put,sL]
      refine wpTill_doneN (by kernel_rfl) ?_ _;skip
      go_wp2_with fail
      go_roundw
      case rel=>
       have hnn:=HX.o.r11;have hv:bits .or .u32 (xl:Int) ((y:Int)*2 ^ kr % 4294967296)=((xl+y % 2 ^ k*2 ^ kr:Nat):Int):=or_limb hk HKR.o (by rw [HKR.o];exact HXL2.o) ly;have r1:=row_over (x:=xl+y % 2 ^ k*2 ^ kr) (v:=.int .u32 (bits .or .u32 (xl:Int) ((y:Int)*2 ^ kr % 4294967296))) (o:=shrK ul k i) (y:=xl) (t:=ul.drop (i+1)) (rest:=[]) (by simpa [u32s] using HRW.o.1) HRW.o.r4.1 (congrArg (Value.int .u32) hv);refine ⟨i+1,by omega,by rw [HIP.o],?_,(HRW.o.2.1.setOther hnn.1).keep (aA.drew (aA.refl Nil _)) id,(HRW.o.2.2.1.setOther hnn.2.1).keep (aA.drew (aA.refl Nil _)) id,aA.drew (HRW.o.2.2.2.1.setCell (p:=⟨gu,i,none⟩) (.inr hnn.2.2.2.1) _)⟩;rw [HRW.o.r5.1,←HXL.o.1,←HKR.o];exact r1.keep (aA.drew (aA.refl Nil _)) id
      case measure=>have:=HIP.o;simp [intOf];omega
     ·have hlast:xl+y % 2 ^ k*2 ^ (32-k)=xl:=by
       by_cases h0:0<k
       ·have:i+1=nb:=by
         have:¬i+1<nb:=fun h=>hgd ⟨h0,h⟩;omega
        rw [HRW.o.r6.1 this];simp
       ·obtain rfl:k=0:=by omega
        simp [Nat.mod_one]
      have HLS:=jJ hlast;have hrel2:∀K:Prop,True:=fun _=>trivial;by_cases h0:0<k
      case' pos=>
       have g1':(0:Int)<(k:Int):=by omega
       have g2':¬(ip:Int)<(nb:Int):=fun h=>hgd ⟨h0,by omega⟩;have g3':decide ((ip:Int)<(nb:Int))=false:=decide_eq_false g2'
      case' neg=>
       have g1':¬(0:Int)<(k:Int):=by omega
       have g3':decide ((0:Int)<(k:Int))=false:=decide_eq_false g1'
      all_goals
       clear hgd hlast hip;go_wp2_with fail
       go_roundw
      all_goals first|exact⟨i+1,by omega,by rw [HIP.o],by rw [HRW.o.r5.1,←HXL.o.1,HLS.o];exact HRW.o.1,HRW.o.2.1,HRW.o.2.2.1,HRW.o.2.2.2.1⟩|(have:=HIP.o;simp [intOf];omega)
    ·obtain rfl:i=nb:=by omega
     have hnn:=HX.o.r11;have hNU:=HNU.o;have hrn:=HRN.o.1;have r1:aC wk gu 131 (u32s (shrK ul k i++ul.drop i)):=by simpa [u32s] using ru
     have hlu:(shrK ul k i++ul.drop i).length=NU:=by rw [aZ1,q1,eZ3];omega
     have hLu:=aS.ofRow (M:=Nil) r1 (q2.append (HZ.o.2.1.drop i)) (fun h=>h.elim) (by rw [hlu];omega);rw [hlu] at hLu;have hLu2:=hLu.take (k:=i) (by omega);rw [List.take_left' q1] at hLu2;have hLq:=aS.ofRow (M:=Nil) rq HZ.o.2.2.1 (fun h=>h.elim) (by rw [HZ.o.r6];omega);rw [HZ.o.r6] at hLq;have hv2:=shrK_all HZ.o.2.1 hk HZ.o.2.2.2.1 HZ.o.r4.1;have HL:=jJ (aI5 hLu2 hLq hv2 q2 hkr);have k5:(i:Int)≤(NU:Int):=by omega
     have k6:(0:Int)≤(i:Int):=by omega
     have k7:L*4≤140737488355328:=by omega
     have k8:i*4≤140737488355328:=by omega
     have HK:=jJ (aI k7 k8);clear ru rv rq hkr q1 q2 q3 hul r1 hlu hLu hLu2 hLq hv2 hnn hNU hrn k7 k8 hgu;go_wp2_with fail
     go_region_held3 (fun _=>True) (trivial) (first|(go_at_call_of 161 (Value.slice (some ⟨gq,0,none⟩) L L);refine (own_any (M:=M) (HM.o.keep (HL.o.r4.trans (show aA Nil wk _ from kkA))) (HL.o.2.1.keepNil (show aA Nil wk _ from kkA)) HK.o.1).mono ?_;rintro e w5 ⟨a5,c5,rfl,h5,hk5⟩)|(go_at_call_of 161 (Value.slice (some ⟨gu,0,none⟩) i NU);refine (own_any (M:=M) (HM.o.keep (HL.o.r4.trans (show aA Nil wk _ from kkA))) (HL.o.1.keepNil (show aA Nil wk _ from kkA)) HK.o.2).mono ?_;rintro e w6 ⟨a6,c6,rfl,h6,hk6⟩))
     go_wp2_with fail
     go_ret3
     have t5:Small qs:=HZ.o.2.2.1;have t6:=HL.o.2.2.2.1;rw [trim_eq t5,HZ.o.1] at h5;rw [trim_eq t6,HL.o.2.2.1] at h6;have e5:top qs=nlen (A / B):=by rw [top_eq t5,HZ.o.1];rfl
     have e6:top (shrK ul k i)=nlen (A % B):=by rw [top_eq t6,HL.o.2.2.1];rfl
     rw [e5] at h5⊢;rw [e6] at h6⊢;exact⟨_,_,_,_,rfl,h5.keepNil (by first|exact aA.refl _ _|exact hk6),h6.keepNil (by first|exact aA.refl _ _|exact hk5),HL.o.r4.trans (show aA Nil wk _ from kkA)⟩
theorem divmod_less {n c n2 c2:Nat} (hM:MB M w) (h:aS Nil w a n c l) (h2:aS Nil w a2 n2 c2 l2) (hr:n*4+4≤140737488355328) (hb:2≤top l2) (hlt:nval l<nval l2) :
  Calls prog 123 #[.slice a n c,.slice a2 n2 c2] w fun e w'=>DivRet M w (nval l) (nval l2) e w':=by
 have htn:top l≤n:=by rw [←h.len];exact top_le l
 have hcm:cmpN (nval (trim l)) (nval (trim l2))<0:=by rw [cS,cS,cmpN_lt hlt];decide
 have hva:=cS l;have hsm:=h.lt;obtain ⟨b0,o0,hae,_,_,_⟩:=h2.bare.cell (k:=0) (by omega);subst hae;have HH:=jJ (aI4 h h.bare h2 h2.bare);have HM:=jJ hM;have HR:=jJ (show top l*4≤140737488355328 by omega);generalize hna:top l=na at *
 generalize hnb:top l2=nb at *
 generalize hta:trim l=ta at *
 generalize htb:trim l2=tb at *
 have HT:=jJ (aI7 hna hnb hta htb hva hsm hlt);have j2:¬(nb:Int)=0:=by omega
 have j3:¬(nb:Int)=1:=by omega
 have j4:¬nb=0:=by omega
 have j5:¬nb=1:=by omega
 clear h h2 hM hr hna hnb hta htb hva htn hsm hlt hb;go_enter func123,ntmps123
 go_wp2_with (first|(go_at_call_of 165 (Value.slice a n c);refine (dF HH.o.1).mono ?_;rintro e w' ⟨rfl,rfl⟩;rw [HT.o.1])|(go_at_call_of 165 (Value.slice (some ⟨b0,o0,none⟩) n2 c2);refine (dF HH.o.2.2.1).mono ?_;rintro e w' ⟨rfl,rfl⟩;rw [HT.o.2.1])|(go_at_call 128;refine (cmp_any HH.o.2.1.toNil HH.o.2.2.2.toNil).mono ?_;rintro e w1 ⟨rfl,hk1⟩;have HK1:=jJ hk1;clear hk1)|(go_at_call 161;refine (own_any (M:=M) (HM.o.keep (HK1.o.trans kOf)) ((HH.o.2.1.toNil.keepNil HK1.o).keepNil kOf) HR.o).mono ?_;rintro e w2 ⟨a2',c2',rfl,h2',hk2⟩))
 go_ret3
 have e1:nval l / nval l2=0:=Nat.div_eq_of_lt HT.o.r6;have e2:nval l % nval l2=nval l:=Nat.mod_eq_of_lt HT.o.r6;have hs:Small ta:=by rw [←HT.o.2.2.1];exact Small.trim HT.o.r5.1
 have et:top ta=nlen (nval l):=by rw [top_eq hs,HT.o.r4.1];rfl
 rw [trim_eq hs,et,HT.o.r4.1] at h2';have r0:=aC.alloc (w:=w1) (E:=131) (xs:=u32s []);have hL:=aS.ofRow (M:=M) r0 Small.nil (fun hm=>by have:=HM.o _ hm;have:=HK1.o.size;omega) (by simp);have n0:nlen 0=0:=by unfold nlen;rw [bH];rfl
 unfold DivRet;rw [e1,e2,n0,bH,et];exact⟨_,_,_,_,rfl,hL.keepNil hk2,h2',(HK1.o.trans kOf).trans hk2⟩
theorem natDiv_any (hm:m≠0):NatDiv m:=by
 intro M a a2 n c n2 c2 l l2 w hM h h2 hr hr2 hv;have ht:top l2≠0:=by
  intro h0;have:=cS l2;rw [fZ1 (show (trim l2).length=0 by rw [dA,h0])] at this;simp [nval] at this;omega
 by_cases h1:top l2=1
 ·exact divmod1_any hM h h2 (by omega) h1
 ·rcases Nat.lt_or_ge (nval l) (nval l2) with hlt|hge
  ·exact divmod_less hM h h2 hr (by omega) hlt
  ·exact divmod_long hM h h2 hr hr2 (by omega) hge
end
end Go.Proofs.Q
