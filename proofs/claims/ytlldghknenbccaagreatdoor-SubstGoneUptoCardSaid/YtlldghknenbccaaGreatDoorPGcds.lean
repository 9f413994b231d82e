/- What nat.Gcd does. -/
import Derived.Test.YtlldghknenbccaaGreatDoorPDivs
import Derived.Test.YtlldghknenbccaaGreatDoorPLists
set_option linter.unusedSimpArgs false
set_option linter.unusedVariables false
set_option maxRecDepth 100000
set_option maxHeartbeats 1000000
namespace Go.Proofs.Q
open Go.RowKit Tryz
theorem nlen_pos {n:Nat} (h:n≠0):0<nlen n:=nlen_gt (k:=0) (by rw [Nat.pow_zero];omega)
theorem gcd_step {x k G:Nat} (h:Nat.gcd x k=G):Nat.gcd k (x % k)=G:=by
 rw [←h,Nat.gcd_comm x k,Nat.gcd_rec k x,Nat.gcd_comm]
section
variable {M:Nat→Prop} {a2 a:Option Addr} {w:World}
theorem divmod_of {c c2 x y:Nat} (hy:y≠0) (hM:MB M w) (h:aR Nil w a (nlen x) c (bD x)) (h2:aR Nil w a2 (nlen y) c2 (bD y)) (hr:nlen x*4+4≤140737488355328) (hr2:nlen y*4+4≤140737488355328) :
  Calls prog 100 #[.slice a (nlen x) c,.slice a2 (nlen y) c2] w fun e w'=>DivRet M w x y e w':=by
 have:=natDiv_any hy hM h h2 hr hr2 (cT y);rw [cT,cT] at this;exact this
theorem natGcd_any {n c n2 c2:Nat} {l l2:List Nat} (hM:MB M w) (h:aR Nil w a n c l) (h2:aR Nil w a2 n2 c2 l2) (hr:n*4+4≤140737488355328) (hr2:n2*4+4≤140737488355328) :
  Calls prog 160 #[.slice a n c,.slice a2 n2 c2] w fun e w'=>∃a' c',e=.returned (.slice a' (nlen (Nat.gcd (nval l) (nval l2))) c')∧aR M w' a' (nlen (Nat.gcd (nval l) (nval l2))) c' (bD (Nat.gcd (nval l) (nval l2)))∧aA Nil w w':=by
 have o1:∀{w':World},aA Nil w w'→Calls prog 133 #[.slice a n c] w' fun e w''=>∃a' c',e=.returned (.slice a' (nlen (nval l)) c')∧aR M w'' a' (nlen (nval l)) c' (bD (nval l))∧aA Nil w' w'':=fun {w'} k=>by
  refine (own_any (M:=M) (hM.keep k) (h.keepNil k) (by omega)).mono ?_;rintro e w'' ⟨a',c',rfl,h',hk⟩;rw [trim_eq h.lt,top_eq h.lt] at h';rw [top_eq h.lt];exact⟨_,_,rfl,h',hk⟩
 have o2:∀{w':World},aA Nil w w'→Calls prog 133 #[.slice a2 n2 c2] w' fun e w''=>∃a' c',e=.returned (.slice a' (nlen (nval l2)) c')∧aR M w'' a' (nlen (nval l2)) c' (bD (nval l2))∧aA Nil w' w'':=fun {w'} k=>by
  refine (own_any (M:=M) (hM.keep k) (h2.keepNil k) (by omega)).mono ?_;rintro e w'' ⟨a',c',rfl,h',hk⟩;rw [trim_eq h2.lt,top_eq h2.lt] at h';rw [top_eq h2.lt];exact⟨_,_,rfl,h',hk⟩
 have HO:=jJ (aI @o1 @o2);have hl1:nlen (nval l)≤n:=by rw [←h.len];exact nlen_le h.lt
 have hl2:nlen (nval l2)≤n2:=by rw [←h2.len];exact nlen_le h2.lt
 have HM:=jJ hM;generalize hA:nval l=A at *
 generalize hB:nval l2=B at *
 have HR:=jJ (show nlen A*4+4≤140737488355328∧nlen B*4+4≤140737488355328 by omega);clear h h2 hM hA hB hl1 hl2 o1 o2 hr hr2;go_enter func160,ntmps160
 go_upto_region 2 with (first|(go_at_call 133;refine (HO.o.1 (aA.refl Nil w)).mono ?_;rintro e w1 ⟨a3,c3,rfl,h3,hk3⟩;have H3:=jJ (aI h3 hk3);clear h3 hk3)|(go_at_call 133;refine (HO.o.2 H3.o.2).mono ?_;rintro e w2 ⟨a4,c4,rfl,h4,hk4⟩;have H4:=jJ (aI h4 hk4);clear h4 hk4))
 go_loopg [0,1] B (fun k p q wr=>∃(x:Nat) (a1:Option Addr) (c1:Nat) (a5:Option Addr) (c5:Nat),p=.slice a1 (nlen x) c1∧q=.slice a5 (nlen k) c5∧aR M wr a1 (nlen x) c1 (bD x)∧aR M wr a5 (nlen k) c5 (bD k)∧Nat.gcd x k=Nat.gcd A B∧nlen x*4+4≤140737488355328∧nlen k*4+4≤140737488355328∧aA Nil w wr)
 case atStart=>exact⟨A,_,_,_,_,rfl,rfl,H3.o.1.keepNil H4.o.2,H4.o.1,rfl,HR.o.1,HR.o.2,H3.o.2.trans H4.o.2⟩
 case round=>
  obtain ⟨x,a1,c1,a5,c5,rfl,rfl,l1,l2',hg,r1,r2,hkr⟩:=hrel;have HL:=jJ (aI6 l1 l2' hg r1 r2 hkr);clear l1 l2' hg r1 r2 hkr;by_cases hk0:gk=0
  ·have n0:nlen gk=0:=by rw [hk0];unfold nlen;rw [bP];rfl
   have HK:=jJ hk0;clear hk0;generalize hnk:nlen gk=nk at *
   have hz:¬(0:Int)<(nk:Int):=by omega
   have hz2:¬0<nk:=by omega
   clear hnk n0;go_wp2_with fail
   go_ret
   have hg:=HL.o.2.2.1;rw [HK.o,Nat.gcd_zero_right] at hg;rw [←hg];exact⟨_,_,rfl,HL.o.1,HL.o.r5⟩
  ·have hp:=nlen_pos hk0;have hz:(0:Int)<(nlen gk:Int):=by omega
   have HK:=jJ hk0;clear hk0;go_wp2_with (go_at_call 100;refine (divmod_of (M:=M) HK.o (HM.o.keep HL.o.r5) HL.o.1.toNil HL.o.2.1.toNil HL.o.2.2.2.1 HL.o.r4.1).mono ?_;rintro e w3 ⟨a7,c7,a8,c8,rfl,h7,h8,hk3⟩;have H8:=jJ (aI h8 hk3);clear h7 h8 hk3)
   go_roundg (x % gk)
   case measure=>exact Nat.mod_lt _ (Nat.pos_of_ne_zero HK.o)
   case rel=>exact⟨gk,_,_,_,_,rfl,rfl,HL.o.2.1.keepNil H8.o.2,H8.o.1,gcd_step HL.o.2.2.1,HL.o.r4.1,by have:=nlen_mono (Nat.mod_le x gk);have:=HL.o.2.2.2.1;omega,HL.o.r5.trans H8.o.2⟩
end
theorem ival_abs (g:Bool) (l:List Nat):(ival (g,l)).natAbs=nval l:=by
 unfold ival;split<;>simp
def gcdL (zs:List Int):Nat:=zs.foldl (fun a z=>Nat.gcd a z.natAbs) 0
theorem gcdL_snoc (zs:List Int) (z:Int):gcdL (zs++[z])=Nat.gcd (gcdL zs) z.natAbs:=by simp [gcdL]
theorem rows222' (w:World) (E:TypeId) (u v u2 v2 u3 v3:Value):aC (((w.alloc (.cells #[u,v] E)).alloc (.cells #[u2,v2] E)).alloc (.cells #[u3,v3] E)) (w.heap.size+1+1) E [u3,v3]:=by
 have:=aC.alloc (w:=(w.alloc (.cells #[u,v] E)).alloc (.cells #[u2,v2] E)) (E:=E) (xs:=[u3,v3]);simpa using this
theorem MB.withNew3 {M:Nat→Prop} {w:World} {o o2 o3:Obj} (h:MB M w):MB (With M (w.heap.size+1+1)) (((w.alloc o).alloc o2).alloc o3):=fun b hb=>by
 rcases hb with hb|hb
 ·have:=h b hb;simp;omega
 ·subst hb;simp
theorem nlen_gcd {a b:Nat} (hb:b≠0):nlen (Nat.gcd a b)≤nlen b:=nlen_mono (Nat.le_of_dvd (Nat.pos_of_ne_zero hb) (Nat.gcd_dvd_right a b))
theorem nlen_gcd_le (a b:Nat):nlen (Nat.gcd a b)≤max (nlen a) (nlen b):=by
 by_cases h:b=0
 ·subst h;rw [Nat.gcd_zero_right];omega
 ·have:=nlen_gcd (a:=a) h;omega
section
variable {a:Option Addr} {M M':Nat→Prop} {w:World} {zs:List Int} {n c:Nat}
theorem gcd1_any {g g2:Bool} {a2:Option Addr} {n2 c2:Nat} {z z2:Int} (hM:MB M w) (h:ZAt Nil w g a n c z) (h2:ZAt Nil w g2 a2 n2 c2 z2) (hn:n*4+4≤140737488355328) (hn2:n2*4+4≤140737488355328) :
  Calls prog 189 #[.agg #[.bool g,.slice a n c],.agg #[.bool g2,.slice a2 n2 c2]] w fun e w'=>ZRet M w ((Nat.gcd z.natAbs z2.natAbs:Nat):Int) e w':=by
 have hl:=h.nlen_le;have hl2:=h2.nlen_le;obtain ⟨l,q1,q2,q3⟩:=h;obtain ⟨l2,p1,p2,p3⟩:=h2;have e1:nval l=z.natAbs:=by rw [←q3,ival_abs]
 have e2:nval l2=z2.natAbs:=by rw [←p3,ival_abs]
 have hfit:nlen (Nat.gcd z.natAbs z2.natAbs)*4≤140737488355328:=by have:=nlen_gcd_le z.natAbs z2.natAbs;omega
 have HH:=jJ (aI7 q1 p1 e1 e2 hn hn2 hfit);have HM:=jJ hM;generalize hG:Nat.gcd z.natAbs z2.natAbs=G at *
 have hGe:Nat.gcd (nval l) (nval l2)=G:=by rw [e1,e2];exact hG
 have HGE:=jJ hGe;clear hM q1 q2 q3 p1 p2 p3 e1 e2 hn hn2 hfit hl hl2 hG hGe;have HG:∀(w':World),aA Nil w w'→Calls prog 160 #[.slice a n c,.slice a2 n2 c2] w' fun e w''=>∃a' c',e=.returned (.slice a' (nlen G) c')∧aR Nil w'' a' (nlen G) c' (bD G)∧aA Nil w' w'':=fun w' k=>by
  have:=natGcd_any (M:=Nil) (MB.nil _) (HH.o.1.keepNil k) (HH.o.2.1.keepNil k) HH.o.r4.1 HH.o.r5.1;rw [HGE.o] at this;exact this
 have HGC:=jJ HG;clear HG;go_enter func189,ntmps189
 go_wp2_with (first|(go_at_call 160;refine (HGC.o _ kOf).mono ?_;rintro e w1 ⟨a1,c1,rfl,h1,hk1⟩;have H1:=jJ h1;clear h1)|(go_at_call 92;refine (made_any (M:=With M (w.heap.size+1+1)) ((MB.withNew3 HM.o).keep hk1) (zat_of false H1.o HH.o.r6)).mono ?_;rintro e w2 ⟨g',a',n',c',rfl,h',hk2⟩;have r:=((rows222' w 25 (.bool g) (.slice a n c) (.bool g2) (.slice a2 n2 c2) (.bool false) (.slice none 0 0)).keep hk1 id).keep hk2 id;obtain ⟨c0,c1',f0,f1⟩:=r.two;have HT:=jJ h';clear h' r))
 exact bodyPost_ret (v:=.agg #[.bool g',.slice a' n' c']) (by simp [results,results189,go_sem,c0,c1']) rfl ⟨_,_,_,_,rfl,HT.o.less (aA.pair _ _),((((((aA.refl Nil w).alloc _).alloc _).alloc _).trans hk1).trans hk2).own (by omega) (aA.pair _ _)⟩
theorem foldedGcd_any (hM:MB M w) (h:ZInts M' w a n c zs) (hf:∀z∈zs,nlen z.natAbs*4+4≤140737488355328) :
  Calls prog 114 #[.slice a n c,.agg #[.bool false,.slice none 0 0],.func (.func 189) #[] #[]] w fun e w'=>ZRet M w (gcdL zs:Int) e w':=by
 have hln:zs.length=n:=SlOf.len h;have hcap:=SlOf.cap h;have hle:=SlOf.le h;have HS:=jJ h.toNil;have HM:=jJ hM;have HF:=jJ hf;have HL:=jJ hln;have heg:∀args w,(callFunc 189 args).run prog w=.ok (.enter 189 args) w:=enters_of func189 (by kernel_rfl) rfl;have HRS:=jJ (rows2 w 25 (.bool false) (.slice none 0 0) (.bool false) (.slice none 0 0));clear h hM hf hln;go_enter func114,ntmps114
 go_wp2_with fail
 obtain ⟨r0,r1,hk0⟩:=HRS.o;clear HRS;generalize ((w.alloc (.cells #[.bool false,.slice none 0 0] 25)).alloc (.cells #[.bool false,.slice none 0 0] 25))=w0 at *
 have H0:=jJ (aI3 r0 r1 hk0);have b0:=r0.lt;have b1:=r1.lt;clear r0 r1 hk0;have hz0:ZN (With M (w.heap.size+1)) w0 false none 0 0 0:=⟨rfl,by rw [show (0:Int).natAbs=0 from rfl,bP];exact⟨rfl,Sl.nil _ _ _ _,Small.nil⟩⟩;have HZ0:=jJ hz0;clear hz0;go_loopw [11] (fun iv wr=>∃(k:Nat) (s:Bool) (ak:Option Addr) (nk ck:Nat),k≤n∧iv=.int .i64 (k:Int)∧aC wr w.heap.size 25 [.bool s,.slice ak nk ck]∧aC wr (w.heap.size+1) 25 [.bool false,.slice none 0 0]∧ZN (With (With M (w.heap.size+1)) w.heap.size) wr s ak nk ck (gcdL (zs.take k):Int)∧nlen (gcdL (zs.take k))*4+4≤140737488355328∧aA Nil w wr) (fun iv _=>n-(intOf iv).toNat)
 case atStart=>exact⟨0,false,none,0,0,aZ2 _,rfl,H0.o.1,H0.o.2.1,⟨rfl,by simpa [gcdL,bP] using (⟨rfl,Sl.nil _ _ _ _,Small.nil⟩:aR (With (With M (w.heap.size+1)) w.heap.size) w0 none 0 0 [])⟩,by simp [gcdL,nlen,bP],H0.o.2.2⟩
 case round=>
  clear HZ0 H0;obtain ⟨k,s,ak,nk,ck,hk,rfl,r0,r1,hz,hfk,hkr⟩:=hrel;by_cases hlt:k<n
  ·have j0:(0:Int)≤(k:Int):=by omega
   have j1:(k:Int)<(n:Int):=by omega
   obtain ⟨b,off,g,a',n',c',hae,hb,-,x0,x1,hzk⟩:=(HS.o.keepNil hkr).at hlt;subst hae;have hfe:=HF.o (zth zs k) (by rw [zth_lt (by have:=HL.o;omega)];exact List.getElem_mem _);have hMB:MB (With (With M (w.heap.size+1)) w.heap.size) wr:=fun b hb=>by
    have l0:=r0.lt;have l1:=r1.lt;rcases hb with (hb|hb)|hb
    ·exact (HM.o.keep hkr) b hb
    ·omega
    ·omega
   have hcall:=fun (W:World) (q:aA Nil wr W)=>gcd1_any (hMB.keep q) ((hz.zat hfk).keepNil q) ((hzk.zat hfe).keepNil q) (by rw [hz.len];exact hfk) (by rw [hzk.len];exact hfe);obtain ⟨c0,c1',_,_⟩:=r0.two;have l0:=r0.lt;have hsnoc:gcdL (zs.take (k+1))=Nat.gcd (gcdL (zs.take k)) (zth zs k).natAbs:=by
    rw [List.take_succ_eq_append_getElem (by have:=HL.o;omega),gcdL_snoc,zth_lt (by have:=HL.o;omega)]
   have hfit2:nlen (gcdL (zs.take (k+1)))*4+4≤140737488355328:=by
    rw [hsnoc];have:=nlen_gcd_le (gcdL (zs.take k)) (zth zs k).natAbs;omega
   rw [show ((gcdL (zs.take k):Nat):Int).natAbs=gcdL (zs.take k) from Int.natAbs_natCast _] at hcall;rw [←hsnoc] at hcall;have HC:=jJ (aI5 hcall hkr r0 r1 hfit2);clear hcall hkr r0 r1 hfit2 hsnoc hMB hz hzk hfe hfk;go_wp2_with (go_at_call 189;refine (HC.o.1 _ kOf).mono ?_;rintro e w3 ⟨g3,a3,n3,c3,rfl,h3,hk3⟩;have r0':=(HC.o.2.2.1.keep (M:=Nil) (show aA Nil wr _ from kOf) id).keep hk3 id;obtain ⟨d0,d1,f0,f1⟩:=r0'.two;have H3:=jJ (aI3 h3 hk3 r0');clear h3 hk3 r0')
   go_roundw
   case rel=>exact⟨k+1,g3,a3,n3,c3,by omega,by go_num,H3.o.2.2.pair,((HC.o.2.2.2.1.keep (M:=Nil) (show aA Nil wr _ from kOf) id).keep H3.o.2.1 id).pairOther (by omega),H3.o.1.move (aA.pair _ _) (fun _ _ hb=>.inr hb) (fun _ _=>id),HC.o.r4,((HC.o.2.1.trans (show aA Nil wr _ from kOf)).trans H3.o.2.1).own (bZ2 _) (aA.pair _ _)⟩
   case measure=>simp [intOf];omega
  ·obtain rfl:k=n:=by omega
   rw [eZ1 (by have:=HL.o;omega)] at hz;obtain ⟨c0,c1',_,_⟩:=r0.two;obtain ⟨d0,d1,f0,f1⟩:=r1.two;have HX:=jJ (aI hz hkr);clear hz hkr hfk;go_wp2_with fail
   exact bodyPost_ret (v:=.agg #[.bool s,.slice ak nk ck]) (by simp [results,results114,go_sem,d0,d1]) rfl ⟨_,_,_,_,rfl,HX.o.1.move (aA.pair _ _) (fun _ _ hb=>.inl (.inr hb)) (fun _ _ hb=>.inl (.inl hb)),HX.o.2.own (by omega) (aA.pair _ _)⟩
theorem zgcd_any (hM:MB M w) (h:ZInts M' w a n c zs) (hf:∀z∈zs,nlen z.natAbs*4+4≤140737488355328) :
  Calls prog 144 #[.slice a n c] w fun e w'=>ZRet M w (gcdL zs:Int) e w':=by
 have HS:=jJ h;have HM:=jJ hM;have HF:=jJ hf;clear h hM hf;go_enter func144,ntmps144
 go_wp2_with (go_at_call 114;refine (foldedGcd_any (M:=With M w.heap.size) (HM.o.withNew _) (HS.o.keepNil kOf) HF.o).mono ?_;rintro e w' ⟨g',a',n',c',rfl,h',hk'⟩;have r:=(aC.alloc (w:=w) (E:=25) (xs:=[.bool false,.slice none 0 0])).keep hk' id;obtain ⟨c0,c1,f0,f1⟩:=r.two;have HT:=jJ (aI h' hk');clear h' hk' r)
 exact bodyPost_ret (v:=.agg #[.bool g',.slice a' n' c']) (by simp [results,results144,go_sem,c0,c1]) rfl ⟨_,_,_,_,rfl,HT.o.1.less (aA.pair _ _),(((aA.refl Nil w).alloc _).trans HT.o.2).own (bZ2 _) (aA.pair _ _)⟩
end
end Go.Proofs.Q
