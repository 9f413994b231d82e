/- What nat.Gcd does. -/
import Derived.Test.YtlldghknenbccaaGreatDoorRDivs
import Derived.Test.YtlldghknenbccaaGreatDoorRLists
set_option linter.unusedSimpArgs false
set_option linter.unusedVariables false
set_option maxRecDepth 100000
set_option maxHeartbeats 1000000
namespace Go.Proofs.Q
open Go.RowKit Tryz
theorem aHG {n:Nat} (h:n≠0):0<eP n:=aJU (k:=0) (by rw [Nat.pow_zero];omega)
theorem aYD {x k G:Nat} (h:Nat.gcd x k=G):Nat.gcd k (x % k)=G:=by
 rw [←h,Nat.gcd_comm x k,Nat.gcd_rec k x,Nat.gcd_comm]
section
variable {M:Nat→Prop} {a2 a:Option Addr} {w:World}
theorem aUY {c c2 x y:Nat} (hy:y≠0) (hM:MB M w) (h:aU Nil w a (eP x) c (bH x)) (h2:aU Nil w a2 (eP y) c2 (bH y)) (hr:eP x*4+4≤140737488355328) (hr2:eP y*4+4≤140737488355328) :
  Calls prog 100 #[.slice a (eP x) c,.slice a2 (eP y) c2] w fun e w'=>QK M w x y e w':=by
 have:=UK hy hM h h2 hr hr2 (cS y);rw [cS,cS] at this;exact this
theorem aSJ {n c n2 c2:Nat} {l l2:List Nat} (hM:MB M w) (h:aU Nil w a n c l) (h2:aU Nil w a2 n2 c2 l2) (hr:n*4+4≤140737488355328) (hr2:n2*4+4≤140737488355328) :
  Calls prog 160 #[.slice a n c,.slice a2 n2 c2] w fun e w'=>∃a' c',e=.returned (.slice a' (eP (Nat.gcd (nval l) (nval l2))) c')∧aU M w' a' (eP (Nat.gcd (nval l) (nval l2))) c' (bH (Nat.gcd (nval l) (nval l2)))∧aA Nil w w':=by
 have o1:∀{w':World},aA Nil w w'→Calls prog 133 #[.slice a n c] w' fun e w''=>∃a' c',e=.returned (.slice a' (eP (nval l)) c')∧aU M w'' a' (eP (nval l)) c' (bH (nval l))∧aA Nil w' w'':=fun {w'} k=>by
  refine (AL (M:=M) (hM.keep k) (h.eO k) zZ).mono ?_;rintro e w'' ⟨a',c',rfl,h',hk⟩;rw [mQ h.lt,iN h.lt] at h';rw [iN h.lt];exact⟨_,_,rfl,h',hk⟩
 have o2:∀{w':World},aA Nil w w'→Calls prog 133 #[.slice a2 n2 c2] w' fun e w''=>∃a' c',e=.returned (.slice a' (eP (nval l2)) c')∧aU M w'' a' (eP (nval l2)) c' (bH (nval l2))∧aA Nil w' w'':=fun {w'} k=>by
  refine (AL (M:=M) (hM.keep k) (h2.eO k) zZ).mono ?_;rintro e w'' ⟨a',c',rfl,h',hk⟩;rw [mQ h2.lt,iN h2.lt] at h';rw [iN h2.lt];exact⟨_,_,rfl,h',hk⟩
 have HO:=jJ (aI @o1 @o2);have hl1:eP (nval l)≤n:=by rw [←h.len];exact iD h.lt
 have hl2:eP (nval l2)≤n2:=by rw [←h2.len];exact iD h2.lt
 have HM:=jJ hM;generalize hA:nval l=A at *
 generalize hB:nval l2=B at *
 have HR:=jJ (show eP A*4+4≤140737488355328∧eP B*4+4≤140737488355328 by omega);clear h h2 hM hA hB hl1 hl2 o1 o2 hr hr2;go_enter func160,ntmps160
 go_upto_region 2 with (first|(go_at_call 133;refine (HO.o.1 (aA.refl Nil w)).mono ?_;rintro e w1 ⟨a3,c3,rfl,h3,hk3⟩;have H3:=jJ (aI h3 hk3);clear h3 hk3)|(go_at_call 133;refine (HO.o.2 H3.o.2).mono ?_;rintro e w2 ⟨a4,c4,rfl,h4,hk4⟩;have H4:=jJ (aI h4 hk4);clear h4 hk4))
 go_loopg [0,1] B (fun k p q wr=>∃(x:Nat) (a1:Option Addr) (c1:Nat) (a5:Option Addr) (c5:Nat),p=.slice a1 (eP x) c1∧q=.slice a5 (eP k) c5∧aU M wr a1 (eP x) c1 (bH x)∧aU M wr a5 (eP k) c5 (bH k)∧Nat.gcd x k=Nat.gcd A B∧eP x*4+4≤140737488355328∧eP k*4+4≤140737488355328∧aA Nil w wr)
 case atStart=>exact⟨A,_,_,_,_,rfl,rfl,H3.o.1.eO H4.o.2,H4.o.1,rfl,HR.o.1,HR.o.2,H3.o.2.trans H4.o.2⟩
 case round=>
  obtain ⟨x,a1,c1,a5,c5,rfl,rfl,l1,l2',hg,r1,r2,hkr⟩:=hrel;have HL:=jJ (aI6 l1 l2' hg r1 r2 hkr);clear l1 l2' hg r1 r2 hkr;by_cases hk0:gk=0
  ·have n0:eP gk=0:=by rw [hk0];unfold eP;rw [bT];rfl
   have HK:=jJ hk0;clear hk0;generalize hnk:eP gk=nk at *
   have hz:¬(0:Int)<(nk:Int):=zZ;have hz2:¬0<nk:=zZ;clear hnk n0;go_wp2_with fail
   go_ret
   have hg:=HL.o.2.2.1;rw [HK.o,Nat.gcd_zero_right] at hg;rw [←hg];exact⟨_,_,rfl,HL.o.1,HL.o.r5⟩
  ·have hp:=aHG hk0;have hz:(0:Int)<(eP gk:Int):=zZ;have HK:=jJ hk0;clear hk0;go_wp2_with (go_at_call 100;refine (aUY (M:=M) HK.o (HM.o.keep HL.o.r5) HL.o.1.gK HL.o.2.1.gK HL.o.2.2.2.1 HL.o.r4.1).mono ?_;rintro e w3 ⟨a7,c7,a8,c8,rfl,h7,h8,hk3⟩;have H8:=jJ (aI h8 hk3);clear h7 h8 hk3)
   go_roundg (x % gk)
   case measure=>exact Nat.mod_lt _ (Nat.pos_of_ne_zero HK.o)
   case rel=>exact⟨gk,_,_,_,_,rfl,rfl,HL.o.2.1.eO H8.o.2,H8.o.1,aYD HL.o.2.2.1,HL.o.r4.1,by have:=lQ (Nat.mod_le x gk);have:=HL.o.2.2.2.1;omega,HL.o.r5.trans H8.o.2⟩
end
theorem WJ (g:Bool) (l:List Nat):(ival (g,l)).natAbs=nval l:=by
 unfold ival;split<;>simp
def fH (zs:List Int):Nat:=zs.foldl (fun a z=>Nat.gcd a z.natAbs) 0
theorem aVS (zs:List Int) (z:Int):fH (zs++[z])=Nat.gcd (fH zs) z.natAbs:=by simp [fH]
theorem aXL (w:World) (E:TypeId) (u v u2 v2 u3 v3:Value):aF (((w.alloc (.cells #[u,v] E)).alloc (.cells #[u2,v2] E)).alloc (.cells #[u3,v3] E)) (w.heap.size+1+1) E [u3,v3]:=by
 have:=aF.alloc (w:=(w.alloc (.cells #[u,v] E)).alloc (.cells #[u2,v2] E)) (E:=E) (xs:=[u3,v3]);simpa using this
theorem MB.aYJ {M:Nat→Prop} {w:World} {o o2 o3:Obj} (h:MB M w):MB (With M (w.heap.size+1+1)) (((w.alloc o).alloc o2).alloc o3):=fun b hb=>by
 rcases hb with hb|hb
 ·have:=h b hb;simp;omega
 ·subst hb;simp
theorem aXC {a b:Nat} (hb:b≠0):eP (Nat.gcd a b)≤eP b:=lQ (Nat.le_of_dvd (Nat.pos_of_ne_zero hb) (Nat.gcd_dvd_right a b))
theorem TI (a b:Nat):eP (Nat.gcd a b)≤max (eP a) (eP b):=by
 by_cases h:b=0
 ·subst h;rw [Nat.gcd_zero_right];omega
 ·have:=aXC (a:=a) h;omega
section
variable {a:Option Addr} {M M':Nat→Prop} {w:World} {zs:List Int} {n c:Nat}
theorem aWT {g g2:Bool} {a2:Option Addr} {n2 c2:Nat} {z z2:Int} (hM:MB M w) (h:ZAt Nil w g a n c z) (h2:ZAt Nil w g2 a2 n2 c2 z2) (hn:n*4+4≤140737488355328) (hn2:n2*4+4≤140737488355328) :
  Calls prog 189 #[.agg #[.bool g,.slice a n c],.agg #[.bool g2,.slice a2 n2 c2]] w fun e w'=>nI M w ((Nat.gcd z.natAbs z2.natAbs:Nat):Int) e w':=by
 have hl:=h.iD;have hl2:=h2.iD;obtain ⟨l,q1,q2,q3⟩:=h;obtain ⟨l2,p1,p2,p3⟩:=h2;have e1:nval l=z.natAbs:=by rw [←q3,WJ]
 have e2:nval l2=z2.natAbs:=by rw [←p3,WJ]
 have hfit:eP (Nat.gcd z.natAbs z2.natAbs)*4≤140737488355328:=by have:=TI z.natAbs z2.natAbs;omega
 have HH:=jJ (aI7 q1 p1 e1 e2 hn hn2 hfit);have HM:=jJ hM;generalize hG:Nat.gcd z.natAbs z2.natAbs=G at *
 have hGe:Nat.gcd (nval l) (nval l2)=G:=by rw [e1,e2];exact hG
 have HGE:=jJ hGe;clear hM q1 q2 q3 p1 p2 p3 e1 e2 hn hn2 hfit hl hl2 hG hGe;have HG:∀(w':World),aA Nil w w'→Calls prog 160 #[.slice a n c,.slice a2 n2 c2] w' fun e w''=>∃a' c',e=.returned (.slice a' (eP G) c')∧aU Nil w'' a' (eP G) c' (bH G)∧aA Nil w' w'':=fun w' k=>by
  have:=aSJ (M:=Nil) (MB.nil _) (HH.o.1.eO k) (HH.o.2.1.eO k) HH.o.r4.1 HH.o.r5.1;rw [HGE.o] at this;exact this
 have HGC:=jJ HG;clear HG;go_enter func189,ntmps189
 go_wp2_with (first|(go_at_call 160;refine (HGC.o _ kOf).mono ?_;rintro e w1 ⟨a1,c1,rfl,h1,hk1⟩;have H1:=jJ h1;clear h1)|(go_at_call 92;refine (nL (M:=With M (w.heap.size+1+1)) ((MB.aYJ HM.o).keep hk1) (FE false H1.o HH.o.r6)).mono ?_;rintro e w2 ⟨g',a',n',c',rfl,h',hk2⟩;have r:=((aXL w 25 (.bool g) (.slice a n c) (.bool g2) (.slice a2 n2 c2) (.bool false) (.slice none 0 0)).keep hk1 id).keep hk2 id;obtain ⟨c0,c1',f0,f1⟩:=r.two;have HT:=jJ h';clear h' r))
 exact bodyPost_ret (v:=.agg #[.bool g',.slice a' n' c']) (by simp [results,results189,go_sem,c0,c1']) rfl ⟨_,_,_,_,rfl,HT.o.less (aA.pair _ _),((((((aA.refl Nil w).alloc _).alloc _).alloc _).trans hk1).trans hk2).own zZ (aA.pair _ _)⟩
theorem aMF (hM:MB M w) (h:kT M' w a n c zs) (hf:∀z∈zs,eP z.natAbs*4+4≤140737488355328) :
  Calls prog 114 #[.slice a n c,.agg #[.bool false,.slice none 0 0],.func (.func 189) #[] #[]] w fun e w'=>nI M w (fH zs:Int) e w':=by
 have hln:zs.length=n:=eU.len h;have hcap:=eU.cap h;have hle:=eU.le h;have HS:=jJ h.gK;have HM:=jJ hM;have HF:=jJ hf;have HL:=jJ hln;have heg:∀args w,(callFunc 189 args).run prog w=.ok (.enter 189 args) w:=enters_of func189 zX rfl;have HRS:=jJ (aKL w 25 (.bool false) (.slice none 0 0) (.bool false) (.slice none 0 0));clear h hM hf hln;go_enter func114,ntmps114
 go_wp2_with fail
 obtain ⟨r0,r1,hk0⟩:=HRS.o;clear HRS;generalize ((w.alloc (.cells #[.bool false,.slice none 0 0] 25)).alloc (.cells #[.bool false,.slice none 0 0] 25))=w0 at *
 have H0:=jJ (aI3 r0 r1 hk0);have b0:=r0.lt;have b1:=r1.lt;clear r0 r1 hk0;have hz0:ZN (With M (w.heap.size+1)) w0 false none 0 0 0:=⟨rfl,tY⟩;have HZ0:=jJ hz0;clear hz0;go_loopw [11] (fun iv wr=>∃(k:Nat) (s:Bool) (ak:Option Addr) (nk ck:Nat),k≤n∧iv=.int .i64 (k:Int)∧aF wr w.heap.size 25 [.bool s,.slice ak nk ck]∧aF wr (w.heap.size+1) 25 [.bool false,.slice none 0 0]∧ZN (With (With M (w.heap.size+1)) w.heap.size) wr s ak nk ck (fH (zs.take k):Int)∧eP (fH (zs.take k))*4+4≤140737488355328∧aA Nil w wr) (fun iv _=>n-(intOf iv).toNat)
 case atStart=>exact⟨0,false,none,0,0,aZ2 _,rfl,H0.o.1,H0.o.2.1,⟨rfl,by simpa [fH,bT] using (⟨rfl,Sl.nil _ _ _ _,Small.nil⟩:aU (With (With M (w.heap.size+1)) w.heap.size) w0 none 0 0 [])⟩,by simp [fH,eP,bT],H0.o.2.2⟩
 case round=>
  clear HZ0 H0;obtain ⟨k,s,ak,nk,ck,hk,rfl,r0,r1,hz,hfk,hkr⟩:=hrel;by_cases hlt:k<n
  ·have j0:(0:Int)≤(k:Int):=zZ;have j1:(k:Int)<(n:Int):=zZ;obtain ⟨b,off,g,a',n',c',hae,hb,-,x0,x1,hzk⟩:=(HS.o.eO hkr).at hlt;subst hae;have hfe:=HF.o (zth zs k) (by rw [aKB xB];exact List.getElem_mem _);have hMB:MB (With (With M (w.heap.size+1)) w.heap.size) wr:=fun b hb=>by
    have l0:=r0.lt;have l1:=r1.lt;rcases hb with (hb|hb)|hb
    ·exact (HM.o.keep hkr) b hb
    ·omega
    ·omega
   have hcall:=fun (W:World) (q:aA Nil wr W)=>aWT (hMB.keep q) ((hz.zat hfk).eO q) ((hzk.zat hfe).eO q) (by rw [hz.len];exact hfk) (by rw [hzk.len];exact hfe);obtain ⟨c0,c1',_,_⟩:=r0.two;have l0:=r0.lt;have hsnoc:fH (zs.take (k+1))=Nat.gcd (fH (zs.take k)) (zth zs k).natAbs:=by
    rw [List.take_succ_eq_append_getElem xB,aVS,aKB xB]
   have hfit2:eP (fH (zs.take (k+1)))*4+4≤140737488355328:=by
    rw [hsnoc];have:=TI (fH (zs.take k)) (zth zs k).natAbs;omega
   rw [show ((fH (zs.take k):Nat):Int).natAbs=fH (zs.take k) from Int.natAbs_natCast _] at hcall;rw [←hsnoc] at hcall;have HC:=jJ (aI5 hcall hkr r0 r1 hfit2);clear hcall hkr r0 r1 hfit2 hsnoc hMB hz hzk hfe hfk;go_wp2_with (go_at_call 189;refine (HC.o.1 _ kOf).mono ?_;rintro e w3 ⟨g3,a3,n3,c3,rfl,h3,hk3⟩;have r0':=(HC.o.2.2.1.keep (M:=Nil) (show aA Nil wr _ from kOf) id).keep hk3 id;obtain ⟨d0,d1,f0,f1⟩:=r0'.two;have H3:=jJ (aI3 h3 hk3 r0');clear h3 hk3 r0')
   go_roundw
   case rel=>exact⟨k+1,g3,a3,n3,c3,zZ,zF,H3.o.2.2.pair,((HC.o.2.2.2.1.keep (M:=Nil) (show aA Nil wr _ from kOf) id).keep H3.o.2.1 id).BH zZ,H3.o.1.move (aA.pair _ _) (fun _ _ hb=>.inr hb) (fun _ _=>id),HC.o.r4,((HC.o.2.1.trans (show aA Nil wr _ from kOf)).trans H3.o.2.1).own (bZ2 _) (aA.pair _ _)⟩
   case measure=>exact zI
  ·obtain rfl:k=n:=zZ;rw [eZ1 xB] at hz;obtain ⟨c0,c1',_,_⟩:=r0.two;obtain ⟨d0,d1,f0,f1⟩:=r1.two;have HX:=jJ (aI hz hkr);clear hz hkr hfk;go_wp2_with fail
   exact bodyPost_ret (v:=.agg #[.bool s,.slice ak nk ck]) (by simp [results,results114,go_sem,d0,d1]) rfl ⟨_,_,_,_,rfl,HX.o.1.move (aA.pair _ _) (fun _ _ hb=>.inl (.inr hb)) (fun _ _ hb=>.inl (.inl hb)),HX.o.2.own zZ (aA.pair _ _)⟩
theorem KP (hM:MB M w) (h:kT M' w a n c zs) (hf:∀z∈zs,eP z.natAbs*4+4≤140737488355328) :
  Calls prog 144 #[.slice a n c] w fun e w'=>nI M w (fH zs:Int) e w':=by
 have HS:=jJ h;have HM:=jJ hM;have HF:=jJ hf;clear h hM hf;go_enter func144,ntmps144
 go_wp2_with (go_at_call 114;refine (aMF (M:=With M w.heap.size) (HM.o.DU _) (HS.o.eO kOf) HF.o).mono ?_;rintro e w' ⟨g',a',n',c',rfl,h',hk'⟩;have r:=(aF.alloc (w:=w) (E:=25) (xs:=[.bool false,.slice none 0 0])).keep hk' id;obtain ⟨c0,c1,f0,f1⟩:=r.two;have HT:=jJ (aI h' hk');clear h' hk' r)
 exact bodyPost_ret (v:=.agg #[.bool g',.slice a' n' c']) (by simp [results,results144,go_sem,c0,c1]) rfl ⟨_,_,_,_,rfl,HT.o.1.less (aA.pair _ _),(((aA.refl Nil w).alloc _).trans HT.o.2).own (bZ2 _) (aA.pair _ _)⟩
end
end Go.Proofs.Q
