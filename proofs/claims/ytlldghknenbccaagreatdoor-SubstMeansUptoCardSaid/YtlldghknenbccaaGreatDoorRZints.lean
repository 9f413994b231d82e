/- What package zint's functions do: numbers by their signs and limbs. -/
import Derived.Test.YtlldghknenbccaaGreatDoorRNats
import Derived.Deep.RegionHeld3
set_option linter.unusedSimpArgs false
set_option linter.unusedVariables false
set_option maxHeartbeats 1000000
namespace Go.Proofs.Q
open Go.RowKit Tryz
section
variable {l:List Nat} {M:Nat→Prop} {w w':World} {a:Option Addr} {g c:Nat}
def nI (M:Nat→Prop) (w:World) (z:Int) (e:Ending) (w':World):Prop:=∃g a n c,e=.returned (.agg #[.bool g,.slice a n c])∧ZN M w' g a n c z∧aA Nil w w'
theorem bAR (h:0<top l):nval l≠0:=by
 intro h0;have:=EL l;have hl:=dG l;rcases this with e|e
 ·rw [e] at hl;simp at hl;omega
 ·rw [hl] at e;have:=(SS.1 h0) (lim (trim l) (top l-1)) (by rw [jB zZ];exact aHB (List.getElem_mem _));exact e this
theorem aXO (h:top l=0):nval l=0:=by
 have e:trim l=[]:=fZ1 (by rw [dG,h]);rw [←dC,e];rfl
def With (M:Nat→Prop) (g:Nat):Nat→Prop:=fun b=>M b∨b=g
theorem MB.DU (h:MB M w) (o:Obj):MB (With M w.heap.size) (w.alloc o):=by
 intro b hb;rcases hb with hb|rfl
 ·have:=h b hb;simp;omega
 ·simp
theorem MB.with {M:Nat→Prop} {w:World} {g:Nat} (h:MB M w) (hg:g<w.heap.size):MB (With M g) w:=by
 intro b hb;rcases hb with hb|rfl
 ·exact h b hb
 ·exact hg
theorem aA.pair (u v:Value):aA (One g) w ((w.setCell ⟨g,0,none⟩ u).setCell ⟨g,1,none⟩ v):=((aA.refl (One g) w).set1 0 u).set1 1 v
theorem aU.less {n:Nat} (h:aU (With M g) w a n c l) (k:aA (One g) w w'):aU M w' a n c l:=
 h.move k (fun _ _ e=>.inr e) (fun _ _ e=>.inl e)
theorem ZN.less {M:Nat→Prop} {w w':World} {g:Nat} {s:Bool} {a:Option Addr} {n c:Nat} {z:Int} (h:ZN (With M g) w s a n c z) (k:aA (One g) w w'):ZN M w' s a n c z:=⟨h.1,h.2.less k⟩
theorem aA.own {w0:World} (h:aA Nil w0 w) (hg:w0.heap.size≤g) (k:aA (One g) w w'):aA Nil w0 w':=h.trans' k fun b e=>.inr (by have e':b=g:=e;omega)
theorem QB {g:Bool} (h:aU M w a (top l) c (trim l)) (hs:Small l):ZN M w (g&&decide (0<top l)) a (top l) c (ival (g,l)):=by
 refine ⟨?_,?_⟩
 ·rw [aWY];by_cases h0:0<top l
  ·have:=bAR h0;simp [h0,this]
  ·have:=aXO (l:=l) zZ;simp [h0,this]
 ·rw [JX];have:=mQ hs;rw [←this];exact h
end
theorem nL {M:Nat→Prop} {g:Bool} {a:Option Addr} {n c:Nat} {z:Int} {w:World} (hM:MB M w) (h:ZAt Nil w g a n c z) :
  Calls prog 92 #[.bool g,.slice a n c] w fun e w'=>nI M w z e w':=by
 obtain ⟨l,h,hr,rfl⟩:=h;have HH:=jJ h;have HM:=jJ hM;clear h hM;rcases Nat.eq_zero_or_pos (top l) with h0|h0
 ·go_enter func92,ntmps92
  cases g
  ·go_wp2_with (go_at_call 132;refine (KZ (M:=With M w.heap.size) (HM.o.DU _) (HH.o.eO kOf) hr).mono ?_;rintro e w' ⟨a',c',rfl,h',hk'⟩;have r:=(aF.alloc (w:=w) (E:=25) (xs:=[.bool false,.slice none 0 0])).keep hk' id;obtain ⟨c0,c1,f0,f1⟩:=r.two;have HT:=jJ (aI h' hk');clear h' hk' r)
   have hz:=QB (g:=false) HT.o.1 HH.o.lt;rw [show (false&&decide (0<top l))=false by simp] at hz;rw [h0] at hz;exact bodyPost_ret (v:=.agg #[.bool false,.slice a' 0 c']) vV rfl ⟨_,_,_,_,rfl,hz.less (aA.pair _ _),(((aA.refl Nil w).alloc _).trans HT.o.2).own (bZ2 _) (aA.pair _ _)⟩
  ·go_wp2_with (go_at_call 132;refine (KZ (M:=With M w.heap.size) (HM.o.DU _) (HH.o.eO kOf) hr).mono ?_;rintro e w' ⟨a',c',rfl,h',hk'⟩;have r:=(aF.alloc (w:=w) (E:=25) (xs:=[.bool false,.slice none 0 0])).keep hk' id;obtain ⟨c0,c1,f0,f1⟩:=r.two;have HT:=jJ (aI h' hk');clear h' hk' r)
   have hz:=QB (g:=true) HT.o.1 HH.o.lt;rw [show (true&&decide (0<top l))=false by simp;omega] at hz;rw [h0] at hz;exact bodyPost_ret (v:=.agg #[.bool false,.slice a' 0 c']) vV rfl ⟨_,_,_,_,rfl,hz.less (aA.pair _ _),(((aA.refl Nil w).alloc _).trans HT.o.2).own (bZ2 _) (aA.pair _ _)⟩
 ·go_enter func92,ntmps92
  cases g
  ·go_wp2_with (go_at_call 132;refine (KZ (M:=With M w.heap.size) (HM.o.DU _) (HH.o.eO kOf) hr).mono ?_;rintro e w' ⟨a',c',rfl,h',hk'⟩;have r:=(aF.alloc (w:=w) (E:=25) (xs:=[.bool false,.slice none 0 0])).keep hk' id;obtain ⟨c0,c1,f0,f1⟩:=r.two;have HT:=jJ (aI h' hk');clear h' hk' r)
   have hz:=QB (g:=false) HT.o.1 HH.o.lt;rw [show (false&&decide (0<top l))=false by simp] at hz;exact bodyPost_ret (v:=.agg #[.bool false,.slice a' (top l) c']) vV rfl ⟨_,_,_,_,rfl,hz.less (aA.pair _ _),(((aA.refl Nil w).alloc _).trans HT.o.2).own (bZ2 _) (aA.pair _ _)⟩
  ·go_wp2_with (go_at_call 132;refine (KZ (M:=With M w.heap.size) (HM.o.DU _) (HH.o.eO kOf) hr).mono ?_;rintro e w' ⟨a',c',rfl,h',hk'⟩;have r:=(aF.alloc (w:=w) (E:=25) (xs:=[.bool false,.slice none 0 0])).keep hk' id;obtain ⟨c0,c1,f0,f1⟩:=r.two;have HT:=jJ (aI h' hk');clear h' hk' r)
   have hz:=QB (g:=true) HT.o.1 HH.o.lt;rw [show (true&&decide (0<top l))=true by simp;omega] at hz;exact bodyPost_ret (v:=.agg #[.bool true,.slice a' (top l) c']) vV rfl ⟨_,_,_,_,rfl,hz.less (aA.pair _ _),(((aA.refl Nil w).alloc _).trans HT.o.2).own (bZ2 _) (aA.pair _ _)⟩
section
variable {a:Option Addr} {w:World} {g:Bool} {z:Int} {M:Nat→Prop} {n c:Nat}
theorem ZAt.ofN (h:ZAt Nil w g a n c z):ZAt Nil w (!g) a n c (-z):=by
 obtain ⟨l,h1,h2,rfl⟩:=h;refine ⟨l,h1,h2,?_⟩;cases g<;>simp [ival]
theorem ZAt.bCO (h:ZAt Nil w g a n c z):ZAt Nil w false a n c (z.natAbs:Int):=by
 obtain ⟨l,h1,h2,rfl⟩:=h;refine ⟨l,h1,h2,?_⟩;rw [JX];simp [ival]
theorem MB.WE (h:MB M w) (o o2:Obj):MB (With M (w.heap.size+1)) ((w.alloc o).alloc o2):=by
 have:=(h.keep ((aA.refl Nil w).alloc o)).DU o2;simpa using this
end
section
variable {a:Option Addr} {M:Nat→Prop} {w:World} {z:Int} {g:Bool} {c n:Nat}
theorem EX (hM:MB M w) (h:ZAt Nil w g a n c z) :
  Calls prog 91 #[.agg #[.bool g,.slice a n c]] w fun e w'=>nI M w z e w':=by
 have HH:=jJ h;have HM:=jJ hM;clear h hM;go_enter func91,ntmps91
 go_wp2_with (go_at_call 92;refine (nL (M:=With M (w.heap.size+1)) (HM.o.WE _ _) (HH.o.eO kOf)).mono ?_;rintro e w' ⟨g',a',n',c',rfl,h',hk'⟩;have r:=(aF.alloc (w:=w.alloc (.cells #[.bool g,.slice a n c] 25)) (E:=25) (xs:=[.bool false,.slice none 0 0])).keep hk' id;rw [show (w.alloc (.cells #[.bool g,.slice a n c] 25)).heap.size=w.heap.size+1 by simp] at r;obtain ⟨c0,c1,f0,f1⟩:=r.two;have HT:=jJ (aI h' hk');clear h' hk' r)
 exact bodyPost_ret (v:=.agg #[.bool g',.slice a' n' c']) (by simp [results,results91,go_sem,c0,c1]) rfl ⟨_,_,_,_,rfl,HT.o.1.less (aA.pair _ _),((((aA.refl Nil w).alloc _).alloc _).trans HT.o.2).own zZ (aA.pair _ _)⟩
theorem bBE (hM:MB M w) (h:ZAt Nil w g a n c z) :
  Calls prog 141 #[.agg #[.bool g,.slice a n c]] w fun e w'=>nI M w (-z) e w':=by
 have HH:=jJ h;have HM:=jJ hM;clear h hM;go_enter func141,ntmps141
 go_wp2_with (go_at_call 92;refine (nL (M:=With M (w.heap.size+1)) (HM.o.WE _ _) (HH.o.ofN.eO kOf)).mono ?_;rintro e w' ⟨g',a',n',c',rfl,h',hk'⟩;have r:=(aF.alloc (w:=w.alloc (.cells #[.bool g,.slice a n c] 25)) (E:=25) (xs:=[.bool false,.slice none 0 0])).keep hk' id;rw [show (w.alloc (.cells #[.bool g,.slice a n c] 25)).heap.size=w.heap.size+1 by simp] at r;obtain ⟨c0,c1,f0,f1⟩:=r.two;have HT:=jJ (aI h' hk');clear h' hk' r)
 exact bodyPost_ret (v:=.agg #[.bool g',.slice a' n' c']) (by simp [results,results141,go_sem,c0,c1]) rfl ⟨_,_,_,_,rfl,HT.o.1.less (aA.pair _ _),((((aA.refl Nil w).alloc _).alloc _).trans HT.o.2).own zZ (aA.pair _ _)⟩
theorem aJT (hM:MB M w) (h:ZAt Nil w g a n c z) :
  Calls prog 57 #[.agg #[.bool g,.slice a n c]] w fun e w'=>nI M w (z.natAbs:Int) e w':=by
 have HH:=jJ h;have HM:=jJ hM;clear h hM;go_enter func57,ntmps57
 go_wp2_with (go_at_call 92;refine (nL (M:=With M (w.heap.size+1)) (HM.o.WE _ _) (HH.o.bCO.eO kOf)).mono ?_;rintro e w' ⟨g',a',n',c',rfl,h',hk'⟩;have r:=(aF.alloc (w:=w.alloc (.cells #[.bool g,.slice a n c] 25)) (E:=25) (xs:=[.bool false,.slice none 0 0])).keep hk' id;rw [show (w.alloc (.cells #[.bool g,.slice a n c] 25)).heap.size=w.heap.size+1 by simp] at r;obtain ⟨c0,c1,f0,f1⟩:=r.two;have HT:=jJ (aI h' hk');clear h' hk' r)
 exact bodyPost_ret (v:=.agg #[.bool g',.slice a' n' c']) (by simp [results,results57,go_sem,c0,c1]) rfl ⟨_,_,_,_,rfl,HT.o.1.less (aA.pair _ _),((((aA.refl Nil w).alloc _).alloc _).trans HT.o.2).own zZ (aA.pair _ _)⟩
theorem aJA {m:Nat} (g:Bool) (h:aU Nil w a (eP m) c (bH m)) (hm:m<18446744073709551616):ZAt Nil w g a (eP m) c (if g=true then -(m:Int) else (m:Int)):=by
 refine ⟨_,h,?_,?_⟩
 ·have:eP m≤2:=dD uW;omega
 ·simp only [ival,cS]
theorem kZ (hM:MB M w) (h0:-9223372036854775808≤z) (h1:z≤9223372036854775807) :
  Calls prog 42 #[.int .i64 z] w fun e w'=>nI M w z e w':=by
 have HM:=jJ hM;clear hM;by_cases hz:z<0
 ·obtain ⟨m,rfl⟩:∃m:Nat,z=-(m:Int):=⟨z.natAbs,zZ⟩;have hm:m<18446744073709551616:=zZ;have hm2:0<m:=zZ;have e1:IntKind.u64.wrap (-IntKind.u64.wrap (-(m:Int)))=m:=by rw [IntKind.wrap_u64,IntKind.wrap_u64];omega
  have HMM:=jJ hm;clear hm;go_enter func42,ntmps42
  go_wp2_with (first|(go_at_call 93;refine (XU (M:=Nil) (MB.nil _) HMM.o).mono ?_;rintro e w1 ⟨a1,c1,rfl,h1,hk1⟩;have H1:=jJ (aI h1 hk1);clear h1 hk1)|(go_at_call 92;refine (nL (M:=With M w.heap.size) ((HM.o.DU _).keep H1.o.2) (aJA true H1.o.1 HMM.o)).mono ?_;rintro e w' ⟨g',a',n',c',rfl,h',hk'⟩;have r:=((aF.alloc (w:=w) (E:=25) (xs:=[.bool false,.slice none 0 0])).keep H1.o.2 id).keep hk' id;obtain ⟨c0,c1,f0,f1⟩:=r.two;have HT:=jJ (aI h' hk');clear h' hk' r))
  have hz':=HT.o.1;simp only [reduceIte] at hz';exact bodyPost_ret (v:=.agg #[.bool g',.slice a' n' c']) (by simp [results,results42,go_sem,c0,c1]) rfl ⟨_,_,_,_,rfl,hz'.less (aA.pair _ _),((((aA.refl Nil w).alloc _).trans H1.o.2).trans HT.o.2).own (bZ2 _) (aA.pair _ _)⟩
 ·obtain ⟨m,rfl⟩:∃m:Nat,z=(m:Int):=⟨z.natAbs,zZ⟩;have hm:m<18446744073709551616:=zZ;have HMM:=jJ hm;clear hm;go_enter func42,ntmps42
  go_wp2_with (first|(go_at_call 93;refine (XU (M:=Nil) (MB.nil _) HMM.o).mono ?_;rintro e w1 ⟨a1,c1,rfl,h1,hk1⟩;have H1:=jJ (aI h1 hk1);clear h1 hk1)|(go_at_call 92;refine (nL (M:=With M w.heap.size) ((HM.o.DU _).keep H1.o.2) (aJA false H1.o.1 HMM.o)).mono ?_;rintro e w' ⟨g',a',n',c',rfl,h',hk'⟩;have r:=((aF.alloc (w:=w) (E:=25) (xs:=[.bool false,.slice none 0 0])).keep H1.o.2 id).keep hk' id;obtain ⟨c0,c1,f0,f1⟩:=r.two;have HT:=jJ (aI h' hk');clear h' hk' r))
  have hz':=HT.o.1;simp only [reduceIte,Bool.false_eq_true] at hz';exact bodyPost_ret (v:=.agg #[.bool g',.slice a' n' c']) (by simp [results,results42,go_sem,c0,c1]) rfl ⟨_,_,_,_,rfl,hz'.less (aA.pair _ _),((((aA.refl Nil w).alloc _).trans H1.o.2).trans HT.o.2).own (bZ2 _) (aA.pair _ _)⟩
end
theorem aMW {l:List Nat} {k:Nat} (g:Bool) (h:lim l k≠0):(ival (g,l)).sign=if g=true then -1 else 1:=by
 have h0:nval l≠0:=by
  intro e;by_cases hk:k<l.length
  ·exact h (by rw [jB hk];exact SS.1 e _ (List.getElem_mem _))
  ·exact h (FK zZ)
 have h1:(0:Int)<(nval l:Int):=zZ;cases g
 ·simp only [ival,Bool.false_eq_true,reduceIte];exact Int.sign_eq_one_of_pos h1
 ·simp only [ival,reduceIte];exact Int.sign_eq_neg_one_of_neg zZ
theorem aLW {l:List Nat} (g:Bool) (h:∀j,j<l.length→lim l j=0):(ival (g,l)).sign=0:=by
 have h0:nval l=0:=by
  rw [SS];intro x hx;obtain ⟨i,hi,rfl⟩:=List.mem_iff_getElem.1 hx;rw [←jB hi];exact h i hi
 cases g<;>simp [ival,h0]
section
variable {a:Option Addr} {w:World} {g:Bool} {z:Int} {n c:Nat}
theorem WH (h:ZAt Nil w g a n c z) :
  Calls prog 55 #[.agg #[.bool g,.slice a n c]] w fun e w'=>e=.returned (.int .i64 z.sign)∧Lays w w':=by
 obtain ⟨l,h,hr,rfl⟩:=h;have HL:=jJ (h.eO ((aA.refl Nil w).alloc (.cells #[.bool g,.slice a n c] 25)));clear h;go_enter func55,ntmps55
 go_wp2
 go_loop [8] (fun i=>∃k:Nat,k≤n∧i=.int .i64 k∧∀j,j<k→lim l j=0) (fun i=>n-(intOf i).toNat)
 case atStart=>exact⟨0,aZ2 _,rfl,fun j hj=>zZ⟩
 case round=>
  obtain ⟨k,hk,rfl,hz⟩:=hrel;have HZ:=jJ hz;clear hz;by_cases hlt:k<n
  ·obtain ⟨b,off,rfl,hb,_,p0⟩:=HL.o.cell hlt;have hb':b<w.heap.size+1:=by simpa using hb
   by_cases h1:lim l k=0
   ·rw [h1] at p0;go_wp2
    go_round
    case rel=>exact⟨k+1,zZ,zF,fun j hj=>by rcases Nat.lt_succ_iff_lt_or_eq.1 hj with h|rfl;exact HZ.o j h;exact h1⟩
    case measure=>exact zI
   ·have hs:=aMW g h1;have HS:=jJ hs;clear hs;have h1':((lim l k:Int)==0)=false:=by simp;exact h1
    cases g
    ·exact oO
    ·exact oO
  ·have hs:=aLW g (l:=l) (fun j hj=>HZ.o j (by have:=HL.o.len;omega));have HS:=jJ hs;clear hs;go_wp2
   go_ret
   exact⟨by rw [HS.o];rfl,zN⟩
theorem kY (h:ZAt Nil w g a n c z) :
  Calls prog 55 #[.agg #[.bool g,.slice a n c]] w fun e w'=>e=.returned (.int .i64 z.sign)∧aA Nil w w':=
 (WH h).mono fun _ _ ⟨he,hl⟩=>⟨he,hl.1⟩
end
def fT (a b:Int):Int:=if a<b then -1 else if b<a then 1 else 0
theorem aYT {a b:Int} (ha:a<0) (hb:b<0):jK b.natAbs a.natAbs=fT a b:=pJ
theorem aZB {a b:Int} (ha:0≤a) (hb:0≤b):jK a.natAbs b.natAbs=fT a b:=pJ
theorem aCV (z:Int):(z.sign=-1∧z<0)∨(z.sign=0∧z=0)∨(z.sign=1∧0<z):=by
 rcases Int.lt_trichotomy z 0 with h|h|h
 ·exact .inl ⟨Int.sign_eq_neg_one_of_neg h,h⟩
 ·exact .inr (.inl ⟨by rw [h];rfl,h⟩)
 ·exact .inr (.inr ⟨Int.sign_eq_one_of_pos h,h⟩)
section
variable {a2 a:Option Addr} {w:World} {g2 g:Bool} {z2 z:Int}
theorem aXR {n c n2 c2:Nat} (h:ZAt Nil w g a n c z) (h2:ZAt Nil w g2 a2 n2 c2 z2) :
  Calls prog 61 #[.agg #[.bool g,.slice a n c],.agg #[.bool g2,.slice a2 n2 c2]] w fun e w'=>e=.returned (.int .i64 (fT z z2))∧Lays w w':=by
 have HA:=jJ h;have HB:=jJ h2;clear h h2;go_enter func61,ntmps61
 go_wp2_with fail
 have hl0:Lays w ((w.alloc (.cells #[.bool g,.slice a n c] 25)).alloc (.cells #[.bool g2,.slice a2 n2 c2] 25)):=zN;have hk0:=hl0.1;have r0:=(aF.alloc (w:=w) (E:=25) (xs:=[.bool g,.slice a n c])).keep ((aA.refl Nil _).alloc (.cells #[.bool g2,.slice a2 n2 c2] 25)) id;have r1:=aF.alloc (w:=w.alloc (.cells #[.bool g,.slice a n c] 25)) (E:=25) (xs:=[.bool g2,.slice a2 n2 c2]);rw [show (w.alloc (.cells #[.bool g,.slice a n c] 25)).heap.size=w.heap.size+1 by simp] at r1;change aF ((w.alloc (.cells #[.bool g,.slice a n c] 25)).alloc (.cells #[.bool g2,.slice a2 n2 c2] 25)) _ _ _ at r0 r1;generalize (w.alloc (.cells #[.bool g,.slice a n c] 25)).alloc (.cells #[.bool g2,.slice a2 n2 c2] 25)=w0 at *
 have H0:=jJ (aI3 hk0 r0 r1);have HL0:=jJ hl0;clear hl0;obtain ⟨c00,c01,_,_⟩:=r0.two;obtain ⟨c10,c11,_,_⟩:=r1.two;have b0:=r0.lt;have b1:=r1.lt;clear hk0 r0 r1;go_region_held3 (fun w'=>w'.cell? ⟨w.heap.size,0,none⟩=some (.bool g)∧w'.cell? ⟨w.heap.size,1,none⟩=some (.slice a n c)∧w'.cell? ⟨w.heap.size+1,0,none⟩=some (.bool g2)∧w'.cell? ⟨w.heap.size+1,1,none⟩=some (.slice a2 n2 c2)) (go_keep) (first|(go_at_call_of 55 (Value.agg #[.bool g,.slice a n c]);refine (WH ((HA.o.eO H0.o.1).eO kOf)).mono ?_;rintro e w1 ⟨rfl,hl1⟩;have hk1:=hl1.1;have d00:=hk1.eY b0 id c00;have d01:=hk1.eY b0 id c01;have d10:=hk1.eY b1 id c10;have d11:=hk1.eY b1 id c11)|(go_at_call_of 55 (Value.agg #[.bool g2,.slice a2 n2 c2]);refine (WH ((((HB.o.eO H0.o.1).eO kOf).eO hk1).eO kOf)).mono ?_;rintro e w2 ⟨rfl,hl2⟩;have hk2:=hl2.1;have e00:=hk2.eY (cZ1 b0 hk1.size) id d00;have e01:=hk2.eY (cZ1 b0 hk1.size) id d01;have e10:=hk2.eY (cZ1 b1 hk1.size) id d10;have e11:=hk2.eY (cZ1 b1 hk1.size) id d11))
 have HK:=jJ ((((HL0.o.trans zN).trans hl1).trans hl2:Lays w w2));clear hl1 hl2 hk1 hk2 d00 d01 d10 d11 c00 c01 c10 c11;rename_i hS;clear hS;have HSG:=jJ (aI (aCV z) (aCV z2));obtain ⟨l,hl,_,hlz⟩:=HA.o;obtain ⟨l2,hl2,_,hlz2⟩:=HB.o;have HL:=jJ (aI (hl.eO HK.o.1) (hl2.eO HK.o.1));have HV:=jJ (aI (show nval l=z.natAbs from hlz ▸ (JX (g,l)).symm) (show nval l2=z2.natAbs from hlz2 ▸ (JX (g2,l2)).symm));clear hl hl2 hlz hlz2;rcases HSG.o.1 with ⟨s1,u1⟩|⟨s1,u1⟩|⟨s1,u1⟩<;>rcases HSG.o.2 with ⟨s2,u2⟩|⟨s2,u2⟩|⟨s2,u2⟩<;>rw [s1,s2]
 ·have HU:=jJ (aI u1 u2);clear u1 u2 s1 s2;go_wp2_with (go_at_call 105;refine (XH HL.o.2 HL.o.1).mono ?_;rintro e w3 ⟨rfl,hk3⟩)
  go_ret
  exact⟨by rw [HV.o.1,HV.o.2,aYT HU.o.1 HU.o.2];rfl,HK.o.trans hk3⟩
 ·exact yX
 ·exact yX
 ·exact yW
 ·exact yB
 ·exact yX
 ·exact yW
 ·exact yW
 ·exact yB
theorem ER {n c n2 c2:Nat} (h:ZAt Nil w g a n c z) (h2:ZAt Nil w g2 a2 n2 c2 z2) :
  Calls prog 61 #[.agg #[.bool g,.slice a n c],.agg #[.bool g2,.slice a2 n2 c2]] w fun e w'=>e=.returned (.int .i64 (fT z z2))∧aA Nil w w':=
 (aXR h h2).mono fun _ _ ⟨he,hl⟩=>⟨he,hl.1⟩
end
theorem FE {w:World} {a:Option Addr} {m c:Nat} (g:Bool) (h:aU Nil w a (eP m) c (bH m)) (hm:eP m*4≤140737488355328):ZAt Nil w g a (eP m) c (if g=true then -(m:Int) else (m:Int)):=
 ⟨_,h,hm,by simp only [ival,cS]⟩
theorem aF.setOther {w:World} {g g':Nat} {E:TypeId} {xs:List Value} {o:Nat} {v:Value} (h:aF w g E xs) (hne:¬g=g'):aF (w.setCell ⟨g',o,none⟩ v) g E xs:=
 h.keep ((aA.refl (One g') w).set1 o v) hne
theorem aKL (w:World) (E:TypeId) (u v u2 v2:Value):aF ((w.alloc (.cells #[u,v] E)).alloc (.cells #[u2,v2] E)) w.heap.size E [u,v]∧aF ((w.alloc (.cells #[u,v] E)).alloc (.cells #[u2,v2] E)) (w.heap.size+1) E [u2,v2]∧aA Nil w ((w.alloc (.cells #[u,v] E)).alloc (.cells #[u2,v2] E)):=by
 refine ⟨(aF.alloc (w:=w) (E:=E) (xs:=[u,v])).keep ((aA.refl Nil _).alloc _) id,?_,((aA.refl Nil w).alloc _).alloc _⟩;have:=aF.alloc (w:=w.alloc (.cells #[u,v] E)) (E:=E) (xs:=[u2,v2]);simpa using this
theorem QY (w:World) (E:TypeId) (u v u2 v2 u3 v3:Value):aF (((w.alloc (.cells #[u,v] E)).alloc (.cells #[u2,v2] E)).alloc (.cells #[u3,v3] E)) w.heap.size E [u,v]∧aF (((w.alloc (.cells #[u,v] E)).alloc (.cells #[u2,v2] E)).alloc (.cells #[u3,v3] E)) (w.heap.size+1) E [u2,v2]∧aF (((w.alloc (.cells #[u,v] E)).alloc (.cells #[u2,v2] E)).alloc (.cells #[u3,v3] E)) (w.heap.size+1+1) E [u3,v3]∧aA Nil w (((w.alloc (.cells #[u,v] E)).alloc (.cells #[u2,v2] E)).alloc (.cells #[u3,v3] E)):=by
 obtain ⟨h1,h2,h3⟩:=aKL w E u v u2 v2;refine ⟨h1.keep ((aA.refl Nil _).alloc _) id,h2.keep ((aA.refl Nil _).alloc _) id,?_,h3.alloc _⟩;have:=aF.alloc (w:=(w.alloc (.cells #[u,v] E)).alloc (.cells #[u2,v2] E)) (E:=E) (xs:=[u3,v3]);simpa using this
theorem CP {M:Nat→Prop} {g g2:Bool} {a a2:Option Addr} {n c n2 c2:Nat} {z z2:Int} {w:World} (hM:MB M w) (h:ZAt Nil w g a n c z) (h2:ZAt Nil w g2 a2 n2 c2 z2) (hn:n*4+4≤140737488355328) (hn2:n2*4+4≤140737488355328) :
  Calls prog 86 #[.agg #[.bool g,.slice a n c],.agg #[.bool g2,.slice a2 n2 c2]] w fun e w'=>nI M w (z+z2) e w':=by
 obtain ⟨l,hl,_,hlz⟩:=h;obtain ⟨l2,hl2,_,hlz2⟩:=h2;have hfit:eP (nval l+nval l2)*4≤140737488355328:=by
  have e1:=WT (nval l) (nval l2);have e2:=iD hl.lt;have e3:=iD hl2.lt;rw [hl.len] at e2;rw [hl2.len] at e3;omega
 have hfit1:eP (nval l-nval l2)*4≤140737488355328:=by
  have e1:=lQ (Nat.sub_le (nval l) (nval l2));have e2:=iD hl.lt;rw [hl.len] at e2;omega
 have hfit2:eP (nval l2-nval l)*4≤140737488355328:=by
  have e1:=lQ (Nat.sub_le (nval l2) (nval l));have e2:=iD hl2.lt;rw [hl2.len] at e2;omega
 have HF:=jJ (aI3 hfit hfit1 hfit2);have HA:=jJ hl;have HB:=jJ hl2;have HM:=jJ hM;subst hlz hlz2;clear hl hl2 hM hfit hfit1 hfit2;have hrs:=QY w 25 (.bool g) (.slice a n c) (.bool g2) (.slice a2 n2 c2) (.bool false) (.slice none 0 0);have HRS:=jJ hrs;clear hrs;by_cases hg:g=g2
 ·subst hg;go_enter func86,ntmps86
  go_wp2_with fail
  obtain ⟨r0,r1,r2,hk0⟩:=HRS.o;clear HRS;generalize (((w.alloc (.cells #[.bool g,.slice a n c] 25)).alloc (.cells #[.bool g,.slice a2 n2 c2] 25)).alloc (.cells #[.bool false,.slice none 0 0] 25))=w0 at *
  obtain ⟨c00,c01,_,_⟩:=r0.two;obtain ⟨c10,c11,_,_⟩:=r1.two;obtain ⟨c20,c21,f20,f21⟩:=r2.two;have b0:=r0.lt;have b1:=r1.lt;have b2:=r2.lt;have H0:=jJ (aI hk0 r2);clear hk0 r0 r1 r2;have ne1:¬w.heap.size=w.heap.size+1+1:=zZ;have ne2:¬w.heap.size+1+1=w.heap.size:=zZ;go_region_held3 (fun w'=>w'.cell? ⟨w.heap.size,0,none⟩=some (.bool g)∧w'.cell? ⟨w.heap.size,1,none⟩=some (.slice a n c)∧w'.cell? ⟨w.heap.size+1,1,none⟩=some (.slice a2 n2 c2)) (go_keep) (first|(go_at_call 123;refine (bAI (M:=Nil) (MB.nil _) ((HA.o.eO H0.o.1).eO kOf) ((HB.o.eO H0.o.1).eO kOf) hn hn2).mono ?_;rintro e w1 ⟨a1,c1,rfl,h1,hk1⟩;have d00:=hk1.eY b0 id c00;have d01:=hk1.eY b0 id c01;have d11:=hk1.eY b1 id c11;have H1:=jJ h1;clear h1)|(go_at_call 92;refine (nL (M:=With M (w.heap.size+1+1)) ((((HM.o.keep H0.o.1).with b2).keep (M':=Nil) kOf).keep hk1) (FE g H1.o HF.o.1)).mono ?_;rintro e w2 ⟨g',a',n',c',rfl,h',hk2⟩;have e00:=hk2.eY (cZ1 b0 hk1.size) id d00;have e01:=hk2.eY (cZ1 b0 hk1.size) id d01;have e11:=hk2.eY (cZ1 b1 hk1.size) id d11;have r2':=aF.keep (aF.keep (aF.keep H0.o.2 (M:=Nil) kOf id) hk1 id) hk2 id;obtain ⟨c0,c1',f0,f1⟩:=r2'.two;have HT:=jJ h';clear h' r2'))
  go_wp2
  have hzz:=HT.o;rw [show (if g=true then -((nval l+nval l2:Nat):Int) else ((nval l+nval l2:Nat):Int))=ival (g,l)+ival (g,l2) by cases g<;>simp [ival]<;>omega] at hzz;exact bodyPost_ret (v:=.agg #[.bool g',.slice a' n' c']) uG rfl ⟨_,_,_,_,rfl,hzz.less (aA.pair _ _),(((H0.o.1.trans kOf).trans hk1).trans hk2).own zZ (aA.pair _ _)⟩
 ·have hgg:(g==g2)=false:=by simpa using hg
  have ne1:¬w.heap.size=w.heap.size+1+1:=zZ;have ne2:¬w.heap.size+1+1=w.heap.size:=zZ;by_cases hlt:nval l<nval l2
  ·have hle:nval l≤nval l2:=zZ;have HLE:=jJ hle;have HC:=jJ (QI hlt);clear hle;obtain ⟨r0,r1,r2,hk0⟩:=HRS.o;have H0:=jJ (aI4 hk0 r0 r1 r2);clear hk0 r0 r1 r2;go_enter func86,ntmps86
   go_wp2_with (first|(go_at_call 105;refine (LB (HA.o.eO H0.o.1) (HB.o.eO H0.o.1)).mono ?_;rintro e w1 ⟨rfl,hk1⟩;rw [HC.o];have q0:=H0.o.2.1.keep hk1 id;have q1:=H0.o.2.2.1.keep hk1 id;have q2:=H0.o.2.2.2.keep hk1 id;obtain ⟨d00,d01,e00,e01⟩:=q0.two;obtain ⟨d10,d11,e10,e11⟩:=q1.two;have HK1:=jJ (H0.o.1.trans hk1);have HR1:=jJ (aI3 q0 q1 q2);clear q0 q1 q2 hk1)|(go_at_call 124;refine (aJW (M:=Nil) (MB.nil _) (HB.o.eO wE) (HA.o.eO wE) zZ HLE.o).mono ?_;rintro e w3 ⟨a3,c3,rfl,h3,hk3⟩;have s0:=aF.keep (aF.setOther (aF.setOther (aF.set (aF.set HR1.o.1 0 (.bool g2)) 1 (.slice a2 n2 c2)) zZ) zZ) hk3 id;have s2:=aF.keep (aF.setOther (aF.setOther (aF.setOther (aF.setOther HR1.o.2.2 zZ) zZ) zZ) zZ) hk3 id;obtain ⟨x00,x01,_,_⟩:=s0.two;obtain ⟨x20,x21,y20,y21⟩:=s2.two;have HK3:=jJ ((show aA Nil w _ from wE).trans hk3);have H3:=jJ (aI h3 s2);have l3:=s2.lt;clear h3 hk3 s0 s2)|(go_at_call 92;refine (nL (M:=With M (w.heap.size+1+1)) ((HM.o.keep HK3.o).with l3) (FE g2 H3.o.1 HF.o.2.2)).mono ?_;rintro e w4 ⟨g',a',n',c',rfl,h',hk4⟩;have s2:=H3.o.2.keep hk4 id;obtain ⟨c0,c1',f0,f1⟩:=s2.two;have HT:=jJ (aI h' hk4);clear h' hk4 s2))
   have hzz:=HT.o.1;rw [show (if g2=true then -((nval l2-nval l:Nat):Int) else ((nval l2-nval l:Nat):Int))=ival (g,l)+ival (g2,l2) by cases g<;>cases g2<;>simp [ival] at hg⊢<;>omega] at hzz;exact bodyPost_ret (v:=.agg #[.bool g',.slice a' n' c']) uG rfl ⟨_,_,_,_,rfl,hzz.less (aA.pair _ _),(HK3.o.trans HT.o.2).own zZ (aA.pair _ _)⟩
  ·have hle:nval l2≤nval l:=zZ;have HLE:=jJ hle;have hcm:¬jK (nval l) (nval l2)<0:=vJ;clear hle;obtain ⟨r0,r1,r2,hk0⟩:=HRS.o;have H0:=jJ (aI4 hk0 r0 r1 r2);clear hk0 r0 r1 r2;go_enter func86,ntmps86
   go_wp2_with (first|(go_at_call 105;refine (LB (HA.o.eO H0.o.1) (HB.o.eO H0.o.1)).mono ?_;rintro e w1 ⟨rfl,hk1⟩;have q0:=H0.o.2.1.keep hk1 id;have q1:=H0.o.2.2.1.keep hk1 id;have q2:=H0.o.2.2.2.keep hk1 id;obtain ⟨d00,d01,e00,e01⟩:=q0.two;obtain ⟨d10,d11,e10,e11⟩:=q1.two;have HK1:=jJ (H0.o.1.trans hk1);have HR1:=jJ (aI3 q0 q1 q2);clear q0 q1 q2 hk1)|(go_at_call 124;refine (aJW (M:=Nil) (MB.nil _) (HA.o.eO HK1.o) (HB.o.eO HK1.o) zZ HLE.o).mono ?_;rintro e w3 ⟨a3,c3,rfl,h3,hk3⟩;have s0:=HR1.o.1.keep hk3 id;have s2:=HR1.o.2.2.keep hk3 id;obtain ⟨x00,x01,_,_⟩:=s0.two;obtain ⟨x20,x21,y20,y21⟩:=s2.two;have HK3:=jJ (HK1.o.trans hk3);have H3:=jJ (aI h3 s2);have l3:=s2.lt;clear h3 hk3 s0 s2)|(go_at_call 92;refine (nL (M:=With M (w.heap.size+1+1)) ((HM.o.keep HK3.o).with l3) (FE g H3.o.1 HF.o.2.1)).mono ?_;rintro e w4 ⟨g',a',n',c',rfl,h',hk4⟩;have s2:=H3.o.2.keep hk4 id;obtain ⟨c0,c1',f0,f1⟩:=s2.two;have HT:=jJ (aI h' hk4);clear h' hk4 s2))
   have hzz:=HT.o.1;rw [show (if g=true then -((nval l-nval l2:Nat):Int) else ((nval l-nval l2:Nat):Int))=ival (g,l)+ival (g2,l2) by cases g<;>cases g2<;>simp [ival] at hg⊢<;>omega] at hzz;exact bodyPost_ret (v:=.agg #[.bool g',.slice a' n' c']) uG rfl ⟨_,_,_,_,rfl,hzz.less (aA.pair _ _),(HK3.o.trans HT.o.2).own zZ (aA.pair _ _)⟩
theorem ZN.len {M:Nat→Prop} {w:World} {g:Bool} {a:Option Addr} {n c:Nat} {z:Int} (h:ZN M w g a n c z):n=eP z.natAbs:=h.2.len.symm
theorem ZAt.iD {M:Nat→Prop} {w:World} {g:Bool} {a:Option Addr} {n c:Nat} {z:Int} (h:ZAt M w g a n c z):eP z.natAbs≤n:=by
 obtain ⟨l,h1,h2,rfl⟩:=h;rw [JX,←h1.len];exact Go.Proofs.Q.iD h1.lt
theorem ZN.at' {M:Nat→Prop} {w:World} {g:Bool} {a:Option Addr} {n c:Nat} {z:Int} (h:ZN M w g a n c z) (hf:n*4≤140737488355328):ZAt M w g a n c z:=
 ⟨_,h.2,hf,by rw [h.1];exact aEV z⟩
theorem ZAt.gK {M:Nat→Prop} {w:World} {g:Bool} {a:Option Addr} {n c:Nat} {z:Int} (h:ZAt M w g a n c z):ZAt Nil w g a n c z:=h.elim fun l ⟨q1,q2⟩=>⟨l,q1.gK,q2⟩
theorem aGX {M:Nat→Prop} {g g2:Bool} {a a2:Option Addr} {n c n2 c2:Nat} {z z2:Int} {w:World} (hM:MB M w) (h:ZAt Nil w g a n c z) (h2:ZAt Nil w g2 a2 n2 c2 z2) (hn:n*4+4≤140737488355328) (hn2:n2*4+4≤140737488355328) :
  Calls prog 101 #[.agg #[.bool g,.slice a n c],.agg #[.bool g2,.slice a2 n2 c2]] w fun e w'=>nI M w (z-z2) e w':=by
 have hl2:=h2.iD;have HA:=jJ h;have HB:=jJ h2;have HM:=jJ hM;have HN:=jJ (aI hn (show eP (-z2).natAbs*4+4≤140737488355328 by rw [Int.natAbs_neg];omega));have HRS:=jJ (QY w 25 (.bool g) (.slice a n c) (.bool g2) (.slice a2 n2 c2) (.bool false) (.slice none 0 0));clear h h2 hM hn hn2 hl2;go_enter func101,ntmps101
 go_wp2_with fail
 obtain ⟨r0,r1,r2,hk0⟩:=HRS.o;clear HRS;generalize (((w.alloc (.cells #[.bool g,.slice a n c] 25)).alloc (.cells #[.bool g2,.slice a2 n2 c2] 25)).alloc (.cells #[.bool false,.slice none 0 0] 25))=w0 at *
 obtain ⟨c00,c01,_,_⟩:=r0.two;obtain ⟨c10,c11,_,_⟩:=r1.two;obtain ⟨c20,c21,f20,f21⟩:=r2.two;have b0:=r0.lt;have b1:=r1.lt;have b2:=r2.lt;have H0:=jJ (aI hk0 r2);clear hk0 r0 r1 r2;have ne1:¬w.heap.size=w.heap.size+1+1:=zZ;have ne2:¬w.heap.size+1+1=w.heap.size:=zZ;go_region_held3 (fun w'=>w'.cell? ⟨w.heap.size,0,none⟩=some (.bool g)∧w'.cell? ⟨w.heap.size,1,none⟩=some (.slice a n c)∧w'.cell? ⟨w.heap.size+1,0,none⟩=some (.bool g2)∧w'.cell? ⟨w.heap.size+1,1,none⟩=some (.slice a2 n2 c2)) (go_keep) (first|(go_at_call 141;refine (bBE (M:=Nil) (MB.nil _) ((HB.o.eO H0.o.1).eO kOf)).mono ?_;rintro e w1 ⟨g1,a1,n1,c1,rfl,h1,hk1⟩;have d00:=hk1.eY b0 id c00;have d01:=hk1.eY b0 id c01;have d10:=hk1.eY b1 id c10;have d11:=hk1.eY b1 id c11;have H1:=jJ (aI h1 h1.len);clear h1)|(go_at_call 86;refine (CP (M:=With M (w.heap.size+1+1)) ((((HM.o.keep H0.o.1).with b2).keep (M':=Nil) kOf).keep hk1) ((((HA.o.eO H0.o.1).eO kOf).eO hk1).eO kOf) ((H1.o.1.at' (by rw [H1.o.2];have:=HN.o.2;omega)).eO kOf) HN.o.1 (by rw [H1.o.2];exact HN.o.2)).mono ?_;rintro e w2 ⟨g',a',n',c',rfl,h',hk2⟩;have e00:=hk2.eY (cZ1 b0 hk1.size) id d00;have e01:=hk2.eY (cZ1 b0 hk1.size) id d01;have e10:=hk2.eY (cZ1 b1 hk1.size) id d10;have e11:=hk2.eY (cZ1 b1 hk1.size) id d11;have r2':=aF.keep (aF.keep (aF.keep (aF.keep H0.o.2 (M:=Nil) kOf id) hk1 id) (M:=Nil) kOf id) hk2 id;obtain ⟨c0,c1',f0,f1⟩:=r2'.two;have HT:=jJ h';clear h' r2'))
 go_wp2
 have hzz:=HT.o;rw [show z+-z2=z-z2 by omega] at hzz;exact bodyPost_ret (v:=.agg #[.bool g',.slice a' n' c']) (by simp [results,results101,go_sem,c0,c1']) rfl ⟨_,_,_,_,rfl,hzz.less (aA.pair _ _),((((H0.o.1.trans kOf).trans hk1).trans kOf).trans hk2).own zZ (aA.pair _ _)⟩
section
variable {a:Option Addr} {z z2:Int} {g s:Bool} {n c:Nat} {E:TypeId} {xs:List Value} {w0:World} {u v:Value}
def Box (M:Nat→Prop) (b k:Nat):Nat→Prop:=fun x=>M x∨(b≤x∧x<b+k)
theorem MB.box {M:Nat→Prop} {w w':World} {b k:Nat} (h:MB M w) (hk:aA Nil w w') (hb:b+k≤w'.heap.size):MB (Box M b k) w':=by
 intro x hx;rcases hx with hx|⟨_,hx⟩
 ·exact cZ1 (h x hx) hk.size
 ·omega
theorem Box.le {M:Nat→Prop} {b k x:Nat} (h:Box Nil b k x):Box M b k x:=h.elim (fun h=>h.elim) .inr
section
variable {M:Nat→Prop} {w w':World} {b k:Nat}
theorem ZN.step (h:ZN (Box M b k) w g a n c z) (s:aA (Box Nil b k) w w'):ZN (Box M b k) w' g a n c z:=h.move s (fun _ _=>Box.le) fun _ _=>id
theorem ZN.unbox (h:ZN (Box M b k) w g a n c z):ZN M w g a n c z:=⟨h.1,h.2.turn fun _ _=>.inl⟩
theorem ZN.gK (h:ZN M w g a n c z):ZN Nil w g a n c z:=⟨h.1,h.2.turn fun _ _ h=>h.elim⟩
theorem aA.FB (w:World) {g:Nat} (hg:b≤g∧g<b+k) (u v:Value):aA (Box Nil b k) w ((w.setCell ⟨g,0,none⟩ u).setCell ⟨g,1,none⟩ v):=
 (aA.pair u v).mono fun x hx=>by cases (show x=g from hx);exact .inr hg
theorem aF.pair {g:Nat} {u' v':Value} (h:aF w g E [u,v]):aF ((w.setCell ⟨g,0,none⟩ u').setCell ⟨g,1,none⟩ v') g E [u',v']:=(h.set 0 u').set 1 v'
theorem aF.BH {g g':Nat} (h:aF w g E xs) (hne:¬g=g'):aF ((w.setCell ⟨g',0,none⟩ u).setCell ⟨g',1,none⟩ v) g E xs:=(h.setOther hne).setOther hne
theorem aA.boxed (h:aA Nil w0 w) (hb:w0.heap.size≤b) (s:aA (Box Nil b k) w w'):aA Nil w0 w':=
 h.trans' s fun x hx=>by
  rcases hx with hx|hx
  ·exact hx.elim
  ·exact .inr zZ
end
theorem bCF (w:World) (E:TypeId) (u v u2 v2 u3 v3 u4 v4:Value):aF ((((w.alloc (.cells #[u,v] E)).alloc (.cells #[u2,v2] E)).alloc (.cells #[u3,v3] E)).alloc (.cells #[u4,v4] E)) w.heap.size E [u,v]∧aF ((((w.alloc (.cells #[u,v] E)).alloc (.cells #[u2,v2] E)).alloc (.cells #[u3,v3] E)).alloc (.cells #[u4,v4] E)) (w.heap.size+1) E [u2,v2]∧aF ((((w.alloc (.cells #[u,v] E)).alloc (.cells #[u2,v2] E)).alloc (.cells #[u3,v3] E)).alloc (.cells #[u4,v4] E)) (w.heap.size+1+1) E [u3,v3] ∧
  aF ((((w.alloc (.cells #[u,v] E)).alloc (.cells #[u2,v2] E)).alloc (.cells #[u3,v3] E)).alloc (.cells #[u4,v4] E)) (w.heap.size+1+1+1) E [u4,v4]∧aA Nil w ((((w.alloc (.cells #[u,v] E)).alloc (.cells #[u2,v2] E)).alloc (.cells #[u3,v3] E)).alloc (.cells #[u4,v4] E)):=by
 obtain ⟨h1,h2,h3,h4⟩:=QY w E u v u2 v2 u3 v3;refine ⟨h1.keep ((aA.refl Nil _).alloc _) id,h2.keep ((aA.refl Nil _).alloc _) id,h3.keep ((aA.refl Nil _).alloc _) id,?_,h4.alloc _⟩;have:=aF.alloc (w:=((w.alloc (.cells #[u,v] E)).alloc (.cells #[u2,v2] E)).alloc (.cells #[u3,v3] E)) (E:=E) (xs:=[u4,v4]);simpa using this
def BU (z z2:Int):Int:=if (neg z != neg z2)=true then -((z.natAbs / z2.natAbs:Nat):Int) else ((z.natAbs / z2.natAbs:Nat):Int)
def gI (z z2:Int):Int:=if neg z=true then -((z.natAbs % z2.natAbs:Nat):Int) else ((z.natAbs % z2.natAbs:Nat):Int)
theorem aIL {q r:Int} (h2:z2≠0) (he:r+z2*q=z) (hr:(0<z2→0≤r∧r<z2)∧(z2<0→z2<r∧r≤0)):q=z.fdiv z2∧r=z.fmod z2:=by
 rcases Int.lt_or_gt_of_ne h2 with h|h
 ·have:=(Int.fdiv_fmod_unique' h).2 ⟨he,hr.2 h⟩;exact⟨this.1.symm,this.2.symm⟩
 ·have:=(Int.fdiv_fmod_unique h).2 ⟨he,hr.1 h⟩;exact⟨this.1.symm,this.2.symm⟩
theorem aIM (z z2:Int):gI z z2+z2*BU z z2=z:=by
 have hd:=Nat.div_add_mod z.natAbs z2.natAbs;have hm:(z2.natAbs:Int)*((z.natAbs / z2.natAbs:Nat):Int)+((z.natAbs % z2.natAbs:Nat):Int)=(z.natAbs:Int):=by
  rw [←Int.natCast_mul,←Int.natCast_add,hd]
 unfold gI BU neg;generalize ((z.natAbs / z2.natAbs:Nat):Int)=x at *
 generalize ((z.natAbs % z2.natAbs:Nat):Int)=y at *
 clear hd;by_cases h1:z<0<;>by_cases h2:z2<0
 ·have e:z2=-(z2.natAbs:Int):=zZ;simp only [h1,h2,decide_true,bne_self_eq_false,Bool.false_eq_true,reduceIte];rw [e,Int.neg_mul];omega
 ·have e:z2=(z2.natAbs:Int):=zZ;simp only [h1,h2,decide_true,decide_false,Bool.bne_false,reduceIte,Int.mul_neg];rw [e];omega
 ·have e:z2=-(z2.natAbs:Int):=zZ;simp only [h1,h2,decide_true,decide_false,Bool.bne_true,Bool.not_false,Bool.false_eq_true,reduceIte,Int.mul_neg];rw [e,Int.neg_mul];omega
 ·have e:z2=(z2.natAbs:Int):=zZ;simp only [h1,h2,decide_false,bne_self_eq_false,Bool.false_eq_true,reduceIte];rw [e];omega
theorem aIT (h2:z2≠0):(gI z z2).natAbs<z2.natAbs:=by
 have:=Nat.mod_lt z.natAbs (show 0<z2.natAbs by omega);unfold gI;split<;>omega
theorem aRK (h2:z2≠0) (h:gI z z2=0∨neg (gI z z2)=neg z2):BU z z2=z.fdiv z2∧gI z z2=z.fmod z2:=by
 refine aIL h2 (aIM z z2) ?_;have h3:=aIT (z:=z) h2;generalize gI z z2=r at *
 unfold neg at h;rcases h with h|h
 ·omega
 ·have h':r<0↔z2<0:=by rw [decide_eq_decide] at h;exact h
  omega
theorem aRD (h2:z2≠0) (h0:gI z z2≠0) (h:¬neg (gI z z2)=neg z2):BU z z2-1=z.fdiv z2∧gI z z2+z2=z.fmod z2:=by
 refine aIL h2 (by have:=aIM z z2;rw [Int.mul_sub,Int.mul_one];omega) ?_;have h3:=aIT (z:=z) h2;generalize gI z z2=r at *
 unfold neg at h;have h':¬(r<0↔z2<0):=by rw [decide_eq_decide] at h;exact h
 omega
theorem aYP (z z2:Int):(BU z z2).natAbs=z.natAbs / z2.natAbs:=by unfold BU;split<;>simp only [Int.natAbs_neg,Int.natAbs_natCast]
theorem aXS (z z2:Int):(gI z z2).natAbs=z.natAbs % z2.natAbs:=by unfold gI;split<;>simp only [Int.natAbs_neg,Int.natAbs_natCast]
theorem ZN.zero {M:Nat→Prop} {w:World}:ZN M w false none 0 0 0:=⟨rfl,by rw [show (0:Int).natAbs=0 from rfl,bT];exact⟨rfl,Sl.nil _ _ _ _,zW⟩⟩
theorem FC {M:Nat→Prop} {w:World} (h:ZN M w s a n c z) (hz:eP z.natAbs*4+4≤140737488355328):n*4+4≤140737488355328:=by rw [h.len];exact hz
theorem ZN.zat {M:Nat→Prop} {w:World} (h:ZN M w s a n c z) (hz:eP z.natAbs*4+4≤140737488355328):ZAt Nil w s a n c z:=(h.at' (by have:=FC h hz;omega)).gK
theorem aTP (z z2:Int):eP (BU z z2).natAbs≤eP z.natAbs:=by rw [aYP];exact lQ (Nat.div_le_self _ _)
theorem aUU (z z2:Int):eP (gI z z2).natAbs≤eP z.natAbs:=by rw [aXS];exact lQ (Nat.mod_le _ _)
theorem nQ:eP (1:Int).natAbs*4+4≤140737488355328:=by
 have:eP (1:Int).natAbs≤1:=dD zY;omega
end
end Go.Proofs.Q
