/- What term's Var, Scale, Vars and Order do. -/
import Derived.Test.YtgeklmkfjkenlaaGreatDoorNTermsB
set_option linter.unusedSimpArgs false
set_option linter.unusedVariables false
set_option maxRecDepth 100000
set_option maxHeartbeats 2000000
namespace Go.Proofs.Q
open Go.RowKit Tryz
theorem length_ins_le (x:Int):∀l:List Int,(ins x l).length≤l.length+1
 | []=>by simp [ins]
 | y::l=>by
  unfold ins;split
  ·simp
  ·split
   ·simp
   ·have:=length_ins_le x l;simp only [gZ1];omega
def cmpL:aM→aM→Int
 | [],[]=>0
 | [],_::_=>-1
 | _::_,[]=>1
 | p::a,q::b=>if p.1<q.1 then -1 else if q.1<p.1 then 1 else if cmpZ p.2 q.2≠0 then cmpZ p.2 q.2 else cmpL a b
def cmpT (a b:aY):Int:=if cmpL a.parts b.parts≠0 then cmpL a.parts b.parts else cmpZ a.k b.k
def cmpP (p q:Int × Int):Int:=if p.1<q.1 then -1 else if q.1<p.1 then 1 else cmpZ p.2 q.2
theorem cmpL_cons (p q:Int × Int) (a b:aM):cmpL (p::a) (q::b)=if cmpP p q≠0 then cmpP p q else cmpL a b:=by
 unfold cmpP;simp only [cmpL];split
 ·simp
 ·split
  ·simp
  ·rfl
theorem alloc_news1 (w:World) (o:Obj) (cs:List Value) (E:TypeId):∀j u,[cs].flatten[j]?=some u→((w.alloc o).alloc (.cells cs.toArray E)).cell? ((⟨w.heap.size+1,0,none⟩:Addr).add j)=some u:=by
 have h:=alloc_news (w.alloc o) cs E;simpa using h
def aO (zs:List Int):List (List Value):=zs.map fun z=>[.int .i64 z]
theorem aH (zs:List Int):(aO zs).length=zs.length:=by simp [aO]
theorem cells1_snoc (zs:List Int) (z:Int):aO (zs++[z])=aO zs++[[.int .i64 z]]:=by simp [aO]
def NumsV (E:TypeId) (B:Nat) (zs:List Int):Value→World→Prop:=fun v w=>∃(va:Option Addr) (vc:Nat),v=.slice va zs.length vc∧aL w B E 1 (.slice va zs.length vc) (aO zs)
instance {E:TypeId} {B:Nat} {zs:List Int}:Stable (NumsV E B zs):=⟨fun _ _ _ k ⟨va,vc,e,h⟩=>⟨va,vc,e,h.keepNil k⟩⟩
section
variable {w:World} {M1 M2 M:Nat→Prop} {l l2:aM} {aa ap:Option Addr} {ga:Bool} {z v:Int} {na ca np cp k:Nat}
theorem info_int:(prog.info? 3).map (fun i=>(i.zero,i.size,i.bytes))=some (some (.int .i64 0),1,8):=by kernel_rfl
theorem tvar_any (hM:MB M w) (hv:I64' v) :
  Calls prog 45 #[.int .i64 v] w fun e w'=>Gives Nil (TV M ⟨[(v,1)],0⟩) w e w':=by
 have HM:=jJ hM;have HV:=jJ hv;clear hM hv;go_enter func45,ntmps45
 go_upto_region 1 with (fail)
 have r0:=aC.alloc (w:=w) (E:=43) (xs:=[.slice none 0 0,.bool false,.slice none 0 0]);change aC (w.alloc (.cells #[.slice none 0 0,.bool false,.slice none 0 0] 43)) _ _ _ at r0;have k0:aA Nil w (w.alloc (.cells #[.slice none 0 0,.bool false,.slice none 0 0] 43)):=kOf;generalize w.alloc (.cells #[.slice none 0 0,.bool false,.slice none 0 0] 43)=w0 at *
 have lr:=r0.lt;have H0:=jJ (aI k0 r0);clear k0 r0;go_wp2_with (go_at_call 61;refine (zof_any (M:=Old w0) (MB.old w0) (by omega) (by omega)).mono ?_;rintro e w1 ⟨g,a,n,c,rfl,h1,hk1⟩;have r1:=(H0.o.2.keep hk1 id).keep (M:=Nil) (w':=w1.alloc (.cells #[.int .i64 v,.bool g,.slice a n c] 117)) kOf id;obtain ⟨z0,z1,z2⟩:=r1.three;obtain ⟨z3,z4,z5⟩:=r1.marks3;have ll:=Live.of r1.lt;have H1:=jJ (aI3 h1 hk1 r1);clear h1 hk1 r1)
 have r6:=H1.o.2.2.triple (.slice (some ⟨w1.heap.size,0,none⟩) 1 1) (.bool false) (.slice none 0 0);obtain ⟨y0,y1,y2⟩:=r6.three;have kal:aA Nil w1 (w1.alloc (.cells #[.int .i64 v,.bool g,.slice a n c] 117)):=kOf;have ks:=aA.triple (w:=w1.alloc (.cells #[.int .i64 v,.bool g,.slice a n c] 117)) (g:=w.heap.size) (.slice (some ⟨w1.heap.size,0,none⟩) 1 1) (.bool false) (.slice none 0 0);have hs1:=H1.o.2.1.size;have hrow:=(aC.alloc (w:=w1) (E:=117) (xs:=[.int .i64 v,.bool g,.slice a n c])).keep (w':=_) ks (by show ¬_=_;omega);refine bodyPost_ret (v:=.agg #[.slice (some ⟨w1.heap.size,0,none⟩) 1 1,.bool false,.slice none 0 0]) (by simp [results,results45,go_sem,y0,y1,y2]) rfl ⟨_,rfl,⟨_,_,_,_,_,_,_,rfl,?_,?_⟩,?_⟩
 ·refine SlOf.ofRow (els:=[[.int .i64 v,.bool g,.slice a n c]]) (by simpa using hrow) (by simp) (fun hm=>by have:=HM.o _ hm;have:=H0.o.1.size;omega) (by simp) rfl fun i hi=>?_;obtain rfl:i=0:=by simpa using hi
  exact⟨g,a,n,c,rfl,(H1.o.1.keepNil kal).move ks (fun b _ (hm:b=w.heap.size)=>by rw [hm];exact lr) (fun b _ hm=>by show b<w0.heap.size;have:=HM.o b hm;have:=H0.o.1.size;omega),HV.o.1,HV.o.2⟩
 ·exact zn_zero _ _
 ·exact ((H0.o.1.trans H1.o.2.1).trans kal).own (bZ2 _) ks
theorem tscale_any {gk:Bool} {ak:Option Addr} {nk ck:Nat} {x:Int} (hM:MB M w) (hk:ZAt Nil w gk ak nk ck x) (ha:bU M1 M2 w ap np cp l) (hz:ZAt Nil w ga aa na ca z) (h1:nk≤1073741824) (h3:na≤1073741824) (h5:np≤16777216) :
  Calls prog 76 #[.agg #[.bool gk,.slice ak nk ck],.agg #[.slice ap np cp,.bool ga,.slice aa na ca]] w fun e w'=>Gives Nil (TV M (sumT x ⟨l,z⟩ 0 ⟨[],0⟩)) w e w':=by
 have HM:=jJ hM;have HA:=jJ (aI6 hk ha hz h1 h3 h5);clear hM hk ha hz h1 h3 h5;go_enter func76,ntmps76
 go_upto_region 1 with (fail)
 obtain ⟨w0,e_1,k0,r0,r1,r2⟩:=bx3 w 41 [.bool gk,.slice ak nk ck] 43 [.slice ap np cp,.bool ga,.slice aa na ca] 43 [.slice none 0 0,.bool false,.slice none 0 0];rw [e_1];clear e_1;obtain ⟨c0,c1,-,-⟩:=r0.two;obtain ⟨d0,d1,d2⟩:=r1.three;have lr:=r2.lt;have H0:=jJ (aI k0 r2);clear k0 r0 r1 r2;go_wp2_with (go_at_call 115;refine (sum_any (M:=Old w0) (M3:=Nil) (M4:=Nil) (lb:=[]) (y:=0) (zb:=0) (MB.old w0) (HA.o.1.keepNil H0.o.1) (zat_zero _) (HA.o.2.1.keepNil H0.o.1) SlOf.nil (HA.o.2.2.1.keepNil H0.o.1) (zat_zero _) HA.o.2.2.2.1 (by omega) HA.o.r4.1 (by omega) HA.o.r5 (by omega)).mono ?_;rintro e w1 ⟨v,rfl,⟨bp,mp,dp,gb,ab,nb,cb,rfl,ht⟩,hk1⟩;have r1:=H0.o.2.keep hk1 id;obtain ⟨z0,z1,z2⟩:=r1.three;obtain ⟨z3,z4,z5⟩:=r1.marks3;have H1:=jJ (aI3 ht hk1 r1);clear ht hk1 r1)
 have r6:=H1.o.2.2.triple (.slice bp mp dp) (.bool gb) (.slice ab nb cb);obtain ⟨y0,y1,y2⟩:=r6.three;exact bodyPost_ret (v:=.agg #[.slice bp mp dp,.bool gb,.slice ab nb cb]) (by simp [results,results76,go_sem,y0,y1,y2]) rfl ⟨_,rfl,⟨_,_,_,_,_,_,_,rfl,H1.o.1.out lr (fun b hb=>by have:=HM.o b hb;omega) (aA.triple _ _ _)⟩,(H0.o.1.trans H1.o.2.1).own (by omega) (aA.triple _ _ _)⟩
theorem field_T0 (w:World) (a:Option Addr) (n c:Nat) (g:Bool) (a2:Option Addr) (n2 c2:Nat):(Instr.field 43 (.agg #[.slice a n c,.bool g,.slice a2 n2 c2]) 0).run prog w=.ok (.slice a n c) w:=by kernel_rfl
theorem tvars_any (ha:bU M1 M2 w ap np cp l) (hz:ZAt Nil w ga aa na ca z) (h3:na≤1073741824) (h5:np≤16777216) :
  Calls prog 43 #[.agg #[.slice ap np cp,.bool ga,.slice aa na ca]] w fun e w'=>Gives Nil (NumsV 3 w.heap.size ((neatL l).map (·.1))) w e w':=by
 obtain ⟨i1,hi1⟩:=info_parts info_int;have HI:=jJ hi1;have hln:=SlOf.len ha;have HA:=jJ (aI5 ha hz h3 h5 hln);have hql:(neatL l).length≤l.length:=by
  unfold neatL;refine bZ1 (List.length_filterMap_le _ _) ?_;have:∀vs:List Int,(vs.foldr ins []).length≤vs.length:=fun vs=>by
   induction vs with
   | nil=>simp
   | cons v vs ih=>rw [List.foldr_cons];exact bZ1 (length_ins_le _ _) (by simpa using ih)
  simpa using this (l.map (·.1))
 have HQ:=jJ hql;clear ha hz hi1 hln hql;go_enter func43,ntmps43
 go_upto_region 1 with (fail)
 have r0:=aC.alloc (w:=w) (E:=43) (xs:=[.slice ap np cp,.bool ga,.slice aa na ca]);change aC (w.alloc (.cells #[.slice ap np cp,.bool ga,.slice aa na ca] 43)) _ _ _ at r0;have k0:aA Nil w (w.alloc (.cells #[.slice ap np cp,.bool ga,.slice aa na ca] 43)):=kOf;generalize w.alloc (.cells #[.slice ap np cp,.bool ga,.slice aa na ca] 43)=w0 at *
 obtain ⟨d0,d1,d2⟩:=r0.three;have H0:=jJ k0;clear k0 r0;generalize hq:neatL l=q at *
 have HQE:=jJ hq;have hfield:=field_T0;clear hq;go_wp2_with (go_at_call 95;refine (tnorm_any (M:=Nil) (MB.nil _) (HA.o.1.keepNil H0.o) (HA.o.2.1.keepNil H0.o) HA.o.2.2.2.1 HA.o.2.2.1).mono ?_;rintro e w1 ⟨v,rfl,⟨bp,mp,dp,gb,ab,nb,cb,rfl,ht⟩,hk1⟩;have hp:=ht.1;rw [show (bE ⟨l,z⟩).parts=q from HQE.o] at hp;have hmp:=SlOf.len hp;have hcap:=SlOf.cap hp;have hle:=SlOf.le hp;have H1:=jJ (aI3 hp hmp hk1);clear ht hk1 hp hmp)
 have hm:mp≤16777216:=by have h1:=H1.o.2.1;have h2:=HQ.o;have h3:=HA.o.r4;omega
 go_loopw [3,10] (fun v iv wr=>∃(k:Nat) (va:Option Addr) (vc:Nat),k≤mp∧iv=.int .i64 (k:Int)∧v=.slice va k vc∧aL wr w1.heap.size 3 1 (.slice va k vc) (aO ((q.take k).map (·.1)))∧aA Nil w1 wr) (fun _ iv _=>mp-(intOf iv).toNat)
 case atStart=>exact⟨0,none,0,aZ2 _,rfl,rfl,aL.nil _ _ _ _,aA.refl _ _⟩
 case round=>
  obtain ⟨k,va,vc,hk,rfl,rfl,hown,hkr⟩:=hrel;have hql:q.length=mp:=H1.o.2.1;by_cases hlt:k<mp
  ·have j0:(0:Int)≤(k:Int):=by omega
   have j1:(k:Int)<(mp:Int):=by omega
   obtain ⟨b,off,g,a',n',c',hae,hb,-,x0,x1,x2,hzz,i1',i2'⟩:=(H1.o.1.keepNil hkr).at hlt;subst hae;have hs:(q.take (k+1)).map (·.1)=(q.take k).map (·.1)++[(pth q k).1]:=by
    rw [List.take_succ_eq_append_getElem (by omega),cZ2,pth_lt (by omega)];rfl
   have hcl:(aO ((q.take k).map (·.1))).length=k:=by rw [aH,hZ1,iZ1];omega
   have hws:w1.heap.size≤wr.heap.size:=hkr.size;have HC:=jJ (aI5 hown hkr hs hcl hws);clear hown hkr hs hcl hws hzz hql;generalize (pth q k).1=v at *
   go_wp2_with (at_builtin;refine bV _ rfl (.tmp 14) (.tmp 17) 23 rfl w1.heap.size 3 i1 (.int .i64 0) 1 8 underlying23 HI.o.1 HI.o.2.1 HI.o.2.2.1 HI.o.2.2.2 rfl (by decide) (.slice va k vc) _ rfl ((HC.o.1.keepNil (w':=wr.alloc (.cells #[.int .i64 v,.bool g,.slice a' n' c'] 117)) kOf).keepNil kOf) ⟨wr.heap.size+1,0,none⟩ 1 1 [[.int .i64 v]] rfl rfl (by simp) (alloc_news1 _ _ _ _) (by simp [Value.oneCell']) (by rw [HC.o.2.2.2.1];omega) (by rw [HC.o.2.2.2.1];omega) (by have:=HC.o.r4;simp;omega) ?_;intro v' w2 ho hk2 hf2 _;obtain ⟨a7,c7,rfl⟩:=ho.isSlice;have e7:(aO ((q.take k).map (·.1))++[[Value.int .i64 v]]).length=k+1:=(by rw [aZ1,HC.o.2.2.2.1];rfl);rw [e7] at ho⊢;have HO:=jJ (aI ho hk2);clear ho hk2 hf2 e7)
   go_roundw
   case rel=>exact⟨k+1,a7,c7,by omega,by go_num,rfl,by rw [HC.o.2.2.1,cells1_snoc];exact HO.o.1,((HC.o.2.1.trans (c:=wr.alloc (.cells #[.int .i64 v,.bool g,.slice a' n' c'] 117)) kOf).trans kOf).trans' HO.o.2 (fun b hb=>.inr (HC.o.1.lt b hb).1)⟩
   case measure=>simp [intOf];omega
  ·have ekn:mp=k:=by omega
   subst ekn;rw [eZ1 (by omega)] at hown;have HC:=jJ (aI3 hown hkr hql);clear hown hkr hql;go_wp2_with fail
   go_ret
   refine ⟨_,rfl,⟨va,vc,?_,?_⟩,H0.o.trans (H1.o.2.2.trans HC.o.2.1)⟩
   ·rw [HQE.o,hZ1,HC.o.2.2];rfl
   ·rw [HQE.o,hZ1,HC.o.2.2];exact HC.o.1.base (by have h1:=H0.o.size;have h2:=H1.o.2.2.size;omega)
theorem order1_any {w1 w2:World} {cx cy:List Value} {x y:Int × Int} (h:dJ M1 w cx x) (h2:dJ M2 w cy y) (hx:nlen x.2.natAbs*4+4≤140737488355328) (hy:nlen y.2.natAbs*4+4≤140737488355328) :
  Calls prog 200 #[.agg cx.toArray,.agg cy.toArray] w fun e w'=>e=.returned (.int .i64 (cmpP x y))∧aA Nil w w':=by
 obtain ⟨g,a,n,c,rfl,hz,-,-⟩:=h;obtain ⟨g2,a2,n2,c2,rfl,hz2,-,-⟩:=h2;have hc:∀W,aA Nil w W→Calls prog 79 #[.agg #[.bool g,.slice a n c],.agg #[.bool g2,.slice a2 n2 c2]] W fun e w'=>e=.returned (.int .i64 (cmpZ x.2 y.2))∧aA Nil W w':=fun W k=>zcmp_any ((hz.zat hx).keepNil k) ((hz2.zat hy).keepNil k);have e:cmpP x y=if x.1<y.1 then -1 else if y.1<x.1 then 1 else cmpZ x.2 y.2:=rfl
 obtain ⟨u,hu⟩:∃u,u=x.1:=⟨_,rfl⟩;obtain ⟨v,hv⟩:∃v,v=y.1:=⟨_,rfl⟩;rw [e,←hu,←hv];have HC:=jJ hc;clear hu hv hz hz2 hx hy hc e;by_cases huv:u<v
 ·rw [if_pos huv];go_enter func200,ntmps200
  go_wp2_with fail
  go_ret
  exact⟨rfl,kOf⟩
 ·rw [if_neg huv];by_cases hvu:v<u
  ·rw [if_pos hvu];have hgt:u > v:=hvu;go_enter func200,ntmps200
   go_wp2_with fail
   go_ret
   exact⟨rfl,kOf⟩
  ·rw [if_neg hvu];have hgt:¬u > v:=hvu;go_enter func200,ntmps200
   go_wp2_with (go_at_call 79;refine (HC.o _ kOf).mono ?_;rintro e w1 ⟨rfl,hk1⟩)
   go_ret
   exact⟨rfl,(((aA.refl Nil w).alloc _).alloc _).trans hk1⟩
theorem drop_pth (h:k<l.length):l.drop k=pth l k::l.drop (k+1):=by rw [List.drop_eq_getElem_cons h,pth_lt h]
theorem comparefunc_any {M3 M4:Nat→Prop} {a a2:Option Addr} {n c n2 c2:Nat} (h:cQ M1 M2 w a n c l) (h2:cQ M3 M4 w a2 n2 c2 l2) (hf:∀p∈l,nlen p.2.natAbs*4+4≤140737488355328) (hf2:∀p∈l2,nlen p.2.natAbs*4+4≤140737488355328) :
  Calls prog 199 #[.slice a n c,.slice a2 n2 c2,.func (.func 200) #[] #[]] w fun e w'=>e=.returned (.int .i64 (cmpL l l2))∧aA Nil w w':=by
 have hl:=SlOf.len h;have hl2:=SlOf.len h2;have hcap:=SlOf.cap h;have hle:=SlOf.le h;have hcap2:=SlOf.cap h2;have hle2:=SlOf.le h2;have heg:∀args w,(callFunc 200 args).run prog w=.ok (.enter 200 args) w:=enters_of func200 (by kernel_rfl) rfl;have HA:=jJ (aI6 h h2 hf hf2 hl hl2);clear h h2 hf hf2 hl hl2;go_enter func199,ntmps199
 go_wp2_with fail
 go_loopw [13] (fun iv wr=>∃k:Nat,k≤n∧k≤n2∧iv=.int .i64 (k:Int)∧cmpL l l2=cmpL (l.drop k) (l2.drop k)∧aA Nil w wr) (fun iv _=>n-(intOf iv).toNat)
 case atStart=>exact⟨0,aZ2 _,aZ2 _,rfl,rfl,aA.refl _ _⟩
 case round=>
  obtain ⟨k,hk,hk2,rfl,hd,hkr⟩:=hrel;by_cases hlt:k<n
  ·have j0:(0:Int)≤(k:Int):=by omega
   have j1:(k:Int)<(n:Int):=by omega
   by_cases hlt2:k<n2
   ·have j2:(k:Int)<(n2:Int):=by omega
    have j3:¬(k:Int) ≥ (n2:Int):=by omega
    obtain ⟨b,off,g,a',n',c',hae,hb,-,x0,x1,x2,hzz,i1,i2⟩:=(HA.o.1.keepNil hkr).at hlt;obtain ⟨b2,off2,g2,a2',n2',c2',hae2,hb2,-,y0,y1,y2,hzz2,i3,i4⟩:=(HA.o.2.1.keepNil hkr).at hlt2;subst hae hae2;have hmem:pth l k∈l:=by rw [pth_lt (by have:=HA.o.r4.1;omega)];exact List.getElem_mem _
    have hmem2:pth l2 k∈l2:=by rw [pth_lt (by have:=HA.o.r5;omega)];exact List.getElem_mem _
    have hcall:=fun (W:World) (q:aA Nil wr W)=>order1_any (w1:=W) (w2:=W) (dJ.moves (M2:=Nil) ⟨g,a',n',c',rfl,hzz,i1,i2⟩ q (fun _ _ h=>h.elim) fun _ _ h=>h.elim) (dJ.moves (M2:=Nil) ⟨g2,a2',n2',c2',rfl,hzz2,i3,i4⟩ q (fun _ _ h=>h.elim) fun _ _ h=>h.elim) (HA.o.2.2.1 _ hmem) (HA.o.2.2.2.1 _ hmem2);have hd2:cmpL l l2=if cmpP (pth l k) (pth l2 k)≠0 then cmpP (pth l k) (pth l2 k) else cmpL (l.drop (k+1)) (l2.drop (k+1)):=by
     rw [hd,drop_pth (l:=l) (by have:=HA.o.r4.1;omega),drop_pth (l:=l2) (by have:=HA.o.r5;omega),cmpL_cons]
    have lb:=Live.of hb;have lb2:=Live.of hb2;have HC:=jJ (aI3 hcall hd2 hkr);clear hcall hd2 hkr hd hzz hzz2 hmem hmem2 i1 i2 i3 i4;obtain ⟨r,hr⟩:∃r,r=cmpP (pth l k) (pth l2 k):=⟨_,rfl⟩;rw [←hr] at HC;clear hr;generalize (pth l k).1=v at *
    generalize (pth l2 k).1=v2 at *
    obtain ⟨q1,q2,q3,q4,q5,q6,q7,q8,q9⟩:=liveRules;by_cases hr0:r=0
    ·subst hr0;go_wp2_with (go_at_call 200;refine (HC.o.1 _ kOf).mono ?_;rintro e w1 ⟨rfl,hk1⟩)
     go_roundw
     case rel=>exact⟨k+1,by omega,by omega,by go_num,by have h:=HC.o.2.1;simpa using h,(HC.o.2.2.trans kkA).trans hk1⟩
     case measure=>simp [intOf];omega
    ·have hr1:(r==0)=false:=by simpa using hr0
     go_wp2_with (go_at_call 200;refine (HC.o.1 _ kOf).mono ?_;rintro e w1 ⟨rfl,hk1⟩)
     go_ret
     have h:=HC.o.2.1;rw [if_pos hr0] at h;exact⟨by rw [h];rfl,(HC.o.2.2.trans kkA).trans hk1⟩
   ·have j3:(k:Int) ≥ (n2:Int):=by omega
    have ekn:n2=k:=by omega
    obtain ⟨b,off,g,a',n',c',hae,hb,-,x0,x1,x2,hzz,i1,i2⟩:=(HA.o.1.keepNil hkr).at hlt;subst hae;have hd2:cmpL l l2=1:=by
     rw [hd,drop_pth (l:=l) (by have:=HA.o.r4.1;omega),@List.drop_eq_nil_of_le _ l2 _ (by have:=HA.o.r5;omega)];rfl
    have HC:=jJ (aI hd2 hkr);clear hd2 hkr hd hzz i1 i2;generalize (pth l k).1=v at *
    go_wp2_with fail
    go_ret
    exact⟨by rw [HC.o.1];rfl,HC.o.2.trans kOf⟩
  ·have ekn:n=k:=by omega
   subst ekn;have hcl:cmpL l l2=if n<n2 then -1 else 0:=by
    rw [hd,@List.drop_eq_nil_of_le _ l _ (by have:=HA.o.r4.1;omega)];split
    ·rw [drop_pth (l:=l2) (by have:=HA.o.r5;omega)];rfl
    ·rw [@List.drop_eq_nil_of_le _ l2 _ (by have:=HA.o.r5;omega)];rfl
   have HC:=jJ (aI hcl hkr);clear hcl hkr hd;by_cases hnn:n<n2
   ·have j3:(n:Int)<(n2:Int):=by omega
    go_wp2_with fail
    go_ret
    exact⟨by rw [HC.o.1,if_pos hnn];rfl,HC.o.2⟩
   ·have j3:¬(n:Int)<(n2:Int):=by omega
    go_wp2_with fail
    go_ret
    exact⟨by rw [HC.o.1,if_neg hnn];rfl,HC.o.2⟩
def FitsT (T:aY):Prop:=(∀p∈T.parts,nlen p.2.natAbs*4+4≤140737488355328)∧nlen T.k.natAbs*4+4≤140737488355328
theorem torder_any {M3 M4:Nat→Prop} {gb:Bool} {ab bp:Option Addr} {nb cb mp dp:Nat} {z2:Int} (ha:bU M1 M2 w ap np cp l) (hz:ZAt Nil w ga aa na ca z) (hb:bU M3 M4 w bp mp dp l2) (hz2:ZAt Nil w gb ab nb cb z2) (h1:na≤1073741824) (h2:np≤16777216) (h3:nb≤1073741824) (h4:mp≤16777216) (hf:FitsT (bE ⟨l,z⟩)) (hf2:FitsT (bE ⟨l2,z2⟩)) :
  Calls prog 155 #[.agg #[.slice ap np cp,.bool ga,.slice aa na ca],.agg #[.slice bp mp dp,.bool gb,.slice ab nb cb]] w fun e w'=>e=.returned (.int .i64 (cmpT (bE ⟨l,z⟩) (bE ⟨l2,z2⟩)))∧aA Nil w w':=by
 have HA:=jJ (aI5 ha hz h1 h2 hf);have HB:=jJ (aI5 hb hz2 h3 h4 hf2);clear ha hz hb hz2 h1 h2 h3 h4 hf hf2;go_enter func155,ntmps155
 go_upto_region 1 with (fail)
 obtain ⟨w0,e_2,k0,r0,r1⟩:=bx2 w 43 [.slice ap np cp,.bool ga,.slice aa na ca] 43 [.slice bp mp dp,.bool gb,.slice ab nb cb];rw [e_2];clear e_2;have lr1:=r1.lt;have H0:=jJ (aI3 k0 r0 r1);clear k0 r0 r1;refine aX 6 [4,5] [6,7,8,9,1013,1014] [6,7,8,9] [Un (LitV ?v3_0),Un (TV (Old w0) (bE ⟨l,z⟩)),Un (LitV ?v3_2),Un (TV (Old w0) (bE ⟨l2,z2⟩)),nothing,nothing] (aB.sk (aB.sk (aB.nx ?r3_3 (aB.nx ?r3_2 (aB.nx ?r3_1 (aB.nx ?r3_0 aB.zero)))))) ?rfn3
 case' r3_0|r3_1|r3_2|r3_3=>
  intro us wj hk hp K hK;try simp only [aP,Act.put,sL] at hK⊢
  obtain ⟨d0,d1,d2⟩:=(H0.o.2.1.keep hk id).three;obtain ⟨e0',e1',e2'⟩:=(H0.o.2.2.keep hk id).three
 case' r3_0|r3_2=>
  go_simp
  refine hK.out _ _ (aA.refl _ _) ?_;exact rfl
 case' r3_1=>
  have e0:us 6=_:=hp 0;rw [e0] at hK⊢;go_simp
  refine (tnorm_any (M:=Old w0) (MB.oldLe hk.size) (HA.o.1.keepNil (H0.o.1.trans hk)) (HA.o.2.1.keepNil (H0.o.1.trans hk)) HA.o.2.2.2.1 HA.o.2.2.1).mono ?_;rintro e wk ⟨v,rfl,hv,hk2⟩;exact hK.out _ _ hk2 (hv)
 case' r3_3=>
  have e2:us 8=_:=hp 2;rw [e2] at hK⊢;go_simp
  refine (tnorm_any (M:=Old w0) (MB.oldLe hk.size) (HB.o.1.keepNil (H0.o.1.trans hk)) (HB.o.2.1.keepNil (H0.o.1.trans hk)) HB.o.2.2.2.1 HB.o.2.2.1).mono ?_;rintro e wk ⟨v,rfl,hv,hk2⟩;exact hK.out _ _ hk2 (hv)
 case' rfn3=>
 intro us wz hkz hf;simp only [aP,Act.put,sL];have e0:us 6=_:=hf 0;obtain ⟨ap1,np1,cp1,gk1,ak1,nk1,ck1,e1,h1⟩:(TV (Old w0) (bE ⟨l,z⟩)) (us 7) wz:=hf 1;have e2:us 8=_:=hf 2;obtain ⟨ap3,np3,cp3,gk3,ak3,nk3,ck3,e3,h3⟩:(TV (Old w0) (bE ⟨l2,z2⟩)) (us 9) wz:=hf 3;clear hf;simp only [e0,e1,e2,e3];clear e0 e1 e2 e3 us;refine aK 4 fun K hK=>?_;obtain ⟨z0,z1,z2'⟩:=(H0.o.2.1.keep hkz id).three;obtain ⟨z3,z4,z5⟩:=(H0.o.2.1.keep hkz id).marks3;obtain ⟨y0,y1,y2⟩:=(H0.o.2.2.keep hkz id).three;obtain ⟨y3,y4,y5⟩:=(H0.o.2.2.keep hkz id).marks3;go_simp
 refine mK ?_;clear hK K;refine aK 5 fun K hK=>?_;go_simp
 refine mK ?_;clear hK K;refine aQ (by kernel_rfl) ?_ _;skip
 have ks1:=aA.triple (w:=wz) (g:=w.heap.size) (.slice ap1 np1 cp1) (.bool gk1) (.slice ak1 nk1 ck1);have ra:=(H0.o.2.1.keep hkz id).triple (.slice ap1 np1 cp1) (.bool gk1) (.slice ak1 nk1 ck1);have rb:=(H0.o.2.2.keep hkz id).keep ks1 (show ¬_=_ by omega);have ks2:=aA.triple (w:=((wz.setCell ⟨w.heap.size,0,none⟩ (.slice ap1 np1 cp1)).setCell ⟨w.heap.size,1,none⟩ (.bool gk1)).setCell ⟨w.heap.size,2,none⟩ (.slice ak1 nk1 ck1)) (g:=w.heap.size+1) (.slice ap3 np3 cp3) (.bool gk3) (.slice ak3 nk3 ck3);have ra2:=ra.keep ks2 (show ¬_=_ by omega);have rb2:=rb.triple (.slice ap3 np3 cp3) (.bool gk3) (.slice ak3 nk3 ck3);have q1:=(h1.out (M:=Old w0) (by omega) (fun _ hb=>hb) ks1).out (M:=Nil) lr1 (fun _ hb=>hb.elim) ks2;have q3:=(h3.out (M:=Old w0) (by omega) (fun _ hb=>hb) ks1).out (M:=Nil) lr1 (fun _ hb=>hb.elim) ks2;have kq:aA Nil w _:=((H0.o.1.trans hkz).own (bZ2 _) ks1).own (Nat.le_succ _) ks2;clear z0 z1 z2' z3 z4 z5 y0 y1 y2 y3 y4 y5 h1 h3 ks1 ks2 ra rb hkz;generalize (((((wz.setCell ⟨w.heap.size,0,none⟩ (.slice ap1 np1 cp1)).setCell ⟨w.heap.size,1,none⟩ (.bool gk1)).setCell ⟨w.heap.size,2,none⟩ (.slice ak1 nk1 ck1)).setCell ⟨w.heap.size+1,0,none⟩ (.slice ap3 np3 cp3)).setCell ⟨w.heap.size+1,1,none⟩ (.bool gk3)).setCell ⟨w.heap.size+1,2,none⟩ (.slice ak3 nk3 ck3)=wq at *
 obtain ⟨d0,d1,d2⟩:=ra2.three;obtain ⟨d3,d4,d5⟩:=rb2.three;have hT:cmpT (bE ⟨l,z⟩) (bE ⟨l2,z2⟩)=if cmpL (bE ⟨l,z⟩).parts (bE ⟨l2,z2⟩).parts≠0 then cmpL (bE ⟨l,z⟩).parts (bE ⟨l2,z2⟩).parts else cmpZ (bE ⟨l,z⟩).k (bE ⟨l2,z2⟩).k:=rfl
 have hF:=HA.o.r4;have hF2:=HB.o.r4;generalize hT1:bE ⟨l,z⟩=T1 at *
 generalize hT2:bE ⟨l2,z2⟩=T2 at *
 have HTT:=jJ (aI hT1 hT2);clear hT1 hT2;have hc1:=comparefunc_any q1.1 q3.1 hF.1 hF2.1;have hc2:∀W,aA Nil wq W→Calls prog 79 #[.agg #[.bool gk1,.slice ak1 nk1 ck1],.agg #[.bool gk3,.slice ak3 nk3 ck3]] W fun e w'=>e=.returned (.int .i64 (cmpZ T1.k T2.k))∧aA Nil W w':=fun W k=>zcmp_any ((q1.2.zat hF.2).keepNil k) ((q3.2.zat hF2.2).keepNil k);obtain ⟨r,hr⟩:∃r,r=cmpL T1.parts T2.parts:=⟨_,rfl⟩;rw [←hr] at hc1 hT;have HQ:=jJ (aI5 hc1 hc2 kq ra2 rb2);have HT:=jJ hT;clear hc1 hc2 kq ra2 rb2 q1 q3 hF hF2 hT hr;by_cases hr0:r=0
 ·subst hr0;go_wp2_with (first|(go_at_call 199;refine HQ.o.1.mono ?_;rintro e w1 ⟨rfl,hk1⟩;obtain ⟨f0,f1,f2⟩:=(HQ.o.2.2.2.1.keep hk1 id).three;obtain ⟨f3,f4,f5⟩:=(HQ.o.r4.keep hk1 id).three;have H1:=jJ hk1;clear hk1)|(go_at_call 79;refine (HQ.o.2.1 _ H1.o).mono ?_;rintro e w2 ⟨rfl,hk2⟩))
  go_ret
  exact⟨by rw [HTT.o.1,HTT.o.2,HT.o,if_neg (by simp)];rfl,HQ.o.2.2.1.trans (H1.o.trans hk2)⟩
 ·have hr1:(r==0)=false:=by simpa using hr0
  go_wp2_with (first|(go_at_call 199;refine HQ.o.1.mono ?_;rintro e w1 ⟨rfl,hk1⟩;have H1:=jJ hk1;clear hk1))
  go_ret
  exact⟨by rw [HTT.o.1,HTT.o.2,HT.o,if_pos hr0];rfl,HQ.o.2.2.1.trans H1.o⟩
end
end Go.Proofs.Q
