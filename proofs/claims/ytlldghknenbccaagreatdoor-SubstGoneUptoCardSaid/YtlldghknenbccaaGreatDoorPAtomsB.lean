/- What atom.Less does. -/
import Derived.Test.YtlldghknenbccaaGreatDoorPAtomsA
set_option linter.unusedSimpArgs false
set_option linter.unusedVariables false
set_option maxRecDepth 100000
set_option maxHeartbeats 4000000
namespace Go.Proofs.Q
open Go.RowKit Tryz
theorem natAbs_fdiv_le (x:Int) {d:Int} (h:0<d):(x.fdiv d).natAbs≤x.natAbs:=by
 rw [Int.fdiv_eq_ediv_of_nonneg x (Int.le_of_lt h)];exact Int.natAbs_ediv_le_natAbs x d
theorem nlen_fdiv_le (x:Int) {d:Int} (h:0<d):nlen (x.fdiv d).natAbs≤nlen x.natAbs:=nlen_mono (natAbs_fdiv_le x h)
theorem nlen_sub_one (x:Int):nlen (x-1).natAbs≤nlen x.natAbs+2:=by
 have h1:=dP x (-1);have h2:nlen (-1:Int).natAbs≤1:=nlen_one;rw [Int.sub_eq_add_neg];omega
structure Wee (T:aW):Prop where
 parts:∀p∈T.parts,nlen p.2.natAbs≤536870912
 k:nlen T.k.natAbs≤536870912
 few:T.parts.length≤16777216
theorem gcdL_pos {zs:List Int} (h:∃z∈zs,z≠0):0<gcdL zs:=by
 obtain ⟨z,hz,h0⟩:=h;have hd:∀(l:List Int) (a:Nat),l.foldl (fun a z=>Nat.gcd a z.natAbs) a∣a∧∀z∈l,l.foldl (fun a z=>Nat.gcd a z.natAbs) a∣z.natAbs:=by
  intro l;induction l with
  | nil=>intro a;exact⟨Nat.dvd_refl _,fun z hz=>by cases hz⟩
  | cons y l ih=>
   intro a;obtain ⟨h1,h2⟩:=ih (Nat.gcd a y.natAbs);rw [List.foldl_cons];refine ⟨Nat.dvd_trans h1 (Nat.gcd_dvd_left _ _),fun z hz=>?_⟩;rcases mZ1.1 hz with rfl|hz
   ·exact Nat.dvd_trans h1 (Nat.gcd_dvd_right _ _)
   ·exact h2 z hz
 have h1:gcdL zs∣z.natAbs:=(hd zs 0).2 z hz;rcases Nat.eq_zero_or_pos (gcdL zs) with h2|h2
 ·rw [h2] at h1;have:=Nat.eq_zero_of_zero_dvd h1;omega
 ·exact h2
theorem gcdL_dvd (zs:List Int):∀z∈zs,(gcdL zs:Int)∣z:=by
 have hd:∀(l:List Int) (a:Nat),l.foldl (fun a z=>Nat.gcd a z.natAbs) a∣a∧∀z∈l,l.foldl (fun a z=>Nat.gcd a z.natAbs) a∣z.natAbs:=by
  intro l;induction l with
  | nil=>intro a;exact⟨Nat.dvd_refl _,fun z hz=>by cases hz⟩
  | cons y l ih=>
   intro a;obtain ⟨h1,h2⟩:=ih (Nat.gcd a y.natAbs);rw [List.foldl_cons];refine ⟨Nat.dvd_trans h1 (Nat.gcd_dvd_left _ _),fun z hz=>?_⟩;rcases mZ1.1 hz with rfl|hz
   ·exact Nat.dvd_trans h1 (Nat.gcd_dvd_right _ _)
   ·exact h2 z hz
 intro z hz;exact Int.ofNat_dvd_left.2 ((hd zs 0).2 z hz)
theorem nlen_gcdL {L:Nat}:∀(zs:List Int),(∀z∈zs,nlen z.natAbs≤L)→nlen (gcdL zs)≤L:=by
 have h0:nlen 0=0:=by simp [nlen,bP]
 have hd:∀(l:List Int) (a:Nat),nlen a≤L→(∀z∈l,nlen z.natAbs≤L)→nlen (l.foldl (fun a z=>Nat.gcd a z.natAbs) a)≤L:=by
  intro l;induction l with
  | nil=>intro a ha _;exact ha
  | cons y l ih=>
   intro a ha h;rw [List.foldl_cons];refine ih _ ?_ fun z hz=>h z (lZ1 _ hz);have:=nlen_gcd_le a y.natAbs;have:=h y (kZ1 ..);omega
 intro zs h;exact hd zs 0 (by rw [h0];exact aZ2 _) h
theorem OwnV.zints {E:TypeId} {w0 w:World} {B n:Nat} {va:Option Addr} {vc:Nat} {els:List (List Value)} {zs:List Int} (o:aL w B E 2 (.slice va n vc) els) (hl:els.length=n) (hz:zs.length=n) (r:∀i,i<n→RZ Nil w0 (els.getD i []) (zs.getD i 0)) (k:aA Nil w0 w):ZInts Nil w va n vc zs:=by
 obtain ⟨a',c',e',hsl⟩:=o.sl (M:=Nil) (R:=RZ Nil w) (d:=0) (xs:=zs) (fun _ _ h=>h) (by rw [hl,hz]) (fun i hi=>(r i (by omega)).move k (fun _ _ h=>h.elim) fun _ _=>id);rw [hl] at e' hsl;cases e';exact hsl
theorem length_coefsV (T:aW):(cE T).length=T.parts.length:=by simp [cE]
theorem neatL_ne {l:aT}:∀p∈neatL l,p.2≠0:=fun p hp=>((neatL_form l).mem p |>.1 hp).2
theorem less1_any {w:World} {b fc bc:Nat} {d:Int} (hr:aC w b 64 [.func (.func fc) #[] #[.pointer (some ⟨bc,0,none⟩)]]) (hc:Clo prog w fc bc (fun x=>x.fdiv d) 8589934592) (h0:0<d):Clo prog w 177 b (fun x=>(x-1).fdiv d+1) 4294967296:=by
 refine ⟨enters_of func177 (by kernel_rfl) rfl,fun M W g2 a2 n2 c2 z hk hM hz hn2=>?_⟩;have hegc:=hc.enters;have hnz:=hz.nlen_le;have hns:=nlen_sub_one z;have hnd:=nlen_fdiv_le (z-1) h0;have HA:=jJ (aI8 (hc.keepNil hk) hz hn2 (hr.keep hk id) h0 hnz hns hnd);have HM:=jJ hM;clear hr hc h0 hk hz hM hn2 hnz hns hnd;go_enter func177,ntmps177
 go_upto_region 1 with (fail)
 obtain ⟨w0,e_1,k0,r0,r1⟩:=bx2 W 25 [.bool g2,.slice a2 n2 c2] 25 [.bool false,.slice none 0 0];rw [e_1];clear e_1;have rb:=HA.o.2.2.2.1.keep k0 id;have H0:=jJ (aI4 k0 r0 r1 rb);have lr1:=r1.lt;clear k0 r0 r1 rb;refine aX 8 [7] [4,5,6,7,8,9,10,1017] [4,5,6,7,8,9,10] [Un (LitV ?v2_0),Un (LitV ?v2_1),Un (ZV Nil 1),Un (ZV Nil (z-1)),Un (ZV Nil ((z-1).fdiv d)),Un (ZV Nil 1),Un (ZV (Old w0) ((z-1).fdiv d+1)),nothing] (aB.sk (aB.nx ?r2_6 (aB.nx ?r2_5 (aB.nx ?r2_4 (aB.nx ?r2_3 (aB.nx ?r2_2 (aB.nx ?r2_1 (aB.nx ?r2_0 aB.zero)))))))) ?rfn2
 case' r2_0|r2_1|r2_2|r2_3|r2_4|r2_5|r2_6=>
  intro us wj hk hp K hK;try simp only [aO,Act.put,sL] at hK⊢
  obtain ⟨d0,d1,-,-⟩:=(H0.o.2.1.keep hk id).two;obtain ⟨b0,-⟩:=(H0.o.2.2.2.keep hk id).one
 case' r2_0|r2_1=>
  go_simp
  refine hK.out _ _ (aA.refl _ _) ?_;exact rfl
 case' r2_2|r2_5=>
  go_simp
  refine (zof_any (M:=Nil) (z:=1) (MB.nil _) (by omega) (by omega)).mono ?_;rintro e wk ⟨g,a,n,c,rfl,h,hk2⟩;exact hK.out _ _ hk2 (⟨g,a,n,c,rfl,h⟩)
 case' r2_3=>
  have e1:us 5=_:=hp 1;obtain ⟨g2,a2,n2,c2,e2,h2⟩:(ZV Nil 1) (us 6) wj:=hp 2;rw [e1,e2] at hK⊢;go_simp
  refine (zsub_any (M:=Nil) (MB.nil _) (HA.o.2.1.keepNil (H0.o.1.trans hk)) (h2.zat fit_one) (by have:=HA.o.2.2.1;omega) (by have:=h2.len;have:=nlen_one;omega)).mono ?_;rintro e wk ⟨g,a,n,c,rfl,h,hk2⟩;exact hK.out _ _ hk2 (⟨g,a,n,c,rfl,h⟩)
 case' r2_4=>
  have e0:us 4=_:=hp 0;obtain ⟨g3,a3,n3,c3,e3,h3⟩:(ZV Nil (z-1)) (us 7) wj:=hp 3;rw [e0,e3] at hK⊢;go_simp
  refine (HA.o.1.call Nil _ g3 a3 n3 c3 (z-1) (H0.o.1.trans hk) (MB.nil _) (h3.zat (by have h1:=HA.o.r5;have h4:=HA.o.2.2.1;omega)) (by have h1:=HA.o.r5;have h4:=HA.o.2.2.1;have h5:=h3.len;omega)).mono ?_;rintro e wk ⟨g,a,n,c,rfl,h,hk2⟩;exact hK.out _ _ hk2 (⟨g,a,n,c,rfl,h⟩)
 case' r2_6=>
  obtain ⟨g4,a4,n4,c4,e4,h4⟩:(ZV Nil ((z-1).fdiv d)) (us 8) wj:=hp 4;obtain ⟨g5,a5,n5,c5,e5,h5⟩:(ZV Nil 1) (us 9) wj:=hp 5;rw [e4,e5] at hK⊢;go_simp
  refine (zadd_any (M:=Old w0) (MB.oldLe hk.size) (h4.zat (by have h1:=HA.o.r5;have h4:=HA.o.2.2.1;omega)) (h5.zat fit_one) (by have h1:=HA.o.r5;have h6:=HA.o.2.2.1;have h7:=h4.len;omega) (by have:=h5.len;have:=nlen_one;omega)).mono ?_;rintro e wk ⟨g,a,n,c,rfl,h,hk2⟩;exact hK.out _ _ hk2 (⟨g,a,n,c,rfl,h⟩)
 case' rfn2=>
 intro us wz hkz hf;simp only [aO,Act.put,sL];have e0:us 4=_:=hf 0;have e1:us 5=_:=hf 1;obtain ⟨g2,a2,n2,c2,e2,h2⟩:(ZV Nil 1) (us 6) wz:=hf 2;obtain ⟨g3,a3,n3,c3,e3,h3⟩:(ZV Nil (z-1)) (us 7) wz:=hf 3;obtain ⟨g4,a4,n4,c4,e4,h4⟩:(ZV Nil ((z-1).fdiv d)) (us 8) wz:=hf 4;obtain ⟨g5,a5,n5,c5,e5,h5⟩:(ZV Nil 1) (us 9) wz:=hf 5;obtain ⟨g6,a6,n6,c6,e6,h6⟩:(ZV (Old w0) ((z-1).fdiv d+1)) (us 10) wz:=hf 6;clear hf;simp only [e0,e1,e2,e3,e4,e5,e6];clear e0 e1 e2 e3 e4 e5 e6 us;refine aK 7 fun K hK=>?_;obtain ⟨z0,z1,z2,z3⟩:=(H0.o.2.2.1.keep hkz id).two;go_simp
 refine mK ?_;clear hK K;refine aP (by kernel_rfl) ?_ _;skip
 have r6:=(H0.o.2.2.1.keep hkz id).pair (u':=.bool g6) (v':=.slice a6 n6 c6);obtain ⟨y0,y1,-,-⟩:=r6.two;go_wp2_with fail
 exact bodyPost_ret (v:=.agg #[.bool g6,.slice a6 n6 c6]) (by simp [results,results177,go_sem,y0,y1]) rfl ⟨_,_,_,_,rfl,h6.move (aA.pair _ _) (fun b _ (hm:b=W.heap.size+1)=>by rw [hm];exact lr1) (fun b _ hm=>by show b<w0.heap.size;have:=HM.o b hm;omega),((H0.o.1.trans hkz).own (by omega) (aA.pair _ _))⟩
theorem less_any {M M1 M2:Nat→Prop} {w:World} {ap ak:Option Addr} {np cp nk ck:Nat} {gk:Bool} {l:aT} {z:Int} (hM:MB M w) (h:bU M1 M2 w ap np cp l) (hk:ZAt Nil w gk ak nk ck z) (h1:np≤16777216) (h2:nk≤1073741824) (hw:Wee (bR ⟨l,z⟩)) :
  Calls prog 126 #[.agg #[.slice ap np cp,.bool gk,.slice ak nk ck]] w fun e w'=>Gives Nil (AV M (lessV (bR ⟨l,z⟩))) w e w':=by
 have HH:=jJ (aI5 h hk h1 h2 hw);have HM:=jJ hM;have hne:∀p∈(bR ⟨l,z⟩).parts,p.2≠0:=neatL_ne;have HNE:=jJ hne;clear h hk hM hw hne;go_enter func126,ntmps126
 go_upto_region 1 with (fail)
 obtain ⟨w0,e_3,k0,r0,r1⟩:=bx2 w 27 [.slice ap np cp,.bool gk,.slice ak nk ck] 82 [.int .i64 0,.bool false,.slice none 0 0,.slice none 0 0,.bool false,.slice none 0 0];rw [e_3];clear e_3;obtain ⟨c0,c1,c2⟩:=r0.three;have lr1:=r1.lt;have H0:=jJ (aI3 k0 r0 r1);clear k0 r0 r1;generalize hT:bR ⟨l,z⟩=T at *
 have HT:=jJ hT;clear hT;go_upto_region 2 with (go_at_call 83;refine (tnorm_any (M:=Old w0) (MB.old w0) (HH.o.1.keepNil H0.o.1) (HH.o.2.1.keepNil H0.o.1) h1 h2).mono ?_;rintro e w1 ⟨v,rfl,⟨bp,mp,dp,gb,ab,nb,cb,rfl,ht⟩,hk1⟩;rw [HT.o] at ht;have ra:=H0.o.2.1.keep hk1 id;obtain ⟨z0,z1,z2⟩:=ra.three;obtain ⟨z3,z4,z5⟩:=ra.marks3;have H1:=jJ (aI3 ht hk1 ra);clear ht hk1 ra)
 have ks1:=aA.triple (w:=w1) (g:=w.heap.size) (.slice bp mp dp) (.bool gb) (.slice ab nb cb);have ra:=H1.o.2.2.triple (.slice bp mp dp) (.bool gb) (.slice ab nb cb);have rb:=(H0.o.2.2.keep H1.o.2.1 id).keep ks1 (show ¬_=_ by omega);have q1:=H1.o.1.out (M:=Nil) (by omega) (fun _ hb=>hb.elim) ks1;have kq:aA Nil w _:=(H0.o.1.trans H1.o.2.1).own (bZ2 _) ks1;have ksz:w0.heap.size≤(((w1.setCell ⟨w.heap.size,0,none⟩ (.slice bp mp dp)).setCell ⟨w.heap.size,1,none⟩ (.bool gb)).setCell ⟨w.heap.size,2,none⟩ (.slice ab nb cb)).heap.size:=bZ1 H1.o.2.1.size ks1.size;clear z0 z1 z2 z3 z4 z5 ks1 H1 c0 c1 c2;generalize (((w1.setCell ⟨w.heap.size,0,none⟩ (.slice bp mp dp)).setCell ⟨w.heap.size,1,none⟩ (.bool gb)).setCell ⟨w.heap.size,2,none⟩ (.slice ab nb cb))=wq at *
 obtain ⟨c0,c1,c2⟩:=ra.three;have hmp:T.parts.length=mp:=SlOf.len q1.1;have HQ:=jJ (aI6 ra rb q1 kq ksz hmp);have hkk:=HH.o.r4;clear ra rb q1 kq ksz hmp;by_cases hm0:mp=0
 ·subst hm0;have hpn:T.parts=[]:=fZ1 HQ.o.r5;have hlv:lessV T=eA (decide (T.k.sign > 0)):=by
   unfold lessV;rw [if_pos hpn];congr 1;rw [decide_eq_decide];exact (Int.sign_pos_iff).symm
  have hsg:=sign_any (w:=wq) (HQ.o.2.2.1.2.zat (by have:=hkk.k;omega));obtain ⟨s,hs⟩:∃s,s=T.k.sign:=⟨_,rfl⟩;rw [←hs] at hsg hlv;have HS:=jJ (aI hsg hlv);clear hs hsg hlv hkk hpn;go_wp2_with (first|(go_at_call 55;refine HS.o.1.mono ?_;rintro e w2 ⟨rfl,hk2⟩)|(go_at_call 147;refine (truth_any (M:=Old w0) _).mono ?_;rintro e w3 ⟨v,rfl,⟨gd,ad,nd,cd,ap',np',cp',gk',ak',nk',ck',rfl,hv⟩,hk3⟩;have r3:=(HQ.o.2.1.keep hk2 id).keep hk3 id;obtain ⟨z0,z1,z2,z3,z4,z5⟩:=r3.cells6;obtain ⟨y0,y1,y2,y3,y4,y5⟩:=r3.marks6;have H3:=jJ (aI4 hv hk2 hk3 r3);clear hv hk3 r3))
  have r6:=H3.o.2.2.2.six (.int .i64 (eA (decide (0<s))).kind) (.bool gd) (.slice ad nd cd) (.slice ap' np' cp') (.bool gk') (.slice ak' nk' ck');obtain ⟨x0,x1,x2,x3,x4,x5⟩:=r6.cells6;refine bodyPost_ret (v:=.agg #[.int .i64 (eA (decide (0<s))).kind,.bool gd,.slice ad nd cd,.slice ap' np' cp',.bool gk',.slice ak' nk' ck']) (by simp [results,results126,go_sem,x0,x1,x2,x3,x4,x5]) rfl ⟨_,rfl,?_,(HQ.o.2.2.2.1.trans (H3.o.2.1.trans H3.o.2.2.1)).own (by omega) (aA.six _ _ _ _ _ _)⟩;rw [HT.o,HS.o.2];exact⟨_,_,_,_,_,_,_,_,_,_,_,rfl,H3.o.1.out lr1 (fun b hb=>by have:=HM.o b hb;omega) (aA.six _ _ _ _ _ _)⟩
 ·have hmi:¬(mp:Int)=0:=by omega
  have hpn:¬T.parts=[]:=fun e=>hm0 (by rw [←HQ.o.r5,e];rfl);have hlv:lessV T=⟨2,0,mappedV T (fun c=>c.fdiv (gcdL (cE T):Int)) fun k=>(k-1).fdiv (gcdL (cE T):Int)+1⟩:=by
   unfold lessV;rw [if_neg hpn]
  have hg0:0<gcdL (cE T):=by
   cases hp:T.parts with
   | nil=>exact absurd hp hpn
   | cons p r=>exact gcdL_pos ⟨p.2,by simp [cE,hp],HNE.o p (by rw [hp];exact kZ1 ..)⟩
  have hgl:nlen (gcdL (cE T))≤536870912:=nlen_gcdL _ fun z hz=>by
   obtain ⟨p,hp,rfl⟩:=iZ2.1 hz;exact hkk.parts p hp
  have hzf:∀z∈cE T,nlen z.natAbs*4+4≤140737488355328:=fun z hz=>by
   obtain ⟨p,hp,rfl⟩:=iZ2.1 hz;have:=hkk.parts p hp;omega
  obtain ⟨G,hG⟩:∃G:Nat,G=gcdL (cE T):=⟨_,rfl⟩;rw [←hG] at hlv hg0 hgl;have hgi:(0:Int)<(G:Int):=by omega
  have hmapp:∀p∈T.parts,nlen p.2.natAbs≤1073741824∧nlen (p.2.fdiv (G:Int)).natAbs≤1073741824:=fun p hp=>by
   have h1:=hkk.parts p hp;have h2:=nlen_fdiv_le p.2 hgi;omega
  have hmapk:nlen T.k.natAbs≤1073741824∧nlen ((T.k-1).fdiv (G:Int)+1).natAbs≤1073741824:=by
   have h1:=hkk.k;have h2:=nlen_sub_one T.k;have h3:=nlen_fdiv_le (T.k-1) hgi;have h4:=dP ((T.k-1).fdiv (G:Int)) 1;have h5:=nlen_one;omega
  have HG:=jJ (aI8 hG hg0 hgl hgi hzf hmapp hmapk hlv);have hsf:∀(a:Addr) (m:Mode) (W:World) (f:Fn) (cb:Array Value),(store a (.func f #[] cb) m).run prog W=stored prog W a (.func f #[] cb) m:=fun a m W f cb=>run_store prog W a _ m rfl;have hmpl:mp≤16777216:=by have:=hkk.few;have:=HQ.o.r5;omega
  clear hG hg0 hgl hgi hzf hmapp hmapk hlv hkk hpn;go_wp2_with (first|(go_at_call 145;refine (coefs_any HQ.o.2.2.1.1 hmpl).mono ?_;rintro e w2 ⟨v,rfl,⟨vz,cz,els,rfl,o2,n2,q2⟩,hk2⟩;have H2:=jJ (aI4 o2 n2 q2 hk2);clear o2 n2 q2 hk2)|(go_at_call 144;refine (zgcd_any (M:=Nil) (MB.nil _) (OwnV.zints H2.o.1 H2.o.2.1 (by rw [length_coefsV];exact HQ.o.r5) (zs:=cE T) H2.o.2.2.1 H2.o.2.2.2) HG.o.r4.1).mono ?_;rintro e w3 ⟨g3,a3,n3,c3,rfl,h3,hk3⟩;rw [←HG.o.1] at h3;have H3:=jJ (aI h3 hk3);clear h3 hk3)|(go_at_call 146;refine over_any.mono ?_;rintro e w4 ⟨v,rfl,⟨b4,rfl,hr4,-⟩,hk4⟩;have h4:=over1_any hr4 ((H3.o.1.zat (by have:=HG.o.2.2.1;rw [Int.natAbs_natCast];omega)).keepNil hk4) (by have:=HG.o.2.2.2.1;omega) (by have h1:=H3.o.1.len;have h2:=HG.o.2.2.1;rw [Int.natAbs_natCast] at h1;omega);clear hr4;have ra4:=(((HQ.o.1.keep H2.o.2.2.2 id).keep H3.o.2 id).keep hk4 id).keep (M:=Nil) (w':=w4.alloc (.cells #[.func (.func 190) #[] #[.pointer (some ⟨b4,0,none⟩)]] 64)) kOf id;obtain ⟨t0,t1,t2⟩:=ra4.three;have H4:=jJ (aI h4 hk4);clear h4 hk4 ra4)|(go_at_call 143;refine (mapped_any (M:=Old w0) (MB.oldLe (bZ1 HQ.o.r4.1 (bZ1 (H2.o.2.2.2.trans (H3.o.2.trans H4.o.2)).size (by simp)))) (T:=T) (c:=fun x=>x.fdiv (G:Int)) (f:=fun k=>(k-1).fdiv (G:Int)+1) ((HQ.o.2.2.1.keepNil (H2.o.2.2.2.trans (H3.o.2.trans H4.o.2))).keepNil kOf) ((H4.o.1.keepNil kOf).mono (by decide)) (less1_any (aC.alloc (xs:=[.func (.func 190) #[] #[.pointer (some ⟨b4,0,none⟩)]])) (H4.o.1.keepNil kOf) HG.o.2.2.2.1) hmpl HG.o.r5.1 HG.o.r6.1).mono ?_;rintro e w5 ⟨v,rfl,⟨xp,yp,zp,gk',ak',nk',ck',rfl,hv⟩,hk5⟩;have r5:=((((HQ.o.2.1.keep H2.o.2.2.2 id).keep H3.o.2 id).keep H4.o.2 id).keep (M:=Nil) (w':=w4.alloc (.cells #[.func (.func 190) #[] #[.pointer (some ⟨b4,0,none⟩)]] 64)) kOf id).keep hk5 id;obtain ⟨z0,z1,z2,z3,z4,z5⟩:=r5.cells6;obtain ⟨y0,y1,y2,y3,y4,y5⟩:=r5.marks6;have H5:=jJ (aI3 hv hk5 r5);clear hv hk5 r5))
  have kal:aA Nil w4 (w4.alloc (.cells #[.func (.func 190) #[] #[.pointer (some ⟨b4,0,none⟩)]] 64)):=kOf;have r6:=H5.o.2.2.six (.int .i64 2) (.bool false) (.slice none 0 0) (.slice xp yp zp) (.bool gk') (.slice ak' nk' ck');obtain ⟨x0,x1,x2,x3,x4,x5⟩:=r6.cells6;refine bodyPost_ret (v:=.agg #[.int .i64 2,.bool false,.slice none 0 0,.slice xp yp zp,.bool gk',.slice ak' nk' ck']) (by simp [results,results126,go_sem,x0,x1,x2,x3,x4,x5]) rfl ⟨_,rfl,?_,(HQ.o.2.2.2.1.trans (H2.o.2.2.2.trans (H3.o.2.trans (H4.o.2.trans (kal.trans H5.o.2.1))))).own (by omega) (aA.six _ _ _ _ _ _)⟩;rw [HT.o,HG.o.r7];exact⟨_,_,_,_,_,_,_,_,_,_,_,rfl,zn_zero _ _,H5.o.1.out lr1 (fun b hb=>by have:=HM.o b hb;omega) (aA.six _ _ _ _ _ _)⟩
section
variable {T:aW} {d:Int} {c f:Int→Int}
structure GoodT (T:aW):Prop where
 neat:Neat T.parts
 wee:Wee T
theorem neat_neatL (l:aT):Neat (neatL l):=(neatL_form l).neat
theorem rising_mapL {q:aT} (h:q.Pairwise (fun a b=>a.1<b.1)) (c:Int→Int):(mapL c q).Pairwise (fun a b=>a.1<b.1):=List.pairwise_map.2 h
theorem neatL_rising {q:aT} (h:q.Pairwise (fun a b=>a.1<b.1)):neatL q=q.filter (fun p=>decide (p.2≠0)):=by
 refine (FormOf.eq ⟨h.filter _,fun p=>?_⟩).symm;rw [hZ3];constructor
 ·rintro ⟨h1,h2⟩;exact⟨(Neat.coef h p h1).symm,by simpa using h2⟩
 ·rintro ⟨h1,h2⟩;rw [h1] at h2;obtain ⟨x,hx,e⟩:=coefL_mem h2;have:=Neat.coef h x hx;rw [e,←h1] at this;have:p=x:=Prod.ext e.symm this;rw [this];refine ⟨hx,?_⟩;rw [←this,h1];simpa using h2
theorem mem_mapped (h:Neat T.parts):∀p∈(mappedV T c f).parts,∃q∈T.parts,p=(q.1,c q.2):=fun p hp=>by
 have hp':p∈neatL (mapL c T.parts):=hp;rw [neatL_rising (rising_mapL h.rising c)] at hp';obtain ⟨q,hq,rfl⟩:=iZ2.1 (hZ3.1 hp').1;exact⟨q,hq,rfl⟩
theorem length_mapped (h:Neat T.parts):(mappedV T c f).parts.length≤T.parts.length:=by
 show (neatL (mapL c T.parts)).length≤_
 rw [neatL_rising (rising_mapL h.rising c)];exact bZ1 (List.length_filter_le _ _) (by simp [mapL])
theorem good_mapped (h:GoodT T) (hc:∀p∈T.parts,nlen (c p.2).natAbs≤536870912) (hf:nlen (f T.k).natAbs≤536870912):GoodT (mappedV T c f):=
 ⟨neat_neatL _,⟨fun p hp=>by obtain ⟨q,hq,rfl⟩:=mem_mapped h.neat p hp;exact hc q hq,hf,bZ1 (length_mapped h.neat) h.wee.few⟩⟩
theorem normT_neat (h:Neat T.parts):bR T=T:=by
 show (⟨neatL T.parts,T.k⟩:aW)=T
 rw [neatL_of_neat h]
theorem natAbs_fmod_lt (x:Int) (h:0<d):(x.fmod d).natAbs<d.natAbs:=by
 rw [Int.fmod_eq_emod_of_nonneg x (Int.le_of_lt h)];have h1:=Int.emod_nonneg x (by omega:d≠0);have h2:=Int.emod_lt_of_pos x h;omega
theorem nlen_fmod_le (x:Int) (h:0<d):nlen (x.fmod d).natAbs≤nlen d.natAbs:=nlen_mono (Nat.le_of_lt (natAbs_fmod_lt x h))
theorem partT_good (h:GoodT T) (h0:0<d) (hd:nlen d.natAbs≤536870912):GoodT (partT d T):=
 good_mapped h (fun p _=>bZ1 (nlen_fmod_le _ h0) hd) (bZ1 (nlen_fmod_le _ h0) hd)
theorem partG_pos (h0:0<d):0<partG d T:=gcdL_pos ⟨d,by simp,by omega⟩
theorem partG_nlen (h:GoodT T) (h0:0<d) (hd:nlen d.natAbs≤536870912):nlen (partG d T)≤536870912:=nlen_gcdL _ fun z hz=>by
 rcases jZ1.1 hz with hz|hz
 ·obtain ⟨p,hp,rfl⟩:=iZ2.1 hz;exact (partT_good h h0 hd).wee.parts p hp
 ·rw [dZ1.1 hz];exact hd
theorem partG_dvd (d:Int) (T:aW):(partG d T:Int)∣d:=gcdL_dvd _ _ (by simp)
theorem partD_pos (h0:0<d):0<partD d T:=by
 have hg:=partG_pos (T:=T) h0;obtain ⟨x,hx⟩:=partG_dvd d T;unfold partD;have hgi:(0:Int)<(partG d T:Int):=by omega
 rw [Int.fdiv_eq_ediv_of_nonneg d (Int.le_of_lt hgi)];have:0<x:=by
  rcases Int.lt_trichotomy x 0 with h|h|h
  ·have:=Int.mul_neg_of_pos_of_neg hgi h;omega
  ·subst h;simp at hx;omega
  ·exact h
 conv=>rhs;arg 1;rw [hx]
 rw [Int.mul_ediv_cancel_left _ (by omega)];exact this
theorem partD_nlen (h0:0<d) (hd:nlen d.natAbs≤536870912):nlen (partD d T).natAbs≤536870912:=
 bZ1 (nlen_fdiv_le d (by have:=partG_pos (T:=T) h0;omega)) hd
theorem partC_good (h:GoodT T) (h0:0<d) (hd:nlen d.natAbs≤536870912):GoodT (dQ d T):=by
 have hg:=partG_pos (T:=T) h0;have h1:=partT_good h h0 hd;exact good_mapped h1 (fun p hp=>bZ1 (nlen_fdiv_le _ (by omega)) (h1.wee.parts p hp)) (bZ1 (nlen_fdiv_le _ (by omega)) h1.wee.k)
theorem sumT_neg (T:aW) (h:Neat T.parts):sumT (-1) T 0 bH=⟨mulL (-1) T.parts,-T.k⟩:=by
 have hn:Neat (mulL (-1) T.parts):=⟨List.pairwise_map.2 h.rising,fun p hp=>by
  obtain ⟨q,hq,rfl⟩:=iZ2.1 hp;have:=h.some q hq;simp only;omega⟩
 unfold sumT;have e:mulL (-1) T.parts++mulL 0 bH.parts=mulL (-1) T.parts:=by simp [mulL,bH]
 rw [e,neatL_of_neat hn];simp [bH]
theorem sumT_neg_good (h:GoodT T):GoodT (sumT (-1) T 0 bH):=by
 rw [sumT_neg T h.neat];refine ⟨?_,⟨fun p hp=>?_,?_,?_⟩⟩
 ·have:=neat_neatL (mulL (-1) T.parts);refine ⟨List.pairwise_map.2 h.neat.rising,fun p hp=>?_⟩;obtain ⟨q,hq,rfl⟩:=iZ2.1 hp;have:=h.neat.some q hq;simp only;omega
 ·obtain ⟨q,hq,rfl⟩:=iZ2.1 hp;have:=h.wee.parts q hq;simp only [Int.neg_mul,Int.one_mul,Int.natAbs_neg];exact this
 ·simp only [Int.natAbs_neg];exact h.wee.k
 ·simp only [mulL,hZ1];exact h.wee.few
theorem partO_good (h:GoodT T) (h0:0<d) (hd:nlen d.natAbs≤536870912):GoodT (partO d T):=
 partT_good (sumT_neg_good (partC_good h h0 hd)) (partD_pos h0) (partD_nlen h0 hd)
theorem GoodT.fits (h:GoodT T):Go.Proofs.Q.FitsT T:=⟨fun p hp=>by have:=h.wee.parts p hp;omega,by have:=h.wee.k;omega⟩
end
end Go.Proofs.Q
