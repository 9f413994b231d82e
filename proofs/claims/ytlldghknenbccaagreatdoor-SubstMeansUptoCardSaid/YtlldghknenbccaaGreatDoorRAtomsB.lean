/- What atom.Less does. -/
import Derived.Test.YtlldghknenbccaaGreatDoorRAtomsA
set_option linter.unusedSimpArgs false
set_option linter.unusedVariables false
set_option maxRecDepth 100000
set_option maxHeartbeats 4000000
namespace Go.Proofs.Q
open Go.RowKit Tryz
theorem aLU (x:Int) {d:Int} (h:0<d):(x.fdiv d).natAbs≤x.natAbs:=by
 rw [Int.fdiv_eq_ediv_of_nonneg x (Int.le_of_lt h)];exact Int.natAbs_ediv_le_natAbs x d
theorem BZ (x:Int) {d:Int} (h:0<d):eP (x.fdiv d).natAbs≤eP x.natAbs:=lQ (aLU x h)
theorem SI (x:Int):eP (x-1).natAbs≤eP x.natAbs+2:=by
 have h1:=dK x (-1);have h2:eP (-1:Int).natAbs≤1:=BK;rw [Int.sub_eq_add_neg];omega
structure Wee (T:aV):Prop where
 parts:∀p∈T.parts,eP p.2.natAbs≤536870912
 k:eP T.k.natAbs≤536870912
 few:T.parts.length≤16777216
theorem PS {zs:List Int} (h:∃z∈zs,z≠0):0<fH zs:=by
 obtain ⟨z,hz,h0⟩:=h;have hd:∀(l:List Int) (a:Nat),l.foldl (fun a z=>Nat.gcd a z.natAbs) a∣a∧∀z∈l,l.foldl (fun a z=>Nat.gcd a z.natAbs) a∣z.natAbs:=yS;have h1:fH zs∣z.natAbs:=(hd zs 0).2 z hz;rcases Nat.eq_zero_or_pos (fH zs) with h2|h2
 ·rw [h2] at h1;have:=Nat.eq_zero_of_zero_dvd h1;omega
 ·exact h2
theorem DT (zs:List Int):∀z∈zs,(fH zs:Int)∣z:=by
 have hd:∀(l:List Int) (a:Nat),l.foldl (fun a z=>Nat.gcd a z.natAbs) a∣a∧∀z∈l,l.foldl (fun a z=>Nat.gcd a z.natAbs) a∣z.natAbs:=yS;intro z hz;exact Int.ofNat_dvd_left.2 ((hd zs 0).2 z hz)
theorem aFX {L:Nat}:∀(zs:List Int),(∀z∈zs,eP z.natAbs≤L)→eP (fH zs)≤L:=by
 have h0:eP 0=0:=sP;have hd:∀(l:List Int) (a:Nat),eP a≤L→(∀z∈l,eP z.natAbs≤L)→eP (l.foldl (fun a z=>Nat.gcd a z.natAbs) a)≤L:=by
  intro l;induction l with
  | nil=>intro a ha _;exact ha
  | cons y l ih=>
   intro a ha h;rw [List.foldl_cons];refine ih _ ?_ fun z hz=>h z (lZ1 _ hz);have:=TI a y.natAbs;have:=h y (kZ1 ..);omega
 intro zs h;exact hd zs 0 (by rw [h0];exact aZ2 _) h
theorem nH.LZ {E:TypeId} {w0 w:World} {B n:Nat} {va:Option Addr} {vc:Nat} {els:List (List Value)} {zs:List Int} (o:aL w B E 2 (.slice va n vc) els) (hl:els.length=n) (hz:zs.length=n) (r:∀i,i<n→RZ Nil w0 (els.getD i []) (zs.getD i 0)) (k:aA Nil w0 w):kT Nil w va n vc zs:=by
 obtain ⟨a',c',e',hsl⟩:=o.sl (M:=Nil) (R:=RZ Nil w) (d:=0) (xs:=zs) (fun _ _ h=>h) (by rw [hl,hz]) (fun i hi=>(r i zZ).move k (fun _ _ h=>h.elim) fun _ _=>id);rw [hl] at e' hsl;cases e';exact hsl
theorem MN (T:aV):(cH T).length=T.parts.length:=by simp [cH]
theorem aXW {l:aM}:∀p∈dR l,p.2≠0:=fun p hp=>((CF l).mem p |>.1 hp).2
theorem aUG {w:World} {b fc bc:Nat} {d:Int} (hr:aF w b 64 [.func (.func fc) #[] #[.pointer (some ⟨bc,0,none⟩)]]) (hc:Clo prog w fc bc (fun x=>x.fdiv d) 8589934592) (h0:0<d):Clo prog w 177 b (fun x=>(x-1).fdiv d+1) 4294967296:=by
 refine ⟨enters_of func177 zX rfl,fun M W g2 a2 n2 c2 z hk hM hz hn2=>?_⟩;have hegc:=hc.enters;have hnz:=hz.iD;have hns:=SI z;have hnd:=BZ (z-1) h0;have HA:=jJ (aI8 (hc.eO hk) hz hn2 (hr.keep hk id) h0 hnz hns hnd);have HM:=jJ hM;clear hr hc h0 hk hz hM hn2 hnz hns hnd;go_enter func177,ntmps177
 go_upto_region 1 with (fail)
 obtain ⟨w0,e_1,k0,r0,r1⟩:=bx2 W 25 [.bool g2,.slice a2 n2 c2] 25 [.bool false,.slice none 0 0];rw [e_1];clear e_1;have rb:=HA.o.2.2.2.1.keep k0 id;have H0:=jJ (aI4 k0 r0 r1 rb);have lr1:=r1.lt;clear k0 r0 r1 rb;refine aX 8 [7] [4,5,6,7,8,9,10,1017] [4,5,6,7,8,9,10] [Un (eT ?v2_0),Un (eT ?v2_1),Un (ZV Nil 1),Un (ZV Nil (z-1)),Un (ZV Nil ((z-1).fdiv d)),Un (ZV Nil 1),Un (ZV (Old w0) ((z-1).fdiv d+1)),nothing] (aB.sk (aB.nx ?r2_6 (aB.nx ?r2_5 (aB.nx ?r2_4 (aB.nx ?r2_3 (aB.nx ?r2_2 (aB.nx ?r2_1 (aB.nx ?r2_0 aB.zero)))))))) ?rfn2
 case' r2_0|r2_1|r2_2|r2_3|r2_4|r2_5|r2_6=>
  intro us wj hk hp K hK;try simp only [aQ,Act.put,sL] at hK⊢
  obtain ⟨d0,d1,-,-⟩:=(H0.o.2.1.keep hk id).two;obtain ⟨b0,-⟩:=(H0.o.2.2.2.keep hk id).one
 case' r2_0|r2_1=>
  go_simp
  refine hK.out _ _ (aA.refl _ _) ?_;exact rfl
 case' r2_2|r2_5=>
  go_simp
  refine (kZ (M:=Nil) (z:=1) (MB.nil _) zZ zZ).mono ?_;rintro e wk ⟨g,a,n,c,rfl,h,hk2⟩;exact hK.out _ _ hk2 (⟨g,a,n,c,rfl,h⟩)
 case' r2_3=>
  have e1:us 5=_:=hp 1;obtain ⟨g2,a2,n2,c2,e2,h2⟩:(ZV Nil 1) (us 6) wj:=hp 2;rw [e1,e2] at hK⊢;go_simp
  refine (aGX (M:=Nil) (MB.nil _) (HA.o.2.1.eO (H0.o.1.trans hk)) (h2.zat nQ) vB (by have:=h2.len;have:=BK;omega)).mono ?_;rintro e wk ⟨g,a,n,c,rfl,h,hk2⟩;exact hK.out _ _ hk2 (⟨g,a,n,c,rfl,h⟩)
 case' r2_4=>
  have e0:us 4=_:=hp 0;obtain ⟨g3,a3,n3,c3,e3,h3⟩:(ZV Nil (z-1)) (us 7) wj:=hp 3;rw [e0,e3] at hK⊢;go_simp
  refine (HA.o.1.call Nil _ g3 a3 n3 c3 (z-1) (H0.o.1.trans hk) (MB.nil _) (h3.zat pW) (by have h1:=HA.o.r5;have h4:=HA.o.2.2.1;have h5:=h3.len;omega)).mono ?_;rintro e wk ⟨g,a,n,c,rfl,h,hk2⟩;exact hK.out _ _ hk2 (⟨g,a,n,c,rfl,h⟩)
 case' r2_6=>
  obtain ⟨g4,a4,n4,c4,e4,h4⟩:(ZV Nil ((z-1).fdiv d)) (us 8) wj:=hp 4;obtain ⟨g5,a5,n5,c5,e5,h5⟩:(ZV Nil 1) (us 9) wj:=hp 5;rw [e4,e5] at hK⊢;go_simp
  refine (CP (M:=Old w0) (MB.gY hk.size) (h4.zat pW) (h5.zat nQ) (by have h1:=HA.o.r5;have h6:=HA.o.2.2.1;have h7:=h4.len;omega) (by have:=h5.len;have:=BK;omega)).mono ?_;rintro e wk ⟨g,a,n,c,rfl,h,hk2⟩;exact hK.out _ _ hk2 (⟨g,a,n,c,rfl,h⟩)
 case' rfn2=>
 intro us wz hkz hf;simp only [aQ,Act.put,sL];have e0:us 4=_:=hf 0;have e1:us 5=_:=hf 1;obtain ⟨g2,a2,n2,c2,e2,h2⟩:(ZV Nil 1) (us 6) wz:=hf 2;obtain ⟨g3,a3,n3,c3,e3,h3⟩:(ZV Nil (z-1)) (us 7) wz:=hf 3;obtain ⟨g4,a4,n4,c4,e4,h4⟩:(ZV Nil ((z-1).fdiv d)) (us 8) wz:=hf 4;obtain ⟨g5,a5,n5,c5,e5,h5⟩:(ZV Nil 1) (us 9) wz:=hf 5;obtain ⟨g6,a6,n6,c6,e6,h6⟩:(ZV (Old w0) ((z-1).fdiv d+1)) (us 10) wz:=hf 6;clear hf;simp only [e0,e1,e2,e3,e4,e5,e6];clear e0 e1 e2 e3 e4 e5 e6 us;refine aK 7 fun K hK=>?_;obtain ⟨z0,z1,z2,z3⟩:=(H0.o.2.2.1.keep hkz id).two;go_simp
 refine mK ?_;clear hK K;refine aR zX ?_ _;skip
 have r6:=(H0.o.2.2.1.keep hkz id).pair (u':=.bool g6) (v':=.slice a6 n6 c6);obtain ⟨y0,y1,-,-⟩:=r6.two;go_wp2_with fail
 exact bodyPost_ret (v:=.agg #[.bool g6,.slice a6 n6 c6]) (by simp [results,results177,go_sem,y0,y1]) rfl ⟨_,_,_,_,rfl,h6.move (aA.pair _ _) (fun b _ (hm:b=W.heap.size+1)=>rF) (fun b _ hm=>wH),((H0.o.1.trans hkz).own zZ (aA.pair _ _))⟩
theorem aYW {M M1 M2:Nat→Prop} {w:World} {ap ak:Option Addr} {np cp nk ck:Nat} {gk:Bool} {l:aM} {z:Int} (hM:MB M w) (h:bI M1 M2 w ap np cp l) (hk:ZAt Nil w gk ak nk ck z) (h1:np≤16777216) (h2:nk≤1073741824) (hw:Wee (bC ⟨l,z⟩)) :
  Calls prog 126 #[.agg #[.slice ap np cp,.bool gk,.slice ak nk ck]] w fun e w'=>Gives Nil (AV M (iG (bC ⟨l,z⟩))) w e w':=by
 have HH:=jJ (aI5 h hk h1 h2 hw);have HM:=jJ hM;have hne:∀p∈(bC ⟨l,z⟩).parts,p.2≠0:=aXW;have HNE:=jJ hne;clear h hk hM hw hne;go_enter func126,ntmps126
 go_upto_region 1 with (fail)
 obtain ⟨w0,e_3,k0,r0,r1⟩:=bx2 w 27 [.slice ap np cp,.bool gk,.slice ak nk ck] 82 [.int .i64 0,.bool false,.slice none 0 0,.slice none 0 0,.bool false,.slice none 0 0];rw [e_3];clear e_3;obtain ⟨c0,c1,c2⟩:=r0.three;have lr1:=r1.lt;have H0:=jJ (aI3 k0 r0 r1);clear k0 r0 r1;generalize hT:bC ⟨l,z⟩=T at *
 have HT:=jJ hT;clear hT;go_upto_region 2 with (go_at_call 83;refine (DN (M:=Old w0) (MB.old w0) (HH.o.1.eO H0.o.1) (HH.o.2.1.eO H0.o.1) h1 h2).mono ?_;rintro e w1 ⟨v,rfl,⟨bp,mp,dp,gb,ab,nb,cb,rfl,ht⟩,hk1⟩;rw [HT.o] at ht;have ra:=H0.o.2.1.keep hk1 id;obtain ⟨z0,z1,z2⟩:=ra.three;obtain ⟨z3,z4,z5⟩:=ra.iZ;have H1:=jJ (aI3 ht hk1 ra);clear ht hk1 ra)
 have ks1:=aA.triple (w:=w1) (g:=w.heap.size) (.slice bp mp dp) (.bool gb) (.slice ab nb cb);have ra:=H1.o.2.2.triple (.slice bp mp dp) (.bool gb) (.slice ab nb cb);have rb:=(H0.o.2.2.keep H1.o.2.1 id).keep ks1 (show ¬_=_ by omega);have q1:=H1.o.1.out (M:=Nil) zZ (fun _ hb=>hb.elim) ks1;have kq:aA Nil w _:=(H0.o.1.trans H1.o.2.1).own (bZ2 _) ks1;have ksz:w0.heap.size≤(((w1.setCell ⟨w.heap.size,0,none⟩ (.slice bp mp dp)).setCell ⟨w.heap.size,1,none⟩ (.bool gb)).setCell ⟨w.heap.size,2,none⟩ (.slice ab nb cb)).heap.size:=bZ1 H1.o.2.1.size ks1.size;clear z0 z1 z2 z3 z4 z5 ks1 H1 c0 c1 c2;generalize (((w1.setCell ⟨w.heap.size,0,none⟩ (.slice bp mp dp)).setCell ⟨w.heap.size,1,none⟩ (.bool gb)).setCell ⟨w.heap.size,2,none⟩ (.slice ab nb cb))=wq at *
 obtain ⟨c0,c1,c2⟩:=ra.three;have hmp:T.parts.length=mp:=eU.len q1.1;have HQ:=jJ (aI6 ra rb q1 kq ksz hmp);have hkk:=HH.o.r4;clear ra rb q1 kq ksz hmp;by_cases hm0:mp=0
 ·subst hm0;have hpn:T.parts=[]:=fZ1 HQ.o.r5;have hlv:iG T=eA (decide (T.k.sign > 0)):=by
   unfold iG;rw [if_pos hpn];congr 1;rw [decide_eq_decide];exact (Int.sign_pos_iff).symm
  have hsg:=kY (w:=wq) (HQ.o.2.2.1.2.zat (by have:=hkk.k;omega));obtain ⟨s,hs⟩:∃s,s=T.k.sign:=⟨_,rfl⟩;rw [←hs] at hsg hlv;have HS:=jJ (aI hsg hlv);clear hs hsg hlv hkk hpn;go_wp2_with (first|(go_at_call 55;refine HS.o.1.mono ?_;rintro e w2 ⟨rfl,hk2⟩)|(go_at_call 147;refine (OJ (M:=Old w0) _).mono ?_;rintro e w3 ⟨v,rfl,⟨gd,ad,nd,cd,ap',np',cp',gk',ak',nk',ck',rfl,hv⟩,hk3⟩;have r3:=(HQ.o.2.1.keep hk2 id).keep hk3 id;obtain ⟨z0,z1,z2,z3,z4,z5⟩:=r3.eZ;obtain ⟨y0,y1,y2,y3,y4,y5⟩:=r3.iY;have H3:=jJ (aI4 hv hk2 hk3 r3);clear hv hk3 r3))
  have r6:=H3.o.2.2.2.six (.int .i64 (eA (decide (0<s))).kind) (.bool gd) (.slice ad nd cd) (.slice ap' np' cp') (.bool gk') (.slice ak' nk' ck');obtain ⟨x0,x1,x2,x3,x4,x5⟩:=r6.eZ;refine bodyPost_ret (v:=.agg #[.int .i64 (eA (decide (0<s))).kind,.bool gd,.slice ad nd cd,.slice ap' np' cp',.bool gk',.slice ak' nk' ck']) rK rfl ⟨_,rfl,?_,(HQ.o.2.2.2.1.trans (H3.o.2.1.trans H3.o.2.2.1)).own zZ (aA.six _ _ _ _ _ _)⟩;rw [HT.o,HS.o.2];exact⟨_,_,_,_,_,_,_,_,_,_,_,rfl,H3.o.1.out lr1 (fun b hb=>yL) (aA.six _ _ _ _ _ _)⟩
 ·have hmi:¬(mp:Int)=0:=zZ;have hpn:¬T.parts=[]:=fun e=>hm0 (by rw [←HQ.o.r5,e];rfl);have hlv:iG T=⟨2,0,jO T (fun c=>c.fdiv (fH (cH T):Int)) fun k=>(k-1).fdiv (fH (cH T):Int)+1⟩:=by
   unfold iG;rw [if_neg hpn]
  have hg0:0<fH (cH T):=by
   cases hp:T.parts with
   | nil=>exact absurd hp hpn
   | cons p r=>exact PS ⟨p.2,by simp [cH,hp],HNE.o p (by rw [hp];exact kZ1 ..)⟩
  have hgl:eP (fH (cH T))≤536870912:=aFX _ fun z hz=>by
   obtain ⟨p,hp,rfl⟩:=iZ2.1 hz;exact hkk.parts p hp
  have hzf:∀z∈cH T,eP z.natAbs*4+4≤140737488355328:=fun z hz=>by
   obtain ⟨p,hp,rfl⟩:=iZ2.1 hz;have:=hkk.parts p hp;omega
  obtain ⟨G,hG⟩:∃G:Nat,G=fH (cH T):=⟨_,rfl⟩;rw [←hG] at hlv hg0 hgl;have hgi:(0:Int)<(G:Int):=zZ;have hmapp:∀p∈T.parts,eP p.2.natAbs≤1073741824∧eP (p.2.fdiv (G:Int)).natAbs≤1073741824:=fun p hp=>by
   have h1:=hkk.parts p hp;have h2:=BZ p.2 hgi;omega
  have hmapk:eP T.k.natAbs≤1073741824∧eP ((T.k-1).fdiv (G:Int)+1).natAbs≤1073741824:=by
   have h1:=hkk.k;have h2:=SI T.k;have h3:=BZ (T.k-1) hgi;have h4:=dK ((T.k-1).fdiv (G:Int)) 1;have h5:=BK;omega
  have HG:=jJ (aI8 hG hg0 hgl hgi hzf hmapp hmapk hlv);have hsf:∀(a:Addr) (m:Mode) (W:World) (f:Fn) (cb:Array Value),(store a (.func f #[] cb) m).run prog W=stored prog W a (.func f #[] cb) m:=fun a m W f cb=>run_store prog W a _ m rfl;have hmpl:mp≤16777216:=by have:=hkk.few;have:=HQ.o.r5;omega
  clear hG hg0 hgl hgi hzf hmapp hmapk hlv hkk hpn;go_wp2_with (first|(go_at_call 145;refine (aVO HQ.o.2.2.1.1 hmpl).mono ?_;rintro e w2 ⟨v,rfl,⟨vz,cz,els,rfl,o2,n2,q2⟩,hk2⟩;have H2:=jJ (aI4 o2 n2 q2 hk2);clear o2 n2 q2 hk2)|(go_at_call 144;refine (KP (M:=Nil) (MB.nil _) (nH.LZ H2.o.1 H2.o.2.1 (by rw [MN];exact HQ.o.r5) (zs:=cH T) H2.o.2.2.1 H2.o.2.2.2) HG.o.r4.1).mono ?_;rintro e w3 ⟨g3,a3,n3,c3,rfl,h3,hk3⟩;rw [←HG.o.1] at h3;have H3:=jJ (aI h3 hk3);clear h3 hk3)|(go_at_call 146;refine aID.mono ?_;rintro e w4 ⟨v,rfl,⟨b4,rfl,hr4,-⟩,hk4⟩;have h4:=KL hr4 ((H3.o.1.zat qP).eO hk4) (by have:=HG.o.2.2.2.1;omega) (by have h1:=H3.o.1.len;have h2:=HG.o.2.2.1;rw [Int.natAbs_natCast] at h1;omega);clear hr4;have ra4:=(((HQ.o.1.keep H2.o.2.2.2 id).keep H3.o.2 id).keep hk4 id).keep (M:=Nil) (w':=w4.alloc (.cells #[.func (.func 190) #[] #[.pointer (some ⟨b4,0,none⟩)]] 64)) kOf id;obtain ⟨t0,t1,t2⟩:=ra4.three;have H4:=jJ (aI h4 hk4);clear h4 hk4 ra4)|(go_at_call 143;refine (NM (M:=Old w0) (MB.gY (bZ1 HQ.o.r4.1 (bZ1 (H2.o.2.2.2.trans (H3.o.2.trans H4.o.2)).size zW))) (T:=T) (c:=fun x=>x.fdiv (G:Int)) (f:=fun k=>(k-1).fdiv (G:Int)+1) ((HQ.o.2.2.1.eO (H2.o.2.2.2.trans (H3.o.2.trans H4.o.2))).eO kOf) ((H4.o.1.eO kOf).mono zY) (aUG (aF.alloc (xs:=[.func (.func 190) #[] #[.pointer (some ⟨b4,0,none⟩)]])) (H4.o.1.eO kOf) HG.o.2.2.2.1) hmpl HG.o.r5.1 HG.o.r6.1).mono ?_;rintro e w5 ⟨v,rfl,⟨xp,yp,zp,gk',ak',nk',ck',rfl,hv⟩,hk5⟩;have r5:=((((HQ.o.2.1.keep H2.o.2.2.2 id).keep H3.o.2 id).keep H4.o.2 id).keep (M:=Nil) (w':=w4.alloc (.cells #[.func (.func 190) #[] #[.pointer (some ⟨b4,0,none⟩)]] 64)) kOf id).keep hk5 id;obtain ⟨z0,z1,z2,z3,z4,z5⟩:=r5.eZ;obtain ⟨y0,y1,y2,y3,y4,y5⟩:=r5.iY;have H5:=jJ (aI3 hv hk5 r5);clear hv hk5 r5))
  have kal:aA Nil w4 (w4.alloc (.cells #[.func (.func 190) #[] #[.pointer (some ⟨b4,0,none⟩)]] 64)):=kOf;have r6:=H5.o.2.2.six (.int .i64 2) (.bool false) (.slice none 0 0) (.slice xp yp zp) (.bool gk') (.slice ak' nk' ck');obtain ⟨x0,x1,x2,x3,x4,x5⟩:=r6.eZ;refine bodyPost_ret (v:=.agg #[.int .i64 2,.bool false,.slice none 0 0,.slice xp yp zp,.bool gk',.slice ak' nk' ck']) rK rfl ⟨_,rfl,?_,(HQ.o.2.2.2.1.trans (H2.o.2.2.2.trans (H3.o.2.trans (H4.o.2.trans (kal.trans H5.o.2.1))))).own zZ (aA.six _ _ _ _ _ _)⟩;rw [HT.o,HG.o.r7];exact⟨_,_,_,_,_,_,_,_,_,_,_,rfl,nR _ _,H5.o.1.out lr1 (fun b hb=>yL) (aA.six _ _ _ _ _ _)⟩
section
variable {T:aV} {d:Int} {c f:Int→Int}
structure mF (T:aV):Prop where
 fZ:fF T.parts
 wee:Wee T
theorem mP (l:aM):fF (dR l):=(CF l).fZ
theorem NA {q:aM} (h:q.Pairwise (fun a b=>a.1<b.1)) (c:Int→Int):(fG c q).Pairwise (fun a b=>a.1<b.1):=List.pairwise_map.2 h
theorem aAF {q:aM} (h:q.Pairwise (fun a b=>a.1<b.1)):dR q=q.filter (fun p=>decide (p.2≠0)):=by
 refine (mW.eq ⟨h.filter _,fun p=>?_⟩).symm;rw [kZ3];constructor
 ·rintro ⟨h1,h2⟩;exact⟨(fF.JD h p h1).symm,tW⟩
 ·rintro ⟨h1,h2⟩;rw [h1] at h2;obtain ⟨x,hx,e⟩:=CO h2;have:=fF.JD h x hx;rw [e,←h1] at this;have:p=x:=Prod.ext e.symm this;rw [this];refine ⟨hx,?_⟩;rw [←this,h1];simpa using h2
theorem aDD (h:fF T.parts):∀p∈(jO T c f).parts,∃q∈T.parts,p=(q.1,c q.2):=fun p hp=>by
 have hp':p∈dR (fG c T.parts):=hp;rw [aAF (NA h.rising c)] at hp';obtain ⟨q,hq,rfl⟩:=iZ2.1 (kZ3.1 hp').1;exact⟨q,hq,rfl⟩
theorem aMO (h:fF T.parts):(jO T c f).parts.length≤T.parts.length:=by
 show (dR (fG c T.parts)).length≤_
 rw [aAF (NA h.rising c)];exact bZ1 (List.length_filter_le _ _) (by simp [fG])
theorem aAR (h:mF T) (hc:∀p∈T.parts,eP (c p.2).natAbs≤536870912) (hf:eP (f T.k).natAbs≤536870912):mF (jO T c f):=
 ⟨mP _,⟨fun p hp=>by obtain ⟨q,hq,rfl⟩:=aDD h.fZ p hp;exact hc q hq,hf,bZ1 (aMO h.fZ) h.wee.few⟩⟩
theorem eE (h:fF T.parts):bC T=T:=by
 show (⟨dR T.parts,T.k⟩:aV)=T
 rw [MQ h]
theorem aLN (x:Int) (h:0<d):(x.fmod d).natAbs<d.natAbs:=by
 rw [Int.fmod_eq_emod_of_nonneg x (Int.le_of_lt h)];have h1:=Int.emod_nonneg x (by omega:d≠0);have h2:=Int.emod_lt_of_pos x h;omega
theorem AZ (x:Int) (h:0<d):eP (x.fmod d).natAbs≤eP d.natAbs:=lQ (Nat.le_of_lt (aLN x h))
theorem OA (h:mF T) (h0:0<d) (hd:eP d.natAbs≤536870912):mF (dU d T):=
 aAR h (fun p _=>bZ1 (AZ _ h0) hd) (bZ1 (AZ _ h0) hd)
theorem GZ (h0:0<d):0<gB d T:=PS ⟨d,zW,zZ⟩
theorem aQZ (h:mF T) (h0:0<d) (hd:eP d.natAbs≤536870912):eP (gB d T)≤536870912:=aFX _ fun z hz=>by
 rcases jZ1.1 hz with hz|hz
 ·obtain ⟨p,hp,rfl⟩:=iZ2.1 hz;exact (OA h h0 hd).wee.parts p hp
 ·rw [dZ1.1 hz];exact hd
theorem VA (d:Int) (T:aV):(gB d T:Int)∣d:=DT _ _ zW
theorem GV (h0:0<d):0<eC d T:=by
 have hg:=GZ (T:=T) h0;obtain ⟨x,hx⟩:=VA d T;unfold eC;have hgi:(0:Int)<(gB d T:Int):=zZ;rw [Int.fdiv_eq_ediv_of_nonneg d (Int.le_of_lt hgi)];have:0<x:=by
  rcases Int.lt_trichotomy x 0 with h|h|h
  ·have:=Int.mul_neg_of_pos_of_neg hgi h;omega
  ·subst h;simp at hx;omega
  ·exact h
 conv=>rhs;arg 1;rw [hx]
 rw [Int.mul_ediv_cancel_left _ zZ];exact this
theorem aCH (h0:0<d) (hd:eP d.natAbs≤536870912):eP (eC d T).natAbs≤536870912:=
 bZ1 (BZ d (by have:=GZ (T:=T) h0;omega)) hd
theorem aCD (h:mF T) (h0:0<d) (hd:eP d.natAbs≤536870912):mF (dE d T):=by
 have hg:=GZ (T:=T) h0;have h1:=OA h h0 hd;exact aAR h1 (fun p hp=>bZ1 (BZ _ zZ) (h1.wee.parts p hp)) (bZ1 (BZ _ zZ) h1.wee.k)
theorem aHQ (T:aV) (h:fF T.parts):gU (-1) T 0 bK=⟨mulL (-1) T.parts,-T.k⟩:=by
 have hn:fF (mulL (-1) T.parts):=⟨List.pairwise_map.2 h.rising,fun p hp=>by
  obtain ⟨q,hq,rfl⟩:=iZ2.1 hp;have:=h.some q hq;simp only;omega⟩
 unfold gU;have e:mulL (-1) T.parts++mulL 0 bK.parts=mulL (-1) T.parts:=by simp [mulL,bK]
 rw [e,MQ hn];simp [bK]
theorem ZM (h:mF T):mF (gU (-1) T 0 bK):=by
 rw [aHQ T h.fZ];refine ⟨?_,⟨fun p hp=>?_,?_,?_⟩⟩
 ·have:=mP (mulL (-1) T.parts);refine ⟨List.pairwise_map.2 h.fZ.rising,fun p hp=>?_⟩;obtain ⟨q,hq,rfl⟩:=iZ2.1 hp;have:=h.fZ.some q hq;simp only;omega
 ·obtain ⟨q,hq,rfl⟩:=iZ2.1 hp;have:=h.wee.parts q hq;simp only [Int.neg_mul,Int.one_mul,Int.natAbs_neg];exact this
 ·simp only [Int.natAbs_neg];exact h.wee.k
 ·simp only [mulL,hZ1];exact h.wee.few
theorem aQU (h:mF T) (h0:0<d) (hd:eP d.natAbs≤536870912):mF (iJ d T):=
 OA (ZM (aCD h h0 hd)) (GV h0) (aCH h0 hd)
theorem mF.fits (h:mF T):Go.Proofs.Q.YA T:=⟨fun p hp=>by have:=h.wee.parts p hp;omega,by have:=h.wee.k;omega⟩
end
end Go.Proofs.Q
