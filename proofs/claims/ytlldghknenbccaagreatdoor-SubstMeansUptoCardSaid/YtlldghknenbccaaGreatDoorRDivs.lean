/- What zint.DivMod does: quotient and remainder, rounded down. -/
import Derived.Test.YtlldghknenbccaaGreatDoorRRegions
import Derived.Test.YtlldghknenbccaaGreatDoorRMuls
import Derived.Test.YtlldghknenbccaaGreatDoorRShelf
set_option linter.unusedSimpArgs false
set_option linter.unusedVariables false
set_option maxRecDepth 100000
set_option maxHeartbeats 4000000
namespace Go.Proofs.Q
open Go.RowKit Tryz
section
variable {M:Nat→Prop} {w:World} {a:Option Addr} {z z2:Int} {s:Bool} {n c:Nat}
def aKD (m:Nat):Prop:=∀⦃M:Nat→Prop⦄ ⦃a a2:Option Addr⦄ ⦃n c n2 c2:Nat⦄ ⦃l l2:List Nat⦄ ⦃w:World⦄,MB M w→aU Nil w a n c l→aU Nil w a2 n2 c2 l2→n*4+4≤140737488355328→n2*4+4≤140737488355328→nval l2=m →
    Calls prog 100 #[.slice a n c,.slice a2 n2 c2] w fun e w'=>∃a' c' a4 c4,e=.returned (.tuple #[.slice a' (eP (nval l / nval l2)) c',.slice a4 (eP (nval l % nval l2)) c4,.int .i64 0]) ∧
      aU M w' a' (eP (nval l / nval l2)) c' (bH (nval l / nval l2))∧aU M w' a4 (eP (nval l % nval l2)) c4 (bH (nval l % nval l2))∧aA Nil w w'
def nE (M:Nat→Prop) (w:World) (b:Nat) (z:Int):Prop:=∃g a n c,aF w b 25 [.bool g,.slice a n c]∧ZN M w g a n c z
theorem nE.keep {M:Nat→Prop} {w w':World} {b:Nat} {z:Int} (h:nE M w b z) (k:aA Nil w w'):nE M w' b z:=by
  obtain ⟨g,a,n,c,h1,h2⟩:=h;exact⟨g,a,n,c,h1.keep k id,h2.eO k⟩
theorem nE.other {b g k p:Nat} {u v:Value} (h:nE (Box M p k) w b z) (hp:p≤g∧g<p+k) (hne:¬b=g):nE (Box M p k) ((w.setCell ⟨g,0,none⟩ u).setCell ⟨g,1,none⟩ v) b z:=by
  obtain ⟨g',a,n,c,h1,h2⟩:=h;exact⟨g',a,n,c,h1.BH hne,h2.step (aA.FB w hp u v)⟩
theorem nE.store {g k p:Nat} {z':Int} (h:nE (Box M p k) w g z) (hp:p≤g∧g<p+k) (hz:ZN (Box M p k) w s a n c z'):nE (Box M p k) ((w.setCell ⟨g,0,none⟩ (.bool s)).setCell ⟨g,1,none⟩ (.slice a n c)) g z':=by
  obtain ⟨g',a',n',c',h1,h2⟩:=h;exact⟨s,a,n,c,h1.pair,hz.step (aA.FB w hp _ _)⟩
structure Four (M:Nat→Prop) (w:World) (z z2 q r:Int) (wx:World):Prop where
  k:aA Nil w wx
  i0:nE (Box M w.heap.size 4) wx w.heap.size z
  i1:nE (Box M w.heap.size 4) wx (w.heap.size+1) z2
  i2:nE (Box M w.heap.size 4) wx (w.heap.size+1+1) q
  i3:nE (Box M w.heap.size 4) wx (w.heap.size+1+1+1) r
theorem Four.keep {M:Nat→Prop} {w wx wy:World} {z z2 q r:Int} (h:Four M w z z2 q r wx) (k:aA Nil wx wy):Four M w z z2 q r wy:=
  ⟨h.k.trans k,h.i0.keep k,h.i1.keep k,h.i2.keep k,h.i3.keep k⟩
theorem Four.last {wx:World} {q r q' r':Int} {s':Bool} {a':Option Addr} {n' c':Nat} (h:Four M w z z2 q r wx) (hq:ZN (Box M w.heap.size 4) wx s a n c q') (hr:ZN (Box M w.heap.size 4) wx s' a' n' c' r') :
    Four M w z z2 q' r' ((((wx.setCell ⟨w.heap.size+1+1,0,none⟩ (.bool s)).setCell ⟨w.heap.size+1+1,1,none⟩ (.slice a n c)).setCell ⟨w.heap.size+1+1+1,0,none⟩ (.bool s')).setCell ⟨w.heap.size+1+1+1,1,none⟩ (.slice a' n' c')):=by
  have p2:w.heap.size≤w.heap.size+1+1∧w.heap.size+1+1<w.heap.size+4:=zZ;have p3:w.heap.size≤w.heap.size+1+1+1∧w.heap.size+1+1+1<w.heap.size+4:=zZ;exact⟨(h.k.boxed (bZ2 _) (aA.FB _ p2 _ _)).boxed (bZ2 _) (aA.FB _ p3 _ _),(h.i0.other p2 zZ).other p3 zZ,(h.i1.other p2 zZ).other p3 zZ,(h.i2.store p2 hq).other p3 zZ,(h.i3.other p2 zZ).store p3 (hr.step (aA.FB _ p2 _ _))⟩
def bDI (M:Nat→Prop) (w:World) (z z2:Int) (e:Ending) (w':World):Prop:=∃g3 a3 n3 c3 g4 a4 n4 c4,e=.returned (.tuple #[.agg #[.bool g3,.slice a3 n3 c3],.agg #[.bool g4,.slice a4 n4 c4],.int .i64 0])∧ZN M w' g3 a3 n3 c3 (z.fdiv z2)∧ZN M w' g4 a4 n4 c4 (z.fmod z2)∧aA Nil w w'
theorem aAN {g g2:Bool} {a2:Option Addr} {n2 c2:Nat} (hD:aKD z2.natAbs) (hM:MB M w) (h:ZAt Nil w g a n c z) (h2:ZAt Nil w g2 a2 n2 c2 z2) (h0:z2≠0) (hn:n*4+4≤140737488355328) (hn2:n2*4+4≤140737488355328) :
    Calls prog 56 #[.agg #[.bool g,.slice a n c],.agg #[.bool g2,.slice a2 n2 c2]] w fun e w'=>bDI M w z z2 e w':=by
  have hl:=h.iD;have hl2:=h2.iD;have HN:=jJ (show eP z.natAbs*4+4≤140737488355328∧eP z2.natAbs*4+4≤140737488355328 by omega);have HA:=jJ h;have HB:=jJ h2;have HM:=jJ hM;have HD:=jJ hD;have H00:=jJ h0;have HRS:=jJ (bCF w 25 (.bool g) (.slice a n c) (.bool g2) (.slice a2 n2 c2) (.bool false) (.slice none 0 0) (.bool false) (.slice none 0 0));clear h h2 hM hn hn2 hl hl2 hD h0;go_enter func56,ntmps56
  go_wp2_with fail
  obtain ⟨r0,r1,r2,r3,hk0⟩:=HRS.o;clear HRS;generalize ((((w.alloc (.cells #[.bool g,.slice a n c] 25)).alloc (.cells #[.bool g2,.slice a2 n2 c2] 25)).alloc (.cells #[.bool false,.slice none 0 0] 25)).alloc (.cells #[.bool false,.slice none 0 0] 25))=w0 at *
  have ne01:¬w.heap.size=w.heap.size+1:=zZ;have ne02:¬w.heap.size=w.heap.size+1+1:=zZ;have ne03:¬w.heap.size=w.heap.size+1+1+1:=zZ;have ne10:¬w.heap.size+1=w.heap.size:=zZ;have ne12:¬w.heap.size+1=w.heap.size+1+1:=zZ;have ne13:¬w.heap.size+1=w.heap.size+1+1+1:=zZ;have ne20:¬w.heap.size+1+1=w.heap.size:=zZ;have ne21:¬w.heap.size+1+1=w.heap.size+1:=zZ;have ne23:¬w.heap.size+1+1=w.heap.size+1+1+1:=zZ;have ne30:¬w.heap.size+1+1+1=w.heap.size:=zZ;have ne31:¬w.heap.size+1+1+1=w.heap.size+1:=zZ;have ne32:¬w.heap.size+1+1+1=w.heap.size+1+1:=zZ;obtain ⟨c00,c01,f00,f01⟩:=r0.two;obtain ⟨c10,c11,f10,f11⟩:=r1.two;have b0:=r0.lt;have b1:=r1.lt;have b3:=r3.lt;have HX:=jJ (HM.o.box (b:=w.heap.size) (k:=4) hk0 zZ);have HA0:=jJ (HA.o.eO hk0);have HB0:=jJ (HB.o.eO hk0);have H0:=jJ (aI5 hk0 r0 r1 r2 r3);clear hk0 r0 r1 r2 r3;go_cut [] (fun wx=>Four M w z z2 0 0 wx)
  case first=>
    go_region_with (first|(go_at_call_of 91 (Value.agg #[.bool g,.slice a n c]);refine (EX (HX.o.keep (M':=Nil) kOf) (HA0.o.eO kOf)).mono ?_;rintro e w1 ⟨g3,a3,n3,c3,rfl,h1,hk1⟩;have d10:=hk1.eY b1 id c10;have d11:=hk1.eY b1 id c11)|(go_at_call_of 91 (Value.agg #[.bool g2,.slice a2 n2 c2]);refine (EX (HX.o.keep ((aA.trans (M:=Nil) kOf hk1).trans kOf)) (HB0.o.eO ((aA.trans (M:=Nil) kOf hk1).trans kOf))).mono ?_;rintro e w2 ⟨g4,a4,n4,c4,rfl,h2,hk2⟩;have hk:=(aA.trans (M:=Nil) (a:=w0) kOf hk1).trans (aA.trans (M:=Nil) (a:=w1) kOf hk2);have q0:=H0.o.2.1.keep hk id;have q1:=H0.o.2.2.1.keep hk id;have q2:=H0.o.2.2.2.1.keep hk id;have q3:=H0.o.r4.keep hk id;have h1':=h1.eO (aA.trans (M:=Nil) (a:=w1) kOf hk2);have HT:=jJ (aI7 h1' h2 q0 q1 q2 q3 hk);obtain ⟨d00,d01,e00,e01⟩:=q0.two;obtain ⟨d10',d11',e10,e11⟩:=q1.two;clear h1 h2 hk hk1 hk2 h1' q0 q1 q2 q3))
    all_goals
      go_wp2_with fail
      go_meet
      have s1:=aA.FB (b:=w.heap.size) (k:=4) w2 (g:=w.heap.size) zZ (.bool g3) (.slice a3 n3 c3);have s2:=aA.FB (b:=w.heap.size) (k:=4) ((w2.setCell ⟨w.heap.size,0,none⟩ (.bool g3)).setCell ⟨w.heap.size,1,none⟩ (.slice a3 n3 c3)) (g:=w.heap.size+1) zZ (.bool g4) (.slice a4 n4 c4);exact⟨(((H0.o.1.trans HT.o.r6).boxed (bZ2 _) s1).boxed (bZ2 _) s2),⟨_,_,_,_,(HT.o.2.2.1.pair).BH ne01,(HT.o.1.step s1).step s2⟩,⟨_,_,_,_,(HT.o.2.2.2.1.BH ne10).pair,(HT.o.2.1.step s1).step s2⟩,⟨_,_,_,_,(HT.o.r4.1.BH zZ).BH zZ,ZN.zero⟩,⟨_,_,_,_,(HT.o.r5.1.BH zZ).BH zZ,ZN.zero⟩⟩
  case rest=>
    have HF:=jJ hcut;obtain ⟨hk,⟨g3,a3,n3,c3,q0,z0⟩,⟨g4,a4,n4,c4,q1,z1⟩,⟨g5,a5,n5,c5,q2,z5⟩,⟨g6,a6,n6,c6,q3,z6⟩⟩:=hcut;obtain rfl:=z0.1;obtain rfl:=z1.1;obtain ⟨x00,x01,y00,y01⟩:=q0.two;obtain ⟨x10,x11,y10,y11⟩:=q1.two;have HX1:=jJ (HM.o.box (b:=w.heap.size) (k:=4) hk (by have:=q3.lt;omega));have HZ:=jJ (aI z0 z1);have HQ:=jJ (aI4 q0 q1 q2 q3);clear HX HA0 HB0 H0 c00 c01 f00 f01 c10 c11 f10 f11 b0 b1 b3 hk q0 q1 q2 q3 z0 z1 z5 z6;go_wp2_with (go_at_call 100;refine (HD.o HX1.o HZ.o.1.2.gK HZ.o.2.2.gK (FC HZ.o.1 HN.o.1) (FC HZ.o.2 HN.o.2) (cS _)).mono ?_;rintro e w3 ⟨a7,c7,a8,c8,rfl,h7,h8,hk3⟩;rw [cS,cS] at *;have q0:=HQ.o.1.keep hk3 id;have q1:=HQ.o.2.1.keep hk3 id;have q2:=HQ.o.2.2.1.keep hk3 id;have q3:=HQ.o.2.2.2.keep hk3 id;have b0:=q0.lt;have b1:=q1.lt;have HF3:=jJ (HF.o.keep hk3);have HX3:=jJ (HX1.o.keep hk3);have HZ3:=jJ (aI (HZ.o.1.eO hk3) (HZ.o.2.eO hk3));have H78:=jJ (aI h7 h8);obtain ⟨p00,p01,_,_⟩:=q0.two;obtain ⟨p10,p11,_,_⟩:=q1.two;obtain ⟨p20,p21,o20,o21⟩:=q2.two;obtain ⟨p30,p31,o30,o31⟩:=q3.two;have HQ3:=jJ (aI q2 q3);clear HF h7 h8 HQ HX1 HZ hk3 q0 q1 q2 q3 x00 x01 x10 x11 y00 y01 y10 y11)
    go_cut [] (fun wx=>Four M w z z2 (BU z z2) (gI z z2) wx)
    case' first=>
      go_region_held3 (fun w'=>w'.cell? ⟨w.heap.size,0,none⟩=some (.bool (neg z))∧w'.cell? ⟨w.heap.size+1,0,none⟩=some (.bool (neg z2))) (go_keep) (first|(go_at_call_of 92 (Value.slice a7 (eP (z.natAbs / z2.natAbs)) c7);refine (nL (HX3.o.keep (M':=Nil) kOf) ((FE _ H78.o.1.gK (by have:=lQ (Nat.div_le_self z.natAbs z2.natAbs);have:=HN.o.1;omega)).eO kOf)).mono ?_;rintro e w4 ⟨g5',a5',n5',c5',rfl,h5,hk4⟩;have d0:=hk4.eY b0 id p00;have d1:=hk4.eY b1 id p10;have H5:=jJ h5;clear h5)|(go_at_call_of 92 (Value.slice a8 (eP (z.natAbs % z2.natAbs)) c8);refine (nL (HX3.o.keep (aA.trans (M:=Nil) (a:=w3) kOf (hk4.trans kOf))) ((FE _ H78.o.2.gK (by have:=lQ (Nat.mod_le z.natAbs z2.natAbs);have:=HN.o.1;omega)).eO (aA.trans (M:=Nil) (a:=w3) kOf (hk4.trans kOf)))).mono ?_;rintro e w5 ⟨g6',a6',n6',c6',rfl,h6,hk5⟩;have hk:=(aA.trans (M:=Nil) (a:=w3) kOf hk4).trans (aA.trans (M:=Nil) (a:=w4) kOf hk5);have d2:=hk.eY b0 id p00;have d3:=hk.eY b1 id p10;have q2:=HQ3.o.1.keep hk id;have q3:=HQ3.o.2.keep hk id;obtain ⟨_,_,o20',o21'⟩:=q2.two;obtain ⟨_,_,o30',o31'⟩:=q3.two;have H6:=jJ (aI3 (H5.o.eO (aA.trans (M:=Nil) (a:=w4) kOf hk5)) h6 hk);clear h6 q2 q3))
      all_goals
        go_wp2_with fail
        go_meet
        exact (HF3.o.keep hk).last (q':=BU z z2) (r':=gI z z2) H6.o.1 H6.o.2.1
    have HF5:=jJ hcut;clear hcut;rename World=>wd;obtain ⟨hkd,⟨g0',a0',n0',c0',q0,z0⟩,⟨g1',a1',n1',c1',q1,z1⟩,⟨g2',a2',n2',c2',q2,z2'⟩,⟨g7,a7',n7,c7',q3,z3⟩⟩:=HF5.o;obtain rfl:=z0.1;obtain rfl:=z1.1;obtain rfl:=z2'.1;obtain rfl:=z3.1;have hlen:=z3.len;obtain ⟨u00,u01,_,_⟩:=q0.two;obtain ⟨u10,u11,_,_⟩:=q1.two;obtain ⟨u20,u21,v20,v21⟩:=q2.two;obtain ⟨u30,u31,v30,v31⟩:=q3.two;have b2:=q2.lt;have b3:=q3.lt;have b1':=q1.lt;have HXd:=jJ (HM.o.box (b:=w.heap.size) (k:=4) hkd zZ);have HZd:=jJ (aI3 z1 z2' z3);have HQd:=jJ (aI4 q0 q1 q2 q3);have HL:=jJ hlen;clear HF3 HX3 HZ3 H78 HQ3 p00 p01 p10 p11 p20 p21 p30 p31 b0 b1 o20 o21 o30 o31 hkd q0 q1 q2 q3 z0 z1 z2' z3 hlen;have hpos:0<n7↔gI z z2≠0:=by
      rw [HL.o];constructor
      · intro h e
        rw [e] at h;simp [eP,bT] at h
      · intro h
        rcases Nat.eq_zero_or_pos (eP (gI z z2).natAbs) with h'|h'
        · have:=nK (gI z z2).natAbs
          rw [h'] at this;simp at this;exact absurd this h
        · exact h'
    have HP:=jJ hpos;clear hpos;go_upto_region 6 with (fail)
    go_cut [48] (fun s wx=>s=.bool (decide (gI z z2≠0∧¬neg (gI z z2)=neg z2))∧wx=wd)
    case' first=>
      by_cases h0:gI z z2=0
      · have hn:n7=0:=by have:=HP.o;omega
        have HE:=jJ (show decide (gI z z2≠0∧¬neg (gI z z2)=neg z2)=false by simp [h0]);have hn':¬0<n7:=zZ;clear h0 hn;go_wp2_with fail
        go_meet
        exact⟨by rw [HE.o],rfl⟩
      · have hn':0<n7:=HP.o.2 h0
        have HE:=jJ (show decide (gI z z2≠0∧¬neg (gI z z2)=neg z2)=(neg (gI z z2) != neg z2) by generalize neg (gI z z2)=p at *;generalize neg z2=q at *;cases p<;>cases q<;>simp [h0]);clear h0;go_wp2_with fail
        go_meet
        exact⟨uH,rfl⟩
    obtain ⟨rfl,rfl⟩:=hcut;go_upto_if 48 with (fail)
    go_cut [] (fun wx=>Four M w z z2 (z.fdiv z2) (z.fmod z2) wx)
    case' first=>
     by_cases hc:gI z z2≠0∧¬neg (gI z z2)=neg z2
     · have hf:=aRD H00.o hc.1 hc.2
       rw [decide_eq_true hc];have HC:=jJ hf;clear hc hf;have HY:=jJ (aI4 (HXd.o) (HZd.o.1.zat HN.o.2) (HZd.o.2.1.zat pI) (HZd.o.2.2.zat pH));have HFit:=jJ (aI3 (FC HZd.o.1 HN.o.2) (FC HZd.o.2.1 pI) (FC HZd.o.2.2 pH));go_wp2_with fail
       refine RU (aA Nil wc) [6,7] zX ?_;have hS:aA Nil wc (World.drew wc):=kOf;refine ND (i:=0) (v:=?v1) rfl zX (fun _ _ _ h=>h) (Or.inl ⟨zU,?y1⟩) hS ?r1
       case y1=>exact xD
       try simp only [Act.put,sL]
       refine ND (i:=3) (v:=?v2) rfl zX (fun _ _ _ h=>h) (Or.inl ⟨zU,?y2⟩) hS ?r2
       case y2=>exact xD
       try simp only [Act.put,sL]
       refine ND (i:=4) (v:=?v3) rfl zX (fun _ _ _ h=>h) (Or.inl ⟨zU,?y3⟩) hS ?r3
       case y3=>exact xD
       try simp only [Act.put,sL]
       refine aK 1 fun K hK=>?_;go_simp
       refine (kZ (M:=Box M w.heap.size 4) (z:=1) (HY.o.1.keep hS) zZ zZ).mono ?_;rintro e w1 ⟨g8,a8',n8,c8',rfl,h8,hk⟩;refine hK.out _ _ (fun h=>h.trans hk) ?_;clear hK K;try simp only [Act.put,sL]
       replace hS:=hS.trans hk;have H8:=jJ h8;clear hk h8;refine aK 2 fun K hK=>?_;go_simp
       refine (aGX (HY.o.1.keep hS) (HY.o.2.2.1.eO hS) (H8.o.zat nQ) HFit.o.2.1 (FC H8.o nQ)).mono ?_;rintro e w1 ⟨g9,a9,n9,c9,rfl,h9,hk⟩;refine hK.out _ _ (fun h=>h.trans hk) ?_;clear hK K;try simp only [Act.put,sL]
       replace hS:=hS.trans hk;have H9:=jJ h9;clear hk h9;refine aK 5 fun K hK=>?_;go_simp
       refine (CP (HY.o.1.keep hS) (HY.o.2.2.2.eO hS) (HY.o.2.1.eO hS) HFit.o.2.2 HFit.o.1).mono ?_;rintro e w1 ⟨g10,a10,n10,c10,rfl,h10,hk⟩;refine hK.out _ _ (fun h=>h.trans hk) ?_;clear hK K;try simp only [Act.put,sL]
       replace hS:=hS.trans hk;have H10:=jJ (aI h10 (H9.o.eO hk));have q2:=HQd.o.2.2.1.keep hS id;have q3:=HQd.o.2.2.2.keep hS id;obtain ⟨_,_,o20,o21⟩:=q2.two;obtain ⟨_,_,o30,o31⟩:=q3.two;have HS:=jJ hS;clear hk h10 q2 q3 hS;have HL4:=jJ (HC.o.1 ▸ HC.o.2 ▸ (HF5.o.keep HS.o).last (q':=BU z z2-1) (r':=gI z z2+z2) H10.o.2 H10.o.1);refine bV (rs:=[6]) zX zW ?_;refine aZ.LU rfl zY (fun K hK=>?_) aZ.nil;go_simp
       refine hK.out _ _ ?_;clear hK K;try simp only [Act.put,sL]
       refine bV (rs:=[7]) zX zW ?_;refine aZ.LU rfl zY (fun K hK=>?_) aZ.nil;go_simp
       refine hK.out _ _ ?_;clear hK K;try simp only [Act.put,sL]
       refine aR zX ?_ _;go_wp2_with fail
       go_meet
       exact HL4.o
     · have hf:=aRK (z:=z) H00.o (by by_cases h:gI z z2=0;exact .inl h;exact .inr (by by_cases h2:neg (gI z z2)=neg z2;exact h2;exact absurd ⟨h,h2⟩ hc))
       rw [decide_eq_false hc];have HC:=jJ hf;clear hf hc;have HL4:=jJ (HC.o.1 ▸ HC.o.2 ▸ HF5.o);go_wp2_with fail
       go_meet
       exact HL4.o
    obtain ⟨hk,⟨_,_,_,_,_,_⟩,⟨_,_,_,_,_,_⟩,⟨g8,a8',n8,c8',q2,z8⟩,⟨g9,a9',n9,c9',q3,z9⟩⟩:=hcut;obtain ⟨x20,x21,y20,y21⟩:=q2.two;obtain ⟨x30,x31,y30,y31⟩:=q3.two;have d2:=q2.lt;have d3:=q3.lt;have HE:=jJ (aI3 hk z8 z9);have HQ:=jJ (aI q2 q3);clear hk z8 z9 HQd HZd HXd HF5 HP HL b2 b3 b1' v20 v21 v30 v31;go_wp2_with fail
    obtain ⟨k1,k2,_,_⟩:=(q2.pair (u':=.bool g8) (v':=.slice a8' n8 c8')).two;obtain ⟨k3,k4,_,_⟩:=((q2.pair (u':=.bool g8) (v':=.slice a8' n8 c8')).BH (u:=.bool g9) (v:=.slice a9' n9 c9') ne23).two;obtain ⟨k5,k6,_,_⟩:=((q3.BH (u:=.bool g8) (v:=.slice a8' n8 c8') ne32).pair (u':=.bool g9) (v':=.slice a9' n9 c9')).two;go_region_held3 (fun w'=>w'.cell? ⟨w.heap.size+1+1,0,none⟩=some (.bool g8)∧w'.cell? ⟨w.heap.size+1+1,1,none⟩=some (.slice a8' n8 c8')∧w'.cell? ⟨w.heap.size+1+1+1,0,none⟩=some (.bool g9)∧w'.cell? ⟨w.heap.size+1+1+1,1,none⟩=some (.slice a9' n9 c9')) (go_keep) (fail)
    all_goals
      go_wp2_with fail
      refine bodyPost_ret (v:=.tuple #[.agg #[.bool g8,.slice a8' n8 c8'],.agg #[.bool g9,.slice a9' n9 c9'],.int .i64 0]) ?_ rfl ?_
      · simp [results,results56,go_sem,x20,x21,x30,x31,y20,y21,y30,y31]
      · exact⟨_,_,_,_,_,_,_,_,rfl,(HE.o.2.1.step yG).unbox,(HE.o.2.2.step yG).unbox,HE.o.1.boxed (b:=w.heap.size) (k:=4) (bZ2 _) yG⟩
end
theorem aVE (f x:Nat) (h:x<2 ^ f):x<2 ^ Lib.bitLenAux f x:=by
  induction f generalizing x with
  | zero=>simpa [Lib.bitLenAux] using h
  | succ f ih=>
    unfold Lib.bitLenAux;split
    · rename_i h0;subst h0;exact Nat.two_pow_pos _
    · have:=ih (x / 2) (by rw [Nat.pow_succ] at h;omega)
      rw [Nat.add_comm,Nat.pow_succ];omega
theorem aJU {n k:Nat} (h:Bs ^ k≤n):k<eP n:=by
  rcases Nat.lt_or_ge k (eP n) with h1|h1
  · exact h1
  · have:=nK n
    have:=Nat.pow_le_pow_right iI h1;omega
theorem aYY {tb:List Nat} {nb m1 k:Nat} (hs:Small tb) (hl:tb.length=nb) (hm:nb=m1+1) (hk:k<32) (h0:lim tb m1≠0) (hlt:lim tb m1*2 ^ k<4294967296) :
    top (iQ tb (2 ^ k))=nb∧nval (iQ tb (2 ^ k))=nval tb*2 ^ k∧nval tb*2 ^ k<Bs ^ nb∧Bs ^ m1≤nval tb:=by
  obtain ⟨t1,t2,t3⟩:=GD hs (GX hk);have hv:=bS tb m1;rw [eZ1 zZ] at hv;have hlow:=nM (hs.take m1);rw [iZ1,Nat.min_eq_left zZ] at hlow;have hp:2 ^ k*2 ^ (32-k)=4294967296:=VF hk;have hb1:lim tb m1+1≤2 ^ (32-k):=by
    have:lim tb m1*2 ^ k<2 ^ (32-k)*2 ^ k:=by rw [Nat.mul_comm (2 ^ (32-k)),hp];exact hlt
    exact Nat.lt_of_mul_lt_mul_right this
  have hge:Bs ^ m1≤nval tb:=by
    rw [hv];have:Bs ^ m1*1≤Bs ^ m1*lim tb m1:=Nat.mul_le_mul_left _ zZ;omega
  have hup:nval tb*2 ^ k<Bs ^ nb:=by
    have h1:nval tb<Bs ^ m1*2 ^ (32-k):=by
      have:Bs ^ m1*(lim tb m1+1)≤Bs ^ m1*2 ^ (32-k):=Nat.mul_le_mul_left _ hb1;rw [Nat.mul_add,Nat.mul_one] at this;omega
    calc nval tb*2 ^ k<Bs ^ m1*2 ^ (32-k)*2 ^ k:=Nat.mul_lt_mul_of_pos_right h1 (Nat.two_pow_pos _)
      _=Bs ^ nb:=by rw [Nat.mul_assoc,Nat.mul_comm (2 ^ (32-k)),hp,hm,Nat.pow_succ,cY]
  have hval:nval (iQ tb (2 ^ k))=nval tb*2 ^ k:=by rw [t3,Nat.mul_comm]
  refine ⟨?_,hval,hup,hge⟩;rw [iN t2,hval];have h1:eP (nval tb*2 ^ k)≤nb:=dD hup;have h2:m1<eP (nval tb*2 ^ k):=aJU (bZ1 hge (Nat.le_mul_of_pos_right _ (Nat.two_pow_pos _)));show eP _=nb
  omega
theorem aVL {A B na m1 nb L k:Nat} (hA:A<Bs ^ na) (hB:Bs ^ m1≤B) (hm:nb=m1+1) (hL:L+nb=na+1):A*2 ^ k<B*2 ^ k*Bs ^ L:=by
  have h1:Bs ^ na=Bs ^ m1*Bs ^ L:=by rw [←Nat.pow_add];congr 1;omega
  have h2:Bs ^ m1*Bs ^ L≤B*Bs ^ L:=Nat.mul_le_mul_right _ hB
  calc A*2 ^ k<B*Bs ^ L*2 ^ k:=Nat.mul_lt_mul_of_pos_right zZ (Nat.two_pow_pos _)
    _=B*2 ^ k*Bs ^ L:=by rw [Nat.mul_assoc,Nat.mul_comm (Bs ^ L),←Nat.mul_assoc]
section
variable {w:World} {M:Nat→Prop} {a2 a:Option Addr} {nb g b m:Nat} {l2 tb ul l X:List Nat} {E:TypeId}
theorem aZN {xl y k kr:Nat} (hk:k<32) (hkr:kr=32-k) (hx:xl<2 ^ kr) (hy:y<4294967296):bits .or .u32 (xl:Int) ((y:Int)*2 ^ kr % 4294967296)=((xl+y % 2 ^ k*2 ^ kr:Nat):Int):=by
  have hp:2 ^ k*2 ^ kr=4294967296:=by rw [hkr];exact VF hk
  have e1:((y:Int)*2 ^ kr % 4294967296)=((y % 2 ^ k*2 ^ kr:Nat):Int):=by
    have:(y*2 ^ kr) % 4294967296=y % 2 ^ k*2 ^ kr:=by rw [←hp,Nat.mul_mod_mul_right]
    rw [←this,Int.natCast_emod,Int.natCast_mul,Int.natCast_pow];rfl
  have h2:(y % 2 ^ k+1)*2 ^ kr≤2 ^ k*2 ^ kr:=Nat.mul_le_mul_right _ (Nat.mod_lt _ (Nat.two_pow_pos _));rw [hp,Nat.add_mul,Nat.one_mul] at h2;rw [e1,SQ _ _ zZ zZ,Nat.or_comm,Nat.add_comm,←Nat.shiftLeft_eq];congr 1;exact (Nat.shiftLeft_add_eq_or_of_lt hx _).symm
theorem bBN (h0:b≠0) (h1:b<4294967296) :
    Calls prog 138 #[.int .u32 (b:Int)] w fun e w'=>∃L:Nat,L<32∧b*2 ^ L<4294967296∧e=.returned (.int .i64 (L:Int))∧w=w':=by
  refine (Tryz.bits_LeadingZeros32 (b:Int) w zZ zZ).mono ?_;rintro e w' ⟨rfl,rfl⟩;have hle:Lib.bitLen b≤32:=Lib.bitLen_le b 32 zY zZ;have hgt:b<2 ^ Lib.bitLen b:=aVE 64 b zZ;have hpos:1≤Lib.bitLen b:=by
    rcases Nat.eq_zero_or_pos (Lib.bitLen b) with h|h
    · rw [h] at hgt;omega
    · exact h
  refine ⟨32-Lib.bitLen b,zZ,?_,?_,rfl⟩
  · calc b*2 ^ (32-Lib.bitLen b)<2 ^ Lib.bitLen b*2 ^ (32-Lib.bitLen b):=Nat.mul_lt_mul_of_pos_right hgt (Nat.two_pow_pos _)
      _=4294967296:=by rw [←Nat.pow_add,show Lib.bitLen b+(32-Lib.bitLen b)=32 by omega]
  · rw [bZ3]
    congr 2;omega
theorem aQV {k:Nat} (hs:Small tb) (hl:tb.length=nb) (hk:k<32) (hr:aF w g 112 (eX (iQ tb (2 ^ k)))) (hb:nb*4+4≤140737488355328):aU Nil w (some ⟨g,0,none⟩) (nb+1) (nb+1) (iQ tb (2 ^ k)):=by
  obtain ⟨t1,t2,_⟩:=GD hs (GX hk);have:=aU.ofRow hr t2 (M:=Nil) (fun h=>h.elim) (by rw [t1,hl];omega);rw [t1,hl] at this;exact this
theorem aYX (hs:Small X) (hl:X.length=nb+1) (ht:top X=nb) (hr:aF w g 112 (eX X)) (hM:¬M g) (hb:nb*4+4≤140737488355328):aU M w (some ⟨g,0,none⟩) nb nb (trim X):=by
  have:=(aU.ofRow hr hs hM (by rw [hl];omega)).bare;rw [ht] at this;exact this
theorem aRX {i:Nat} (h:aF w g E (eX ul)):aF w g E (eX (ul.take i)++(eX (win ul i nb)++eX (ul.drop (i+nb+1)))):=by
  have e:ul=ul.take i++(win ul i nb++ul.drop (i+nb+1)):=by
    unfold win;rw [show i+nb+1=i+(nb+1) by omega,←List.drop_drop,aZ3,aZ3]
  rw [e] at h;simpa [eX] using h
def QK (M:Nat→Prop) (w:World) (A B:Nat) (e:Ending) (w':World):Prop:=
  ∃a' c' a4 c4,e=.returned (.tuple #[.slice a' (eP (A / B)) c',.slice a4 (eP (A % B)) c4,.int .i64 0])∧aU M w' a' (eP (A / B)) c' (bH (A / B))∧aU M w' a4 (eP (A % B)) c4 (bH (A % B))∧aA Nil w w'
theorem aPT {n c n2 c2:Nat} (hM:MB M w) (h:aU Nil w a n c l) (h2:aU Nil w a2 n2 c2 l2) (hr:n*4+4≤140737488355328) (hr2:n2*4+4≤140737488355328) (hb:2≤top l2) (hle:nval l2≤nval l) :
    Calls prog 100 #[.slice a n c,.slice a2 n2 c2] w fun e w'=>QK M w (nval l) (nval l2) e w':=by
  have ba:=h.bare;have bb:=h2.bare;have hva:=dC l;have hvb:=dC l2;have hba:=EL l2;have hal:(trim l).length=top l:=dG l;have hbl:(trim l2).length=top l2:=dG l2;have htn:top l≤n:=xI;have htn2:top l2≤n2:=sJ;have hnn:top l2≤top l:=by rw [iN h2.lt,iN h.lt];exact lQ hle
  have HH:=jJ h;have HH2:=jJ h2;rw [←hva,←hvb];rw [←hva,←hvb] at hle;generalize hA:nval (trim l)=A at *
  generalize hB:nval (trim l2)=B at *
  generalize hta:trim l=ta at *
  generalize htb:trim l2=tb at *
  generalize hna:top l=na at *
  generalize hnb:top l2=nb at *
  have HTN:=jJ (aI hna hnb);obtain ⟨m1,hm1⟩:∃m1,nb=m1+1:=⟨nb-1,zZ⟩;have hbt0:lim tb m1≠0:=by
    rcases hba with h0|h0
    · rw [h0] at hbl;simp at hbl;omega
    · rw [hbl,hm1] at h0;simpa using h0
  obtain ⟨b0,o0,hae,hb0,_,y0⟩:=bb.cell (k:=m1) zZ;subst hae;have lbt:=bX bb.lt m1;have i1:IntKind.i64.wrap ((nb:Int)-1)=(m1:Int):=by rw [show (nb:Int)-1=(m1:Int) by omega];exact IntWalk.i64_in _ zZ
  have j0:(0:Int)≤(m1:Int):=zZ;have j1:(m1:Int)<(nb:Int):=zZ;have j2:¬(nb:Int)=0:=zZ;have j3:¬(nb:Int)=1:=zZ;have j4:¬nb=0:=zZ;have j5:¬nb=1:=zZ;have hcm:¬jK A B<0:=vJ;have HA:=jJ (aI8 ba bb hal hbl hA hB hnn hm1);have HM:=jJ hM;have ran:na*4+4≤140737488355328:=zZ;have rbn:nb*4+4≤140737488355328:=zZ;have HRN:=jJ (aI5 ran rbn hb lbt hbt0);clear h h2 ba bb hva hvb hba hal hbl htn htn2 hnn hA hB hta htb hna hnb hr hr2 hle hM hm1 ran rbn hb hbt0;generalize hbt:lim tb m1=bt at *
  have HBT:=jJ hbt;clear hbt;go_enter func100,ntmps100
  go_upto_region 9 with (first|(go_at_call_of 136 (Value.slice a n c);refine (dS HH.o).mono ?_;rintro e w' ⟨rfl,rfl⟩;rw [HTN.o.1])|(go_at_call_of 136 (Value.slice (some ⟨b0,o0,none⟩) n2 c2);refine (dS HH2.o).mono ?_;rintro e w' ⟨rfl,rfl⟩;rw [HTN.o.2])|(go_at_call 105;refine (LB HA.o.1.gK HA.o.2.1.gK).mono ?_;rintro e w1 ⟨rfl,hk1⟩;rw [HA.o.r4.1,HA.o.r5.1];have HK1:=jJ hk1;clear hk1))
  have y1:=HK1.o.eY hb0 id y0;clear y0;go_upto_region 10 with (go_at_call 138;refine (bBN HRN.o.r4 lbt).mono ?_;rintro e w' ⟨k,hk,hbk,rfl,rfl⟩)
  have hk2:IntKind.u64.wrap (k:Int)=(k:Int):=cI zZ;have HB2:=jJ (aI hk hbk);have HLT:=jJ (aYY (k:=k) HA.o.2.1.lt HA.o.2.2.2.1 HA.o.r7 hk (by rw [HBT.o];exact HRN.o.r4) (by rw [HBT.o];exact hbk));clear hbk;go_upto_region 11 with (first|(go_at_call_of 139 (Value.slice a na na);refine (aGN (HA.o.1.eO HK1.o) HRN.o.1 hk).mono ?_;rintro e w2 ⟨rfl,hrow2,hk2'⟩;have H2:=jJ (aI hrow2 hk2');clear hrow2 hk2')|(go_at_call_of 139 (Value.slice (some ⟨b0,o0,none⟩) nb nb);refine (aGN ((HA.o.2.1.eO HK1.o).eO H2.o.2) HRN.o.2.1 hk).mono ?_;rintro e w3 ⟨rfl,hrow3,hk3'⟩;have H3:=jJ (aI hrow3 hk3');clear hrow3 hk3')|(go_at_call 136;refine (dS (aQV HA.o.2.1.lt HA.o.2.2.2.1 hk H3.o.1 HRN.o.2.1)).mono ?_;rintro e w' ⟨rfl,rfl⟩;rw [HLT.o.1]))
  obtain ⟨L,hL⟩:∃L,L+nb=na+1:=⟨na+1-nb,by have:=HA.o.r6.1;omega⟩;have hLs:L≤35184372088832:=by have:=HRN.o.1;omega
  have HLL:=jJ hL;clear hL;obtain ⟨i0,hi⟩:=info_parts EO;have HI:=jJ hi;clear hi;have hbn:nb≤35184372088831:=by have:=HRN.o.2.1;omega
  have han:na≤35184372088831:=by have:=HRN.o.1;omega
  have s1:(na:Int)+1-(nb:Int)=(L:Int):=by have:=HLL.o;omega
  go_upto_region 12 with (at_make;refine wpList_make_row _ rfl _ _ 23 rfl 112 i0 (.int .u32 0) underlying23 HI.o.1 HI.o.2.1 HI.o.2.2.1 rfl .i64 .i64 _ _ L rfl rfl (by have:=HLL.o;omega) (by have:=HLL.o;omega) qN zZ ?_;intro w4 hrow4 hk4 hsz4;have H4:=jJ (aI3 hrow4 hk4 hsz4);clear hrow4 hk4 hsz4)
  obtain ⟨gu,hgu⟩:∃gu,gu=w1.heap.size:=⟨_,rfl⟩;obtain ⟨gv,hgv⟩:∃gv,gv=w2.heap.size:=⟨_,rfl⟩;obtain ⟨gq,hgq⟩:∃gq,gq=w3.heap.size:=⟨_,rfl⟩;rw [←hgu,←hgv,←hgq];have ru:=(H2.o.1.keep H3.o.2 id).keep H4.o.2.1 id;have rv:=H3.o.1.keep H4.o.2.1 id;have rq:=H4.o.1;rw [←hgu] at ru;rw [←hgv] at rv;rw [←hgq] at rq;have z1:=HK1.o.size;have z2:=H2.o.1.lt;have z3:=H3.o.1.lt;have hne:gv≠gu∧gq≠gu∧gq≠gv∧w.heap.size≤gu∧w.heap.size≤gv∧w.heap.size≤gq:=by have:=H3.o.2.size;omega
  have HK4:=jJ (((HK1.o.trans H2.o.2).trans H3.o.2).trans H4.o.2.1);obtain ⟨u1,u2,u3⟩:=GD HA.o.1.lt (GX hk);obtain ⟨v1,v2,v3⟩:=GD HA.o.2.1.lt (GX hk);rw [HA.o.2.2.1] at u1;rw [HA.o.2.2.2.1] at v1;obtain ⟨U,hU⟩:∃U,U=iQ ta (2 ^ k):=⟨_,rfl⟩;obtain ⟨X,hX⟩:∃X,X=iQ tb (2 ^ k):=⟨_,rfl⟩;rw [←hU] at ru u1 u2 u3;rw [←hX] at rv v1 v2 v3;have hXt:top X=nb:=by rw [hX];exact HLT.o.1
  have hVX:nval (trim X)=B*2 ^ k:=by rw [dC,hX,HLT.o.2.1,HA.o.r5.1]
  obtain ⟨V,hV⟩:∃V,V=nval (trim X):=⟨_,rfl⟩;have hVb:V≤Bs ^ nb:=by
    rw [hV,hVX,←HA.o.r5.1];exact Nat.le_of_lt HLT.o.2.2.1
  have hB0:0<B:=by
    have h1:=HLT.o.2.2.2;rw [HA.o.r5.1] at h1;exact cZ1 (Nat.pow_pos iI) h1
  have hV0:0<V:=by rw [hV,hVX];exact Nat.mul_pos hB0 (Nat.two_pow_pos _)
  have hUv:nval U=A*2 ^ k:=by rw [u3,HA.o.r4.1,Nat.mul_comm]
  have hstart:mI U U [] V L L:=by
    refine mI.start u2 (by rw [u1];have:=HLL.o;have:=HRN.o.2.2.1;omega) ?_;rw [hUv,hV,hVX];refine aVL (na:=na) (nb:=nb) (m1:=m1) ?_ ?_ HA.o.r7 HLL.o
    · rw [←HA.o.r4.1,←HA.o.2.2.1];exact nM HA.o.1.lt
    · have h1:=HLT.o.2.2.2
      rwa [HA.o.r5.1] at h1
  have htl1:lim (trim X) m1≠0:=by
    rcases EL X with h0|h0
    · have:=dG X;rw [h0,hXt] at this;simp at this;have:=HRN.o.2.2.1;omega
    · rw [dG,hXt,HA.o.r7] at h0;simpa using h0
  have HS:=jJ (aI4 ru rv rq hstart);have HX:=jJ (MG hXt hVX hV hVb hV0 hUv htl1 v1 v2 u1 u2 hne);have HB0:=jJ hB0;have HG:=jJ (aI3 hgu hgv hgq);clear ru rv rq hstart hXt hVX hV hVb hV0 hUv htl1 v1 v2 v3 u1 u2 u3 z1 z2 z3 hne hU hX hgu hgv hgq H2 H3 H4 HK1 hB0 y1 s1 i1 hk2 hcm;generalize hN:na+1=NU at *
  have HNU:=jJ hN;clear hN;have hLi:IntKind.i64.wrap ((L:Int)-1)=(L:Int)-1:=IntWalk.i64_in _ zZ;go_wp2_with fail
  go_loopw [13] (fun iv wr=>∃(j:Nat) (ul qs:List Nat),j≤L∧iv=.int .i64 ((j:Int)-1)∧mI U ul qs V j L∧aF wr gu 112 (eX ul)∧aF wr gv 112 (eX X)∧aF wr gq 112 (zeros j (.int .u32 0)++eX qs)∧aA Nil w wr) (fun iv _=>(intOf iv+1).toNat)
  case atStart=>exact⟨L,U,[],bZ2 _,rfl,HS.o.2.2.2,HS.o.1,HS.o.2.1,by simpa [eX] using HS.o.2.2.1,HK4.o⟩
  case round=>
    clear HS HK4;obtain ⟨j,ul,qs,hj,rfl,hd,ru,rv,rq,hkr⟩:=hrel;cases j with
    | succ i=>
      rw [show (((i+1:Nat):Int)-1)=(i:Int) by omega];have hlen:=hd.len;have hul:ul.length=NU:=by rw [hlen,HX.o.r9.1]
      have hin:i+nb+1≤NU:=by have:=HLL.o;have:=HNU.o;omega
      obtain ⟨q1,q2,q3,q4⟩:=hd.win HX.o.2.2.2.1 zZ;have hvl:=aYX (M:=One gu) HX.o.r8.1 HX.o.r7.1 HX.o.1 rv HX.o.r11.1 HRN.o.2.1;obtain ⟨e2,he2⟩:∃e2,e2=i+nb+1:=⟨_,rfl⟩;have hdig:=aWQ (i:=i) (N:=e2-i) (c:=NU-i) (m:=nb-2) (w:=wr) (aRX (nb:=nb) ru) xV q2 (by have:=HRN.o.2.2.1;omega) (by have:=HRN.o.2.2.1;omega) (by rw [q1];omega) zZ (by have:=HNU.o;have:=HRN.o.1;omega) hvl (by
        have h1:=HX.o.r6.1;have h2:=HA.o.r7;have h3:=HRN.o.2.2.1;rw [show nb-2+1=m1 by omega];exact h1) (by rw [←HX.o.2.2.1];exact q4)
      have i1:(i:Int)+(nb:Int)+1=(e2:Int):=zZ;have hnu:NU≤35184372088832:=by have:=HNU.o;omega
      have j6:(0:Int)≤(i:Int):=zZ;have j7:(i:Int)≤(e2:Int):=zZ;have j8:(e2:Int)≤(NU:Int):=zZ;have j9:(i:Int)<(L:Int):=zZ;have HD:=jJ (YG hd ru rv rq hkr hdig he2 hul hin q4 q1);clear hd ru rv rq hkr hdig he2 hul hin q1 q2 q3 q4 hvl hlen hLi;have c0:=HD.o.2.2.2.1.cell i;have f0:=HD.o.2.2.2.1.frozen i;have hq0:wr.cell? ⟨gq,i,none⟩=some (.int .u32 0):=by
        rw [c0,List.getElem?_append_left pP];simp [zeros]
      clear c0;go_wp2_with (go_at_call 140;refine HD.o.r5.1.mono ?_;rintro e w4 hdr;obtain ⟨r,rfl,hrl,hrs,hrv,hrow4,hk4⟩:=hdr;have hq4:w4.cell? ⟨gq,i,none⟩=some (.int .u32 0):=(hk4.cell (p:=⟨gq,i,none⟩) HD.o.2.2.2.1.lt (by have:=HX.o.r12.1;exact fun h=>this h)).trans hq0;have f4:w4.frozen? ⟨gq,i,none⟩=false:=(hk4.frozen (p:=⟨gq,i,none⟩) HD.o.2.2.2.1.lt (by have:=HX.o.r12.1;exact fun h=>this h)).trans f0;have HW:=jJ (aI5 hrl hrs hrv hrow4 hk4);clear hrl hrs hrv hrow4 hk4 hq0 f0)
      go_roundw
      case rel=>
        have hnn:=HX.o.r11;have hst:=HD.o.1.step (r:=r) HX.o.2.2.2.1 HX.o.r4.1 (by have:=HD.o.r7.1;have:=HD.o.r8.1;omega) (HW.o.1.trans HD.o.r10) HW.o.2.1 (by rw [HX.o.2.2.1];exact HW.o.2.2.1);have r1:aF w4 gu 112 (eX (ul.take i++(r++ul.drop (i+nb+1)))):=by simpa [eX] using HW.o.2.2.2.1
        have r2:=HD.o.2.2.1.keep HW.o.r4 (fun h=>hnn.1 h);have r3:=HD.o.2.2.2.1.keep HW.o.r4 (fun h=>hnn.2.1 h);refine ⟨i,_,_,zZ,rfl,hst,r1.setOther (fun e=>hnn.2.1 e.symm),r2.setOther (fun e=>hnn.2.2.1 e.symm),?_,?_⟩
        · exact aIE r3 (congrArg (Value.int .u32) (by rw [HX.o.2.2.1];exact (Int.natCast_ediv _ _).symm))
        · exact (HD.o.r4.1.trans' HW.o.r4 (fun b hb=>.inr (by rw [show b=gu from hb];exact hnn.2.2.2.1))).setCell (p:=⟨gq,i,none⟩) (.inr hnn.r5) _
      case measure=>simp [intOf]
    | zero=>
      rw [show (((0:Nat):Int)-1)=-1 from rfl];rw [show zeros 0 (Value.int .u32 0)=[] from rfl,iZ3] at rq;obtain ⟨d1,d2⟩:=hd.last HX.o.r4.1;have hul:ul.length=NU:=by rw [hd.len,HX.o.r9.1]
      have hql:qs.length=L:=by have:=hd.ql;omega
      have hp:=Nat.two_pow_pos k;have e1:nval qs=A / B:=by
        rw [d1,HX.o.r5.1,HX.o.2.2.1,HX.o.2.1,Nat.mul_div_mul_right _ _ hp]
      have e2:nval ul=A % B*2 ^ k:=by
        rw [d2,HX.o.r5.1,HX.o.2.2.1,HX.o.2.1,Nat.mul_mod_mul_right]
      have hlt:nval ul<Bs ^ nb:=by
        rw [d2];exact cZ1 (Nat.mod_lt _ HX.o.r4.1) HX.o.2.2.2.1
      have hnb:nb<NU:=by have:=HNU.o;have:=HA.o.r6.1;omega
      have hsp:=GN ul nb zZ;have hz:nval (ul.drop nb)=0:=by
        rcases Nat.eq_zero_or_pos (nval (ul.drop nb)) with h3|h3
        · exact h3
        · have:=Nat.mul_le_mul_left (Bs ^ nb) h3;omega
      have hz1:lim ul nb=0:=by
        have:=OI (l:=ul) (i:=nb) zZ;rw [hz] at this;omega
      rw [hz,Nat.mul_zero,Nat.add_zero,e2] at hsp;have HZ:=jJ (aI7 e1 hd.small hd.sq hz1 hsp.symm hul hql);have HR:=jJ (aI4 ru rv rq hkr);have hgu:=ru.lt;clear hd ru rv rq hkr d1 d2 hul hql e1 e2 hlt hsp hz hz1 hp hj hLi;go_wp2_with fail
      go_loopw [90] (fun iv wr=>∃(i:Nat),i≤nb∧iv=.int .i64 (i:Int)∧aF wr gu 112 (eX (jT ul k i)++(eX (ul.drop i)++[]))∧aF wr gv 112 (eX X)∧aF wr gq 112 (eX qs)∧aA Nil w wr) (fun iv _=>nb-(intOf iv).toNat)
      case atStart=>exact⟨0,aZ2 _,rfl,by simpa [jT,eX] using HR.o.1,HR.o.2.1,HR.o.2.2.1,HR.o.2.2.2⟩
      case round=>
        clear HR hgu;rename World=>wk;obtain ⟨i,hi,rfl,ru,rv,rq,hkr⟩:=hrel;obtain ⟨q1,q2,q3⟩:=VN HZ.o.2.1 hk i;have hul:=HZ.o.r5.1;have hgu:=ru.lt;by_cases hin:i<nb
        · have hx:=KU (pre:=[]) (i:=0) (show aF wk gu _ (eX []++(eX (jT ul k i)++(eX (ul.drop i)++[]))) from ru) rfl q1 (show i<ul.length by omega)
          have hf:=ru.frozen i;have lx:=bX HZ.o.2.1 i;have ly:=bX HZ.o.2.1 (i+1);rw [Nat.zero_add] at hx;have hdi:=drop_cons (l:=ul) (i:=i) zZ;have hdi2:=drop_cons (l:=ul) (i:=i+1) zZ;have e1:jT ul k (i+1)=jT ul k i++[lim ul i / 2 ^ k+lim ul (i+1) % 2 ^ k*2 ^ (32-k)]:=rfl;have hy0:i+1=nb→lim ul (i+1)=0:=fun h=>by rw [h];exact HZ.o.2.2.2.1
          generalize hxx:lim ul i=x at *
          generalize hyy:lim ul (i+1)=y at *
          obtain ⟨xl,hxl⟩:∃xl,xl=x / 2 ^ k:=⟨_,rfl⟩;have lxl:xl<4294967296:=by rw [hxl];exact Nat.lt_of_le_of_lt (Nat.div_le_self _ _) lx
          have k1:(x:Int) / 2 ^ k=(xl:Int):=by rw [hxl,Int.natCast_ediv,Int.natCast_pow];rfl
          rw [hdi] at ru;have ru1:aF (wk.setCell ⟨gu,i,none⟩ (.int .u32 (xl:Int))) gu 112 (eX (jT ul k i++[xl])++(eX (ul.drop (i+1))++[])):=by
            have:=EN (x:=xl) (v:=.int .u32 (xl:Int)) (t:=ul.drop (i+1)) ru q1 rfl;exact this
          have c1:=ru1.cell i;have c2:=ru1.cell (i+1);rw [List.getElem?_append_left vE,eX,List.getElem?_map,List.getElem?_append_right zZ,q1,Nat.sub_self] at c1;rw [List.getElem?_append_right vE,dV,aZ1,q1,List.length_singleton,Nat.sub_self,hdi2] at c2;simp only [eX,List.getElem?_cons_zero,Option.map_some,dZ2,hZ3,Go.Proofs.Q.u32] at c1 c2;have hnn:=HX.o.r11;have rv1:=rv.setOther (g':=gu) (o:=i) (v:=.int .u32 (xl:Int)) hnn.1;have rq1:=rq.setOther (g':=gu) (o:=i) (v:=.int .u32 (xl:Int)) hnn.2.1;have hkr1:=hkr.setCell (p:=⟨gu,i,none⟩) (.inr hnn.2.2.2.1) (.int .u32 (xl:Int));have HRW:=jJ (aI8 ru1 rv1 rq1 hkr1 q1 e1 hy0 hdi2);have hxl2:xl<2 ^ (32-k):=by rw [hxl];exact (aGY (y:=0) lx hk).1
          have HXL2:=jJ hxl2;have j6:(0:Int)≤(i:Int):=zZ;have j7:(i:Int)<(NU:Int):=zZ;obtain ⟨ip,hip⟩:∃ip,ip=i+1:=⟨_,rfl⟩;have j8:(i:Int)+1=(ip:Int):=zZ;have j9:(0:Int)≤(ip:Int):=zZ;have j10:(ip:Int)<(NU:Int):=zZ;have j11:IntKind.i64.wrap (ip:Int)=(ip:Int):=IntWalk.i64_in _ (by have:=HNU.o;omega);rw [←hip] at c2;have HIP:=jJ hip;have hsz:gu<(wk.setCell ⟨gu,i,none⟩ (.int .u32 (xl:Int))).heap.size:=ru1.lt;have fz1:=ru1.frozen i;have HXL:=jJ (aI3 hxl hxx hyy);clear ru ru1 rv rq hkr q1 q2 q3 e1 hy0 hdi hdi2 hul hxl hxx hyy hnn rv1 rq1 hkr1 hxl2;by_cases hgd:0<k∧i+1<nb
          · obtain ⟨g1,g2⟩:=hgd
            have g1':(0:Int)<(k:Int):=zZ;have g2':(ip:Int)<(nb:Int):=zZ;clear hip;go_upto_region 20 with (fail)
            generalize wk.setCell ⟨gu,i,none⟩ (.int .u32 (xl:Int))=wm at *
            go_wp2_with fail
            obtain ⟨kr,hkr⟩:∃kr,kr=32-k:=⟨_,rfl⟩;have k2:(32:Int)-(k:Int)=(kr:Int):=zZ;have k3:IntKind.u64.wrap (kr:Int)=(kr:Int):=cI zZ;have k4:kr<32:=zZ;have k5:(kr:Int)<32:=zZ;have HKR:=jJ hkr;clear hkr;refine dJ (aA Nil wm) [14] zX ?_;have hS:aA Nil wm (World.drew wm):=kOf;refine aH 0 (bM9 4082 15) hS ?_;refine aH 1 (bM9 4081 15) hS ?_;refine aH 2 (bM9 12275 15) hS ?_;refine aH 3 (bM9 12279 15) hS ?_;refine aH 4 (bM9 9839 15) hS ?_;refine aH 5 (bM9 9759 15) hS ?_;refine aH 6 (bM9 9791 15) hS ?_;refine aH 7 (bM9 9855 15) hS ?_;refine aH 8 (bM9 9983 15) hS ?_;refine aH 9 (bM9 8703 15) hS ?_;refine aH 10 (bM9 9215 15) hS ?_;refine aH 11 (bM9 10239 15) hS ?_;refine aH 12 (bM9 12287 15) hS ?_;refine aH 13 (bM9 8191 15) hS ?_;clear hS;refine bV (rs:=[14]) zX zW ?_;refine aZ.LU rfl zY (fun K hK=>?_) aZ.nil;go_simp
            refine hK.out _ _ ?_;clear hK K;try simp only [Act.put,sL]
            refine BA zX ?_ _;skip
            go_wp2_with fail
            go_roundw
            case rel=>
              have hnn:=HX.o.r11;have hv:bits .or .u32 (xl:Int) ((y:Int)*2 ^ kr % 4294967296)=((xl+y % 2 ^ k*2 ^ kr:Nat):Int):=aZN hk HKR.o (by rw [HKR.o];exact HXL2.o) ly;have r1:=EN (x:=xl+y % 2 ^ k*2 ^ kr) (v:=.int .u32 (bits .or .u32 (xl:Int) ((y:Int)*2 ^ kr % 4294967296))) (o:=jT ul k i) (y:=xl) (t:=ul.drop (i+1)) (rest:=[]) (by simpa [eX] using HRW.o.1) HRW.o.r4.1 (congrArg (Value.int .u32) hv);refine ⟨i+1,zZ,by rw [HIP.o],?_,(HRW.o.2.1.setOther hnn.1).keep (aA.drew (aA.refl Nil _)) id,(HRW.o.2.2.1.setOther hnn.2.1).keep (aA.drew (aA.refl Nil _)) id,aA.drew (HRW.o.2.2.2.1.setCell (p:=⟨gu,i,none⟩) (.inr hnn.2.2.2.1) _)⟩;rw [HRW.o.r5.1,←HXL.o.1,←HKR.o];exact r1.keep (aA.drew (aA.refl Nil _)) id
            case measure=>have:=HIP.o;simp [intOf];omega
          · have hlast:xl+y % 2 ^ k*2 ^ (32-k)=xl:=by
              by_cases h0:0<k
              · have:i+1=nb:=by
                  have:¬i+1<nb:=fun h=>hgd ⟨h0,h⟩;omega
                rw [HRW.o.r6.1 this];simp
              · obtain rfl:k=0:=zZ
                simp [Nat.mod_one]
            have HLS:=jJ hlast;have hrel2:∀K:Prop,True:=fun _=>trivial;by_cases h0:0<k
            case' pos=>
              have g1':(0:Int)<(k:Int):=zZ;have g2':¬(ip:Int)<(nb:Int):=fun h=>hgd ⟨h0,zZ⟩;have g3':decide ((ip:Int)<(nb:Int))=false:=decide_eq_false g2'
            case' neg=>
              have g1':¬(0:Int)<(k:Int):=zZ;have g3':decide ((0:Int)<(k:Int))=false:=decide_eq_false g1'
            all_goals
              clear hgd hlast hip;go_wp2_with fail
              go_roundw
            all_goals first|exact⟨i+1,zZ,by rw [HIP.o],by rw [HRW.o.r5.1,←HXL.o.1,HLS.o];exact HRW.o.1,HRW.o.2.1,HRW.o.2.2.1,HRW.o.2.2.2.1⟩|(have:=HIP.o;simp [intOf];omega)
        · obtain rfl:i=nb:=zZ
          have hnn:=HX.o.r11;have hNU:=HNU.o;have hrn:=HRN.o.1;have r1:aF wk gu 112 (eX (jT ul k i++ul.drop i)):=by simpa [eX] using ru
          have hlu:(jT ul k i++ul.drop i).length=NU:=by rw [aZ1,q1,gZ3];omega
          have hLu:=aU.ofRow (M:=Nil) r1 (q2.append (HZ.o.2.1.drop i)) (fun h=>h.elim) (by rw [hlu];omega);rw [hlu] at hLu;have hLu2:=hLu.take (k:=i) zZ;rw [List.take_left' q1] at hLu2;have hLq:=aU.ofRow (M:=Nil) rq HZ.o.2.2.1 (fun h=>h.elim) (by rw [HZ.o.r6];omega);rw [HZ.o.r6] at hLq;have hv2:=aYR HZ.o.2.1 hk HZ.o.2.2.2.1 HZ.o.r4.1;have HL:=jJ (aI5 hLu2 hLq hv2 q2 hkr);have k5:(i:Int)≤(NU:Int):=zZ;have k6:(0:Int)≤(i:Int):=zZ;have k7:L*4≤140737488355328:=zZ;have k8:i*4≤140737488355328:=zZ;have HK:=jJ (aI k7 k8);clear ru rv rq hkr q1 q2 q3 hul r1 hlu hLu hLu2 hLq hv2 hnn hNU hrn k7 k8 hgu;go_wp2_with fail
          go_region_held3 (fun _=>True) (trivial) (first|(go_at_call_of 133 (Value.slice (some ⟨gq,0,none⟩) L L);refine (AL (M:=M) (HM.o.keep (HL.o.r4.trans (show aA Nil wk _ from kkA))) (HL.o.2.1.eO (show aA Nil wk _ from kkA)) HK.o.1).mono ?_;rintro e w5 ⟨a5,c5,rfl,h5,hk5⟩)|(go_at_call_of 133 (Value.slice (some ⟨gu,0,none⟩) i NU);refine (AL (M:=M) (HM.o.keep (HL.o.r4.trans (show aA Nil wk _ from kkA))) (HL.o.1.eO (show aA Nil wk _ from kkA)) HK.o.2).mono ?_;rintro e w6 ⟨a6,c6,rfl,h6,hk6⟩))
          go_wp2_with fail
          go_ret3
          have t5:Small qs:=HZ.o.2.2.1;have t6:=HL.o.2.2.2.1;rw [mQ t5,HZ.o.1] at h5;rw [mQ t6,HL.o.2.2.1] at h6;have e5:top qs=eP (A / B):=by rw [iN t5,HZ.o.1];rfl
          have e6:top (jT ul k i)=eP (A % B):=by rw [iN t6,HL.o.2.2.1];rfl
          rw [e5] at h5⊢;rw [e6] at h6⊢;exact⟨_,_,_,_,rfl,h5.eO (by first|exact aA.refl _ _|exact hk6),h6.eO (by first|exact aA.refl _ _|exact hk5),HL.o.r4.trans (show aA Nil wk _ from kkA)⟩
theorem aPC {n c n2 c2:Nat} (hM:MB M w) (h:aU Nil w a n c l) (h2:aU Nil w a2 n2 c2 l2) (hr:n*4+4≤140737488355328) (hb:2≤top l2) (hlt:nval l<nval l2) :
    Calls prog 100 #[.slice a n c,.slice a2 n2 c2] w fun e w'=>QK M w (nval l) (nval l2) e w':=by
  have htn:top l≤n:=xI;have hcm:jK (nval (trim l)) (nval (trim l2))<0:=by rw [dC,dC,QI hlt];decide
  have hva:=dC l;have hsm:=h.lt;obtain ⟨b0,o0,hae,_,_,_⟩:=h2.bare.cell (k:=0) zZ;subst hae;have HH:=jJ (aI4 h h.bare h2 h2.bare);have HM:=jJ hM;have HR:=jJ (show top l*4≤140737488355328 by omega);generalize hna:top l=na at *
  generalize hnb:top l2=nb at *
  generalize hta:trim l=ta at *
  generalize htb:trim l2=tb at *
  have HT:=jJ (aI7 hna hnb hta htb hva hsm hlt);have j2:¬(nb:Int)=0:=zZ;have j3:¬(nb:Int)=1:=zZ;have j4:¬nb=0:=zZ;have j5:¬nb=1:=zZ;clear h h2 hM hr hna hnb hta htb hva htn hsm hlt hb;go_enter func100,ntmps100
  go_wp2_with (first|(go_at_call_of 136 (Value.slice a n c);refine (dS HH.o.1).mono ?_;rintro e w' ⟨rfl,rfl⟩;rw [HT.o.1])|(go_at_call_of 136 (Value.slice (some ⟨b0,o0,none⟩) n2 c2);refine (dS HH.o.2.2.1).mono ?_;rintro e w' ⟨rfl,rfl⟩;rw [HT.o.2.1])|(go_at_call 105;refine (LB HH.o.2.1.gK HH.o.2.2.2.gK).mono ?_;rintro e w1 ⟨rfl,hk1⟩;have HK1:=jJ hk1;clear hk1)|(go_at_call 133;refine (AL (M:=M) (HM.o.keep (HK1.o.trans kOf)) ((HH.o.2.1.gK.eO HK1.o).eO kOf) HR.o).mono ?_;rintro e w2 ⟨a2',c2',rfl,h2',hk2⟩))
  go_ret3
  have e1:nval l / nval l2=0:=Nat.div_eq_of_lt HT.o.r6;have e2:nval l % nval l2=nval l:=Nat.mod_eq_of_lt HT.o.r6;have hs:Small ta:=by rw [←HT.o.2.2.1];exact Small.trim HT.o.r5.1
  have et:top ta=eP (nval l):=by rw [iN hs,HT.o.r4.1];rfl
  rw [mQ hs,et,HT.o.r4.1] at h2';have r0:=aF.alloc (w:=w1) (E:=112) (xs:=eX []);have hL:=aU.ofRow (M:=M) r0 Small.nil (fun hm=>by have:=HM.o _ hm;have:=HK1.o.size;omega) zW;have n0:eP 0=0:=by unfold eP;rw [bT];rfl
  unfold QK;rw [e1,e2,n0,bT,et];exact⟨_,_,_,_,rfl,hL.eO hk2,h2',(HK1.o.trans kOf).trans hk2⟩
theorem UK (hm:m≠0):aKD m:=by
  intro M a a2 n c n2 c2 l l2 w hM h h2 hr hr2 hv;have ht:top l2≠0:=by
    intro h0;have:=dC l2;rw [fZ1 (show (trim l2).length=0 by rw [dG,h0])] at this;simp [nval] at this;omega
  by_cases h1:top l2=1
  · exact aPB hM h h2 zZ h1
  · rcases Nat.lt_or_ge (nval l) (nval l2) with hlt|hge
    · exact aPC hM h h2 hr zZ hlt
    · exact aPT hM h h2 hr hr2 zZ hge
end
end Go.Proofs.Q
