/- What zint.DivMod does: quotient and remainder, rounded down. -/
import Derived.Test.YtgeklmkfjkenlaaGreatDoorNRegions
import Derived.Deep.DeepCutAuto
set_option linter.unusedSimpArgs false
set_option linter.unusedVariables false
set_option maxHeartbeats 1000000
namespace Go.Proofs.Q
open Go.RowKit Tryz
section
variable {M:Nat→Prop} {w:World} {a:Option Addr} {z z2:Int} {s:Bool} {n c:Nat}
def NatDiv (m:Nat):Prop:=∀⦃M:Nat→Prop⦄ ⦃a a2:Option Addr⦄ ⦃n c n2 c2:Nat⦄ ⦃l l2:List Nat⦄ ⦃w:World⦄,MB M w→aS Nil w a n c l→aS Nil w a2 n2 c2 l2→n*4+4≤140737488355328→n2*4+4≤140737488355328→nval l2=m →
    Calls prog 123 #[.slice a n c,.slice a2 n2 c2] w fun e w'=>∃a' c' a4 c4,e=.returned (.tuple #[.slice a' (nlen (nval l / nval l2)) c',.slice a4 (nlen (nval l % nval l2)) c4,.int .i64 0]) ∧
      aS M w' a' (nlen (nval l / nval l2)) c' (bC (nval l / nval l2))∧aS M w' a4 (nlen (nval l % nval l2)) c4 (bC (nval l % nval l2))∧aA Nil w w'
def IntAt (M:Nat→Prop) (w:World) (b:Nat) (z:Int):Prop:=∃g a n c,aC w b 41 [.bool g,.slice a n c]∧ZN M w g a n c z
theorem IntAt.keep {M:Nat→Prop} {w w':World} {b:Nat} {z:Int} (h:IntAt M w b z) (k:aA Nil w w'):IntAt M w' b z:=by
  obtain ⟨g,a,n,c,h1,h2⟩:=h;exact⟨g,a,n,c,h1.keep k id,h2.keepNil k⟩
theorem IntAt.other {b g k p:Nat} {u v:Value} (h:IntAt (Box M p k) w b z) (hp:p≤g∧g<p+k) (hne:¬b=g):IntAt (Box M p k) ((w.setCell ⟨g,0,none⟩ u).setCell ⟨g,1,none⟩ v) b z:=by
  obtain ⟨g',a,n,c,h1,h2⟩:=h;exact⟨g',a,n,c,h1.pairOther hne,h2.step (aA.pairBox w hp u v)⟩
theorem IntAt.store {g k p:Nat} {z':Int} (h:IntAt (Box M p k) w g z) (hp:p≤g∧g<p+k) (hz:ZN (Box M p k) w s a n c z'):IntAt (Box M p k) ((w.setCell ⟨g,0,none⟩ (.bool s)).setCell ⟨g,1,none⟩ (.slice a n c)) g z':=by
  obtain ⟨g',a',n',c',h1,h2⟩:=h;exact⟨s,a,n,c,h1.pair,hz.step (aA.pairBox w hp _ _)⟩
structure Four (M:Nat→Prop) (w:World) (z z2 q r:Int) (wx:World):Prop where
  k:aA Nil w wx
  i0:IntAt (Box M w.heap.size 4) wx w.heap.size z
  i1:IntAt (Box M w.heap.size 4) wx (w.heap.size+1) z2
  i2:IntAt (Box M w.heap.size 4) wx (w.heap.size+1+1) q
  i3:IntAt (Box M w.heap.size 4) wx (w.heap.size+1+1+1) r
theorem Four.keep {M:Nat→Prop} {w wx wy:World} {z z2 q r:Int} (h:Four M w z z2 q r wx) (k:aA Nil wx wy):Four M w z z2 q r wy:=
  ⟨h.k.trans k,h.i0.keep k,h.i1.keep k,h.i2.keep k,h.i3.keep k⟩
theorem Four.last {wx:World} {q r q' r':Int} {s':Bool} {a':Option Addr} {n' c':Nat} (h:Four M w z z2 q r wx) (hq:ZN (Box M w.heap.size 4) wx s a n c q') (hr:ZN (Box M w.heap.size 4) wx s' a' n' c' r') :
    Four M w z z2 q' r' ((((wx.setCell ⟨w.heap.size+1+1,0,none⟩ (.bool s)).setCell ⟨w.heap.size+1+1,1,none⟩ (.slice a n c)).setCell ⟨w.heap.size+1+1+1,0,none⟩ (.bool s')).setCell ⟨w.heap.size+1+1+1,1,none⟩ (.slice a' n' c')):=by
  have p2:w.heap.size≤w.heap.size+1+1∧w.heap.size+1+1<w.heap.size+4:=by omega
  have p3:w.heap.size≤w.heap.size+1+1+1∧w.heap.size+1+1+1<w.heap.size+4:=by omega
  exact⟨(h.k.boxed (bZ2 _) (aA.pairBox _ p2 _ _)).boxed (bZ2 _) (aA.pairBox _ p3 _ _),(h.i0.other p2 (by omega)).other p3 (by omega),(h.i1.other p2 (by omega)).other p3 (by omega),(h.i2.store p2 hq).other p3 (by omega),(h.i3.other p2 (by omega)).store p3 (hr.step (aA.pairBox _ p2 _ _))⟩
def Divs (M:Nat→Prop) (w:World) (z z2:Int) (e:Ending) (w':World):Prop:=∃g3 a3 n3 c3 g4 a4 n4 c4,e=.returned (.tuple #[.agg #[.bool g3,.slice a3 n3 c3],.agg #[.bool g4,.slice a4 n4 c4],.int .i64 0])∧ZN M w' g3 a3 n3 c3 (z.fdiv z2)∧ZN M w' g4 a4 n4 c4 (z.fmod z2)∧aA Nil w w'
theorem zdivmod_any {g g2:Bool} {a2:Option Addr} {n2 c2:Nat} (hD:NatDiv z2.natAbs) (hM:MB M w) (h:ZAt Nil w g a n c z) (h2:ZAt Nil w g2 a2 n2 c2 z2) (h0:z2≠0) (hn:n*4+4≤140737488355328) (hn2:n2*4+4≤140737488355328) :
    Calls prog 74 #[.agg #[.bool g,.slice a n c],.agg #[.bool g2,.slice a2 n2 c2]] w fun e w'=>Divs M w z z2 e w':=by
  have hl:=h.nlen_le;have hl2:=h2.nlen_le;have HN:=jJ (show nlen z.natAbs*4+4≤140737488355328∧nlen z2.natAbs*4+4≤140737488355328 by omega);have HA:=jJ h;have HB:=jJ h2;have HM:=jJ hM;have HD:=jJ hD;have H00:=jJ h0;have HRS:=jJ (rows4 w 41 (.bool g) (.slice a n c) (.bool g2) (.slice a2 n2 c2) (.bool false) (.slice none 0 0) (.bool false) (.slice none 0 0));clear h h2 hM hn hn2 hl hl2 hD h0;go_enter func74,ntmps74
  go_wp2_with fail
  obtain ⟨r0,r1,r2,r3,hk0⟩:=HRS.o;clear HRS;generalize ((((w.alloc (.cells #[.bool g,.slice a n c] 41)).alloc (.cells #[.bool g2,.slice a2 n2 c2] 41)).alloc (.cells #[.bool false,.slice none 0 0] 41)).alloc (.cells #[.bool false,.slice none 0 0] 41))=w0 at *
  have ne01:¬w.heap.size=w.heap.size+1:=by omega
  have ne02:¬w.heap.size=w.heap.size+1+1:=by omega
  have ne03:¬w.heap.size=w.heap.size+1+1+1:=by omega
  have ne10:¬w.heap.size+1=w.heap.size:=by omega
  have ne12:¬w.heap.size+1=w.heap.size+1+1:=by omega
  have ne13:¬w.heap.size+1=w.heap.size+1+1+1:=by omega
  have ne20:¬w.heap.size+1+1=w.heap.size:=by omega
  have ne21:¬w.heap.size+1+1=w.heap.size+1:=by omega
  have ne23:¬w.heap.size+1+1=w.heap.size+1+1+1:=by omega
  have ne30:¬w.heap.size+1+1+1=w.heap.size:=by omega
  have ne31:¬w.heap.size+1+1+1=w.heap.size+1:=by omega
  have ne32:¬w.heap.size+1+1+1=w.heap.size+1+1:=by omega
  obtain ⟨c00,c01,f00,f01⟩:=r0.two;obtain ⟨c10,c11,f10,f11⟩:=r1.two;have b0:=r0.lt;have b1:=r1.lt;have b3:=r3.lt;have HX:=jJ (HM.o.box (b:=w.heap.size) (k:=4) hk0 (by omega));have HA0:=jJ (HA.o.keepNil hk0);have HB0:=jJ (HB.o.keepNil hk0);have H0:=jJ (aI5 hk0 r0 r1 r2 r3);clear hk0 r0 r1 r2 r3;go_cut [] (fun wx=>Four M w z z2 0 0 wx)
  case first=>
    go_region_with (first|(go_at_call_of 116 (Value.agg #[.bool g,.slice a n c]);refine (norm_any (HX.o.keep (M':=Nil) kOf) (HA0.o.keepNil kOf)).mono ?_;rintro e w1 ⟨g3,a3,n3,c3,rfl,h1,hk1⟩;have d10:=hk1.cellE b1 id c10;have d11:=hk1.cellE b1 id c11)|(go_at_call_of 116 (Value.agg #[.bool g2,.slice a2 n2 c2]);refine (norm_any (HX.o.keep ((aA.trans (M:=Nil) kOf hk1).trans kOf)) (HB0.o.keepNil ((aA.trans (M:=Nil) kOf hk1).trans kOf))).mono ?_;rintro e w2 ⟨g4,a4,n4,c4,rfl,h2,hk2⟩;have hk:=(aA.trans (M:=Nil) (a:=w0) kOf hk1).trans (aA.trans (M:=Nil) (a:=w1) kOf hk2);have q0:=H0.o.2.1.keep hk id;have q1:=H0.o.2.2.1.keep hk id;have q2:=H0.o.2.2.2.1.keep hk id;have q3:=H0.o.r4.keep hk id;have h1':=h1.keepNil (aA.trans (M:=Nil) (a:=w1) kOf hk2);have HT:=jJ (aI7 h1' h2 q0 q1 q2 q3 hk);obtain ⟨d00,d01,e00,e01⟩:=q0.two;obtain ⟨d10',d11',e10,e11⟩:=q1.two;clear h1 h2 hk hk1 hk2 h1' q0 q1 q2 q3))
    all_goals
      go_wp2_with fail
      go_meet
      have s1:=aA.pairBox (b:=w.heap.size) (k:=4) w2 (g:=w.heap.size) (by omega) (.bool g3) (.slice a3 n3 c3);have s2:=aA.pairBox (b:=w.heap.size) (k:=4) ((w2.setCell ⟨w.heap.size,0,none⟩ (.bool g3)).setCell ⟨w.heap.size,1,none⟩ (.slice a3 n3 c3)) (g:=w.heap.size+1) (by omega) (.bool g4) (.slice a4 n4 c4);exact⟨(((H0.o.1.trans HT.o.r6).boxed (bZ2 _) s1).boxed (bZ2 _) s2),⟨_,_,_,_,(HT.o.2.2.1.pair).pairOther ne01,(HT.o.1.step s1).step s2⟩,⟨_,_,_,_,(HT.o.2.2.2.1.pairOther ne10).pair,(HT.o.2.1.step s1).step s2⟩,⟨_,_,_,_,(HT.o.r4.1.pairOther (by omega)).pairOther (by omega),ZN.zero⟩,⟨_,_,_,_,(HT.o.r5.1.pairOther (by omega)).pairOther (by omega),ZN.zero⟩⟩
  case rest=>
    have HF:=jJ hcut;obtain ⟨hk,⟨g3,a3,n3,c3,q0,z0⟩,⟨g4,a4,n4,c4,q1,z1⟩,⟨g5,a5,n5,c5,q2,z5⟩,⟨g6,a6,n6,c6,q3,z6⟩⟩:=hcut;obtain rfl:=z0.1;obtain rfl:=z1.1;obtain ⟨x00,x01,y00,y01⟩:=q0.two;obtain ⟨x10,x11,y10,y11⟩:=q1.two;have HX1:=jJ (HM.o.box (b:=w.heap.size) (k:=4) hk (by have:=q3.lt;omega));have HZ:=jJ (aI z0 z1);have HQ:=jJ (aI4 q0 q1 q2 q3);clear HX HA0 HB0 H0 c00 c01 f00 f01 c10 c11 f10 f11 b0 b1 b3 hk q0 q1 q2 q3 z0 z1 z5 z6;go_wp2_with (go_at_call 123;refine (HD.o HX1.o HZ.o.1.2.toNil HZ.o.2.2.toNil (fit_ofN HZ.o.1 HN.o.1) (fit_ofN HZ.o.2 HN.o.2) (cL _)).mono ?_;rintro e w3 ⟨a7,c7,a8,c8,rfl,h7,h8,hk3⟩;rw [cL,cL] at *;have q0:=HQ.o.1.keep hk3 id;have q1:=HQ.o.2.1.keep hk3 id;have q2:=HQ.o.2.2.1.keep hk3 id;have q3:=HQ.o.2.2.2.keep hk3 id;have b0:=q0.lt;have b1:=q1.lt;have HF3:=jJ (HF.o.keep hk3);have HX3:=jJ (HX1.o.keep hk3);have HZ3:=jJ (aI (HZ.o.1.keepNil hk3) (HZ.o.2.keepNil hk3));have H78:=jJ (aI h7 h8);obtain ⟨p00,p01,_,_⟩:=q0.two;obtain ⟨p10,p11,_,_⟩:=q1.two;obtain ⟨p20,p21,o20,o21⟩:=q2.two;obtain ⟨p30,p31,o30,o31⟩:=q3.two;have HQ3:=jJ (aI q2 q3);clear HF h7 h8 HQ HX1 HZ hk3 q0 q1 q2 q3 x00 x01 x10 x11 y00 y01 y10 y11)
    go_cut [] (fun wx=>Four M w z z2 (quo0 z z2) (rem0 z z2) wx)
    case' first=>
      go_region_held3 (fun w'=>w'.cell? ⟨w.heap.size,0,none⟩=some (.bool (neg z))∧w'.cell? ⟨w.heap.size+1,0,none⟩=some (.bool (neg z2))) (go_keep) (first|(go_at_call_of 117 (Value.slice a7 (nlen (z.natAbs / z2.natAbs)) c7);refine (made_any (HX3.o.keep (M':=Nil) kOf) ((zat_of _ H78.o.1.toNil (by have:=nlen_mono (Nat.div_le_self z.natAbs z2.natAbs);have:=HN.o.1;omega)).keepNil kOf)).mono ?_;rintro e w4 ⟨g5',a5',n5',c5',rfl,h5,hk4⟩;have d0:=hk4.cellE b0 id p00;have d1:=hk4.cellE b1 id p10;have H5:=jJ h5;clear h5)|(go_at_call_of 117 (Value.slice a8 (nlen (z.natAbs % z2.natAbs)) c8);refine (made_any (HX3.o.keep (aA.trans (M:=Nil) (a:=w3) kOf (hk4.trans kOf))) ((zat_of _ H78.o.2.toNil (by have:=nlen_mono (Nat.mod_le z.natAbs z2.natAbs);have:=HN.o.1;omega)).keepNil (aA.trans (M:=Nil) (a:=w3) kOf (hk4.trans kOf)))).mono ?_;rintro e w5 ⟨g6',a6',n6',c6',rfl,h6,hk5⟩;have hk:=(aA.trans (M:=Nil) (a:=w3) kOf hk4).trans (aA.trans (M:=Nil) (a:=w4) kOf hk5);have d2:=hk.cellE b0 id p00;have d3:=hk.cellE b1 id p10;have q2:=HQ3.o.1.keep hk id;have q3:=HQ3.o.2.keep hk id;obtain ⟨_,_,o20',o21'⟩:=q2.two;obtain ⟨_,_,o30',o31'⟩:=q3.two;have H6:=jJ (aI3 (H5.o.keepNil (aA.trans (M:=Nil) (a:=w4) kOf hk5)) h6 hk);clear h6 q2 q3))
      all_goals
        go_wp2_with fail
        go_meet
        exact (HF3.o.keep hk).last (q':=quo0 z z2) (r':=rem0 z z2) H6.o.1 H6.o.2.1
    have HF5:=jJ hcut;clear hcut;rename World=>wd;obtain ⟨hkd,⟨g0',a0',n0',c0',q0,z0⟩,⟨g1',a1',n1',c1',q1,z1⟩,⟨g2',a2',n2',c2',q2,z2'⟩,⟨g7,a7',n7,c7',q3,z3⟩⟩:=HF5.o;obtain rfl:=z0.1;obtain rfl:=z1.1;obtain rfl:=z2'.1;obtain rfl:=z3.1;have hlen:=z3.len;obtain ⟨u00,u01,_,_⟩:=q0.two;obtain ⟨u10,u11,_,_⟩:=q1.two;obtain ⟨u20,u21,v20,v21⟩:=q2.two;obtain ⟨u30,u31,v30,v31⟩:=q3.two;have b2:=q2.lt;have b3:=q3.lt;have b1':=q1.lt;have HXd:=jJ (HM.o.box (b:=w.heap.size) (k:=4) hkd (by omega));have HZd:=jJ (aI3 z1 z2' z3);have HQd:=jJ (aI4 q0 q1 q2 q3);have HL:=jJ hlen;clear HF3 HX3 HZ3 H78 HQ3 p00 p01 p10 p11 p20 p21 p30 p31 b0 b1 o20 o21 o30 o31 hkd q0 q1 q2 q3 z0 z1 z2' z3 hlen;have hpos:0<n7↔rem0 z z2≠0:=by
      rw [HL.o];constructor
      · intro h e
        rw [e] at h;simp [nlen,bH] at h
      · intro h
        rcases Nat.eq_zero_or_pos (nlen (rem0 z z2).natAbs) with h'|h'
        · have:=lt_pow_nlen (rem0 z z2).natAbs
          rw [h'] at this;simp at this;exact absurd this h
        · exact h'
    have HP:=jJ hpos;clear hpos;go_upto_region 6 with (fail)
    go_cut [48] (fun s wx=>s=.bool (decide (rem0 z z2≠0∧¬neg (rem0 z z2)=neg z2))∧wx=wd)
    case' first=>
      by_cases h0:rem0 z z2=0
      · have hn:n7=0:=by have:=HP.o;omega
        have HE:=jJ (show decide (rem0 z z2≠0∧¬neg (rem0 z z2)=neg z2)=false by simp [h0]);have hn':¬0<n7:=by omega
        clear h0 hn;go_wp2_with fail
        go_meet
        exact⟨by rw [HE.o],rfl⟩
      · have hn':0<n7:=HP.o.2 h0
        have HE:=jJ (show decide (rem0 z z2≠0∧¬neg (rem0 z z2)=neg z2)=(neg (rem0 z z2) != neg z2) by generalize neg (rem0 z z2)=p at *;generalize neg z2=q at *;cases p<;>cases q<;>simp [h0]);clear h0;go_wp2_with fail
        go_meet
        exact⟨by rw [HE.o];rfl,rfl⟩
    obtain ⟨rfl,rfl⟩:=hcut;go_upto_if 48 with (fail)
    go_cut [] (fun wx=>Four M w z z2 (z.fdiv z2) (z.fmod z2) wx)
    case' first=>
     by_cases hc:rem0 z z2≠0∧¬neg (rem0 z z2)=neg z2
     · have hf:=floor_turn H00.o hc.1 hc.2
       rw [decide_eq_true hc];have HC:=jJ hf;clear hc hf;have HY:=jJ (aI4 (HXd.o) (HZd.o.1.zat HN.o.2) (HZd.o.2.1.zat (by have:=nlen_quo0 z z2;have:=HN.o.1;omega)) (HZd.o.2.2.zat (by have:=nlen_rem0 z z2;have:=HN.o.1;omega)));have HFit:=jJ (aI3 (fit_ofN HZd.o.1 HN.o.2) (fit_ofN HZd.o.2.1 (by have:=nlen_quo0 z z2;have:=HN.o.1;omega)) (fit_ofN HZd.o.2.2 (by have:=nlen_rem0 z z2;have:=HN.o.1;omega)));go_wp2_with fail
       refine wp_region_till (aA Nil wc) [6,7] (by kernel_rfl) ?_;have hS:aA Nil wc (World.drew wc):=kOf;refine wpTill_take (i:=0) (v:=?v1) rfl (by kernel_rfl) (fun _ _ _ h=>h) (Or.inl ⟨by rfl,?y1⟩) hS ?r1
       case y1=>(intro w' hSw;obtain ⟨hrc,hrf⟩:=hSw.rules;clear hSw; go_simp;(try with_reducible rfl))
       try simp only [Act.put,sL]
       refine wpTill_take (i:=3) (v:=?v2) rfl (by kernel_rfl) (fun _ _ _ h=>h) (Or.inl ⟨by rfl,?y2⟩) hS ?r2
       case y2=>(intro w' hSw;obtain ⟨hrc,hrf⟩:=hSw.rules;clear hSw; go_simp;(try with_reducible rfl))
       try simp only [Act.put,sL]
       refine wpTill_take (i:=4) (v:=?v3) rfl (by kernel_rfl) (fun _ _ _ h=>h) (Or.inl ⟨by rfl,?y3⟩) hS ?r3
       case y3=>(intro w' hSw;obtain ⟨hrc,hrf⟩:=hSw.rules;clear hSw; go_simp;(try with_reducible rfl))
       try simp only [Act.put,sL]
       refine aK 1 fun K hK=>?_;go_simp
       refine (zof_any (M:=Box M w.heap.size 4) (z:=1) (HY.o.1.keep hS) (by omega) (by omega)).mono ?_;rintro e w1 ⟨g8,a8',n8,c8',rfl,h8,hk⟩;refine hK.out _ _ (fun h=>h.trans hk) ?_;clear hK K;try simp only [Act.put,sL]
       replace hS:=hS.trans hk;have H8:=jJ h8;clear hk h8;refine aK 2 fun K hK=>?_;go_simp
       refine (zsub_any (HY.o.1.keep hS) (HY.o.2.2.1.keepNil hS) (H8.o.zat fit_one) HFit.o.2.1 (fit_ofN H8.o fit_one)).mono ?_;rintro e w1 ⟨g9,a9,n9,c9,rfl,h9,hk⟩;refine hK.out _ _ (fun h=>h.trans hk) ?_;clear hK K;try simp only [Act.put,sL]
       replace hS:=hS.trans hk;have H9:=jJ h9;clear hk h9;refine aK 5 fun K hK=>?_;go_simp
       refine (zadd_any (HY.o.1.keep hS) (HY.o.2.2.2.keepNil hS) (HY.o.2.1.keepNil hS) HFit.o.2.2 HFit.o.1).mono ?_;rintro e w1 ⟨g10,a10,n10,c10,rfl,h10,hk⟩;refine hK.out _ _ (fun h=>h.trans hk) ?_;clear hK K;try simp only [Act.put,sL]
       replace hS:=hS.trans hk;have H10:=jJ (aI h10 (H9.o.keepNil hk));have q2:=HQd.o.2.2.1.keep hS id;have q3:=HQd.o.2.2.2.keep hS id;obtain ⟨_,_,o20,o21⟩:=q2.two;obtain ⟨_,_,o30,o31⟩:=q3.two;have HS:=jJ hS;clear hk h10 q2 q3 hS;have HL4:=jJ (HC.o.1 ▸ HC.o.2 ▸ (HF5.o.keep HS.o).last (q':=quo0 z z2-1) (r':=rem0 z z2+z2) H10.o.2 H10.o.1);refine cE (rs:=[6]) (by kernel_rfl) (by simp) ?_;refine bD.consT rfl (by decide) (fun K hK=>?_) bD.nil;go_simp
       refine hK.out _ _ ?_;clear hK K;try simp only [Act.put,sL]
       refine cE (rs:=[7]) (by kernel_rfl) (by simp) ?_;refine bD.consT rfl (by decide) (fun K hK=>?_) bD.nil;go_simp
       refine hK.out _ _ ?_;clear hK K;try simp only [Act.put,sL]
       refine aQ (by kernel_rfl) ?_ _;go_wp2_with fail
       go_meet
       exact HL4.o
     · have hf:=floor_keep (z:=z) H00.o (by by_cases h:rem0 z z2=0;exact .inl h;exact .inr (by by_cases h2:neg (rem0 z z2)=neg z2;exact h2;exact absurd ⟨h,h2⟩ hc))
       rw [decide_eq_false hc];have HC:=jJ hf;clear hf hc;have HL4:=jJ (HC.o.1 ▸ HC.o.2 ▸ HF5.o);go_wp2_with fail
       go_meet
       exact HL4.o
    obtain ⟨hk,⟨_,_,_,_,_,_⟩,⟨_,_,_,_,_,_⟩,⟨g8,a8',n8,c8',q2,z8⟩,⟨g9,a9',n9,c9',q3,z9⟩⟩:=hcut;obtain ⟨x20,x21,y20,y21⟩:=q2.two;obtain ⟨x30,x31,y30,y31⟩:=q3.two;have d2:=q2.lt;have d3:=q3.lt;have HE:=jJ (aI3 hk z8 z9);have HQ:=jJ (aI q2 q3);clear hk z8 z9 HQd HZd HXd HF5 HP HL b2 b3 b1' v20 v21 v30 v31;go_wp2_with fail
    obtain ⟨k1,k2,_,_⟩:=(q2.pair (u':=.bool g8) (v':=.slice a8' n8 c8')).two;obtain ⟨k3,k4,_,_⟩:=((q2.pair (u':=.bool g8) (v':=.slice a8' n8 c8')).pairOther (u:=.bool g9) (v:=.slice a9' n9 c9') ne23).two;obtain ⟨k5,k6,_,_⟩:=((q3.pairOther (u:=.bool g8) (v:=.slice a8' n8 c8') ne32).pair (u':=.bool g9) (v':=.slice a9' n9 c9')).two;go_region_held3 (fun w'=>w'.cell? ⟨w.heap.size+1+1,0,none⟩=some (.bool g8)∧w'.cell? ⟨w.heap.size+1+1,1,none⟩=some (.slice a8' n8 c8')∧w'.cell? ⟨w.heap.size+1+1+1,0,none⟩=some (.bool g9)∧w'.cell? ⟨w.heap.size+1+1+1,1,none⟩=some (.slice a9' n9 c9')) (go_keep) (fail)
    all_goals
      go_wp2_with fail
      refine bodyPost_ret (v:=.tuple #[.agg #[.bool g8,.slice a8' n8 c8'],.agg #[.bool g9,.slice a9' n9 c9'],.int .i64 0]) ?_ rfl ?_
      · simp [results,results74,go_sem,x20,x21,x30,x31,y20,y21,y30,y31]
      · exact⟨_,_,_,_,_,_,_,_,rfl,(HE.o.2.1.step (by repeat (first|exact aA.refl _ _|refine aA.drew ?_|refine aA.setCell ?_ (.inl (.inr (by constructor<;>(simp only []<;>omega)))) _))).unbox,(HE.o.2.2.step (by repeat (first|exact aA.refl _ _|refine aA.drew ?_|refine aA.setCell ?_ (.inl (.inr (by constructor<;>(simp only []<;>omega)))) _))).unbox,HE.o.1.boxed (b:=w.heap.size) (k:=4) (bZ2 _) (by repeat (first|exact aA.refl _ _|refine aA.drew ?_|refine aA.setCell ?_ (.inl (.inr (by constructor<;>(simp only []<;>omega)))) _))⟩
end
end Go.Proofs.Q
