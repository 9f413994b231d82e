/- What the law SimpMeans does: it answers true. -/
import Derived.Test.YtgeklmkfjkenlaaGreatDoorNPickB
import Derived.Test.YtgeklmkfjkenlaaGreatDoorNMeansB
set_option linter.unusedSimpArgs false
set_option linter.unusedVariables false
set_option maxRecDepth 100000
set_option maxHeartbeats 8000000
namespace Go.Proofs.Q
open Go.RowKit Tryz
section
variable {r1 r2:(Int × Int) × aF × (Int × Int)} {vals:aM} {V l P:List Int} {sp ov x:Int} {M:Nat→Prop} {w:World} {a:Option Addr} {b al:Bool} {i n c:Nat} {T:TurnF}
theorem aZ.truthOk {nodes limbs:Int} {A:aF} (h:aZ V nodes limbs A sp) (hl:limbs≤8) (hV:V.length≤262144) (hi:i<A.nodes.length):TruthOk (A.nodes.getD i aV):=by
 have hs:=h.small hl hV (x:=(i:Int)) (by omega) (by omega);have hk:=h.kinds (x:=(i:Int)) (by omega) (by omega);have hf:=h.formA (x:=(i:Int)) (by omega);have e:ndA A (i:Int)=A.nodes.getD i aV:=rfl;rw [e] at hs hk hf;have hw:=hs.1.wee (by decide) (by decide);have hn:=cW hs.2.2;refine ⟨by rw [hn];exact hw,by omega,?_⟩;by_cases h4:(A.nodes.getD i aV).kind≤4
 ·obtain ⟨f1,f2,f3⟩:=hf h4;rw [f1];exact⟨hw,by rw [hn];exact hw,by simp only;omega,f3⟩
 ·rw [normR_bad (by simp only;omega) (by simp only;omega) (by simp only;omega) (by simp only;omega) (by simp only;omega)];exact⟨wee_zero,wee_zero,by simp [nlen0],fun h3=>by simp only at h3;omega⟩
theorem throughM_err0 (hE:∀A sp ov x ks,Err0 (T A sp ov x ks)) {A:aF} {id:Int}:Err0 (cA T A sp ov id):=by
 intro he;unfold cA at he⊢;cases hk:hasK A id
 ·rfl
 ·rw [hk] at he;have he':(cX T (id.toNat+1) ⟨fun _=>none,A,sp,ov⟩ id).1.2≠0:=he;show (cX T (id.toNat+1) ⟨fun _=>none,A,sp,ov⟩ id).1.1=0
  obtain ⟨r,hr⟩:∃r,dI (cX T id.toNat) ⟨fun _=>none,A,sp,ov⟩ [] (ndA A id).kids=r:=⟨_,rfl⟩;by_cases hre:r.1.2=0
  ·obtain ⟨⟨out,e⟩,t⟩:=r;obtain rfl:e=0:=hre;rw [walkM_turn rfl hr] at he'⊢;exact hE _ _ _ _ _ he'
  ·rw [walkM_err rfl hr hre]
theorem bU.wide {M1 M2 M':Nat→Prop} {w':World} {l:aM} (h:bU M1 M2 w a n c l) (k:aA M' w w') (h1:∀b,b<w.heap.size→M' b→M1 b∧M2 b) (h2:∀b,b<w.heap.size→M b→M1 b∧M2 b):bU M M w' a n c l:=SlOf.move h k (fun b hb hm=>(h1 b hb hm).1) (fun b hb hm=>(h2 b hb hm).1) fun _ _ hx=>RPart.moves hx k (fun b hb hm=>(h1 b hb hm).2) fun b hb hm=>(h2 b hb hm).2
def truthV' (vals:aM) (A:aF) (x:Int):Option Bool:=truthN vals A.nodes (x.toNat+1) x
theorem numsAt_here {b off:Nat} (h:bP M w (some ⟨b,off,none⟩) n c l) (hi:i<n):w.cell? ⟨b,off+i,none⟩=some (.int .i64 (l.getD i 0)):=by
 obtain ⟨b',off',e,q⟩:=aW h hi;cases e;exact q
structure Round (vals:aM) (V:List Int) (A:aF) (b:Bool) (r1 r2:(Int × Int) × aF × (Int × Int)):Prop where
 s1:aZ V 2000 8 r1.2.1 r1.2.2.1
 s2:aZ V 2000 8 r2.2.1 r2.2.2.1
 x1:Ext A r1.2.1
 x2:Ext r1.2.1 r2.2.1
 g1:0≤r1.1.1∧r1.1.1<(r1.2.1.nodes.length:Int)
 g2:0≤r2.1.1∧r2.1.1<(r2.2.1.nodes.length:Int)
 t1:r1.1.2=0→truthV' vals r1.2.1 r1.1.1=some (!b)
 t2:r2.1.2=0→truthV' vals r2.2.1 r2.1.1=some b
theorem round_law {A:aF} {k:Int} (h:aZ V 2000 8 A sp) (hV:V.length≤262144) (hk:0≤k∧k<(A.nodes.length:Int)) (ht:Tr vals A k b) (f1:r1=cA (negT 2000 8) A sp ov k) (f2:r2=cA (cY 2000 8) r1.2.1 r1.2.2.1 r1.2.2.2 k):Round vals V A b r1 r2:=by
 have q1:=throughM_ok (negT_ok (V:=V) (nodes:=2000) (limbs:=8) (by decide) (by decide) hV) (A:=A) (sp:=sp) (ov:=ov) (id:=k) h;have n1:=fun he=>throughM_q (neg_q (V:=V) (nodes:=2000) (limbs:=8) vals (by decide) (by decide) hV) (A:=A) (sp:=sp) (ov:=ov) (id:=k) h he;have e1:=throughM_err0 (T:=negT 2000 8) (fun A sp ov x ks=>negT_err0) (A:=A) (sp:=sp) (ov:=ov) (id:=k);rw [←f1] at q1 n1 e1;have q2:=throughM_ok (againT_ok (V:=V) (nodes:=2000) (limbs:=8) (by decide)) (A:=r1.2.1) (sp:=r1.2.2.1) (ov:=r1.2.2.2) (id:=k) q1.1;have n2:=fun he=>throughM_q (again_q (V:=V) (nodes:=2000) (limbs:=8) vals (by decide)) (A:=r1.2.1) (sp:=r1.2.2.1) (ov:=r1.2.2.2) (id:=k) q1.1 he;have e2:=throughM_err0 (T:=cY 2000 8) (fun A sp ov x ks=>againT_err0) (A:=r1.2.1) (sp:=r1.2.2.1) (ov:=r1.2.2.2) (id:=k);rw [←f2] at q2 n2 e2;have s1:aZ V 2000 8 r1.2.1 r1.2.2.1:=q1.1;have s2:aZ V 2000 8 r2.2.1 r2.2.2.1:=q2.1;have l1:=s1.inv.once.two;have l2:=s2.inv.once.two;refine ⟨s1,s2,q1.2.1,q2.2.1,?_,?_,fun he=>(n1 he).2.2 b ((Tr.ext q1.2.1 h.below hk b).2 ht),fun he=>(n2 he).2.2 b ((Tr.ext (q1.2.1.trans q2.2.1) h.below hk b).2 ht)⟩
 ·by_cases he:r1.1.2=0
  ·exact (q1.2.2 he).1
  ·rw [e1 he];omega
 ·by_cases he:r2.1.2=0
  ·exact (q2.2.2 he).1
  ·rw [e2 he];omega
structure Last (vals:aM) (V:List Int) (A:aF) (al one:Bool) (r1 r2:(Int × Int) × aF × (Int × Int)):Prop where
 s1:aZ V 2000 8 r1.2.1 r1.2.2.1
 s2:aZ V 2000 8 r2.2.1 r2.2.2.1
 x1:Ext A r1.2.1
 g1:0≤r1.1.1∧r1.1.1<(r2.2.1.nodes.length:Int)
 g2:0≤r2.1.1∧r2.1.1<(r2.2.1.nodes.length:Int)
 t1:r1.1.2=0→truthV' vals r2.2.1 r1.1.1=some al
 t2:r2.1.2=0→truthV' vals r2.2.1 r2.1.1=some one
theorem last_law {A:aF} {one:Bool} (h:aZ V 2000 8 A sp) (hP:KnL vals A P) (ha:al=true↔AllC vals A 5 P) (ho:one=false↔AllC vals A 6 P) (f1:r1=cK A 2000 8 sp ov 5 P) (f2:r2=cK r1.2.1 2000 8 r1.2.2.1 r1.2.2.2 6 P):Last vals V A al one r1 r2:=by
 have c1:=sjoinM_came (ov:=ov) (kind:=5) (ks:=P) (by decide) h;have y1:=sjoinM_says (ov:=ov) (vals:=vals) (kind:=5) (by decide) h (.inl rfl) hP;have e1:=sjoinM_err0 (A:=A) (nodes:=2000) (limbs:=8) (sp:=sp) (ov:=ov) (kind:=5) (ks:=P);rw [←f1] at c1 y1 e1;have hP1:KnL vals r1.2.1 P:=fun x hx=>⟨⟨(hP x hx).1.1,by have:=(hP x hx).1.2;have:=c1.ext.len;omega⟩,(Kn.ext c1.ext h.below (hP x hx).1).2 (hP x hx).2⟩;have c2:=sjoinM_came (ov:=r1.2.2.2) (kind:=6) (ks:=P) (by decide) c1.ok;have y2:=sjoinM_says (ov:=r1.2.2.2) (vals:=vals) (kind:=6) (by decide) c1.ok (.inr rfl) hP1;have e2:=sjoinM_err0 (A:=r1.2.1) (nodes:=2000) (limbs:=8) (sp:=r1.2.2.1) (ov:=r1.2.2.2) (kind:=6) (ks:=P);rw [←f2] at c2 y2 e2;have l2:=c2.ok.inv.once.two;have hx2:=c2.ext.len;have bool2:∀{x:Int} {F:aF} {c d:Bool},Kn vals F x→(Tr vals F x c↔d=c)→Tr vals F x d:=fun {x F c d} hk hi=>by
  by_cases e:d=c
  ·rw [e];exact hi.2 e
  ·have:d=!c:=bool_not e;rw [this];refine hk.or _ fun q=>?_;rw [Bool.not_not] at q;exact e (hi.1 q)
 refine ⟨c1.ok,c2.ok,c1.ext,?_,?_,fun he=>?_,fun he=>?_⟩
 ·by_cases he:r1.1.2=0
  ·have:=(y1 he).1;omega
  ·rw [e1 he];omega
 ·by_cases he:r2.1.2=0
  ·exact (y2 he).1
  ·rw [e2 he];omega
 ·obtain ⟨q1,q2,q3⟩:=y1 he;exact (Tr.ext c2.ext c1.ok.below q1 _).2 (bool2 q2 (q3.trans ha.symm))
 ·obtain ⟨q1,q2,q3⟩:=y2 he;refine bool2 q2 (q3.trans (Iff.trans ⟨fun q x hx=>?_,fun q x hx=>?_⟩ ho.symm))
  ·exact (Tr.ext c1.ext h.below (hP x hx).1 _).1 (q x hx)
  ·exact (Tr.ext c1.ext h.below (hP x hx).1 _).2 (q x hx)
structure SoFar (vals:aM) (A:aF) (l:List Int) (al one:Bool):Prop where
 kn:KnL vals A l
 al:al=true↔AllC vals A 5 l
 one:one=false↔AllC vals A 6 l
theorem SoFar.nil {A:aF}:SoFar vals A [] true false:=⟨fun _ h=>(by cases h),⟨fun _ _ h=>(by cases h),fun _=>rfl⟩,⟨fun _ _ h=>(by cases h),fun _=>rfl⟩⟩
theorem SoFar.snoc {A:aF} {one:Bool} (h:SoFar vals A l al one) (hx:0≤x∧x<(A.nodes.length:Int)) (ht:Tr vals A x b):SoFar vals A (l++[x]) (al&&b) (one||b):=by
 have key:∀c,Tr vals A x c↔b=c:=fun c=>⟨fun q=>Tr.same ht q,fun q=>q ▸ ht⟩;have hall:∀kind,AllC vals A kind (l++[x])↔AllC vals A kind l∧b=decide (kind=5):=fun kind=>by
  rw [←key];exact⟨fun q=>⟨fun y hy=>q y (jZ1.2 (.inl hy)),q x (by simp)⟩,fun q y hy=>(jZ1.1 hy).elim (q.1 y) fun e=>by rw [dZ1.1 e];exact q.2⟩
 refine ⟨fun y hy=>(jZ1.1 hy).elim (h.kn y) fun e=>by rw [dZ1.1 e];exact⟨hx,ht.kn⟩,?_,?_⟩
 ·rw [hall,←h.al];simp
 ·rw [hall,←h.one];simp
theorem SoFar.ext {vals:aM} {A F:aF} {l:List Int} {al one:Bool} (h:SoFar vals A l al one) (hx:Ext A F) (hB:Below A.nodes):SoFar vals F l al one:=by
 have hall:∀kind,AllC vals F kind l↔AllC vals A kind l:=fun kind=>⟨fun q x hx'=>(Tr.ext hx hB (h.kn x hx').1 _).1 (q x hx'),fun q x hx'=>(Tr.ext hx hB (h.kn x hx').1 _).2 (q x hx')⟩;refine ⟨fun x hx'=>⟨⟨(h.kn x hx').1.1,by have:=(h.kn x hx').1.2;have:=hx.len;omega⟩,(Kn.ext hx hB (h.kn x hx').1).2 (h.kn x hx').2⟩,?_,?_⟩
 ·rw [hall];exact h.al
 ·rw [hall];exact h.one
end
section
variable {r:(Int × Int) × aF × (Int × Int)} {V:List Int} {w:World} {O M:Nat→Prop} {vals:aM} {av:Option Addr} {sp x:Int} {gm g:Nat} {l:List dK}
theorem truth_up {M3 M4:Nat→Prop} {A:aF} {nv cv:Nat} (hA:cD O w g gm A) (hI:aZ V 2000 8 A sp) (hV:V.length≤262144) (hv:bU M3 M4 w av nv cv vals) (hnv:nv≤1000000000) (hx:0≤x∧x<(A.nodes.length:Int)) :
  Calls prog 13 #[.pointer (some ⟨g,0,none⟩),.int .i64 x,.slice av nv cv] w fun e w'=>TruthRet (truthV' vals A x) w e w':=by
 obtain ⟨i,rfl⟩:∃i:Nat,x=(i:Int):=⟨x.toNat,by omega⟩;have hF:=hI.fine (by decide) (by decide) hV;exact ltruth_any hF.len (fun i hi=>(hF.sound i hi).1) (fun i hi=>hI.truthOk (by decide) hV hi) hI.below hnv i w hA hv (by omega)
theorem neg_up {B0:Nat} {w0 w6:World} {A:aF} {nodes limbs ov:Int} (hU:UpM M w0 w6 w O g gm nodes limbs A sp ov) (hT:Tab B0 w) (hB:B0≤w0.heap.size) (hI:aZ V nodes limbs A sp) (hl0:0≤limbs) (hn:nodes≤2000) (hl:limbs≤8) (hV:V.length≤262144) (hV2:∀v∈V,I64 v) (hr:r=cA (negT nodes limbs) A sp ov x) :
  Calls prog 14 #[.pointer (some ⟨g,0,none⟩),.int .i64 x] w fun e w'=>e=.returned (.tuple #[.int .i64 r.1.1,.int .i64 r.1.2])∧∃O':Nat→Prop,UpM M w0 w6 w' O' g gm nodes limbs r.2.1 r.2.2.1 r.2.2.2:=
 (snegate_any (nid:=x) hU.up.arena hT (fun _ h=>h) hU.up.mb hU.up.meter (fun b hb=>bZ1 hB (hU.up.low b hb)) hI hl0 hn hl hV hV2).mono fun e w1 hst=>by
  rw [←hr] at hst;exact hU.step hst
theorem simpMeans_walk {a1 a2 a3:Option Addr} {n1 n2 n3 c1 c2 c3 k1 k2 k3:Nat} {of:List Int} (hT:Tab w.heap.size w) (h1:MakesAt Nil w a1 n1 c1 l∧5*(varsM l).length+l.length≤k1+20) (h2:bP Nil w a2 n2 c2 of∧of.length+1≤k2∧∀k∈of,I64 k) (h3:bU Nil Nil w a3 n3 c3 vals∧5*vals.length+1≤k3∧∀p∈vals,BPart p) (hb:k1+k2+k3≤1048576) :
  Calls prog 3 #[.slice a1 n1 c1,.slice a2 n2 c2,.slice a3 n3 c3] w fun e w'=>e=.returned (.bool true)∧aA Nil w w':=by
 obtain ⟨V,hV⟩:∃V,V=varsM l:=⟨_,rfl⟩;have hVl:V.length≤262144:=by rw [hV];omega
 have hnv:n3≤1000000000:=by have:=SlOf.len h3.1;omega
 have sm1:=h1.1.small (V:=V) (fun v hv=>by rw [hV];exact hv) (by omega);have hX1:∀m∈l.take 40,SmallX V m.x:=fun m hm=>sm1.1 m (bZ3 hm);obtain ⟨s1,e1⟩:∃s,s=buildM 2000 8 ⟨startA,0,0,[0,1]⟩ (l.take 40):=⟨_,rfl⟩;have i0:InvA V 2000 startA 0:=InvA.start (by decide) (by decide);have j1:=(InvS.start (ov:=0) i0).build (limbs:=8) hX1;have hall1:=buildM_all (V:=V) (nodes:=2000) (limbs:=8) (by decide) (s:=⟨startA,0,0,[0,1]⟩) AllN.start hX1;have hext:=buildM_ext (nodes:=2000) (limbs:=8) (s:=⟨startA,0,0,[0,1]⟩) (l:=l.take 40);have hfive:=buildM_five (nodes:=2000) (limbs:=8) (l:=l.take 40) (s:=⟨startA,0,0,[0,1]⟩) AllN.start;rw [←e1] at j1 hall1 hext hfive;have hS:aZ V 2000 8 s1.A s1.sp:=⟨j1.inv,hall1,hext⟩;have hlen42:s1.A.nodes.length≤42:=by have h4:=hfive.2;have h5:(l.take 40).length≤40:=(by rw [iZ1];omega);have h6:startA.nodes.length=2:=rfl;simp only at h4;omega
 have hids2:=j1.two;have hidsl:s1.ids.length≤42:=by have h4:=j1.len;have h5:(l.take 40).length≤40:=(by rw [iZ1];omega);omega
 obtain ⟨P,hP⟩:∃P,P=pickM s1.ids of:=⟨_,rfl⟩;have hPl:P.length≤12:=by rw [hP];exact pickM_len
 have hPr:∀k∈P,0≤k∧k<(s1.A.nodes.length:Int):=fun k hk=>by rw [hP] at hk;exact j1.ids k (pickM_mem (by omega) hk)
 have m1:MakesAt (fun b=>w.heap.size≤b) w a1 n1 c1 l:=h1.1.move (aA.refl Nil w) (fun _ _ h=>h.elim) fun b hb hx=>by omega
 have m3:bU (fun b=>w.heap.size≤b) (fun b=>w.heap.size≤b) w a3 n3 c3 vals:=h3.1.wide (aA.refl Nil w) (fun _ _ h=>h.elim) fun b hb hx=>by omega
 obtain ⟨n,hn⟩:∃n,n=P.length:=⟨_,rfl⟩;rw [←hn] at hPl;have hVi:∀v∈V,I64 v:=fun v hv=>sm1.2 v (by rw [←hV];exact hv);have HV:=jJ (aI7 hVl hVi sm1.1 i0 hS hfive.1 hlen42);have HE:=jJ (aI4 e1 hP hn hPr);have HM:=jJ (aI5 m1 h2.1 h2.2.2 m3 hnv);have HT:=jJ hT;have HD:=jJ (aI hids2 hidsl);clear hVi hV hVl sm1 hX1 e1 i0 j1 hall1 hext hfive hS hlen42 hids2 hidsl hP hPr m1 m3 hn hnv h1 h2 h3 hb hT;go_enter func3,ntmps3
 go_upto_region 2 with (go_at_call 8;go_loud (refine (awake9_any HT.o).mono ?_);rintro e w1 ⟨rfl,hk1⟩;have H1:=jJ hk1;clear hk1)
 go_upto_region 3 with (go_at_call 9;refine (anew_nil (M:=Nil) (MB.nil _)).mono ?_;rintro e w2 ⟨g,b2,b3,b4,b5,gm,hm,hgm,rfl,r0,r2,r3,r4,r5,hk,h1,h2,h3,h4,h5⟩;have H2:=jJ (Up.start hm hgm r0 r2 r3 r4 r5 hk h1 h2 h3 h4 h5);clear hm hgm r0 r2 r3 r4 r5 hk h1 h2 h3 h4 h5)
 obtain ⟨O,hU⟩:=H2.o;have z1:=H1.o.size;have k02:aA Nil w w2:=H1.o.trans hU.keep;have mk2:=HM.o.1.move k02 (M2:=fun b=>w.heap.size≤b) (fun _ _ h=>h.elim) fun _ _ h=>h;have HU:=jJ hU;have HB2:=jJ (aI k02 mk2);clear k02 mk2 hU H2;go_upto_region 4 with (go_at_call 10;go_loud (refine (built9_any (B0:=w.heap.size) (M0:=O) HU.o.arena (HT.o.keepNil HB2.o.1) (fun b hb=>bZ1 z1 (HU.o.low b hb)) (fun _ h=>h) HU.o.mb HU.o.meter HB2.o.2 (fun b hb=>bZ1 z1 (HU.o.low b hb)) HV.o.2.2.2.1 (by decide) HV.o.1 HV.o.2.1 HV.o.2.2.1).mono ?_);rintro e w3 ⟨v3,O3,rfl,h3⟩;rw [←HE.o.1] at h3;obtain ⟨a3',d3,rfl⟩:=h3.own.isSlice;rw [aH] at h3⊢;have H3:=jJ h3;clear h3)
 have z3:=H3.o.keep.size;have u3:Up w1 w3 O3 g gm 2000 8 s1.A s1.sp s1.ov:=⟨H3.o.arena,H3.o.meter.move (aA.refl Nil w3) (fun _ _ h=>h.elim) fun b _ hb=>.inr (.inl hb),fun b hb=>by
  rcases hb with hb|hb
  ·rcases H3.o.down b hb with h|h
   ·exact HU.o.low b (.inl h)
   ·exact bZ1 HU.o.keep.size h
  ·exact HU.o.low b (.inr hb),HU.o.keep.newer H3.o.keep HU.o.low⟩
 have hid3:bP Nil w3 a3' s1.ids.length d3 s1.ids:=nums_own (M:=Nil) H3.o.own (fun _ _ h=>h) rfl;have o3:∀b,O3 b∨b=gm→b<w3.heap.size:=fun b hb=>by
  rcases hb with hb|rfl
  ·exact u3.arena.lt b hb
  ·exact u3.meter.lt
 have HU3:=jJ (aI3 u3 hid3 o3);clear u3 hid3 o3;have of3:bP Nil w3 a2 n2 c2 of:=HM.o.2.1.keepNil (H1.o.trans HU3.o.1.keep);have HO3:=jJ of3;clear of3;go_upto_region 5 with (go_at_call 11;refine (picked9_any HO3.o HU3.o.2.1 HM.o.2.2.1 (by have:=HD.o.1;omega) (by have:=HD.o.2;omega)).mono ?_;rintro e w4 ⟨v4,rfl,ho,hk⟩;rw [←HE.o.2.1] at ho;obtain ⟨a4,d4,rfl⟩:=ho.isSlice;rw [aH,←HE.o.2.2.1] at ho⊢;have H4:=jJ (aI ho hk);clear ho hk)
 have z4:=H4.o.2.size;obtain ⟨M,hM⟩:∃M:Nat→Prop,M=fun b=>w.heap.size≤b∧¬(w3.heap.size≤b∧b<w4.heap.size):=⟨_,rfl⟩;have own4:∀b,(Value.slice a4 n d4).ownBlock=some b→w3.heap.size≤b∧b<w4.heap.size:=fun b hb=>H4.o.1.lt b hb;have n4:bP M w4 a4 n d4 P:=by
  rw [hM];exact nums_own H4.o.1 (fun b hb h=>h.2 (own4 b hb)) HE.o.2.2.1.symm
 have k04:aA Nil w w4:=(H1.o.trans HU3.o.1.keep).trans H4.o.2;have v4:bU M M w4 a3 n3 c3 vals:=HM.o.2.2.2.1.wide k04 (fun _ _ h=>h.elim) fun b hb h=>by rw [hM] at h;omega
 have uM:UpM M w1 w4 w4 O3 g gm 2000 8 s1.A s1.sp s1.ov:=⟨HU3.o.1.on H4.o.2,fun b hb=>by rw [hM];have h5:=HU3.o.2.2 b hb;have h6:=HU3.o.1.low b hb;simp only;omega,fun b hb=>by rw [hM];have h6:=k04.size;simp only;omega,aA.refl _ _⟩;have HN4:=jJ (aI3 n4 v4 uM);have hnv:=HM.o.r4;have hlow:∀b,M b→w.heap.size≤b:=fun b hb=>by rw [hM] at hb;exact hb.1
 have HL:=jJ hlow;clear n4 own4 v4 uM hM k04 hlow;go_wp2_with fail
 go_loopw [11,12,13] (fun av ov iv wr=>∃(j:Nat) (al one:Bool) (A:aF) (sp ovr:Int) (O:Nat→Prop),j≤n∧iv=.int .i64 (j:Int)∧av=.bool al∧ov=.bool one∧UpM M w1 w4 wr O g gm 2000 8 A sp ovr∧aZ V 2000 8 A sp∧Ext s1.A A∧SoFar vals s1.A (P.take j) al one) (fun _ _ iv _=>n-(intOf iv).toNat)
 case atStart=>exact⟨0,true,false,s1.A,s1.sp,s1.ov,O3,aZ2 _,rfl,rfl,rfl,HN4.o.2.2,HV.o.r4.1,Ext.refl _,SoFar.nil⟩
 case round=>
  obtain ⟨j,al,one,A,sp,ovr,Or,hj,rfl,rfl,rfl,hu,hI,hx,hso⟩:=hrel;have kr:=HN4.o.2.2.keep;by_cases hlt:j<n
  ·have nr:bP M wr a4 n d4 P:=HN4.o.1.move hu.keep (fun _ _ h=>h) fun _ _ h=>h;obtain ⟨b,off,rfl,cp⟩:=aW nr hlt;have hjl:j<P.length:=by rw [←HE.o.2.2.1];exact hlt
   have htk:=takeI_snoc (l:=P) hjl;obtain ⟨k,hk⟩:∃k,k=P.getD j 0:=⟨_,rfl⟩;have hkr:=HE.o.2.2.2 k (by rw [hk];exact cH 0 hjl);have hkA:0≤k∧k<(A.nodes.length:Int):=by have:=hx.len;omega
   rw [←hk] at cp htk;have HK:=jJ hk;have j0:(0:Int)≤(j:Int):=by omega
   have j1:(j:Int)<(n:Int):=by omega
   obtain ⟨i,hi⟩:∃i:Nat,k=(i:Int):=⟨k.toNat,by omega⟩;have hF:=hI.fine (by decide) (by decide) HV.o.1;have hli:=light_any hF.len (fun i hi=>(hF.sound i hi).1) hI.below i wr 3000 hu.up.arena (by omega) (by decide) (by decide);rw [←hi] at hli;have vr:bU M M wr a3 n3 c3 vals:=HN4.o.2.1.wide hu.keep (fun _ _ h=>⟨h,h⟩) fun _ _ h=>⟨h,h⟩;have HC:=jJ (aI10 hu hI hx hso htk hkr hkA hli nr vr);clear hu hI hx hso htk hk hkr hkA hi hF hli nr vr hlt hjl kr;go_upto_region 11 with (go_at_call 12;refine HC.o.r7.1.mono ?_;rintro e w5 ⟨⟨r,rfl,q0,q1⟩,hk5⟩;have H5:=jJ (aI3 q0 q1 hk5);clear q0 q1 hk5)
   have hr0:=H5.o.1;by_cases hr1:r≤0
   ·have hrr:r=0:=by omega
    subst hrr;go_wp2_with fail
    go_ret
    exact⟨rfl,H1.o.trans (HC.o.1.on H5.o.2.2).up.keep⟩
   have r1:¬r≤0:=hr1;have t5:=truth_up (HC.o.1.on H5.o.2.2).up.arena HC.o.2.1 HV.o.1 (HC.o.r9.keepNil H5.o.2.2) hnv HC.o.r6.1;obtain ⟨o,ho⟩:∃o,o=truthV' vals A k:=⟨_,rfl⟩;rw [←ho] at t5;have HT5:=jJ (aI t5 ho);have cp5:=numsAt_here (HC.o.r8.1.keepNil H5.o.2.2) (show j<n by omega);rw [←HK.o] at cp5;clear t5 ho hr1 hr0;cases o with
   | none=>
    go_wp2_with (go_at_call 13;refine HT5.o.1.mono ?_;rintro e w6 ⟨rfl,hk6⟩;have H6:=jJ hk6;clear hk6;rw [show (none:Option Bool).getD false=false from rfl,show (none:Option Bool).isSome=false from rfl])
    go_ret
    exact⟨rfl,H1.o.trans ((HC.o.1.on H5.o.2.2).on H6.o).up.keep⟩
   | some bb=>
    go_upto_region 16 with (go_at_call 13;refine HT5.o.1.mono ?_;rintro e w6 ⟨rfl,hk6⟩;have H6:=jJ hk6;clear hk6;rw [show (some bb).getD false=bb from rfl,show (some bb).isSome=true from rfl])
    have U6:=(HC.o.1.on H5.o.2.2).on H6.o;have T6:Tab w.heap.size w6:=HT.o.keepNil (H1.o.trans U6.up.keep);have B0w:w.heap.size≤w1.heap.size:=z1;obtain ⟨q1,f1⟩:∃r,r=cA (negT 2000 8) A sp ovr k:=⟨_,rfl⟩;obtain ⟨q2,f2⟩:∃r,r=cA (cY 2000 8) q1.2.1 q1.2.2.1 q1.2.2.2 k:=⟨_,rfl⟩;have hR:=round_law HC.o.2.1 HV.o.1 HC.o.r6.1 (show Tr vals A k bb from HT5.o.2.symm) f1 f2;have hn6:=neg_up (V:=V) (x:=k) U6 T6 B0w HC.o.2.1 (by decide) (by decide) (by decide) HV.o.1 HV.o.2.1 f1;have cp6:=numsAt_here (HC.o.r8.1.keepNil (H5.o.2.2.trans H6.o)) (show j<n by omega);rw [←HK.o] at cp6;obtain ⟨x1,hx1⟩:∃x,q1.1.1=x:=⟨_,rfl⟩;obtain ⟨e1,he1⟩:∃x,q1.1.2=x:=⟨_,rfl⟩;obtain ⟨x2,hx2⟩:∃x,q2.1.1=x:=⟨_,rfl⟩;obtain ⟨e2,he2⟩:∃x,q2.1.2=x:=⟨_,rfl⟩;have g1:=hR.g1;have g2:=hR.g2;have t1:=hR.t1;have t2:=hR.t2;rw [hx1] at g1 t1;rw [hx2] at g2 t2;rw [he1] at t1;rw [he2] at t2;have HR:=jJ (aI7 hR.s1 hR.s2 (hR.x1.trans hR.x2) g1 g2 t1 t2);have HX:=jJ (aI4 hx1 he1 hx2 he2);have HN6:=jJ (aI hn6 f2);clear hR hn6 f1 f2 hx1 he1 hx2 he2 g1 g2 t1 t2 U6 T6;go_upto_region 17 with (go_at_call 14;go_loud (refine HN6.o.1.mono ?_);rintro e w7 ⟨rfl,O7,hu⟩;rw [HX.o.1,HX.o.2.1];have H7:=jJ hu;clear hu)
    have v7:bU M M w7 a3 n3 c3 vals:=HN4.o.2.1.wide H7.o.keep (fun _ _ h=>⟨h,h⟩) fun _ _ h=>⟨h,h⟩;have t7:=truth_up H7.o.up.arena HR.o.1 HV.o.1 v7 hnv HR.o.2.2.2.1;obtain ⟨o7,ho7⟩:∃o,o=truthV' vals q1.2.1 x1:=⟨_,rfl⟩;rw [←ho7] at t7;obtain ⟨b7,hb7⟩:∃b,o7.getD false=b:=⟨_,rfl⟩;obtain ⟨s7,hs7⟩:∃b,o7.isSome=b:=⟨_,rfl⟩;have HT7:=jJ (aI4 t7 hb7 hs7 ho7);clear t7 v7 ho7 hb7 hs7;go_upto_region 18 with (go_at_call 13;refine HT7.o.1.mono ?_;rintro e w8 ⟨rfl,hk8⟩;rw [HT7.o.2.1,HT7.o.2.2.1];have H8:=jJ (H7.o.on hk8);clear hk8)
    have T8:Tab w.heap.size w8:=HT.o.keepNil (H1.o.trans H8.o.up.keep);have ha8:=again_up (V:=V) (x:=k) H8.o T8 B0w HR.o.1 (by decide) (by decide) (by decide) HV.o.1 HN6.o.2;have cp8:=numsAt_here (HN4.o.1.move H8.o.keep (fun _ _ h=>h) fun _ _ h=>h) (show j<n by omega);have HN8:=jJ (aI ha8 (HC.o.r4.1));rw [←HK.o] at cp8;clear ha8 T8;go_upto_region 19 with (go_at_call 15;go_loud (refine HN8.o.1.mono ?_);rintro e w9 ⟨rfl,O9,hu⟩;rw [HX.o.2.2.1,HX.o.2.2.2];have H9:=jJ hu;clear hu)
    have v9:bU M M w9 a3 n3 c3 vals:=HN4.o.2.1.wide H9.o.keep (fun _ _ h=>⟨h,h⟩) fun _ _ h=>⟨h,h⟩;have t9:=truth_up H9.o.up.arena HR.o.2.1 HV.o.1 v9 hnv HR.o.r4.1;obtain ⟨o9,ho9⟩:∃o,o=truthV' vals q2.2.1 x2:=⟨_,rfl⟩;rw [←ho9] at t9;obtain ⟨b9,hb9⟩:∃b,o9.getD false=b:=⟨_,rfl⟩;obtain ⟨s9,hs9⟩:∃b,o9.isSome=b:=⟨_,rfl⟩;have HT9:=jJ (aI4 t9 hb9 hs9 ho9);clear t9 v9 ho9 hb9 hs9;go_upto_region 20 with (go_at_call 13;refine HT9.o.1.mono ?_;rintro e wA ⟨rfl,hkA⟩;rw [HT9.o.2.1,HT9.o.2.2.1];have HA:=jJ (H9.o.on hkA);clear hkA)
    by_cases h1:¬e1=0
    ·have ee:(e1 != 0)=true:=by simp [h1]
     go_wp2_with fail
     go_ret
     exact⟨rfl,H1.o.trans HA.o.up.keep⟩
    obtain rfl:=Decidable.not_not.1 h1;by_cases h2:¬e2=0
    ·have ee:(e2 != 0)=true:=by simp [h2]
     have ee0:((0:Int) != 0)=false:=rfl;go_wp2_with fail
     go_ret
     exact⟨rfl,H1.o.trans HA.o.up.keep⟩
    obtain rfl:=Decidable.not_not.1 h2;have l7:=HR.o.r5.1 rfl;have l9:=HR.o.r6 rfl;have y7:=HT7.o.2.2.2.trans l7;have y9:=HT9.o.2.2.2.trans l9;have yb7:=HT7.o.2.1;have ys7:=HT7.o.2.2.1;have yb9:=HT9.o.2.1;have ys9:=HT9.o.2.2.1;rw [y7] at yb7 ys7;rw [y9] at yb9 ys9;simp only [Option.getD_some,Option.isSome_some] at yb7 ys7 yb9 ys9;subst yb7 ys7 yb9 ys9;clear l7 l9 y7 y9;have ee0:((0:Int) != 0)=false:=rfl;have d1:((!bb)==bb)=false:=by cases bb<;>rfl
    have d2:(bb != bb)=false:=by cases bb<;>rfl
    have hsn:=HC.o.2.2.2.1.snoc HC.o.r5.1 ((Tr.ext HC.o.2.2.1 HV.o.r4.1.below HC.o.r5.1 bb).1 (show Tr vals A k bb from HT5.o.2.symm));rw [←HC.o.r4.1] at hsn;have HSN:=jJ hsn;clear hsn cp5 cp6 cp8;cases al<;>cases one
    ·go_wp2_with fail
     go_roundw
     case rel=>exact⟨j+1,_,_,_,_,_,_,by omega,by go_num,rfl,rfl,HA.o,HR.o.2.1,HC.o.2.2.1.trans HR.o.2.2.1,HSN.o⟩
     case measure=>simp [intOf];omega
    ·go_wp2_with fail
     go_roundw
     case rel=>exact⟨j+1,_,_,_,_,_,_,by omega,by go_num,rfl,rfl,HA.o,HR.o.2.1,HC.o.2.2.1.trans HR.o.2.2.1,HSN.o⟩
     case measure=>simp [intOf];omega
    ·go_wp2_with fail
     go_roundw
     case rel=>exact⟨j+1,_,_,_,_,_,_,by omega,by go_num,rfl,rfl,HA.o,HR.o.2.1,HC.o.2.2.1.trans HR.o.2.2.1,HSN.o⟩
     case measure=>simp [intOf];omega
    ·go_wp2_with fail
     go_roundw
     case rel=>exact⟨j+1,_,_,_,_,_,_,by omega,by go_num,rfl,rfl,HA.o,HR.o.2.1,HC.o.2.2.1.trans HR.o.2.2.1,HSN.o⟩
     case measure=>simp [intOf];omega
  ·have hjn:j=n:=by omega
   subst hjn;have e0:decide ((j:Int)<(j:Int))=false:=by simp
   have hP:P.take j=P:=by rw [HE.o.2.2.1,List.take_length]
   rw [hP] at hso;have hS:=HV.o.r4.1;have hsA:=hso.ext hx hS.below;obtain ⟨q1,f1⟩:∃r,r=cK A 2000 8 sp ovr 5 P:=⟨_,rfl⟩;obtain ⟨q2,f2⟩:∃r,r=cK q1.2.1 2000 8 q1.2.2.1 q1.2.2.2 6 P:=⟨_,rfl⟩;have hL:=last_law hI hsA.kn hsA.al hsA.one f1 f2;have pr:∀F:aF,Ext s1.A F→∀k∈P,0≤k∧k<(F.nodes.length:Int):=fun F hF k hk=>by have:=HE.o.2.2.2 k hk;have:=hF.len;omega
   have bp:∀(kind:Int) (F:aF),Below F.nodes→Ext s1.A F→(flatL F.nodes kind P).length≤17592186044000:=fun kind F hB hF=>by
    rw [flatL_ext hB hF HE.o.2.2.2];exact flatL_big hS HV.o.r5.1 HV.o.r6 HE.o.2.2.2 (by rw [←HE.o.2.2.1];omega)
   have Tr':Tab w.heap.size wr:=HT.o.keepNil (H1.o.trans hu.up.keep);have nr:bP M wr a4 j d4 P:=HN4.o.1.move hu.keep (fun _ _ h=>h) fun _ _ h=>h;have c1:=and_up (V:=V) hu Tr' nr hI (by decide) (by decide) HV.o.1 (pr _ hx) (bp _ _ hI.below hx) f1;have hb1:=bp 6 _ hL.s1.below (hx.trans hL.x1);have hp1:=pr _ (hx.trans hL.x1);obtain ⟨x1,hx1⟩:∃x,q1.1.1=x:=⟨_,rfl⟩;obtain ⟨e1,he1⟩:∃x,q1.1.2=x:=⟨_,rfl⟩;obtain ⟨x2,hx2⟩:∃x,q2.1.1=x:=⟨_,rfl⟩;obtain ⟨e2,he2⟩:∃x,q2.1.2=x:=⟨_,rfl⟩;have g1:=hL.g1;have g2:=hL.g2;have t1:=hL.t1;have t2:=hL.t2;rw [hx1] at g1 t1;rw [hx2] at g2 t2;rw [he1] at t1;rw [he2] at t2;have HR:=jJ (aI6 hL.s1 hL.s2 g1 g2 t1 t2);have HX:=jJ (aI4 hx1 he1 hx2 he2);have HC:=jJ (aI4 c1 f2 hb1 hp1);clear hlt hP hso hS hsA hL pr bp Tr' nr c1 f1 f2 hb1 hp1 hx1 he1 hx2 he2 g1 g2 t1 t2 hu hI hx kr;go_upto_region 25 with (go_at_call 16;refine HC.o.1.mono ?_;rintro e w5 ⟨rfl,O5,hu⟩;rw [HX.o.1,HX.o.2.1];have H5:=jJ hu;clear hu)
   have T5:Tab w.heap.size w5:=HT.o.keepNil (H1.o.trans H5.o.up.keep);have n5:bP M w5 a4 j d4 P:=HN4.o.1.move H5.o.keep (fun _ _ h=>h) fun _ _ h=>h;have c5:=or_up (V:=V) H5.o T5 n5 HR.o.1 (by decide) (by decide) HV.o.1 HC.o.2.2.2 HC.o.2.2.1 HC.o.2.1;have HC5:=jJ c5;clear T5 n5 c5;go_upto_region 26 with (go_at_call 17;refine HC5.o.mono ?_;rintro e w6 ⟨rfl,O6,hu⟩;rw [HX.o.2.2.1,HX.o.2.2.2];have H6:=jJ hu;clear hu)
   have v6:bU M M w6 a3 n3 c3 vals:=HN4.o.2.1.wide H6.o.keep (fun _ _ h=>⟨h,h⟩) fun _ _ h=>⟨h,h⟩;have t6:=truth_up H6.o.up.arena HR.o.2.1 HV.o.1 v6 hnv HR.o.2.2.1;obtain ⟨o7,ho7⟩:∃o,o=truthV' vals q2.2.1 x1:=⟨_,rfl⟩;rw [←ho7] at t6;obtain ⟨b7,hb7⟩:∃b,o7.getD false=b:=⟨_,rfl⟩;obtain ⟨s7,hs7⟩:∃b,o7.isSome=b:=⟨_,rfl⟩;have HT7:=jJ (aI4 t6 hb7 hs7 ho7);clear t6 v6 ho7 hb7 hs7;go_upto_region 27 with (go_at_call 13;refine HT7.o.1.mono ?_;rintro e w8 ⟨rfl,hk8⟩;rw [HT7.o.2.1,HT7.o.2.2.1];have H8:=jJ (H6.o.on hk8);clear hk8)
   have v8:bU M M w8 a3 n3 c3 vals:=HN4.o.2.1.wide H8.o.keep (fun _ _ h=>⟨h,h⟩) fun _ _ h=>⟨h,h⟩;have t8:=truth_up H8.o.up.arena HR.o.2.1 HV.o.1 v8 hnv HR.o.2.2.2.1;obtain ⟨o9,ho9⟩:∃o,o=truthV' vals q2.2.1 x2:=⟨_,rfl⟩;rw [←ho9] at t8;obtain ⟨b9,hb9⟩:∃b,o9.getD false=b:=⟨_,rfl⟩;obtain ⟨s9,hs9⟩:∃b,o9.isSome=b:=⟨_,rfl⟩;have HT9:=jJ (aI4 t8 hb9 hs9 ho9);clear t8 v8 ho9 hb9 hs9;go_upto_region 28 with (go_at_call 13;refine HT9.o.1.mono ?_;rintro e wA ⟨rfl,hkA⟩;rw [HT9.o.2.1,HT9.o.2.2.1];have HA:=jJ (H8.o.on hkA);clear hkA)
   have u7:e1=0→b7=al∧s7=true:=fun h=>by
    have y:=HT7.o.2.2.2.trans (HR.o.r4.1 h);have yb:=HT7.o.2.1;have ys:=HT7.o.2.2.1;rw [y] at yb ys;exact⟨yb.symm,ys.symm⟩
   have u9:e2=0→b9=one∧s9=true:=fun h=>by
    have y:=HT9.o.2.2.2.trans (HR.o.r5 h);have yb:=HT9.o.2.1;have ys:=HT9.o.2.2.1;rw [y] at yb ys;exact⟨yb.symm,ys.symm⟩
   have HU:=jJ (aI u7 u9);clear u7 u9;have k1:(al==al)=true:=by simp
   have k2:(one==one)=true:=by simp
   have ee0:((0:Int) != 0)=false:=rfl;by_cases h1:¬e1=0
   ·have ee:(e1 != 0)=true:=by simp [h1]
    by_cases h2:¬e2=0
    ·have ee2:(e2 != 0)=true:=by simp [h2]
     go_wp2_with fail
     go_ret
     exact⟨rfl,H1.o.trans HA.o.up.keep⟩
    ·obtain rfl:=Decidable.not_not.1 h2;obtain ⟨rfl,rfl⟩:=HU.o.2 rfl;go_wp2_with fail
     go_ret
     exact⟨rfl,H1.o.trans HA.o.up.keep⟩
   ·obtain rfl:=Decidable.not_not.1 h1;obtain ⟨rfl,rfl⟩:=HU.o.1 rfl;by_cases h2:¬e2=0
    ·have ee2:(e2 != 0)=true:=by simp [h2]
     go_wp2_with fail
     go_ret
     exact⟨rfl,H1.o.trans HA.o.up.keep⟩
    ·obtain rfl:=Decidable.not_not.1 h2;obtain ⟨rfl,rfl⟩:=HU.o.2 rfl;go_wp2_with fail
     go_ret
     exact⟨rfl,H1.o.trans HA.o.up.keep⟩
end
end Go.Proofs.Q
